-- Written by a program of this session (wip/tools/mkprint.py over the kit's print).
import Derived.Test.YtekenaclmplocaaPPageParsesx0
import Derived.Test.YtekenaclmplocaaPPageParsesx14
namespace Go.Proofs.Ytekenaclmplocaa.PPageParses
open Go.RowKit Go.Proofs.YtekenaclmplocaaW.PrintWords Go.Proofs.YtekenaclmplocaaW.PrintLast Go.Proofs.YtekenaclmplocaaW.PrintMore
attribute [local go_sem] max2_int min2_int max_two min_two max_three min_three max_four min_four
set_option linter.unusedVariables false
set_option maxHeartbeats 8000000
set_option maxRecDepth 100000
set_option linter.unusedSimpArgs false

def F16.f (k : Nat) (l0 : List (S75)) : Option ((List (S47))) := if 0 < (l0.length : Int) then ((F43.f k ((rd_T75 l0 0).f1) ((rd_T75 l0 0).f0.f2) ((rd_T75 l0 0).f0.f0)).bind fun t458 => (some t458)) else (none)
theorem F16.mono : ∀ a0 k, LeO (F16.f k a0) (F16.f (k + 1) a0) := by
 intro a0 k; unfold F16.f
 repeat' with_reducible first | exact F43.mono _ _ _ _ | exact LeO.refl _ | exact LeO.none _ | refine LeO.ite ?_ ?_ | refine LeO.bind ?_ (fun _ => ?_)
def F16.T1 : Bool × List (List Nat × List Nat) := (true, [([], []), ([0], [0]), ([1], [1]), ([2], [2]), ([], []), ([4], [4]), ([5], [5]), ([6], [6]), ([7], [7]), ([], []), ([9], [9]), ([10], [10]), ([11], [11]), ([12], [12]), ([3, 8, 13], [3, 8, 13]), ([14, 14, 0, 1, 2, 3, 4, 5, 6, 7, 8, 9, 10, 11, 12, 13, 14], [14])])
def F16.B1 : List Nat := [0, 1, 3, 7, 0, 16, 48, 112, 240, 0, 512, 1536, 3584, 7680, 16383, 32767]
theorem F16.tab1 : rtab .any (opsOf Try.f16 1) = F16.T1 := by kernel_rfl
theorem F16.bits1 : waitsOk F16.T1.2 F16.B1 = true := by kernel_rfl
theorem F16.calls (k : Nat) (A0 : Option Addr) (c0 : Nat) (l0 : List (S75)) (r : List (S47)) (w : World) (hr0 : Kd.C k75 w A0 l0.length l0) (hc0 : l0.length ≤ c0) (h : F16.f k l0 = some r) :
  Calls Try.prog 16 #[asPtr (.slice A0 l0.length c0)] w fun e w' => ∃ v0_ : Value, e = .returned (v0_) ∧ Kd.S k47 47 w' w.heap.size (fun _ => True) v0_ r ∧ Below w.heap.size w w' := by
 have HR0 := aM hr0; have HC0 := aM hc0; clear hr0 hc0; have HB := aM (Below.refl w.heap.size w); have H := h; clear h; unfold F16.f at H; obtain ⟨c2, H⟩ := ifp H; have c2b0 : decide (0 < (l0.length : Int)) = true := dT c2; have c2b1 : decide (0 < l0.length) = true := dT (by omega); clear c2; obtain ⟨t458, A3, H⟩ := bnd H; obtain rfl := oI H
 go_enter Try.func16, Try.ntmps16
 try go_wp2
 replace HB := aM (below_drew1 HB.out); have p455 : 0 ≤ (0 : Int) := (by omega); have q455 : 0 < (l0.length : Int) := oD; obtain ⟨ad455, A455_7, c455_7, A455_8, c455_8, e455, _, _, _, _, _, _, _, hx455_7, _, hl455_7, hi455_7, _, _⟩ := at_T75 HR0.out 0 p455 q455; have hw455_7 := hx455_7; (try rw [show ((0 : Int)).toNat = 0 from rfl] at hw455_7); (try rw [show 0 * 9 = 0 from rfl] at hw455_7); (try rw [Addr.add_zero'] at hw455_7)
 cases e455
 have qi455 : (0 < l0.length) = True := eq_true (by omega); (try rw [show ((0 : Int)).toNat = 0 from rfl] at hx455_7); (try rw [show 0 * 9 = 0 from rfl] at hx455_7); (try rw [Addr.add_zero'] at hx455_7); replace hx455_7 := cU HB hx455_7; have HR455_7 := aM hi455_7; have HC455_7 := aM hl455_7; clear hi455_7 hl455_7; replace p455 := eq_true p455; replace q455 := eq_true q455; have hP455 : asPtr (.slice (some ad455) l0.length c0) = .pointer (some ad455) := asPtr_some oD; have p456 : 0 ≤ (0 : Int) := (by omega); have q456 : 0 < (l0.length : Int) := oD; obtain ⟨ad456, A456_7, c456_7, A456_8, c456_8, e456, _, _, hx456_2, _, _, _, _, _, _, _, _, _, _⟩ := at_T75 HR0.out 0 p456 q456; have hw456_2 := hx456_2; (try rw [show ((0 : Int)).toNat = 0 from rfl] at hw456_2); (try rw [show 0 * 9 = 0 from rfl] at hw456_2); (try rw [Addr.add_zero'] at hw456_2); obtain rfl : ad455 = ad456 := (by injection e456); have qi456 : (0 < l0.length) = True := eq_true (by omega); (try rw [show ((0 : Int)).toNat = 0 from rfl] at hx456_2); (try rw [show 0 * 9 = 0 from rfl] at hx456_2); (try rw [Addr.add_zero'] at hx456_2); replace hx456_2 := cU HB hx456_2; replace p456 := eq_true p456; replace q456 := eq_true q456; have hP456 : asPtr (.slice (some ad455) l0.length c0) = .pointer (some ad455) := asPtr_some oD; have p457 : 0 ≤ (0 : Int) := (by omega); have q457 : 0 < (l0.length : Int) := oD; obtain ⟨ad457, A457_7, c457_7, A457_8, c457_8, e457, hx457_0, _, _, _, _, _, _, _, _, _, _, _, _⟩ := at_T75 HR0.out 0 p457 q457; have hw457_0 := hx457_0; (try rw [show ((0 : Int)).toNat = 0 from rfl] at hw457_0); (try rw [show 0 * 9 = 0 from rfl] at hw457_0); (try rw [Addr.add_zero'] at hw457_0); obtain rfl : ad455 = ad457 := (by injection e457); have qi457 : (0 < l0.length) = True := eq_true (by omega); (try rw [show ((0 : Int)).toNat = 0 from rfl] at hx457_0); (try rw [show 0 * 9 = 0 from rfl] at hx457_0); (try rw [Addr.add_zero'] at hx457_0); replace hx457_0 := cU HB hx457_0; replace p457 := eq_true p457; replace q457 := eq_true q457; have hP457 : asPtr (.slice (some ad455) l0.length c0) = .pointer (some ad455) := asPtr_some oD
 refine start_ (n := 16) (S := fun w' => w'.cell? ⟨ad455.block, ad455.off + 7, none⟩ = some (.slice A455_7 ((rd_T75 l0 0).f1).length c455_7) ∧ w'.cell? ⟨ad455.block, ad455.off + 2, none⟩ = some (.int .i64 ((rd_T75 l0 0).f0.f2)) ∧ w'.cell? ad455 = some (.int .i64 ((rd_T75 l0 0).f0.f0))) (ds := []) (bA 16 0) (by kernel_rfl) rfl (by kernel_rfl) ⟨(cU HB hw455_7 :), (cU HB hw456_2 :), (cU HB hw457_0 :)⟩ (fun hHeld => ?_); refine with_tabW F16.tab1 F16.bits1 (fun HT_ HW_ => ?_)
 generalize w.drew = w4 at HB HR455_7 hx455_7 hx456_2 hx457_0 hHeld ⊢
 refine pT 16 0 3 1 HT_ (h := ?_)
 refine pT 16 1 4 3 HT_ (h := ?_)
 refine pT 16 2 5 7 HT_ (h := ?_)
 refine pT 16 4 7 23 HT_ (h := ?_)
 refine pT 16 5 8 55 HT_ (h := ?_)
 refine pT 16 6 9 119 HT_ (h := ?_)
 refine pT 16 7 10 247 HT_ (h := ?_)
 refine pT 16 9 12 759 HT_ (h := ?_)
 refine pT 16 10 13 1783 HT_ (h := ?_)
 refine pT 16 11 14 3831 HT_ (h := ?_)
 refine pT 16 12 15 7927 HT_ (h := ?_)
 refine tT 16 3 6 7935 HT_ HW_ hHeld (h := ?_)
 refine tT 16 8 11 8191 HT_ HW_ hHeld (h := ?_)
 refine tT 16 13 16 16383 HT_ HW_ hHeld (h := ?_)
 refine one_ (i := 14) (N := some 17) (bA 16 32767) rfl rfl (one_of HT_.out (by kernel_rfl)) (by decide) (fun K hK => ?_)
 refine gA Try.func43 #[.slice A455_7 ((rd_T75 l0 0).f1).length c455_7, .int .i64 ((rd_T75 l0 0).f0.f2), .int .i64 ((rd_T75 l0 0).f0.f0)] (h := ?_)
 with_reducible refine (F43.calls k _ _ ((rd_T75 l0 0).f1) ((rd_T75 l0 0).f0.f2) ((rd_T75 l0 0).f0.f0) t458 _ ?side1 ?side2 A3.out).mono ?_
 (case side1 => with_reducible exact (Kd.C_below HR455_7.out HB.out)); (case side2 => exact HC455_7.out); rintro e w5 ⟨v459, rfl, ho0, hb⟩
 refine ⟨_, rfl, ?_⟩
 have HO460 := aM (Kd.S_lower ho0 (below_size bZ)); replace HB := aM (below_step bZ hb); (try clear hb); (try clear hb2); (try clear hk); (try clear hi); (try clear ho0)
 refine hK.out _ _ ⟨(cU HB hw455_7 :), (cU HB hw456_2 :), (cU HB hw457_0 :)⟩ (fun hHeld => ?_)
 clear hK K
 refine nT 17 (h := ?_)
 refine pT 16 15 2 65535 HT_ (h := ?_)
 refine done_ (done_of HT_.out (by kernel_rfl)) ?_
 try go_wp2
 go_ret
 exact ⟨_, rfl, HO460.out, HB.out⟩

def F17.f (k : Nat) (l0 : List (S75)) : Option ((List (S47))) := if 0 < (l0.length : Int) then ((F43.f k ((rd_T75 l0 0).f2) ((rd_T75 l0 0).f0.f3) ((rd_T75 l0 0).f0.f1)).bind fun t464 => (some t464)) else (none)
theorem F17.mono : ∀ a0 k, LeO (F17.f k a0) (F17.f (k + 1) a0) := by
 intro a0 k; unfold F17.f
 repeat' with_reducible first | exact F43.mono _ _ _ _ | exact LeO.refl _ | exact LeO.none _ | refine LeO.ite ?_ ?_ | refine LeO.bind ?_ (fun _ => ?_)
def F17.T1 : Bool × List (List Nat × List Nat) := (true, [([], []), ([0], [0]), ([1], [1]), ([2], [2]), ([], []), ([4], [4]), ([5], [5]), ([6], [6]), ([7], [7]), ([], []), ([9], [9]), ([10], [10]), ([11], [11]), ([12], [12]), ([3, 8, 13], [3, 8, 13]), ([14, 14, 0, 1, 2, 3, 4, 5, 6, 7, 8, 9, 10, 11, 12, 13, 14], [14])])
def F17.B1 : List Nat := [0, 1, 3, 7, 0, 16, 48, 112, 240, 0, 512, 1536, 3584, 7680, 16383, 32767]
theorem F17.tab1 : rtab .any (opsOf Try.f17 1) = F17.T1 := by kernel_rfl
theorem F17.bits1 : waitsOk F17.T1.2 F17.B1 = true := by kernel_rfl
theorem F17.calls (k : Nat) (A0 : Option Addr) (c0 : Nat) (l0 : List (S75)) (r : List (S47)) (w : World) (hr0 : Kd.C k75 w A0 l0.length l0) (hc0 : l0.length ≤ c0) (h : F17.f k l0 = some r) :
  Calls Try.prog 17 #[asPtr (.slice A0 l0.length c0)] w fun e w' => ∃ v0_ : Value, e = .returned (v0_) ∧ Kd.S k47 47 w' w.heap.size (fun _ => True) v0_ r ∧ Below w.heap.size w w' := by
 have HR0 := aM hr0; have HC0 := aM hc0; clear hr0 hc0; have HB := aM (Below.refl w.heap.size w); have H := h; clear h; unfold F17.f at H; obtain ⟨c2, H⟩ := ifp H; have c2b0 : decide (0 < (l0.length : Int)) = true := dT c2; have c2b1 : decide (0 < l0.length) = true := dT (by omega); clear c2; obtain ⟨t464, A3, H⟩ := bnd H; obtain rfl := oI H
 go_enter Try.func17, Try.ntmps17
 try go_wp2
 replace HB := aM (below_drew1 HB.out); have p461 : 0 ≤ (0 : Int) := (by omega); have q461 : 0 < (l0.length : Int) := oD; obtain ⟨ad461, A461_7, c461_7, A461_8, c461_8, e461, _, _, _, _, _, _, _, _, hx461_8, _, _, hl461_8, hi461_8⟩ := at_T75 HR0.out 0 p461 q461; have hw461_8 := hx461_8; (try rw [show ((0 : Int)).toNat = 0 from rfl] at hw461_8); (try rw [show 0 * 9 = 0 from rfl] at hw461_8); (try rw [Addr.add_zero'] at hw461_8)
 cases e461
 have qi461 : (0 < l0.length) = True := eq_true (by omega); (try rw [show ((0 : Int)).toNat = 0 from rfl] at hx461_8); (try rw [show 0 * 9 = 0 from rfl] at hx461_8); (try rw [Addr.add_zero'] at hx461_8); replace hx461_8 := cU HB hx461_8; have HR461_8 := aM hi461_8; have HC461_8 := aM hl461_8; clear hi461_8 hl461_8; replace p461 := eq_true p461; replace q461 := eq_true q461; have hP461 : asPtr (.slice (some ad461) l0.length c0) = .pointer (some ad461) := asPtr_some oD; have p462 : 0 ≤ (0 : Int) := (by omega); have q462 : 0 < (l0.length : Int) := oD; obtain ⟨ad462, A462_7, c462_7, A462_8, c462_8, e462, _, _, _, hx462_3, _, _, _, _, _, _, _, _, _⟩ := at_T75 HR0.out 0 p462 q462; have hw462_3 := hx462_3; (try rw [show ((0 : Int)).toNat = 0 from rfl] at hw462_3); (try rw [show 0 * 9 = 0 from rfl] at hw462_3); (try rw [Addr.add_zero'] at hw462_3); obtain rfl : ad461 = ad462 := (by injection e462); have qi462 : (0 < l0.length) = True := eq_true (by omega); (try rw [show ((0 : Int)).toNat = 0 from rfl] at hx462_3); (try rw [show 0 * 9 = 0 from rfl] at hx462_3); (try rw [Addr.add_zero'] at hx462_3); replace hx462_3 := cU HB hx462_3; replace p462 := eq_true p462; replace q462 := eq_true q462; have hP462 : asPtr (.slice (some ad461) l0.length c0) = .pointer (some ad461) := asPtr_some oD; have p463 : 0 ≤ (0 : Int) := (by omega); have q463 : 0 < (l0.length : Int) := oD; obtain ⟨ad463, A463_7, c463_7, A463_8, c463_8, e463, _, hx463_1, _, _, _, _, _, _, _, _, _, _, _⟩ := at_T75 HR0.out 0 p463 q463; have hw463_1 := hx463_1; (try rw [show ((0 : Int)).toNat = 0 from rfl] at hw463_1); (try rw [show 0 * 9 = 0 from rfl] at hw463_1); (try rw [Addr.add_zero'] at hw463_1); obtain rfl : ad461 = ad463 := (by injection e463); have qi463 : (0 < l0.length) = True := eq_true (by omega); (try rw [show ((0 : Int)).toNat = 0 from rfl] at hx463_1); (try rw [show 0 * 9 = 0 from rfl] at hx463_1); (try rw [Addr.add_zero'] at hx463_1); replace hx463_1 := cU HB hx463_1; replace p463 := eq_true p463; replace q463 := eq_true q463; have hP463 : asPtr (.slice (some ad461) l0.length c0) = .pointer (some ad461) := asPtr_some oD
 refine start_ (n := 16) (S := fun w' => w'.cell? ⟨ad461.block, ad461.off + 8, none⟩ = some (.slice A461_8 ((rd_T75 l0 0).f2).length c461_8) ∧ w'.cell? ⟨ad461.block, ad461.off + 3, none⟩ = some (.int .i64 ((rd_T75 l0 0).f0.f3)) ∧ w'.cell? ⟨ad461.block, ad461.off + 1, none⟩ = some (.int .i64 ((rd_T75 l0 0).f0.f1))) (ds := []) (bA 16 0) (by kernel_rfl) rfl (by kernel_rfl) ⟨(cU HB hw461_8 :), (cU HB hw462_3 :), (cU HB hw463_1 :)⟩ (fun hHeld => ?_); refine with_tabW F17.tab1 F17.bits1 (fun HT_ HW_ => ?_)
 generalize w.drew = w4 at HB HR461_8 hx461_8 hx462_3 hx463_1 hHeld ⊢
 refine pT 16 0 3 1 HT_ (h := ?_)
 refine pT 16 1 4 3 HT_ (h := ?_)
 refine pT 16 2 5 7 HT_ (h := ?_)
 refine pT 16 4 7 23 HT_ (h := ?_)
 refine pT 16 5 8 55 HT_ (h := ?_)
 refine pT 16 6 9 119 HT_ (h := ?_)
 refine pT 16 7 10 247 HT_ (h := ?_)
 refine pT 16 9 12 759 HT_ (h := ?_)
 refine pT 16 10 13 1783 HT_ (h := ?_)
 refine pT 16 11 14 3831 HT_ (h := ?_)
 refine pT 16 12 15 7927 HT_ (h := ?_)
 refine tT 16 3 6 7935 HT_ HW_ hHeld (h := ?_)
 refine tT 16 8 11 8191 HT_ HW_ hHeld (h := ?_)
 refine tT 16 13 16 16383 HT_ HW_ hHeld (h := ?_)
 refine one_ (i := 14) (N := some 17) (bA 16 32767) rfl rfl (one_of HT_.out (by kernel_rfl)) (by decide) (fun K hK => ?_)
 refine gA Try.func43 #[.slice A461_8 ((rd_T75 l0 0).f2).length c461_8, .int .i64 ((rd_T75 l0 0).f0.f3), .int .i64 ((rd_T75 l0 0).f0.f1)] (h := ?_)
 with_reducible refine (F43.calls k _ _ ((rd_T75 l0 0).f2) ((rd_T75 l0 0).f0.f3) ((rd_T75 l0 0).f0.f1) t464 _ ?side1 ?side2 A3.out).mono ?_
 (case side1 => with_reducible exact (Kd.C_below HR461_8.out HB.out)); (case side2 => exact HC461_8.out); rintro e w5 ⟨v465, rfl, ho0, hb⟩
 refine ⟨_, rfl, ?_⟩
 have HO466 := aM (Kd.S_lower ho0 (below_size bZ)); replace HB := aM (below_step bZ hb); (try clear hb); (try clear hb2); (try clear hk); (try clear hi); (try clear ho0)
 refine hK.out _ _ ⟨(cU HB hw461_8 :), (cU HB hw462_3 :), (cU HB hw463_1 :)⟩ (fun hHeld => ?_)
 clear hK K
 refine nT 17 (h := ?_)
 refine pT 16 15 2 65535 HT_ (h := ?_)
 refine done_ (done_of HT_.out (by kernel_rfl)) ?_
 try go_wp2
 go_ret
 exact ⟨_, rfl, HO466.out, HB.out⟩

def F22.l0 : Nat → List (S98) → List (S47) → Int → Int → Option ((List (S98)))
 | 0, _, _, _, _ => none
 | k + 1, x3, x6, x7, x8 => if x8 < x7 then (if 0 ≤ x8 then (if x8 < (x6.length : Int) then (if x3.length < 4398046511104 then (F22.l0 k (x3 ++ [(⟨(rd_T47 x6 x8).f0, (rd_T47 x6 x8).f1, (rd_T47 x6 x8).f2⟩ : S98)]) x6 x7 (wrap64 (x8 + 1))) else (none)) else (none)) else (none)) else (some x3)
def F22.f (k : Nat) (l0 : List (S47)) : Option ((List (S98))) := F22.l0 k ([] : List (S98)) l0 (l0.length : Int) 0
theorem F22.mono_l : ∀ k, (∀ y0 y1 y2 y3, LeO (F22.l0 k y0 y1 y2 y3) (F22.l0 (k + 1) y0 y1 y2 y3))
 | 0 => fun _ _ _ _ r h => by simp [F22.l0] at h
 | k + 1 => by
  have ih0 := F22.mono_l k
  ·
   intro y0 y1 y2 y3; unfold F22.l0
   repeat' with_reducible first | exact ih0 _ _ _ _ | exact LeO.refl _ | exact LeO.none _ | refine LeO.ite ?_ ?_ | refine LeO.bind ?_ (fun _ => ?_)
theorem F22.mono : ∀ a0 k, LeO (F22.f k a0) (F22.f (k + 1) a0) := by
 intro a0 k; have ih0 := F22.mono_l k; unfold F22.f
 repeat' with_reducible first | exact ih0 _ _ _ _ | exact LeO.refl _ | exact LeO.none _ | refine LeO.ite ?_ ?_ | refine LeO.bind ?_ (fun _ => ?_)
theorem F22.calls (k : Nat) (P0_ : Nat → Prop) (A0 : Option Addr) (c0 : Nat) (l0 : List (S47)) (r : List (S98)) (w : World) (hs0 : Kd.V k47 47 w w.heap.size (fun k_ => P0_ k_) (.slice A0 l0.length c0) l0) (h : F22.f k l0 = some r) :
  Calls Try.prog 22 #[.slice A0 l0.length c0] w fun e w' => ∃ v0_ : Value, e = .returned (v0_) ∧ Kd.N k98 98 w' w.heap.size (fun k_ => (P0_ k_ ∨ w.heap.size ≤ k_)) v0_ r ∧ Below w.heap.size w w' := by
 have hu47 := Try.underlying47; have hu98 := Try.underlying98; have HO0 := aM (show Kd.V k47 47 w w.heap.size (fun k_ => (P0_ k_ ∨ w.heap.size ≤ k_)) (.slice A0 l0.length c0) l0 from Kd.V_mono hs0 (fun k_ hk => .inl hk)); have HB := aM (Below.refl w.heap.size w); have H := h; clear h; unfold F22.f at H; have H' := aM H; clear H
 go_enter Try.func22, Try.ntmps22
 go_wp2
 go_loopg [3, 8] k (fun kq v3 v8 w' => ∃ (x3_1 : List (S98)) (x8_1 : Int), v8 = .int .i64 x8_1 ∧ Aside0 (F22.l0 kq x3_1 l0 (l0.length : Int) x8_1 = some r) ∧ Aside0 (kq ≤ k) ∧ Aside0 (Kd.N k98 98 w' w.heap.size (fun k_ => (P0_ k_ ∨ w.heap.size ≤ k_)) v3 x3_1) ∧ Aside0 (Kd.V k47 47 w' w.heap.size (fun k_ => (P0_ k_ ∨ w.heap.size ≤ k_) ∧ some k_ ≠ (v3 : Value).ownBlock) (.slice A0 l0.length c0) l0) ∧ Aside0 (Below w.heap.size w w'))
 case atStart => exact ⟨(([] : List (S98))), (0), rfl, H', ⟨Nat.le_refl _⟩, ⟨by first | exact Kd.S_nil _ _ _ _ _ | exact Kd.N_nil _ _ _ _ _ | exact Kd.V_nil _ _ _ _ _ | exact Kd.Q_nil _ _ _ _ _ | exact Kd.R_nil _ _ _ _ _⟩, ⟨by exact Kd.V_mono HO0.out (fun _ hk => ⟨hk, (by simp [Value.ownBlock])⟩)⟩, HB⟩
 case round =>
  clear H'; obtain ⟨x3_1, x8_1, rfl, HA, HK1, HO_3, HO_6, HB⟩ := hrel
  cases gk with
  | zero => exact absurd HA.out (by simp [F22.l0])
  | succ k1 =>
   have H := HA.out; clear HA; simp only [F22.l0] at H
   by_cases c2 : x8_1 < (l0.length : Int)
   ·
    rw [if_pos c2] at H; have c2b0 : decide (x8_1 < (l0.length : Int)) = true := dT c2; clear c2; obtain ⟨c3, H⟩ := ifp H; have c3b0 : decide (0 ≤ x8_1) = true := dT c3; clear c3; obtain ⟨c4, H⟩ := ifp H; have c4b0 : decide (x8_1 < (l0.length : Int)) = true := dT c4; clear c4; obtain ⟨c5, H⟩ := ifp H; have LMc5 := aM c5; clear c5; obtain ⟨y469, hy469⟩ : ∃ y_ : List (S98), y_ = (x3_1 ++ [(⟨(rd_T47 l0 x8_1).f0, (rd_T47 l0 x8_1).f1, (rd_T47 l0 x8_1).f2⟩ : S98)]) := ⟨_, rfl⟩; (replace H : (F22.l0 k1 y469 l0 (l0.length : Int) (wrap64 (x8_1 + 1))) = some r := by rw [hy469]; exact H); have Ny469 := aM hy469; clear hy469; have H' := aM H; clear H; have p467 : 0 ≤ (x8_1 : Int) := oD; have q467 : x8_1 < (l0.length : Int) := oD; obtain ⟨ad467, A467_2, c467_2, e467, hx467_0, hx467_1, hx467_2, hl467_2, hi467_2⟩ := at_T47 (Kd.V_reads' HO_6.out).2.2 x8_1 p467 q467
    cases e467
    obtain ⟨ce467, hce467, hMe467, hcc467⟩ := Kd.V_get HO_6.out z47 x8_1 p467 (by first | exact q467 | exact oD | (have e_ := (Kd.V_reads' HO_6.out).1; omega)); obtain ⟨ua467_2, uc467_2, rfl, ul467_2, ge467_2⟩ := k47_openF hMe467; have hv467_2 := hcc467 2 _ rfl; rw [add_field _ _ 2 (by omega)] at hv467_2; replace hv467_2 := oI (hv467_2.symm.trans hx467_2); injection hv467_2 with hva_ hvn_ hvc_; rw [hva_] at ge467_2; rw [hvc_] at ul467_2; have HL467_2 := aM (show Kd.V (Kd.int .i64) 3 _ w.heap.size _ _ ((rd_T47 l0 x8_1).f2) from Kd.V_mk ul467_2 ge467_2); clear hva_ hvn_ hvc_ ge467_2 ul467_2; clear hcc467 hce467; have HR467_2 := aM hi467_2; have HC467_2 := aM hl467_2; clear hi467_2 hl467_2; replace p467 := eq_true p467; replace q467 := eq_true q467
    go_wp2_with (first | ((with_reducible refine gate_dst (N := 5) rfl ?_); refine bxE 5 #[.int .i32 0, .int .u32 0, .slice none 0 0] 47 (h := ?_); intro gb468 hg w6 hbox hb; replace HO_3 := aM (Kd.N_below (Kd.N_elderB HO_3.out gb468 (Nat.le_of_eq hg.symm)) hb); replace HO_6 := aM (Kd.V_below (Kd.V_elderB HO_6.out gb468 (Nat.le_of_eq hg.symm)) hb); replace HL467_2 := aM (Kd.V_below (Kd.V_elderB HL467_2.out gb468 (Nat.le_of_eq hg.symm)) hb); replace HR467_2 := aM (Kd.C_below (kC HR467_2.out) hb); have BK468 := aM (hbox); have GW468 := gE hg HB; have GE468 := gE hg HB; replace HB := bst HB hb; clear hb hbox hg; have hz7 := bx3 BK468.out) | ((with_reducible refine gate_store (t := 47) (p := 5) rfl ?_); refine store_event (t := 47) (p := 5) (v := ?vo_w8) (w1 := (((w6.setCell ⟨gb468, 0, none⟩ (.int .i32 ((rd_T47 l0 x8_1).f0))).setCell ⟨gb468, 1, none⟩ (.int .u32 ((rd_T47 l0 x8_1).f1))).setCell ⟨gb468, 2, none⟩ (.slice A467_2 ((rd_T47 l0 x8_1).f2).length c467_2))) ?hg ?ho ?hn ?hr ?_; (case ho => rfl); (case hg => rfl); (case hn => rfl); (case hr => first | (go_simp; done) | (go_simp; rfl)); intro w8 hw; have n0_ : Aside0 (Kd.N k98 98 w8 w.heap.size (fun k_ => (P0_ k_ ∨ w.heap.size ≤ k_) ∧ k_ ≠ gb468) u3 x3_1) := ⟨(by rw [hw]; exact (by (with_reducible repeat (first | apply Kd.N_alloc | apply Kd.N_drewN | apply Kd.N_drew)); exact Kd.N_mono (Kd.N_far (p := ⟨gb468, 2, none⟩) (Kd.N_far (p := ⟨gb468, 1, none⟩) (Kd.N_far (p := ⟨gb468, 0, none⟩) (Kd.N_mono HO_3.out (fun k_ hk => (⟨hk, hk.2⟩ : _ ∧ k_ ≠ gb468))) (fun _ hk => hk.2) (.int .i32 ((rd_T47 l0 x8_1).f0))) (fun _ hk => hk.2) (.int .u32 ((rd_T47 l0 x8_1).f1))) (fun _ hk => hk.2) (.slice A467_2 ((rd_T47 l0 x8_1).f2).length c467_2)) (fun _ hk => ⟨hk.1.1, hk.1.2⟩)))⟩; have n1_ : Aside0 (Kd.V k47 47 w8 w.heap.size (fun k_ => (P0_ k_ ∨ w.heap.size ≤ k_) ∧ some k_ ≠ (u3 : Value).ownBlock ∧ k_ ≠ gb468) (.slice (some ad467) l0.length c0) l0) := ⟨(by rw [hw]; exact (by (with_reducible repeat (first | apply Kd.V_alloc | apply Kd.V_drewN | apply Kd.V_drew)); exact Kd.V_mono (Kd.V_far (p := ⟨gb468, 2, none⟩) (Kd.V_far (p := ⟨gb468, 1, none⟩) (Kd.V_far (p := ⟨gb468, 0, none⟩) (Kd.V_mono HO_6.out (fun k_ hk => (⟨hk, hk.2⟩ : _ ∧ k_ ≠ gb468))) (fun _ hk => hk.2) (.int .i32 ((rd_T47 l0 x8_1).f0))) (fun _ hk => hk.2) (.int .u32 ((rd_T47 l0 x8_1).f1))) (fun _ hk => hk.2) (.slice A467_2 ((rd_T47 l0 x8_1).f2).length c467_2)) (fun _ hk => ⟨hk.1.1.1, ⟨hk.1.1.2, hk.1.2⟩⟩)))⟩; have n2_ : Aside0 (Kd.V (Kd.int .i64) 3 w8 w.heap.size (fun k_ => (P0_ k_ ∨ w.heap.size ≤ k_) ∧ some k_ ≠ (u3 : Value).ownBlock ∧ k_ ≠ gb468) (.slice A467_2 ((rd_T47 l0 x8_1).f2).length c467_2) ((rd_T47 l0 x8_1).f2)) := ⟨(by rw [hw]; exact (by (with_reducible repeat (first | apply Kd.V_alloc | apply Kd.V_drewN | apply Kd.V_drew)); exact Kd.V_mono (Kd.V_far (p := ⟨gb468, 2, none⟩) (Kd.V_far (p := ⟨gb468, 1, none⟩) (Kd.V_far (p := ⟨gb468, 0, none⟩) (Kd.V_mono HL467_2.out (fun k_ hk => (⟨hk, hk.2⟩ : _ ∧ k_ ≠ gb468))) (fun _ hk => hk.2) (.int .i32 ((rd_T47 l0 x8_1).f0))) (fun _ hk => hk.2) (.int .u32 ((rd_T47 l0 x8_1).f1))) (fun _ hk => hk.2) (.slice A467_2 ((rd_T47 l0 x8_1).f2).length c467_2)) (fun _ hk => ⟨hk.1.1.1, ⟨hk.1.1.2, hk.1.2⟩⟩)))⟩; have n3_ : Aside0 (w8.heap[gb468]? = some (.cells #[.int .i32 ((rd_T47 l0 x8_1).f0), .int .u32 ((rd_T47 l0 x8_1).f1), .slice A467_2 ((rd_T47 l0 x8_1).f2).length c467_2] 47 (0, 0))) := ⟨(by rw [hw]; exact (blk_put (blk_put (blk_put BK468.out 0 _ rfl) 1 _ rfl) 2 _ rfl))⟩; have n4_ : Aside0 (Below w.heap.size w w8) := ⟨(by rw [hw]; exact bZ)⟩; clear hw; clear HO_3; clear HO_6; clear HL467_2; clear BK468; clear HB; have HO_3 := n0_; have HO_6 := n1_; have HL467_2 := n2_; have BK468 := n3_; have HB := n4_; clear n0_ n1_ n2_ n3_ n4_; have hz9 := bx3 BK468.out) | ((with_reducible refine gate_builtin (b := .append) (xs := #[.tmp 12, .tmp 20]) rfl ?_); at_builtin; refine Kd.N_append k98 (w0 := w) w.heap.size rfl (.tmp 12) (.tmp 20) 53 98 (.agg #[(.int .i32 0), (.int .u32 0), (.slice none 0 0)]) 32 rfl Try.underlying53 info98 rfl (by decide) (by omega) u3 x3_1 (⟨(rd_T47 l0 x8_1).f0, (rd_T47 l0 x8_1).f1, (rd_T47 l0 x8_1).f2⟩ : S98) [.int .i32 ((rd_T47 l0 x8_1).f0), .int .u32 ((rd_T47 l0 x8_1).f1), .slice A467_2 ((rd_T47 l0 x8_1).f2).length c467_2] (fun k_ => (P0_ k_ ∨ w.heap.size ≤ k_) ∧ k_ ≠ gb468) (fun k_ => ((fun k_ => (P0_ k_ ∨ w.heap.size ≤ k_) ∧ k_ ≠ gb468)) k_ ∧ some k_ ≠ (u3 : Value).ownBlock) rfl rfl ?aP (fun _ hk => hk) ?aF ?aO ?aB ?aS ?aL ?_; (case aP => exact (k98_mkF _ _ (⟨(rd_T47 l0 x8_1).f0, (rd_T47 l0 x8_1).f1, (rd_T47 l0 x8_1).f2⟩ : S98) (Kd.V_reads' (Kd.V_mono (ok' := (fun k_ => ((fun k_ => (P0_ k_ ∨ w.heap.size ≤ k_) ∧ k_ ≠ gb468)) k_ ∧ some k_ ≠ (u3 : Value).ownBlock)) (HL467_2.out) (fun k_ hk => ⟨⟨hk.1, hk.2.2⟩, hk.2.1⟩))).2.1 (Kd.V_F (Kd.V_mono (ok' := (fun k_ => ((fun k_ => (P0_ k_ ∨ w.heap.size ≤ k_) ∧ k_ ≠ gb468)) k_ ∧ some k_ ≠ (u3 : Value).ownBlock)) (HL467_2.out) (fun k_ hk => ⟨⟨hk.1, hk.2.2⟩, hk.2.1⟩))))); (case aB => exact HB.out); (case aF => exact (fun k_ hk => ⟨(.inr (Nat.le_trans (bsz HB) hk)), Kd.freshB (g := gb468) (o := .cells #[.int .i32 ((rd_T47 l0 x8_1).f0), .int .u32 ((rd_T47 l0 x8_1).f1), .slice A467_2 ((rd_T47 l0 x8_1).f2).length c467_2] 47 (0, 0)) BK468.out k_ hk⟩)); (case aO => exact HO_3.out); (case aS => exact (bsz HB)); (case aL => have := LMc5.out; omega); intro v470 w10 ho hb hg hat; rw [← Ny469.out] at ho; have n0_ := aM (Kd.V_afterv (ok := (fun k_ => (P0_ k_ ∨ w.heap.size ≤ k_) ∧ k_ ≠ gb468)) (by exact Kd.V_mono HO_6.out (fun _ hk => ⟨⟨hk.1, hk.2.2⟩, hk.2.1⟩)) hg hat); have n1_ := aM (Kd.V_afterv (ok := (fun k_ => (P0_ k_ ∨ w.heap.size ≤ k_) ∧ k_ ≠ gb468)) (by exact Kd.V_mono HL467_2.out (fun _ hk => ⟨⟨hk.1, hk.2.2⟩, hk.2.1⟩)) hg hat); have n2_ := aM (blk_grown (g := gb468) (o := .cells #[.int .i32 ((rd_T47 l0 x8_1).f0), .int .u32 ((rd_T47 l0 x8_1).f1), .slice A467_2 ((rd_T47 l0 x8_1).f2).length c467_2] 47 (0, 0)) BK468.out hg (Kd.N_ne HO_3.out BK468.out (by decide))); have n3_ := aM (hb); have n4_ := aM (ho); clear HO_6; clear HL467_2; clear BK468; clear HB; clear HO_3; have HO_6 := n0_; have HL467_2 := n1_; have BK468 := n2_; have HB := n3_; have HO471 := n4_; clear n0_ n1_ n2_ n3_ n4_; clear ho hb hg hat))
    go_roundg k1
    case measure => have := HK1.out; omega
    case rel => exact ⟨(y469), (wrap64 (x8_1 + 1)), rfl, H', ⟨by have := HK1.out; omega⟩, ⟨by exact Kd.N_mono HO471.out (fun _ hk => hk.1)⟩, ⟨by exact Kd.V_mono HO_6.out (fun _ hk => ⟨hk.1.1, hk.2⟩)⟩, HB⟩
   ·
    rw [if_neg c2] at H; have c2b0 : decide (x8_1 < (l0.length : Int)) = false := dF c2; clear c2; obtain rfl := oI H
    go_wp2
    go_ret
    exact ⟨_, rfl, HO_3.out, HB.out⟩

end Go.Proofs.Ytekenaclmplocaa.PPageParses
