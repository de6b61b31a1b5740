-- Written by a program of this session (wip/tools/mkprint.py over the kit's print).
import Derived.Test.YtekenaclmplocaaPPageQuantizesx0
import Derived.Test.YtekenaclmplocaaPPageQuantizesx14
namespace Go.Proofs.Ytekenaclmplocaa.PPageQuantizes
open Go.RowKit Go.Proofs.YtekenaclmplocaaW.PrintWords Go.Proofs.YtekenaclmplocaaW.PrintLast Go.Proofs.YtekenaclmplocaaW.PrintMore
attribute [local go_sem] max2_int min2_int max_two min_two max_three min_three max_four min_four   -- for this text's walks alone
set_option linter.unusedVariables false
set_option linter.unusedSimpArgs false

/-! ### page_Page_KeyGroups: function 16 -/
def page_Page_KeyGroups.f (k : Nat) (l0 : List (S75)) : Option ((List (S47))) := if 0 < (l0.length : Int) then ((page_unpack.f k ((rd_T75 l0 0).f1) ((rd_T75 l0 0).f0.f2) ((rd_T75 l0 0).f0.f0)).bind fun t463 => (some t463)) else (none)
theorem page_Page_KeyGroups.mono : ∀ a0 k, LeO (page_Page_KeyGroups.f k a0) (page_Page_KeyGroups.f (k + 1) a0) := by
 intro a0 k; unfold page_Page_KeyGroups.f
 repeat' first
   | (with_reducible exact page_unpack.mono _ _ _ _)
   | (with_reducible exact LeO.refl _)
   | (with_reducible exact LeO.none _)
   | (with_reducible refine LeO.ite ?_ ?_)
   | (with_reducible refine LeO.bind ?_ (fun _ => ?_))
def page_Page_KeyGroups.T1 : Bool × List (List Nat × List Nat) := (true, [([], []), ([0], [0]), ([1], [1]), ([2], [2]), ([], []), ([4], [4]), ([5], [5]), ([6], [6]), ([7], [7]), ([], []), ([9], [9]), ([10], [10]), ([11], [11]), ([12], [12]), ([3, 8, 13], [3, 8, 13]), ([14, 14, 0, 1, 2, 3, 4, 5, 6, 7, 8, 9, 10, 11, 12, 13, 14], [14])])
def page_Page_KeyGroups.B1 : List Nat := [0, 1, 3, 7, 0, 16, 48, 112, 240, 0, 512, 1536, 3584, 7680, 16383, 32767]
theorem page_Page_KeyGroups.tab1 : rtab .any (opsOf Try.f16 1) = page_Page_KeyGroups.T1 := by kernel_rfl
theorem page_Page_KeyGroups.bits1 : waitsOk page_Page_KeyGroups.T1.2 page_Page_KeyGroups.B1 = true := by kernel_rfl
set_option maxHeartbeats 8000000 in
set_option maxRecDepth 100000 in
theorem page_Page_KeyGroups.calls (k : Nat) (A0 : Option Addr) (c0 : Nat) (l0 : List (S75)) (r : List (S47)) (w : World) (hr0 : Kd.C k75 w A0 l0.length l0) (hc0 : l0.length ≤ c0) (h : page_Page_KeyGroups.f k l0 = some r) :
  Calls Try.prog 16 #[asPtr (.slice A0 l0.length c0)] w fun e w' => ∃ v0_ : Value, e = .returned (v0_) ∧ Kd.S k47 47 w' w.heap.size (fun _ => True) v0_ r ∧ Below w.heap.size w w' := by
 have HR0 := Aside0.mk hr0; have HC0 := Aside0.mk hc0; clear hr0 hc0; have HB := Aside0.mk (Below.refl w.heap.size w); have H := h; clear h; unfold page_Page_KeyGroups.f at H; obtain ⟨c2, H⟩ := ifp H; have c2b0 : decide (0 < (l0.length : Int)) = true := decide_eq_true c2; have c2b1 : decide (0 < l0.length) = true := decide_eq_true (by omega); clear c2; obtain ⟨t463, A3, H⟩ := bnd H; obtain rfl := Option.some.inj H
 go_enter Try.func16, Try.ntmps16
 try go_wp2
 replace HB := Aside0.mk (below_drew1 HB.out); have p460 : 0 ≤ (0 : Int) := (by omega); have q460 : 0 < (l0.length : Int) := oD; obtain ⟨ad460, A460_7, c460_7, A460_8, c460_8, e460, _, _, _, _, _, _, _, hx460_7, _, hl460_7, hi460_7, _, _⟩ := at_T75 HR0.out 0 p460 q460; have hw460_7 := hx460_7; (try rw [show ((0 : Int)).toNat = 0 from rfl] at hw460_7); (try rw [show 0 * 9 = 0 from rfl] at hw460_7); (try rw [Addr.add_zero'] at hw460_7)
 cases e460
 have qi460 : (0 < l0.length) = True := eq_true (by omega); (try rw [show ((0 : Int)).toNat = 0 from rfl] at hx460_7); (try rw [show 0 * 9 = 0 from rfl] at hx460_7); (try rw [Addr.add_zero'] at hx460_7); replace hx460_7 := cU HB hx460_7; have HR460_7 := Aside0.mk hi460_7; have HC460_7 := Aside0.mk hl460_7; clear hi460_7 hl460_7; replace p460 := eq_true p460; replace q460 := eq_true q460; have hP460 : asPtr (.slice (some ad460) l0.length c0) = .pointer (some ad460) := asPtr_some oD; have p461 : 0 ≤ (0 : Int) := (by omega); have q461 : 0 < (l0.length : Int) := oD; obtain ⟨ad461, A461_7, c461_7, A461_8, c461_8, e461, _, _, hx461_2, _, _, _, _, _, _, _, _, _, _⟩ := at_T75 HR0.out 0 p461 q461; have hw461_2 := hx461_2; (try rw [show ((0 : Int)).toNat = 0 from rfl] at hw461_2); (try rw [show 0 * 9 = 0 from rfl] at hw461_2); (try rw [Addr.add_zero'] at hw461_2); obtain rfl : ad460 = ad461 := (by injection e461); have qi461 : (0 < l0.length) = True := eq_true (by omega); (try rw [show ((0 : Int)).toNat = 0 from rfl] at hx461_2); (try rw [show 0 * 9 = 0 from rfl] at hx461_2); (try rw [Addr.add_zero'] at hx461_2); replace hx461_2 := cU HB hx461_2; replace p461 := eq_true p461; replace q461 := eq_true q461; have hP461 : asPtr (.slice (some ad460) l0.length c0) = .pointer (some ad460) := asPtr_some oD; have p462 : 0 ≤ (0 : Int) := (by omega); have q462 : 0 < (l0.length : Int) := oD; obtain ⟨ad462, A462_7, c462_7, A462_8, c462_8, e462, hx462_0, _, _, _, _, _, _, _, _, _, _, _, _⟩ := at_T75 HR0.out 0 p462 q462; have hw462_0 := hx462_0; (try rw [show ((0 : Int)).toNat = 0 from rfl] at hw462_0); (try rw [show 0 * 9 = 0 from rfl] at hw462_0); (try rw [Addr.add_zero'] at hw462_0); obtain rfl : ad460 = ad462 := (by injection e462); have qi462 : (0 < l0.length) = True := eq_true (by omega); (try rw [show ((0 : Int)).toNat = 0 from rfl] at hx462_0); (try rw [show 0 * 9 = 0 from rfl] at hx462_0); (try rw [Addr.add_zero'] at hx462_0); replace hx462_0 := cU HB hx462_0; replace p462 := eq_true p462; replace q462 := eq_true q462; have hP462 : asPtr (.slice (some ad460) l0.length c0) = .pointer (some ad460) := asPtr_some oD; (refine start_ (n := 16) (S := fun w' => w'.cell? ⟨ad460.block, ad460.off + 7, none⟩ = some (.slice A460_7 ((rd_T75 l0 0).f1).length c460_7) ∧ w'.cell? ⟨ad460.block, ad460.off + 2, none⟩ = some (.int .i64 ((rd_T75 l0 0).f0.f2)) ∧ w'.cell? ad460 = some (.int .i64 ((rd_T75 l0 0).f0.f0))) (ds := []) (bA 16 0) (by kernel_rfl) rfl (by kernel_rfl) ⟨((HB.out.cell (World.block_lt_of_cell? w _ hw460_7)).trans hw460_7), ((HB.out.cell (World.block_lt_of_cell? w _ hw461_2)).trans hw461_2), ((HB.out.cell (World.block_lt_of_cell? w _ hw462_0)).trans hw462_0)⟩ (fun hHeld => ?_); refine with_tabW page_Page_KeyGroups.tab1 page_Page_KeyGroups.bits1 (fun HT_ HW_ => ?_)); generalize w.drew = w4 at HB HR460_7 hx460_7 hx461_2 hx462_0 hHeld ⊢
 refine pT 16 0 3 1 HT_ (h := ?_)
 refine pT 16 1 4 3 HT_ (h := ?_)
 refine pT 16 2 5 7 HT_ (h := ?_)
 refine pT 16 4 7 23 HT_ (h := ?_)
 refine pT 16 5 8 55 HT_ (h := ?_)
 refine pT 16 6 9 119 HT_ (h := ?_)
 refine pT 16 7 10 247 HT_ (h := ?_)
 refine pT 16 9 12 759 HT_ (h := ?_)
 refine pT 16 10 13 1783 HT_ (h := ?_)
 refine pT 16 11 14 3831 HT_ (h := ?_)
 refine pT 16 12 15 7927 HT_ (h := ?_)
 refine tT 16 3 6 7935 HT_ HW_ hHeld (h := ?_)
 refine tT 16 8 11 8191 HT_ HW_ hHeld (h := ?_)
 refine tT 16 13 16 16383 HT_ HW_ hHeld (h := ?_)
 refine one_ (i := 14) (N := some 17) (bA 16 32767) rfl rfl (one_of HT_.out (by kernel_rfl)) (by decide) (fun K hK => ?_)
 refine gA Try.func43 #[.slice A460_7 ((rd_T75 l0 0).f1).length c460_7, .int .i64 ((rd_T75 l0 0).f0.f2), .int .i64 ((rd_T75 l0 0).f0.f0)] (h := ?_)
 with_reducible refine (page_unpack.calls k _ _ ((rd_T75 l0 0).f1) ((rd_T75 l0 0).f0.f2) ((rd_T75 l0 0).f0.f0) t463 _ ?side1 ?side2 A3.out).mono ?_
 (case side1 => with_reducible exact (Kd.C_below HR460_7.out HB.out)); (case side2 => exact HC460_7.out); rintro e w5 ⟨v464, rfl, ho0, hb⟩
 refine ⟨_, rfl, ?_⟩
 have HO465 := Aside0.mk (Kd.S_lower ho0 (below_size bZ)); replace HB := Aside0.mk (below_step bZ hb); (try clear hb); (try clear hb2); (try clear hk); (try clear hi); (try clear ho0)
 refine hK.out _ _ ⟨((HB.out.cell (World.block_lt_of_cell? w _ hw460_7)).trans hw460_7), ((HB.out.cell (World.block_lt_of_cell? w _ hw461_2)).trans hw461_2), ((HB.out.cell (World.block_lt_of_cell? w _ hw462_0)).trans hw462_0)⟩ (fun hHeld => ?_)
 clear hK K
 refine nT 17 (h := ?_)
 refine pT 16 15 2 65535 HT_ (h := ?_)
 refine done_ (done_of HT_.out (by kernel_rfl)) ?_
 try go_wp2
 go_ret
 exact ⟨_, rfl, HO465.out, HB.out⟩

/-! ### page_Page_ValueGroups: function 17 -/
def page_Page_ValueGroups.f (k : Nat) (l0 : List (S75)) : Option ((List (S47))) := if 0 < (l0.length : Int) then ((page_unpack.f k ((rd_T75 l0 0).f2) ((rd_T75 l0 0).f0.f3) ((rd_T75 l0 0).f0.f1)).bind fun t469 => (some t469)) else (none)
theorem page_Page_ValueGroups.mono : ∀ a0 k, LeO (page_Page_ValueGroups.f k a0) (page_Page_ValueGroups.f (k + 1) a0) := by
 intro a0 k; unfold page_Page_ValueGroups.f
 repeat' first
   | (with_reducible exact page_unpack.mono _ _ _ _)
   | (with_reducible exact LeO.refl _)
   | (with_reducible exact LeO.none _)
   | (with_reducible refine LeO.ite ?_ ?_)
   | (with_reducible refine LeO.bind ?_ (fun _ => ?_))
def page_Page_ValueGroups.T1 : Bool × List (List Nat × List Nat) := (true, [([], []), ([0], [0]), ([1], [1]), ([2], [2]), ([], []), ([4], [4]), ([5], [5]), ([6], [6]), ([7], [7]), ([], []), ([9], [9]), ([10], [10]), ([11], [11]), ([12], [12]), ([3, 8, 13], [3, 8, 13]), ([14, 14, 0, 1, 2, 3, 4, 5, 6, 7, 8, 9, 10, 11, 12, 13, 14], [14])])
def page_Page_ValueGroups.B1 : List Nat := [0, 1, 3, 7, 0, 16, 48, 112, 240, 0, 512, 1536, 3584, 7680, 16383, 32767]
theorem page_Page_ValueGroups.tab1 : rtab .any (opsOf Try.f17 1) = page_Page_ValueGroups.T1 := by kernel_rfl
theorem page_Page_ValueGroups.bits1 : waitsOk page_Page_ValueGroups.T1.2 page_Page_ValueGroups.B1 = true := by kernel_rfl
set_option maxHeartbeats 8000000 in
set_option maxRecDepth 100000 in
theorem page_Page_ValueGroups.calls (k : Nat) (A0 : Option Addr) (c0 : Nat) (l0 : List (S75)) (r : List (S47)) (w : World) (hr0 : Kd.C k75 w A0 l0.length l0) (hc0 : l0.length ≤ c0) (h : page_Page_ValueGroups.f k l0 = some r) :
  Calls Try.prog 17 #[asPtr (.slice A0 l0.length c0)] w fun e w' => ∃ v0_ : Value, e = .returned (v0_) ∧ Kd.S k47 47 w' w.heap.size (fun _ => True) v0_ r ∧ Below w.heap.size w w' := by
 have HR0 := Aside0.mk hr0; have HC0 := Aside0.mk hc0; clear hr0 hc0; have HB := Aside0.mk (Below.refl w.heap.size w); have H := h; clear h; unfold page_Page_ValueGroups.f at H; obtain ⟨c2, H⟩ := ifp H; have c2b0 : decide (0 < (l0.length : Int)) = true := decide_eq_true c2; have c2b1 : decide (0 < l0.length) = true := decide_eq_true (by omega); clear c2; obtain ⟨t469, A3, H⟩ := bnd H; obtain rfl := Option.some.inj H
 go_enter Try.func17, Try.ntmps17
 try go_wp2
 replace HB := Aside0.mk (below_drew1 HB.out); have p466 : 0 ≤ (0 : Int) := (by omega); have q466 : 0 < (l0.length : Int) := oD; obtain ⟨ad466, A466_7, c466_7, A466_8, c466_8, e466, _, _, _, _, _, _, _, _, hx466_8, _, _, hl466_8, hi466_8⟩ := at_T75 HR0.out 0 p466 q466; have hw466_8 := hx466_8; (try rw [show ((0 : Int)).toNat = 0 from rfl] at hw466_8); (try rw [show 0 * 9 = 0 from rfl] at hw466_8); (try rw [Addr.add_zero'] at hw466_8)
 cases e466
 have qi466 : (0 < l0.length) = True := eq_true (by omega); (try rw [show ((0 : Int)).toNat = 0 from rfl] at hx466_8); (try rw [show 0 * 9 = 0 from rfl] at hx466_8); (try rw [Addr.add_zero'] at hx466_8); replace hx466_8 := cU HB hx466_8; have HR466_8 := Aside0.mk hi466_8; have HC466_8 := Aside0.mk hl466_8; clear hi466_8 hl466_8; replace p466 := eq_true p466; replace q466 := eq_true q466; have hP466 : asPtr (.slice (some ad466) l0.length c0) = .pointer (some ad466) := asPtr_some oD; have p467 : 0 ≤ (0 : Int) := (by omega); have q467 : 0 < (l0.length : Int) := oD; obtain ⟨ad467, A467_7, c467_7, A467_8, c467_8, e467, _, _, _, hx467_3, _, _, _, _, _, _, _, _, _⟩ := at_T75 HR0.out 0 p467 q467; have hw467_3 := hx467_3; (try rw [show ((0 : Int)).toNat = 0 from rfl] at hw467_3); (try rw [show 0 * 9 = 0 from rfl] at hw467_3); (try rw [Addr.add_zero'] at hw467_3); obtain rfl : ad466 = ad467 := (by injection e467); have qi467 : (0 < l0.length) = True := eq_true (by omega); (try rw [show ((0 : Int)).toNat = 0 from rfl] at hx467_3); (try rw [show 0 * 9 = 0 from rfl] at hx467_3); (try rw [Addr.add_zero'] at hx467_3); replace hx467_3 := cU HB hx467_3; replace p467 := eq_true p467; replace q467 := eq_true q467; have hP467 : asPtr (.slice (some ad466) l0.length c0) = .pointer (some ad466) := asPtr_some oD; have p468 : 0 ≤ (0 : Int) := (by omega); have q468 : 0 < (l0.length : Int) := oD; obtain ⟨ad468, A468_7, c468_7, A468_8, c468_8, e468, _, hx468_1, _, _, _, _, _, _, _, _, _, _, _⟩ := at_T75 HR0.out 0 p468 q468; have hw468_1 := hx468_1; (try rw [show ((0 : Int)).toNat = 0 from rfl] at hw468_1); (try rw [show 0 * 9 = 0 from rfl] at hw468_1); (try rw [Addr.add_zero'] at hw468_1); obtain rfl : ad466 = ad468 := (by injection e468); have qi468 : (0 < l0.length) = True := eq_true (by omega); (try rw [show ((0 : Int)).toNat = 0 from rfl] at hx468_1); (try rw [show 0 * 9 = 0 from rfl] at hx468_1); (try rw [Addr.add_zero'] at hx468_1); replace hx468_1 := cU HB hx468_1; replace p468 := eq_true p468; replace q468 := eq_true q468; have hP468 : asPtr (.slice (some ad466) l0.length c0) = .pointer (some ad466) := asPtr_some oD; (refine start_ (n := 16) (S := fun w' => w'.cell? ⟨ad466.block, ad466.off + 8, none⟩ = some (.slice A466_8 ((rd_T75 l0 0).f2).length c466_8) ∧ w'.cell? ⟨ad466.block, ad466.off + 3, none⟩ = some (.int .i64 ((rd_T75 l0 0).f0.f3)) ∧ w'.cell? ⟨ad466.block, ad466.off + 1, none⟩ = some (.int .i64 ((rd_T75 l0 0).f0.f1))) (ds := []) (bA 16 0) (by kernel_rfl) rfl (by kernel_rfl) ⟨((HB.out.cell (World.block_lt_of_cell? w _ hw466_8)).trans hw466_8), ((HB.out.cell (World.block_lt_of_cell? w _ hw467_3)).trans hw467_3), ((HB.out.cell (World.block_lt_of_cell? w _ hw468_1)).trans hw468_1)⟩ (fun hHeld => ?_); refine with_tabW page_Page_ValueGroups.tab1 page_Page_ValueGroups.bits1 (fun HT_ HW_ => ?_)); generalize w.drew = w4 at HB HR466_8 hx466_8 hx467_3 hx468_1 hHeld ⊢
 refine pT 16 0 3 1 HT_ (h := ?_)
 refine pT 16 1 4 3 HT_ (h := ?_)
 refine pT 16 2 5 7 HT_ (h := ?_)
 refine pT 16 4 7 23 HT_ (h := ?_)
 refine pT 16 5 8 55 HT_ (h := ?_)
 refine pT 16 6 9 119 HT_ (h := ?_)
 refine pT 16 7 10 247 HT_ (h := ?_)
 refine pT 16 9 12 759 HT_ (h := ?_)
 refine pT 16 10 13 1783 HT_ (h := ?_)
 refine pT 16 11 14 3831 HT_ (h := ?_)
 refine pT 16 12 15 7927 HT_ (h := ?_)
 refine tT 16 3 6 7935 HT_ HW_ hHeld (h := ?_)
 refine tT 16 8 11 8191 HT_ HW_ hHeld (h := ?_)
 refine tT 16 13 16 16383 HT_ HW_ hHeld (h := ?_)
 refine one_ (i := 14) (N := some 17) (bA 16 32767) rfl rfl (one_of HT_.out (by kernel_rfl)) (by decide) (fun K hK => ?_)
 refine gA Try.func43 #[.slice A466_8 ((rd_T75 l0 0).f2).length c466_8, .int .i64 ((rd_T75 l0 0).f0.f3), .int .i64 ((rd_T75 l0 0).f0.f1)] (h := ?_)
 with_reducible refine (page_unpack.calls k _ _ ((rd_T75 l0 0).f2) ((rd_T75 l0 0).f0.f3) ((rd_T75 l0 0).f0.f1) t469 _ ?side1 ?side2 A3.out).mono ?_
 (case side1 => with_reducible exact (Kd.C_below HR466_8.out HB.out)); (case side2 => exact HC466_8.out); rintro e w5 ⟨v470, rfl, ho0, hb⟩
 refine ⟨_, rfl, ?_⟩
 have HO471 := Aside0.mk (Kd.S_lower ho0 (below_size bZ)); replace HB := Aside0.mk (below_step bZ hb); (try clear hb); (try clear hb2); (try clear hk); (try clear hi); (try clear ho0)
 refine hK.out _ _ ⟨((HB.out.cell (World.block_lt_of_cell? w _ hw466_8)).trans hw466_8), ((HB.out.cell (World.block_lt_of_cell? w _ hw467_3)).trans hw467_3), ((HB.out.cell (World.block_lt_of_cell? w _ hw468_1)).trans hw468_1)⟩ (fun hHeld => ?_)
 clear hK K
 refine nT 17 (h := ?_)
 refine pT 16 15 2 65535 HT_ (h := ?_)
 refine done_ (done_of HT_.out (by kernel_rfl)) ?_
 try go_wp2
 go_ret
 exact ⟨_, rfl, HO471.out, HB.out⟩

/-! ### credenzalaw08_groups: function 22 -/
def credenzalaw08_groups.l0 : Nat → List (S98) → List (S47) → Int → Int → Option ((List (S98)))
 | 0, _, _, _, _ => none
 | k + 1, x3, x6, x7, x8 => if x8 < x7 then (if 0 ≤ x8 then (if x8 < (x6.length : Int) then (if x3.length < 4398046511104 then (credenzalaw08_groups.l0 k (x3 ++ [(⟨(rd_T47 x6 x8).f0, (rd_T47 x6 x8).f1, (rd_T47 x6 x8).f2⟩ : S98)]) x6 x7 (wrap64 (x8 + 1))) else (none)) else (none)) else (none)) else (some x3)
def credenzalaw08_groups.f (k : Nat) (l0 : List (S47)) : Option ((List (S98))) := credenzalaw08_groups.l0 k ([] : List (S98)) l0 (l0.length : Int) 0
theorem credenzalaw08_groups.mono_l : ∀ k, (∀ y0 y1 y2 y3, LeO (credenzalaw08_groups.l0 k y0 y1 y2 y3) (credenzalaw08_groups.l0 (k + 1) y0 y1 y2 y3))
 | 0 => fun _ _ _ _ r h => by simp [credenzalaw08_groups.l0] at h
 | k + 1 => by
  have ih0 := credenzalaw08_groups.mono_l k
  ·
   intro y0 y1 y2 y3; unfold credenzalaw08_groups.l0
   repeat' first
   | (with_reducible exact ih0 _ _ _ _)
   | (with_reducible exact LeO.refl _)
   | (with_reducible exact LeO.none _)
   | (with_reducible refine LeO.ite ?_ ?_)
   | (with_reducible refine LeO.bind ?_ (fun _ => ?_))
theorem credenzalaw08_groups.mono : ∀ a0 k, LeO (credenzalaw08_groups.f k a0) (credenzalaw08_groups.f (k + 1) a0) := by
 intro a0 k; have ih0 := credenzalaw08_groups.mono_l k; unfold credenzalaw08_groups.f
 repeat' first
   | (with_reducible exact ih0 _ _ _ _)
   | (with_reducible exact LeO.refl _)
   | (with_reducible exact LeO.none _)
   | (with_reducible refine LeO.ite ?_ ?_)
   | (with_reducible refine LeO.bind ?_ (fun _ => ?_))
set_option maxHeartbeats 8000000 in
set_option maxRecDepth 100000 in
theorem credenzalaw08_groups.calls (k : Nat) (P0_ : Nat → Prop) (A0 : Option Addr) (c0 : Nat) (l0 : List (S47)) (r : List (S98)) (w : World) (hs0 : Kd.V k47 47 w w.heap.size (fun k_ => P0_ k_) (.slice A0 l0.length c0) l0) (h : credenzalaw08_groups.f k l0 = some r) :
  Calls Try.prog 22 #[.slice A0 l0.length c0] w fun e w' => ∃ v0_ : Value, e = .returned (v0_) ∧ Kd.N k98 98 w' w.heap.size (fun k_ => (P0_ k_ ∨ w.heap.size ≤ k_)) v0_ r ∧ Below w.heap.size w w' := by
 have hu47 := Try.underlying47; have hu98 := Try.underlying98; have HO0 := Aside0.mk (show Kd.V k47 47 w w.heap.size (fun k_ => (P0_ k_ ∨ w.heap.size ≤ k_)) (.slice A0 l0.length c0) l0 from Kd.V_mono hs0 (fun k_ hk => .inl hk)); have HB := Aside0.mk (Below.refl w.heap.size w); have H := h; clear h; unfold credenzalaw08_groups.f at H; have H' := Aside0.mk H; clear H
 go_enter Try.func22, Try.ntmps22
 go_wp2
 go_loopg [3, 8] k (fun kq v3 v8 w' => ∃ (x3_1 : List (S98)) (x8_1 : Int), v8 = .int .i64 x8_1 ∧ Aside0 (credenzalaw08_groups.l0 kq x3_1 l0 (l0.length : Int) x8_1 = some r) ∧ Aside0 (kq ≤ k) ∧ Aside0 (Kd.N k98 98 w' w.heap.size (fun k_ => (P0_ k_ ∨ w.heap.size ≤ k_)) v3 x3_1) ∧ Aside0 (Kd.V k47 47 w' w.heap.size (fun k_ => (P0_ k_ ∨ w.heap.size ≤ k_) ∧ some k_ ≠ (v3 : Value).ownBlock) (.slice A0 l0.length c0) l0) ∧ Aside0 (Below w.heap.size w w'))
 case atStart => exact ⟨(([] : List (S98))), (0), rfl, H', ⟨Nat.le_refl _⟩, ⟨by first | exact Kd.S_nil _ _ _ _ _ | exact Kd.N_nil _ _ _ _ _ | exact Kd.V_nil _ _ _ _ _ | exact Kd.Q_nil _ _ _ _ _ | exact Kd.R_nil _ _ _ _ _⟩, ⟨by exact Kd.V_mono HO0.out (fun _ hk => ⟨hk, (by simp [Value.ownBlock])⟩)⟩, HB⟩
 case round =>
  clear H'; obtain ⟨x3_1, x8_1, rfl, HA, HK1, HO_3, HO_6, HB⟩ := hrel
  cases gk with
  | zero => exact absurd HA.out (by simp [credenzalaw08_groups.l0])
  | succ k1 =>
   have H := HA.out; clear HA; simp only [credenzalaw08_groups.l0] at H
   by_cases c2 : x8_1 < (l0.length : Int)
   ·
    rw [if_pos c2] at H; have c2b0 : decide (x8_1 < (l0.length : Int)) = true := decide_eq_true c2; clear c2; obtain ⟨c3, H⟩ := ifp H; have c3b0 : decide (0 ≤ x8_1) = true := decide_eq_true c3; clear c3; obtain ⟨c4, H⟩ := ifp H; have c4b0 : decide (x8_1 < (l0.length : Int)) = true := decide_eq_true c4; clear c4; obtain ⟨c5, H⟩ := ifp H; have LMc5 := Aside0.mk c5; clear c5; obtain ⟨y474, hy474⟩ : ∃ y_ : List (S98), y_ = (x3_1 ++ [(⟨(rd_T47 l0 x8_1).f0, (rd_T47 l0 x8_1).f1, (rd_T47 l0 x8_1).f2⟩ : S98)]) := ⟨_, rfl⟩; (replace H : (credenzalaw08_groups.l0 k1 y474 l0 (l0.length : Int) (wrap64 (x8_1 + 1))) = some r := by rw [hy474]; exact H); have Ny474 := Aside0.mk hy474; clear hy474; have H' := Aside0.mk H; clear H; have p472 : 0 ≤ (x8_1 : Int) := oD; have q472 : x8_1 < (l0.length : Int) := oD; obtain ⟨ad472, A472_2, c472_2, e472, hx472_0, hx472_1, hx472_2, hl472_2, hi472_2⟩ := at_T47 (Kd.V_reads' HO_6.out).2.2 x8_1 p472 q472
    cases e472
    obtain ⟨ce472, hce472, hMe472, hcc472⟩ := Kd.V_get HO_6.out z47 x8_1 p472 (by first | exact q472 | exact oD | (have e_ := (Kd.V_reads' HO_6.out).1; omega)); obtain ⟨ua472_2, uc472_2, rfl, ul472_2, ge472_2⟩ := k47_openF hMe472; have hv472_2 := hcc472 2 _ rfl; rw [add_field _ _ 2 (by omega)] at hv472_2; replace hv472_2 := Option.some.inj (hv472_2.symm.trans hx472_2); injection hv472_2 with hva_ hvn_ hvc_; rw [hva_] at ge472_2; rw [hvc_] at ul472_2; have HL472_2 := Aside0.mk (show Kd.V (Kd.int .i64) 3 _ w.heap.size _ _ ((rd_T47 l0 x8_1).f2) from Kd.V_mk ul472_2 ge472_2); clear hva_ hvn_ hvc_ ge472_2 ul472_2; clear hcc472 hce472; have HR472_2 := Aside0.mk hi472_2; have HC472_2 := Aside0.mk hl472_2; clear hi472_2 hl472_2; replace p472 := eq_true p472; replace q472 := eq_true q472
    go_wp2_with (first | ((with_reducible refine gate_dst (N := 5) rfl ?_); refine bxE 5 #[.int .i32 0, .int .u32 0, .slice none 0 0] 47 (h := ?_); intro gb473 hg w6 hbox hb; replace HO_3 := Aside0.mk (Kd.N_below (Kd.N_elderB HO_3.out gb473 (Nat.le_of_eq hg.symm)) hb); replace HO_6 := Aside0.mk (Kd.V_below (Kd.V_elderB HO_6.out gb473 (Nat.le_of_eq hg.symm)) hb); replace HL472_2 := Aside0.mk (Kd.V_below (Kd.V_elderB HL472_2.out gb473 (Nat.le_of_eq hg.symm)) hb); replace HR472_2 := Aside0.mk (Kd.C_below (by repeat (first | (with_reducible exact HR472_2.out) | (with_reducible refine Kd.C_alloc ?_ _) | (with_reducible refine Kd.C_drewN ?_ _) | (with_reducible refine Kd.C_drew ?_) | exact HR472_2.out)) hb); have BK473 := Aside0.mk (hbox); have GW473 := gE hg HB; have GE473 := gE hg HB; replace HB := bst HB hb; clear hb hbox hg; have hz7 := bx3 BK473.out) | ((with_reducible refine gate_store (t := 47) (p := 5) rfl ?_); refine store_event (t := 47) (p := 5) (v := ?vo_w8) (w1 := (((w6.setCell ⟨gb473, 0, none⟩ (.int .i32 ((rd_T47 l0 x8_1).f0))).setCell ⟨gb473, 1, none⟩ (.int .u32 ((rd_T47 l0 x8_1).f1))).setCell ⟨gb473, 2, none⟩ (.slice A472_2 ((rd_T47 l0 x8_1).f2).length c472_2))) ?hg ?ho ?hn ?hr ?_; (case ho => rfl); (case hg => rfl); (case hn => rfl); (case hr => first | (go_simp; done) | (go_simp; rfl)); intro w8 hw; have n0_ : Aside0 (Kd.N k98 98 w8 w.heap.size (fun k_ => (P0_ k_ ∨ w.heap.size ≤ k_) ∧ k_ ≠ gb473) u3 x3_1) := ⟨(by rw [hw]; exact (by (with_reducible repeat (first | apply Kd.N_alloc | apply Kd.N_drewN | apply Kd.N_drew)); exact Kd.N_mono (Kd.N_far (p := ⟨gb473, 2, none⟩) (Kd.N_far (p := ⟨gb473, 1, none⟩) (Kd.N_far (p := ⟨gb473, 0, none⟩) (Kd.N_mono HO_3.out (fun k_ hk => (⟨hk, hk.2⟩ : _ ∧ k_ ≠ gb473))) (fun _ hk => hk.2) (.int .i32 ((rd_T47 l0 x8_1).f0))) (fun _ hk => hk.2) (.int .u32 ((rd_T47 l0 x8_1).f1))) (fun _ hk => hk.2) (.slice A472_2 ((rd_T47 l0 x8_1).f2).length c472_2)) (fun _ hk => ⟨hk.1.1, hk.1.2⟩)))⟩; have n1_ : Aside0 (Kd.V k47 47 w8 w.heap.size (fun k_ => (P0_ k_ ∨ w.heap.size ≤ k_) ∧ some k_ ≠ (u3 : Value).ownBlock ∧ k_ ≠ gb473) (.slice (some ad472) l0.length c0) l0) := ⟨(by rw [hw]; exact (by (with_reducible repeat (first | apply Kd.V_alloc | apply Kd.V_drewN | apply Kd.V_drew)); exact Kd.V_mono (Kd.V_far (p := ⟨gb473, 2, none⟩) (Kd.V_far (p := ⟨gb473, 1, none⟩) (Kd.V_far (p := ⟨gb473, 0, none⟩) (Kd.V_mono HO_6.out (fun k_ hk => (⟨hk, hk.2⟩ : _ ∧ k_ ≠ gb473))) (fun _ hk => hk.2) (.int .i32 ((rd_T47 l0 x8_1).f0))) (fun _ hk => hk.2) (.int .u32 ((rd_T47 l0 x8_1).f1))) (fun _ hk => hk.2) (.slice A472_2 ((rd_T47 l0 x8_1).f2).length c472_2)) (fun _ hk => ⟨hk.1.1.1, ⟨hk.1.1.2, hk.1.2⟩⟩)))⟩; have n2_ : Aside0 (Kd.V (Kd.int .i64) 3 w8 w.heap.size (fun k_ => (P0_ k_ ∨ w.heap.size ≤ k_) ∧ some k_ ≠ (u3 : Value).ownBlock ∧ k_ ≠ gb473) (.slice A472_2 ((rd_T47 l0 x8_1).f2).length c472_2) ((rd_T47 l0 x8_1).f2)) := ⟨(by rw [hw]; exact (by (with_reducible repeat (first | apply Kd.V_alloc | apply Kd.V_drewN | apply Kd.V_drew)); exact Kd.V_mono (Kd.V_far (p := ⟨gb473, 2, none⟩) (Kd.V_far (p := ⟨gb473, 1, none⟩) (Kd.V_far (p := ⟨gb473, 0, none⟩) (Kd.V_mono HL472_2.out (fun k_ hk => (⟨hk, hk.2⟩ : _ ∧ k_ ≠ gb473))) (fun _ hk => hk.2) (.int .i32 ((rd_T47 l0 x8_1).f0))) (fun _ hk => hk.2) (.int .u32 ((rd_T47 l0 x8_1).f1))) (fun _ hk => hk.2) (.slice A472_2 ((rd_T47 l0 x8_1).f2).length c472_2)) (fun _ hk => ⟨hk.1.1.1, ⟨hk.1.1.2, hk.1.2⟩⟩)))⟩; have n3_ : Aside0 (w8.heap[gb473]? = some (.cells #[.int .i32 ((rd_T47 l0 x8_1).f0), .int .u32 ((rd_T47 l0 x8_1).f1), .slice A472_2 ((rd_T47 l0 x8_1).f2).length c472_2] 47 (0, 0))) := ⟨(by rw [hw]; exact (blk_put (blk_put (blk_put BK473.out 0 _ rfl) 1 _ rfl) 2 _ rfl))⟩; have n4_ : Aside0 (Below w.heap.size w w8) := ⟨(by rw [hw]; exact bZ)⟩; clear hw; clear HO_3; clear HO_6; clear HL472_2; clear BK473; clear HB; have HO_3 := n0_; have HO_6 := n1_; have HL472_2 := n2_; have BK473 := n3_; have HB := n4_; clear n0_ n1_ n2_ n3_ n4_; have hz9 := bx3 BK473.out) | ((with_reducible refine gate_builtin (b := .append) (xs := #[.tmp 12, .tmp 20]) rfl ?_); at_builtin; refine Kd.N_append k98 (w0 := w) w.heap.size rfl (.tmp 12) (.tmp 20) 53 98 (.agg #[(.int .i32 0), (.int .u32 0), (.slice none 0 0)]) 32 rfl Try.underlying53 info98 rfl (by decide) (by omega) u3 x3_1 (⟨(rd_T47 l0 x8_1).f0, (rd_T47 l0 x8_1).f1, (rd_T47 l0 x8_1).f2⟩ : S98) [.int .i32 ((rd_T47 l0 x8_1).f0), .int .u32 ((rd_T47 l0 x8_1).f1), .slice A472_2 ((rd_T47 l0 x8_1).f2).length c472_2] (fun k_ => (P0_ k_ ∨ w.heap.size ≤ k_) ∧ k_ ≠ gb473) (fun k_ => ((fun k_ => (P0_ k_ ∨ w.heap.size ≤ k_) ∧ k_ ≠ gb473)) k_ ∧ some k_ ≠ (u3 : Value).ownBlock) rfl rfl ?aP (fun _ hk => hk) ?aF ?aO ?aB ?aS ?aL ?_; (case aP => exact (k98_mkF _ _ (⟨(rd_T47 l0 x8_1).f0, (rd_T47 l0 x8_1).f1, (rd_T47 l0 x8_1).f2⟩ : S98) (Kd.V_reads' (Kd.V_mono (ok' := (fun k_ => ((fun k_ => (P0_ k_ ∨ w.heap.size ≤ k_) ∧ k_ ≠ gb473)) k_ ∧ some k_ ≠ (u3 : Value).ownBlock)) (HL472_2.out) (fun k_ hk => ⟨⟨hk.1, hk.2.2⟩, hk.2.1⟩))).2.1 (Kd.V_F (Kd.V_mono (ok' := (fun k_ => ((fun k_ => (P0_ k_ ∨ w.heap.size ≤ k_) ∧ k_ ≠ gb473)) k_ ∧ some k_ ≠ (u3 : Value).ownBlock)) (HL472_2.out) (fun k_ hk => ⟨⟨hk.1, hk.2.2⟩, hk.2.1⟩))))); (case aB => exact HB.out); (case aF => exact (fun k_ hk => ⟨(.inr (Nat.le_trans (bsz HB) hk)), Kd.freshB (g := gb473) (o := .cells #[.int .i32 ((rd_T47 l0 x8_1).f0), .int .u32 ((rd_T47 l0 x8_1).f1), .slice A472_2 ((rd_T47 l0 x8_1).f2).length c472_2] 47 (0, 0)) BK473.out k_ hk⟩)); (case aO => exact HO_3.out); (case aS => exact (bsz HB)); (case aL => have := LMc5.out; omega); intro v475 w10 ho hb hg hat; rw [← Ny474.out] at ho; have n0_ := Aside0.mk (Kd.V_afterv (ok := (fun k_ => (P0_ k_ ∨ w.heap.size ≤ k_) ∧ k_ ≠ gb473)) (by exact Kd.V_mono HO_6.out (fun _ hk => ⟨⟨hk.1, hk.2.2⟩, hk.2.1⟩)) hg hat); have n1_ := Aside0.mk (Kd.V_afterv (ok := (fun k_ => (P0_ k_ ∨ w.heap.size ≤ k_) ∧ k_ ≠ gb473)) (by exact Kd.V_mono HL472_2.out (fun _ hk => ⟨⟨hk.1, hk.2.2⟩, hk.2.1⟩)) hg hat); have n2_ := Aside0.mk (blk_grown (g := gb473) (o := .cells #[.int .i32 ((rd_T47 l0 x8_1).f0), .int .u32 ((rd_T47 l0 x8_1).f1), .slice A472_2 ((rd_T47 l0 x8_1).f2).length c472_2] 47 (0, 0)) BK473.out hg (Kd.N_ne HO_3.out BK473.out (by decide))); have n3_ := Aside0.mk (hb); have n4_ := Aside0.mk (ho); clear HO_6; clear HL472_2; clear BK473; clear HB; clear HO_3; have HO_6 := n0_; have HL472_2 := n1_; have BK473 := n2_; have HB := n3_; have HO476 := n4_; clear n0_ n1_ n2_ n3_ n4_; clear ho hb hg hat))
    go_roundg k1
    case measure => have := HK1.out; omega
    case rel => exact ⟨(y474), (wrap64 (x8_1 + 1)), rfl, H', ⟨by have := HK1.out; omega⟩, ⟨by exact Kd.N_mono HO476.out (fun _ hk => hk.1)⟩, ⟨by exact Kd.V_mono HO_6.out (fun _ hk => ⟨hk.1.1, hk.2⟩)⟩, HB⟩
   ·
    rw [if_neg c2] at H; have c2b0 : decide (x8_1 < (l0.length : Int)) = false := decide_eq_false c2; clear c2; obtain rfl := Option.some.inj H
    go_wp2
    go_ret
    exact ⟨_, rfl, HO_3.out, HB.out⟩

end Go.Proofs.Ytekenaclmplocaa.PPageQuantizes
