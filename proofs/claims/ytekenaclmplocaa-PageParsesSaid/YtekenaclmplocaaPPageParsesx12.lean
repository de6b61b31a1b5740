-- Written by a program of this session (wip/tools/mkprint.py over the kit's print).
import Derived.Test.YtekenaclmplocaaPPageParsesx0
import Derived.Test.YtekenaclmplocaaPPageParsesx11
namespace Go.Proofs.Ytekenaclmplocaa.PPageParses
open Go.RowKit Go.Proofs.YtekenaclmplocaaW.PrintWords Go.Proofs.YtekenaclmplocaaW.PrintLast Go.Proofs.YtekenaclmplocaaW.PrintMore
attribute [local go_sem] max2_int min2_int max_two min_two max_three min_three max_four min_four
set_option linter.unusedVariables false
set_option maxHeartbeats 8000000
set_option maxRecDepth 100000
set_option linter.unusedSimpArgs false

def F18.f (l0 : List (S75)) (a1 : Int) (a2 : Int) : Option (Int) := (F44.f l0 a1 a2).bind fun t342 => (if t342 = true then (if 0 < (l0.length : Int) then (if 0 ≤ a2 then (if a2 < (((rd_T75 l0 0).f1).length : Int) then ((F45.f ((rd_T82 ((rd_T75 l0 0).f1) a2).f0.f0) ((rd_T82 ((rd_T75 l0 0).f1) a2).f0.f1) ((rd_T82 ((rd_T75 l0 0).f1) a2).f0.f2) ((rd_T82 ((rd_T75 l0 0).f1) a2).f1) a1 ((rd_T75 l0 0).f0.f0)).bind fun t346 => (some t346)) else (none)) else (none)) else (none)) else (some 0))
def F18.T3 : Bool × List (List Nat × List Nat) := (true, [([], []), ([0], [0]), ([1], [1]), ([2], [2]), ([], []), ([3, 4], [3, 4]), ([5], [5]), ([], []), ([], []), ([8], [8]), ([9], [9]), ([10], [10]), ([11], [11]), ([6, 7, 12], [6, 7, 12]), ([13, 13, 0, 1, 2, 3, 4, 5, 6, 7, 8, 9, 10, 11, 12, 13], [13])])
def F18.B3 : List Nat := [0, 1, 3, 7, 0, 31, 63, 0, 0, 256, 768, 1792, 3840, 8191, 16383]
theorem F18.tab3 : rtab .any (opsOf Try.f18 3) = F18.T3 := by kernel_rfl
theorem F18.bits3 : waitsOk F18.T3.2 F18.B3 = true := by kernel_rfl
theorem F18.calls (A0 : Option Addr) (c0 : Nat) (l0 : List (S75)) (a1 : Int) (a2 : Int) (r : Int) (w : World) (hr0 : Kd.C k75 w A0 l0.length l0) (hc0 : l0.length ≤ c0) (h : F18.f l0 a1 a2 = some r) :
  Calls Try.prog 18 #[asPtr (.slice A0 l0.length c0), .int .i64 a1, .int .i64 a2] w fun e w' => e = .returned (.int .i32 r) ∧ Below w.heap.size w w' := by
 have hu82 := Try.underlying82; have HR0 := aM hr0; have HC0 := aM hc0; clear hr0 hc0; have HB := aM (Below.refl w.heap.size w); have H := h; clear h; unfold F18.f at H; obtain ⟨t342, A4, H⟩ := bnd H
 by_cases c5 : t342 = true
 ·
  subst c5; rw [if_pos rfl] at H; obtain ⟨c6, H⟩ := ifp H; have c6b0 : decide (0 < (l0.length : Int)) = true := dT c6; have c6b1 : decide (0 < l0.length) = true := dT (by omega); clear c6; obtain ⟨c7, H⟩ := ifp H; have c7b0 : decide (0 ≤ a2) = true := dT c7; clear c7; obtain ⟨c8, H⟩ := ifp H; have c8b0 : decide (a2 < (((rd_T75 l0 0).f1).length : Int)) = true := dT c8; clear c8; obtain ⟨t346, A9, H⟩ := bnd H; obtain rfl := oI H
  go_enter Try.func18, Try.ntmps18
  try go_wp2_with (first | ((with_reducible refine gate_callee (f := 44) rfl ?_); refine gL 10 Try.func44 #[asPtr (.slice A0 l0.length c0), .int .i64 a1, .int .i64 a2] (h := ?_); (with_reducible refine (F44.calls _ _ l0 a1 a2 true _ ?side1 ?side2 A4.out).mono ?_); (case side1 => with_reducible exact HR0.out); (case side2 => exact HC0.out); rintro e w' ⟨rfl, ⟨nd, rfl⟩⟩; refine ⟨_, rfl, ?_⟩))
  (try simp only [World.drewN_drewN]); generalize hq_ : World.drewN w _ = w10; have n0_ : Aside0 (Below w.heap.size w w10) := ⟨by rw [← hq_]; exact pw_below_drewN HB.out _⟩; clear hq_ HB; have HB := n0_; clear n0_; replace HB := aM (below_drew1 HB.out); have p343 : 0 ≤ (0 : Int) := (by omega); have q343 : 0 < (l0.length : Int) := oD; obtain ⟨ad343, A343_7, c343_7, A343_8, c343_8, e343, _, _, _, _, _, _, _, hx343_7, _, hl343_7, hi343_7, _, _⟩ := at_T75 HR0.out 0 p343 q343; have hw343_7 := hx343_7; (try rw [show ((0 : Int)).toNat = 0 from rfl] at hw343_7); (try rw [show 0 * 9 = 0 from rfl] at hw343_7); (try rw [Addr.add_zero'] at hw343_7)
  cases e343
  have qi343 : (0 < l0.length) = True := eq_true (by omega); (try rw [show ((0 : Int)).toNat = 0 from rfl] at hx343_7); (try rw [show 0 * 9 = 0 from rfl] at hx343_7); (try rw [Addr.add_zero'] at hx343_7); replace hx343_7 := cU HB hx343_7; have HR343_7 := aM hi343_7; have HC343_7 := aM hl343_7; clear hi343_7 hl343_7; replace p343 := eq_true p343; replace q343 := eq_true q343; have hP343 : asPtr (.slice (some ad343) l0.length c0) = .pointer (some ad343) := asPtr_some oD; have p344 : 0 ≤ (a2 : Int) := oD; have q344 : a2 < (((rd_T75 l0 0).f1).length : Int) := oD; obtain ⟨ad344, A344_2, c344_2, A344_3, c344_3, e344, hx344_0, hx344_1, hx344_2, hx344_3, hl344_2, hi344_2, hl344_3, hi344_3⟩ := at_T82 HR343_7.out a2 p344 q344; have hw344_3 := hx344_3; have hw344_2 := hx344_2; have hw344_1 := hx344_1; have hw344_0 := hx344_0
  cases e344
  replace hx344_0 := cU HB hx344_0; replace hx344_1 := cU HB hx344_1; replace hx344_2 := cU HB hx344_2; replace hx344_3 := cU HB hx344_3; have HR344_2 := aM hi344_2; have HC344_2 := aM hl344_2; clear hi344_2 hl344_2; have HR344_3 := aM hi344_3; have HC344_3 := aM hl344_3; clear hi344_3 hl344_3; replace p344 := eq_true p344; replace q344 := eq_true q344; have p345 : 0 ≤ (0 : Int) := (by omega); have q345 : 0 < (l0.length : Int) := oD; obtain ⟨ad345, A345_7, c345_7, A345_8, c345_8, e345, hx345_0, _, _, _, _, _, _, _, _, _, _, _, _⟩ := at_T75 HR0.out 0 p345 q345; have hw345_0 := hx345_0; (try rw [show ((0 : Int)).toNat = 0 from rfl] at hw345_0); (try rw [show 0 * 9 = 0 from rfl] at hw345_0); (try rw [Addr.add_zero'] at hw345_0); obtain rfl : ad343 = ad345 := (by injection e345); have qi345 : (0 < l0.length) = True := eq_true (by omega); (try rw [show ((0 : Int)).toNat = 0 from rfl] at hx345_0); (try rw [show 0 * 9 = 0 from rfl] at hx345_0); (try rw [Addr.add_zero'] at hx345_0); replace hx345_0 := cU HB hx345_0; replace p345 := eq_true p345; replace q345 := eq_true q345; have hP345 : asPtr (.slice (some ad343) l0.length c0) = .pointer (some ad343) := asPtr_some oD
  refine start_ (n := 15) (S := fun w' => w'.cell? ⟨ad343.block, ad343.off + 7, none⟩ = some (.slice (some ad344) ((rd_T75 l0 0).f1).length c343_7) ∧ w'.cell? (ad344.add ((a2).toNat * 4)) = some (.int .i32 ((rd_T82 ((rd_T75 l0 0).f1) a2).f0.f0)) ∧ w'.cell? ⟨(ad344.add ((a2).toNat * 4)).block, (ad344.add ((a2).toNat * 4)).off + 1, none⟩ = some (.int .u32 ((rd_T82 ((rd_T75 l0 0).f1) a2).f0.f1)) ∧ w'.cell? ⟨(ad344.add ((a2).toNat * 4)).block, (ad344.add ((a2).toNat * 4)).off + 2, none⟩ = some (.slice A344_2 ((rd_T82 ((rd_T75 l0 0).f1) a2).f0.f2).length c344_2) ∧ w'.cell? ⟨(ad344.add ((a2).toNat * 4)).block, (ad344.add ((a2).toNat * 4)).off + 3, none⟩ = some (.slice A344_3 ((rd_T82 ((rd_T75 l0 0).f1) a2).f1).length c344_3) ∧ w'.cell? ad343 = some (.int .i64 ((rd_T75 l0 0).f0.f0))) (ds := []) (bA 15 0) (by kernel_rfl) rfl (by kernel_rfl) ⟨(cU HB hw343_7 :), (cU HB hw344_0 :), (cU HB hw344_1 :), (cU HB hw344_2 :), (cU HB hw344_3 :), (cU HB hw345_0 :)⟩ (fun hHeld => ?_); refine with_tabW F18.tab3 F18.bits3 (fun HT_ HW_ => ?_)
  generalize w10.drew = w11 at HB HR343_7 HR344_2 HR344_3 hx343_7 hx344_0 hx344_1 hx344_2 hx344_3 hx345_0 hHeld ⊢
  refine pT 15 0 12 1 HT_ (h := ?_)
  refine pT 15 1 13 3 HT_ (h := ?_)
  refine pT 15 2 14 7 HT_ (h := ?_)
  refine pT 15 4 16 23 HT_ (h := ?_)
  refine pT 15 7 19 151 HT_ (h := ?_)
  refine pT 15 8 20 407 HT_ (h := ?_)
  refine pT 15 9 21 919 HT_ (h := ?_)
  refine pT 15 10 22 1943 HT_ (h := ?_)
  refine pT 15 11 23 3991 HT_ (h := ?_)
  refine tT 15 3 15 3999 HT_ HW_ hHeld (h := ?_)
  refine pT 15 5 17 4031 HT_ (h := ?_)
  refine tT 15 6 18 4095 HT_ HW_ hHeld (h := ?_)
  refine tT 15 12 24 8191 HT_ HW_ hHeld (h := ?_)
  refine one_ (i := 13) (N := some 25) (bA 15 16383) rfl rfl (one_of HT_.out (by kernel_rfl)) (by decide) (fun K hK => ?_)
  refine gA Try.func45 #[.agg #[.int .i32 ((rd_T82 ((rd_T75 l0 0).f1) a2).f0.f0), .int .u32 ((rd_T82 ((rd_T75 l0 0).f1) a2).f0.f1), .slice A344_2 ((rd_T82 ((rd_T75 l0 0).f1) a2).f0.f2).length c344_2, .slice A344_3 ((rd_T82 ((rd_T75 l0 0).f1) a2).f1).length c344_3], .int .i64 a1, .int .i64 ((rd_T75 l0 0).f0.f0)] (h := ?_)
  with_reducible refine (F45.calls ((rd_T82 ((rd_T75 l0 0).f1) a2).f0.f0) ((rd_T82 ((rd_T75 l0 0).f1) a2).f0.f1) _ _ ((rd_T82 ((rd_T75 l0 0).f1) a2).f0.f2) _ _ ((rd_T82 ((rd_T75 l0 0).f1) a2).f1) a1 ((rd_T75 l0 0).f0.f0) t346 _ ?side1 ?side2 ?side3 ?side4 A9.out).mono ?_
  (case side1 => with_reducible exact (Kd.C_below HR344_2.out HB.out)); (case side2 => exact HC344_2.out); (case side3 => with_reducible exact (Kd.C_below HR344_3.out HB.out)); (case side4 => exact HC344_3.out); rintro e w12 ⟨rfl, hb⟩
  refine ⟨_, rfl, ?_⟩
  replace HB := aM (below_step bZ hb); (try clear hb); (try clear hb2); (try clear hk); (try clear hi)
  refine hK.out _ _ ⟨(cU HB hw343_7 :), (cU HB hw344_0 :), (cU HB hw344_1 :), (cU HB hw344_2 :), (cU HB hw344_3 :), (cU HB hw345_0 :)⟩ (fun hHeld => ?_)
  clear hK K
  refine nT 25 (h := ?_)
  refine pT 15 14 6 32767 HT_ (h := ?_)
  refine done_ (done_of HT_.out (by kernel_rfl)) ?_
  try go_wp2
  go_ret
  exact ⟨rfl, HB.out⟩
 ·
  replace c5 := Bool.eq_false_iff.mpr c5; subst c5; rw [if_neg (show ¬ (false = true) by decide)] at H; obtain rfl := oI H
  go_enter Try.func18, Try.ntmps18
  go_wp2_with (first | ((with_reducible refine gate_callee (f := 44) rfl ?_); refine gL 10 Try.func44 #[asPtr (.slice A0 l0.length c0), .int .i64 a1, .int .i64 a2] (h := ?_); (with_reducible refine (F44.calls _ _ l0 a1 a2 false _ ?side1 ?side2 A4.out).mono ?_); (case side1 => with_reducible exact HR0.out); (case side2 => exact HC0.out); rintro e w' ⟨rfl, ⟨nd, rfl⟩⟩; refine ⟨_, rfl, ?_⟩))
  go_ret
  exact ⟨rfl, bZ⟩

def F19.f (l0 : List (S75)) (a1 : Int) (a2 : Int) : Option (Int) := (F44.f l0 a1 a2).bind fun t347 => (if t347 = true then (if 0 < (l0.length : Int) then (if 0 ≤ a1 then (if a1 < (((rd_T75 l0 0).f2).length : Int) then ((F45.f ((rd_T82 ((rd_T75 l0 0).f2) a1).f0.f0) ((rd_T82 ((rd_T75 l0 0).f2) a1).f0.f1) ((rd_T82 ((rd_T75 l0 0).f2) a1).f0.f2) ((rd_T82 ((rd_T75 l0 0).f2) a1).f1) a2 ((rd_T75 l0 0).f0.f1)).bind fun t351 => (some t351)) else (none)) else (none)) else (none)) else (some 0))
def F19.T3 : Bool × List (List Nat × List Nat) := (true, [([], []), ([0], [0]), ([1], [1]), ([2], [2]), ([], []), ([3, 4], [3, 4]), ([5], [5]), ([], []), ([], []), ([8], [8]), ([9], [9]), ([10], [10]), ([11], [11]), ([6, 7, 12], [6, 7, 12]), ([13, 13, 0, 1, 2, 3, 4, 5, 6, 7, 8, 9, 10, 11, 12, 13], [13])])
def F19.B3 : List Nat := [0, 1, 3, 7, 0, 31, 63, 0, 0, 256, 768, 1792, 3840, 8191, 16383]
theorem F19.tab3 : rtab .any (opsOf Try.f19 3) = F19.T3 := by kernel_rfl
theorem F19.bits3 : waitsOk F19.T3.2 F19.B3 = true := by kernel_rfl
theorem F19.calls (A0 : Option Addr) (c0 : Nat) (l0 : List (S75)) (a1 : Int) (a2 : Int) (r : Int) (w : World) (hr0 : Kd.C k75 w A0 l0.length l0) (hc0 : l0.length ≤ c0) (h : F19.f l0 a1 a2 = some r) :
  Calls Try.prog 19 #[asPtr (.slice A0 l0.length c0), .int .i64 a1, .int .i64 a2] w fun e w' => e = .returned (.int .i32 r) ∧ Below w.heap.size w w' := by
 have hu82 := Try.underlying82; have HR0 := aM hr0; have HC0 := aM hc0; clear hr0 hc0; have HB := aM (Below.refl w.heap.size w); have H := h; clear h; unfold F19.f at H; obtain ⟨t347, A4, H⟩ := bnd H
 by_cases c5 : t347 = true
 ·
  subst c5; rw [if_pos rfl] at H; obtain ⟨c6, H⟩ := ifp H; have c6b0 : decide (0 < (l0.length : Int)) = true := dT c6; have c6b1 : decide (0 < l0.length) = true := dT (by omega); clear c6; obtain ⟨c7, H⟩ := ifp H; have c7b0 : decide (0 ≤ a1) = true := dT c7; clear c7; obtain ⟨c8, H⟩ := ifp H; have c8b0 : decide (a1 < (((rd_T75 l0 0).f2).length : Int)) = true := dT c8; clear c8; obtain ⟨t351, A9, H⟩ := bnd H; obtain rfl := oI H
  go_enter Try.func19, Try.ntmps19
  try go_wp2_with (first | ((with_reducible refine gate_callee (f := 44) rfl ?_); refine gL 10 Try.func44 #[asPtr (.slice A0 l0.length c0), .int .i64 a1, .int .i64 a2] (h := ?_); (with_reducible refine (F44.calls _ _ l0 a1 a2 true _ ?side1 ?side2 A4.out).mono ?_); (case side1 => with_reducible exact HR0.out); (case side2 => exact HC0.out); rintro e w' ⟨rfl, ⟨nd, rfl⟩⟩; refine ⟨_, rfl, ?_⟩))
  (try simp only [World.drewN_drewN]); generalize hq_ : World.drewN w _ = w10; have n0_ : Aside0 (Below w.heap.size w w10) := ⟨by rw [← hq_]; exact pw_below_drewN HB.out _⟩; clear hq_ HB; have HB := n0_; clear n0_; replace HB := aM (below_drew1 HB.out); have p348 : 0 ≤ (0 : Int) := (by omega); have q348 : 0 < (l0.length : Int) := oD; obtain ⟨ad348, A348_7, c348_7, A348_8, c348_8, e348, _, _, _, _, _, _, _, _, hx348_8, _, _, hl348_8, hi348_8⟩ := at_T75 HR0.out 0 p348 q348; have hw348_8 := hx348_8; (try rw [show ((0 : Int)).toNat = 0 from rfl] at hw348_8); (try rw [show 0 * 9 = 0 from rfl] at hw348_8); (try rw [Addr.add_zero'] at hw348_8)
  cases e348
  have qi348 : (0 < l0.length) = True := eq_true (by omega); (try rw [show ((0 : Int)).toNat = 0 from rfl] at hx348_8); (try rw [show 0 * 9 = 0 from rfl] at hx348_8); (try rw [Addr.add_zero'] at hx348_8); replace hx348_8 := cU HB hx348_8; have HR348_8 := aM hi348_8; have HC348_8 := aM hl348_8; clear hi348_8 hl348_8; replace p348 := eq_true p348; replace q348 := eq_true q348; have hP348 : asPtr (.slice (some ad348) l0.length c0) = .pointer (some ad348) := asPtr_some oD; have p349 : 0 ≤ (a1 : Int) := oD; have q349 : a1 < (((rd_T75 l0 0).f2).length : Int) := oD; obtain ⟨ad349, A349_2, c349_2, A349_3, c349_3, e349, hx349_0, hx349_1, hx349_2, hx349_3, hl349_2, hi349_2, hl349_3, hi349_3⟩ := at_T82 HR348_8.out a1 p349 q349; have hw349_3 := hx349_3; have hw349_2 := hx349_2; have hw349_1 := hx349_1; have hw349_0 := hx349_0
  cases e349
  replace hx349_0 := cU HB hx349_0; replace hx349_1 := cU HB hx349_1; replace hx349_2 := cU HB hx349_2; replace hx349_3 := cU HB hx349_3; have HR349_2 := aM hi349_2; have HC349_2 := aM hl349_2; clear hi349_2 hl349_2; have HR349_3 := aM hi349_3; have HC349_3 := aM hl349_3; clear hi349_3 hl349_3; replace p349 := eq_true p349; replace q349 := eq_true q349; have p350 : 0 ≤ (0 : Int) := (by omega); have q350 : 0 < (l0.length : Int) := oD; obtain ⟨ad350, A350_7, c350_7, A350_8, c350_8, e350, _, hx350_1, _, _, _, _, _, _, _, _, _, _, _⟩ := at_T75 HR0.out 0 p350 q350; have hw350_1 := hx350_1; (try rw [show ((0 : Int)).toNat = 0 from rfl] at hw350_1); (try rw [show 0 * 9 = 0 from rfl] at hw350_1); (try rw [Addr.add_zero'] at hw350_1); obtain rfl : ad348 = ad350 := (by injection e350); have qi350 : (0 < l0.length) = True := eq_true (by omega); (try rw [show ((0 : Int)).toNat = 0 from rfl] at hx350_1); (try rw [show 0 * 9 = 0 from rfl] at hx350_1); (try rw [Addr.add_zero'] at hx350_1); replace hx350_1 := cU HB hx350_1; replace p350 := eq_true p350; replace q350 := eq_true q350; have hP350 : asPtr (.slice (some ad348) l0.length c0) = .pointer (some ad348) := asPtr_some oD
  refine start_ (n := 15) (S := fun w' => w'.cell? ⟨ad348.block, ad348.off + 8, none⟩ = some (.slice (some ad349) ((rd_T75 l0 0).f2).length c348_8) ∧ w'.cell? (ad349.add ((a1).toNat * 4)) = some (.int .i32 ((rd_T82 ((rd_T75 l0 0).f2) a1).f0.f0)) ∧ w'.cell? ⟨(ad349.add ((a1).toNat * 4)).block, (ad349.add ((a1).toNat * 4)).off + 1, none⟩ = some (.int .u32 ((rd_T82 ((rd_T75 l0 0).f2) a1).f0.f1)) ∧ w'.cell? ⟨(ad349.add ((a1).toNat * 4)).block, (ad349.add ((a1).toNat * 4)).off + 2, none⟩ = some (.slice A349_2 ((rd_T82 ((rd_T75 l0 0).f2) a1).f0.f2).length c349_2) ∧ w'.cell? ⟨(ad349.add ((a1).toNat * 4)).block, (ad349.add ((a1).toNat * 4)).off + 3, none⟩ = some (.slice A349_3 ((rd_T82 ((rd_T75 l0 0).f2) a1).f1).length c349_3) ∧ w'.cell? ⟨ad348.block, ad348.off + 1, none⟩ = some (.int .i64 ((rd_T75 l0 0).f0.f1))) (ds := []) (bA 15 0) (by kernel_rfl) rfl (by kernel_rfl) ⟨(cU HB hw348_8 :), (cU HB hw349_0 :), (cU HB hw349_1 :), (cU HB hw349_2 :), (cU HB hw349_3 :), (cU HB hw350_1 :)⟩ (fun hHeld => ?_); refine with_tabW F19.tab3 F19.bits3 (fun HT_ HW_ => ?_)
  generalize w10.drew = w11 at HB HR348_8 HR349_2 HR349_3 hx348_8 hx349_0 hx349_1 hx349_2 hx349_3 hx350_1 hHeld ⊢
  refine pT 15 0 12 1 HT_ (h := ?_)
  refine pT 15 1 13 3 HT_ (h := ?_)
  refine pT 15 2 14 7 HT_ (h := ?_)
  refine pT 15 4 16 23 HT_ (h := ?_)
  refine pT 15 7 19 151 HT_ (h := ?_)
  refine pT 15 8 20 407 HT_ (h := ?_)
  refine pT 15 9 21 919 HT_ (h := ?_)
  refine pT 15 10 22 1943 HT_ (h := ?_)
  refine pT 15 11 23 3991 HT_ (h := ?_)
  refine tT 15 3 15 3999 HT_ HW_ hHeld (h := ?_)
  refine pT 15 5 17 4031 HT_ (h := ?_)
  refine tT 15 6 18 4095 HT_ HW_ hHeld (h := ?_)
  refine tT 15 12 24 8191 HT_ HW_ hHeld (h := ?_)
  refine one_ (i := 13) (N := some 25) (bA 15 16383) rfl rfl (one_of HT_.out (by kernel_rfl)) (by decide) (fun K hK => ?_)
  refine gA Try.func45 #[.agg #[.int .i32 ((rd_T82 ((rd_T75 l0 0).f2) a1).f0.f0), .int .u32 ((rd_T82 ((rd_T75 l0 0).f2) a1).f0.f1), .slice A349_2 ((rd_T82 ((rd_T75 l0 0).f2) a1).f0.f2).length c349_2, .slice A349_3 ((rd_T82 ((rd_T75 l0 0).f2) a1).f1).length c349_3], .int .i64 a2, .int .i64 ((rd_T75 l0 0).f0.f1)] (h := ?_)
  with_reducible refine (F45.calls ((rd_T82 ((rd_T75 l0 0).f2) a1).f0.f0) ((rd_T82 ((rd_T75 l0 0).f2) a1).f0.f1) _ _ ((rd_T82 ((rd_T75 l0 0).f2) a1).f0.f2) _ _ ((rd_T82 ((rd_T75 l0 0).f2) a1).f1) a2 ((rd_T75 l0 0).f0.f1) t351 _ ?side1 ?side2 ?side3 ?side4 A9.out).mono ?_
  (case side1 => with_reducible exact (Kd.C_below HR349_2.out HB.out)); (case side2 => exact HC349_2.out); (case side3 => with_reducible exact (Kd.C_below HR349_3.out HB.out)); (case side4 => exact HC349_3.out); rintro e w12 ⟨rfl, hb⟩
  refine ⟨_, rfl, ?_⟩
  replace HB := aM (below_step bZ hb); (try clear hb); (try clear hb2); (try clear hk); (try clear hi)
  refine hK.out _ _ ⟨(cU HB hw348_8 :), (cU HB hw349_0 :), (cU HB hw349_1 :), (cU HB hw349_2 :), (cU HB hw349_3 :), (cU HB hw350_1 :)⟩ (fun hHeld => ?_)
  clear hK K
  refine nT 25 (h := ?_)
  refine pT 15 14 6 32767 HT_ (h := ?_)
  refine done_ (done_of HT_.out (by kernel_rfl)) ?_
  try go_wp2
  go_ret
  exact ⟨rfl, HB.out⟩
 ·
  replace c5 := Bool.eq_false_iff.mpr c5; subst c5; rw [if_neg (show ¬ (false = true) by decide)] at H; obtain rfl := oI H
  go_enter Try.func19, Try.ntmps19
  go_wp2_with (first | ((with_reducible refine gate_callee (f := 44) rfl ?_); refine gL 10 Try.func44 #[asPtr (.slice A0 l0.length c0), .int .i64 a1, .int .i64 a2] (h := ?_); (with_reducible refine (F44.calls _ _ l0 a1 a2 false _ ?side1 ?side2 A4.out).mono ?_); (case side1 => with_reducible exact HR0.out); (case side2 => exact HC0.out); rintro e w' ⟨rfl, ⟨nd, rfl⟩⟩; refine ⟨_, rfl, ?_⟩))
  go_ret
  exact ⟨rfl, bZ⟩

end Go.Proofs.Ytekenaclmplocaa.PPageParses
