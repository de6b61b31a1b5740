-- Written by a program of this session (wip/tools/mkprint.py over the kit's print).
import Derived.Test.YtekenaclmplocaaPPageNewx0
import Derived.Test.YtekenaclmplocaaPPageNewx11
namespace Go.Proofs.Ytekenaclmplocaa.PPageNew
open Go.RowKit Go.Proofs.YtekenaclmplocaaW.PrintWords Go.Proofs.YtekenaclmplocaaW.PrintLast Go.Proofs.YtekenaclmplocaaW.PrintMore
attribute [local go_sem] max2_int min2_int max_two min_two max_three min_three max_four min_four
set_option linter.unusedVariables false
set_option maxHeartbeats 8000000
set_option maxRecDepth 100000
set_option linter.unusedSimpArgs false

def F18.f (l0 : List (S75)) (a1 : Int) (a2 : Int) : Option (Int) := (F44.f l0 a1 a2).bind fun t347 => (if t347 = true then (if 0 < (l0.length : Int) then (if 0 ≤ a2 then (if a2 < (((rd_T75 l0 0).f1).length : Int) then ((F45.f ((rd_T82 ((rd_T75 l0 0).f1) a2).f0.f0) ((rd_T82 ((rd_T75 l0 0).f1) a2).f0.f1) ((rd_T82 ((rd_T75 l0 0).f1) a2).f0.f2) ((rd_T82 ((rd_T75 l0 0).f1) a2).f1) a1 ((rd_T75 l0 0).f0.f0)).bind fun t351 => (some t351)) else (none)) else (none)) else (none)) else (some 0))
def F18.T3 : Bool × List (List Nat × List Nat) := (true, [([], []), ([0], [0]), ([1], [1]), ([2], [2]), ([], []), ([3, 4], [3, 4]), ([5], [5]), ([], []), ([], []), ([8], [8]), ([9], [9]), ([10], [10]), ([11], [11]), ([6, 7, 12], [6, 7, 12]), ([13, 13, 0, 1, 2, 3, 4, 5, 6, 7, 8, 9, 10, 11, 12, 13], [13])])
def F18.B3 : List Nat := [0, 1, 3, 7, 0, 31, 63, 0, 0, 256, 768, 1792, 3840, 8191, 16383]
theorem F18.tab3 : rtab .any (opsOf Try.f18 3) = F18.T3 := by kernel_rfl
theorem F18.bits3 : waitsOk F18.T3.2 F18.B3 = true := by kernel_rfl
theorem F18.calls (A0 : Option Addr) (c0 : Nat) (l0 : List (S75)) (a1 : Int) (a2 : Int) (r : Int) (w : World) (hr0 : Kd.C k75 w A0 l0.length l0) (hc0 : l0.length ≤ c0) (h : F18.f l0 a1 a2 = some r) :
  Calls Try.prog 18 #[asPtr (.slice A0 l0.length c0), .int .i64 a1, .int .i64 a2] w fun e w' => e = .returned (.int .i32 r) ∧ Below w.heap.size w w' := by
 have hu82 := Try.underlying82; have HR0 := aM hr0; have HC0 := aM hc0; clear hr0 hc0; have HB := aM (Below.refl w.heap.size w); have H := h; clear h; unfold F18.f at H; obtain ⟨t347, A4, H⟩ := bnd H
 by_cases c5 : t347 = true
 ·
  subst c5; rw [if_pos rfl] at H; obtain ⟨c6, H⟩ := ifp H; have c6b0 : decide (0 < (l0.length : Int)) = true := dT c6; have c6b1 : decide (0 < l0.length) = true := dT (by omega); clear c6; obtain ⟨c7, H⟩ := ifp H; have c7b0 : decide (0 ≤ a2) = true := dT c7; clear c7; obtain ⟨c8, H⟩ := ifp H; have c8b0 : decide (a2 < (((rd_T75 l0 0).f1).length : Int)) = true := dT c8; clear c8; obtain ⟨t351, A9, H⟩ := bnd H; obtain rfl := oI H
  go_enter Try.func18, Try.ntmps18
  try go_wp2_with (first | ((with_reducible refine gate_callee (f := 44) rfl ?_); refine gL 10 Try.func44 #[asPtr (.slice A0 l0.length c0), .int .i64 a1, .int .i64 a2] (h := ?_); (with_reducible refine (F44.calls _ _ l0 a1 a2 true _ ?side1 ?side2 A4.out).mono ?_); (case side1 => with_reducible exact HR0.out); (case side2 => exact HC0.out); rintro e w' ⟨rfl, ⟨nd, rfl⟩⟩; refine ⟨_, rfl, ?_⟩))
  (try simp only [World.drewN_drewN]); generalize hq_ : World.drewN w _ = w10; have n0_ : Aside0 (Below w.heap.size w w10) := ⟨by rw [← hq_]; exact pw_below_drewN HB.out _⟩; clear hq_ HB; have HB := n0_; clear n0_; replace HB := aM (below_drew1 HB.out); have p348 : 0 ≤ (0 : Int) := (by omega); have q348 : 0 < (l0.length : Int) := oD; obtain ⟨ad348, A348_7, c348_7, A348_8, c348_8, e348, _, _, _, _, _, _, _, hx348_7, _, hl348_7, hi348_7, _, _⟩ := at_T75 HR0.out 0 p348 q348; have hw348_7 := hx348_7; (try rw [show ((0 : Int)).toNat = 0 from rfl] at hw348_7); (try rw [show 0 * 9 = 0 from rfl] at hw348_7); (try rw [Addr.add_zero'] at hw348_7)
  cases e348
  have qi348 : (0 < l0.length) = True := eq_true (by omega); (try rw [show ((0 : Int)).toNat = 0 from rfl] at hx348_7); (try rw [show 0 * 9 = 0 from rfl] at hx348_7); (try rw [Addr.add_zero'] at hx348_7); replace hx348_7 := cU HB hx348_7; have HR348_7 := aM hi348_7; have HC348_7 := aM hl348_7; clear hi348_7 hl348_7; replace p348 := eq_true p348; replace q348 := eq_true q348; have hP348 : asPtr (.slice (some ad348) l0.length c0) = .pointer (some ad348) := asPtr_some oD; have p349 : 0 ≤ (a2 : Int) := oD; have q349 : a2 < (((rd_T75 l0 0).f1).length : Int) := oD; obtain ⟨ad349, A349_2, c349_2, A349_3, c349_3, e349, hx349_0, hx349_1, hx349_2, hx349_3, hl349_2, hi349_2, hl349_3, hi349_3⟩ := at_T82 HR348_7.out a2 p349 q349; have hw349_3 := hx349_3; have hw349_2 := hx349_2; have hw349_1 := hx349_1; have hw349_0 := hx349_0
  cases e349
  replace hx349_0 := cU HB hx349_0; replace hx349_1 := cU HB hx349_1; replace hx349_2 := cU HB hx349_2; replace hx349_3 := cU HB hx349_3; have HR349_2 := aM hi349_2; have HC349_2 := aM hl349_2; clear hi349_2 hl349_2; have HR349_3 := aM hi349_3; have HC349_3 := aM hl349_3; clear hi349_3 hl349_3; replace p349 := eq_true p349; replace q349 := eq_true q349; have p350 : 0 ≤ (0 : Int) := (by omega); have q350 : 0 < (l0.length : Int) := oD; obtain ⟨ad350, A350_7, c350_7, A350_8, c350_8, e350, hx350_0, _, _, _, _, _, _, _, _, _, _, _, _⟩ := at_T75 HR0.out 0 p350 q350; have hw350_0 := hx350_0; (try rw [show ((0 : Int)).toNat = 0 from rfl] at hw350_0); (try rw [show 0 * 9 = 0 from rfl] at hw350_0); (try rw [Addr.add_zero'] at hw350_0); obtain rfl : ad348 = ad350 := (by injection e350); have qi350 : (0 < l0.length) = True := eq_true (by omega); (try rw [show ((0 : Int)).toNat = 0 from rfl] at hx350_0); (try rw [show 0 * 9 = 0 from rfl] at hx350_0); (try rw [Addr.add_zero'] at hx350_0); replace hx350_0 := cU HB hx350_0; replace p350 := eq_true p350; replace q350 := eq_true q350; have hP350 : asPtr (.slice (some ad348) l0.length c0) = .pointer (some ad348) := asPtr_some oD
  refine start_ (n := 15) (S := fun w' => w'.cell? ⟨ad348.block, ad348.off + 7, none⟩ = some (.slice (some ad349) ((rd_T75 l0 0).f1).length c348_7) ∧ w'.cell? (ad349.add ((a2).toNat * 4)) = some (.int .i32 ((rd_T82 ((rd_T75 l0 0).f1) a2).f0.f0)) ∧ w'.cell? ⟨(ad349.add ((a2).toNat * 4)).block, (ad349.add ((a2).toNat * 4)).off + 1, none⟩ = some (.int .u32 ((rd_T82 ((rd_T75 l0 0).f1) a2).f0.f1)) ∧ w'.cell? ⟨(ad349.add ((a2).toNat * 4)).block, (ad349.add ((a2).toNat * 4)).off + 2, none⟩ = some (.slice A349_2 ((rd_T82 ((rd_T75 l0 0).f1) a2).f0.f2).length c349_2) ∧ w'.cell? ⟨(ad349.add ((a2).toNat * 4)).block, (ad349.add ((a2).toNat * 4)).off + 3, none⟩ = some (.slice A349_3 ((rd_T82 ((rd_T75 l0 0).f1) a2).f1).length c349_3) ∧ w'.cell? ad348 = some (.int .i64 ((rd_T75 l0 0).f0.f0))) (ds := []) (bA 15 0) (by kernel_rfl) rfl (by kernel_rfl) ⟨(cU HB hw348_7 :), (cU HB hw349_0 :), (cU HB hw349_1 :), (cU HB hw349_2 :), (cU HB hw349_3 :), (cU HB hw350_0 :)⟩ (fun hHeld => ?_); refine with_tabW F18.tab3 F18.bits3 (fun HT_ HW_ => ?_)
  generalize w10.drew = w11 at HB HR348_7 HR349_2 HR349_3 hx348_7 hx349_0 hx349_1 hx349_2 hx349_3 hx350_0 hHeld ⊢
  refine pT 15 0 12 1 HT_ (h := ?_)
  refine pT 15 1 13 3 HT_ (h := ?_)
  refine pT 15 2 14 7 HT_ (h := ?_)
  refine pT 15 4 16 23 HT_ (h := ?_)
  refine pT 15 7 19 151 HT_ (h := ?_)
  refine pT 15 8 20 407 HT_ (h := ?_)
  refine pT 15 9 21 919 HT_ (h := ?_)
  refine pT 15 10 22 1943 HT_ (h := ?_)
  refine pT 15 11 23 3991 HT_ (h := ?_)
  refine tT 15 3 15 3999 HT_ HW_ hHeld (h := ?_)
  refine pT 15 5 17 4031 HT_ (h := ?_)
  refine tT 15 6 18 4095 HT_ HW_ hHeld (h := ?_)
  refine tT 15 12 24 8191 HT_ HW_ hHeld (h := ?_)
  refine one_ (i := 13) (N := some 25) (bA 15 16383) rfl rfl (one_of HT_.out (by kernel_rfl)) (by decide) (fun K hK => ?_)
  refine gA Try.func45 #[.agg #[.int .i32 ((rd_T82 ((rd_T75 l0 0).f1) a2).f0.f0), .int .u32 ((rd_T82 ((rd_T75 l0 0).f1) a2).f0.f1), .slice A349_2 ((rd_T82 ((rd_T75 l0 0).f1) a2).f0.f2).length c349_2, .slice A349_3 ((rd_T82 ((rd_T75 l0 0).f1) a2).f1).length c349_3], .int .i64 a1, .int .i64 ((rd_T75 l0 0).f0.f0)] (h := ?_)
  with_reducible refine (F45.calls ((rd_T82 ((rd_T75 l0 0).f1) a2).f0.f0) ((rd_T82 ((rd_T75 l0 0).f1) a2).f0.f1) _ _ ((rd_T82 ((rd_T75 l0 0).f1) a2).f0.f2) _ _ ((rd_T82 ((rd_T75 l0 0).f1) a2).f1) a1 ((rd_T75 l0 0).f0.f0) t351 _ ?side1 ?side2 ?side3 ?side4 A9.out).mono ?_
  (case side1 => with_reducible exact (Kd.C_below HR349_2.out HB.out)); (case side2 => exact HC349_2.out); (case side3 => with_reducible exact (Kd.C_below HR349_3.out HB.out)); (case side4 => exact HC349_3.out); rintro e w12 ⟨rfl, hb⟩
  refine ⟨_, rfl, ?_⟩
  replace HB := aM (below_step bZ hb); (try clear hb); (try clear hb2); (try clear hk); (try clear hi)
  refine hK.out _ _ ⟨(cU HB hw348_7 :), (cU HB hw349_0 :), (cU HB hw349_1 :), (cU HB hw349_2 :), (cU HB hw349_3 :), (cU HB hw350_0 :)⟩ (fun hHeld => ?_)
  clear hK K
  refine nT 25 (h := ?_)
  refine pT 15 14 6 32767 HT_ (h := ?_)
  refine done_ (done_of HT_.out (by kernel_rfl)) ?_
  try go_wp2
  go_ret
  exact ⟨rfl, HB.out⟩
 ·
  replace c5 := Bool.eq_false_iff.mpr c5; subst c5; rw [if_neg (show ¬ (false = true) by decide)] at H; obtain rfl := oI H
  go_enter Try.func18, Try.ntmps18
  go_wp2_with (first | ((with_reducible refine gate_callee (f := 44) rfl ?_); refine gL 10 Try.func44 #[asPtr (.slice A0 l0.length c0), .int .i64 a1, .int .i64 a2] (h := ?_); (with_reducible refine (F44.calls _ _ l0 a1 a2 false _ ?side1 ?side2 A4.out).mono ?_); (case side1 => with_reducible exact HR0.out); (case side2 => exact HC0.out); rintro e w' ⟨rfl, ⟨nd, rfl⟩⟩; refine ⟨_, rfl, ?_⟩))
  go_ret
  exact ⟨rfl, bZ⟩

def F19.f (l0 : List (S75)) (a1 : Int) (a2 : Int) : Option (Int) := (F44.f l0 a1 a2).bind fun t352 => (if t352 = true then (if 0 < (l0.length : Int) then (if 0 ≤ a1 then (if a1 < (((rd_T75 l0 0).f2).length : Int) then ((F45.f ((rd_T82 ((rd_T75 l0 0).f2) a1).f0.f0) ((rd_T82 ((rd_T75 l0 0).f2) a1).f0.f1) ((rd_T82 ((rd_T75 l0 0).f2) a1).f0.f2) ((rd_T82 ((rd_T75 l0 0).f2) a1).f1) a2 ((rd_T75 l0 0).f0.f1)).bind fun t356 => (some t356)) else (none)) else (none)) else (none)) else (some 0))
def F19.T3 : Bool × List (List Nat × List Nat) := (true, [([], []), ([0], [0]), ([1], [1]), ([2], [2]), ([], []), ([3, 4], [3, 4]), ([5], [5]), ([], []), ([], []), ([8], [8]), ([9], [9]), ([10], [10]), ([11], [11]), ([6, 7, 12], [6, 7, 12]), ([13, 13, 0, 1, 2, 3, 4, 5, 6, 7, 8, 9, 10, 11, 12, 13], [13])])
def F19.B3 : List Nat := [0, 1, 3, 7, 0, 31, 63, 0, 0, 256, 768, 1792, 3840, 8191, 16383]
theorem F19.tab3 : rtab .any (opsOf Try.f19 3) = F19.T3 := by kernel_rfl
theorem F19.bits3 : waitsOk F19.T3.2 F19.B3 = true := by kernel_rfl
theorem F19.calls (A0 : Option Addr) (c0 : Nat) (l0 : List (S75)) (a1 : Int) (a2 : Int) (r : Int) (w : World) (hr0 : Kd.C k75 w A0 l0.length l0) (hc0 : l0.length ≤ c0) (h : F19.f l0 a1 a2 = some r) :
  Calls Try.prog 19 #[asPtr (.slice A0 l0.length c0), .int .i64 a1, .int .i64 a2] w fun e w' => e = .returned (.int .i32 r) ∧ Below w.heap.size w w' := by
 have hu82 := Try.underlying82; have HR0 := aM hr0; have HC0 := aM hc0; clear hr0 hc0; have HB := aM (Below.refl w.heap.size w); have H := h; clear h; unfold F19.f at H; obtain ⟨t352, A4, H⟩ := bnd H
 by_cases c5 : t352 = true
 ·
  subst c5; rw [if_pos rfl] at H; obtain ⟨c6, H⟩ := ifp H; have c6b0 : decide (0 < (l0.length : Int)) = true := dT c6; have c6b1 : decide (0 < l0.length) = true := dT (by omega); clear c6; obtain ⟨c7, H⟩ := ifp H; have c7b0 : decide (0 ≤ a1) = true := dT c7; clear c7; obtain ⟨c8, H⟩ := ifp H; have c8b0 : decide (a1 < (((rd_T75 l0 0).f2).length : Int)) = true := dT c8; clear c8; obtain ⟨t356, A9, H⟩ := bnd H; obtain rfl := oI H
  go_enter Try.func19, Try.ntmps19
  try go_wp2_with (first | ((with_reducible refine gate_callee (f := 44) rfl ?_); refine gL 10 Try.func44 #[asPtr (.slice A0 l0.length c0), .int .i64 a1, .int .i64 a2] (h := ?_); (with_reducible refine (F44.calls _ _ l0 a1 a2 true _ ?side1 ?side2 A4.out).mono ?_); (case side1 => with_reducible exact HR0.out); (case side2 => exact HC0.out); rintro e w' ⟨rfl, ⟨nd, rfl⟩⟩; refine ⟨_, rfl, ?_⟩))
  (try simp only [World.drewN_drewN]); generalize hq_ : World.drewN w _ = w10; have n0_ : Aside0 (Below w.heap.size w w10) := ⟨by rw [← hq_]; exact pw_below_drewN HB.out _⟩; clear hq_ HB; have HB := n0_; clear n0_; replace HB := aM (below_drew1 HB.out); have p353 : 0 ≤ (0 : Int) := (by omega); have q353 : 0 < (l0.length : Int) := oD; obtain ⟨ad353, A353_7, c353_7, A353_8, c353_8, e353, _, _, _, _, _, _, _, _, hx353_8, _, _, hl353_8, hi353_8⟩ := at_T75 HR0.out 0 p353 q353; have hw353_8 := hx353_8; (try rw [show ((0 : Int)).toNat = 0 from rfl] at hw353_8); (try rw [show 0 * 9 = 0 from rfl] at hw353_8); (try rw [Addr.add_zero'] at hw353_8)
  cases e353
  have qi353 : (0 < l0.length) = True := eq_true (by omega); (try rw [show ((0 : Int)).toNat = 0 from rfl] at hx353_8); (try rw [show 0 * 9 = 0 from rfl] at hx353_8); (try rw [Addr.add_zero'] at hx353_8); replace hx353_8 := cU HB hx353_8; have HR353_8 := aM hi353_8; have HC353_8 := aM hl353_8; clear hi353_8 hl353_8; replace p353 := eq_true p353; replace q353 := eq_true q353; have hP353 : asPtr (.slice (some ad353) l0.length c0) = .pointer (some ad353) := asPtr_some oD; have p354 : 0 ≤ (a1 : Int) := oD; have q354 : a1 < (((rd_T75 l0 0).f2).length : Int) := oD; obtain ⟨ad354, A354_2, c354_2, A354_3, c354_3, e354, hx354_0, hx354_1, hx354_2, hx354_3, hl354_2, hi354_2, hl354_3, hi354_3⟩ := at_T82 HR353_8.out a1 p354 q354; have hw354_3 := hx354_3; have hw354_2 := hx354_2; have hw354_1 := hx354_1; have hw354_0 := hx354_0
  cases e354
  replace hx354_0 := cU HB hx354_0; replace hx354_1 := cU HB hx354_1; replace hx354_2 := cU HB hx354_2; replace hx354_3 := cU HB hx354_3; have HR354_2 := aM hi354_2; have HC354_2 := aM hl354_2; clear hi354_2 hl354_2; have HR354_3 := aM hi354_3; have HC354_3 := aM hl354_3; clear hi354_3 hl354_3; replace p354 := eq_true p354; replace q354 := eq_true q354; have p355 : 0 ≤ (0 : Int) := (by omega); have q355 : 0 < (l0.length : Int) := oD; obtain ⟨ad355, A355_7, c355_7, A355_8, c355_8, e355, _, hx355_1, _, _, _, _, _, _, _, _, _, _, _⟩ := at_T75 HR0.out 0 p355 q355; have hw355_1 := hx355_1; (try rw [show ((0 : Int)).toNat = 0 from rfl] at hw355_1); (try rw [show 0 * 9 = 0 from rfl] at hw355_1); (try rw [Addr.add_zero'] at hw355_1); obtain rfl : ad353 = ad355 := (by injection e355); have qi355 : (0 < l0.length) = True := eq_true (by omega); (try rw [show ((0 : Int)).toNat = 0 from rfl] at hx355_1); (try rw [show 0 * 9 = 0 from rfl] at hx355_1); (try rw [Addr.add_zero'] at hx355_1); replace hx355_1 := cU HB hx355_1; replace p355 := eq_true p355; replace q355 := eq_true q355; have hP355 : asPtr (.slice (some ad353) l0.length c0) = .pointer (some ad353) := asPtr_some oD
  refine start_ (n := 15) (S := fun w' => w'.cell? ⟨ad353.block, ad353.off + 8, none⟩ = some (.slice (some ad354) ((rd_T75 l0 0).f2).length c353_8) ∧ w'.cell? (ad354.add ((a1).toNat * 4)) = some (.int .i32 ((rd_T82 ((rd_T75 l0 0).f2) a1).f0.f0)) ∧ w'.cell? ⟨(ad354.add ((a1).toNat * 4)).block, (ad354.add ((a1).toNat * 4)).off + 1, none⟩ = some (.int .u32 ((rd_T82 ((rd_T75 l0 0).f2) a1).f0.f1)) ∧ w'.cell? ⟨(ad354.add ((a1).toNat * 4)).block, (ad354.add ((a1).toNat * 4)).off + 2, none⟩ = some (.slice A354_2 ((rd_T82 ((rd_T75 l0 0).f2) a1).f0.f2).length c354_2) ∧ w'.cell? ⟨(ad354.add ((a1).toNat * 4)).block, (ad354.add ((a1).toNat * 4)).off + 3, none⟩ = some (.slice A354_3 ((rd_T82 ((rd_T75 l0 0).f2) a1).f1).length c354_3) ∧ w'.cell? ⟨ad353.block, ad353.off + 1, none⟩ = some (.int .i64 ((rd_T75 l0 0).f0.f1))) (ds := []) (bA 15 0) (by kernel_rfl) rfl (by kernel_rfl) ⟨(cU HB hw353_8 :), (cU HB hw354_0 :), (cU HB hw354_1 :), (cU HB hw354_2 :), (cU HB hw354_3 :), (cU HB hw355_1 :)⟩ (fun hHeld => ?_); refine with_tabW F19.tab3 F19.bits3 (fun HT_ HW_ => ?_)
  generalize w10.drew = w11 at HB HR353_8 HR354_2 HR354_3 hx353_8 hx354_0 hx354_1 hx354_2 hx354_3 hx355_1 hHeld ⊢
  refine pT 15 0 12 1 HT_ (h := ?_)
  refine pT 15 1 13 3 HT_ (h := ?_)
  refine pT 15 2 14 7 HT_ (h := ?_)
  refine pT 15 4 16 23 HT_ (h := ?_)
  refine pT 15 7 19 151 HT_ (h := ?_)
  refine pT 15 8 20 407 HT_ (h := ?_)
  refine pT 15 9 21 919 HT_ (h := ?_)
  refine pT 15 10 22 1943 HT_ (h := ?_)
  refine pT 15 11 23 3991 HT_ (h := ?_)
  refine tT 15 3 15 3999 HT_ HW_ hHeld (h := ?_)
  refine pT 15 5 17 4031 HT_ (h := ?_)
  refine tT 15 6 18 4095 HT_ HW_ hHeld (h := ?_)
  refine tT 15 12 24 8191 HT_ HW_ hHeld (h := ?_)
  refine one_ (i := 13) (N := some 25) (bA 15 16383) rfl rfl (one_of HT_.out (by kernel_rfl)) (by decide) (fun K hK => ?_)
  refine gA Try.func45 #[.agg #[.int .i32 ((rd_T82 ((rd_T75 l0 0).f2) a1).f0.f0), .int .u32 ((rd_T82 ((rd_T75 l0 0).f2) a1).f0.f1), .slice A354_2 ((rd_T82 ((rd_T75 l0 0).f2) a1).f0.f2).length c354_2, .slice A354_3 ((rd_T82 ((rd_T75 l0 0).f2) a1).f1).length c354_3], .int .i64 a2, .int .i64 ((rd_T75 l0 0).f0.f1)] (h := ?_)
  with_reducible refine (F45.calls ((rd_T82 ((rd_T75 l0 0).f2) a1).f0.f0) ((rd_T82 ((rd_T75 l0 0).f2) a1).f0.f1) _ _ ((rd_T82 ((rd_T75 l0 0).f2) a1).f0.f2) _ _ ((rd_T82 ((rd_T75 l0 0).f2) a1).f1) a2 ((rd_T75 l0 0).f0.f1) t356 _ ?side1 ?side2 ?side3 ?side4 A9.out).mono ?_
  (case side1 => with_reducible exact (Kd.C_below HR354_2.out HB.out)); (case side2 => exact HC354_2.out); (case side3 => with_reducible exact (Kd.C_below HR354_3.out HB.out)); (case side4 => exact HC354_3.out); rintro e w12 ⟨rfl, hb⟩
  refine ⟨_, rfl, ?_⟩
  replace HB := aM (below_step bZ hb); (try clear hb); (try clear hb2); (try clear hk); (try clear hi)
  refine hK.out _ _ ⟨(cU HB hw353_8 :), (cU HB hw354_0 :), (cU HB hw354_1 :), (cU HB hw354_2 :), (cU HB hw354_3 :), (cU HB hw355_1 :)⟩ (fun hHeld => ?_)
  clear hK K
  refine nT 25 (h := ?_)
  refine pT 15 14 6 32767 HT_ (h := ?_)
  refine done_ (done_of HT_.out (by kernel_rfl)) ?_
  try go_wp2
  go_ret
  exact ⟨rfl, HB.out⟩
 ·
  replace c5 := Bool.eq_false_iff.mpr c5; subst c5; rw [if_neg (show ¬ (false = true) by decide)] at H; obtain rfl := oI H
  go_enter Try.func19, Try.ntmps19
  go_wp2_with (first | ((with_reducible refine gate_callee (f := 44) rfl ?_); refine gL 10 Try.func44 #[asPtr (.slice A0 l0.length c0), .int .i64 a1, .int .i64 a2] (h := ?_); (with_reducible refine (F44.calls _ _ l0 a1 a2 false _ ?side1 ?side2 A4.out).mono ?_); (case side1 => with_reducible exact HR0.out); (case side2 => exact HC0.out); rintro e w' ⟨rfl, ⟨nd, rfl⟩⟩; refine ⟨_, rfl, ?_⟩))
  go_ret
  exact ⟨rfl, bZ⟩

end Go.Proofs.Ytekenaclmplocaa.PPageNew
