-- Written by a program of this session (wip/tools/mkprint.py over the kit's print).
import Derived.Test.YtekenaclmplocaaPPageQuantizesx0
import Derived.Test.YtekenaclmplocaaPPageQuantizesx11
namespace Go.Proofs.Ytekenaclmplocaa.PPageQuantizes
open Go.RowKit Go.Proofs.YtekenaclmplocaaW.PrintWords Go.Proofs.YtekenaclmplocaaW.PrintLast Go.Proofs.YtekenaclmplocaaW.PrintMore
attribute [local go_sem] max2_int min2_int max_two min_two max_three min_three max_four min_four   -- for this text's walks alone
set_option linter.unusedVariables false
set_option linter.unusedSimpArgs false

/-! ### page_Page_Key: function 18 -/
def page_Page_Key.f (l0 : List (S75)) (a1 : Int) (a2 : Int) : Option (Int) := (page_Page_there.f l0 a1 a2).bind fun t349 => (if t349 = true then (if 0 < (l0.length : Int) then (if 0 ≤ a2 then (if a2 < (((rd_T75 l0 0).f1).length : Int) then ((page_packed_mean.f ((rd_T82 ((rd_T75 l0 0).f1) a2).f0.f0) ((rd_T82 ((rd_T75 l0 0).f1) a2).f0.f1) ((rd_T82 ((rd_T75 l0 0).f1) a2).f0.f2) ((rd_T82 ((rd_T75 l0 0).f1) a2).f1) a1 ((rd_T75 l0 0).f0.f0)).bind fun t353 => (some t353)) else (none)) else (none)) else (none)) else (some 0))
def page_Page_Key.T3 : Bool × List (List Nat × List Nat) := (true, [([], []), ([0], [0]), ([1], [1]), ([2], [2]), ([], []), ([3, 4], [3, 4]), ([5], [5]), ([], []), ([], []), ([8], [8]), ([9], [9]), ([10], [10]), ([11], [11]), ([6, 7, 12], [6, 7, 12]), ([13, 13, 0, 1, 2, 3, 4, 5, 6, 7, 8, 9, 10, 11, 12, 13], [13])])
def page_Page_Key.B3 : List Nat := [0, 1, 3, 7, 0, 31, 63, 0, 0, 256, 768, 1792, 3840, 8191, 16383]
theorem page_Page_Key.tab3 : rtab .any (opsOf Try.f18 3) = page_Page_Key.T3 := by kernel_rfl
theorem page_Page_Key.bits3 : waitsOk page_Page_Key.T3.2 page_Page_Key.B3 = true := by kernel_rfl
set_option maxHeartbeats 8000000 in
set_option maxRecDepth 100000 in
theorem page_Page_Key.calls (A0 : Option Addr) (c0 : Nat) (l0 : List (S75)) (a1 : Int) (a2 : Int) (r : Int) (w : World) (hr0 : Kd.C k75 w A0 l0.length l0) (hc0 : l0.length ≤ c0) (h : page_Page_Key.f l0 a1 a2 = some r) :
  Calls Try.prog 18 #[asPtr (.slice A0 l0.length c0), .int .i64 a1, .int .i64 a2] w fun e w' => e = .returned (.int .i32 r) ∧ Below w.heap.size w w' := by
 have hu82 := Try.underlying82; have HR0 := Aside0.mk hr0; have HC0 := Aside0.mk hc0; clear hr0 hc0; have HB := Aside0.mk (Below.refl w.heap.size w); have H := h; clear h; unfold page_Page_Key.f at H; obtain ⟨t349, A4, H⟩ := bnd H
 by_cases c5 : t349 = true
 ·
  subst c5; rw [if_pos rfl] at H; obtain ⟨c6, H⟩ := ifp H; have c6b0 : decide (0 < (l0.length : Int)) = true := decide_eq_true c6; have c6b1 : decide (0 < l0.length) = true := decide_eq_true (by omega); clear c6; obtain ⟨c7, H⟩ := ifp H; have c7b0 : decide (0 ≤ a2) = true := decide_eq_true c7; clear c7; obtain ⟨c8, H⟩ := ifp H; have c8b0 : decide (a2 < (((rd_T75 l0 0).f1).length : Int)) = true := decide_eq_true c8; clear c8; obtain ⟨t353, A9, H⟩ := bnd H; obtain rfl := Option.some.inj H
  go_enter Try.func18, Try.ntmps18
  try go_wp2_with (first | ((with_reducible refine gate_callee (f := 44) rfl ?_); refine gL 10 Try.func44 #[asPtr (.slice A0 l0.length c0), .int .i64 a1, .int .i64 a2] (h := ?_); (with_reducible refine (page_Page_there.calls _ _ l0 a1 a2 true _ ?side1 ?side2 A4.out).mono ?_); (case side1 => with_reducible exact HR0.out); (case side2 => exact HC0.out); rintro e w' ⟨rfl, ⟨nd, rfl⟩⟩; refine ⟨_, rfl, ?_⟩))
  (try simp only [World.drewN_drewN]); generalize hq_ : World.drewN w _ = w10; have n0_ : Aside0 (Below w.heap.size w w10) := ⟨by rw [← hq_]; exact pw_below_drewN HB.out _⟩; clear hq_ HB; have HB := n0_; clear n0_; replace HB := Aside0.mk (below_drew1 HB.out); have p350 : 0 ≤ (0 : Int) := (by omega); have q350 : 0 < (l0.length : Int) := oD; obtain ⟨ad350, A350_7, c350_7, A350_8, c350_8, e350, _, _, _, _, _, _, _, hx350_7, _, hl350_7, hi350_7, _, _⟩ := at_T75 HR0.out 0 p350 q350; have hw350_7 := hx350_7; (try rw [show ((0 : Int)).toNat = 0 from rfl] at hw350_7); (try rw [show 0 * 9 = 0 from rfl] at hw350_7); (try rw [Addr.add_zero'] at hw350_7)
  cases e350
  have qi350 : (0 < l0.length) = True := eq_true (by omega); (try rw [show ((0 : Int)).toNat = 0 from rfl] at hx350_7); (try rw [show 0 * 9 = 0 from rfl] at hx350_7); (try rw [Addr.add_zero'] at hx350_7); replace hx350_7 := cU HB hx350_7; have HR350_7 := Aside0.mk hi350_7; have HC350_7 := Aside0.mk hl350_7; clear hi350_7 hl350_7; replace p350 := eq_true p350; replace q350 := eq_true q350; have hP350 : asPtr (.slice (some ad350) l0.length c0) = .pointer (some ad350) := asPtr_some oD; have p351 : 0 ≤ (a2 : Int) := oD; have q351 : a2 < (((rd_T75 l0 0).f1).length : Int) := oD; obtain ⟨ad351, A351_2, c351_2, A351_3, c351_3, e351, hx351_0, hx351_1, hx351_2, hx351_3, hl351_2, hi351_2, hl351_3, hi351_3⟩ := at_T82 HR350_7.out a2 p351 q351; have hw351_3 := hx351_3; have hw351_2 := hx351_2; have hw351_1 := hx351_1; have hw351_0 := hx351_0
  cases e351
  replace hx351_0 := cU HB hx351_0; replace hx351_1 := cU HB hx351_1; replace hx351_2 := cU HB hx351_2; replace hx351_3 := cU HB hx351_3; have HR351_2 := Aside0.mk hi351_2; have HC351_2 := Aside0.mk hl351_2; clear hi351_2 hl351_2; have HR351_3 := Aside0.mk hi351_3; have HC351_3 := Aside0.mk hl351_3; clear hi351_3 hl351_3; replace p351 := eq_true p351; replace q351 := eq_true q351; have p352 : 0 ≤ (0 : Int) := (by omega); have q352 : 0 < (l0.length : Int) := oD; obtain ⟨ad352, A352_7, c352_7, A352_8, c352_8, e352, hx352_0, _, _, _, _, _, _, _, _, _, _, _, _⟩ := at_T75 HR0.out 0 p352 q352; have hw352_0 := hx352_0; (try rw [show ((0 : Int)).toNat = 0 from rfl] at hw352_0); (try rw [show 0 * 9 = 0 from rfl] at hw352_0); (try rw [Addr.add_zero'] at hw352_0); obtain rfl : ad350 = ad352 := (by injection e352); have qi352 : (0 < l0.length) = True := eq_true (by omega); (try rw [show ((0 : Int)).toNat = 0 from rfl] at hx352_0); (try rw [show 0 * 9 = 0 from rfl] at hx352_0); (try rw [Addr.add_zero'] at hx352_0); replace hx352_0 := cU HB hx352_0; replace p352 := eq_true p352; replace q352 := eq_true q352; have hP352 : asPtr (.slice (some ad350) l0.length c0) = .pointer (some ad350) := asPtr_some oD; (refine start_ (n := 15) (S := fun w' => w'.cell? ⟨ad350.block, ad350.off + 7, none⟩ = some (.slice (some ad351) ((rd_T75 l0 0).f1).length c350_7) ∧ w'.cell? (ad351.add ((a2).toNat * 4)) = some (.int .i32 ((rd_T82 ((rd_T75 l0 0).f1) a2).f0.f0)) ∧ w'.cell? ⟨(ad351.add ((a2).toNat * 4)).block, (ad351.add ((a2).toNat * 4)).off + 1, none⟩ = some (.int .u32 ((rd_T82 ((rd_T75 l0 0).f1) a2).f0.f1)) ∧ w'.cell? ⟨(ad351.add ((a2).toNat * 4)).block, (ad351.add ((a2).toNat * 4)).off + 2, none⟩ = some (.slice A351_2 ((rd_T82 ((rd_T75 l0 0).f1) a2).f0.f2).length c351_2) ∧ w'.cell? ⟨(ad351.add ((a2).toNat * 4)).block, (ad351.add ((a2).toNat * 4)).off + 3, none⟩ = some (.slice A351_3 ((rd_T82 ((rd_T75 l0 0).f1) a2).f1).length c351_3) ∧ w'.cell? ad350 = some (.int .i64 ((rd_T75 l0 0).f0.f0))) (ds := []) (bA 15 0) (by kernel_rfl) rfl (by kernel_rfl) ⟨((HB.out.cell (World.block_lt_of_cell? w _ hw350_7)).trans hw350_7), ((HB.out.cell (World.block_lt_of_cell? w _ hw351_0)).trans hw351_0), ((HB.out.cell (World.block_lt_of_cell? w _ hw351_1)).trans hw351_1), ((HB.out.cell (World.block_lt_of_cell? w _ hw351_2)).trans hw351_2), ((HB.out.cell (World.block_lt_of_cell? w _ hw351_3)).trans hw351_3), ((HB.out.cell (World.block_lt_of_cell? w _ hw352_0)).trans hw352_0)⟩ (fun hHeld => ?_); refine with_tabW page_Page_Key.tab3 page_Page_Key.bits3 (fun HT_ HW_ => ?_)); generalize w10.drew = w11 at HB HR350_7 HR351_2 HR351_3 hx350_7 hx351_0 hx351_1 hx351_2 hx351_3 hx352_0 hHeld ⊢
  refine pT 15 0 12 1 HT_ (h := ?_)
  refine pT 15 1 13 3 HT_ (h := ?_)
  refine pT 15 2 14 7 HT_ (h := ?_)
  refine pT 15 4 16 23 HT_ (h := ?_)
  refine pT 15 7 19 151 HT_ (h := ?_)
  refine pT 15 8 20 407 HT_ (h := ?_)
  refine pT 15 9 21 919 HT_ (h := ?_)
  refine pT 15 10 22 1943 HT_ (h := ?_)
  refine pT 15 11 23 3991 HT_ (h := ?_)
  refine tT 15 3 15 3999 HT_ HW_ hHeld (h := ?_)
  refine pT 15 5 17 4031 HT_ (h := ?_)
  refine tT 15 6 18 4095 HT_ HW_ hHeld (h := ?_)
  refine tT 15 12 24 8191 HT_ HW_ hHeld (h := ?_)
  refine one_ (i := 13) (N := some 25) (bA 15 16383) rfl rfl (one_of HT_.out (by kernel_rfl)) (by decide) (fun K hK => ?_)
  refine gA Try.func45 #[.agg #[.int .i32 ((rd_T82 ((rd_T75 l0 0).f1) a2).f0.f0), .int .u32 ((rd_T82 ((rd_T75 l0 0).f1) a2).f0.f1), .slice A351_2 ((rd_T82 ((rd_T75 l0 0).f1) a2).f0.f2).length c351_2, .slice A351_3 ((rd_T82 ((rd_T75 l0 0).f1) a2).f1).length c351_3], .int .i64 a1, .int .i64 ((rd_T75 l0 0).f0.f0)] (h := ?_)
  with_reducible refine (page_packed_mean.calls ((rd_T82 ((rd_T75 l0 0).f1) a2).f0.f0) ((rd_T82 ((rd_T75 l0 0).f1) a2).f0.f1) _ _ ((rd_T82 ((rd_T75 l0 0).f1) a2).f0.f2) _ _ ((rd_T82 ((rd_T75 l0 0).f1) a2).f1) a1 ((rd_T75 l0 0).f0.f0) t353 _ ?side1 ?side2 ?side3 ?side4 A9.out).mono ?_
  (case side1 => with_reducible exact (Kd.C_below HR351_2.out HB.out)); (case side2 => exact HC351_2.out); (case side3 => with_reducible exact (Kd.C_below HR351_3.out HB.out)); (case side4 => exact HC351_3.out); rintro e w12 ⟨rfl, hb⟩
  refine ⟨_, rfl, ?_⟩
  replace HB := Aside0.mk (below_step bZ hb); (try clear hb); (try clear hb2); (try clear hk); (try clear hi)
  refine hK.out _ _ ⟨((HB.out.cell (World.block_lt_of_cell? w _ hw350_7)).trans hw350_7), ((HB.out.cell (World.block_lt_of_cell? w _ hw351_0)).trans hw351_0), ((HB.out.cell (World.block_lt_of_cell? w _ hw351_1)).trans hw351_1), ((HB.out.cell (World.block_lt_of_cell? w _ hw351_2)).trans hw351_2), ((HB.out.cell (World.block_lt_of_cell? w _ hw351_3)).trans hw351_3), ((HB.out.cell (World.block_lt_of_cell? w _ hw352_0)).trans hw352_0)⟩ (fun hHeld => ?_)
  clear hK K
  refine nT 25 (h := ?_)
  refine pT 15 14 6 32767 HT_ (h := ?_)
  refine done_ (done_of HT_.out (by kernel_rfl)) ?_
  try go_wp2
  go_ret
  exact ⟨rfl, HB.out⟩
 ·
  replace c5 := Bool.eq_false_iff.mpr c5; subst c5; rw [if_neg (show ¬ (false = true) by decide)] at H; obtain rfl := Option.some.inj H
  go_enter Try.func18, Try.ntmps18
  go_wp2_with (first | ((with_reducible refine gate_callee (f := 44) rfl ?_); refine gL 10 Try.func44 #[asPtr (.slice A0 l0.length c0), .int .i64 a1, .int .i64 a2] (h := ?_); (with_reducible refine (page_Page_there.calls _ _ l0 a1 a2 false _ ?side1 ?side2 A4.out).mono ?_); (case side1 => with_reducible exact HR0.out); (case side2 => exact HC0.out); rintro e w' ⟨rfl, ⟨nd, rfl⟩⟩; refine ⟨_, rfl, ?_⟩))
  go_ret
  exact ⟨rfl, bZ⟩

/-! ### page_Page_Value: function 19 -/
def page_Page_Value.f (l0 : List (S75)) (a1 : Int) (a2 : Int) : Option (Int) := (page_Page_there.f l0 a1 a2).bind fun t354 => (if t354 = true then (if 0 < (l0.length : Int) then (if 0 ≤ a1 then (if a1 < (((rd_T75 l0 0).f2).length : Int) then ((page_packed_mean.f ((rd_T82 ((rd_T75 l0 0).f2) a1).f0.f0) ((rd_T82 ((rd_T75 l0 0).f2) a1).f0.f1) ((rd_T82 ((rd_T75 l0 0).f2) a1).f0.f2) ((rd_T82 ((rd_T75 l0 0).f2) a1).f1) a2 ((rd_T75 l0 0).f0.f1)).bind fun t358 => (some t358)) else (none)) else (none)) else (none)) else (some 0))
def page_Page_Value.T3 : Bool × List (List Nat × List Nat) := (true, [([], []), ([0], [0]), ([1], [1]), ([2], [2]), ([], []), ([3, 4], [3, 4]), ([5], [5]), ([], []), ([], []), ([8], [8]), ([9], [9]), ([10], [10]), ([11], [11]), ([6, 7, 12], [6, 7, 12]), ([13, 13, 0, 1, 2, 3, 4, 5, 6, 7, 8, 9, 10, 11, 12, 13], [13])])
def page_Page_Value.B3 : List Nat := [0, 1, 3, 7, 0, 31, 63, 0, 0, 256, 768, 1792, 3840, 8191, 16383]
theorem page_Page_Value.tab3 : rtab .any (opsOf Try.f19 3) = page_Page_Value.T3 := by kernel_rfl
theorem page_Page_Value.bits3 : waitsOk page_Page_Value.T3.2 page_Page_Value.B3 = true := by kernel_rfl
set_option maxHeartbeats 8000000 in
set_option maxRecDepth 100000 in
theorem page_Page_Value.calls (A0 : Option Addr) (c0 : Nat) (l0 : List (S75)) (a1 : Int) (a2 : Int) (r : Int) (w : World) (hr0 : Kd.C k75 w A0 l0.length l0) (hc0 : l0.length ≤ c0) (h : page_Page_Value.f l0 a1 a2 = some r) :
  Calls Try.prog 19 #[asPtr (.slice A0 l0.length c0), .int .i64 a1, .int .i64 a2] w fun e w' => e = .returned (.int .i32 r) ∧ Below w.heap.size w w' := by
 have hu82 := Try.underlying82; have HR0 := Aside0.mk hr0; have HC0 := Aside0.mk hc0; clear hr0 hc0; have HB := Aside0.mk (Below.refl w.heap.size w); have H := h; clear h; unfold page_Page_Value.f at H; obtain ⟨t354, A4, H⟩ := bnd H
 by_cases c5 : t354 = true
 ·
  subst c5; rw [if_pos rfl] at H; obtain ⟨c6, H⟩ := ifp H; have c6b0 : decide (0 < (l0.length : Int)) = true := decide_eq_true c6; have c6b1 : decide (0 < l0.length) = true := decide_eq_true (by omega); clear c6; obtain ⟨c7, H⟩ := ifp H; have c7b0 : decide (0 ≤ a1) = true := decide_eq_true c7; clear c7; obtain ⟨c8, H⟩ := ifp H; have c8b0 : decide (a1 < (((rd_T75 l0 0).f2).length : Int)) = true := decide_eq_true c8; clear c8; obtain ⟨t358, A9, H⟩ := bnd H; obtain rfl := Option.some.inj H
  go_enter Try.func19, Try.ntmps19
  try go_wp2_with (first | ((with_reducible refine gate_callee (f := 44) rfl ?_); refine gL 10 Try.func44 #[asPtr (.slice A0 l0.length c0), .int .i64 a1, .int .i64 a2] (h := ?_); (with_reducible refine (page_Page_there.calls _ _ l0 a1 a2 true _ ?side1 ?side2 A4.out).mono ?_); (case side1 => with_reducible exact HR0.out); (case side2 => exact HC0.out); rintro e w' ⟨rfl, ⟨nd, rfl⟩⟩; refine ⟨_, rfl, ?_⟩))
  (try simp only [World.drewN_drewN]); generalize hq_ : World.drewN w _ = w10; have n0_ : Aside0 (Below w.heap.size w w10) := ⟨by rw [← hq_]; exact pw_below_drewN HB.out _⟩; clear hq_ HB; have HB := n0_; clear n0_; replace HB := Aside0.mk (below_drew1 HB.out); have p355 : 0 ≤ (0 : Int) := (by omega); have q355 : 0 < (l0.length : Int) := oD; obtain ⟨ad355, A355_7, c355_7, A355_8, c355_8, e355, _, _, _, _, _, _, _, _, hx355_8, _, _, hl355_8, hi355_8⟩ := at_T75 HR0.out 0 p355 q355; have hw355_8 := hx355_8; (try rw [show ((0 : Int)).toNat = 0 from rfl] at hw355_8); (try rw [show 0 * 9 = 0 from rfl] at hw355_8); (try rw [Addr.add_zero'] at hw355_8)
  cases e355
  have qi355 : (0 < l0.length) = True := eq_true (by omega); (try rw [show ((0 : Int)).toNat = 0 from rfl] at hx355_8); (try rw [show 0 * 9 = 0 from rfl] at hx355_8); (try rw [Addr.add_zero'] at hx355_8); replace hx355_8 := cU HB hx355_8; have HR355_8 := Aside0.mk hi355_8; have HC355_8 := Aside0.mk hl355_8; clear hi355_8 hl355_8; replace p355 := eq_true p355; replace q355 := eq_true q355; have hP355 : asPtr (.slice (some ad355) l0.length c0) = .pointer (some ad355) := asPtr_some oD; have p356 : 0 ≤ (a1 : Int) := oD; have q356 : a1 < (((rd_T75 l0 0).f2).length : Int) := oD; obtain ⟨ad356, A356_2, c356_2, A356_3, c356_3, e356, hx356_0, hx356_1, hx356_2, hx356_3, hl356_2, hi356_2, hl356_3, hi356_3⟩ := at_T82 HR355_8.out a1 p356 q356; have hw356_3 := hx356_3; have hw356_2 := hx356_2; have hw356_1 := hx356_1; have hw356_0 := hx356_0
  cases e356
  replace hx356_0 := cU HB hx356_0; replace hx356_1 := cU HB hx356_1; replace hx356_2 := cU HB hx356_2; replace hx356_3 := cU HB hx356_3; have HR356_2 := Aside0.mk hi356_2; have HC356_2 := Aside0.mk hl356_2; clear hi356_2 hl356_2; have HR356_3 := Aside0.mk hi356_3; have HC356_3 := Aside0.mk hl356_3; clear hi356_3 hl356_3; replace p356 := eq_true p356; replace q356 := eq_true q356; have p357 : 0 ≤ (0 : Int) := (by omega); have q357 : 0 < (l0.length : Int) := oD; obtain ⟨ad357, A357_7, c357_7, A357_8, c357_8, e357, _, hx357_1, _, _, _, _, _, _, _, _, _, _, _⟩ := at_T75 HR0.out 0 p357 q357; have hw357_1 := hx357_1; (try rw [show ((0 : Int)).toNat = 0 from rfl] at hw357_1); (try rw [show 0 * 9 = 0 from rfl] at hw357_1); (try rw [Addr.add_zero'] at hw357_1); obtain rfl : ad355 = ad357 := (by injection e357); have qi357 : (0 < l0.length) = True := eq_true (by omega); (try rw [show ((0 : Int)).toNat = 0 from rfl] at hx357_1); (try rw [show 0 * 9 = 0 from rfl] at hx357_1); (try rw [Addr.add_zero'] at hx357_1); replace hx357_1 := cU HB hx357_1; replace p357 := eq_true p357; replace q357 := eq_true q357; have hP357 : asPtr (.slice (some ad355) l0.length c0) = .pointer (some ad355) := asPtr_some oD; (refine start_ (n := 15) (S := fun w' => w'.cell? ⟨ad355.block, ad355.off + 8, none⟩ = some (.slice (some ad356) ((rd_T75 l0 0).f2).length c355_8) ∧ w'.cell? (ad356.add ((a1).toNat * 4)) = some (.int .i32 ((rd_T82 ((rd_T75 l0 0).f2) a1).f0.f0)) ∧ w'.cell? ⟨(ad356.add ((a1).toNat * 4)).block, (ad356.add ((a1).toNat * 4)).off + 1, none⟩ = some (.int .u32 ((rd_T82 ((rd_T75 l0 0).f2) a1).f0.f1)) ∧ w'.cell? ⟨(ad356.add ((a1).toNat * 4)).block, (ad356.add ((a1).toNat * 4)).off + 2, none⟩ = some (.slice A356_2 ((rd_T82 ((rd_T75 l0 0).f2) a1).f0.f2).length c356_2) ∧ w'.cell? ⟨(ad356.add ((a1).toNat * 4)).block, (ad356.add ((a1).toNat * 4)).off + 3, none⟩ = some (.slice A356_3 ((rd_T82 ((rd_T75 l0 0).f2) a1).f1).length c356_3) ∧ w'.cell? ⟨ad355.block, ad355.off + 1, none⟩ = some (.int .i64 ((rd_T75 l0 0).f0.f1))) (ds := []) (bA 15 0) (by kernel_rfl) rfl (by kernel_rfl) ⟨((HB.out.cell (World.block_lt_of_cell? w _ hw355_8)).trans hw355_8), ((HB.out.cell (World.block_lt_of_cell? w _ hw356_0)).trans hw356_0), ((HB.out.cell (World.block_lt_of_cell? w _ hw356_1)).trans hw356_1), ((HB.out.cell (World.block_lt_of_cell? w _ hw356_2)).trans hw356_2), ((HB.out.cell (World.block_lt_of_cell? w _ hw356_3)).trans hw356_3), ((HB.out.cell (World.block_lt_of_cell? w _ hw357_1)).trans hw357_1)⟩ (fun hHeld => ?_); refine with_tabW page_Page_Value.tab3 page_Page_Value.bits3 (fun HT_ HW_ => ?_)); generalize w10.drew = w11 at HB HR355_8 HR356_2 HR356_3 hx355_8 hx356_0 hx356_1 hx356_2 hx356_3 hx357_1 hHeld ⊢
  refine pT 15 0 12 1 HT_ (h := ?_)
  refine pT 15 1 13 3 HT_ (h := ?_)
  refine pT 15 2 14 7 HT_ (h := ?_)
  refine pT 15 4 16 23 HT_ (h := ?_)
  refine pT 15 7 19 151 HT_ (h := ?_)
  refine pT 15 8 20 407 HT_ (h := ?_)
  refine pT 15 9 21 919 HT_ (h := ?_)
  refine pT 15 10 22 1943 HT_ (h := ?_)
  refine pT 15 11 23 3991 HT_ (h := ?_)
  refine tT 15 3 15 3999 HT_ HW_ hHeld (h := ?_)
  refine pT 15 5 17 4031 HT_ (h := ?_)
  refine tT 15 6 18 4095 HT_ HW_ hHeld (h := ?_)
  refine tT 15 12 24 8191 HT_ HW_ hHeld (h := ?_)
  refine one_ (i := 13) (N := some 25) (bA 15 16383) rfl rfl (one_of HT_.out (by kernel_rfl)) (by decide) (fun K hK => ?_)
  refine gA Try.func45 #[.agg #[.int .i32 ((rd_T82 ((rd_T75 l0 0).f2) a1).f0.f0), .int .u32 ((rd_T82 ((rd_T75 l0 0).f2) a1).f0.f1), .slice A356_2 ((rd_T82 ((rd_T75 l0 0).f2) a1).f0.f2).length c356_2, .slice A356_3 ((rd_T82 ((rd_T75 l0 0).f2) a1).f1).length c356_3], .int .i64 a2, .int .i64 ((rd_T75 l0 0).f0.f1)] (h := ?_)
  with_reducible refine (page_packed_mean.calls ((rd_T82 ((rd_T75 l0 0).f2) a1).f0.f0) ((rd_T82 ((rd_T75 l0 0).f2) a1).f0.f1) _ _ ((rd_T82 ((rd_T75 l0 0).f2) a1).f0.f2) _ _ ((rd_T82 ((rd_T75 l0 0).f2) a1).f1) a2 ((rd_T75 l0 0).f0.f1) t358 _ ?side1 ?side2 ?side3 ?side4 A9.out).mono ?_
  (case side1 => with_reducible exact (Kd.C_below HR356_2.out HB.out)); (case side2 => exact HC356_2.out); (case side3 => with_reducible exact (Kd.C_below HR356_3.out HB.out)); (case side4 => exact HC356_3.out); rintro e w12 ⟨rfl, hb⟩
  refine ⟨_, rfl, ?_⟩
  replace HB := Aside0.mk (below_step bZ hb); (try clear hb); (try clear hb2); (try clear hk); (try clear hi)
  refine hK.out _ _ ⟨((HB.out.cell (World.block_lt_of_cell? w _ hw355_8)).trans hw355_8), ((HB.out.cell (World.block_lt_of_cell? w _ hw356_0)).trans hw356_0), ((HB.out.cell (World.block_lt_of_cell? w _ hw356_1)).trans hw356_1), ((HB.out.cell (World.block_lt_of_cell? w _ hw356_2)).trans hw356_2), ((HB.out.cell (World.block_lt_of_cell? w _ hw356_3)).trans hw356_3), ((HB.out.cell (World.block_lt_of_cell? w _ hw357_1)).trans hw357_1)⟩ (fun hHeld => ?_)
  clear hK K
  refine nT 25 (h := ?_)
  refine pT 15 14 6 32767 HT_ (h := ?_)
  refine done_ (done_of HT_.out (by kernel_rfl)) ?_
  try go_wp2
  go_ret
  exact ⟨rfl, HB.out⟩
 ·
  replace c5 := Bool.eq_false_iff.mpr c5; subst c5; rw [if_neg (show ¬ (false = true) by decide)] at H; obtain rfl := Option.some.inj H
  go_enter Try.func19, Try.ntmps19
  go_wp2_with (first | ((with_reducible refine gate_callee (f := 44) rfl ?_); refine gL 10 Try.func44 #[asPtr (.slice A0 l0.length c0), .int .i64 a1, .int .i64 a2] (h := ?_); (with_reducible refine (page_Page_there.calls _ _ l0 a1 a2 false _ ?side1 ?side2 A4.out).mono ?_); (case side1 => with_reducible exact HR0.out); (case side2 => exact HC0.out); rintro e w' ⟨rfl, ⟨nd, rfl⟩⟩; refine ⟨_, rfl, ?_⟩))
  go_ret
  exact ⟨rfl, bZ⟩

end Go.Proofs.Ytekenaclmplocaa.PPageQuantizes
