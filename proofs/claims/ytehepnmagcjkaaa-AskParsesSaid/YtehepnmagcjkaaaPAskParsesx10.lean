-- Written by a program of this session (wip/tools/mkprint.py over the kit's print).
import Derived.Test.YtehepnmagcjkaaaPAskParsesx0
import Derived.Test.YtehepnmagcjkaaaPAskParsesx3
import Derived.Test.YtehepnmagcjkaaaPAskParsesx5
import Derived.Test.YtehepnmagcjkaaaPAskParsesx6
import Derived.Test.YtehepnmagcjkaaaPAskParsesx9
namespace Go.Proofs.Ytehepnmagcjkaaa.PAskParses
open Go.RowKit Go.Proofs.YtehepnmagcjkaaaW.PrintWords Go.Proofs.YtehepnmagcjkaaaW.PrintLast Go.Proofs.YtehepnmagcjkaaaW.PrintMore
attribute [local go_sem] max2_int min2_int max_two min_two max_three min_three max_four min_four   -- for this text's walks alone
set_option linter.unusedVariables false
set_option linter.unusedSimpArgs false

/-! ### credenzalaw22_AskParses: function 4 -/
def credenzalaw22_AskParses.j0 : Nat → List Int → Int → Bool → Int → Int → List Int → Int → Int → Int → Int → Int → Int → Option (Bool)
 | 0, _, _, _, _, _, _, _, _, _, _, _, _ => none
 | k + 1, x0, x6, x33, x298000, x298001, x298002, x298003, x298004, x298005, x298006, x298007, x298008 => if x33 = true then (none) else (if x6 = 0 then ((ask_Bytes.f k x298000 x298001 x298002 x298003 x298004 x298005 x298006 x298007 x298008).bind fun bt312 => (if bt312.2 = 0 then (if (strOfNums bt312.1).toList = (strOfNums x0).toList then ((credenzalaw22_awake.f k).bind fun t316 => (some t316)) else (none)) else (none))) else ((credenzalaw22_awake.f k).bind fun t317 => (some t317)))
def credenzalaw22_AskParses.f (k : Nat) (l0 : List Int) : Option (Bool) := if (l0.length : Int) > 3000 then ((credenzalaw22_awake.f k).bind fun t284 => (some t284)) else ((ask_Parse.f k l0).bind fun bt285 => ((credenzaref22_Parse.f k (strOfNums l0)).bind fun bt298 => (if bt285.2.2.2.2.2.2.2.2.2 = bt298.2.2.2.2.2.2.2.2.2 then ((credenzalaw22_ref.f bt285.1 bt285.2.1 bt285.2.2.1 bt285.2.2.2.1 bt285.2.2.2.2.1 bt285.2.2.2.2.2.1 bt285.2.2.2.2.2.2.1 bt285.2.2.2.2.2.2.2.1 bt285.2.2.2.2.2.2.2.2.1).bind fun _ => ((credenzaref22_Same.f bt285.1 bt285.2.1 bt285.2.2.1 bt285.2.2.2.1 bt285.2.2.2.2.1 bt285.2.2.2.2.2.1 bt285.2.2.2.2.2.2.1 bt285.2.2.2.2.2.2.2.1 bt285.2.2.2.2.2.2.2.2.1 bt298.1 bt298.2.1 bt298.2.2.1 bt298.2.2.2.1 bt298.2.2.2.2.1 bt298.2.2.2.2.2.1 bt298.2.2.2.2.2.2.1 bt298.2.2.2.2.2.2.2.1 bt298.2.2.2.2.2.2.2.2.1).bind fun t311 => (credenzalaw22_AskParses.j0 k l0 bt298.2.2.2.2.2.2.2.2.2 (!t311) bt285.1 bt285.2.1 bt285.2.2.1 bt285.2.2.2.1 bt285.2.2.2.2.1 bt285.2.2.2.2.2.1 bt285.2.2.2.2.2.2.1 bt285.2.2.2.2.2.2.2.1 bt285.2.2.2.2.2.2.2.2.1))) else (credenzalaw22_AskParses.j0 k l0 bt298.2.2.2.2.2.2.2.2.2 true bt285.1 bt285.2.1 bt285.2.2.1 bt285.2.2.2.1 bt285.2.2.2.2.1 bt285.2.2.2.2.2.1 bt285.2.2.2.2.2.2.1 bt285.2.2.2.2.2.2.2.1 bt285.2.2.2.2.2.2.2.2.1))))
theorem credenzalaw22_AskParses.mono_l : ∀ k, (∀ y0 y1 y2 y3 y4 y5 y6 y7 y8 y9 y10 y11, LeO (credenzalaw22_AskParses.j0 k y0 y1 y2 y3 y4 y5 y6 y7 y8 y9 y10 y11) (credenzalaw22_AskParses.j0 (k + 1) y0 y1 y2 y3 y4 y5 y6 y7 y8 y9 y10 y11))
 | 0 => fun _ _ _ _ _ _ _ _ _ _ _ _ r h => by simp [credenzalaw22_AskParses.j0] at h
 | k + 1 => by
  have ih0 := credenzalaw22_AskParses.mono_l k
  ·
   intro y0 y1 y2 y3 y4 y5 y6 y7 y8 y9 y10 y11
   unfold credenzalaw22_AskParses.j0
   repeat' first
   | (with_reducible exact ih0 _ _ _ _ _ _ _ _ _ _ _ _)
   | (with_reducible exact ask_Bytes.mono _ _ _ _ _ _ _ _ _ _)
   | (with_reducible exact ask_Parse.mono _ _)
   | (with_reducible exact credenzalaw22_awake.mono _)
   | (with_reducible exact credenzaref22_Parse.mono _ _)
   | (with_reducible exact LeO.refl _)
   | (with_reducible exact LeO.none _)
   | (with_reducible refine LeO.ite ?_ ?_)
   | (with_reducible refine LeO.bind ?_ (fun _ => ?_))
   | exact ih0 _ _ _ _ _ _ _ _ _ _ _ _
   | exact ask_Bytes.mono _ _ _ _ _ _ _ _ _ _
   | exact ask_Parse.mono _ _
   | exact credenzalaw22_awake.mono _
   | exact credenzaref22_Parse.mono _ _
   | exact LeO.none _
   | refine LeO.ite ?_ ?_
   | refine LeO.bind ?_ (fun _ => ?_)
theorem credenzalaw22_AskParses.mono : ∀ a0 k, LeO (credenzalaw22_AskParses.f k a0) (credenzalaw22_AskParses.f (k + 1) a0) := by
 intro a0 k
 have ih0 := credenzalaw22_AskParses.mono_l k
 unfold credenzalaw22_AskParses.f
 repeat' first
   | (with_reducible exact ih0 _ _ _ _ _ _ _ _ _ _ _ _)
   | (with_reducible exact ask_Bytes.mono _ _ _ _ _ _ _ _ _ _)
   | (with_reducible exact ask_Parse.mono _ _)
   | (with_reducible exact credenzalaw22_awake.mono _)
   | (with_reducible exact credenzaref22_Parse.mono _ _)
   | (with_reducible exact LeO.refl _)
   | (with_reducible exact LeO.none _)
   | (with_reducible refine LeO.ite ?_ ?_)
   | (with_reducible refine LeO.bind ?_ (fun _ => ?_))
   | exact ih0 _ _ _ _ _ _ _ _ _ _ _ _
   | exact ask_Bytes.mono _ _ _ _ _ _ _ _ _ _
   | exact ask_Parse.mono _ _
   | exact credenzalaw22_awake.mono _
   | exact credenzaref22_Parse.mono _ _
   | exact LeO.none _
   | refine LeO.ite ?_ ?_
   | refine LeO.bind ?_ (fun _ => ?_)
def credenzalaw22_AskParses.T5 : Bool × List (List Nat × List Nat) := (true, [([], []), ([], []), ([0, 1], [0, 1]), ([2], [2]), ([3], [3]), ([4, 3, 3], [3, 4]), ([3], [3]), ([5, 6, 5, 3], [3, 5, 6]), ([7, 3], [3, 7]), ([3, 8], [3, 8])])
def credenzalaw22_AskParses.B5 : List Nat := [0, 0, 3, 7, 15, 31, 15, 127, 255, 511]
theorem credenzalaw22_AskParses.tab5 : rtab .any (opsOf Try.f4 5) = credenzalaw22_AskParses.T5 := by kernel_rfl
theorem credenzalaw22_AskParses.bits5 : waitsOk credenzalaw22_AskParses.T5.2 credenzalaw22_AskParses.B5 = true := by kernel_rfl
set_option maxHeartbeats 8000000 in
set_option maxRecDepth 100000 in
theorem credenzalaw22_AskParses.calls (k : Nat) (A0 : Option Addr) (c0 : Nat) (l0 : List Int) (r : Bool) (w : World) (hr0 : Kd.C (Kd.int .u8) w A0 l0.length l0) (hc0 : l0.length ≤ c0) (h : credenzalaw22_AskParses.f k l0 = some r) :
  Calls Try.prog 4 #[.slice A0 l0.length c0] w fun e w' => e = .returned (.bool r) ∧ Below w.heap.size w w' := by
 have hu30 := Try.underlying30
 have hu40 := Try.underlying40
 have HR0 := Aside0.mk hr0
 have HC0 := Aside0.mk hc0
 clear hr0 hc0
 have HB := Aside0.mk (Below.refl w.heap.size w)
 have H : (if (l0.length : Int) > 3000 then ((credenzalaw22_awake.f k).bind fun t284 => (some t284)) else ((ask_Parse.f k l0).bind fun bt285 => ((credenzaref22_Parse.f k (strOfNums l0)).bind fun bt298 => (if bt285.2.2.2.2.2.2.2.2.2 = bt298.2.2.2.2.2.2.2.2.2 then ((credenzalaw22_ref.f bt285.1 bt285.2.1 bt285.2.2.1 bt285.2.2.2.1 bt285.2.2.2.2.1 bt285.2.2.2.2.2.1 bt285.2.2.2.2.2.2.1 bt285.2.2.2.2.2.2.2.1 bt285.2.2.2.2.2.2.2.2.1).bind fun _ => ((credenzaref22_Same.f bt285.1 bt285.2.1 bt285.2.2.1 bt285.2.2.2.1 bt285.2.2.2.2.1 bt285.2.2.2.2.2.1 bt285.2.2.2.2.2.2.1 bt285.2.2.2.2.2.2.2.1 bt285.2.2.2.2.2.2.2.2.1 bt298.1 bt298.2.1 bt298.2.2.1 bt298.2.2.2.1 bt298.2.2.2.2.1 bt298.2.2.2.2.2.1 bt298.2.2.2.2.2.2.1 bt298.2.2.2.2.2.2.2.1 bt298.2.2.2.2.2.2.2.2.1).bind fun t311 => (credenzalaw22_AskParses.j0 k l0 bt298.2.2.2.2.2.2.2.2.2 (!t311) bt285.1 bt285.2.1 bt285.2.2.1 bt285.2.2.2.1 bt285.2.2.2.2.1 bt285.2.2.2.2.2.1 bt285.2.2.2.2.2.2.1 bt285.2.2.2.2.2.2.2.1 bt285.2.2.2.2.2.2.2.2.1))) else (credenzalaw22_AskParses.j0 k l0 bt298.2.2.2.2.2.2.2.2.2 true bt285.1 bt285.2.1 bt285.2.2.1 bt285.2.2.2.1 bt285.2.2.2.2.1 bt285.2.2.2.2.2.1 bt285.2.2.2.2.2.2.1 bt285.2.2.2.2.2.2.2.1 bt285.2.2.2.2.2.2.2.2.1))))) = some r := h
 clear h
 by_cases c2 : (l0.length : Int) > 3000
 ·
  rw [if_pos c2] at H
  have c2b0 : decide (3000 < (l0.length : Int)) = true := decide_eq_true c2
  have c2b1 : decide (3000 < l0.length) = true := decide_eq_true (by omega)
  clear c2
  replace H := Option.bind_eq_some_iff.mp H
  obtain ⟨t284, A30, H⟩ := H
  replace H : (some t284) = some r := H
  have A3 := Aside0.mk A30
  clear A30
  obtain rfl := Option.some.inj H
  go_enter Try.func4, Try.ntmps4
  go_wp2_with (first | ((with_reducible refine gate_callee (f := 12) rfl ?_); refine goesL_ (some 12) rfl rfl Try.func12 (by kernel_rfl) rfl #[] rfl (by (try simp only [List.map_toArray, List.map_cons, List.map_nil]); first | done | rfl | (simp only [List.length_drop, List.length_take]; rfl)) ?_; (with_reducible refine (credenzalaw22_awake.calls k  t284 _ A3.out).mono ?_); rintro e w4 ⟨rfl, hb⟩; refine ⟨_, rfl, ?_⟩; have n0_ := Aside0.mk (below_step (by repeat (first | (with_reducible first | exact HB.out | apply below_alloc | apply pw_below_drewN | apply below_drew1) | exact HB.out)) hb); clear HB; have HB := n0_; clear n0_; (try clear hb); (try clear hb2); (try clear hk); (try clear hi)))
  go_ret
  exact ⟨by first | rfl | (simp [errW_none, errW_some] <;> rfl) | (simp [*, errW_none, errW_some] <;> rfl), by repeat (first | (with_reducible first | exact HB.out | apply below_alloc | apply pw_below_drewN | apply below_drew1) | exact HB.out)⟩
 ·
  rw [if_neg c2] at H
  have c2b0 : decide (3000 < (l0.length : Int)) = false := decide_eq_false c2
  have c2b1 : decide (3000 < l0.length) = false := decide_eq_false (by omega)
  clear c2
  replace H := Option.bind_eq_some_iff.mp H
  obtain ⟨⟨t285, t286, t287, t290, t291, t292, t293, t294, t295, t296⟩, A50, H⟩ := H
  replace H : ((credenzaref22_Parse.f k (strOfNums l0)).bind fun bt298 => (if t296 = bt298.2.2.2.2.2.2.2.2.2 then ((credenzalaw22_ref.f t285 t286 t287 t290 t291 t292 t293 t294 t295).bind fun _ => ((credenzaref22_Same.f t285 t286 t287 t290 t291 t292 t293 t294 t295 bt298.1 bt298.2.1 bt298.2.2.1 bt298.2.2.2.1 bt298.2.2.2.2.1 bt298.2.2.2.2.2.1 bt298.2.2.2.2.2.2.1 bt298.2.2.2.2.2.2.2.1 bt298.2.2.2.2.2.2.2.2.1).bind fun t311 => (credenzalaw22_AskParses.j0 k l0 bt298.2.2.2.2.2.2.2.2.2 (!t311) t285 t286 t287 t290 t291 t292 t293 t294 t295))) else (credenzalaw22_AskParses.j0 k l0 bt298.2.2.2.2.2.2.2.2.2 true t285 t286 t287 t290 t291 t292 t293 t294 t295))) = some r := H
  have A5 := Aside0.mk A50
  clear A50
  replace H := Option.bind_eq_some_iff.mp H
  obtain ⟨⟨t298, t299, t300, t303, t304, t305, t306, t307, t308, t309⟩, A60, H⟩ := H
  replace H : (if t296 = t309 then ((credenzalaw22_ref.f t285 t286 t287 t290 t291 t292 t293 t294 t295).bind fun _ => ((credenzaref22_Same.f t285 t286 t287 t290 t291 t292 t293 t294 t295 t298 t299 t300 t303 t304 t305 t306 t307 t308).bind fun t311 => (credenzalaw22_AskParses.j0 k l0 t309 (!t311) t285 t286 t287 t290 t291 t292 t293 t294 t295))) else (credenzalaw22_AskParses.j0 k l0 t309 true t285 t286 t287 t290 t291 t292 t293 t294 t295)) = some r := H
  have A6 := Aside0.mk A60
  clear A60
  have HC7 := Aside0.mk H
  clear H
  go_enter Try.func4, Try.ntmps4
  go_upto_region 5 with (first | ((with_reducible refine gate_callee (f := 17) rfl ?_); refine goesL_ (some 15) rfl rfl Try.func17 (by kernel_rfl) rfl #[.slice A0 l0.length c0] rfl (by (try simp only [List.map_toArray, List.map_cons, List.map_nil]); first | done | rfl | (simp only [List.length_drop, List.length_take]; rfl)) ?_; (with_reducible refine (ask_Parse.calls k _ _ l0 t285 t286 t287 t290 t291 t292 t293 t294 t295 t296 _ ?side1 ?side2 A5.out).mono ?_); (case side1 => repeat (first | exact HR0.out | (with_reducible refine Kd.C_alloc ?_ _) | (with_reducible refine Kd.C_drewN ?_ _) | (with_reducible refine Kd.C_drew ?_))); (case side2 => exact HC0.out); rintro e w8 ⟨v288, rfl, ho0, hb⟩; refine ⟨_, rfl, ?_⟩; have n0_ := Aside0.mk (Kd.R_lower ho0 (below_size (by repeat (first | (with_reducible first | exact HB.out | apply below_alloc | apply pw_below_drewN | apply below_drew1) | exact HB.out)))); have n1_ := Aside0.mk (below_step (by repeat (first | (with_reducible first | exact HB.out | apply below_alloc | apply pw_below_drewN | apply below_drew1) | exact HB.out)) hb); clear HB; have HO289 := n0_; have HB := n1_; clear n0_ n1_; (try clear hb); (try clear hb2); (try clear hk); (try clear hi); (try clear ho0)) | ((with_reducible refine gate_dst (N := 3) rfl ?_); refine box_event ?hg (N := 3) ?hd (cs := #[.int .i64 0, .int .u32 0, .slice none 0 0, .int .i64 0, .int .i64 0, .int .i32 0, .int .i64 0, .int .u64 0, .int .i64 0]) (t := 30) ?hr ?_; (case hd => rfl); (case hg => rfl); (case hr => first | (go_simp; done) | (go_simp; rfl)); intro gb297 hg w9 hbox hb; have n0_ := Aside0.mk (Kd.R_below (by (with_reducible repeat (first | apply Kd.R_alloc | apply Kd.R_drewN | apply Kd.R_drew)); exact HO289.out) hb); have n1_ := Aside0.mk (below_step (by repeat (first | (with_reducible first | exact HB.out | apply below_alloc | apply pw_below_drewN | apply below_drew1) | exact HB.out)) hb); have n2_ := Aside0.mk (hbox); have n3_ := Aside0.mk ((by rw [hg]; exact (below_size (by repeat (first | (with_reducible first | exact HB.out | apply below_alloc | apply pw_below_drewN | apply below_drew1) | exact HB.out))) : w.heap.size ≤ gb297)); have n4_ := Aside0.mk ((by rw [hg]; exact (below_size (by repeat (first | (with_reducible first | exact HB.out | apply below_alloc | apply pw_below_drewN | apply below_drew1) | exact HB.out))) : w.heap.size ≤ gb297)); clear HO289; clear HB; have HO289 := n0_; have HB := n1_; have BK297 := n2_; have GW297 := n3_; have GE297 := n4_; clear n0_ n1_ n2_ n3_ n4_; clear hb hbox hg; have hcz10_0 : w9.cell? ⟨gb297, 0, none⟩ = some (.int .i64 0) := (blk_cell BK297.out 0).trans rfl; have hcz10_1 : w9.cell? ⟨gb297, 1, none⟩ = some (.int .u32 0) := (blk_cell BK297.out 1).trans rfl; have hcz10_2 : w9.cell? ⟨gb297, 2, none⟩ = some (.slice none 0 0) := (blk_cell BK297.out 2).trans rfl; have hcz10_3 : w9.cell? ⟨gb297, 3, none⟩ = some (.int .i64 0) := (blk_cell BK297.out 3).trans rfl; have hcz10_4 : w9.cell? ⟨gb297, 4, none⟩ = some (.int .i64 0) := (blk_cell BK297.out 4).trans rfl; have hcz10_5 : w9.cell? ⟨gb297, 5, none⟩ = some (.int .i32 0) := (blk_cell BK297.out 5).trans rfl; have hcz10_6 : w9.cell? ⟨gb297, 6, none⟩ = some (.int .i64 0) := (blk_cell BK297.out 6).trans rfl; have hcz10_7 : w9.cell? ⟨gb297, 7, none⟩ = some (.int .u64 0) := (blk_cell BK297.out 7).trans rfl; have hcz10_8 : w9.cell? ⟨gb297, 8, none⟩ = some (.int .i64 0) := (blk_cell BK297.out 8).trans rfl; have hfz10_0 := blk_frozen BK297.out 0; have hfz10_1 := blk_frozen BK297.out 1; have hfz10_2 := blk_frozen BK297.out 2; have hfz10_3 := blk_frozen BK297.out 3; have hfz10_4 := blk_frozen BK297.out 4; have hfz10_5 := blk_frozen BK297.out 5; have hfz10_6 := blk_frozen BK297.out 6; have hfz10_7 := blk_frozen BK297.out 7; have hfz10_8 := blk_frozen BK297.out 8; obtain ⟨Ao11, co11, eo11⟩ := Kd.R_slice HO289.out; subst eo11; have hcv12 := Kd.C_string (P := Try.prog) (A := A0) (c := c0) Try.underlying32 Try.underlying5 Try.underlying9 (Kd.C_below HR0.out (show Below w.heap.size w (((((((((w9.setCell ⟨gb297, 0, none⟩ (.int .i64 t285)).setCell ⟨gb297, 1, none⟩ (.int .u32 t286)).setCell ⟨gb297, 2, none⟩ (.slice Ao11 t287.length co11)).setCell ⟨gb297, 3, none⟩ (.int .i64 t290)).setCell ⟨gb297, 4, none⟩ (.int .i64 t291)).setCell ⟨gb297, 5, none⟩ (.int .i32 t292)).setCell ⟨gb297, 6, none⟩ (.int .i64 t293)).setCell ⟨gb297, 7, none⟩ (.int .u64 t294)).setCell ⟨gb297, 8, none⟩ (.int .i64 t295)) from by repeat (first | (with_reducible first | exact HB.out | apply below_alloc | apply pw_below_drewN | apply below_drew1 | refine below_set ?_ GE297.out) | exact HB.out)))) | ((with_reducible refine gate_callee (f := 21) rfl ?_); refine goesL_ (some 21) rfl rfl Try.func21 (by kernel_rfl) rfl #[.string (strOfNums l0)] rfl (by (try simp only [List.map_toArray, List.map_cons, List.map_nil]); first | done | rfl | (simp only [List.length_drop, List.length_take]; rfl)) ?_; (with_reducible refine (credenzaref22_Parse.calls k (strOfNums l0) t298 t299 t300 t303 t304 t305 t306 t307 t308 t309 _ A6.out).mono ?_); rintro e w13 ⟨v301, rfl, ho0, hb⟩; refine ⟨_, rfl, ?_⟩; have n0_ := Aside0.mk (Kd.R_elder' (by (with_reducible repeat (first | apply Kd.R_alloc | apply Kd.R_drewN | apply Kd.R_drew)); exact (Kd.R_mono (Kd.R_far (p := ⟨gb297, 8, none⟩) (Kd.R_far (p := ⟨gb297, 7, none⟩) (Kd.R_far (p := ⟨gb297, 6, none⟩) (Kd.R_far (p := ⟨gb297, 5, none⟩) (Kd.R_far (p := ⟨gb297, 4, none⟩) (Kd.R_far (p := ⟨gb297, 3, none⟩) (Kd.R_far (p := ⟨gb297, 2, none⟩) (Kd.R_far (p := ⟨gb297, 1, none⟩) (Kd.R_far (p := ⟨gb297, 0, none⟩) (Kd.R_types HO289.out BK297.out (by decide)) (fun _ hk => hk.2) (.int .i64 t285)) (fun _ hk => hk.2) (.int .u32 t286)) (fun _ hk => hk.2) (.slice Ao11 t287.length co11)) (fun _ hk => hk.2) (.int .i64 t290)) (fun _ hk => hk.2) (.int .i64 t291)) (fun _ hk => hk.2) (.int .i32 t292)) (fun _ hk => hk.2) (.int .i64 t293)) (fun _ hk => hk.2) (.int .u64 t294)) (fun _ hk => hk.2) (.int .i64 t295)) (fun _ h_ => h_.1))) (Kd.R_base ho0) hb); have n1_ := Aside0.mk (Kd.R_lower (Kd.R_new' ho0 (Kd.R_lt (by (with_reducible repeat (first | apply Kd.R_alloc | apply Kd.R_drewN | apply Kd.R_drew)); exact (Kd.R_mono (Kd.R_far (p := ⟨gb297, 8, none⟩) (Kd.R_far (p := ⟨gb297, 7, none⟩) (Kd.R_far (p := ⟨gb297, 6, none⟩) (Kd.R_far (p := ⟨gb297, 5, none⟩) (Kd.R_far (p := ⟨gb297, 4, none⟩) (Kd.R_far (p := ⟨gb297, 3, none⟩) (Kd.R_far (p := ⟨gb297, 2, none⟩) (Kd.R_far (p := ⟨gb297, 1, none⟩) (Kd.R_far (p := ⟨gb297, 0, none⟩) (Kd.R_types HO289.out BK297.out (by decide)) (fun _ hk => hk.2) (.int .i64 t285)) (fun _ hk => hk.2) (.int .u32 t286)) (fun _ hk => hk.2) (.slice Ao11 t287.length co11)) (fun _ hk => hk.2) (.int .i64 t290)) (fun _ hk => hk.2) (.int .i64 t291)) (fun _ hk => hk.2) (.int .i32 t292)) (fun _ hk => hk.2) (.int .i64 t293)) (fun _ hk => hk.2) (.int .u64 t294)) (fun _ hk => hk.2) (.int .i64 t295)) (fun _ h_ => h_.1))))) (below_size (by repeat (first | (with_reducible first | exact HB.out | apply below_alloc | apply pw_below_drewN | apply below_drew1 | refine below_set ?_ GE297.out) | exact HB.out)))); have n2_ := Aside0.mk (blk_below (g := gb297) (o := .cells #[.int .i64 t285, .int .u32 t286, .slice Ao11 t287.length co11, .int .i64 t290, .int .i64 t291, .int .i32 t292, .int .i64 t293, .int .u64 t294, .int .i64 t295] 30 (0, 0)) (by (with_reducible repeat (first | refine blk_drewN ?_ _ | refine blk_drew ?_ | refine blk_alloc ?_ _)); refine blk_put (cs := #[.int .i64 t285, .int .u32 t286, .slice Ao11 t287.length co11, .int .i64 t290, .int .i64 t291, .int .i32 t292, .int .i64 t293, .int .u64 t294, .int .i64 0]) ?_ 8 _ rfl; (with_reducible repeat (first | refine blk_drewN ?_ _ | refine blk_drew ?_ | refine blk_alloc ?_ _)); refine blk_put (cs := #[.int .i64 t285, .int .u32 t286, .slice Ao11 t287.length co11, .int .i64 t290, .int .i64 t291, .int .i32 t292, .int .i64 t293, .int .u64 0, .int .i64 0]) ?_ 7 _ rfl; (with_reducible repeat (first | refine blk_drewN ?_ _ | refine blk_drew ?_ | refine blk_alloc ?_ _)); refine blk_put (cs := #[.int .i64 t285, .int .u32 t286, .slice Ao11 t287.length co11, .int .i64 t290, .int .i64 t291, .int .i32 t292, .int .i64 0, .int .u64 0, .int .i64 0]) ?_ 6 _ rfl; (with_reducible repeat (first | refine blk_drewN ?_ _ | refine blk_drew ?_ | refine blk_alloc ?_ _)); refine blk_put (cs := #[.int .i64 t285, .int .u32 t286, .slice Ao11 t287.length co11, .int .i64 t290, .int .i64 t291, .int .i32 0, .int .i64 0, .int .u64 0, .int .i64 0]) ?_ 5 _ rfl; (with_reducible repeat (first | refine blk_drewN ?_ _ | refine blk_drew ?_ | refine blk_alloc ?_ _)); refine blk_put (cs := #[.int .i64 t285, .int .u32 t286, .slice Ao11 t287.length co11, .int .i64 t290, .int .i64 0, .int .i32 0, .int .i64 0, .int .u64 0, .int .i64 0]) ?_ 4 _ rfl; (with_reducible repeat (first | refine blk_drewN ?_ _ | refine blk_drew ?_ | refine blk_alloc ?_ _)); refine blk_put (cs := #[.int .i64 t285, .int .u32 t286, .slice Ao11 t287.length co11, .int .i64 0, .int .i64 0, .int .i32 0, .int .i64 0, .int .u64 0, .int .i64 0]) ?_ 3 _ rfl; (with_reducible repeat (first | refine blk_drewN ?_ _ | refine blk_drew ?_ | refine blk_alloc ?_ _)); refine blk_put (cs := #[.int .i64 t285, .int .u32 t286, .slice none 0 0, .int .i64 0, .int .i64 0, .int .i32 0, .int .i64 0, .int .u64 0, .int .i64 0]) ?_ 2 _ rfl; (with_reducible repeat (first | refine blk_drewN ?_ _ | refine blk_drew ?_ | refine blk_alloc ?_ _)); refine blk_put (cs := #[.int .i64 t285, .int .u32 0, .slice none 0 0, .int .i64 0, .int .i64 0, .int .i32 0, .int .i64 0, .int .u64 0, .int .i64 0]) ?_ 1 _ rfl; (with_reducible repeat (first | refine blk_drewN ?_ _ | refine blk_drew ?_ | refine blk_alloc ?_ _)); refine blk_put (cs := #[.int .i64 0, .int .u32 0, .slice none 0 0, .int .i64 0, .int .i64 0, .int .i32 0, .int .i64 0, .int .u64 0, .int .i64 0]) ?_ 0 _ rfl; (with_reducible repeat (first | refine blk_drewN ?_ _ | refine blk_drew ?_ | refine blk_alloc ?_ _)); exact BK297.out) hb); have n3_ := Aside0.mk (below_step (by repeat (first | (with_reducible first | exact HB.out | apply below_alloc | apply pw_below_drewN | apply below_drew1 | refine below_set ?_ GE297.out) | exact HB.out)) hb); clear HO289; clear BK297; clear HB; have HO289 := n0_; have HO302 := n1_; have BK297 := n2_; have HB := n3_; clear n0_ n1_ n2_ n3_; (try clear hb); (try clear hb2); (try clear hk); (try clear hi); (try clear ho0)) | ((with_reducible refine gate_dst (N := 5) rfl ?_); refine box_event ?hg (N := 5) ?hd (cs := #[.int .i64 0, .int .u32 0, .slice none 0 0, .int .i64 0, .int .i64 0, .int .i32 0, .int .i64 0, .int .u64 0, .int .i64 0]) (t := 40) ?hr ?_; (case hd => rfl); (case hg => rfl); (case hr => first | (go_simp; done) | (go_simp; rfl)); intro gb310 hg w14 hbox hb; have n0_ := Aside0.mk (Kd.R_below (by (with_reducible repeat (first | apply Kd.R_alloc | apply Kd.R_drewN | apply Kd.R_drew)); exact HO289.out) hb); have n1_ := Aside0.mk (Kd.R_below (by (with_reducible repeat (first | apply Kd.R_alloc | apply Kd.R_drewN | apply Kd.R_drew)); exact HO302.out) hb); have n2_ := Aside0.mk (blk_below (g := gb297) (o := .cells #[.int .i64 t285, .int .u32 t286, .slice Ao11 t287.length co11, .int .i64 t290, .int .i64 t291, .int .i32 t292, .int .i64 t293, .int .u64 t294, .int .i64 t295] 30 (0, 0)) (by (with_reducible repeat (first | refine blk_drewN ?_ _ | refine blk_drew ?_ | refine blk_alloc ?_ _)); exact BK297.out) hb); have n3_ := Aside0.mk (below_step (by repeat (first | (with_reducible first | exact HB.out | apply below_alloc | apply pw_below_drewN | apply below_drew1 | refine below_set ?_ GE297.out) | exact HB.out)) hb); have n4_ := Aside0.mk (hbox); have n5_ := Aside0.mk ((by rw [hg]; exact (below_size (by repeat (first | (with_reducible first | exact HB.out | apply below_alloc | apply pw_below_drewN | apply below_drew1 | refine below_set ?_ GE297.out) | exact HB.out))) : w.heap.size ≤ gb310)); have n6_ := Aside0.mk ((by rw [hg]; exact (below_size (by repeat (first | (with_reducible first | exact HB.out | apply below_alloc | apply pw_below_drewN | apply below_drew1 | refine below_set ?_ GE297.out) | exact HB.out))) : w.heap.size ≤ gb310)); have n7_ := Aside0.mk ((by rw [hg]; exact Nat.ne_of_lt (blk_lt (g := gb297) (o := .cells #[.int .i64 t285, .int .u32 t286, .slice Ao11 t287.length co11, .int .i64 t290, .int .i64 t291, .int .i32 t292, .int .i64 t293, .int .u64 t294, .int .i64 t295] 30 (0, 0)) (by (with_reducible repeat (first | refine blk_drewN ?_ _ | refine blk_drew ?_ | refine blk_alloc ?_ _)); exact BK297.out)) : gb297 ≠ gb310)); have n8_ := Aside0.mk ((by rw [hg]; exact Nat.ne_of_gt (blk_lt (g := gb297) (o := .cells #[.int .i64 t285, .int .u32 t286, .slice Ao11 t287.length co11, .int .i64 t290, .int .i64 t291, .int .i32 t292, .int .i64 t293, .int .u64 t294, .int .i64 t295] 30 (0, 0)) (by (with_reducible repeat (first | refine blk_drewN ?_ _ | refine blk_drew ?_ | refine blk_alloc ?_ _)); exact BK297.out)) : gb310 ≠ gb297)); clear HO289; clear HO302; clear BK297; clear HB; have HO289 := n0_; have HO302 := n1_; have BK297 := n2_; have HB := n3_; have BK310 := n4_; have GW310 := n5_; have GE310 := n6_; have NB297_310 := n7_; have NB310_297 := n8_; clear n0_ n1_ n2_ n3_ n4_ n5_ n6_ n7_ n8_; clear hb hbox hg; have hnb15 := NB310_297.out; have hnc15 := NB297_310.out; have hcz16_0 : w14.cell? ⟨gb310, 0, none⟩ = some (.int .i64 0) := (blk_cell BK310.out 0).trans rfl; have hcz16_1 : w14.cell? ⟨gb310, 1, none⟩ = some (.int .u32 0) := (blk_cell BK310.out 1).trans rfl; have hcz16_2 : w14.cell? ⟨gb310, 2, none⟩ = some (.slice none 0 0) := (blk_cell BK310.out 2).trans rfl; have hcz16_3 : w14.cell? ⟨gb310, 3, none⟩ = some (.int .i64 0) := (blk_cell BK310.out 3).trans rfl; have hcz16_4 : w14.cell? ⟨gb310, 4, none⟩ = some (.int .i64 0) := (blk_cell BK310.out 4).trans rfl; have hcz16_5 : w14.cell? ⟨gb310, 5, none⟩ = some (.int .i32 0) := (blk_cell BK310.out 5).trans rfl; have hcz16_6 : w14.cell? ⟨gb310, 6, none⟩ = some (.int .i64 0) := (blk_cell BK310.out 6).trans rfl; have hcz16_7 : w14.cell? ⟨gb310, 7, none⟩ = some (.int .u64 0) := (blk_cell BK310.out 7).trans rfl; have hcz16_8 : w14.cell? ⟨gb310, 8, none⟩ = some (.int .i64 0) := (blk_cell BK310.out 8).trans rfl; have hfz16_0 := blk_frozen BK310.out 0; have hfz16_1 := blk_frozen BK310.out 1; have hfz16_2 := blk_frozen BK310.out 2; have hfz16_3 := blk_frozen BK310.out 3; have hfz16_4 := blk_frozen BK310.out 4; have hfz16_5 := blk_frozen BK310.out 5; have hfz16_6 := blk_frozen BK310.out 6; have hfz16_7 := blk_frozen BK310.out 7; have hfz16_8 := blk_frozen BK310.out 8; obtain ⟨Ao17, co17, eo17⟩ := Kd.R_slice HO302.out; subst eo17))
  (try simp only [Act.put, List.setIfInBounds_toArray, List.set_cons_zero, List.set_cons_succ])
  go_cut [33] (fun v33 wc => ∃ (kq : Nat) (x33_6 : Bool), v33 = .bool x33_6 ∧ Aside0 (credenzalaw22_AskParses.j0 kq l0 t309 x33_6 t285 t286 t287 t290 t291 t292 t293 t294 t295 = some r) ∧ Aside0 (kq ≤ k) ∧ Aside0 (Kd.R (Kd.int .i64) 3 wc w.heap.size (fun k_ => some k_ ≠ ((.slice Ao17 t300.length co17) : Value).ownBlock) (.slice Ao11 t287.length co11) t287) ∧ Aside0 (Kd.R (Kd.int .i64) 3 wc w.heap.size (fun k_ => some k_ ≠ ((.slice Ao11 t287.length co11) : Value).ownBlock) (.slice Ao17 t300.length co17) t300) ∧ Aside0 (wc.heap[gb297]? = some (.cells #[.int .i64 t285, .int .u32 t286, (.slice Ao11 t287.length co11), .int .i64 t290, .int .i64 t291, .int .i32 t292, .int .i64 t293, .int .u64 t294, .int .i64 t295] 30 (0, 0))) ∧ Aside0 (wc.heap[gb310]? = some (.cells #[.int .i64 t298, .int .u32 t299, (.slice Ao17 t300.length co17), .int .i64 t303, .int .i64 t304, .int .i32 t305, .int .i64 t306, .int .u64 t307, .int .i64 t308] 40 (0, 0))) ∧ Aside0 (Below w.heap.size w wc))
  case first =>
   have H := HC7.out
   clear HC7
   by_cases c18 : t296 = t309
   ·
    rw [if_pos c18] at H
    have c18b0 : (t296 == t309) = true := beq_iff_eq.mpr c18
    have c18b1 : (t296 != t309) = false := bne_eq_false_iff_eq.mpr c18
    clear c18
    (first | rw [c18b0] | (simp only [i64_w, i32_w]; rw [c18b0]) | skip)
    replace H := Option.bind_eq_some_iff.mp H
    obtain ⟨_, A190, H⟩ := H
    replace H : ((credenzaref22_Same.f t285 t286 t287 t290 t291 t292 t293 t294 t295 t298 t299 t300 t303 t304 t305 t306 t307 t308).bind fun t311 => (credenzalaw22_AskParses.j0 k l0 t309 (!t311) t285 t286 t287 t290 t291 t292 t293 t294 t295)) = some r := H
    have A19 := Aside0.mk A190
    clear A190
    replace H := Option.bind_eq_some_iff.mp H
    obtain ⟨t311, A200, H⟩ := H
    replace H : (credenzalaw22_AskParses.j0 k l0 t309 (!t311) t285 t286 t287 t290 t291 t292 t293 t294 t295) = some r := H
    have A20 := Aside0.mk A200
    clear A200
    have H' := Aside0.mk H
    clear H
    try go_wp2
    have n0_ : Aside0 (Kd.R (Kd.int .i64) 3 (((((((((w14.setCell ⟨gb310, 0, none⟩ (.int .i64 t298)).setCell ⟨gb310, 1, none⟩ (.int .u32 t299)).setCell ⟨gb310, 2, none⟩ (.slice Ao17 t300.length co17)).setCell ⟨gb310, 3, none⟩ (.int .i64 t303)).setCell ⟨gb310, 4, none⟩ (.int .i64 t304)).setCell ⟨gb310, 5, none⟩ (.int .i32 t305)).setCell ⟨gb310, 6, none⟩ (.int .i64 t306)).setCell ⟨gb310, 7, none⟩ (.int .u64 t307)).setCell ⟨gb310, 8, none⟩ (.int .i64 t308)) w.heap.size (fun k_ => some k_ ≠ (.slice Ao17 t300.length co17 : Value).ownBlock) (.slice Ao11 t287.length co11) t287) := ⟨by (with_reducible repeat (first | apply Kd.R_alloc | apply Kd.R_drewN | apply Kd.R_drew)); exact Kd.R_mono (Kd.R_far (p := ⟨gb310, 8, none⟩) (Kd.R_far (p := ⟨gb310, 7, none⟩) (Kd.R_far (p := ⟨gb310, 6, none⟩) (Kd.R_far (p := ⟨gb310, 5, none⟩) (Kd.R_far (p := ⟨gb310, 4, none⟩) (Kd.R_far (p := ⟨gb310, 3, none⟩) (Kd.R_far (p := ⟨gb310, 2, none⟩) (Kd.R_far (p := ⟨gb310, 1, none⟩) (Kd.R_far (p := ⟨gb310, 0, none⟩) (Kd.R_types HO289.out BK310.out (by decide)) (fun _ hk => hk.2) (.int .i64 t298)) (fun _ hk => hk.2) (.int .u32 t299)) (fun _ hk => hk.2) (.slice Ao17 t300.length co17)) (fun _ hk => hk.2) (.int .i64 t303)) (fun _ hk => hk.2) (.int .i64 t304)) (fun _ hk => hk.2) (.int .i32 t305)) (fun _ hk => hk.2) (.int .i64 t306)) (fun _ hk => hk.2) (.int .u64 t307)) (fun _ hk => hk.2) (.int .i64 t308)) (fun _ hk => hk.1.2)⟩
    have n1_ : Aside0 (Kd.R (Kd.int .i64) 3 (((((((((w14.setCell ⟨gb310, 0, none⟩ (.int .i64 t298)).setCell ⟨gb310, 1, none⟩ (.int .u32 t299)).setCell ⟨gb310, 2, none⟩ (.slice Ao17 t300.length co17)).setCell ⟨gb310, 3, none⟩ (.int .i64 t303)).setCell ⟨gb310, 4, none⟩ (.int .i64 t304)).setCell ⟨gb310, 5, none⟩ (.int .i32 t305)).setCell ⟨gb310, 6, none⟩ (.int .i64 t306)).setCell ⟨gb310, 7, none⟩ (.int .u64 t307)).setCell ⟨gb310, 8, none⟩ (.int .i64 t308)) w.heap.size (fun k_ => some k_ ≠ (.slice Ao11 t287.length co11 : Value).ownBlock) (.slice Ao17 t300.length co17) t300) := ⟨by (with_reducible repeat (first | apply Kd.R_alloc | apply Kd.R_drewN | apply Kd.R_drew)); exact Kd.R_mono (Kd.R_far (p := ⟨gb310, 8, none⟩) (Kd.R_far (p := ⟨gb310, 7, none⟩) (Kd.R_far (p := ⟨gb310, 6, none⟩) (Kd.R_far (p := ⟨gb310, 5, none⟩) (Kd.R_far (p := ⟨gb310, 4, none⟩) (Kd.R_far (p := ⟨gb310, 3, none⟩) (Kd.R_far (p := ⟨gb310, 2, none⟩) (Kd.R_far (p := ⟨gb310, 1, none⟩) (Kd.R_far (p := ⟨gb310, 0, none⟩) (Kd.R_types HO302.out BK310.out (by decide)) (fun _ hk => hk.2) (.int .i64 t298)) (fun _ hk => hk.2) (.int .u32 t299)) (fun _ hk => hk.2) (.slice Ao17 t300.length co17)) (fun _ hk => hk.2) (.int .i64 t303)) (fun _ hk => hk.2) (.int .i64 t304)) (fun _ hk => hk.2) (.int .i32 t305)) (fun _ hk => hk.2) (.int .i64 t306)) (fun _ hk => hk.2) (.int .u64 t307)) (fun _ hk => hk.2) (.int .i64 t308)) (fun _ hk => hk.1.2)⟩
    have n2_ : Aside0 ((((((((((w14.setCell ⟨gb310, 0, none⟩ (.int .i64 t298)).setCell ⟨gb310, 1, none⟩ (.int .u32 t299)).setCell ⟨gb310, 2, none⟩ (.slice Ao17 t300.length co17)).setCell ⟨gb310, 3, none⟩ (.int .i64 t303)).setCell ⟨gb310, 4, none⟩ (.int .i64 t304)).setCell ⟨gb310, 5, none⟩ (.int .i32 t305)).setCell ⟨gb310, 6, none⟩ (.int .i64 t306)).setCell ⟨gb310, 7, none⟩ (.int .u64 t307)).setCell ⟨gb310, 8, none⟩ (.int .i64 t308)).heap[gb297]? = some (.cells #[.int .i64 t285, .int .u32 t286, .slice Ao11 t287.length co11, .int .i64 t290, .int .i64 t291, .int .i32 t292, .int .i64 t293, .int .u64 t294, .int .i64 t295] 30 (0, 0))) := ⟨by (with_reducible repeat (first | refine blk_drewN ?_ _ | refine blk_drew ?_ | refine blk_alloc ?_ _)); refine blk_far ?_ NB297_310.out _; (with_reducible repeat (first | refine blk_drewN ?_ _ | refine blk_drew ?_ | refine blk_alloc ?_ _)); refine blk_far ?_ NB297_310.out _; (with_reducible repeat (first | refine blk_drewN ?_ _ | refine blk_drew ?_ | refine blk_alloc ?_ _)); refine blk_far ?_ NB297_310.out _; (with_reducible repeat (first | refine blk_drewN ?_ _ | refine blk_drew ?_ | refine blk_alloc ?_ _)); refine blk_far ?_ NB297_310.out _; (with_reducible repeat (first | refine blk_drewN ?_ _ | refine blk_drew ?_ | refine blk_alloc ?_ _)); refine blk_far ?_ NB297_310.out _; (with_reducible repeat (first | refine blk_drewN ?_ _ | refine blk_drew ?_ | refine blk_alloc ?_ _)); refine blk_far ?_ NB297_310.out _; (with_reducible repeat (first | refine blk_drewN ?_ _ | refine blk_drew ?_ | refine blk_alloc ?_ _)); refine blk_far ?_ NB297_310.out _; (with_reducible repeat (first | refine blk_drewN ?_ _ | refine blk_drew ?_ | refine blk_alloc ?_ _)); refine blk_far ?_ NB297_310.out _; (with_reducible repeat (first | refine blk_drewN ?_ _ | refine blk_drew ?_ | refine blk_alloc ?_ _)); refine blk_far ?_ NB297_310.out _; (with_reducible repeat (first | refine blk_drewN ?_ _ | refine blk_drew ?_ | refine blk_alloc ?_ _)); exact BK297.out⟩
    have n3_ : Aside0 ((((((((((w14.setCell ⟨gb310, 0, none⟩ (.int .i64 t298)).setCell ⟨gb310, 1, none⟩ (.int .u32 t299)).setCell ⟨gb310, 2, none⟩ (.slice Ao17 t300.length co17)).setCell ⟨gb310, 3, none⟩ (.int .i64 t303)).setCell ⟨gb310, 4, none⟩ (.int .i64 t304)).setCell ⟨gb310, 5, none⟩ (.int .i32 t305)).setCell ⟨gb310, 6, none⟩ (.int .i64 t306)).setCell ⟨gb310, 7, none⟩ (.int .u64 t307)).setCell ⟨gb310, 8, none⟩ (.int .i64 t308)).heap[gb310]? = some (.cells #[.int .i64 t298, .int .u32 t299, .slice Ao17 t300.length co17, .int .i64 t303, .int .i64 t304, .int .i32 t305, .int .i64 t306, .int .u64 t307, .int .i64 t308] 40 (0, 0))) := ⟨by (with_reducible repeat (first | refine blk_drewN ?_ _ | refine blk_drew ?_ | refine blk_alloc ?_ _)); refine blk_put (cs := #[.int .i64 t298, .int .u32 t299, .slice Ao17 t300.length co17, .int .i64 t303, .int .i64 t304, .int .i32 t305, .int .i64 t306, .int .u64 t307, .int .i64 0]) ?_ 8 _ rfl; (with_reducible repeat (first | refine blk_drewN ?_ _ | refine blk_drew ?_ | refine blk_alloc ?_ _)); refine blk_put (cs := #[.int .i64 t298, .int .u32 t299, .slice Ao17 t300.length co17, .int .i64 t303, .int .i64 t304, .int .i32 t305, .int .i64 t306, .int .u64 0, .int .i64 0]) ?_ 7 _ rfl; (with_reducible repeat (first | refine blk_drewN ?_ _ | refine blk_drew ?_ | refine blk_alloc ?_ _)); refine blk_put (cs := #[.int .i64 t298, .int .u32 t299, .slice Ao17 t300.length co17, .int .i64 t303, .int .i64 t304, .int .i32 t305, .int .i64 0, .int .u64 0, .int .i64 0]) ?_ 6 _ rfl; (with_reducible repeat (first | refine blk_drewN ?_ _ | refine blk_drew ?_ | refine blk_alloc ?_ _)); refine blk_put (cs := #[.int .i64 t298, .int .u32 t299, .slice Ao17 t300.length co17, .int .i64 t303, .int .i64 t304, .int .i32 0, .int .i64 0, .int .u64 0, .int .i64 0]) ?_ 5 _ rfl; (with_reducible repeat (first | refine blk_drewN ?_ _ | refine blk_drew ?_ | refine blk_alloc ?_ _)); refine blk_put (cs := #[.int .i64 t298, .int .u32 t299, .slice Ao17 t300.length co17, .int .i64 t303, .int .i64 0, .int .i32 0, .int .i64 0, .int .u64 0, .int .i64 0]) ?_ 4 _ rfl; (with_reducible repeat (first | refine blk_drewN ?_ _ | refine blk_drew ?_ | refine blk_alloc ?_ _)); refine blk_put (cs := #[.int .i64 t298, .int .u32 t299, .slice Ao17 t300.length co17, .int .i64 0, .int .i64 0, .int .i32 0, .int .i64 0, .int .u64 0, .int .i64 0]) ?_ 3 _ rfl; (with_reducible repeat (first | refine blk_drewN ?_ _ | refine blk_drew ?_ | refine blk_alloc ?_ _)); refine blk_put (cs := #[.int .i64 t298, .int .u32 t299, .slice none 0 0, .int .i64 0, .int .i64 0, .int .i32 0, .int .i64 0, .int .u64 0, .int .i64 0]) ?_ 2 _ rfl; (with_reducible repeat (first | refine blk_drewN ?_ _ | refine blk_drew ?_ | refine blk_alloc ?_ _)); refine blk_put (cs := #[.int .i64 t298, .int .u32 0, .slice none 0 0, .int .i64 0, .int .i64 0, .int .i32 0, .int .i64 0, .int .u64 0, .int .i64 0]) ?_ 1 _ rfl; (with_reducible repeat (first | refine blk_drewN ?_ _ | refine blk_drew ?_ | refine blk_alloc ?_ _)); refine blk_put (cs := #[.int .i64 0, .int .u32 0, .slice none 0 0, .int .i64 0, .int .i64 0, .int .i32 0, .int .i64 0, .int .u64 0, .int .i64 0]) ?_ 0 _ rfl; (with_reducible repeat (first | refine blk_drewN ?_ _ | refine blk_drew ?_ | refine blk_alloc ?_ _)); exact BK310.out⟩
    have n4_ : Aside0 (Below w.heap.size w (((((((((w14.setCell ⟨gb310, 0, none⟩ (.int .i64 t298)).setCell ⟨gb310, 1, none⟩ (.int .u32 t299)).setCell ⟨gb310, 2, none⟩ (.slice Ao17 t300.length co17)).setCell ⟨gb310, 3, none⟩ (.int .i64 t303)).setCell ⟨gb310, 4, none⟩ (.int .i64 t304)).setCell ⟨gb310, 5, none⟩ (.int .i32 t305)).setCell ⟨gb310, 6, none⟩ (.int .i64 t306)).setCell ⟨gb310, 7, none⟩ (.int .u64 t307)).setCell ⟨gb310, 8, none⟩ (.int .i64 t308))) := ⟨by repeat (first | (with_reducible first | exact HB.out | apply below_alloc | apply pw_below_drewN | apply below_drew1 | refine below_set ?_ GE297.out | refine below_set ?_ GE310.out) | exact HB.out)⟩
    (try clear HO289)
    (try clear HO302)
    (try clear BK297)
    (try clear BK310)
    (try clear HB)
    generalize (((((((((w14.setCell ⟨gb310, 0, none⟩ (.int .i64 t298)).setCell ⟨gb310, 1, none⟩ (.int .u32 t299)).setCell ⟨gb310, 2, none⟩ (.slice Ao17 t300.length co17)).setCell ⟨gb310, 3, none⟩ (.int .i64 t303)).setCell ⟨gb310, 4, none⟩ (.int .i64 t304)).setCell ⟨gb310, 5, none⟩ (.int .i32 t305)).setCell ⟨gb310, 6, none⟩ (.int .i64 t306)).setCell ⟨gb310, 7, none⟩ (.int .u64 t307)).setCell ⟨gb310, 8, none⟩ (.int .i64 t308)) = w21 at n0_ n1_ n2_ n3_ n4_ ⊢
    have HO289 := n0_
    have HO302 := n1_
    have BK297 := n2_
    have BK310 := n3_
    have HB := n4_
    clear n0_ n1_ n2_ n3_ n4_
    have n0_ := Aside0.mk (Kd.R_drew HO289.out)
    have n1_ := Aside0.mk (Kd.R_drew HO302.out)
    have n2_ := Aside0.mk (blk_drew BK297.out)
    have n3_ := Aside0.mk (blk_drew BK310.out)
    have n4_ := Aside0.mk (below_drew1 HB.out)
    clear HO289
    clear HO302
    clear BK297
    clear BK310
    clear HB
    have HO289 := n0_
    have HO302 := n1_
    have BK297 := n2_
    have BK310 := n3_
    have HB := n4_
    clear n0_ n1_ n2_ n3_ n4_
    refine start_ (n := 10) (S := fun w' => w'.cell? ⟨gb297, 0, none⟩ = some (.int .i64 t285) ∧ w'.cell? ⟨gb297, 1, none⟩ = some (.int .u32 t286) ∧ w'.cell? ⟨gb297, 2, none⟩ = some (.slice Ao11 t287.length co11) ∧ w'.cell? ⟨gb297, 3, none⟩ = some (.int .i64 t290) ∧ w'.cell? ⟨gb297, 4, none⟩ = some (.int .i64 t291) ∧ w'.cell? ⟨gb297, 5, none⟩ = some (.int .i32 t292) ∧ w'.cell? ⟨gb297, 6, none⟩ = some (.int .i64 t293) ∧ w'.cell? ⟨gb297, 7, none⟩ = some (.int .u64 t294) ∧ w'.cell? ⟨gb297, 8, none⟩ = some (.int .i64 t295) ∧ w'.cell? ⟨gb310, 0, none⟩ = some (.int .i64 t298) ∧ w'.cell? ⟨gb310, 1, none⟩ = some (.int .u32 t299) ∧ w'.cell? ⟨gb310, 2, none⟩ = some (.slice Ao17 t300.length co17) ∧ w'.cell? ⟨gb310, 3, none⟩ = some (.int .i64 t303) ∧ w'.cell? ⟨gb310, 4, none⟩ = some (.int .i64 t304) ∧ w'.cell? ⟨gb310, 5, none⟩ = some (.int .i32 t305) ∧ w'.cell? ⟨gb310, 6, none⟩ = some (.int .i64 t306) ∧ w'.cell? ⟨gb310, 7, none⟩ = some (.int .u64 t307) ∧ w'.cell? ⟨gb310, 8, none⟩ = some (.int .i64 t308)) (ds := []) #[false, false, false, false, false, false, false, false, false, false] (by kernel_rfl) rfl rfl ⟨(blk_cell BK297.out 0).trans rfl, (blk_cell BK297.out 1).trans rfl, (blk_cell BK297.out 2).trans rfl, (blk_cell BK297.out 3).trans rfl, (blk_cell BK297.out 4).trans rfl, (blk_cell BK297.out 5).trans rfl, (blk_cell BK297.out 6).trans rfl, (blk_cell BK297.out 7).trans rfl, (blk_cell BK297.out 8).trans rfl, (blk_cell BK310.out 0).trans rfl, (blk_cell BK310.out 1).trans rfl, (blk_cell BK310.out 2).trans rfl, (blk_cell BK310.out 3).trans rfl, (blk_cell BK310.out 4).trans rfl, (blk_cell BK310.out 5).trans rfl, (blk_cell BK310.out 6).trans rfl, (blk_cell BK310.out 7).trans rfl, (blk_cell BK310.out 8).trans rfl⟩ (fun hHeld => ?_); refine with_tabW credenzalaw22_AskParses.tab5 credenzalaw22_AskParses.bits5 (fun HT_ HW_ => ?_)
    generalize w21.drew = w22 at HO289 HO302 BK297 BK310 HB hHeld ⊢
    refine pure_ (i := 0) (N := some 24) (v := ?_) (a' := ?_) #[true, false, false, false, false, false, false, false, false, false] rfl rfl (any_of HT_.out (by kernel_rfl)) (fun _ _ _ h => h) (Or.inl ⟨by rfl, ?_⟩) ?_ ?_
    rotate_left
    ·
     intro w'
     go_simp
     with_reducible rfl
    rotate_left
    ·
     simp only [Act.put, List.setIfInBounds_toArray, List.set_cons_zero, List.set_cons_succ, i64_w, i32_w, IntKind.wrap_u32]
     rfl
    refine pure_ (i := 1) (N := some 25) (v := ?_) (a' := ?_) #[true, true, false, false, false, false, false, false, false, false] rfl rfl (any_of HT_.out (by kernel_rfl)) (fun _ _ _ h => h) (Or.inl ⟨by rfl, ?_⟩) ?_ ?_
    rotate_left
    ·
     intro w'
     go_simp
     with_reducible rfl
    rotate_left
    ·
     simp only [Act.put, List.setIfInBounds_toArray, List.set_cons_zero, List.set_cons_succ, i64_w, i32_w, IntKind.wrap_u32]
     rfl
    refine pure_ (i := 2) (N := some 26) (v := ?_) (a' := ?_) #[true, true, true, false, false, false, false, false, false, false] rfl rfl (any_of HT_.out (by kernel_rfl)) (fun _ _ _ h => h) (Or.inl ⟨by rfl, ?_⟩) ?_ ?_
    rotate_left
    ·
     intro w'
     go_simp
     with_reducible rfl
    rotate_left
    ·
     simp only [Act.put, List.setIfInBounds_toArray, List.set_cons_zero, List.set_cons_succ, i64_w, i32_w, IntKind.wrap_u32]
     rfl
    refine pure_ (i := 3) (N := some 27) (v := ?_) (a' := ?_) #[true, true, true, true, false, false, false, false, false, false] rfl rfl (any_of HT_.out (by kernel_rfl)) (fun _ _ _ h => h) (Or.inl ⟨by rfl, ?_⟩) ?_ ?_
    rotate_left
    ·
     intro w'
     go_simp
     with_reducible rfl
    rotate_left
    ·
     simp only [Act.put, List.setIfInBounds_toArray, List.set_cons_zero, List.set_cons_succ, i64_w, i32_w, IntKind.wrap_u32]
     rfl
    refine take_ (i := 4) (N := some 28) (v := ?_) (a' := ?_) #[true, true, true, true, true, false, false, false, false, false] rfl rfl (take_ofW HT_.out HW_.out (by kernel_rfl)) (fun _ _ _ h => h) (Or.inl ⟨by rfl, ?_⟩) hHeld ?_ ?_
    rotate_left
    ·
     rintro w' ⟨s0, s1, s2, s3, s4, s5, s6, s7, s8, s9, s10, s11, s12, s13, s14, s15, s16, s17⟩
     go_simp
     with_reducible rfl
    rotate_left
    ·
     simp only [Act.put, List.setIfInBounds_toArray, List.set_cons_zero, List.set_cons_succ, i64_w, i32_w, IntKind.wrap_u32]
     rfl
    refine take_ (i := 6) (N := some 30) (v := ?_) (a' := ?_) #[true, true, true, true, true, false, true, false, false, false] rfl rfl (take_ofW HT_.out HW_.out (by kernel_rfl)) (fun _ _ _ h => h) (Or.inl ⟨by rfl, ?_⟩) hHeld ?_ ?_
    rotate_left
    ·
     rintro w' ⟨s0, s1, s2, s3, s4, s5, s6, s7, s8, s9, s10, s11, s12, s13, s14, s15, s16, s17⟩
     go_simp
     with_reducible rfl
    rotate_left
    ·
     simp only [Act.put, List.setIfInBounds_toArray, List.set_cons_zero, List.set_cons_succ, i64_w, i32_w, IntKind.wrap_u32]
     rfl
    refine one_ (i := 5) (N := some 29) #[true, true, true, true, true, true, true, false, false, false] rfl rfl (one_of HT_.out (by kernel_rfl)) (by decide) (fun K hK => ?_)
    refine goes_ Try.func15 (by kernel_rfl) rfl #[.agg #[.int .i64 t285, .int .u32 t286, .slice Ao11 t287.length co11, .int .i64 t290, .int .i64 t291, .int .i32 t292, .int .i64 t293, .int .u64 t294, .int .i64 t295]] (by rfl) rfl rfl (by (try simp only [List.map_toArray, List.map_cons, List.map_nil]); first | done | rfl | (simp only [List.length_drop, List.length_take]; rfl)) ?_
    with_reducible refine (credenzalaw22_ref.calls t285 t286 _ _ t287 t290 t291 t292 t293 t294 t295  _ ?side1 ?side2 A19.out).mono ?_
    (case side1 => repeat (first | exact (Kd.R_reads' HO289.out).2.2 | (with_reducible refine Kd.C_alloc ?_ _) | (with_reducible refine Kd.C_drewN ?_ _) | (with_reducible refine Kd.C_drew ?_)))
    (case side2 => exact (Kd.R_reads' HO289.out).2.1)
    rintro e w23 ⟨rfl, hb⟩
    refine ⟨_, rfl, ?_⟩
    have n0_ := Aside0.mk (Kd.R_below (by (with_reducible repeat (first | apply Kd.R_alloc | apply Kd.R_drewN | apply Kd.R_drew)); exact HO289.out) hb)
    have n1_ := Aside0.mk (Kd.R_below (by (with_reducible repeat (first | apply Kd.R_alloc | apply Kd.R_drewN | apply Kd.R_drew)); exact HO302.out) hb)
    have n2_ := Aside0.mk (blk_below (g := gb297) (o := .cells #[.int .i64 t285, .int .u32 t286, .slice Ao11 t287.length co11, .int .i64 t290, .int .i64 t291, .int .i32 t292, .int .i64 t293, .int .u64 t294, .int .i64 t295] 30 (0, 0)) (by (with_reducible repeat (first | refine blk_drewN ?_ _ | refine blk_drew ?_ | refine blk_alloc ?_ _)); exact BK297.out) hb)
    have n3_ := Aside0.mk (blk_below (g := gb310) (o := .cells #[.int .i64 t298, .int .u32 t299, .slice Ao17 t300.length co17, .int .i64 t303, .int .i64 t304, .int .i32 t305, .int .i64 t306, .int .u64 t307, .int .i64 t308] 40 (0, 0)) (by (with_reducible repeat (first | refine blk_drewN ?_ _ | refine blk_drew ?_ | refine blk_alloc ?_ _)); exact BK310.out) hb)
    have n4_ := Aside0.mk (below_step (by repeat (first | (with_reducible first | exact HB.out | apply below_alloc | apply pw_below_drewN | apply below_drew1 | refine below_set ?_ GE297.out | refine below_set ?_ GE310.out) | exact HB.out)) hb)
    clear HO289
    clear HO302
    clear BK297
    clear BK310
    clear HB
    have HO289 := n0_
    have HO302 := n1_
    have BK297 := n2_
    have BK310 := n3_
    have HB := n4_
    clear n0_ n1_ n2_ n3_ n4_
    (try clear hb)
    (try clear hb2)
    (try clear hk)
    (try clear hi)
    refine hK.out _ _ ⟨(blk_cell BK297.out 0).trans rfl, (blk_cell BK297.out 1).trans rfl, (blk_cell BK297.out 2).trans rfl, (blk_cell BK297.out 3).trans rfl, (blk_cell BK297.out 4).trans rfl, (blk_cell BK297.out 5).trans rfl, (blk_cell BK297.out 6).trans rfl, (blk_cell BK297.out 7).trans rfl, (blk_cell BK297.out 8).trans rfl, (blk_cell BK310.out 0).trans rfl, (blk_cell BK310.out 1).trans rfl, (blk_cell BK310.out 2).trans rfl, (blk_cell BK310.out 3).trans rfl, (blk_cell BK310.out 4).trans rfl, (blk_cell BK310.out 5).trans rfl, (blk_cell BK310.out 6).trans rfl, (blk_cell BK310.out 7).trans rfl, (blk_cell BK310.out 8).trans rfl⟩ (fun hHeld => ?_)
    clear hK K
    refine norm_ (a' := ?_) ?_ ?_
    rotate_left
    ·
     show Act.put _ (some 29) _ = _
     simp only [Act.put, List.setIfInBounds_toArray, List.set_cons_zero, List.set_cons_succ, i64_w, i32_w, IntKind.wrap_u32]
     rfl
    refine one_ (i := 7) (N := some 31) #[true, true, true, true, true, true, true, true, false, false] rfl rfl (one_of HT_.out (by kernel_rfl)) (by decide) (fun K hK => ?_)
    refine goes_ Try.func20 (by kernel_rfl) rfl #[.agg #[.int .i64 t285, .int .u32 t286, .slice Ao11 t287.length co11, .int .i64 t290, .int .i64 t291, .int .i32 t292, .int .i64 t293, .int .u64 t294, .int .i64 t295], .agg #[.int .i64 t298, .int .u32 t299, .slice Ao17 t300.length co17, .int .i64 t303, .int .i64 t304, .int .i32 t305, .int .i64 t306, .int .u64 t307, .int .i64 t308]] (by rfl) rfl rfl (by (try simp only [List.map_toArray, List.map_cons, List.map_nil]); first | done | rfl | (simp only [List.length_drop, List.length_take]; rfl)) ?_
    with_reducible refine (credenzaref22_Same.calls t285 t286 _ _ t287 t290 t291 t292 t293 t294 t295 t298 t299 _ _ t300 t303 t304 t305 t306 t307 t308 t311 _ ?side1 ?side2 ?side3 ?side4 A20.out).mono ?_
    (case side1 => repeat (first | exact (Kd.R_reads' HO289.out).2.2 | (with_reducible refine Kd.C_alloc ?_ _) | (with_reducible refine Kd.C_drewN ?_ _) | (with_reducible refine Kd.C_drew ?_)))
    (case side2 => exact (Kd.R_reads' HO289.out).2.1)
    (case side3 => repeat (first | exact (Kd.R_reads' HO302.out).2.2 | (with_reducible refine Kd.C_alloc ?_ _) | (with_reducible refine Kd.C_drewN ?_ _) | (with_reducible refine Kd.C_drew ?_)))
    (case side4 => exact (Kd.R_reads' HO302.out).2.1)
    rintro e w24 ⟨rfl, hb⟩
    refine ⟨_, rfl, ?_⟩
    have n0_ := Aside0.mk (Kd.R_below (by (with_reducible repeat (first | apply Kd.R_alloc | apply Kd.R_drewN | apply Kd.R_drew)); exact HO289.out) hb)
    have n1_ := Aside0.mk (Kd.R_below (by (with_reducible repeat (first | apply Kd.R_alloc | apply Kd.R_drewN | apply Kd.R_drew)); exact HO302.out) hb)
    have n2_ := Aside0.mk (blk_below (g := gb297) (o := .cells #[.int .i64 t285, .int .u32 t286, .slice Ao11 t287.length co11, .int .i64 t290, .int .i64 t291, .int .i32 t292, .int .i64 t293, .int .u64 t294, .int .i64 t295] 30 (0, 0)) (by (with_reducible repeat (first | refine blk_drewN ?_ _ | refine blk_drew ?_ | refine blk_alloc ?_ _)); exact BK297.out) hb)
    have n3_ := Aside0.mk (blk_below (g := gb310) (o := .cells #[.int .i64 t298, .int .u32 t299, .slice Ao17 t300.length co17, .int .i64 t303, .int .i64 t304, .int .i32 t305, .int .i64 t306, .int .u64 t307, .int .i64 t308] 40 (0, 0)) (by (with_reducible repeat (first | refine blk_drewN ?_ _ | refine blk_drew ?_ | refine blk_alloc ?_ _)); exact BK310.out) hb)
    have n4_ := Aside0.mk (below_step (by repeat (first | (with_reducible first | exact HB.out | apply below_alloc | apply pw_below_drewN | apply below_drew1 | refine below_set ?_ GE297.out | refine below_set ?_ GE310.out) | exact HB.out)) hb)
    clear HO289
    clear HO302
    clear BK297
    clear BK310
    clear HB
    have HO289 := n0_
    have HO302 := n1_
    have BK297 := n2_
    have BK310 := n3_
    have HB := n4_
    clear n0_ n1_ n2_ n3_ n4_
    (try clear hb)
    (try clear hb2)
    (try clear hk)
    (try clear hi)
    refine hK.out _ _ ⟨(blk_cell BK297.out 0).trans rfl, (blk_cell BK297.out 1).trans rfl, (blk_cell BK297.out 2).trans rfl, (blk_cell BK297.out 3).trans rfl, (blk_cell BK297.out 4).trans rfl, (blk_cell BK297.out 5).trans rfl, (blk_cell BK297.out 6).trans rfl, (blk_cell BK297.out 7).trans rfl, (blk_cell BK297.out 8).trans rfl, (blk_cell BK310.out 0).trans rfl, (blk_cell BK310.out 1).trans rfl, (blk_cell BK310.out 2).trans rfl, (blk_cell BK310.out 3).trans rfl, (blk_cell BK310.out 4).trans rfl, (blk_cell BK310.out 5).trans rfl, (blk_cell BK310.out 6).trans rfl, (blk_cell BK310.out 7).trans rfl, (blk_cell BK310.out 8).trans rfl⟩ (fun hHeld => ?_)
    clear hK K
    refine norm_ (a' := ?_) ?_ ?_
    rotate_left
    ·
     show Act.put _ (some 31) _ = _
     simp only [Act.put, List.setIfInBounds_toArray, List.set_cons_zero, List.set_cons_succ, i64_w, i32_w, IntKind.wrap_u32]
     rfl
    refine pure_ (i := 8) (N := some 32) (v := ?_) (a' := ?_) #[true, true, true, true, true, true, true, true, true, false] rfl rfl (any_of HT_.out (by kernel_rfl)) (fun _ _ _ h => h) (Or.inl ⟨by rfl, ?_⟩) ?_ ?_
    rotate_left
    ·
     intro w'
     go_simp
     with_reducible rfl
    rotate_left
    ·
     simp only [Act.put, List.setIfInBounds_toArray, List.set_cons_zero, List.set_cons_succ, i64_w, i32_w, IntKind.wrap_u32]
     rfl
    refine pure_ (i := 9) (N := some 33) (v := ?_) (a' := ?_) #[true, true, true, true, true, true, true, true, true, true] rfl rfl (any_of HT_.out (by kernel_rfl)) (fun _ _ _ h => h) (Or.inl ⟨by rfl, ?_⟩) ?_ ?_
    rotate_left
    ·
     intro w'
     go_simp
     with_reducible rfl
    rotate_left
    ·
     simp only [Act.put, List.setIfInBounds_toArray, List.set_cons_zero, List.set_cons_succ, i64_w, i32_w, IntKind.wrap_u32]
     rfl
    refine done_ (done_of HT_.out (by kernel_rfl)) ?_
    try go_wp2
    go_meet
    case rel => exact ⟨_, (!t311), (by first | rfl | (simp; done) | (simp [*]; done)), H', ⟨by first | omega | exact Nat.le_refl _⟩, ⟨by (with_reducible repeat (first | apply Kd.R_alloc | apply Kd.R_drewN | apply Kd.R_drew)); exact HO289.out⟩, ⟨by (with_reducible repeat (first | apply Kd.R_alloc | apply Kd.R_drewN | apply Kd.R_drew)); exact HO302.out⟩, ⟨by (with_reducible repeat (first | refine blk_drewN ?_ _ | refine blk_drew ?_ | refine blk_alloc ?_ _)); exact BK297.out⟩, ⟨by (with_reducible repeat (first | refine blk_drewN ?_ _ | refine blk_drew ?_ | refine blk_alloc ?_ _)); exact BK310.out⟩, ⟨by repeat (first | (with_reducible first | exact HB.out | apply below_alloc | apply pw_below_drewN | apply below_drew1 | refine below_set ?_ GE297.out | refine below_set ?_ GE310.out) | exact HB.out)⟩⟩
   ·
    rw [if_neg c18] at H
    have c18b0 : (t296 == t309) = false := beq_eq_false_iff_ne.mpr c18
    have c18b1 : (t296 != t309) = true := bne_iff_ne.mpr c18
    (first | rw [c18b0] | (simp only [i64_w, i32_w]; rw [c18b0]) | skip)
    have H' := Aside0.mk H
    clear H
    try go_wp2
    have n0_ : Aside0 (Kd.R (Kd.int .i64) 3 (((((((((w14.setCell ⟨gb310, 0, none⟩ (.int .i64 t298)).setCell ⟨gb310, 1, none⟩ (.int .u32 t299)).setCell ⟨gb310, 2, none⟩ (.slice Ao17 t300.length co17)).setCell ⟨gb310, 3, none⟩ (.int .i64 t303)).setCell ⟨gb310, 4, none⟩ (.int .i64 t304)).setCell ⟨gb310, 5, none⟩ (.int .i32 t305)).setCell ⟨gb310, 6, none⟩ (.int .i64 t306)).setCell ⟨gb310, 7, none⟩ (.int .u64 t307)).setCell ⟨gb310, 8, none⟩ (.int .i64 t308)) w.heap.size (fun k_ => some k_ ≠ (.slice Ao17 t300.length co17 : Value).ownBlock) (.slice Ao11 t287.length co11) t287) := ⟨by (with_reducible repeat (first | apply Kd.R_alloc | apply Kd.R_drewN | apply Kd.R_drew)); exact Kd.R_mono (Kd.R_far (p := ⟨gb310, 8, none⟩) (Kd.R_far (p := ⟨gb310, 7, none⟩) (Kd.R_far (p := ⟨gb310, 6, none⟩) (Kd.R_far (p := ⟨gb310, 5, none⟩) (Kd.R_far (p := ⟨gb310, 4, none⟩) (Kd.R_far (p := ⟨gb310, 3, none⟩) (Kd.R_far (p := ⟨gb310, 2, none⟩) (Kd.R_far (p := ⟨gb310, 1, none⟩) (Kd.R_far (p := ⟨gb310, 0, none⟩) (Kd.R_types HO289.out BK310.out (by decide)) (fun _ hk => hk.2) (.int .i64 t298)) (fun _ hk => hk.2) (.int .u32 t299)) (fun _ hk => hk.2) (.slice Ao17 t300.length co17)) (fun _ hk => hk.2) (.int .i64 t303)) (fun _ hk => hk.2) (.int .i64 t304)) (fun _ hk => hk.2) (.int .i32 t305)) (fun _ hk => hk.2) (.int .i64 t306)) (fun _ hk => hk.2) (.int .u64 t307)) (fun _ hk => hk.2) (.int .i64 t308)) (fun _ hk => hk.1.2)⟩
    have n1_ : Aside0 (Kd.R (Kd.int .i64) 3 (((((((((w14.setCell ⟨gb310, 0, none⟩ (.int .i64 t298)).setCell ⟨gb310, 1, none⟩ (.int .u32 t299)).setCell ⟨gb310, 2, none⟩ (.slice Ao17 t300.length co17)).setCell ⟨gb310, 3, none⟩ (.int .i64 t303)).setCell ⟨gb310, 4, none⟩ (.int .i64 t304)).setCell ⟨gb310, 5, none⟩ (.int .i32 t305)).setCell ⟨gb310, 6, none⟩ (.int .i64 t306)).setCell ⟨gb310, 7, none⟩ (.int .u64 t307)).setCell ⟨gb310, 8, none⟩ (.int .i64 t308)) w.heap.size (fun k_ => some k_ ≠ (.slice Ao11 t287.length co11 : Value).ownBlock) (.slice Ao17 t300.length co17) t300) := ⟨by (with_reducible repeat (first | apply Kd.R_alloc | apply Kd.R_drewN | apply Kd.R_drew)); exact Kd.R_mono (Kd.R_far (p := ⟨gb310, 8, none⟩) (Kd.R_far (p := ⟨gb310, 7, none⟩) (Kd.R_far (p := ⟨gb310, 6, none⟩) (Kd.R_far (p := ⟨gb310, 5, none⟩) (Kd.R_far (p := ⟨gb310, 4, none⟩) (Kd.R_far (p := ⟨gb310, 3, none⟩) (Kd.R_far (p := ⟨gb310, 2, none⟩) (Kd.R_far (p := ⟨gb310, 1, none⟩) (Kd.R_far (p := ⟨gb310, 0, none⟩) (Kd.R_types HO302.out BK310.out (by decide)) (fun _ hk => hk.2) (.int .i64 t298)) (fun _ hk => hk.2) (.int .u32 t299)) (fun _ hk => hk.2) (.slice Ao17 t300.length co17)) (fun _ hk => hk.2) (.int .i64 t303)) (fun _ hk => hk.2) (.int .i64 t304)) (fun _ hk => hk.2) (.int .i32 t305)) (fun _ hk => hk.2) (.int .i64 t306)) (fun _ hk => hk.2) (.int .u64 t307)) (fun _ hk => hk.2) (.int .i64 t308)) (fun _ hk => hk.1.2)⟩
    have n2_ : Aside0 ((((((((((w14.setCell ⟨gb310, 0, none⟩ (.int .i64 t298)).setCell ⟨gb310, 1, none⟩ (.int .u32 t299)).setCell ⟨gb310, 2, none⟩ (.slice Ao17 t300.length co17)).setCell ⟨gb310, 3, none⟩ (.int .i64 t303)).setCell ⟨gb310, 4, none⟩ (.int .i64 t304)).setCell ⟨gb310, 5, none⟩ (.int .i32 t305)).setCell ⟨gb310, 6, none⟩ (.int .i64 t306)).setCell ⟨gb310, 7, none⟩ (.int .u64 t307)).setCell ⟨gb310, 8, none⟩ (.int .i64 t308)).heap[gb297]? = some (.cells #[.int .i64 t285, .int .u32 t286, .slice Ao11 t287.length co11, .int .i64 t290, .int .i64 t291, .int .i32 t292, .int .i64 t293, .int .u64 t294, .int .i64 t295] 30 (0, 0))) := ⟨by (with_reducible repeat (first | refine blk_drewN ?_ _ | refine blk_drew ?_ | refine blk_alloc ?_ _)); refine blk_far ?_ NB297_310.out _; (with_reducible repeat (first | refine blk_drewN ?_ _ | refine blk_drew ?_ | refine blk_alloc ?_ _)); refine blk_far ?_ NB297_310.out _; (with_reducible repeat (first | refine blk_drewN ?_ _ | refine blk_drew ?_ | refine blk_alloc ?_ _)); refine blk_far ?_ NB297_310.out _; (with_reducible repeat (first | refine blk_drewN ?_ _ | refine blk_drew ?_ | refine blk_alloc ?_ _)); refine blk_far ?_ NB297_310.out _; (with_reducible repeat (first | refine blk_drewN ?_ _ | refine blk_drew ?_ | refine blk_alloc ?_ _)); refine blk_far ?_ NB297_310.out _; (with_reducible repeat (first | refine blk_drewN ?_ _ | refine blk_drew ?_ | refine blk_alloc ?_ _)); refine blk_far ?_ NB297_310.out _; (with_reducible repeat (first | refine blk_drewN ?_ _ | refine blk_drew ?_ | refine blk_alloc ?_ _)); refine blk_far ?_ NB297_310.out _; (with_reducible repeat (first | refine blk_drewN ?_ _ | refine blk_drew ?_ | refine blk_alloc ?_ _)); refine blk_far ?_ NB297_310.out _; (with_reducible repeat (first | refine blk_drewN ?_ _ | refine blk_drew ?_ | refine blk_alloc ?_ _)); refine blk_far ?_ NB297_310.out _; (with_reducible repeat (first | refine blk_drewN ?_ _ | refine blk_drew ?_ | refine blk_alloc ?_ _)); exact BK297.out⟩
    have n3_ : Aside0 ((((((((((w14.setCell ⟨gb310, 0, none⟩ (.int .i64 t298)).setCell ⟨gb310, 1, none⟩ (.int .u32 t299)).setCell ⟨gb310, 2, none⟩ (.slice Ao17 t300.length co17)).setCell ⟨gb310, 3, none⟩ (.int .i64 t303)).setCell ⟨gb310, 4, none⟩ (.int .i64 t304)).setCell ⟨gb310, 5, none⟩ (.int .i32 t305)).setCell ⟨gb310, 6, none⟩ (.int .i64 t306)).setCell ⟨gb310, 7, none⟩ (.int .u64 t307)).setCell ⟨gb310, 8, none⟩ (.int .i64 t308)).heap[gb310]? = some (.cells #[.int .i64 t298, .int .u32 t299, .slice Ao17 t300.length co17, .int .i64 t303, .int .i64 t304, .int .i32 t305, .int .i64 t306, .int .u64 t307, .int .i64 t308] 40 (0, 0))) := ⟨by (with_reducible repeat (first | refine blk_drewN ?_ _ | refine blk_drew ?_ | refine blk_alloc ?_ _)); refine blk_put (cs := #[.int .i64 t298, .int .u32 t299, .slice Ao17 t300.length co17, .int .i64 t303, .int .i64 t304, .int .i32 t305, .int .i64 t306, .int .u64 t307, .int .i64 0]) ?_ 8 _ rfl; (with_reducible repeat (first | refine blk_drewN ?_ _ | refine blk_drew ?_ | refine blk_alloc ?_ _)); refine blk_put (cs := #[.int .i64 t298, .int .u32 t299, .slice Ao17 t300.length co17, .int .i64 t303, .int .i64 t304, .int .i32 t305, .int .i64 t306, .int .u64 0, .int .i64 0]) ?_ 7 _ rfl; (with_reducible repeat (first | refine blk_drewN ?_ _ | refine blk_drew ?_ | refine blk_alloc ?_ _)); refine blk_put (cs := #[.int .i64 t298, .int .u32 t299, .slice Ao17 t300.length co17, .int .i64 t303, .int .i64 t304, .int .i32 t305, .int .i64 0, .int .u64 0, .int .i64 0]) ?_ 6 _ rfl; (with_reducible repeat (first | refine blk_drewN ?_ _ | refine blk_drew ?_ | refine blk_alloc ?_ _)); refine blk_put (cs := #[.int .i64 t298, .int .u32 t299, .slice Ao17 t300.length co17, .int .i64 t303, .int .i64 t304, .int .i32 0, .int .i64 0, .int .u64 0, .int .i64 0]) ?_ 5 _ rfl; (with_reducible repeat (first | refine blk_drewN ?_ _ | refine blk_drew ?_ | refine blk_alloc ?_ _)); refine blk_put (cs := #[.int .i64 t298, .int .u32 t299, .slice Ao17 t300.length co17, .int .i64 t303, .int .i64 0, .int .i32 0, .int .i64 0, .int .u64 0, .int .i64 0]) ?_ 4 _ rfl; (with_reducible repeat (first | refine blk_drewN ?_ _ | refine blk_drew ?_ | refine blk_alloc ?_ _)); refine blk_put (cs := #[.int .i64 t298, .int .u32 t299, .slice Ao17 t300.length co17, .int .i64 0, .int .i64 0, .int .i32 0, .int .i64 0, .int .u64 0, .int .i64 0]) ?_ 3 _ rfl; (with_reducible repeat (first | refine blk_drewN ?_ _ | refine blk_drew ?_ | refine blk_alloc ?_ _)); refine blk_put (cs := #[.int .i64 t298, .int .u32 t299, .slice none 0 0, .int .i64 0, .int .i64 0, .int .i32 0, .int .i64 0, .int .u64 0, .int .i64 0]) ?_ 2 _ rfl; (with_reducible repeat (first | refine blk_drewN ?_ _ | refine blk_drew ?_ | refine blk_alloc ?_ _)); refine blk_put (cs := #[.int .i64 t298, .int .u32 0, .slice none 0 0, .int .i64 0, .int .i64 0, .int .i32 0, .int .i64 0, .int .u64 0, .int .i64 0]) ?_ 1 _ rfl; (with_reducible repeat (first | refine blk_drewN ?_ _ | refine blk_drew ?_ | refine blk_alloc ?_ _)); refine blk_put (cs := #[.int .i64 0, .int .u32 0, .slice none 0 0, .int .i64 0, .int .i64 0, .int .i32 0, .int .i64 0, .int .u64 0, .int .i64 0]) ?_ 0 _ rfl; (with_reducible repeat (first | refine blk_drewN ?_ _ | refine blk_drew ?_ | refine blk_alloc ?_ _)); exact BK310.out⟩
    have n4_ : Aside0 (Below w.heap.size w (((((((((w14.setCell ⟨gb310, 0, none⟩ (.int .i64 t298)).setCell ⟨gb310, 1, none⟩ (.int .u32 t299)).setCell ⟨gb310, 2, none⟩ (.slice Ao17 t300.length co17)).setCell ⟨gb310, 3, none⟩ (.int .i64 t303)).setCell ⟨gb310, 4, none⟩ (.int .i64 t304)).setCell ⟨gb310, 5, none⟩ (.int .i32 t305)).setCell ⟨gb310, 6, none⟩ (.int .i64 t306)).setCell ⟨gb310, 7, none⟩ (.int .u64 t307)).setCell ⟨gb310, 8, none⟩ (.int .i64 t308))) := ⟨by repeat (first | (with_reducible first | exact HB.out | apply below_alloc | apply pw_below_drewN | apply below_drew1 | refine below_set ?_ GE297.out | refine below_set ?_ GE310.out) | exact HB.out)⟩
    (try clear HO289)
    (try clear HO302)
    (try clear BK297)
    (try clear BK310)
    (try clear HB)
    generalize (((((((((w14.setCell ⟨gb310, 0, none⟩ (.int .i64 t298)).setCell ⟨gb310, 1, none⟩ (.int .u32 t299)).setCell ⟨gb310, 2, none⟩ (.slice Ao17 t300.length co17)).setCell ⟨gb310, 3, none⟩ (.int .i64 t303)).setCell ⟨gb310, 4, none⟩ (.int .i64 t304)).setCell ⟨gb310, 5, none⟩ (.int .i32 t305)).setCell ⟨gb310, 6, none⟩ (.int .i64 t306)).setCell ⟨gb310, 7, none⟩ (.int .u64 t307)).setCell ⟨gb310, 8, none⟩ (.int .i64 t308)) = w25 at n0_ n1_ n2_ n3_ n4_ ⊢
    have HO289 := n0_
    have HO302 := n1_
    have BK297 := n2_
    have BK310 := n3_
    have HB := n4_
    clear n0_ n1_ n2_ n3_ n4_
    have n0_ := Aside0.mk (Kd.R_drew HO289.out)
    have n1_ := Aside0.mk (Kd.R_drew HO302.out)
    have n2_ := Aside0.mk (blk_drew BK297.out)
    have n3_ := Aside0.mk (blk_drew BK310.out)
    have n4_ := Aside0.mk (below_drew1 HB.out)
    clear HO289
    clear HO302
    clear BK297
    clear BK310
    clear HB
    have HO289 := n0_
    have HO302 := n1_
    have BK297 := n2_
    have BK310 := n3_
    have HB := n4_
    clear n0_ n1_ n2_ n3_ n4_
    refine start_ (n := 10) (S := fun w' => True) (ds := []) #[false, false, false, false, false, false, false, false, false, false] (by kernel_rfl) rfl rfl trivial (fun hHeld => ?_); refine with_tabW credenzalaw22_AskParses.tab5 credenzalaw22_AskParses.bits5 (fun HT_ HW_ => ?_)
    generalize w25.drew = w26 at HO289 HO302 BK297 BK310 HB hHeld ⊢
    refine pure_ (i := 0) (N := some 24) (v := ?_) (a' := ?_) #[true, false, false, false, false, false, false, false, false, false] rfl rfl (any_of HT_.out (by kernel_rfl)) (fun _ _ _ h => h) (Or.inl ⟨by rfl, ?_⟩) ?_ ?_
    rotate_left
    ·
     intro w'
     go_simp
     with_reducible rfl
    rotate_left
    ·
     simp only [Act.put, List.setIfInBounds_toArray, List.set_cons_zero, List.set_cons_succ, i64_w, i32_w, IntKind.wrap_u32]
     rfl
    refine pure_ (i := 1) (N := some 25) (v := ?_) (a' := ?_) #[true, true, false, false, false, false, false, false, false, false] rfl rfl (any_of HT_.out (by kernel_rfl)) (fun _ _ _ h => h) (Or.inl ⟨by rfl, ?_⟩) ?_ ?_
    rotate_left
    ·
     intro w'
     go_simp
     with_reducible rfl
    rotate_left
    ·
     simp only [Act.put, List.setIfInBounds_toArray, List.set_cons_zero, List.set_cons_succ, i64_w, i32_w, IntKind.wrap_u32]
     rfl
    refine pure_ (i := 2) (N := some 26) (v := ?_) (a' := ?_) #[true, true, true, false, false, false, false, false, false, false] rfl rfl (any_of HT_.out (by kernel_rfl)) (fun _ _ _ h => h) (Or.inl ⟨by rfl, ?_⟩) ?_ ?_
    rotate_left
    ·
     intro w'
     go_simp
     with_reducible rfl
    rotate_left
    ·
     simp only [Act.put, List.setIfInBounds_toArray, List.set_cons_zero, List.set_cons_succ, i64_w, i32_w, IntKind.wrap_u32]
     rfl
    refine pure_ (i := 3) (N := some 27) (v := ?_) (a' := ?_) #[true, true, true, true, false, false, false, false, false, false] rfl rfl (any_of HT_.out (by kernel_rfl)) (fun _ _ _ h => h) (Or.inl ⟨by rfl, ?_⟩) ?_ ?_
    rotate_left
    ·
     intro w'
     go_simp
     with_reducible rfl
    rotate_left
    ·
     simp only [Act.put, List.setIfInBounds_toArray, List.set_cons_zero, List.set_cons_succ, i64_w, i32_w, IntKind.wrap_u32]
     rfl
    refine pure_ (i := 4) (N := some 28) (v := undef) (a' := ?_) #[true, true, true, true, true, false, false, false, false, false] rfl rfl (any_of HT_.out (by kernel_rfl)) (fun _ _ _ h => h) (Or.inr ⟨by rfl, rfl⟩) ?_ ?_
    rotate_left
    ·
     simp only [Act.put, List.setIfInBounds_toArray, List.set_cons_zero, List.set_cons_succ, i64_w, i32_w, IntKind.wrap_u32]
     rfl
    refine pure_ (i := 5) (N := some 29) (v := undef) (a' := ?_) #[true, true, true, true, true, true, false, false, false, false] rfl rfl (any_of HT_.out (by kernel_rfl)) (fun _ _ _ h => h) (Or.inr ⟨by rfl, rfl⟩) ?_ ?_
    rotate_left
    ·
     simp only [Act.put, List.setIfInBounds_toArray, List.set_cons_zero, List.set_cons_succ, i64_w, i32_w, IntKind.wrap_u32]
     rfl
    refine pure_ (i := 6) (N := some 30) (v := undef) (a' := ?_) #[true, true, true, true, true, true, true, false, false, false] rfl rfl (any_of HT_.out (by kernel_rfl)) (fun _ _ _ h => h) (Or.inr ⟨by rfl, rfl⟩) ?_ ?_
    rotate_left
    ·
     simp only [Act.put, List.setIfInBounds_toArray, List.set_cons_zero, List.set_cons_succ, i64_w, i32_w, IntKind.wrap_u32]
     rfl
    refine pure_ (i := 7) (N := some 31) (v := undef) (a' := ?_) #[true, true, true, true, true, true, true, true, false, false] rfl rfl (any_of HT_.out (by kernel_rfl)) (fun _ _ _ h => h) (Or.inr ⟨by rfl, rfl⟩) ?_ ?_
    rotate_left
    ·
     simp only [Act.put, List.setIfInBounds_toArray, List.set_cons_zero, List.set_cons_succ, i64_w, i32_w, IntKind.wrap_u32]
     rfl
    refine pure_ (i := 8) (N := some 32) (v := undef) (a' := ?_) #[true, true, true, true, true, true, true, true, true, false] rfl rfl (any_of HT_.out (by kernel_rfl)) (fun _ _ _ h => h) (Or.inr ⟨by rfl, rfl⟩) ?_ ?_
    rotate_left
    ·
     simp only [Act.put, List.setIfInBounds_toArray, List.set_cons_zero, List.set_cons_succ, i64_w, i32_w, IntKind.wrap_u32]
     rfl
    refine pure_ (i := 9) (N := some 33) (v := ?_) (a' := ?_) #[true, true, true, true, true, true, true, true, true, true] rfl rfl (any_of HT_.out (by kernel_rfl)) (fun _ _ _ h => h) (Or.inl ⟨by rfl, ?_⟩) ?_ ?_
    rotate_left
    ·
     intro w'
     go_simp
     with_reducible rfl
    rotate_left
    ·
     simp only [Act.put, List.setIfInBounds_toArray, List.set_cons_zero, List.set_cons_succ, i64_w, i32_w, IntKind.wrap_u32]
     rfl
    refine done_ (done_of HT_.out (by kernel_rfl)) ?_
    try go_wp2
    go_meet
    case rel => exact ⟨_, (true), (by first | rfl | (simp; done) | (simp [*]; done)), H', ⟨by first | omega | exact Nat.le_refl _⟩, ⟨by (with_reducible repeat (first | apply Kd.R_alloc | apply Kd.R_drewN | apply Kd.R_drew)); exact HO289.out⟩, ⟨by (with_reducible repeat (first | apply Kd.R_alloc | apply Kd.R_drewN | apply Kd.R_drew)); exact HO302.out⟩, ⟨by (with_reducible repeat (first | refine blk_drewN ?_ _ | refine blk_drew ?_ | refine blk_alloc ?_ _)); exact BK297.out⟩, ⟨by (with_reducible repeat (first | refine blk_drewN ?_ _ | refine blk_drew ?_ | refine blk_alloc ?_ _)); exact BK310.out⟩, ⟨by repeat (first | (with_reducible first | exact HB.out | apply below_alloc | apply pw_below_drewN | apply below_drew1 | refine below_set ?_ GE297.out | refine below_set ?_ GE310.out) | exact HB.out)⟩⟩
  case rest =>
   clear HC7
   try clear c1
   try clear hcv1
   try clear c2
   try clear c2b0
   try clear c2b1
   try clear p2
   try clear c4
   try clear c12
   try clear hcv12
   try clear c15
   try clear c17
   try clear c18
   try clear c18b0
   try clear c18b1
   try clear c20
   try clear c21
   try clear hcz10_0
   try clear hcz10_1
   try clear hcz10_2
   try clear hcz10_3
   try clear hcz10_4
   try clear hcz10_5
   try clear hcz10_6
   try clear hcz10_7
   try clear hcz10_8
   try clear hcz16_0
   try clear hcz16_1
   try clear hcz16_2
   try clear hcz16_3
   try clear hcz16_4
   try clear hcz16_5
   try clear hcz16_6
   try clear hcz16_7
   try clear hcz16_8
   try clear hfz10_0
   try clear hfz10_1
   try clear hfz10_2
   try clear hfz10_3
   try clear hfz10_4
   try clear hfz10_5
   try clear hfz10_6
   try clear hfz10_7
   try clear hfz10_8
   try clear hfz16_0
   try clear hfz16_1
   try clear hfz16_2
   try clear hfz16_3
   try clear hfz16_4
   try clear hfz16_5
   try clear hfz16_6
   try clear hfz16_7
   try clear hfz16_8
   obtain ⟨kq, x33_6, rfl, HA, HJ6, HO_298002, HO_311002, BK297, BK310, HB⟩ := hcut
   cases kq with
   | zero => exact absurd HA.out (by simp [credenzalaw22_AskParses.j0])
   | succ kj6 =>
    have H := HA.out
    clear HA
    simp only [credenzalaw22_AskParses.j0] at H
    by_cases c27 : x33_6 = true
    ·
     subst c27
     have H1 : (none) = some r := by rw [if_pos rfl] at H; exact H
     clear H
     have H := H1
     clear H1
     exact absurd H (by simp)
    ·
     replace c27 := Bool.eq_false_iff.mpr c27
     subst c27
     have H1 : (if t309 = 0 then ((ask_Bytes.f kj6 t285 t286 t287 t290 t291 t292 t293 t294 t295).bind fun bt312 => (if bt312.2 = 0 then (if (strOfNums bt312.1).toList = (strOfNums l0).toList then ((credenzalaw22_awake.f kj6).bind fun t316 => (some t316)) else (none)) else (none))) else ((credenzalaw22_awake.f kj6).bind fun t317 => (some t317))) = some r := by rw [if_neg (show ¬ (false = true) by decide)] at H; exact H
     clear H
     have H := H1
     clear H1
     by_cases c28 : t309 = 0
     ·
      rw [if_pos c28] at H
      have c28b0 : (t309 == 0) = true := beq_iff_eq.mpr c28
      have c28b1 : (t309 != 0) = false := bne_eq_false_iff_eq.mpr c28
      clear c28
      replace H := Option.bind_eq_some_iff.mp H
      obtain ⟨⟨t312, t315⟩, A290, H⟩ := H
      replace H : (if t315 = 0 then (if (strOfNums t312).toList = (strOfNums l0).toList then ((credenzalaw22_awake.f kj6).bind fun t316 => (some t316)) else (none)) else (none)) = some r := H
      have A29 := Aside0.mk A290
      clear A290
      by_cases c30 : t315 = 0
      ·
       rw [if_pos c30] at H
       have c30b0 : (t315 == 0) = true := beq_iff_eq.mpr c30
       have c30b1 : (t315 != 0) = false := bne_eq_false_iff_eq.mpr c30
       clear c30
       by_cases c31 : (strOfNums t312).toList = (strOfNums l0).toList
       ·
        rw [if_pos c31] at H
        have c31b0 : ((strOfNums t312).toList == (strOfNums l0).toList) = true := beq_iff_eq.mpr c31
        have c31b1 : ((strOfNums t312).toList != (strOfNums l0).toList) = false := bne_eq_false_iff_eq.mpr c31
        clear c31
        replace H := Option.bind_eq_some_iff.mp H
        obtain ⟨t316, A320, H⟩ := H
        replace H : (some t316) = some r := H
        have A32 := Aside0.mk A320
        clear A320
        obtain rfl := Option.some.inj H
        have hnb33 := NB297_310.out
        have hnc33 := NB310_297.out
        have hcz34_0 : wc.cell? ⟨gb297, 0, none⟩ = some (.int .i64 t285) := (blk_cell BK297.out 0).trans rfl
        have hcz34_1 : wc.cell? ⟨gb297, 1, none⟩ = some (.int .u32 t286) := (blk_cell BK297.out 1).trans rfl
        have hcz34_2 : wc.cell? ⟨gb297, 2, none⟩ = some (.slice Ao11 t287.length co11) := (blk_cell BK297.out 2).trans rfl
        have hcz34_3 : wc.cell? ⟨gb297, 3, none⟩ = some (.int .i64 t290) := (blk_cell BK297.out 3).trans rfl
        have hcz34_4 : wc.cell? ⟨gb297, 4, none⟩ = some (.int .i64 t291) := (blk_cell BK297.out 4).trans rfl
        have hcz34_5 : wc.cell? ⟨gb297, 5, none⟩ = some (.int .i32 t292) := (blk_cell BK297.out 5).trans rfl
        have hcz34_6 : wc.cell? ⟨gb297, 6, none⟩ = some (.int .i64 t293) := (blk_cell BK297.out 6).trans rfl
        have hcz34_7 : wc.cell? ⟨gb297, 7, none⟩ = some (.int .u64 t294) := (blk_cell BK297.out 7).trans rfl
        have hcz34_8 : wc.cell? ⟨gb297, 8, none⟩ = some (.int .i64 t295) := (blk_cell BK297.out 8).trans rfl
        have hfz34_0 := blk_frozen BK297.out 0
        have hfz34_1 := blk_frozen BK297.out 1
        have hfz34_2 := blk_frozen BK297.out 2
        have hfz34_3 := blk_frozen BK297.out 3
        have hfz34_4 := blk_frozen BK297.out 4
        have hfz34_5 := blk_frozen BK297.out 5
        have hfz34_6 := blk_frozen BK297.out 6
        have hfz34_7 := blk_frozen BK297.out 7
        have hfz34_8 := blk_frozen BK297.out 8
        go_wp2_with (first | ((with_reducible refine gate_callee (f := 13) rfl ?_); refine goesL_ (some 39) rfl rfl Try.func13 (by kernel_rfl) rfl #[.agg #[.int .i64 t285, .int .u32 t286, .slice Ao11 t287.length co11, .int .i64 t290, .int .i64 t291, .int .i32 t292, .int .i64 t293, .int .u64 t294, .int .i64 t295]] rfl (by (try simp only [List.map_toArray, List.map_cons, List.map_nil]); first | done | rfl | (simp only [List.length_drop, List.length_take]; rfl)) ?_; (with_reducible refine (ask_Bytes.calls kj6 t285 t286 _ _ t287 t290 t291 t292 t293 t294 t295 t312 t315 _ ?side1 ?side2 A29.out).mono ?_); (case side1 => repeat (first | exact (Kd.R_reads' HO_298002.out).2.2 | (with_reducible refine Kd.C_alloc ?_ _) | (with_reducible refine Kd.C_drewN ?_ _) | (with_reducible refine Kd.C_drew ?_))); (case side2 => exact (Kd.R_reads' HO_298002.out).2.1); rintro e w35 ⟨v313, rfl, ho0, hb⟩; refine ⟨_, rfl, ?_⟩; have n0_ := Aside0.mk (Kd.R_below (by (with_reducible repeat (first | apply Kd.R_alloc | apply Kd.R_drewN | apply Kd.R_drew)); exact HO_298002.out) hb); have n1_ := Aside0.mk (Kd.R_below (by (with_reducible repeat (first | apply Kd.R_alloc | apply Kd.R_drewN | apply Kd.R_drew)); exact HO_311002.out) hb); have n2_ := Aside0.mk (Kd.R_lower ho0 (below_size (by repeat (first | (with_reducible first | exact HB.out | apply below_alloc | apply pw_below_drewN | apply below_drew1 | refine below_set ?_ GE297.out | refine below_set ?_ GE310.out) | exact HB.out)))); have n3_ := Aside0.mk (blk_below (g := gb297) (o := .cells #[.int .i64 t285, .int .u32 t286, .slice Ao11 t287.length co11, .int .i64 t290, .int .i64 t291, .int .i32 t292, .int .i64 t293, .int .u64 t294, .int .i64 t295] 30 (0, 0)) (by (with_reducible repeat (first | refine blk_drewN ?_ _ | refine blk_drew ?_ | refine blk_alloc ?_ _)); exact BK297.out) hb); have n4_ := Aside0.mk (blk_below (g := gb310) (o := .cells #[.int .i64 t298, .int .u32 t299, .slice Ao17 t300.length co17, .int .i64 t303, .int .i64 t304, .int .i32 t305, .int .i64 t306, .int .u64 t307, .int .i64 t308] 40 (0, 0)) (by (with_reducible repeat (first | refine blk_drewN ?_ _ | refine blk_drew ?_ | refine blk_alloc ?_ _)); exact BK310.out) hb); have n5_ := Aside0.mk (below_step (by repeat (first | (with_reducible first | exact HB.out | apply below_alloc | apply pw_below_drewN | apply below_drew1 | refine below_set ?_ GE297.out | refine below_set ?_ GE310.out) | exact HB.out)) hb); clear HO_298002; clear HO_311002; clear BK297; clear BK310; clear HB; have HO_298002 := n0_; have HO_311002 := n1_; have HO314 := n2_; have BK297 := n3_; have BK310 := n4_; have HB := n5_; clear n0_ n1_ n2_ n3_ n4_ n5_; (try clear hb); (try clear hb2); (try clear hk); (try clear hi); (try clear ho0); have hcv36 := own_string (P := Try.prog) Try.underlying32 Try.underlying5 Try.underlying9 (Kd.own_of_R HO314.out); have hcv37 := Kd.C_string (P := Try.prog) (A := A0) (c := c0) Try.underlying32 Try.underlying5 Try.underlying9 (Kd.C_below HR0.out HB.out)) | (go_at_call 12; (with_reducible refine (credenzalaw22_awake.calls kj6  t316 _ A32.out).mono ?_); rintro e w38 ⟨rfl, hb⟩; have n0_ := Aside0.mk (Kd.R_below (by (with_reducible repeat (first | apply Kd.R_alloc | apply Kd.R_drewN | apply Kd.R_drew)); exact HO_298002.out) hb); have n1_ := Aside0.mk (Kd.R_below (by (with_reducible repeat (first | apply Kd.R_alloc | apply Kd.R_drewN | apply Kd.R_drew)); exact HO_311002.out) hb); have n2_ := Aside0.mk (Kd.R_below (by (with_reducible repeat (first | apply Kd.R_alloc | apply Kd.R_drewN | apply Kd.R_drew)); exact HO314.out) hb); have n3_ := Aside0.mk (blk_below (g := gb297) (o := .cells #[.int .i64 t285, .int .u32 t286, .slice Ao11 t287.length co11, .int .i64 t290, .int .i64 t291, .int .i32 t292, .int .i64 t293, .int .u64 t294, .int .i64 t295] 30 (0, 0)) (by (with_reducible repeat (first | refine blk_drewN ?_ _ | refine blk_drew ?_ | refine blk_alloc ?_ _)); exact BK297.out) hb); have n4_ := Aside0.mk (blk_below (g := gb310) (o := .cells #[.int .i64 t298, .int .u32 t299, .slice Ao17 t300.length co17, .int .i64 t303, .int .i64 t304, .int .i32 t305, .int .i64 t306, .int .u64 t307, .int .i64 t308] 40 (0, 0)) (by (with_reducible repeat (first | refine blk_drewN ?_ _ | refine blk_drew ?_ | refine blk_alloc ?_ _)); exact BK310.out) hb); have n5_ := Aside0.mk (below_step (by repeat (first | (with_reducible first | exact HB.out | apply below_alloc | apply pw_below_drewN | apply below_drew1 | refine below_set ?_ GE297.out | refine below_set ?_ GE310.out) | exact HB.out)) hb); clear HO_298002; clear HO_311002; clear HO314; clear BK297; clear BK310; clear HB; have HO_298002 := n0_; have HO_311002 := n1_; have HO314 := n2_; have BK297 := n3_; have BK310 := n4_; have HB := n5_; clear n0_ n1_ n2_ n3_ n4_ n5_; (try clear hb); (try clear hb2); (try clear hk); (try clear hi)))
        go_ret
        exact ⟨by first | rfl | (simp [errW_none, errW_some] <;> rfl) | (simp [*, errW_none, errW_some] <;> rfl), by repeat (first | (with_reducible first | exact HB.out | apply below_alloc | apply pw_below_drewN | apply below_drew1 | refine below_set ?_ GE297.out | refine below_set ?_ GE310.out) | exact HB.out)⟩
       ·
        rw [if_neg c31] at H
        exact absurd H (by simp)
      ·
       rw [if_neg c30] at H
       exact absurd H (by simp)
     ·
      rw [if_neg c28] at H
      have c28b0 : (t309 == 0) = false := beq_eq_false_iff_ne.mpr c28
      have c28b1 : (t309 != 0) = true := bne_iff_ne.mpr c28
      replace H := Option.bind_eq_some_iff.mp H
      obtain ⟨t317, A390, H⟩ := H
      replace H : (some t317) = some r := H
      have A39 := Aside0.mk A390
      clear A390
      obtain rfl := Option.some.inj H
      go_wp2_with (first | ((with_reducible refine gate_callee (f := 12) rfl ?_); refine goesL_ (some 36) rfl rfl Try.func12 (by kernel_rfl) rfl #[] rfl (by (try simp only [List.map_toArray, List.map_cons, List.map_nil]); first | done | rfl | (simp only [List.length_drop, List.length_take]; rfl)) ?_; (with_reducible refine (credenzalaw22_awake.calls kj6  t317 _ A39.out).mono ?_); rintro e w40 ⟨rfl, hb⟩; refine ⟨_, rfl, ?_⟩; have n0_ := Aside0.mk (Kd.R_below (by (with_reducible repeat (first | apply Kd.R_alloc | apply Kd.R_drewN | apply Kd.R_drew)); exact HO_298002.out) hb); have n1_ := Aside0.mk (Kd.R_below (by (with_reducible repeat (first | apply Kd.R_alloc | apply Kd.R_drewN | apply Kd.R_drew)); exact HO_311002.out) hb); have n2_ := Aside0.mk (blk_below (g := gb297) (o := .cells #[.int .i64 t285, .int .u32 t286, .slice Ao11 t287.length co11, .int .i64 t290, .int .i64 t291, .int .i32 t292, .int .i64 t293, .int .u64 t294, .int .i64 t295] 30 (0, 0)) (by (with_reducible repeat (first | refine blk_drewN ?_ _ | refine blk_drew ?_ | refine blk_alloc ?_ _)); exact BK297.out) hb); have n3_ := Aside0.mk (blk_below (g := gb310) (o := .cells #[.int .i64 t298, .int .u32 t299, .slice Ao17 t300.length co17, .int .i64 t303, .int .i64 t304, .int .i32 t305, .int .i64 t306, .int .u64 t307, .int .i64 t308] 40 (0, 0)) (by (with_reducible repeat (first | refine blk_drewN ?_ _ | refine blk_drew ?_ | refine blk_alloc ?_ _)); exact BK310.out) hb); have n4_ := Aside0.mk (below_step (by repeat (first | (with_reducible first | exact HB.out | apply below_alloc | apply pw_below_drewN | apply below_drew1 | refine below_set ?_ GE297.out | refine below_set ?_ GE310.out) | exact HB.out)) hb); clear HO_298002; clear HO_311002; clear BK297; clear BK310; clear HB; have HO_298002 := n0_; have HO_311002 := n1_; have BK297 := n2_; have BK310 := n3_; have HB := n4_; clear n0_ n1_ n2_ n3_ n4_; (try clear hb); (try clear hb2); (try clear hk); (try clear hi)))
      go_ret
      exact ⟨by first | rfl | (simp [errW_none, errW_some] <;> rfl) | (simp [*, errW_none, errW_some] <;> rfl), by repeat (first | (with_reducible first | exact HB.out | apply below_alloc | apply pw_below_drewN | apply below_drew1 | refine below_set ?_ GE297.out | refine below_set ?_ GE310.out) | exact HB.out)⟩

/-- THE ONE PURE STATEMENT of credenzalaw22_AskParses: yours. -/
def credenzalaw22_AskParses.Pure : Prop := ∀ (l0 : List Int), l0.length ≤ maxLen → l0.length * 1 ≤ 140737488351232 → (∀ x ∈ l0, (Lit.int .u8 x).wf = true) → ∃ k, credenzalaw22_AskParses.f k l0 = some true
theorem credenzalaw22_AskParses.walk (P : credenzalaw22_AskParses.Pure) (a0 : Option Addr) (len0 cap0 : Nat) (z0 : List Int) (w : World) (w0 : (a0 = none ∧ len0 = 0 ∧ cap0 = 0 ∧ z0 = []) ∨ ∃ x, a0 = some x ∧ len0 ≤ cap0 ∧ cap0 ≤ maxLen ∧ z0.length = cap0 ∧ (∀ i, i < z0.length → w.cell? (x.add i) = some (.int .u8 (z0.getD i 0))) ∧ ∀ n ∈ z0, (Lit.int .u8 n).wf = true) (y0 : len0 * 1 ≤ 140737488351232) :
  Calls Try.prog 4 #[.slice a0 len0 cap0] w fun e w' => e = .returned (.bool true) ∧ Below w.heap.size w w' := by
 obtain ⟨l0, rfl, hr0, hm0, hw0, hc0⟩ := ReadsInt.ofRowC w0
 obtain ⟨k, h⟩ := P l0 hm0 y0 hw0
 refine (credenzalaw22_AskParses.calls k _ _ l0 true w (Kd.C_of_reads (d := (0 : Int)) (h1 := fun _ => rfl) hr0) hc0 h).mono ?_
 rintro e w' ⟨rfl, hd⟩
 exact ⟨rfl, hd⟩

end Go.Proofs.Ytehepnmagcjkaaa.PAskParses
