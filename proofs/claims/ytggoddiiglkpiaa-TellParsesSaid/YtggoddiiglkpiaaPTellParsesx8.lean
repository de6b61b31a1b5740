-- Written by a program of this session (wip/tools/mkprint.py over the kit's print).
import Derived.Test.YtggoddiiglkpiaaPTellParsesx0
import Derived.Test.YtggoddiiglkpiaaPTellParsesx2
import Derived.Test.YtggoddiiglkpiaaPTellParsesx3
import Derived.Test.YtggoddiiglkpiaaPTellParsesx4
import Derived.Test.YtggoddiiglkpiaaPTellParsesx5
import Derived.Test.YtggoddiiglkpiaaPTellParsesx7
namespace Go.Proofs.Ytggoddiiglkpiaa.PTellParses
open Go.RowKit Go.Proofs.YtggoddiiglkpiaaW.PrintWords Go.Proofs.YtggoddiiglkpiaaW.PrintLast Go.Proofs.YtggoddiiglkpiaaW.PrintMore
attribute [local go_sem] max2_int min2_int max_two min_two max_three min_three max_four min_four   -- for this text's walks alone
set_option linter.unusedVariables false
set_option linter.unusedSimpArgs false

attribute [local go_sem high] eqA55
/-! ### credenzalaw23_TellParses: function 10 -/
def credenzalaw23_TellParses.j0 : Nat → List Int → Int → Bool → Int → Int → Int → Int → Int → Option (Bool)
  | 0, _, _, _, _, _, _, _, _ => none
  | k + 1, x0, x6, x32, x221000, x221001, x221002, x221003, x221004 => if x32 = true then (some false) else (if x6 = 0 then ((tell_Bytes.f k x221000 x221001 x221002 x221003 x221004).bind fun bt233 => (if bt233.2 = 0 then (if (strOfNums bt233.1).toList = (strOfNums x0).toList then ((credenzalaw23_awake.f k).bind fun t237 => (some t237)) else (some false)) else (some false))) else ((credenzalaw23_awake.f k).bind fun t238 => (some t238)))
def credenzalaw23_TellParses.f (k : Nat) (l0 : List Int) : Option (Bool) := if (l0.length : Int) > 100 then ((credenzalaw23_awake.f k).bind fun t213 => (some t213)) else ((tell_Parse.f k l0).bind fun bt214 => ((credenzaref23_Parse.f k (strOfNums l0)).bind fun bt221 => (if bt214.2.2.2.2.2 = bt221.2.2.2.2.2 then ((credenzalaw23_ref.f bt214.1 bt214.2.1 bt214.2.2.1 bt214.2.2.2.1 bt214.2.2.2.2.1).bind fun bt228 => (credenzalaw23_TellParses.j0 k l0 bt221.2.2.2.2.2 (!(bt228.1 == bt221.1) || (!(bt228.2.1 == bt221.2.1) || (!(bt228.2.2.1 == bt221.2.2.1) || (!(bt228.2.2.2.1 == bt221.2.2.2.1) || (!(bt228.2.2.2.2 == bt221.2.2.2.2.1)))))) bt214.1 bt214.2.1 bt214.2.2.1 bt214.2.2.2.1 bt214.2.2.2.2.1)) else (credenzalaw23_TellParses.j0 k l0 bt221.2.2.2.2.2 true bt214.1 bt214.2.1 bt214.2.2.1 bt214.2.2.2.1 bt214.2.2.2.2.1))))
theorem credenzalaw23_TellParses.mono_l : ∀ k, (∀ y0 y1 y2 y3 y4 y5 y6 y7, LeO (credenzalaw23_TellParses.j0 k y0 y1 y2 y3 y4 y5 y6 y7) (credenzalaw23_TellParses.j0 (k + 1) y0 y1 y2 y3 y4 y5 y6 y7))
  | 0 => fun _ _ _ _ _ _ _ _ r h => by simp [credenzalaw23_TellParses.j0] at h
  | k + 1 => by
    have ih0 := credenzalaw23_TellParses.mono_l k
    · intro y0 y1 y2 y3 y4 y5 y6 y7
      unfold credenzalaw23_TellParses.j0
      repeat' first
      | (with_reducible exact ih0 _ _ _ _ _ _ _ _)
      | (with_reducible exact credenzalaw23_awake.mono _)
      | (with_reducible exact credenzaref23_Parse.mono _ _)
      | (with_reducible exact tell_Bytes.mono _ _ _ _ _ _)
      | (with_reducible exact tell_Parse.mono _ _)
      | (with_reducible exact LeO.refl _)
      | (with_reducible exact LeO.none _)
      | (with_reducible refine LeO.ite ?_ ?_)
      | (with_reducible refine LeO.bind ?_ (fun _ => ?_))
      | exact ih0 _ _ _ _ _ _ _ _
      | exact credenzalaw23_awake.mono _
      | exact credenzaref23_Parse.mono _ _
      | exact tell_Bytes.mono _ _ _ _ _ _
      | exact tell_Parse.mono _ _
      | exact LeO.none _
      | refine LeO.ite ?_ ?_
      | refine LeO.bind ?_ (fun _ => ?_)
theorem credenzalaw23_TellParses.mono : ∀ a0 k, LeO (credenzalaw23_TellParses.f k a0) (credenzalaw23_TellParses.f (k + 1) a0) := by
  intro a0 k
  have ih0 := credenzalaw23_TellParses.mono_l k
  unfold credenzalaw23_TellParses.f
  repeat' first
      | (with_reducible exact ih0 _ _ _ _ _ _ _ _)
      | (with_reducible exact credenzalaw23_awake.mono _)
      | (with_reducible exact credenzaref23_Parse.mono _ _)
      | (with_reducible exact tell_Bytes.mono _ _ _ _ _ _)
      | (with_reducible exact tell_Parse.mono _ _)
      | (with_reducible exact LeO.refl _)
      | (with_reducible exact LeO.none _)
      | (with_reducible refine LeO.ite ?_ ?_)
      | (with_reducible refine LeO.bind ?_ (fun _ => ?_))
      | exact ih0 _ _ _ _ _ _ _ _
      | exact credenzalaw23_awake.mono _
      | exact credenzaref23_Parse.mono _ _
      | exact tell_Bytes.mono _ _ _ _ _ _
      | exact tell_Parse.mono _ _
      | exact LeO.none _
      | refine LeO.ite ?_ ?_
      | refine LeO.bind ?_ (fun _ => ?_)
def credenzalaw23_TellParses.T5 : Bool × List (List Nat × List Nat) := (true, [([], []), ([], []), ([0, 1], [0, 1]), ([2], [2]), ([3], [3]), ([4, 3, 3], [3, 4]), ([3], [3]), ([5, 6, 3], [3, 5, 6]), ([3, 7], [3, 7])])
def credenzalaw23_TellParses.B5 : List Nat := [0, 0, 3, 7, 15, 31, 15, 127, 255]
theorem credenzalaw23_TellParses.tab5 : rtab .any (opsOf Try.f10 5) = credenzalaw23_TellParses.T5 := by kernel_rfl
theorem credenzalaw23_TellParses.bits5 : waitsOk credenzalaw23_TellParses.T5.2 credenzalaw23_TellParses.B5 = true := by kernel_rfl
set_option maxHeartbeats 8000000 in
set_option maxRecDepth 100000 in
theorem credenzalaw23_TellParses.calls (k : Nat) (A0 : Option Addr) (c0 : Nat) (l0 : List Int) (r : Bool) (w : World) (hr0 : Kd.C (Kd.int .u8) w A0 l0.length l0) (hc0 : l0.length ≤ c0) (h : credenzalaw23_TellParses.f k l0 = some r) :
    Calls Try.prog 10 #[.slice A0 l0.length c0] w fun e w' => e = .returned (.bool r) ∧ Below w.heap.size w w' := by
  have hu49 := Try.underlying49
  have hu55 := Try.underlying55
  have HR0 := Aside0.mk hr0
  have HC0 := Aside0.mk hc0
  clear hr0 hc0
  have HB := Aside0.mk (Below.refl w.heap.size w)
  have H : (if (l0.length : Int) > 100 then ((credenzalaw23_awake.f k).bind fun t213 => (some t213)) else ((tell_Parse.f k l0).bind fun bt214 => ((credenzaref23_Parse.f k (strOfNums l0)).bind fun bt221 => (if bt214.2.2.2.2.2 = bt221.2.2.2.2.2 then ((credenzalaw23_ref.f bt214.1 bt214.2.1 bt214.2.2.1 bt214.2.2.2.1 bt214.2.2.2.2.1).bind fun bt228 => (credenzalaw23_TellParses.j0 k l0 bt221.2.2.2.2.2 (!(bt228.1 == bt221.1) || (!(bt228.2.1 == bt221.2.1) || (!(bt228.2.2.1 == bt221.2.2.1) || (!(bt228.2.2.2.1 == bt221.2.2.2.1) || (!(bt228.2.2.2.2 == bt221.2.2.2.2.1)))))) bt214.1 bt214.2.1 bt214.2.2.1 bt214.2.2.2.1 bt214.2.2.2.2.1)) else (credenzalaw23_TellParses.j0 k l0 bt221.2.2.2.2.2 true bt214.1 bt214.2.1 bt214.2.2.1 bt214.2.2.2.1 bt214.2.2.2.2.1))))) = some r := h
  clear h
  by_cases c2 : (l0.length : Int) > 100
  · rw [if_pos c2] at H
    have c2b0 : decide (100 < (l0.length : Int)) = true := decide_eq_true c2
    have c2b1 : decide (100 < l0.length) = true := decide_eq_true (by omega)
    clear c2
    replace H := Option.bind_eq_some_iff.mp H
    obtain ⟨t213, A30, H⟩ := H
    replace H : (some t213) = some r := H
    have A3 := Aside0.mk A30
    clear A30
    obtain rfl := Option.some.inj H
    go_enter Try.func10, Try.ntmps10
    go_wp2_with (first | ((with_reducible refine gate_callee (f := 32) rfl ?_); refine goesL_ (some 12) rfl rfl Try.func32 (by kernel_rfl) rfl #[] rfl (by (try simp only [List.map_toArray, List.map_cons, List.map_nil]); first | done | rfl | (simp only [List.length_drop, List.length_take]; rfl)) ?_; (with_reducible refine (credenzalaw23_awake.calls k  t213 _ A3.out).mono ?_); rintro e w4 ⟨rfl, hb⟩; refine ⟨_, rfl, ?_⟩; have n0_ := Aside0.mk (below_step (by repeat (first | (with_reducible first | exact HB.out | apply below_alloc | apply pw_below_drewN | apply below_drew1) | exact HB.out)) hb); clear HB; have HB := n0_; clear n0_; (try clear hb); (try clear hb2); (try clear hk); (try clear hi)))
    go_ret
    exact ⟨by first | rfl | (simp [errW_none, errW_some] <;> rfl) | (simp [*, errW_none, errW_some] <;> rfl), by repeat (first | (with_reducible first | exact HB.out | apply below_alloc | apply pw_below_drewN | apply below_drew1) | exact HB.out)⟩
  · rw [if_neg c2] at H
    have c2b0 : decide (100 < (l0.length : Int)) = false := decide_eq_false c2
    have c2b1 : decide (100 < l0.length) = false := decide_eq_false (by omega)
    clear c2
    replace H := Option.bind_eq_some_iff.mp H
    obtain ⟨⟨t214, t215, t216, t217, t218, t219⟩, A50, H⟩ := H
    replace H : ((credenzaref23_Parse.f k (strOfNums l0)).bind fun bt221 => (if t219 = bt221.2.2.2.2.2 then ((credenzalaw23_ref.f t214 t215 t216 t217 t218).bind fun bt228 => (credenzalaw23_TellParses.j0 k l0 bt221.2.2.2.2.2 (!(bt228.1 == bt221.1) || (!(bt228.2.1 == bt221.2.1) || (!(bt228.2.2.1 == bt221.2.2.1) || (!(bt228.2.2.2.1 == bt221.2.2.2.1) || (!(bt228.2.2.2.2 == bt221.2.2.2.2.1)))))) t214 t215 t216 t217 t218)) else (credenzalaw23_TellParses.j0 k l0 bt221.2.2.2.2.2 true t214 t215 t216 t217 t218))) = some r := H
    have A5 := Aside0.mk A50
    clear A50
    replace H := Option.bind_eq_some_iff.mp H
    obtain ⟨⟨t221, t222, t223, t224, t225, t226⟩, A60, H⟩ := H
    replace H : (if t219 = t226 then ((credenzalaw23_ref.f t214 t215 t216 t217 t218).bind fun bt228 => (credenzalaw23_TellParses.j0 k l0 t226 (!(bt228.1 == t221) || (!(bt228.2.1 == t222) || (!(bt228.2.2.1 == t223) || (!(bt228.2.2.2.1 == t224) || (!(bt228.2.2.2.2 == t225)))))) t214 t215 t216 t217 t218)) else (credenzalaw23_TellParses.j0 k l0 t226 true t214 t215 t216 t217 t218)) = some r := H
    have A6 := Aside0.mk A60
    clear A60
    have HC7 := Aside0.mk H
    clear H
    go_enter Try.func10, Try.ntmps10
    go_upto_region 5 with (first | ((with_reducible refine gate_callee (f := 33) rfl ?_); refine goesL_ (some 15) rfl rfl Try.func33 (by kernel_rfl) rfl #[.slice A0 l0.length c0] rfl (by (try simp only [List.map_toArray, List.map_cons, List.map_nil]); first | done | rfl | (simp only [List.length_drop, List.length_take]; rfl)) ?_; (with_reducible refine (tell_Parse.calls k _ _ l0 t214 t215 t216 t217 t218 t219 _ ?side1 ?side2 A5.out).mono ?_); (case side1 => repeat (first | exact HR0.out | (with_reducible refine Kd.C_alloc ?_ _) | (with_reducible refine Kd.C_drewN ?_ _) | (with_reducible refine Kd.C_drew ?_))); (case side2 => exact HC0.out); rintro e w8 ⟨rfl, hb⟩; refine ⟨_, rfl, ?_⟩; have n0_ := Aside0.mk (below_step (by repeat (first | (with_reducible first | exact HB.out | apply below_alloc | apply pw_below_drewN | apply below_drew1) | exact HB.out)) hb); clear HB; have HB := n0_; clear n0_; (try clear hb); (try clear hb2); (try clear hk); (try clear hi)) | ((with_reducible refine gate_dst (N := 3) rfl ?_); refine box_event ?hg (N := 3) ?hd (cs := #[.int .i64 0, .int .u32 0, .int .i64 0, .int .i64 0, .int .i64 0]) (t := 49) ?hr ?_; (case hd => rfl); (case hg => rfl); (case hr => first | (go_simp; done) | (go_simp; rfl)); intro gb220 hg w9 hbox hb; have n0_ := Aside0.mk (below_step (by repeat (first | (with_reducible first | exact HB.out | apply below_alloc | apply pw_below_drewN | apply below_drew1) | exact HB.out)) hb); have n1_ := Aside0.mk (hbox); have n2_ := Aside0.mk ((by rw [hg]; exact (below_size (by repeat (first | (with_reducible first | exact HB.out | apply below_alloc | apply pw_below_drewN | apply below_drew1) | exact HB.out))) : w.heap.size ≤ gb220)); have n3_ := Aside0.mk ((by rw [hg]; exact (below_size (by repeat (first | (with_reducible first | exact HB.out | apply below_alloc | apply pw_below_drewN | apply below_drew1) | exact HB.out))) : w.heap.size ≤ gb220)); clear HB; have HB := n0_; have BK220 := n1_; have GW220 := n2_; have GE220 := n3_; clear n0_ n1_ n2_ n3_; clear hb hbox hg; have hcz10_0 : w9.cell? ⟨gb220, 0, none⟩ = some (.int .i64 0) := (blk_cell BK220.out 0).trans rfl; have hcz10_1 : w9.cell? ⟨gb220, 1, none⟩ = some (.int .u32 0) := (blk_cell BK220.out 1).trans rfl; have hcz10_2 : w9.cell? ⟨gb220, 2, none⟩ = some (.int .i64 0) := (blk_cell BK220.out 2).trans rfl; have hcz10_3 : w9.cell? ⟨gb220, 3, none⟩ = some (.int .i64 0) := (blk_cell BK220.out 3).trans rfl; have hcz10_4 : w9.cell? ⟨gb220, 4, none⟩ = some (.int .i64 0) := (blk_cell BK220.out 4).trans rfl; have hfz10_0 := blk_frozen BK220.out 0; have hfz10_1 := blk_frozen BK220.out 1; have hfz10_2 := blk_frozen BK220.out 2; have hfz10_3 := blk_frozen BK220.out 3; have hfz10_4 := blk_frozen BK220.out 4; have hcv11 := Kd.C_string (P := Try.prog) (A := A0) (c := c0) Try.underlying50 Try.underlying5 Try.underlying9 (Kd.C_below HR0.out (show Below w.heap.size w (((((w9.setCell ⟨gb220, 0, none⟩ (.int .i64 t214)).setCell ⟨gb220, 1, none⟩ (.int .u32 t215)).setCell ⟨gb220, 2, none⟩ (.int .i64 t216)).setCell ⟨gb220, 3, none⟩ (.int .i64 t217)).setCell ⟨gb220, 4, none⟩ (.int .i64 t218)) from by repeat (first | (with_reducible first | exact HB.out | apply below_alloc | apply pw_below_drewN | apply below_drew1 | refine below_set ?_ GE220.out) | exact HB.out)))) | ((with_reducible refine gate_callee (f := 35) rfl ?_); refine goesL_ (some 21) rfl rfl Try.func35 (by kernel_rfl) rfl #[.string (strOfNums l0)] rfl (by (try simp only [List.map_toArray, List.map_cons, List.map_nil]); first | done | rfl | (simp only [List.length_drop, List.length_take]; rfl)) ?_; (with_reducible refine (credenzaref23_Parse.calls k (strOfNums l0) t221 t222 t223 t224 t225 t226 _ A6.out).mono ?_); rintro e w12 ⟨rfl, hb⟩; refine ⟨_, rfl, ?_⟩; have n0_ := Aside0.mk (blk_below (g := gb220) (o := .cells #[.int .i64 t214, .int .u32 t215, .int .i64 t216, .int .i64 t217, .int .i64 t218] 49 (0, 0)) (by (with_reducible repeat (first | refine blk_drewN ?_ _ | refine blk_drew ?_ | refine blk_alloc ?_ _)); refine blk_put (cs := #[.int .i64 t214, .int .u32 t215, .int .i64 t216, .int .i64 t217, .int .i64 0]) ?_ 4 _ rfl; (with_reducible repeat (first | refine blk_drewN ?_ _ | refine blk_drew ?_ | refine blk_alloc ?_ _)); refine blk_put (cs := #[.int .i64 t214, .int .u32 t215, .int .i64 t216, .int .i64 0, .int .i64 0]) ?_ 3 _ rfl; (with_reducible repeat (first | refine blk_drewN ?_ _ | refine blk_drew ?_ | refine blk_alloc ?_ _)); refine blk_put (cs := #[.int .i64 t214, .int .u32 t215, .int .i64 0, .int .i64 0, .int .i64 0]) ?_ 2 _ rfl; (with_reducible repeat (first | refine blk_drewN ?_ _ | refine blk_drew ?_ | refine blk_alloc ?_ _)); refine blk_put (cs := #[.int .i64 t214, .int .u32 0, .int .i64 0, .int .i64 0, .int .i64 0]) ?_ 1 _ rfl; (with_reducible repeat (first | refine blk_drewN ?_ _ | refine blk_drew ?_ | refine blk_alloc ?_ _)); refine blk_put (cs := #[.int .i64 0, .int .u32 0, .int .i64 0, .int .i64 0, .int .i64 0]) ?_ 0 _ rfl; (with_reducible repeat (first | refine blk_drewN ?_ _ | refine blk_drew ?_ | refine blk_alloc ?_ _)); exact BK220.out) hb); have n1_ := Aside0.mk (below_step (by repeat (first | (with_reducible first | exact HB.out | apply below_alloc | apply pw_below_drewN | apply below_drew1 | refine below_set ?_ GE220.out) | exact HB.out)) hb); clear BK220; clear HB; have BK220 := n0_; have HB := n1_; clear n0_ n1_; (try clear hb); (try clear hb2); (try clear hk); (try clear hi)) | ((with_reducible refine gate_dst (N := 5) rfl ?_); refine box_event ?hg (N := 5) ?hd (cs := #[.int .i64 0, .int .u32 0, .int .i64 0, .int .i64 0, .int .i64 0]) (t := 55) ?hr ?_; (case hd => rfl); (case hg => rfl); (case hr => first | (go_simp; done) | (go_simp; rfl)); intro gb227 hg w13 hbox hb; have n0_ := Aside0.mk (blk_below (g := gb220) (o := .cells #[.int .i64 t214, .int .u32 t215, .int .i64 t216, .int .i64 t217, .int .i64 t218] 49 (0, 0)) (by (with_reducible repeat (first | refine blk_drewN ?_ _ | refine blk_drew ?_ | refine blk_alloc ?_ _)); exact BK220.out) hb); have n1_ := Aside0.mk (below_step (by repeat (first | (with_reducible first | exact HB.out | apply below_alloc | apply pw_below_drewN | apply below_drew1 | refine below_set ?_ GE220.out) | exact HB.out)) hb); have n2_ := Aside0.mk (hbox); have n3_ := Aside0.mk ((by rw [hg]; exact (below_size (by repeat (first | (with_reducible first | exact HB.out | apply below_alloc | apply pw_below_drewN | apply below_drew1 | refine below_set ?_ GE220.out) | exact HB.out))) : w.heap.size ≤ gb227)); have n4_ := Aside0.mk ((by rw [hg]; exact (below_size (by repeat (first | (with_reducible first | exact HB.out | apply below_alloc | apply pw_below_drewN | apply below_drew1 | refine below_set ?_ GE220.out) | exact HB.out))) : w.heap.size ≤ gb227)); have n5_ := Aside0.mk ((by rw [hg]; exact Nat.ne_of_lt (blk_lt (g := gb220) (o := .cells #[.int .i64 t214, .int .u32 t215, .int .i64 t216, .int .i64 t217, .int .i64 t218] 49 (0, 0)) (by (with_reducible repeat (first | refine blk_drewN ?_ _ | refine blk_drew ?_ | refine blk_alloc ?_ _)); exact BK220.out)) : gb220 ≠ gb227)); have n6_ := Aside0.mk ((by rw [hg]; exact Nat.ne_of_gt (blk_lt (g := gb220) (o := .cells #[.int .i64 t214, .int .u32 t215, .int .i64 t216, .int .i64 t217, .int .i64 t218] 49 (0, 0)) (by (with_reducible repeat (first | refine blk_drewN ?_ _ | refine blk_drew ?_ | refine blk_alloc ?_ _)); exact BK220.out)) : gb227 ≠ gb220)); clear BK220; clear HB; have BK220 := n0_; have HB := n1_; have BK227 := n2_; have GW227 := n3_; have GE227 := n4_; have NB220_227 := n5_; have NB227_220 := n6_; clear n0_ n1_ n2_ n3_ n4_ n5_ n6_; clear hb hbox hg; have hnb14 := NB227_220.out; have hnc14 := NB220_227.out; have hcz15_0 : w13.cell? ⟨gb227, 0, none⟩ = some (.int .i64 0) := (blk_cell BK227.out 0).trans rfl; have hcz15_1 : w13.cell? ⟨gb227, 1, none⟩ = some (.int .u32 0) := (blk_cell BK227.out 1).trans rfl; have hcz15_2 : w13.cell? ⟨gb227, 2, none⟩ = some (.int .i64 0) := (blk_cell BK227.out 2).trans rfl; have hcz15_3 : w13.cell? ⟨gb227, 3, none⟩ = some (.int .i64 0) := (blk_cell BK227.out 3).trans rfl; have hcz15_4 : w13.cell? ⟨gb227, 4, none⟩ = some (.int .i64 0) := (blk_cell BK227.out 4).trans rfl; have hfz15_0 := blk_frozen BK227.out 0; have hfz15_1 := blk_frozen BK227.out 1; have hfz15_2 := blk_frozen BK227.out 2; have hfz15_3 := blk_frozen BK227.out 3; have hfz15_4 := blk_frozen BK227.out 4))
    (try simp only [Act.put, List.setIfInBounds_toArray, List.set_cons_zero, List.set_cons_succ])
    go_cut [32] (fun v32 wc => ∃ (kq : Nat) (x32_6 : Bool), v32 = .bool x32_6 ∧ Aside0 (credenzalaw23_TellParses.j0 kq l0 t226 x32_6 t214 t215 t216 t217 t218 = some r) ∧ Aside0 (kq ≤ k) ∧ Aside0 (wc.heap[gb220]? = some (.cells #[.int .i64 t214, .int .u32 t215, .int .i64 t216, .int .i64 t217, .int .i64 t218] 49 (0, 0))) ∧ Aside0 (wc.heap[gb227]? = some (.cells #[.int .i64 t221, .int .u32 t222, .int .i64 t223, .int .i64 t224, .int .i64 t225] 55 (0, 0))) ∧ Aside0 (Below w.heap.size w wc))
    case first =>
      have H := HC7.out
      clear HC7
      by_cases c16 : t219 = t226
      · rw [if_pos c16] at H
        have c16b0 : (t219 == t226) = true := beq_iff_eq.mpr c16
        have c16b1 : (t219 != t226) = false := bne_eq_false_iff_eq.mpr c16
        clear c16
        (first | rw [c16b0] | (simp only [i64_w, i32_w]; rw [c16b0]) | skip)
        replace H := Option.bind_eq_some_iff.mp H
        obtain ⟨⟨t228, t229, t230, t231, t232⟩, A170, H⟩ := H
        replace H : (credenzalaw23_TellParses.j0 k l0 t226 (!(t228 == t221) || (!(t229 == t222) || (!(t230 == t223) || (!(t231 == t224) || (!(t232 == t225)))))) t214 t215 t216 t217 t218) = some r := H
        have A17 := Aside0.mk A170
        clear A170
        have H' := Aside0.mk H
        clear H
        try go_wp2
        have n0_ : Aside0 ((((((w13.setCell ⟨gb227, 0, none⟩ (.int .i64 t221)).setCell ⟨gb227, 1, none⟩ (.int .u32 t222)).setCell ⟨gb227, 2, none⟩ (.int .i64 t223)).setCell ⟨gb227, 3, none⟩ (.int .i64 t224)).setCell ⟨gb227, 4, none⟩ (.int .i64 t225)).heap[gb220]? = some (.cells #[.int .i64 t214, .int .u32 t215, .int .i64 t216, .int .i64 t217, .int .i64 t218] 49 (0, 0))) := ⟨by (with_reducible repeat (first | refine blk_drewN ?_ _ | refine blk_drew ?_ | refine blk_alloc ?_ _)); refine blk_far ?_ NB220_227.out _; (with_reducible repeat (first | refine blk_drewN ?_ _ | refine blk_drew ?_ | refine blk_alloc ?_ _)); refine blk_far ?_ NB220_227.out _; (with_reducible repeat (first | refine blk_drewN ?_ _ | refine blk_drew ?_ | refine blk_alloc ?_ _)); refine blk_far ?_ NB220_227.out _; (with_reducible repeat (first | refine blk_drewN ?_ _ | refine blk_drew ?_ | refine blk_alloc ?_ _)); refine blk_far ?_ NB220_227.out _; (with_reducible repeat (first | refine blk_drewN ?_ _ | refine blk_drew ?_ | refine blk_alloc ?_ _)); refine blk_far ?_ NB220_227.out _; (with_reducible repeat (first | refine blk_drewN ?_ _ | refine blk_drew ?_ | refine blk_alloc ?_ _)); exact BK220.out⟩
        have n1_ : Aside0 ((((((w13.setCell ⟨gb227, 0, none⟩ (.int .i64 t221)).setCell ⟨gb227, 1, none⟩ (.int .u32 t222)).setCell ⟨gb227, 2, none⟩ (.int .i64 t223)).setCell ⟨gb227, 3, none⟩ (.int .i64 t224)).setCell ⟨gb227, 4, none⟩ (.int .i64 t225)).heap[gb227]? = some (.cells #[.int .i64 t221, .int .u32 t222, .int .i64 t223, .int .i64 t224, .int .i64 t225] 55 (0, 0))) := ⟨by (with_reducible repeat (first | refine blk_drewN ?_ _ | refine blk_drew ?_ | refine blk_alloc ?_ _)); refine blk_put (cs := #[.int .i64 t221, .int .u32 t222, .int .i64 t223, .int .i64 t224, .int .i64 0]) ?_ 4 _ rfl; (with_reducible repeat (first | refine blk_drewN ?_ _ | refine blk_drew ?_ | refine blk_alloc ?_ _)); refine blk_put (cs := #[.int .i64 t221, .int .u32 t222, .int .i64 t223, .int .i64 0, .int .i64 0]) ?_ 3 _ rfl; (with_reducible repeat (first | refine blk_drewN ?_ _ | refine blk_drew ?_ | refine blk_alloc ?_ _)); refine blk_put (cs := #[.int .i64 t221, .int .u32 t222, .int .i64 0, .int .i64 0, .int .i64 0]) ?_ 2 _ rfl; (with_reducible repeat (first | refine blk_drewN ?_ _ | refine blk_drew ?_ | refine blk_alloc ?_ _)); refine blk_put (cs := #[.int .i64 t221, .int .u32 0, .int .i64 0, .int .i64 0, .int .i64 0]) ?_ 1 _ rfl; (with_reducible repeat (first | refine blk_drewN ?_ _ | refine blk_drew ?_ | refine blk_alloc ?_ _)); refine blk_put (cs := #[.int .i64 0, .int .u32 0, .int .i64 0, .int .i64 0, .int .i64 0]) ?_ 0 _ rfl; (with_reducible repeat (first | refine blk_drewN ?_ _ | refine blk_drew ?_ | refine blk_alloc ?_ _)); exact BK227.out⟩
        have n2_ : Aside0 (Below w.heap.size w (((((w13.setCell ⟨gb227, 0, none⟩ (.int .i64 t221)).setCell ⟨gb227, 1, none⟩ (.int .u32 t222)).setCell ⟨gb227, 2, none⟩ (.int .i64 t223)).setCell ⟨gb227, 3, none⟩ (.int .i64 t224)).setCell ⟨gb227, 4, none⟩ (.int .i64 t225))) := ⟨by repeat (first | (with_reducible first | exact HB.out | apply below_alloc | apply pw_below_drewN | apply below_drew1 | refine below_set ?_ GE220.out | refine below_set ?_ GE227.out) | exact HB.out)⟩
        (try clear BK220)
        (try clear BK227)
        (try clear HB)
        generalize (((((w13.setCell ⟨gb227, 0, none⟩ (.int .i64 t221)).setCell ⟨gb227, 1, none⟩ (.int .u32 t222)).setCell ⟨gb227, 2, none⟩ (.int .i64 t223)).setCell ⟨gb227, 3, none⟩ (.int .i64 t224)).setCell ⟨gb227, 4, none⟩ (.int .i64 t225)) = w18 at n0_ n1_ n2_ ⊢
        have BK220 := n0_
        have BK227 := n1_
        have HB := n2_
        clear n0_ n1_ n2_
        have n0_ := Aside0.mk (blk_drew BK220.out)
        have n1_ := Aside0.mk (blk_drew BK227.out)
        have n2_ := Aside0.mk (below_drew1 HB.out)
        clear BK220
        clear BK227
        clear HB
        have BK220 := n0_
        have BK227 := n1_
        have HB := n2_
        clear n0_ n1_ n2_
        refine start_ (n := 9) (S := fun w' => w'.cell? ⟨gb220, 0, none⟩ = some (.int .i64 t214) ∧ w'.cell? ⟨gb220, 1, none⟩ = some (.int .u32 t215) ∧ w'.cell? ⟨gb220, 2, none⟩ = some (.int .i64 t216) ∧ w'.cell? ⟨gb220, 3, none⟩ = some (.int .i64 t217) ∧ w'.cell? ⟨gb220, 4, none⟩ = some (.int .i64 t218) ∧ w'.cell? ⟨gb227, 0, none⟩ = some (.int .i64 t221) ∧ w'.cell? ⟨gb227, 1, none⟩ = some (.int .u32 t222) ∧ w'.cell? ⟨gb227, 2, none⟩ = some (.int .i64 t223) ∧ w'.cell? ⟨gb227, 3, none⟩ = some (.int .i64 t224) ∧ w'.cell? ⟨gb227, 4, none⟩ = some (.int .i64 t225)) (ds := []) #[false, false, false, false, false, false, false, false, false] (by kernel_rfl) rfl rfl ⟨(blk_cell BK220.out 0).trans rfl, (blk_cell BK220.out 1).trans rfl, (blk_cell BK220.out 2).trans rfl, (blk_cell BK220.out 3).trans rfl, (blk_cell BK220.out 4).trans rfl, (blk_cell BK227.out 0).trans rfl, (blk_cell BK227.out 1).trans rfl, (blk_cell BK227.out 2).trans rfl, (blk_cell BK227.out 3).trans rfl, (blk_cell BK227.out 4).trans rfl⟩ (fun hHeld => ?_); refine with_tabW credenzalaw23_TellParses.tab5 credenzalaw23_TellParses.bits5 (fun HT_ HW_ => ?_)
        generalize w18.drew = w19 at BK220 BK227 HB hHeld ⊢
        refine pure_ (i := 0) (N := some 24) (v := ?_) (a' := ?_) #[true, false, false, false, false, false, false, false, false] rfl rfl (any_of HT_.out (by kernel_rfl)) (fun _ _ _ h => h) (Or.inl ⟨by rfl, ?_⟩) ?_ ?_
        rotate_left
        · intro w'
          go_simp
          with_reducible rfl
        rotate_left
        · simp only [Act.put, List.setIfInBounds_toArray, List.set_cons_zero, List.set_cons_succ, i64_w, i32_w, IntKind.wrap_u32]
          rfl
        refine pure_ (i := 1) (N := some 25) (v := ?_) (a' := ?_) #[true, true, false, false, false, false, false, false, false] rfl rfl (any_of HT_.out (by kernel_rfl)) (fun _ _ _ h => h) (Or.inl ⟨by rfl, ?_⟩) ?_ ?_
        rotate_left
        · intro w'
          go_simp
          with_reducible rfl
        rotate_left
        · simp only [Act.put, List.setIfInBounds_toArray, List.set_cons_zero, List.set_cons_succ, i64_w, i32_w, IntKind.wrap_u32]
          rfl
        refine pure_ (i := 2) (N := some 26) (v := ?_) (a' := ?_) #[true, true, true, false, false, false, false, false, false] rfl rfl (any_of HT_.out (by kernel_rfl)) (fun _ _ _ h => h) (Or.inl ⟨by rfl, ?_⟩) ?_ ?_
        rotate_left
        · intro w'
          go_simp
          with_reducible rfl
        rotate_left
        · simp only [Act.put, List.setIfInBounds_toArray, List.set_cons_zero, List.set_cons_succ, i64_w, i32_w, IntKind.wrap_u32]
          rfl
        refine pure_ (i := 3) (N := some 27) (v := ?_) (a' := ?_) #[true, true, true, true, false, false, false, false, false] rfl rfl (any_of HT_.out (by kernel_rfl)) (fun _ _ _ h => h) (Or.inl ⟨by rfl, ?_⟩) ?_ ?_
        rotate_left
        · intro w'
          go_simp
          with_reducible rfl
        rotate_left
        · simp only [Act.put, List.setIfInBounds_toArray, List.set_cons_zero, List.set_cons_succ, i64_w, i32_w, IntKind.wrap_u32]
          rfl
        refine take_ (i := 4) (N := some 28) (v := ?_) (a' := ?_) #[true, true, true, true, true, false, false, false, false] rfl rfl (take_ofW HT_.out HW_.out (by kernel_rfl)) (fun _ _ _ h => h) (Or.inl ⟨by rfl, ?_⟩) hHeld ?_ ?_
        rotate_left
        · rintro w' ⟨s0, s1, s2, s3, s4, s5, s6, s7, s8, s9⟩
          go_simp
          with_reducible rfl
        rotate_left
        · simp only [Act.put, List.setIfInBounds_toArray, List.set_cons_zero, List.set_cons_succ, i64_w, i32_w, IntKind.wrap_u32]
          rfl
        refine take_ (i := 6) (N := some 30) (v := ?_) (a' := ?_) #[true, true, true, true, true, false, true, false, false] rfl rfl (take_ofW HT_.out HW_.out (by kernel_rfl)) (fun _ _ _ h => h) (Or.inl ⟨by rfl, ?_⟩) hHeld ?_ ?_
        rotate_left
        · rintro w' ⟨s0, s1, s2, s3, s4, s5, s6, s7, s8, s9⟩
          go_simp
          with_reducible rfl
        rotate_left
        · simp only [Act.put, List.setIfInBounds_toArray, List.set_cons_zero, List.set_cons_succ, i64_w, i32_w, IntKind.wrap_u32]
          rfl
        refine one_ (i := 5) (N := some 29) #[true, true, true, true, true, true, true, false, false] rfl rfl (one_of HT_.out (by kernel_rfl)) (by decide) (fun K hK => ?_)
        refine goes_ Try.func30 (by kernel_rfl) rfl #[.agg #[.int .i64 t214, .int .u32 t215, .int .i64 t216, .int .i64 t217, .int .i64 t218]] (by rfl) rfl rfl (by (try simp only [List.map_toArray, List.map_cons, List.map_nil]); first | done | rfl | (simp only [List.length_drop, List.length_take]; rfl)) ?_
        with_reducible refine (credenzalaw23_ref.calls t214 t215 t216 t217 t218 t228 t229 t230 t231 t232 _ A17.out).mono ?_
        rintro e w20 ⟨rfl, hb⟩
        refine ⟨_, rfl, ?_⟩
        have n0_ := Aside0.mk (blk_below (g := gb220) (o := .cells #[.int .i64 t214, .int .u32 t215, .int .i64 t216, .int .i64 t217, .int .i64 t218] 49 (0, 0)) (by (with_reducible repeat (first | refine blk_drewN ?_ _ | refine blk_drew ?_ | refine blk_alloc ?_ _)); exact BK220.out) hb)
        have n1_ := Aside0.mk (blk_below (g := gb227) (o := .cells #[.int .i64 t221, .int .u32 t222, .int .i64 t223, .int .i64 t224, .int .i64 t225] 55 (0, 0)) (by (with_reducible repeat (first | refine blk_drewN ?_ _ | refine blk_drew ?_ | refine blk_alloc ?_ _)); exact BK227.out) hb)
        have n2_ := Aside0.mk (below_step (by repeat (first | (with_reducible first | exact HB.out | apply below_alloc | apply pw_below_drewN | apply below_drew1 | refine below_set ?_ GE220.out | refine below_set ?_ GE227.out) | exact HB.out)) hb)
        clear BK220
        clear BK227
        clear HB
        have BK220 := n0_
        have BK227 := n1_
        have HB := n2_
        clear n0_ n1_ n2_
        (try clear hb)
        (try clear hb2)
        (try clear hk)
        (try clear hi)
        refine hK.out _ _ ⟨(blk_cell BK220.out 0).trans rfl, (blk_cell BK220.out 1).trans rfl, (blk_cell BK220.out 2).trans rfl, (blk_cell BK220.out 3).trans rfl, (blk_cell BK220.out 4).trans rfl, (blk_cell BK227.out 0).trans rfl, (blk_cell BK227.out 1).trans rfl, (blk_cell BK227.out 2).trans rfl, (blk_cell BK227.out 3).trans rfl, (blk_cell BK227.out 4).trans rfl⟩ (fun hHeld => ?_)
        clear hK K
        refine norm_ (a' := ?_) ?_ ?_
        rotate_left
        · show Act.put _ (some 29) _ = _
          simp only [Act.put, List.setIfInBounds_toArray, List.set_cons_zero, List.set_cons_succ, i64_w, i32_w, IntKind.wrap_u32]
          rfl
        refine pure_ (i := 7) (N := some 31) (v := ?_) (a' := ?_) #[true, true, true, true, true, true, true, true, false] rfl rfl (any_of HT_.out (by kernel_rfl)) (fun _ _ _ h => h) (Or.inl ⟨by rfl, ?_⟩) ?_ ?_
        rotate_left
        · intro w'
          go_simp
          with_reducible rfl
        rotate_left
        · simp only [Act.put, List.setIfInBounds_toArray, List.set_cons_zero, List.set_cons_succ, i64_w, i32_w, IntKind.wrap_u32]
          rfl
        refine pure_ (i := 8) (N := some 32) (v := ?_) (a' := ?_) #[true, true, true, true, true, true, true, true, true] rfl rfl (any_of HT_.out (by kernel_rfl)) (fun _ _ _ h => h) (Or.inl ⟨by rfl, ?_⟩) ?_ ?_
        rotate_left
        · intro w'
          go_simp
          with_reducible rfl
        rotate_left
        · simp only [Act.put, List.setIfInBounds_toArray, List.set_cons_zero, List.set_cons_succ, i64_w, i32_w, IntKind.wrap_u32]
          rfl
        refine done_ (done_of HT_.out (by kernel_rfl)) ?_
        try go_wp2
        go_meet
        case rel => exact ⟨_, ((!(t228 == t221) || (!(t229 == t222) || (!(t230 == t223) || (!(t231 == t224) || (!(t232 == t225))))))), (by first | rfl | (simp; done) | (simp [*]; done)), H', ⟨by first | omega | exact Nat.le_refl _⟩, ⟨by (with_reducible repeat (first | refine blk_drewN ?_ _ | refine blk_drew ?_ | refine blk_alloc ?_ _)); exact BK220.out⟩, ⟨by (with_reducible repeat (first | refine blk_drewN ?_ _ | refine blk_drew ?_ | refine blk_alloc ?_ _)); exact BK227.out⟩, ⟨by repeat (first | (with_reducible first | exact HB.out | apply below_alloc | apply pw_below_drewN | apply below_drew1 | refine below_set ?_ GE220.out | refine below_set ?_ GE227.out) | exact HB.out)⟩⟩
      · rw [if_neg c16] at H
        have c16b0 : (t219 == t226) = false := beq_eq_false_iff_ne.mpr c16
        have c16b1 : (t219 != t226) = true := bne_iff_ne.mpr c16
        (first | rw [c16b0] | (simp only [i64_w, i32_w]; rw [c16b0]) | skip)
        have H' := Aside0.mk H
        clear H
        try go_wp2
        have n0_ : Aside0 ((((((w13.setCell ⟨gb227, 0, none⟩ (.int .i64 t221)).setCell ⟨gb227, 1, none⟩ (.int .u32 t222)).setCell ⟨gb227, 2, none⟩ (.int .i64 t223)).setCell ⟨gb227, 3, none⟩ (.int .i64 t224)).setCell ⟨gb227, 4, none⟩ (.int .i64 t225)).heap[gb220]? = some (.cells #[.int .i64 t214, .int .u32 t215, .int .i64 t216, .int .i64 t217, .int .i64 t218] 49 (0, 0))) := ⟨by (with_reducible repeat (first | refine blk_drewN ?_ _ | refine blk_drew ?_ | refine blk_alloc ?_ _)); refine blk_far ?_ NB220_227.out _; (with_reducible repeat (first | refine blk_drewN ?_ _ | refine blk_drew ?_ | refine blk_alloc ?_ _)); refine blk_far ?_ NB220_227.out _; (with_reducible repeat (first | refine blk_drewN ?_ _ | refine blk_drew ?_ | refine blk_alloc ?_ _)); refine blk_far ?_ NB220_227.out _; (with_reducible repeat (first | refine blk_drewN ?_ _ | refine blk_drew ?_ | refine blk_alloc ?_ _)); refine blk_far ?_ NB220_227.out _; (with_reducible repeat (first | refine blk_drewN ?_ _ | refine blk_drew ?_ | refine blk_alloc ?_ _)); refine blk_far ?_ NB220_227.out _; (with_reducible repeat (first | refine blk_drewN ?_ _ | refine blk_drew ?_ | refine blk_alloc ?_ _)); exact BK220.out⟩
        have n1_ : Aside0 ((((((w13.setCell ⟨gb227, 0, none⟩ (.int .i64 t221)).setCell ⟨gb227, 1, none⟩ (.int .u32 t222)).setCell ⟨gb227, 2, none⟩ (.int .i64 t223)).setCell ⟨gb227, 3, none⟩ (.int .i64 t224)).setCell ⟨gb227, 4, none⟩ (.int .i64 t225)).heap[gb227]? = some (.cells #[.int .i64 t221, .int .u32 t222, .int .i64 t223, .int .i64 t224, .int .i64 t225] 55 (0, 0))) := ⟨by (with_reducible repeat (first | refine blk_drewN ?_ _ | refine blk_drew ?_ | refine blk_alloc ?_ _)); refine blk_put (cs := #[.int .i64 t221, .int .u32 t222, .int .i64 t223, .int .i64 t224, .int .i64 0]) ?_ 4 _ rfl; (with_reducible repeat (first | refine blk_drewN ?_ _ | refine blk_drew ?_ | refine blk_alloc ?_ _)); refine blk_put (cs := #[.int .i64 t221, .int .u32 t222, .int .i64 t223, .int .i64 0, .int .i64 0]) ?_ 3 _ rfl; (with_reducible repeat (first | refine blk_drewN ?_ _ | refine blk_drew ?_ | refine blk_alloc ?_ _)); refine blk_put (cs := #[.int .i64 t221, .int .u32 t222, .int .i64 0, .int .i64 0, .int .i64 0]) ?_ 2 _ rfl; (with_reducible repeat (first | refine blk_drewN ?_ _ | refine blk_drew ?_ | refine blk_alloc ?_ _)); refine blk_put (cs := #[.int .i64 t221, .int .u32 0, .int .i64 0, .int .i64 0, .int .i64 0]) ?_ 1 _ rfl; (with_reducible repeat (first | refine blk_drewN ?_ _ | refine blk_drew ?_ | refine blk_alloc ?_ _)); refine blk_put (cs := #[.int .i64 0, .int .u32 0, .int .i64 0, .int .i64 0, .int .i64 0]) ?_ 0 _ rfl; (with_reducible repeat (first | refine blk_drewN ?_ _ | refine blk_drew ?_ | refine blk_alloc ?_ _)); exact BK227.out⟩
        have n2_ : Aside0 (Below w.heap.size w (((((w13.setCell ⟨gb227, 0, none⟩ (.int .i64 t221)).setCell ⟨gb227, 1, none⟩ (.int .u32 t222)).setCell ⟨gb227, 2, none⟩ (.int .i64 t223)).setCell ⟨gb227, 3, none⟩ (.int .i64 t224)).setCell ⟨gb227, 4, none⟩ (.int .i64 t225))) := ⟨by repeat (first | (with_reducible first | exact HB.out | apply below_alloc | apply pw_below_drewN | apply below_drew1 | refine below_set ?_ GE220.out | refine below_set ?_ GE227.out) | exact HB.out)⟩
        (try clear BK220)
        (try clear BK227)
        (try clear HB)
        generalize (((((w13.setCell ⟨gb227, 0, none⟩ (.int .i64 t221)).setCell ⟨gb227, 1, none⟩ (.int .u32 t222)).setCell ⟨gb227, 2, none⟩ (.int .i64 t223)).setCell ⟨gb227, 3, none⟩ (.int .i64 t224)).setCell ⟨gb227, 4, none⟩ (.int .i64 t225)) = w21 at n0_ n1_ n2_ ⊢
        have BK220 := n0_
        have BK227 := n1_
        have HB := n2_
        clear n0_ n1_ n2_
        have n0_ := Aside0.mk (blk_drew BK220.out)
        have n1_ := Aside0.mk (blk_drew BK227.out)
        have n2_ := Aside0.mk (below_drew1 HB.out)
        clear BK220
        clear BK227
        clear HB
        have BK220 := n0_
        have BK227 := n1_
        have HB := n2_
        clear n0_ n1_ n2_
        refine start_ (n := 9) (S := fun w' => True) (ds := []) #[false, false, false, false, false, false, false, false, false] (by kernel_rfl) rfl rfl trivial (fun hHeld => ?_); refine with_tabW credenzalaw23_TellParses.tab5 credenzalaw23_TellParses.bits5 (fun HT_ HW_ => ?_)
        generalize w21.drew = w22 at BK220 BK227 HB hHeld ⊢
        refine pure_ (i := 0) (N := some 24) (v := ?_) (a' := ?_) #[true, false, false, false, false, false, false, false, false] rfl rfl (any_of HT_.out (by kernel_rfl)) (fun _ _ _ h => h) (Or.inl ⟨by rfl, ?_⟩) ?_ ?_
        rotate_left
        · intro w'
          go_simp
          with_reducible rfl
        rotate_left
        · simp only [Act.put, List.setIfInBounds_toArray, List.set_cons_zero, List.set_cons_succ, i64_w, i32_w, IntKind.wrap_u32]
          rfl
        refine pure_ (i := 1) (N := some 25) (v := ?_) (a' := ?_) #[true, true, false, false, false, false, false, false, false] rfl rfl (any_of HT_.out (by kernel_rfl)) (fun _ _ _ h => h) (Or.inl ⟨by rfl, ?_⟩) ?_ ?_
        rotate_left
        · intro w'
          go_simp
          with_reducible rfl
        rotate_left
        · simp only [Act.put, List.setIfInBounds_toArray, List.set_cons_zero, List.set_cons_succ, i64_w, i32_w, IntKind.wrap_u32]
          rfl
        refine pure_ (i := 2) (N := some 26) (v := ?_) (a' := ?_) #[true, true, true, false, false, false, false, false, false] rfl rfl (any_of HT_.out (by kernel_rfl)) (fun _ _ _ h => h) (Or.inl ⟨by rfl, ?_⟩) ?_ ?_
        rotate_left
        · intro w'
          go_simp
          with_reducible rfl
        rotate_left
        · simp only [Act.put, List.setIfInBounds_toArray, List.set_cons_zero, List.set_cons_succ, i64_w, i32_w, IntKind.wrap_u32]
          rfl
        refine pure_ (i := 3) (N := some 27) (v := ?_) (a' := ?_) #[true, true, true, true, false, false, false, false, false] rfl rfl (any_of HT_.out (by kernel_rfl)) (fun _ _ _ h => h) (Or.inl ⟨by rfl, ?_⟩) ?_ ?_
        rotate_left
        · intro w'
          go_simp
          with_reducible rfl
        rotate_left
        · simp only [Act.put, List.setIfInBounds_toArray, List.set_cons_zero, List.set_cons_succ, i64_w, i32_w, IntKind.wrap_u32]
          rfl
        refine pure_ (i := 4) (N := some 28) (v := undef) (a' := ?_) #[true, true, true, true, true, false, false, false, false] rfl rfl (any_of HT_.out (by kernel_rfl)) (fun _ _ _ h => h) (Or.inr ⟨by rfl, rfl⟩) ?_ ?_
        rotate_left
        · simp only [Act.put, List.setIfInBounds_toArray, List.set_cons_zero, List.set_cons_succ, i64_w, i32_w, IntKind.wrap_u32]
          rfl
        refine pure_ (i := 5) (N := some 29) (v := undef) (a' := ?_) #[true, true, true, true, true, true, false, false, false] rfl rfl (any_of HT_.out (by kernel_rfl)) (fun _ _ _ h => h) (Or.inr ⟨by rfl, rfl⟩) ?_ ?_
        rotate_left
        · simp only [Act.put, List.setIfInBounds_toArray, List.set_cons_zero, List.set_cons_succ, i64_w, i32_w, IntKind.wrap_u32]
          rfl
        refine pure_ (i := 6) (N := some 30) (v := undef) (a' := ?_) #[true, true, true, true, true, true, true, false, false] rfl rfl (any_of HT_.out (by kernel_rfl)) (fun _ _ _ h => h) (Or.inr ⟨by rfl, rfl⟩) ?_ ?_
        rotate_left
        · simp only [Act.put, List.setIfInBounds_toArray, List.set_cons_zero, List.set_cons_succ, i64_w, i32_w, IntKind.wrap_u32]
          rfl
        refine pure_ (i := 7) (N := some 31) (v := undef) (a' := ?_) #[true, true, true, true, true, true, true, true, false] rfl rfl (any_of HT_.out (by kernel_rfl)) (fun _ _ _ h => h) (Or.inr ⟨by rfl, rfl⟩) ?_ ?_
        rotate_left
        · simp only [Act.put, List.setIfInBounds_toArray, List.set_cons_zero, List.set_cons_succ, i64_w, i32_w, IntKind.wrap_u32]
          rfl
        refine pure_ (i := 8) (N := some 32) (v := ?_) (a' := ?_) #[true, true, true, true, true, true, true, true, true] rfl rfl (any_of HT_.out (by kernel_rfl)) (fun _ _ _ h => h) (Or.inl ⟨by rfl, ?_⟩) ?_ ?_
        rotate_left
        · intro w'
          go_simp
          with_reducible rfl
        rotate_left
        · simp only [Act.put, List.setIfInBounds_toArray, List.set_cons_zero, List.set_cons_succ, i64_w, i32_w, IntKind.wrap_u32]
          rfl
        refine done_ (done_of HT_.out (by kernel_rfl)) ?_
        try go_wp2
        go_meet
        case rel => exact ⟨_, (true), (by first | rfl | (simp; done) | (simp [*]; done)), H', ⟨by first | omega | exact Nat.le_refl _⟩, ⟨by (with_reducible repeat (first | refine blk_drewN ?_ _ | refine blk_drew ?_ | refine blk_alloc ?_ _)); exact BK220.out⟩, ⟨by (with_reducible repeat (first | refine blk_drewN ?_ _ | refine blk_drew ?_ | refine blk_alloc ?_ _)); exact BK227.out⟩, ⟨by repeat (first | (with_reducible first | exact HB.out | apply below_alloc | apply pw_below_drewN | apply below_drew1 | refine below_set ?_ GE220.out | refine below_set ?_ GE227.out) | exact HB.out)⟩⟩
    case rest =>
      clear HC7
      try clear c1
      try clear hcv1
      try clear c2
      try clear c2b0
      try clear c2b1
      try clear p2
      try clear c3
      try clear c10
      try clear hcv11
      try clear c14
      try clear c16
      try clear c16b0
      try clear c16b1
      try clear hcz10_0
      try clear hcz10_1
      try clear hcz10_2
      try clear hcz10_3
      try clear hcz10_4
      try clear hcz15_0
      try clear hcz15_1
      try clear hcz15_2
      try clear hcz15_3
      try clear hcz15_4
      try clear hfz10_0
      try clear hfz10_1
      try clear hfz10_2
      try clear hfz10_3
      try clear hfz10_4
      try clear hfz15_0
      try clear hfz15_1
      try clear hfz15_2
      try clear hfz15_3
      try clear hfz15_4
      obtain ⟨kq, x32_6, rfl, HA, HJ6, BK220, BK227, HB⟩ := hcut
      cases kq with
      | zero => exact absurd HA.out (by simp [credenzalaw23_TellParses.j0])
      | succ kj6 =>
        have H := HA.out
        clear HA
        simp only [credenzalaw23_TellParses.j0] at H
        by_cases c23 : x32_6 = true
        · subst c23
          have H1 : (some false) = some r := by rw [if_pos rfl] at H; exact H
          clear H
          have H := H1
          clear H1
          obtain rfl := Option.some.inj H
          go_wp2
          go_ret
          exact ⟨by first | rfl | (simp [errW_none, errW_some] <;> rfl) | (simp [*, errW_none, errW_some] <;> rfl), by repeat (first | (with_reducible first | exact HB.out | apply below_alloc | apply pw_below_drewN | apply below_drew1 | refine below_set ?_ GE220.out | refine below_set ?_ GE227.out) | exact HB.out)⟩
        · replace c23 := Bool.eq_false_iff.mpr c23
          subst c23
          have H1 : (if t226 = 0 then ((tell_Bytes.f kj6 t214 t215 t216 t217 t218).bind fun bt233 => (if bt233.2 = 0 then (if (strOfNums bt233.1).toList = (strOfNums l0).toList then ((credenzalaw23_awake.f kj6).bind fun t237 => (some t237)) else (some false)) else (some false))) else ((credenzalaw23_awake.f kj6).bind fun t238 => (some t238))) = some r := by rw [if_neg (show ¬ (false = true) by decide)] at H; exact H
          clear H
          have H := H1
          clear H1
          by_cases c24 : t226 = 0
          · rw [if_pos c24] at H
            have c24b0 : (t226 == 0) = true := beq_iff_eq.mpr c24
            have c24b1 : (t226 != 0) = false := bne_eq_false_iff_eq.mpr c24
            clear c24
            replace H := Option.bind_eq_some_iff.mp H
            obtain ⟨⟨t233, t236⟩, A250, H⟩ := H
            replace H : (if t236 = 0 then (if (strOfNums t233).toList = (strOfNums l0).toList then ((credenzalaw23_awake.f kj6).bind fun t237 => (some t237)) else (some false)) else (some false)) = some r := H
            have A25 := Aside0.mk A250
            clear A250
            by_cases c26 : t236 = 0
            · rw [if_pos c26] at H
              have c26b0 : (t236 == 0) = true := beq_iff_eq.mpr c26
              have c26b1 : (t236 != 0) = false := bne_eq_false_iff_eq.mpr c26
              clear c26
              by_cases c27 : (strOfNums t233).toList = (strOfNums l0).toList
              · rw [if_pos c27] at H
                have c27b0 : ((strOfNums t233).toList == (strOfNums l0).toList) = true := beq_iff_eq.mpr c27
                have c27b1 : ((strOfNums t233).toList != (strOfNums l0).toList) = false := bne_eq_false_iff_eq.mpr c27
                clear c27
                replace H := Option.bind_eq_some_iff.mp H
                obtain ⟨t237, A280, H⟩ := H
                replace H : (some t237) = some r := H
                have A28 := Aside0.mk A280
                clear A280
                obtain rfl := Option.some.inj H
                have hnb29 := NB220_227.out
                have hnc29 := NB227_220.out
                have hcz30_0 : wc.cell? ⟨gb220, 0, none⟩ = some (.int .i64 t214) := (blk_cell BK220.out 0).trans rfl
                have hcz30_1 : wc.cell? ⟨gb220, 1, none⟩ = some (.int .u32 t215) := (blk_cell BK220.out 1).trans rfl
                have hcz30_2 : wc.cell? ⟨gb220, 2, none⟩ = some (.int .i64 t216) := (blk_cell BK220.out 2).trans rfl
                have hcz30_3 : wc.cell? ⟨gb220, 3, none⟩ = some (.int .i64 t217) := (blk_cell BK220.out 3).trans rfl
                have hcz30_4 : wc.cell? ⟨gb220, 4, none⟩ = some (.int .i64 t218) := (blk_cell BK220.out 4).trans rfl
                have hfz30_0 := blk_frozen BK220.out 0
                have hfz30_1 := blk_frozen BK220.out 1
                have hfz30_2 := blk_frozen BK220.out 2
                have hfz30_3 := blk_frozen BK220.out 3
                have hfz30_4 := blk_frozen BK220.out 4
                go_wp2_with (first | ((with_reducible refine gate_callee (f := 28) rfl ?_); refine goesL_ (some 38) rfl rfl Try.func28 (by kernel_rfl) rfl #[.agg #[.int .i64 t214, .int .u32 t215, .int .i64 t216, .int .i64 t217, .int .i64 t218]] rfl (by (try simp only [List.map_toArray, List.map_cons, List.map_nil]); first | done | rfl | (simp only [List.length_drop, List.length_take]; rfl)) ?_; (with_reducible refine (tell_Bytes.calls kj6 t214 t215 t216 t217 t218 t233 t236 _ A25.out).mono ?_); rintro e w31 ⟨v234, rfl, ho0, hb⟩; refine ⟨_, rfl, ?_⟩; have n0_ := Aside0.mk (Kd.R_lower ho0 (below_size (by repeat (first | (with_reducible first | exact HB.out | apply below_alloc | apply pw_below_drewN | apply below_drew1 | refine below_set ?_ GE220.out | refine below_set ?_ GE227.out) | exact HB.out)))); have n1_ := Aside0.mk (blk_below (g := gb220) (o := .cells #[.int .i64 t214, .int .u32 t215, .int .i64 t216, .int .i64 t217, .int .i64 t218] 49 (0, 0)) (by (with_reducible repeat (first | refine blk_drewN ?_ _ | refine blk_drew ?_ | refine blk_alloc ?_ _)); exact BK220.out) hb); have n2_ := Aside0.mk (blk_below (g := gb227) (o := .cells #[.int .i64 t221, .int .u32 t222, .int .i64 t223, .int .i64 t224, .int .i64 t225] 55 (0, 0)) (by (with_reducible repeat (first | refine blk_drewN ?_ _ | refine blk_drew ?_ | refine blk_alloc ?_ _)); exact BK227.out) hb); have n3_ := Aside0.mk (below_step (by repeat (first | (with_reducible first | exact HB.out | apply below_alloc | apply pw_below_drewN | apply below_drew1 | refine below_set ?_ GE220.out | refine below_set ?_ GE227.out) | exact HB.out)) hb); clear BK220; clear BK227; clear HB; have HO235 := n0_; have BK220 := n1_; have BK227 := n2_; have HB := n3_; clear n0_ n1_ n2_ n3_; (try clear hb); (try clear hb2); (try clear hk); (try clear hi); (try clear ho0); have hcv32 := own_string (P := Try.prog) Try.underlying50 Try.underlying5 Try.underlying9 (Kd.own_of_R HO235.out); have hcv33 := Kd.C_string (P := Try.prog) (A := A0) (c := c0) Try.underlying50 Try.underlying5 Try.underlying9 (Kd.C_below HR0.out HB.out)) | (go_at_call 32; (with_reducible refine (credenzalaw23_awake.calls kj6  t237 _ A28.out).mono ?_); rintro e w34 ⟨rfl, hb⟩; have n0_ := Aside0.mk (Kd.R_below (by (with_reducible repeat (first | apply Kd.R_alloc | apply Kd.R_drewN | apply Kd.R_drew)); exact HO235.out) hb); have n1_ := Aside0.mk (blk_below (g := gb220) (o := .cells #[.int .i64 t214, .int .u32 t215, .int .i64 t216, .int .i64 t217, .int .i64 t218] 49 (0, 0)) (by (with_reducible repeat (first | refine blk_drewN ?_ _ | refine blk_drew ?_ | refine blk_alloc ?_ _)); exact BK220.out) hb); have n2_ := Aside0.mk (blk_below (g := gb227) (o := .cells #[.int .i64 t221, .int .u32 t222, .int .i64 t223, .int .i64 t224, .int .i64 t225] 55 (0, 0)) (by (with_reducible repeat (first | refine blk_drewN ?_ _ | refine blk_drew ?_ | refine blk_alloc ?_ _)); exact BK227.out) hb); have n3_ := Aside0.mk (below_step (by repeat (first | (with_reducible first | exact HB.out | apply below_alloc | apply pw_below_drewN | apply below_drew1 | refine below_set ?_ GE220.out | refine below_set ?_ GE227.out) | exact HB.out)) hb); clear HO235; clear BK220; clear BK227; clear HB; have HO235 := n0_; have BK220 := n1_; have BK227 := n2_; have HB := n3_; clear n0_ n1_ n2_ n3_; (try clear hb); (try clear hb2); (try clear hk); (try clear hi)))
                go_ret
                exact ⟨by first | rfl | (simp [errW_none, errW_some] <;> rfl) | (simp [*, errW_none, errW_some] <;> rfl), by repeat (first | (with_reducible first | exact HB.out | apply below_alloc | apply pw_below_drewN | apply below_drew1 | refine below_set ?_ GE220.out | refine below_set ?_ GE227.out) | exact HB.out)⟩
              · rw [if_neg c27] at H
                have c27b0 : ((strOfNums t233).toList == (strOfNums l0).toList) = false := beq_eq_false_iff_ne.mpr c27
                have c27b1 : ((strOfNums t233).toList != (strOfNums l0).toList) = true := bne_iff_ne.mpr c27
                obtain rfl := Option.some.inj H
                have hnb35 := NB220_227.out
                have hnc35 := NB227_220.out
                have hcz36_0 : wc.cell? ⟨gb220, 0, none⟩ = some (.int .i64 t214) := (blk_cell BK220.out 0).trans rfl
                have hcz36_1 : wc.cell? ⟨gb220, 1, none⟩ = some (.int .u32 t215) := (blk_cell BK220.out 1).trans rfl
                have hcz36_2 : wc.cell? ⟨gb220, 2, none⟩ = some (.int .i64 t216) := (blk_cell BK220.out 2).trans rfl
                have hcz36_3 : wc.cell? ⟨gb220, 3, none⟩ = some (.int .i64 t217) := (blk_cell BK220.out 3).trans rfl
                have hcz36_4 : wc.cell? ⟨gb220, 4, none⟩ = some (.int .i64 t218) := (blk_cell BK220.out 4).trans rfl
                have hfz36_0 := blk_frozen BK220.out 0
                have hfz36_1 := blk_frozen BK220.out 1
                have hfz36_2 := blk_frozen BK220.out 2
                have hfz36_3 := blk_frozen BK220.out 3
                have hfz36_4 := blk_frozen BK220.out 4
                go_wp2_with (first | ((with_reducible refine gate_callee (f := 28) rfl ?_); refine goesL_ (some 38) rfl rfl Try.func28 (by kernel_rfl) rfl #[.agg #[.int .i64 t214, .int .u32 t215, .int .i64 t216, .int .i64 t217, .int .i64 t218]] rfl (by (try simp only [List.map_toArray, List.map_cons, List.map_nil]); first | done | rfl | (simp only [List.length_drop, List.length_take]; rfl)) ?_; (with_reducible refine (tell_Bytes.calls kj6 t214 t215 t216 t217 t218 t233 t236 _ A25.out).mono ?_); rintro e w37 ⟨v234, rfl, ho0, hb⟩; refine ⟨_, rfl, ?_⟩; have n0_ := Aside0.mk (Kd.R_lower ho0 (below_size (by repeat (first | (with_reducible first | exact HB.out | apply below_alloc | apply pw_below_drewN | apply below_drew1 | refine below_set ?_ GE220.out | refine below_set ?_ GE227.out) | exact HB.out)))); have n1_ := Aside0.mk (blk_below (g := gb220) (o := .cells #[.int .i64 t214, .int .u32 t215, .int .i64 t216, .int .i64 t217, .int .i64 t218] 49 (0, 0)) (by (with_reducible repeat (first | refine blk_drewN ?_ _ | refine blk_drew ?_ | refine blk_alloc ?_ _)); exact BK220.out) hb); have n2_ := Aside0.mk (blk_below (g := gb227) (o := .cells #[.int .i64 t221, .int .u32 t222, .int .i64 t223, .int .i64 t224, .int .i64 t225] 55 (0, 0)) (by (with_reducible repeat (first | refine blk_drewN ?_ _ | refine blk_drew ?_ | refine blk_alloc ?_ _)); exact BK227.out) hb); have n3_ := Aside0.mk (below_step (by repeat (first | (with_reducible first | exact HB.out | apply below_alloc | apply pw_below_drewN | apply below_drew1 | refine below_set ?_ GE220.out | refine below_set ?_ GE227.out) | exact HB.out)) hb); clear BK220; clear BK227; clear HB; have HO235 := n0_; have BK220 := n1_; have BK227 := n2_; have HB := n3_; clear n0_ n1_ n2_ n3_; (try clear hb); (try clear hb2); (try clear hk); (try clear hi); (try clear ho0); have hcv38 := own_string (P := Try.prog) Try.underlying50 Try.underlying5 Try.underlying9 (Kd.own_of_R HO235.out); have hcv39 := Kd.C_string (P := Try.prog) (A := A0) (c := c0) Try.underlying50 Try.underlying5 Try.underlying9 (Kd.C_below HR0.out HB.out)))
                go_ret
                exact ⟨by first | rfl | (simp [errW_none, errW_some] <;> rfl) | (simp [*, errW_none, errW_some] <;> rfl), by repeat (first | (with_reducible first | exact HB.out | apply below_alloc | apply pw_below_drewN | apply below_drew1 | refine below_set ?_ GE220.out | refine below_set ?_ GE227.out) | exact HB.out)⟩
            · rw [if_neg c26] at H
              have c26b0 : (t236 == 0) = false := beq_eq_false_iff_ne.mpr c26
              have c26b1 : (t236 != 0) = true := bne_iff_ne.mpr c26
              obtain rfl := Option.some.inj H
              have hnb40 := NB220_227.out
              have hnc40 := NB227_220.out
              have hcz41_0 : wc.cell? ⟨gb220, 0, none⟩ = some (.int .i64 t214) := (blk_cell BK220.out 0).trans rfl
              have hcz41_1 : wc.cell? ⟨gb220, 1, none⟩ = some (.int .u32 t215) := (blk_cell BK220.out 1).trans rfl
              have hcz41_2 : wc.cell? ⟨gb220, 2, none⟩ = some (.int .i64 t216) := (blk_cell BK220.out 2).trans rfl
              have hcz41_3 : wc.cell? ⟨gb220, 3, none⟩ = some (.int .i64 t217) := (blk_cell BK220.out 3).trans rfl
              have hcz41_4 : wc.cell? ⟨gb220, 4, none⟩ = some (.int .i64 t218) := (blk_cell BK220.out 4).trans rfl
              have hfz41_0 := blk_frozen BK220.out 0
              have hfz41_1 := blk_frozen BK220.out 1
              have hfz41_2 := blk_frozen BK220.out 2
              have hfz41_3 := blk_frozen BK220.out 3
              have hfz41_4 := blk_frozen BK220.out 4
              go_wp2_with (first | ((with_reducible refine gate_callee (f := 28) rfl ?_); refine goesL_ (some 38) rfl rfl Try.func28 (by kernel_rfl) rfl #[.agg #[.int .i64 t214, .int .u32 t215, .int .i64 t216, .int .i64 t217, .int .i64 t218]] rfl (by (try simp only [List.map_toArray, List.map_cons, List.map_nil]); first | done | rfl | (simp only [List.length_drop, List.length_take]; rfl)) ?_; (with_reducible refine (tell_Bytes.calls kj6 t214 t215 t216 t217 t218 t233 t236 _ A25.out).mono ?_); rintro e w42 ⟨v234, rfl, ho0, hb⟩; refine ⟨_, rfl, ?_⟩; have n0_ := Aside0.mk (Kd.R_lower ho0 (below_size (by repeat (first | (with_reducible first | exact HB.out | apply below_alloc | apply pw_below_drewN | apply below_drew1 | refine below_set ?_ GE220.out | refine below_set ?_ GE227.out) | exact HB.out)))); have n1_ := Aside0.mk (blk_below (g := gb220) (o := .cells #[.int .i64 t214, .int .u32 t215, .int .i64 t216, .int .i64 t217, .int .i64 t218] 49 (0, 0)) (by (with_reducible repeat (first | refine blk_drewN ?_ _ | refine blk_drew ?_ | refine blk_alloc ?_ _)); exact BK220.out) hb); have n2_ := Aside0.mk (blk_below (g := gb227) (o := .cells #[.int .i64 t221, .int .u32 t222, .int .i64 t223, .int .i64 t224, .int .i64 t225] 55 (0, 0)) (by (with_reducible repeat (first | refine blk_drewN ?_ _ | refine blk_drew ?_ | refine blk_alloc ?_ _)); exact BK227.out) hb); have n3_ := Aside0.mk (below_step (by repeat (first | (with_reducible first | exact HB.out | apply below_alloc | apply pw_below_drewN | apply below_drew1 | refine below_set ?_ GE220.out | refine below_set ?_ GE227.out) | exact HB.out)) hb); clear BK220; clear BK227; clear HB; have HO235 := n0_; have BK220 := n1_; have BK227 := n2_; have HB := n3_; clear n0_ n1_ n2_ n3_; (try clear hb); (try clear hb2); (try clear hk); (try clear hi); (try clear ho0)))
              go_ret
              exact ⟨by first | rfl | (simp [errW_none, errW_some] <;> rfl) | (simp [*, errW_none, errW_some] <;> rfl), by repeat (first | (with_reducible first | exact HB.out | apply below_alloc | apply pw_below_drewN | apply below_drew1 | refine below_set ?_ GE220.out | refine below_set ?_ GE227.out) | exact HB.out)⟩
          · rw [if_neg c24] at H
            have c24b0 : (t226 == 0) = false := beq_eq_false_iff_ne.mpr c24
            have c24b1 : (t226 != 0) = true := bne_iff_ne.mpr c24
            replace H := Option.bind_eq_some_iff.mp H
            obtain ⟨t238, A430, H⟩ := H
            replace H : (some t238) = some r := H
            have A43 := Aside0.mk A430
            clear A430
            obtain rfl := Option.some.inj H
            go_wp2_with (first | ((with_reducible refine gate_callee (f := 32) rfl ?_); refine goesL_ (some 35) rfl rfl Try.func32 (by kernel_rfl) rfl #[] rfl (by (try simp only [List.map_toArray, List.map_cons, List.map_nil]); first | done | rfl | (simp only [List.length_drop, List.length_take]; rfl)) ?_; (with_reducible refine (credenzalaw23_awake.calls kj6  t238 _ A43.out).mono ?_); rintro e w44 ⟨rfl, hb⟩; refine ⟨_, rfl, ?_⟩; have n0_ := Aside0.mk (blk_below (g := gb220) (o := .cells #[.int .i64 t214, .int .u32 t215, .int .i64 t216, .int .i64 t217, .int .i64 t218] 49 (0, 0)) (by (with_reducible repeat (first | refine blk_drewN ?_ _ | refine blk_drew ?_ | refine blk_alloc ?_ _)); exact BK220.out) hb); have n1_ := Aside0.mk (blk_below (g := gb227) (o := .cells #[.int .i64 t221, .int .u32 t222, .int .i64 t223, .int .i64 t224, .int .i64 t225] 55 (0, 0)) (by (with_reducible repeat (first | refine blk_drewN ?_ _ | refine blk_drew ?_ | refine blk_alloc ?_ _)); exact BK227.out) hb); have n2_ := Aside0.mk (below_step (by repeat (first | (with_reducible first | exact HB.out | apply below_alloc | apply pw_below_drewN | apply below_drew1 | refine below_set ?_ GE220.out | refine below_set ?_ GE227.out) | exact HB.out)) hb); clear BK220; clear BK227; clear HB; have BK220 := n0_; have BK227 := n1_; have HB := n2_; clear n0_ n1_ n2_; (try clear hb); (try clear hb2); (try clear hk); (try clear hi)))
            go_ret
            exact ⟨by first | rfl | (simp [errW_none, errW_some] <;> rfl) | (simp [*, errW_none, errW_some] <;> rfl), by repeat (first | (with_reducible first | exact HB.out | apply below_alloc | apply pw_below_drewN | apply below_drew1 | refine below_set ?_ GE220.out | refine below_set ?_ GE227.out) | exact HB.out)⟩

/-- THE ONE PURE STATEMENT of credenzalaw23_TellParses: yours. -/
def credenzalaw23_TellParses.Pure : Prop := ∀ (l0 : List Int), l0.length ≤ maxLen → l0.length * 1 ≤ 140737488351232 → (∀ x ∈ l0, (Lit.int .u8 x).wf = true) → ∃ k, credenzalaw23_TellParses.f k l0 = some true
theorem credenzalaw23_TellParses.walk (P : credenzalaw23_TellParses.Pure) (a0 : Option Addr) (len0 cap0 : Nat) (z0 : List Int) (w : World) (w0 : (a0 = none ∧ len0 = 0 ∧ cap0 = 0 ∧ z0 = []) ∨ ∃ x, a0 = some x ∧ len0 ≤ cap0 ∧ cap0 ≤ maxLen ∧ z0.length = cap0 ∧ (∀ i, i < z0.length → w.cell? (x.add i) = some (.int .u8 (z0.getD i 0))) ∧ ∀ n ∈ z0, (Lit.int .u8 n).wf = true) (y0 : len0 * 1 ≤ 140737488351232) :
    Calls Try.prog 10 #[.slice a0 len0 cap0] w fun e w' => e = .returned (.bool true) ∧ Below w.heap.size w w' := by
  obtain ⟨l0, rfl, hr0, hm0, hw0, hc0⟩ := ReadsInt.ofRowC w0
  obtain ⟨k, h⟩ := P l0 hm0 y0 hw0
  refine (credenzalaw23_TellParses.calls k _ _ l0 true w (Kd.C_of_reads (d := (0 : Int)) (h1 := fun _ => rfl) hr0) hc0 h).mono ?_
  rintro e w' ⟨rfl, hd⟩
  exact ⟨rfl, hd⟩

end Go.Proofs.Ytggoddiiglkpiaa.PTellParses
