-- Written by a program of this session (wip/tools/mkprint.py over the kit's print).
import Derived.Test.YtggoddiiglkpiaaPTellBytesx0
import Derived.Test.YtggoddiiglkpiaaPTellBytesx2
import Derived.Test.YtggoddiiglkpiaaPTellBytesx3
import Derived.Test.YtggoddiiglkpiaaPTellBytesx4
import Derived.Test.YtggoddiiglkpiaaPTellBytesx5
import Derived.Test.YtggoddiiglkpiaaPTellBytesx6
namespace Go.Proofs.Ytggoddiiglkpiaa.PTellBytes
open Go.RowKit Go.Proofs.YtggoddiiglkpiaaW.PrintWords Go.Proofs.YtggoddiiglkpiaaW.PrintLast Go.Proofs.YtggoddiiglkpiaaW.PrintMore
attribute [local go_sem] max2_int min2_int max_two min_two max_three min_three max_four min_four   -- for this text's walks alone
set_option linter.unusedVariables false
set_option linter.unusedSimpArgs false

attribute [local go_sem high] eqA55
/-! ### credenzalaw23_TellBytes: function 9 -/
def credenzalaw23_TellBytes.j0 : Nat → List Int → Int → Bool → Int → Int → Int → Int → Int → Option (Bool)
  | 0, _, _, _, _, _, _, _, _ => none
  | k + 1, x3, x5, x24, x218000, x218001, x218002, x218003, x218004 => if x24 = true then (some false) else (if x5 = 0 then ((tell_Parse.f k x3).bind fun bt230 => ((credenzalaw23_ref.f x218000 x218001 x218002 x218003 x218004).bind fun bt237 => ((credenzaref23_Bytes.f k bt237.1 bt237.2.1 bt237.2.2.1 bt237.2.2.2.1 bt237.2.2.2.2).bind fun t242 => (if (strOfNums x3).toList = t242.toList then (if bt230.2.2.2.2.2 = 0 then ((credenzalaw23_ref.f bt230.1 bt230.2.1 bt230.2.2.1 bt230.2.2.2.1 bt230.2.2.2.2.1).bind fun bt243 => ((credenzalaw23_ref.f x218000 x218001 x218002 x218003 x218004).bind fun bt248 => (if (bt243.1 == bt248.1 && (bt243.2.1 == bt248.2.1 && (bt243.2.2.1 == bt248.2.2.1 && (bt243.2.2.2.1 == bt248.2.2.2.1 && (bt243.2.2.2.2 == bt248.2.2.2.2))))) = true then ((credenzalaw23_awake.f k).bind fun t253 => (some t253)) else (some false)))) else (some false)) else (some false))))) else (if (x3.length : Int) = 0 then ((credenzalaw23_awake.f k).bind fun t229 => (some t229)) else (some false)))
def credenzalaw23_TellBytes.f (k : Nat) (a0_0 : Int) (a0_1 : Int) (a0_2 : Int) (a0_3 : Int) (a0_4 : Int) : Option (Bool) := (tell_Bytes.f k a0_0 a0_1 a0_2 a0_3 a0_4).bind fun bt218 => ((credenzalaw23_ref.f a0_0 a0_1 a0_2 a0_3 a0_4).bind fun bt222 => ((credenzaref23_Right.f k bt222.1 bt222.2.1 bt222.2.2.1 bt222.2.2.2.1 bt222.2.2.2.2).bind fun t227 => ((tell_Right.f a0_0 a0_1 a0_2 a0_3 a0_4).bind fun t228 => (if t228 = t227 then (credenzalaw23_TellBytes.j0 k bt218.1 t227 (bt218.2 != t227) a0_0 a0_1 a0_2 a0_3 a0_4) else (credenzalaw23_TellBytes.j0 k bt218.1 t227 true a0_0 a0_1 a0_2 a0_3 a0_4)))))
theorem credenzalaw23_TellBytes.mono_l : ∀ k, (∀ y0 y1 y2 y3 y4 y5 y6 y7, LeO (credenzalaw23_TellBytes.j0 k y0 y1 y2 y3 y4 y5 y6 y7) (credenzalaw23_TellBytes.j0 (k + 1) y0 y1 y2 y3 y4 y5 y6 y7))
  | 0 => fun _ _ _ _ _ _ _ _ r h => by simp [credenzalaw23_TellBytes.j0] at h
  | k + 1 => by
    have ih0 := credenzalaw23_TellBytes.mono_l k
    · intro y0 y1 y2 y3 y4 y5 y6 y7
      unfold credenzalaw23_TellBytes.j0
      repeat' first
      | (with_reducible exact ih0 _ _ _ _ _ _ _ _)
      | (with_reducible exact credenzalaw23_awake.mono _)
      | (with_reducible exact credenzaref23_Bytes.mono _ _ _ _ _ _)
      | (with_reducible exact credenzaref23_Right.mono _ _ _ _ _ _)
      | (with_reducible exact tell_Bytes.mono _ _ _ _ _ _)
      | (with_reducible exact tell_Parse.mono _ _)
      | (with_reducible exact LeO.refl _)
      | (with_reducible exact LeO.none _)
      | (with_reducible refine LeO.ite ?_ ?_)
      | (with_reducible refine LeO.bind ?_ (fun _ => ?_))
      | exact ih0 _ _ _ _ _ _ _ _
      | exact credenzalaw23_awake.mono _
      | exact credenzaref23_Bytes.mono _ _ _ _ _ _
      | exact credenzaref23_Right.mono _ _ _ _ _ _
      | exact tell_Bytes.mono _ _ _ _ _ _
      | exact tell_Parse.mono _ _
      | exact LeO.none _
      | refine LeO.ite ?_ ?_
      | refine LeO.bind ?_ (fun _ => ?_)
theorem credenzalaw23_TellBytes.mono : ∀ a0 a1 a2 a3 a4 k, LeO (credenzalaw23_TellBytes.f k a0 a1 a2 a3 a4) (credenzalaw23_TellBytes.f (k + 1) a0 a1 a2 a3 a4) := by
  intro a0 a1 a2 a3 a4 k
  have ih0 := credenzalaw23_TellBytes.mono_l k
  unfold credenzalaw23_TellBytes.f
  repeat' first
      | (with_reducible exact ih0 _ _ _ _ _ _ _ _)
      | (with_reducible exact credenzalaw23_awake.mono _)
      | (with_reducible exact credenzaref23_Bytes.mono _ _ _ _ _ _)
      | (with_reducible exact credenzaref23_Right.mono _ _ _ _ _ _)
      | (with_reducible exact tell_Bytes.mono _ _ _ _ _ _)
      | (with_reducible exact tell_Parse.mono _ _)
      | (with_reducible exact LeO.refl _)
      | (with_reducible exact LeO.none _)
      | (with_reducible refine LeO.ite ?_ ?_)
      | (with_reducible refine LeO.bind ?_ (fun _ => ?_))
      | exact ih0 _ _ _ _ _ _ _ _
      | exact credenzalaw23_awake.mono _
      | exact credenzaref23_Bytes.mono _ _ _ _ _ _
      | exact credenzaref23_Right.mono _ _ _ _ _ _
      | exact tell_Bytes.mono _ _ _ _ _ _
      | exact tell_Parse.mono _ _
      | exact LeO.none _
      | refine LeO.ite ?_ ?_
      | refine LeO.bind ?_ (fun _ => ?_)
def credenzalaw23_TellBytes.T8 : Bool × List (List Nat × List Nat) := (true, [([], []), ([0], [0]), ([], []), ([2], [2]), ([3, 3], [3]), ([1, 4], [1, 4]), ([5, 4], [5]), ([6], [6]), ([7, 6], [6, 7]), ([6, 8], [6, 8]), ([9, 6], [9]), ([10], [10]), ([11, 10, 10], [10, 11]), ([10], [10]), ([13, 12, 10], [10, 13]), ([12, 14, 10], [10, 12, 14]), ([10, 15], [10, 15]), ([16, 14], [16]), ([17, 17], [17]), ([17, 18], [17, 18]), ([19, 18, 0, 1, 2, 3, 4, 5, 6, 7, 8, 9, 10, 11, 12, 13, 14, 15, 16, 17, 18, 19], [19])])
def credenzalaw23_TellBytes.B8 : List Nat := [0, 1, 0, 4, 12, 31, 63, 127, 255, 511, 1023, 2047, 4095, 2047, 16383, 32767, 65535, 131071, 262143, 524287, 1048575]
theorem credenzalaw23_TellBytes.tab8 : rtab .any (opsOf Try.f9 8) = credenzalaw23_TellBytes.T8 := by kernel_rfl
theorem credenzalaw23_TellBytes.bits8 : waitsOk credenzalaw23_TellBytes.T8.2 credenzalaw23_TellBytes.B8 = true := by kernel_rfl
set_option maxHeartbeats 8000000 in
set_option maxRecDepth 100000 in
theorem credenzalaw23_TellBytes.calls (k : Nat) (a0_0 : Int) (a0_1 : Int) (a0_2 : Int) (a0_3 : Int) (a0_4 : Int) (r : Bool) (w : World) (h : credenzalaw23_TellBytes.f k a0_0 a0_1 a0_2 a0_3 a0_4 = some r) :
    Calls Try.prog 9 #[.agg #[.int .i64 a0_0, .int .u32 a0_1, .int .i64 a0_2, .int .i64 a0_3, .int .i64 a0_4]] w fun e w' => e = .returned (.bool r) ∧ Below w.heap.size w w' := by
  have hu49 := Try.underlying49
  have HB := Aside0.mk (Below.refl w.heap.size w)
  have H : ((tell_Bytes.f k a0_0 a0_1 a0_2 a0_3 a0_4).bind fun bt218 => ((credenzalaw23_ref.f a0_0 a0_1 a0_2 a0_3 a0_4).bind fun bt222 => ((credenzaref23_Right.f k bt222.1 bt222.2.1 bt222.2.2.1 bt222.2.2.2.1 bt222.2.2.2.2).bind fun t227 => ((tell_Right.f a0_0 a0_1 a0_2 a0_3 a0_4).bind fun t228 => (if t228 = t227 then (credenzalaw23_TellBytes.j0 k bt218.1 t227 (bt218.2 != t227) a0_0 a0_1 a0_2 a0_3 a0_4) else (credenzalaw23_TellBytes.j0 k bt218.1 t227 true a0_0 a0_1 a0_2 a0_3 a0_4)))))) = some r := h
  clear h
  replace H := Option.bind_eq_some_iff.mp H
  obtain ⟨⟨t218, t221⟩, A20, H⟩ := H
  replace H : ((credenzalaw23_ref.f a0_0 a0_1 a0_2 a0_3 a0_4).bind fun bt222 => ((credenzaref23_Right.f k bt222.1 bt222.2.1 bt222.2.2.1 bt222.2.2.2.1 bt222.2.2.2.2).bind fun t227 => ((tell_Right.f a0_0 a0_1 a0_2 a0_3 a0_4).bind fun t228 => (if t228 = t227 then (credenzalaw23_TellBytes.j0 k t218 t227 (t221 != t227) a0_0 a0_1 a0_2 a0_3 a0_4) else (credenzalaw23_TellBytes.j0 k t218 t227 true a0_0 a0_1 a0_2 a0_3 a0_4))))) = some r := H
  have A2 := Aside0.mk A20
  clear A20
  replace H := Option.bind_eq_some_iff.mp H
  obtain ⟨⟨t222, t223, t224, t225, t226⟩, A30, H⟩ := H
  replace H : ((credenzaref23_Right.f k t222 t223 t224 t225 t226).bind fun t227 => ((tell_Right.f a0_0 a0_1 a0_2 a0_3 a0_4).bind fun t228 => (if t228 = t227 then (credenzalaw23_TellBytes.j0 k t218 t227 (t221 != t227) a0_0 a0_1 a0_2 a0_3 a0_4) else (credenzalaw23_TellBytes.j0 k t218 t227 true a0_0 a0_1 a0_2 a0_3 a0_4)))) = some r := H
  have A3 := Aside0.mk A30
  clear A30
  replace H := Option.bind_eq_some_iff.mp H
  obtain ⟨t227, A40, H⟩ := H
  replace H : ((tell_Right.f a0_0 a0_1 a0_2 a0_3 a0_4).bind fun t228 => (if t228 = t227 then (credenzalaw23_TellBytes.j0 k t218 t227 (t221 != t227) a0_0 a0_1 a0_2 a0_3 a0_4) else (credenzalaw23_TellBytes.j0 k t218 t227 true a0_0 a0_1 a0_2 a0_3 a0_4))) = some r := H
  have A4 := Aside0.mk A40
  clear A40
  have HC5 := Aside0.mk H
  clear H
  go_enter Try.func9, Try.ntmps9
  go_upto_region 3 with (first | ((with_reducible refine gate_dst (N := 1) rfl ?_); refine box_event ?hg (N := 1) ?hd (cs := #[.int .i64 a0_0, .int .u32 a0_1, .int .i64 a0_2, .int .i64 a0_3, .int .i64 a0_4]) (t := 49) ?hr ?_; (case hd => rfl); (case hg => rfl); (case hr => first | (go_simp; done) | (go_simp; rfl)); intro gb217 hg w6 hbox hb; have n0_ := Aside0.mk (below_step (by repeat (first | (with_reducible first | exact HB.out | apply below_alloc | apply pw_below_drewN | apply below_drew1) | exact HB.out)) hb); have n1_ := Aside0.mk (hbox); have n2_ := Aside0.mk ((by rw [hg]; exact (below_size (by repeat (first | (with_reducible first | exact HB.out | apply below_alloc | apply pw_below_drewN | apply below_drew1) | exact HB.out))) : w.heap.size ≤ gb217)); have n3_ := Aside0.mk ((by rw [hg]; exact (below_size (by repeat (first | (with_reducible first | exact HB.out | apply below_alloc | apply pw_below_drewN | apply below_drew1) | exact HB.out))) : w.heap.size ≤ gb217)); clear HB; have HB := n0_; have BK217 := n1_; have GW217 := n2_; have GE217 := n3_; clear n0_ n1_ n2_ n3_; clear hb hbox hg; have hcz7_0 : w6.cell? ⟨gb217, 0, none⟩ = some (.int .i64 a0_0) := (blk_cell BK217.out 0).trans rfl; have hcz7_1 : w6.cell? ⟨gb217, 1, none⟩ = some (.int .u32 a0_1) := (blk_cell BK217.out 1).trans rfl; have hcz7_2 : w6.cell? ⟨gb217, 2, none⟩ = some (.int .i64 a0_2) := (blk_cell BK217.out 2).trans rfl; have hcz7_3 : w6.cell? ⟨gb217, 3, none⟩ = some (.int .i64 a0_3) := (blk_cell BK217.out 3).trans rfl; have hcz7_4 : w6.cell? ⟨gb217, 4, none⟩ = some (.int .i64 a0_4) := (blk_cell BK217.out 4).trans rfl; have hfz7_0 := blk_frozen BK217.out 0; have hfz7_1 := blk_frozen BK217.out 1; have hfz7_2 := blk_frozen BK217.out 2; have hfz7_3 := blk_frozen BK217.out 3; have hfz7_4 := blk_frozen BK217.out 4) | ((with_reducible refine gate_callee (f := 28) rfl ?_); refine goesL_ (some 10) rfl rfl Try.func28 (by kernel_rfl) rfl #[.agg #[.int .i64 a0_0, .int .u32 a0_1, .int .i64 a0_2, .int .i64 a0_3, .int .i64 a0_4]] rfl (by (try simp only [List.map_toArray, List.map_cons, List.map_nil]); first | done | rfl | (simp only [List.length_drop, List.length_take]; rfl)) ?_; (with_reducible refine (tell_Bytes.calls k a0_0 a0_1 a0_2 a0_3 a0_4 t218 t221 _ A2.out).mono ?_); rintro e w8 ⟨v219, rfl, ho0, hb⟩; refine ⟨_, rfl, ?_⟩; have n0_ := Aside0.mk (Kd.R_lower ho0 (below_size (by repeat (first | (with_reducible first | exact HB.out | apply below_alloc | apply pw_below_drewN | apply below_drew1 | refine below_set ?_ GE217.out) | exact HB.out)))); have n1_ := Aside0.mk (blk_below (g := gb217) (o := .cells #[.int .i64 a0_0, .int .u32 a0_1, .int .i64 a0_2, .int .i64 a0_3, .int .i64 a0_4] 49 (0, 0)) (by (with_reducible repeat (first | refine blk_drewN ?_ _ | refine blk_drew ?_ | refine blk_alloc ?_ _)); exact BK217.out) hb); have n2_ := Aside0.mk (below_step (by repeat (first | (with_reducible first | exact HB.out | apply below_alloc | apply pw_below_drewN | apply below_drew1 | refine below_set ?_ GE217.out) | exact HB.out)) hb); clear BK217; clear HB; have HO220 := n0_; have BK217 := n1_; have HB := n2_; clear n0_ n1_ n2_; (try clear hb); (try clear hb2); (try clear hk); (try clear hi); (try clear ho0); have hcz9_0 : w8.cell? ⟨gb217, 0, none⟩ = some (.int .i64 a0_0) := (blk_cell BK217.out 0).trans rfl; have hcz9_1 : w8.cell? ⟨gb217, 1, none⟩ = some (.int .u32 a0_1) := (blk_cell BK217.out 1).trans rfl; have hcz9_2 : w8.cell? ⟨gb217, 2, none⟩ = some (.int .i64 a0_2) := (blk_cell BK217.out 2).trans rfl; have hcz9_3 : w8.cell? ⟨gb217, 3, none⟩ = some (.int .i64 a0_3) := (blk_cell BK217.out 3).trans rfl; have hcz9_4 : w8.cell? ⟨gb217, 4, none⟩ = some (.int .i64 a0_4) := (blk_cell BK217.out 4).trans rfl; have hfz9_0 := blk_frozen BK217.out 0; have hfz9_1 := blk_frozen BK217.out 1; have hfz9_2 := blk_frozen BK217.out 2; have hfz9_3 := blk_frozen BK217.out 3; have hfz9_4 := blk_frozen BK217.out 4) | ((with_reducible refine gate_callee (f := 30) rfl ?_); refine goesL_ (some 14) rfl rfl Try.func30 (by kernel_rfl) rfl #[.agg #[.int .i64 a0_0, .int .u32 a0_1, .int .i64 a0_2, .int .i64 a0_3, .int .i64 a0_4]] rfl (by (try simp only [List.map_toArray, List.map_cons, List.map_nil]); first | done | rfl | (simp only [List.length_drop, List.length_take]; rfl)) ?_; (with_reducible refine (credenzalaw23_ref.calls a0_0 a0_1 a0_2 a0_3 a0_4 t222 t223 t224 t225 t226 _ A3.out).mono ?_); rintro e w10 ⟨rfl, hb⟩; refine ⟨_, rfl, ?_⟩; have n0_ := Aside0.mk (Kd.R_below (by (with_reducible repeat (first | apply Kd.R_alloc | apply Kd.R_drewN | apply Kd.R_drew)); exact HO220.out) hb); have n1_ := Aside0.mk (blk_below (g := gb217) (o := .cells #[.int .i64 a0_0, .int .u32 a0_1, .int .i64 a0_2, .int .i64 a0_3, .int .i64 a0_4] 49 (0, 0)) (by (with_reducible repeat (first | refine blk_drewN ?_ _ | refine blk_drew ?_ | refine blk_alloc ?_ _)); exact BK217.out) hb); have n2_ := Aside0.mk (below_step (by repeat (first | (with_reducible first | exact HB.out | apply below_alloc | apply pw_below_drewN | apply below_drew1 | refine below_set ?_ GE217.out) | exact HB.out)) hb); clear HO220; clear BK217; clear HB; have HO220 := n0_; have BK217 := n1_; have HB := n2_; clear n0_ n1_ n2_; (try clear hb); (try clear hb2); (try clear hk); (try clear hi)) | ((with_reducible refine gate_callee (f := 29) rfl ?_); refine goesL_ (some 15) rfl rfl Try.func29 (by kernel_rfl) rfl #[.agg #[.int .i64 t222, .int .u32 t223, .int .i64 t224, .int .i64 t225, .int .i64 t226]] rfl (by (try simp only [List.map_toArray, List.map_cons, List.map_nil]); first | done | rfl | (simp only [List.length_drop, List.length_take]; rfl)) ?_; (with_reducible refine (credenzaref23_Right.calls k t222 t223 t224 t225 t226 t227 _ A4.out).mono ?_); rintro e w11 ⟨rfl, hb⟩; refine ⟨_, rfl, ?_⟩; have n0_ := Aside0.mk (Kd.R_below (by (with_reducible repeat (first | apply Kd.R_alloc | apply Kd.R_drewN | apply Kd.R_drew)); exact HO220.out) hb); have n1_ := Aside0.mk (blk_below (g := gb217) (o := .cells #[.int .i64 a0_0, .int .u32 a0_1, .int .i64 a0_2, .int .i64 a0_3, .int .i64 a0_4] 49 (0, 0)) (by (with_reducible repeat (first | refine blk_drewN ?_ _ | refine blk_drew ?_ | refine blk_alloc ?_ _)); exact BK217.out) hb); have n2_ := Aside0.mk (below_step (by repeat (first | (with_reducible first | exact HB.out | apply below_alloc | apply pw_below_drewN | apply below_drew1 | refine below_set ?_ GE217.out) | exact HB.out)) hb); clear HO220; clear BK217; clear HB; have HO220 := n0_; have BK217 := n1_; have HB := n2_; clear n0_ n1_ n2_; (try clear hb); (try clear hb2); (try clear hk); (try clear hi)))
  (try simp only [Act.put, List.setIfInBounds_toArray, List.set_cons_zero, List.set_cons_succ])
  go_cut [24] (fun v24 wc => ∃ (kq : Nat) (x24_4 : Bool), v24 = .bool x24_4 ∧ Aside0 (credenzalaw23_TellBytes.j0 kq t218 t227 x24_4 a0_0 a0_1 a0_2 a0_3 a0_4 = some r) ∧ Aside0 (kq ≤ k) ∧ Aside0 (Kd.R (Kd.int .u8) 5 wc w.heap.size (fun _ => True) v219 t218) ∧ Aside0 (wc.heap[gb217]? = some (.cells #[.int .i64 a0_0, .int .u32 a0_1, .int .i64 a0_2, .int .i64 a0_3, .int .i64 a0_4] 49 (0, 0))) ∧ Aside0 (Below w.heap.size w wc))
  case first =>
    have H := HC5.out
    clear HC5
    replace H := Option.bind_eq_some_iff.mp H
    obtain ⟨t228, A120, H⟩ := H
    replace H : (if t228 = t227 then (credenzalaw23_TellBytes.j0 k t218 t227 (t221 != t227) a0_0 a0_1 a0_2 a0_3 a0_4) else (credenzalaw23_TellBytes.j0 k t218 t227 true a0_0 a0_1 a0_2 a0_3 a0_4)) = some r := H
    have A12 := Aside0.mk A120
    clear A120
    by_cases c13 : t228 = t227
    · rw [if_pos c13] at H
      have c13b0 : (t228 == t227) = true := beq_iff_eq.mpr c13
      have c13b1 : (t228 != t227) = false := bne_eq_false_iff_eq.mpr c13
      clear c13
      (first | rw [c13b0] | (simp only [i64_w, i32_w]; rw [c13b0]) | skip)
      have H' := Aside0.mk H
      clear H
      have hcz14_0 : w11.cell? ⟨gb217, 0, none⟩ = some (.int .i64 a0_0) := (blk_cell BK217.out 0).trans rfl
      have hcz14_1 : w11.cell? ⟨gb217, 1, none⟩ = some (.int .u32 a0_1) := (blk_cell BK217.out 1).trans rfl
      have hcz14_2 : w11.cell? ⟨gb217, 2, none⟩ = some (.int .i64 a0_2) := (blk_cell BK217.out 2).trans rfl
      have hcz14_3 : w11.cell? ⟨gb217, 3, none⟩ = some (.int .i64 a0_3) := (blk_cell BK217.out 3).trans rfl
      have hcz14_4 : w11.cell? ⟨gb217, 4, none⟩ = some (.int .i64 a0_4) := (blk_cell BK217.out 4).trans rfl
      have hfz14_0 := blk_frozen BK217.out 0
      have hfz14_1 := blk_frozen BK217.out 1
      have hfz14_2 := blk_frozen BK217.out 2
      have hfz14_3 := blk_frozen BK217.out 3
      have hfz14_4 := blk_frozen BK217.out 4
      go_wp2_with (first | ((with_reducible refine gate_callee (f := 31) rfl ?_); refine goesL_ (some 17) rfl rfl Try.func31 (by kernel_rfl) rfl #[.agg #[.int .i64 a0_0, .int .u32 a0_1, .int .i64 a0_2, .int .i64 a0_3, .int .i64 a0_4]] rfl (by (try simp only [List.map_toArray, List.map_cons, List.map_nil]); first | done | rfl | (simp only [List.length_drop, List.length_take]; rfl)) ?_; (with_reducible refine (tell_Right.calls a0_0 a0_1 a0_2 a0_3 a0_4 t228 _ A12.out).mono ?_); rintro e w15 ⟨rfl, hb⟩; refine ⟨_, rfl, ?_⟩; have n0_ := Aside0.mk (Kd.R_below (by (with_reducible repeat (first | apply Kd.R_alloc | apply Kd.R_drewN | apply Kd.R_drew)); exact HO220.out) hb); have n1_ := Aside0.mk (blk_below (g := gb217) (o := .cells #[.int .i64 a0_0, .int .u32 a0_1, .int .i64 a0_2, .int .i64 a0_3, .int .i64 a0_4] 49 (0, 0)) (by (with_reducible repeat (first | refine blk_drewN ?_ _ | refine blk_drew ?_ | refine blk_alloc ?_ _)); exact BK217.out) hb); have n2_ := Aside0.mk (below_step (by repeat (first | (with_reducible first | exact HB.out | apply below_alloc | apply pw_below_drewN | apply below_drew1 | refine below_set ?_ GE217.out) | exact HB.out)) hb); clear HO220; clear BK217; clear HB; have HO220 := n0_; have BK217 := n1_; have HB := n2_; clear n0_ n1_ n2_; (try clear hb); (try clear hb2); (try clear hk); (try clear hi)))
      go_meet
      case rel => exact ⟨_, ((t221 != t227)), (by first | rfl | (simp; done) | (simp [*]; done)), H', ⟨by first | omega | exact Nat.le_refl _⟩, ⟨by (with_reducible repeat (first | apply Kd.R_alloc | apply Kd.R_drewN | apply Kd.R_drew)); exact HO220.out⟩, ⟨by (with_reducible repeat (first | refine blk_drewN ?_ _ | refine blk_drew ?_ | refine blk_alloc ?_ _)); exact BK217.out⟩, ⟨by repeat (first | (with_reducible first | exact HB.out | apply below_alloc | apply pw_below_drewN | apply below_drew1 | refine below_set ?_ GE217.out) | exact HB.out)⟩⟩
    · rw [if_neg c13] at H
      have c13b0 : (t228 == t227) = false := beq_eq_false_iff_ne.mpr c13
      have c13b1 : (t228 != t227) = true := bne_iff_ne.mpr c13
      (first | rw [c13b0] | (simp only [i64_w, i32_w]; rw [c13b0]) | skip)
      have H' := Aside0.mk H
      clear H
      have hcz16_0 : w11.cell? ⟨gb217, 0, none⟩ = some (.int .i64 a0_0) := (blk_cell BK217.out 0).trans rfl
      have hcz16_1 : w11.cell? ⟨gb217, 1, none⟩ = some (.int .u32 a0_1) := (blk_cell BK217.out 1).trans rfl
      have hcz16_2 : w11.cell? ⟨gb217, 2, none⟩ = some (.int .i64 a0_2) := (blk_cell BK217.out 2).trans rfl
      have hcz16_3 : w11.cell? ⟨gb217, 3, none⟩ = some (.int .i64 a0_3) := (blk_cell BK217.out 3).trans rfl
      have hcz16_4 : w11.cell? ⟨gb217, 4, none⟩ = some (.int .i64 a0_4) := (blk_cell BK217.out 4).trans rfl
      have hfz16_0 := blk_frozen BK217.out 0
      have hfz16_1 := blk_frozen BK217.out 1
      have hfz16_2 := blk_frozen BK217.out 2
      have hfz16_3 := blk_frozen BK217.out 3
      have hfz16_4 := blk_frozen BK217.out 4
      go_wp2_with (first | ((with_reducible refine gate_callee (f := 31) rfl ?_); refine goesL_ (some 17) rfl rfl Try.func31 (by kernel_rfl) rfl #[.agg #[.int .i64 a0_0, .int .u32 a0_1, .int .i64 a0_2, .int .i64 a0_3, .int .i64 a0_4]] rfl (by (try simp only [List.map_toArray, List.map_cons, List.map_nil]); first | done | rfl | (simp only [List.length_drop, List.length_take]; rfl)) ?_; (with_reducible refine (tell_Right.calls a0_0 a0_1 a0_2 a0_3 a0_4 t228 _ A12.out).mono ?_); rintro e w17 ⟨rfl, hb⟩; refine ⟨_, rfl, ?_⟩; have n0_ := Aside0.mk (Kd.R_below (by (with_reducible repeat (first | apply Kd.R_alloc | apply Kd.R_drewN | apply Kd.R_drew)); exact HO220.out) hb); have n1_ := Aside0.mk (blk_below (g := gb217) (o := .cells #[.int .i64 a0_0, .int .u32 a0_1, .int .i64 a0_2, .int .i64 a0_3, .int .i64 a0_4] 49 (0, 0)) (by (with_reducible repeat (first | refine blk_drewN ?_ _ | refine blk_drew ?_ | refine blk_alloc ?_ _)); exact BK217.out) hb); have n2_ := Aside0.mk (below_step (by repeat (first | (with_reducible first | exact HB.out | apply below_alloc | apply pw_below_drewN | apply below_drew1 | refine below_set ?_ GE217.out) | exact HB.out)) hb); clear HO220; clear BK217; clear HB; have HO220 := n0_; have BK217 := n1_; have HB := n2_; clear n0_ n1_ n2_; (try clear hb); (try clear hb2); (try clear hk); (try clear hi)))
      go_meet
      case rel => exact ⟨_, (true), (by first | rfl | (simp; done) | (simp [*]; done)), H', ⟨by first | omega | exact Nat.le_refl _⟩, ⟨by (with_reducible repeat (first | apply Kd.R_alloc | apply Kd.R_drewN | apply Kd.R_drew)); exact HO220.out⟩, ⟨by (with_reducible repeat (first | refine blk_drewN ?_ _ | refine blk_drew ?_ | refine blk_alloc ?_ _)); exact BK217.out⟩, ⟨by repeat (first | (with_reducible first | exact HB.out | apply below_alloc | apply pw_below_drewN | apply below_drew1 | refine below_set ?_ GE217.out) | exact HB.out)⟩⟩
  case rest =>
    clear HC5
    try clear c1
    try clear c2
    try clear p2
    try clear c3
    try clear c9
    try clear c13
    try clear c13b0
    try clear c13b1
    try clear hcz14_0
    try clear hcz14_1
    try clear hcz14_2
    try clear hcz14_3
    try clear hcz14_4
    try clear hcz16_0
    try clear hcz16_1
    try clear hcz16_2
    try clear hcz16_3
    try clear hcz16_4
    try clear hcz7_0
    try clear hcz7_1
    try clear hcz7_2
    try clear hcz7_3
    try clear hcz7_4
    try clear hcz9_0
    try clear hcz9_1
    try clear hcz9_2
    try clear hcz9_3
    try clear hcz9_4
    try clear hfz14_0
    try clear hfz14_1
    try clear hfz14_2
    try clear hfz14_3
    try clear hfz14_4
    try clear hfz16_0
    try clear hfz16_1
    try clear hfz16_2
    try clear hfz16_3
    try clear hfz16_4
    try clear hfz7_0
    try clear hfz7_1
    try clear hfz7_2
    try clear hfz7_3
    try clear hfz7_4
    try clear hfz9_0
    try clear hfz9_1
    try clear hfz9_2
    try clear hfz9_3
    try clear hfz9_4
    obtain ⟨kq, x24_4, rfl, HA, HJ4, HO_3, BK217, HB⟩ := hcut
    cases kq with
    | zero => exact absurd HA.out (by simp [credenzalaw23_TellBytes.j0])
    | succ kj4 =>
      have H := HA.out
      clear HA
      simp only [credenzalaw23_TellBytes.j0] at H
      by_cases c18 : x24_4 = true
      · subst c18
        have H1 : (some false) = some r := by rw [if_pos rfl] at H; exact H
        clear H
        have H := H1
        clear H1
        obtain rfl := Option.some.inj H
        go_wp2
        go_ret
        exact ⟨by first | rfl | (simp [errW_none, errW_some] <;> rfl) | (simp [*, errW_none, errW_some] <;> rfl), by repeat (first | (with_reducible first | exact HB.out | apply below_alloc | apply pw_below_drewN | apply below_drew1 | refine below_set ?_ GE217.out) | exact HB.out)⟩
      · replace c18 := Bool.eq_false_iff.mpr c18
        subst c18
        have H1 : (if t227 = 0 then ((tell_Parse.f kj4 t218).bind fun bt230 => ((credenzalaw23_ref.f a0_0 a0_1 a0_2 a0_3 a0_4).bind fun bt237 => ((credenzaref23_Bytes.f kj4 bt237.1 bt237.2.1 bt237.2.2.1 bt237.2.2.2.1 bt237.2.2.2.2).bind fun t242 => (if (strOfNums t218).toList = t242.toList then (if bt230.2.2.2.2.2 = 0 then ((credenzalaw23_ref.f bt230.1 bt230.2.1 bt230.2.2.1 bt230.2.2.2.1 bt230.2.2.2.2.1).bind fun bt243 => ((credenzalaw23_ref.f a0_0 a0_1 a0_2 a0_3 a0_4).bind fun bt248 => (if (bt243.1 == bt248.1 && (bt243.2.1 == bt248.2.1 && (bt243.2.2.1 == bt248.2.2.1 && (bt243.2.2.2.1 == bt248.2.2.2.1 && (bt243.2.2.2.2 == bt248.2.2.2.2))))) = true then ((credenzalaw23_awake.f kj4).bind fun t253 => (some t253)) else (some false)))) else (some false)) else (some false))))) else (if (t218.length : Int) = 0 then ((credenzalaw23_awake.f kj4).bind fun t229 => (some t229)) else (some false))) = some r := by rw [if_neg (show ¬ (false = true) by decide)] at H; exact H
        clear H
        have H := H1
        clear H1
        by_cases c19 : t227 = 0
        · rw [if_pos c19] at H
          have c19b0 : (t227 == 0) = true := beq_iff_eq.mpr c19
          have c19b1 : (t227 != 0) = false := bne_eq_false_iff_eq.mpr c19
          clear c19
          replace H := Option.bind_eq_some_iff.mp H
          obtain ⟨⟨t230, t231, t232, t233, t234, t235⟩, A200, H⟩ := H
          replace H : ((credenzalaw23_ref.f a0_0 a0_1 a0_2 a0_3 a0_4).bind fun bt237 => ((credenzaref23_Bytes.f kj4 bt237.1 bt237.2.1 bt237.2.2.1 bt237.2.2.2.1 bt237.2.2.2.2).bind fun t242 => (if (strOfNums t218).toList = t242.toList then (if t235 = 0 then ((credenzalaw23_ref.f t230 t231 t232 t233 t234).bind fun bt243 => ((credenzalaw23_ref.f a0_0 a0_1 a0_2 a0_3 a0_4).bind fun bt248 => (if (bt243.1 == bt248.1 && (bt243.2.1 == bt248.2.1 && (bt243.2.2.1 == bt248.2.2.1 && (bt243.2.2.2.1 == bt248.2.2.2.1 && (bt243.2.2.2.2 == bt248.2.2.2.2))))) = true then ((credenzalaw23_awake.f kj4).bind fun t253 => (some t253)) else (some false)))) else (some false)) else (some false)))) = some r := H
          have A20 := Aside0.mk A200
          clear A200
          replace H := Option.bind_eq_some_iff.mp H
          obtain ⟨⟨t237, t238, t239, t240, t241⟩, A210, H⟩ := H
          replace H : ((credenzaref23_Bytes.f kj4 t237 t238 t239 t240 t241).bind fun t242 => (if (strOfNums t218).toList = t242.toList then (if t235 = 0 then ((credenzalaw23_ref.f t230 t231 t232 t233 t234).bind fun bt243 => ((credenzalaw23_ref.f a0_0 a0_1 a0_2 a0_3 a0_4).bind fun bt248 => (if (bt243.1 == bt248.1 && (bt243.2.1 == bt248.2.1 && (bt243.2.2.1 == bt248.2.2.1 && (bt243.2.2.2.1 == bt248.2.2.2.1 && (bt243.2.2.2.2 == bt248.2.2.2.2))))) = true then ((credenzalaw23_awake.f kj4).bind fun t253 => (some t253)) else (some false)))) else (some false)) else (some false))) = some r := H
          have A21 := Aside0.mk A210
          clear A210
          replace H := Option.bind_eq_some_iff.mp H
          obtain ⟨t242, A220, H⟩ := H
          replace H : (if (strOfNums t218).toList = t242.toList then (if t235 = 0 then ((credenzalaw23_ref.f t230 t231 t232 t233 t234).bind fun bt243 => ((credenzalaw23_ref.f a0_0 a0_1 a0_2 a0_3 a0_4).bind fun bt248 => (if (bt243.1 == bt248.1 && (bt243.2.1 == bt248.2.1 && (bt243.2.2.1 == bt248.2.2.1 && (bt243.2.2.2.1 == bt248.2.2.2.1 && (bt243.2.2.2.2 == bt248.2.2.2.2))))) = true then ((credenzalaw23_awake.f kj4).bind fun t253 => (some t253)) else (some false)))) else (some false)) else (some false)) = some r := H
          have A22 := Aside0.mk A220
          clear A220
          by_cases c23 : (strOfNums t218).toList = t242.toList
          · rw [if_pos c23] at H
            have c23b0 : ((strOfNums t218).toList == t242.toList) = true := beq_iff_eq.mpr c23
            have c23b1 : ((strOfNums t218).toList != t242.toList) = false := bne_eq_false_iff_eq.mpr c23
            clear c23
            by_cases c24 : t235 = 0
            · rw [if_pos c24] at H
              have c24b0 : (t235 == 0) = true := beq_iff_eq.mpr c24
              have c24b1 : (t235 != 0) = false := bne_eq_false_iff_eq.mpr c24
              clear c24
              replace H := Option.bind_eq_some_iff.mp H
              obtain ⟨⟨t243, t244, t245, t246, t247⟩, A250, H⟩ := H
              replace H : ((credenzalaw23_ref.f a0_0 a0_1 a0_2 a0_3 a0_4).bind fun bt248 => (if (t243 == bt248.1 && (t244 == bt248.2.1 && (t245 == bt248.2.2.1 && (t246 == bt248.2.2.2.1 && (t247 == bt248.2.2.2.2))))) = true then ((credenzalaw23_awake.f kj4).bind fun t253 => (some t253)) else (some false))) = some r := H
              have A25 := Aside0.mk A250
              clear A250
              replace H := Option.bind_eq_some_iff.mp H
              obtain ⟨⟨t248, t249, t250, t251, t252⟩, A260, H⟩ := H
              replace H : (if (t243 == t248 && (t244 == t249 && (t245 == t250 && (t246 == t251 && (t247 == t252))))) = true then ((credenzalaw23_awake.f kj4).bind fun t253 => (some t253)) else (some false)) = some r := H
              have A26 := Aside0.mk A260
              clear A260
              by_cases c27 : (t243 == t248 && (t244 == t249 && (t245 == t250 && (t246 == t251 && (t247 == t252))))) = true
              · rw [if_pos c27] at H
                have c27b0 : (t243 == t248 && (t244 == t249 && (t245 == t250 && (t246 == t251 && (t247 == t252))))) = true := c27
                (try (have c27b1 : decide (t243 = t248 && (t244 == t249 && (t245 == t250 && (t246 == t251 && (t247 == t252))))) = true := by simpa using c27))
                (try (have c27b2 : (t243 == t248 && (t244 == t249 && (t245 == t250 && (t246 == t251 && (t247 == t252))))) = true := by simpa using c27))
                clear c27
                replace H := Option.bind_eq_some_iff.mp H
                obtain ⟨t253, A280, H⟩ := H
                replace H : (some t253) = some r := H
                have A28 := Aside0.mk A280
                clear A280
                obtain rfl := Option.some.inj H
                obtain ⟨Ao29, co29, eo29⟩ := Kd.R_slice HO_3.out
                subst eo29
                try go_wp2_with (first | ((with_reducible refine gate_callee (f := 33) rfl ?_); refine goesL_ (some 35) rfl rfl Try.func33 (by kernel_rfl) rfl #[.slice Ao29 t218.length co29] rfl (by (try simp only [List.map_toArray, List.map_cons, List.map_nil]); first | done | rfl | (simp only [List.length_drop, List.length_take]; rfl)) ?_; (with_reducible refine (tell_Parse.calls kj4 _ _ t218 t230 t231 t232 t233 t234 t235 _ ?side1 ?side2 A20.out).mono ?_); (case side1 => repeat (first | exact (Kd.R_reads' HO_3.out).2.2 | (with_reducible refine Kd.C_alloc ?_ _) | (with_reducible refine Kd.C_drewN ?_ _) | (with_reducible refine Kd.C_drew ?_))); (case side2 => exact (Kd.R_reads' HO_3.out).2.1); rintro e w30 ⟨rfl, hb⟩; refine ⟨_, rfl, ?_⟩; have n0_ := Aside0.mk (Kd.R_below (by (with_reducible repeat (first | apply Kd.R_alloc | apply Kd.R_drewN | apply Kd.R_drew)); exact HO_3.out) hb); have n1_ := Aside0.mk (blk_below (g := gb217) (o := .cells #[.int .i64 a0_0, .int .u32 a0_1, .int .i64 a0_2, .int .i64 a0_3, .int .i64 a0_4] 49 (0, 0)) (by (with_reducible repeat (first | refine blk_drewN ?_ _ | refine blk_drew ?_ | refine blk_alloc ?_ _)); exact BK217.out) hb); have n2_ := Aside0.mk (below_step (by repeat (first | (with_reducible first | exact HB.out | apply below_alloc | apply pw_below_drewN | apply below_drew1 | refine below_set ?_ GE217.out) | exact HB.out)) hb); clear HO_3; clear BK217; clear HB; have HO_3 := n0_; have BK217 := n1_; have HB := n2_; clear n0_ n1_ n2_; (try clear hb); (try clear hb2); (try clear hk); (try clear hi)) | ((with_reducible refine gate_dst (N := 6) rfl ?_); refine box_event ?hg (N := 6) ?hd (cs := #[.int .i64 0, .int .u32 0, .int .i64 0, .int .i64 0, .int .i64 0]) (t := 49) ?hr ?_; (case hd => rfl); (case hg => rfl); (case hr => first | (go_simp; done) | (go_simp; rfl)); intro gb236 hg w31 hbox hb; have n0_ := Aside0.mk (Kd.R_below (by (with_reducible repeat (first | apply Kd.R_alloc | apply Kd.R_drewN | apply Kd.R_drew)); exact HO_3.out) hb); have n1_ := Aside0.mk (blk_below (g := gb217) (o := .cells #[.int .i64 a0_0, .int .u32 a0_1, .int .i64 a0_2, .int .i64 a0_3, .int .i64 a0_4] 49 (0, 0)) (by (with_reducible repeat (first | refine blk_drewN ?_ _ | refine blk_drew ?_ | refine blk_alloc ?_ _)); exact BK217.out) hb); have n2_ := Aside0.mk (below_step (by repeat (first | (with_reducible first | exact HB.out | apply below_alloc | apply pw_below_drewN | apply below_drew1 | refine below_set ?_ GE217.out) | exact HB.out)) hb); have n3_ := Aside0.mk (hbox); have n4_ := Aside0.mk ((by rw [hg]; exact (below_size (by repeat (first | (with_reducible first | exact HB.out | apply below_alloc | apply pw_below_drewN | apply below_drew1 | refine below_set ?_ GE217.out) | exact HB.out))) : w.heap.size ≤ gb236)); have n5_ := Aside0.mk ((by rw [hg]; exact (below_size (by repeat (first | (with_reducible first | exact HB.out | apply below_alloc | apply pw_below_drewN | apply below_drew1 | refine below_set ?_ GE217.out) | exact HB.out))) : w.heap.size ≤ gb236)); have n6_ := Aside0.mk ((by rw [hg]; exact Nat.ne_of_lt (blk_lt (g := gb217) (o := .cells #[.int .i64 a0_0, .int .u32 a0_1, .int .i64 a0_2, .int .i64 a0_3, .int .i64 a0_4] 49 (0, 0)) (by (with_reducible repeat (first | refine blk_drewN ?_ _ | refine blk_drew ?_ | refine blk_alloc ?_ _)); exact BK217.out)) : gb217 ≠ gb236)); have n7_ := Aside0.mk ((by rw [hg]; exact Nat.ne_of_gt (blk_lt (g := gb217) (o := .cells #[.int .i64 a0_0, .int .u32 a0_1, .int .i64 a0_2, .int .i64 a0_3, .int .i64 a0_4] 49 (0, 0)) (by (with_reducible repeat (first | refine blk_drewN ?_ _ | refine blk_drew ?_ | refine blk_alloc ?_ _)); exact BK217.out)) : gb236 ≠ gb217)); clear HO_3; clear BK217; clear HB; have HO_3 := n0_; have BK217 := n1_; have HB := n2_; have BK236 := n3_; have GW236 := n4_; have GE236 := n5_; have NB217_236 := n6_; have NB236_217 := n7_; clear n0_ n1_ n2_ n3_ n4_ n5_ n6_ n7_; clear hb hbox hg; have hnb32 := NB236_217.out; have hnc32 := NB217_236.out; have hcz33_0 : w31.cell? ⟨gb236, 0, none⟩ = some (.int .i64 0) := (blk_cell BK236.out 0).trans rfl; have hcz33_1 : w31.cell? ⟨gb236, 1, none⟩ = some (.int .u32 0) := (blk_cell BK236.out 1).trans rfl; have hcz33_2 : w31.cell? ⟨gb236, 2, none⟩ = some (.int .i64 0) := (blk_cell BK236.out 2).trans rfl; have hcz33_3 : w31.cell? ⟨gb236, 3, none⟩ = some (.int .i64 0) := (blk_cell BK236.out 3).trans rfl; have hcz33_4 : w31.cell? ⟨gb236, 4, none⟩ = some (.int .i64 0) := (blk_cell BK236.out 4).trans rfl; have hfz33_0 := blk_frozen BK236.out 0; have hfz33_1 := blk_frozen BK236.out 1; have hfz33_2 := blk_frozen BK236.out 2; have hfz33_3 := blk_frozen BK236.out 3; have hfz33_4 := blk_frozen BK236.out 4))
                have n0_ : Aside0 (Kd.R (Kd.int .u8) 5 (((((w31.setCell ⟨gb236, 0, none⟩ (.int .i64 t230)).setCell ⟨gb236, 1, none⟩ (.int .u32 t231)).setCell ⟨gb236, 2, none⟩ (.int .i64 t232)).setCell ⟨gb236, 3, none⟩ (.int .i64 t233)).setCell ⟨gb236, 4, none⟩ (.int .i64 t234)) w.heap.size (fun _ => True) (.slice Ao29 t218.length co29) t218) := ⟨by (with_reducible repeat (first | apply Kd.R_alloc | apply Kd.R_drewN | apply Kd.R_drew)); exact Kd.R_mono (Kd.R_far (p := ⟨gb236, 4, none⟩) (Kd.R_far (p := ⟨gb236, 3, none⟩) (Kd.R_far (p := ⟨gb236, 2, none⟩) (Kd.R_far (p := ⟨gb236, 1, none⟩) (Kd.R_far (p := ⟨gb236, 0, none⟩) (Kd.R_types HO_3.out BK236.out (by decide)) (fun _ hk => hk.2) (.int .i64 t230)) (fun _ hk => hk.2) (.int .u32 t231)) (fun _ hk => hk.2) (.int .i64 t232)) (fun _ hk => hk.2) (.int .i64 t233)) (fun _ hk => hk.2) (.int .i64 t234)) (fun _ hk => trivial)⟩
                have n1_ : Aside0 ((((((w31.setCell ⟨gb236, 0, none⟩ (.int .i64 t230)).setCell ⟨gb236, 1, none⟩ (.int .u32 t231)).setCell ⟨gb236, 2, none⟩ (.int .i64 t232)).setCell ⟨gb236, 3, none⟩ (.int .i64 t233)).setCell ⟨gb236, 4, none⟩ (.int .i64 t234)).heap[gb217]? = some (.cells #[.int .i64 a0_0, .int .u32 a0_1, .int .i64 a0_2, .int .i64 a0_3, .int .i64 a0_4] 49 (0, 0))) := ⟨by (with_reducible repeat (first | refine blk_drewN ?_ _ | refine blk_drew ?_ | refine blk_alloc ?_ _)); refine blk_far ?_ NB217_236.out _; (with_reducible repeat (first | refine blk_drewN ?_ _ | refine blk_drew ?_ | refine blk_alloc ?_ _)); refine blk_far ?_ NB217_236.out _; (with_reducible repeat (first | refine blk_drewN ?_ _ | refine blk_drew ?_ | refine blk_alloc ?_ _)); refine blk_far ?_ NB217_236.out _; (with_reducible repeat (first | refine blk_drewN ?_ _ | refine blk_drew ?_ | refine blk_alloc ?_ _)); refine blk_far ?_ NB217_236.out _; (with_reducible repeat (first | refine blk_drewN ?_ _ | refine blk_drew ?_ | refine blk_alloc ?_ _)); refine blk_far ?_ NB217_236.out _; (with_reducible repeat (first | refine blk_drewN ?_ _ | refine blk_drew ?_ | refine blk_alloc ?_ _)); exact BK217.out⟩
                have n2_ : Aside0 ((((((w31.setCell ⟨gb236, 0, none⟩ (.int .i64 t230)).setCell ⟨gb236, 1, none⟩ (.int .u32 t231)).setCell ⟨gb236, 2, none⟩ (.int .i64 t232)).setCell ⟨gb236, 3, none⟩ (.int .i64 t233)).setCell ⟨gb236, 4, none⟩ (.int .i64 t234)).heap[gb236]? = some (.cells #[.int .i64 t230, .int .u32 t231, .int .i64 t232, .int .i64 t233, .int .i64 t234] 49 (0, 0))) := ⟨by (with_reducible repeat (first | refine blk_drewN ?_ _ | refine blk_drew ?_ | refine blk_alloc ?_ _)); refine blk_put (cs := #[.int .i64 t230, .int .u32 t231, .int .i64 t232, .int .i64 t233, .int .i64 0]) ?_ 4 _ rfl; (with_reducible repeat (first | refine blk_drewN ?_ _ | refine blk_drew ?_ | refine blk_alloc ?_ _)); refine blk_put (cs := #[.int .i64 t230, .int .u32 t231, .int .i64 t232, .int .i64 0, .int .i64 0]) ?_ 3 _ rfl; (with_reducible repeat (first | refine blk_drewN ?_ _ | refine blk_drew ?_ | refine blk_alloc ?_ _)); refine blk_put (cs := #[.int .i64 t230, .int .u32 t231, .int .i64 0, .int .i64 0, .int .i64 0]) ?_ 2 _ rfl; (with_reducible repeat (first | refine blk_drewN ?_ _ | refine blk_drew ?_ | refine blk_alloc ?_ _)); refine blk_put (cs := #[.int .i64 t230, .int .u32 0, .int .i64 0, .int .i64 0, .int .i64 0]) ?_ 1 _ rfl; (with_reducible repeat (first | refine blk_drewN ?_ _ | refine blk_drew ?_ | refine blk_alloc ?_ _)); refine blk_put (cs := #[.int .i64 0, .int .u32 0, .int .i64 0, .int .i64 0, .int .i64 0]) ?_ 0 _ rfl; (with_reducible repeat (first | refine blk_drewN ?_ _ | refine blk_drew ?_ | refine blk_alloc ?_ _)); exact BK236.out⟩
                have n3_ : Aside0 (Below w.heap.size w (((((w31.setCell ⟨gb236, 0, none⟩ (.int .i64 t230)).setCell ⟨gb236, 1, none⟩ (.int .u32 t231)).setCell ⟨gb236, 2, none⟩ (.int .i64 t232)).setCell ⟨gb236, 3, none⟩ (.int .i64 t233)).setCell ⟨gb236, 4, none⟩ (.int .i64 t234))) := ⟨by repeat (first | (with_reducible first | exact HB.out | apply below_alloc | apply pw_below_drewN | apply below_drew1 | refine below_set ?_ GE217.out | refine below_set ?_ GE236.out) | exact HB.out)⟩
                (try clear HO_3)
                (try clear BK217)
                (try clear BK236)
                (try clear HB)
                generalize (((((w31.setCell ⟨gb236, 0, none⟩ (.int .i64 t230)).setCell ⟨gb236, 1, none⟩ (.int .u32 t231)).setCell ⟨gb236, 2, none⟩ (.int .i64 t232)).setCell ⟨gb236, 3, none⟩ (.int .i64 t233)).setCell ⟨gb236, 4, none⟩ (.int .i64 t234)) = w34 at n0_ n1_ n2_ n3_ ⊢
                have HO_3 := n0_
                have BK217 := n1_
                have BK236 := n2_
                have HB := n3_
                clear n0_ n1_ n2_ n3_
                have n0_ := Aside0.mk (Kd.R_drew HO_3.out)
                have n1_ := Aside0.mk (blk_drew BK217.out)
                have n2_ := Aside0.mk (blk_drew BK236.out)
                have n3_ := Aside0.mk (below_drew1 HB.out)
                clear HO_3
                clear BK217
                clear BK236
                clear HB
                have HO_3 := n0_
                have BK217 := n1_
                have BK236 := n2_
                have HB := n3_
                clear n0_ n1_ n2_ n3_
                refine start_ (n := 21) (S := fun w' => w'.cell? ⟨gb217, 0, none⟩ = some (.int .i64 a0_0) ∧ w'.cell? ⟨gb217, 1, none⟩ = some (.int .u32 a0_1) ∧ w'.cell? ⟨gb217, 2, none⟩ = some (.int .i64 a0_2) ∧ w'.cell? ⟨gb217, 3, none⟩ = some (.int .i64 a0_3) ∧ w'.cell? ⟨gb217, 4, none⟩ = some (.int .i64 a0_4) ∧ w'.cell? ⟨gb236, 0, none⟩ = some (.int .i64 t230) ∧ w'.cell? ⟨gb236, 1, none⟩ = some (.int .u32 t231) ∧ w'.cell? ⟨gb236, 2, none⟩ = some (.int .i64 t232) ∧ w'.cell? ⟨gb236, 3, none⟩ = some (.int .i64 t233) ∧ w'.cell? ⟨gb236, 4, none⟩ = some (.int .i64 t234) ∧ (convert 50 9 (.slice Ao29 t218.length co29)).run Try.prog w' = .ok (.string (strOfNums t218)) w') (ds := []) #[false, false, false, false, false, false, false, false, false, false, false, false, false, false, false, false, false, false, false, false, false] (by kernel_rfl) rfl rfl ⟨(blk_cell BK217.out 0).trans rfl, (blk_cell BK217.out 1).trans rfl, (blk_cell BK217.out 2).trans rfl, (blk_cell BK217.out 3).trans rfl, (blk_cell BK217.out 4).trans rfl, (blk_cell BK236.out 0).trans rfl, (blk_cell BK236.out 1).trans rfl, (blk_cell BK236.out 2).trans rfl, (blk_cell BK236.out 3).trans rfl, (blk_cell BK236.out 4).trans rfl, (by first | exact own_string (P := Try.prog) Try.underlying50 Try.underlying5 Try.underlying9 (Kd.own_of_R HO_3.out) | exact own_string (P := Try.prog) Try.underlying50 Try.underlying5 Try.underlying9 (Kd.own_of_R (Kd.R_drewN HO_3.out _)) | exact own_string (P := Try.prog) Try.underlying50 Try.underlying5 Try.underlying9 (Kd.own_of_R (Kd.R_drewN (Kd.R_drewN HO_3.out _) _)) | exact own_string (P := Try.prog) Try.underlying50 Try.underlying5 Try.underlying9 (Kd.own_of_R (Kd.R_drewN (Kd.R_drewN (Kd.R_drewN HO_3.out _) _) _)))⟩ (fun hHeld => ?_); refine with_tabW credenzalaw23_TellBytes.tab8 credenzalaw23_TellBytes.bits8 (fun HT_ HW_ => ?_)
                generalize w34.drew = w35 at HO_3 BK217 BK236 HB hHeld ⊢
                refine pure_ (i := 0) (N := some 38) (v := ?_) (a' := ?_) #[true, false, false, false, false, false, false, false, false, false, false, false, false, false, false, false, false, false, false, false, false] rfl rfl (any_of HT_.out (by kernel_rfl)) (fun _ _ _ h => h) (Or.inl ⟨by rfl, ?_⟩) ?_ ?_
                rotate_left
                · intro w'
                  go_simp
                  with_reducible rfl
                rotate_left
                · simp only [Act.put, List.setIfInBounds_toArray, List.set_cons_zero, List.set_cons_succ, i64_w, i32_w, IntKind.wrap_u32]
                  rfl
                refine take_ (i := 1) (N := some 39) (v := ?_) (a' := ?_) #[true, true, false, false, false, false, false, false, false, false, false, false, false, false, false, false, false, false, false, false, false] rfl rfl (take_ofW HT_.out HW_.out (by kernel_rfl)) (fun _ _ _ h => h) (Or.inl ⟨by rfl, ?_⟩) hHeld ?_ ?_
                rotate_left
                · rintro w' ⟨s0, s1, s2, s3, s4, s5, s6, s7, s8, s9, s10⟩
                  go_simp
                  with_reducible rfl
                rotate_left
                · simp only [Act.put, List.setIfInBounds_toArray, List.set_cons_zero, List.set_cons_succ, i64_w, i32_w, IntKind.wrap_u32]
                  rfl
                refine take_ (i := 2) (N := some 40) (v := ?_) (a' := ?_) #[true, true, true, false, false, false, false, false, false, false, false, false, false, false, false, false, false, false, false, false, false] rfl rfl (take_ofW HT_.out HW_.out (by kernel_rfl)) (fun _ _ _ h => h) (Or.inl ⟨by rfl, ?_⟩) hHeld ?_ ?_
                rotate_left
                · rintro w' ⟨s0, s1, s2, s3, s4, s5, s6, s7, s8, s9, s10⟩
                  go_simp
                  with_reducible rfl
                rotate_left
                · simp only [Act.put, List.setIfInBounds_toArray, List.set_cons_zero, List.set_cons_succ, i64_w, i32_w, IntKind.wrap_u32]
                  rfl
                refine one_ (i := 3) (N := some 41) #[true, true, true, true, false, false, false, false, false, false, false, false, false, false, false, false, false, false, false, false, false] rfl rfl (one_of HT_.out (by kernel_rfl)) (by decide) (fun K hK => ?_)
                refine goes_ Try.func30 (by kernel_rfl) rfl #[.agg #[.int .i64 a0_0, .int .u32 a0_1, .int .i64 a0_2, .int .i64 a0_3, .int .i64 a0_4]] (by rfl) rfl rfl (by (try simp only [List.map_toArray, List.map_cons, List.map_nil]); first | done | rfl | (simp only [List.length_drop, List.length_take]; rfl)) ?_
                with_reducible refine (credenzalaw23_ref.calls a0_0 a0_1 a0_2 a0_3 a0_4 t237 t238 t239 t240 t241 _ A21.out).mono ?_
                rintro e w36 ⟨rfl, hb⟩
                refine ⟨_, rfl, ?_⟩
                have n0_ := Aside0.mk (Kd.R_below (by (with_reducible repeat (first | apply Kd.R_alloc | apply Kd.R_drewN | apply Kd.R_drew)); exact HO_3.out) hb)
                have n1_ := Aside0.mk (blk_below (g := gb217) (o := .cells #[.int .i64 a0_0, .int .u32 a0_1, .int .i64 a0_2, .int .i64 a0_3, .int .i64 a0_4] 49 (0, 0)) (by (with_reducible repeat (first | refine blk_drewN ?_ _ | refine blk_drew ?_ | refine blk_alloc ?_ _)); exact BK217.out) hb)
                have n2_ := Aside0.mk (blk_below (g := gb236) (o := .cells #[.int .i64 t230, .int .u32 t231, .int .i64 t232, .int .i64 t233, .int .i64 t234] 49 (0, 0)) (by (with_reducible repeat (first | refine blk_drewN ?_ _ | refine blk_drew ?_ | refine blk_alloc ?_ _)); exact BK236.out) hb)
                have n3_ := Aside0.mk (below_step (by repeat (first | (with_reducible first | exact HB.out | apply below_alloc | apply pw_below_drewN | apply below_drew1 | refine below_set ?_ GE217.out | refine below_set ?_ GE236.out) | exact HB.out)) hb)
                clear HO_3
                clear BK217
                clear BK236
                clear HB
                have HO_3 := n0_
                have BK217 := n1_
                have BK236 := n2_
                have HB := n3_
                clear n0_ n1_ n2_ n3_
                (try clear hb)
                (try clear hb2)
                (try clear hk)
                (try clear hi)
                refine hK.out _ _ ⟨(blk_cell BK217.out 0).trans rfl, (blk_cell BK217.out 1).trans rfl, (blk_cell BK217.out 2).trans rfl, (blk_cell BK217.out 3).trans rfl, (blk_cell BK217.out 4).trans rfl, (blk_cell BK236.out 0).trans rfl, (blk_cell BK236.out 1).trans rfl, (blk_cell BK236.out 2).trans rfl, (blk_cell BK236.out 3).trans rfl, (blk_cell BK236.out 4).trans rfl, (by first | exact own_string (P := Try.prog) Try.underlying50 Try.underlying5 Try.underlying9 (Kd.own_of_R HO_3.out) | exact own_string (P := Try.prog) Try.underlying50 Try.underlying5 Try.underlying9 (Kd.own_of_R (Kd.R_drewN HO_3.out _)) | exact own_string (P := Try.prog) Try.underlying50 Try.underlying5 Try.underlying9 (Kd.own_of_R (Kd.R_drewN (Kd.R_drewN HO_3.out _) _)) | exact own_string (P := Try.prog) Try.underlying50 Try.underlying5 Try.underlying9 (Kd.own_of_R (Kd.R_drewN (Kd.R_drewN (Kd.R_drewN HO_3.out _) _) _)))⟩ (fun hHeld => ?_)
                clear hK K
                refine norm_ (a' := ?_) ?_ ?_
                rotate_left
                · show Act.put _ (some 41) _ = _
                  simp only [Act.put, List.setIfInBounds_toArray, List.set_cons_zero, List.set_cons_succ, i64_w, i32_w, IntKind.wrap_u32]
                  rfl
                refine one_ (i := 4) (N := some 42) #[true, true, true, true, true, false, false, false, false, false, false, false, false, false, false, false, false, false, false, false, false] rfl rfl (one_of HT_.out (by kernel_rfl)) (by decide) (fun K hK => ?_)
                refine goes_ Try.func34 (by kernel_rfl) rfl #[.agg #[.int .i64 t237, .int .u32 t238, .int .i64 t239, .int .i64 t240, .int .i64 t241]] (by rfl) rfl rfl (by (try simp only [List.map_toArray, List.map_cons, List.map_nil]); first | done | rfl | (simp only [List.length_drop, List.length_take]; rfl)) ?_
                with_reducible refine (credenzaref23_Bytes.calls kj4 t237 t238 t239 t240 t241 t242 _ A22.out).mono ?_
                rintro e w37 ⟨rfl, hb⟩
                refine ⟨_, rfl, ?_⟩
                have n0_ := Aside0.mk (Kd.R_below (by (with_reducible repeat (first | apply Kd.R_alloc | apply Kd.R_drewN | apply Kd.R_drew)); exact HO_3.out) hb)
                have n1_ := Aside0.mk (blk_below (g := gb217) (o := .cells #[.int .i64 a0_0, .int .u32 a0_1, .int .i64 a0_2, .int .i64 a0_3, .int .i64 a0_4] 49 (0, 0)) (by (with_reducible repeat (first | refine blk_drewN ?_ _ | refine blk_drew ?_ | refine blk_alloc ?_ _)); exact BK217.out) hb)
                have n2_ := Aside0.mk (blk_below (g := gb236) (o := .cells #[.int .i64 t230, .int .u32 t231, .int .i64 t232, .int .i64 t233, .int .i64 t234] 49 (0, 0)) (by (with_reducible repeat (first | refine blk_drewN ?_ _ | refine blk_drew ?_ | refine blk_alloc ?_ _)); exact BK236.out) hb)
                have n3_ := Aside0.mk (below_step (by repeat (first | (with_reducible first | exact HB.out | apply below_alloc | apply pw_below_drewN | apply below_drew1 | refine below_set ?_ GE217.out | refine below_set ?_ GE236.out) | exact HB.out)) hb)
                clear HO_3
                clear BK217
                clear BK236
                clear HB
                have HO_3 := n0_
                have BK217 := n1_
                have BK236 := n2_
                have HB := n3_
                clear n0_ n1_ n2_ n3_
                (try clear hb)
                (try clear hb2)
                (try clear hk)
                (try clear hi)
                refine hK.out _ _ ⟨(blk_cell BK217.out 0).trans rfl, (blk_cell BK217.out 1).trans rfl, (blk_cell BK217.out 2).trans rfl, (blk_cell BK217.out 3).trans rfl, (blk_cell BK217.out 4).trans rfl, (blk_cell BK236.out 0).trans rfl, (blk_cell BK236.out 1).trans rfl, (blk_cell BK236.out 2).trans rfl, (blk_cell BK236.out 3).trans rfl, (blk_cell BK236.out 4).trans rfl, (by first | exact own_string (P := Try.prog) Try.underlying50 Try.underlying5 Try.underlying9 (Kd.own_of_R HO_3.out) | exact own_string (P := Try.prog) Try.underlying50 Try.underlying5 Try.underlying9 (Kd.own_of_R (Kd.R_drewN HO_3.out _)) | exact own_string (P := Try.prog) Try.underlying50 Try.underlying5 Try.underlying9 (Kd.own_of_R (Kd.R_drewN (Kd.R_drewN HO_3.out _) _)) | exact own_string (P := Try.prog) Try.underlying50 Try.underlying5 Try.underlying9 (Kd.own_of_R (Kd.R_drewN (Kd.R_drewN (Kd.R_drewN HO_3.out _) _) _)))⟩ (fun hHeld => ?_)
                clear hK K
                refine norm_ (a' := ?_) ?_ ?_
                rotate_left
                · show Act.put _ (some 42) _ = _
                  simp only [Act.put, List.setIfInBounds_toArray, List.set_cons_zero, List.set_cons_succ, i64_w, i32_w, IntKind.wrap_u32]
                  rfl
                refine pure_ (i := 5) (N := some 43) (v := ?_) (a' := ?_) #[true, true, true, true, true, true, false, false, false, false, false, false, false, false, false, false, false, false, false, false, false] rfl rfl (any_of HT_.out (by kernel_rfl)) (fun _ _ _ h => h) (Or.inl ⟨by rfl, ?_⟩) ?_ ?_
                rotate_left
                · intro w'
                  go_simp
                  with_reducible rfl
                rotate_left
                · simp only [Act.put, List.setIfInBounds_toArray, List.set_cons_zero, List.set_cons_succ, i64_w, i32_w, IntKind.wrap_u32]
                  rfl
                refine pure_ (i := 6) (N := some 44) (v := ?_) (a' := ?_) #[true, true, true, true, true, true, true, false, false, false, false, false, false, false, false, false, false, false, false, false, false] rfl rfl (any_of HT_.out (by kernel_rfl)) (fun _ _ _ h => h) (Or.inl ⟨by rfl, ?_⟩) ?_ ?_
                rotate_left
                · intro w'
                  go_simp
                  with_reducible rfl
                rotate_left
                · simp only [Act.put, List.setIfInBounds_toArray, List.set_cons_zero, List.set_cons_succ, i64_w, i32_w, IntKind.wrap_u32]
                  rfl
                refine pure_ (i := 7) (N := some 45) (v := ?_) (a' := ?_) #[true, true, true, true, true, true, true, true, false, false, false, false, false, false, false, false, false, false, false, false, false] rfl rfl (any_of HT_.out (by kernel_rfl)) (fun _ _ _ h => h) (Or.inl ⟨by rfl, ?_⟩) ?_ ?_
                rotate_left
                · intro w'
                  go_simp
                  with_reducible rfl
                rotate_left
                · simp only [Act.put, List.setIfInBounds_toArray, List.set_cons_zero, List.set_cons_succ, i64_w, i32_w, IntKind.wrap_u32]
                  rfl
                refine pure_ (i := 8) (N := some 46) (v := ?_) (a' := ?_) #[true, true, true, true, true, true, true, true, true, false, false, false, false, false, false, false, false, false, false, false, false] rfl rfl (any_of HT_.out (by kernel_rfl)) (fun _ _ _ h => h) (Or.inl ⟨by rfl, ?_⟩) ?_ ?_
                rotate_left
                · intro w'
                  go_simp
                  with_reducible rfl
                rotate_left
                · simp only [Act.put, List.setIfInBounds_toArray, List.set_cons_zero, List.set_cons_succ, i64_w, i32_w, IntKind.wrap_u32]
                  rfl
                refine pure_ (i := 9) (N := some 47) (v := ?_) (a' := ?_) #[true, true, true, true, true, true, true, true, true, true, false, false, false, false, false, false, false, false, false, false, false] rfl rfl (any_of HT_.out (by kernel_rfl)) (fun _ _ _ h => h) (Or.inl ⟨by rfl, ?_⟩) ?_ ?_
                rotate_left
                · intro w'
                  go_simp
                  with_reducible rfl
                rotate_left
                · simp only [Act.put, List.setIfInBounds_toArray, List.set_cons_zero, List.set_cons_succ, i64_w, i32_w, IntKind.wrap_u32]
                  rfl
                refine pure_ (i := 10) (N := some 48) (v := ?_) (a' := ?_) #[true, true, true, true, true, true, true, true, true, true, true, false, false, false, false, false, false, false, false, false, false] rfl rfl (any_of HT_.out (by kernel_rfl)) (fun _ _ _ h => h) (Or.inl ⟨by rfl, ?_⟩) ?_ ?_
                rotate_left
                · intro w'
                  go_simp
                  with_reducible rfl
                rotate_left
                · simp only [Act.put, List.setIfInBounds_toArray, List.set_cons_zero, List.set_cons_succ, i64_w, i32_w, IntKind.wrap_u32]
                  rfl
                refine take_ (i := 11) (N := some 49) (v := ?_) (a' := ?_) #[true, true, true, true, true, true, true, true, true, true, true, true, false, false, false, false, false, false, false, false, false] rfl rfl (take_ofW HT_.out HW_.out (by kernel_rfl)) (fun _ _ _ h => h) (Or.inl ⟨by rfl, ?_⟩) hHeld ?_ ?_
                rotate_left
                · rintro w' ⟨s0, s1, s2, s3, s4, s5, s6, s7, s8, s9, s10⟩
                  go_simp
                  with_reducible rfl
                rotate_left
                · simp only [Act.put, List.setIfInBounds_toArray, List.set_cons_zero, List.set_cons_succ, i64_w, i32_w, IntKind.wrap_u32]
                  rfl
                refine take_ (i := 13) (N := some 51) (v := ?_) (a' := ?_) #[true, true, true, true, true, true, true, true, true, true, true, true, false, true, false, false, false, false, false, false, false] rfl rfl (take_ofW HT_.out HW_.out (by kernel_rfl)) (fun _ _ _ h => h) (Or.inl ⟨by rfl, ?_⟩) hHeld ?_ ?_
                rotate_left
                · rintro w' ⟨s0, s1, s2, s3, s4, s5, s6, s7, s8, s9, s10⟩
                  go_simp
                  with_reducible rfl
                rotate_left
                · simp only [Act.put, List.setIfInBounds_toArray, List.set_cons_zero, List.set_cons_succ, i64_w, i32_w, IntKind.wrap_u32]
                  rfl
                refine one_ (i := 12) (N := some 50) #[true, true, true, true, true, true, true, true, true, true, true, true, true, true, false, false, false, false, false, false, false] rfl rfl (one_of HT_.out (by kernel_rfl)) (by decide) (fun K hK => ?_)
                refine goes_ Try.func30 (by kernel_rfl) rfl #[.agg #[.int .i64 t230, .int .u32 t231, .int .i64 t232, .int .i64 t233, .int .i64 t234]] (by rfl) rfl rfl (by (try simp only [List.map_toArray, List.map_cons, List.map_nil]); first | done | rfl | (simp only [List.length_drop, List.length_take]; rfl)) ?_
                with_reducible refine (credenzalaw23_ref.calls t230 t231 t232 t233 t234 t243 t244 t245 t246 t247 _ A25.out).mono ?_
                rintro e w38 ⟨rfl, hb⟩
                refine ⟨_, rfl, ?_⟩
                have n0_ := Aside0.mk (Kd.R_below (by (with_reducible repeat (first | apply Kd.R_alloc | apply Kd.R_drewN | apply Kd.R_drew)); exact HO_3.out) hb)
                have n1_ := Aside0.mk (blk_below (g := gb217) (o := .cells #[.int .i64 a0_0, .int .u32 a0_1, .int .i64 a0_2, .int .i64 a0_3, .int .i64 a0_4] 49 (0, 0)) (by (with_reducible repeat (first | refine blk_drewN ?_ _ | refine blk_drew ?_ | refine blk_alloc ?_ _)); exact BK217.out) hb)
                have n2_ := Aside0.mk (blk_below (g := gb236) (o := .cells #[.int .i64 t230, .int .u32 t231, .int .i64 t232, .int .i64 t233, .int .i64 t234] 49 (0, 0)) (by (with_reducible repeat (first | refine blk_drewN ?_ _ | refine blk_drew ?_ | refine blk_alloc ?_ _)); exact BK236.out) hb)
                have n3_ := Aside0.mk (below_step (by repeat (first | (with_reducible first | exact HB.out | apply below_alloc | apply pw_below_drewN | apply below_drew1 | refine below_set ?_ GE217.out | refine below_set ?_ GE236.out) | exact HB.out)) hb)
                clear HO_3
                clear BK217
                clear BK236
                clear HB
                have HO_3 := n0_
                have BK217 := n1_
                have BK236 := n2_
                have HB := n3_
                clear n0_ n1_ n2_ n3_
                (try clear hb)
                (try clear hb2)
                (try clear hk)
                (try clear hi)
                refine hK.out _ _ ⟨(blk_cell BK217.out 0).trans rfl, (blk_cell BK217.out 1).trans rfl, (blk_cell BK217.out 2).trans rfl, (blk_cell BK217.out 3).trans rfl, (blk_cell BK217.out 4).trans rfl, (blk_cell BK236.out 0).trans rfl, (blk_cell BK236.out 1).trans rfl, (blk_cell BK236.out 2).trans rfl, (blk_cell BK236.out 3).trans rfl, (blk_cell BK236.out 4).trans rfl, (by first | exact own_string (P := Try.prog) Try.underlying50 Try.underlying5 Try.underlying9 (Kd.own_of_R HO_3.out) | exact own_string (P := Try.prog) Try.underlying50 Try.underlying5 Try.underlying9 (Kd.own_of_R (Kd.R_drewN HO_3.out _)) | exact own_string (P := Try.prog) Try.underlying50 Try.underlying5 Try.underlying9 (Kd.own_of_R (Kd.R_drewN (Kd.R_drewN HO_3.out _) _)) | exact own_string (P := Try.prog) Try.underlying50 Try.underlying5 Try.underlying9 (Kd.own_of_R (Kd.R_drewN (Kd.R_drewN (Kd.R_drewN HO_3.out _) _) _)))⟩ (fun hHeld => ?_)
                clear hK K
                refine norm_ (a' := ?_) ?_ ?_
                rotate_left
                · show Act.put _ (some 50) _ = _
                  simp only [Act.put, List.setIfInBounds_toArray, List.set_cons_zero, List.set_cons_succ, i64_w, i32_w, IntKind.wrap_u32]
                  rfl
                refine one_ (i := 14) (N := some 52) #[true, true, true, true, true, true, true, true, true, true, true, true, true, true, true, false, false, false, false, false, false] rfl rfl (one_of HT_.out (by kernel_rfl)) (by decide) (fun K hK => ?_)
                refine goes_ Try.func30 (by kernel_rfl) rfl #[.agg #[.int .i64 a0_0, .int .u32 a0_1, .int .i64 a0_2, .int .i64 a0_3, .int .i64 a0_4]] (by rfl) rfl rfl (by (try simp only [List.map_toArray, List.map_cons, List.map_nil]); first | done | rfl | (simp only [List.length_drop, List.length_take]; rfl)) ?_
                with_reducible refine (credenzalaw23_ref.calls a0_0 a0_1 a0_2 a0_3 a0_4 t248 t249 t250 t251 t252 _ A26.out).mono ?_
                rintro e w39 ⟨rfl, hb⟩
                refine ⟨_, rfl, ?_⟩
                have n0_ := Aside0.mk (Kd.R_below (by (with_reducible repeat (first | apply Kd.R_alloc | apply Kd.R_drewN | apply Kd.R_drew)); exact HO_3.out) hb)
                have n1_ := Aside0.mk (blk_below (g := gb217) (o := .cells #[.int .i64 a0_0, .int .u32 a0_1, .int .i64 a0_2, .int .i64 a0_3, .int .i64 a0_4] 49 (0, 0)) (by (with_reducible repeat (first | refine blk_drewN ?_ _ | refine blk_drew ?_ | refine blk_alloc ?_ _)); exact BK217.out) hb)
                have n2_ := Aside0.mk (blk_below (g := gb236) (o := .cells #[.int .i64 t230, .int .u32 t231, .int .i64 t232, .int .i64 t233, .int .i64 t234] 49 (0, 0)) (by (with_reducible repeat (first | refine blk_drewN ?_ _ | refine blk_drew ?_ | refine blk_alloc ?_ _)); exact BK236.out) hb)
                have n3_ := Aside0.mk (below_step (by repeat (first | (with_reducible first | exact HB.out | apply below_alloc | apply pw_below_drewN | apply below_drew1 | refine below_set ?_ GE217.out | refine below_set ?_ GE236.out) | exact HB.out)) hb)
                clear HO_3
                clear BK217
                clear BK236
                clear HB
                have HO_3 := n0_
                have BK217 := n1_
                have BK236 := n2_
                have HB := n3_
                clear n0_ n1_ n2_ n3_
                (try clear hb)
                (try clear hb2)
                (try clear hk)
                (try clear hi)
                refine hK.out _ _ ⟨(blk_cell BK217.out 0).trans rfl, (blk_cell BK217.out 1).trans rfl, (blk_cell BK217.out 2).trans rfl, (blk_cell BK217.out 3).trans rfl, (blk_cell BK217.out 4).trans rfl, (blk_cell BK236.out 0).trans rfl, (blk_cell BK236.out 1).trans rfl, (blk_cell BK236.out 2).trans rfl, (blk_cell BK236.out 3).trans rfl, (blk_cell BK236.out 4).trans rfl, (by first | exact own_string (P := Try.prog) Try.underlying50 Try.underlying5 Try.underlying9 (Kd.own_of_R HO_3.out) | exact own_string (P := Try.prog) Try.underlying50 Try.underlying5 Try.underlying9 (Kd.own_of_R (Kd.R_drewN HO_3.out _)) | exact own_string (P := Try.prog) Try.underlying50 Try.underlying5 Try.underlying9 (Kd.own_of_R (Kd.R_drewN (Kd.R_drewN HO_3.out _) _)) | exact own_string (P := Try.prog) Try.underlying50 Try.underlying5 Try.underlying9 (Kd.own_of_R (Kd.R_drewN (Kd.R_drewN (Kd.R_drewN HO_3.out _) _) _)))⟩ (fun hHeld => ?_)
                clear hK K
                refine norm_ (a' := ?_) ?_ ?_
                rotate_left
                · show Act.put _ (some 52) _ = _
                  simp only [Act.put, List.setIfInBounds_toArray, List.set_cons_zero, List.set_cons_succ, i64_w, i32_w, IntKind.wrap_u32]
                  rfl
                refine pure_ (i := 15) (N := some 53) (v := ?_) (a' := ?_) #[true, true, true, true, true, true, true, true, true, true, true, true, true, true, true, true, false, false, false, false, false] rfl rfl (any_of HT_.out (by kernel_rfl)) (fun _ _ _ h => h) (Or.inl ⟨by rfl, ?_⟩) ?_ ?_
                rotate_left
                · intro w'
                  go_simp
                  with_reducible rfl
                rotate_left
                · simp only [Act.put, List.setIfInBounds_toArray, List.set_cons_zero, List.set_cons_succ, i64_w, i32_w, IntKind.wrap_u32]
                  rfl
                refine pure_ (i := 16) (N := some 54) (v := ?_) (a' := ?_) #[true, true, true, true, true, true, true, true, true, true, true, true, true, true, true, true, true, false, false, false, false] rfl rfl (any_of HT_.out (by kernel_rfl)) (fun _ _ _ h => h) (Or.inl ⟨by rfl, ?_⟩) ?_ ?_
                rotate_left
                · intro w'
                  go_simp
                  with_reducible rfl
                rotate_left
                · simp only [Act.put, List.setIfInBounds_toArray, List.set_cons_zero, List.set_cons_succ, i64_w, i32_w, IntKind.wrap_u32]
                  rfl
                refine pure_ (i := 17) (N := some 55) (v := ?_) (a' := ?_) #[true, true, true, true, true, true, true, true, true, true, true, true, true, true, true, true, true, true, false, false, false] rfl rfl (any_of HT_.out (by kernel_rfl)) (fun _ _ _ h => h) (Or.inl ⟨by rfl, ?_⟩) ?_ ?_
                rotate_left
                · intro w'
                  go_simp
                  with_reducible rfl
                rotate_left
                · simp only [Act.put, List.setIfInBounds_toArray, List.set_cons_zero, List.set_cons_succ, i64_w, i32_w, IntKind.wrap_u32]
                  rfl
                refine one_ (i := 18) (N := some 56) #[true, true, true, true, true, true, true, true, true, true, true, true, true, true, true, true, true, true, true, false, false] rfl rfl (one_of HT_.out (by kernel_rfl)) (by decide) (fun K hK => ?_)
                refine goes_ Try.func32 (by kernel_rfl) rfl #[] (by rfl) rfl rfl (by (try simp only [List.map_toArray, List.map_cons, List.map_nil]); first | done | rfl | (simp only [List.length_drop, List.length_take]; rfl)) ?_
                with_reducible refine (credenzalaw23_awake.calls kj4  t253 _ A28.out).mono ?_
                rintro e w40 ⟨rfl, hb⟩
                refine ⟨_, rfl, ?_⟩
                have n0_ := Aside0.mk (Kd.R_below (by (with_reducible repeat (first | apply Kd.R_alloc | apply Kd.R_drewN | apply Kd.R_drew)); exact HO_3.out) hb)
                have n1_ := Aside0.mk (blk_below (g := gb217) (o := .cells #[.int .i64 a0_0, .int .u32 a0_1, .int .i64 a0_2, .int .i64 a0_3, .int .i64 a0_4] 49 (0, 0)) (by (with_reducible repeat (first | refine blk_drewN ?_ _ | refine blk_drew ?_ | refine blk_alloc ?_ _)); exact BK217.out) hb)
                have n2_ := Aside0.mk (blk_below (g := gb236) (o := .cells #[.int .i64 t230, .int .u32 t231, .int .i64 t232, .int .i64 t233, .int .i64 t234] 49 (0, 0)) (by (with_reducible repeat (first | refine blk_drewN ?_ _ | refine blk_drew ?_ | refine blk_alloc ?_ _)); exact BK236.out) hb)
                have n3_ := Aside0.mk (below_step (by repeat (first | (with_reducible first | exact HB.out | apply below_alloc | apply pw_below_drewN | apply below_drew1 | refine below_set ?_ GE217.out | refine below_set ?_ GE236.out) | exact HB.out)) hb)
                clear HO_3
                clear BK217
                clear BK236
                clear HB
                have HO_3 := n0_
                have BK217 := n1_
                have BK236 := n2_
                have HB := n3_
                clear n0_ n1_ n2_ n3_
                (try clear hb)
                (try clear hb2)
                (try clear hk)
                (try clear hi)
                refine hK.out _ _ ⟨(blk_cell BK217.out 0).trans rfl, (blk_cell BK217.out 1).trans rfl, (blk_cell BK217.out 2).trans rfl, (blk_cell BK217.out 3).trans rfl, (blk_cell BK217.out 4).trans rfl, (blk_cell BK236.out 0).trans rfl, (blk_cell BK236.out 1).trans rfl, (blk_cell BK236.out 2).trans rfl, (blk_cell BK236.out 3).trans rfl, (blk_cell BK236.out 4).trans rfl, (by first | exact own_string (P := Try.prog) Try.underlying50 Try.underlying5 Try.underlying9 (Kd.own_of_R HO_3.out) | exact own_string (P := Try.prog) Try.underlying50 Try.underlying5 Try.underlying9 (Kd.own_of_R (Kd.R_drewN HO_3.out _)) | exact own_string (P := Try.prog) Try.underlying50 Try.underlying5 Try.underlying9 (Kd.own_of_R (Kd.R_drewN (Kd.R_drewN HO_3.out _) _)) | exact own_string (P := Try.prog) Try.underlying50 Try.underlying5 Try.underlying9 (Kd.own_of_R (Kd.R_drewN (Kd.R_drewN (Kd.R_drewN HO_3.out _) _) _)))⟩ (fun hHeld => ?_)
                clear hK K
                refine norm_ (a' := ?_) ?_ ?_
                rotate_left
                · show Act.put _ (some 56) _ = _
                  simp only [Act.put, List.setIfInBounds_toArray, List.set_cons_zero, List.set_cons_succ, i64_w, i32_w, IntKind.wrap_u32]
                  rfl
                refine pure_ (i := 19) (N := some 57) (v := ?_) (a' := ?_) #[true, true, true, true, true, true, true, true, true, true, true, true, true, true, true, true, true, true, true, true, false] rfl rfl (any_of HT_.out (by kernel_rfl)) (fun _ _ _ h => h) (Or.inl ⟨by rfl, ?_⟩) ?_ ?_
                rotate_left
                · intro w'
                  go_simp
                  with_reducible rfl
                rotate_left
                · simp only [Act.put, List.setIfInBounds_toArray, List.set_cons_zero, List.set_cons_succ, i64_w, i32_w, IntKind.wrap_u32]
                  rfl
                refine pure_ (i := 20) (N := some 2) (v := ?_) (a' := ?_) #[true, true, true, true, true, true, true, true, true, true, true, true, true, true, true, true, true, true, true, true, true] rfl rfl (any_of HT_.out (by kernel_rfl)) (fun _ _ _ h => h) (Or.inl ⟨by rfl, ?_⟩) ?_ ?_
                rotate_left
                · intro w'
                  go_simp
                  with_reducible rfl
                rotate_left
                · simp only [Act.put, List.setIfInBounds_toArray, List.set_cons_zero, List.set_cons_succ, i64_w, i32_w, IntKind.wrap_u32]
                  rfl
                refine done_ (done_of HT_.out (by kernel_rfl)) ?_
                try go_wp2
                go_ret
                exact ⟨by first | rfl | (simp [errW_none, errW_some] <;> rfl) | (simp [*, errW_none, errW_some] <;> rfl), by repeat (first | (with_reducible first | exact HB.out | apply below_alloc | apply pw_below_drewN | apply below_drew1 | refine below_set ?_ GE217.out | refine below_set ?_ GE236.out) | exact HB.out)⟩
              · rw [if_neg c27] at H
                have c27b0 : (t243 == t248 && (t244 == t249 && (t245 == t250 && (t246 == t251 && (t247 == t252))))) = false := by simpa using c27
                (try (have c27b1 : decide (t243 = t248 && (t244 == t249 && (t245 == t250 && (t246 == t251 && (t247 == t252))))) = false := by simpa using c27))
                (try (have c27b2 : (t243 == t248 && (t244 == t249 && (t245 == t250 && (t246 == t251 && (t247 == t252))))) = false := by simpa using c27))
                (try (have c27b3 : ¬ (t243 = t248 && (t244 == t249 && (t245 == t250 && (t246 == t251 && (t247 == t252))))) := by simpa using c27))
                clear c27
                obtain rfl := Option.some.inj H
                obtain ⟨Ao41, co41, eo41⟩ := Kd.R_slice HO_3.out
                subst eo41
                try go_wp2_with (first | ((with_reducible refine gate_callee (f := 33) rfl ?_); refine goesL_ (some 35) rfl rfl Try.func33 (by kernel_rfl) rfl #[.slice Ao41 t218.length co41] rfl (by (try simp only [List.map_toArray, List.map_cons, List.map_nil]); first | done | rfl | (simp only [List.length_drop, List.length_take]; rfl)) ?_; (with_reducible refine (tell_Parse.calls kj4 _ _ t218 t230 t231 t232 t233 t234 t235 _ ?side1 ?side2 A20.out).mono ?_); (case side1 => repeat (first | exact (Kd.R_reads' HO_3.out).2.2 | (with_reducible refine Kd.C_alloc ?_ _) | (with_reducible refine Kd.C_drewN ?_ _) | (with_reducible refine Kd.C_drew ?_))); (case side2 => exact (Kd.R_reads' HO_3.out).2.1); rintro e w42 ⟨rfl, hb⟩; refine ⟨_, rfl, ?_⟩; have n0_ := Aside0.mk (Kd.R_below (by (with_reducible repeat (first | apply Kd.R_alloc | apply Kd.R_drewN | apply Kd.R_drew)); exact HO_3.out) hb); have n1_ := Aside0.mk (blk_below (g := gb217) (o := .cells #[.int .i64 a0_0, .int .u32 a0_1, .int .i64 a0_2, .int .i64 a0_3, .int .i64 a0_4] 49 (0, 0)) (by (with_reducible repeat (first | refine blk_drewN ?_ _ | refine blk_drew ?_ | refine blk_alloc ?_ _)); exact BK217.out) hb); have n2_ := Aside0.mk (below_step (by repeat (first | (with_reducible first | exact HB.out | apply below_alloc | apply pw_below_drewN | apply below_drew1 | refine below_set ?_ GE217.out) | exact HB.out)) hb); clear HO_3; clear BK217; clear HB; have HO_3 := n0_; have BK217 := n1_; have HB := n2_; clear n0_ n1_ n2_; (try clear hb); (try clear hb2); (try clear hk); (try clear hi)) | ((with_reducible refine gate_dst (N := 6) rfl ?_); refine box_event ?hg (N := 6) ?hd (cs := #[.int .i64 0, .int .u32 0, .int .i64 0, .int .i64 0, .int .i64 0]) (t := 49) ?hr ?_; (case hd => rfl); (case hg => rfl); (case hr => first | (go_simp; done) | (go_simp; rfl)); intro gb236 hg w43 hbox hb; have n0_ := Aside0.mk (Kd.R_below (by (with_reducible repeat (first | apply Kd.R_alloc | apply Kd.R_drewN | apply Kd.R_drew)); exact HO_3.out) hb); have n1_ := Aside0.mk (blk_below (g := gb217) (o := .cells #[.int .i64 a0_0, .int .u32 a0_1, .int .i64 a0_2, .int .i64 a0_3, .int .i64 a0_4] 49 (0, 0)) (by (with_reducible repeat (first | refine blk_drewN ?_ _ | refine blk_drew ?_ | refine blk_alloc ?_ _)); exact BK217.out) hb); have n2_ := Aside0.mk (below_step (by repeat (first | (with_reducible first | exact HB.out | apply below_alloc | apply pw_below_drewN | apply below_drew1 | refine below_set ?_ GE217.out) | exact HB.out)) hb); have n3_ := Aside0.mk (hbox); have n4_ := Aside0.mk ((by rw [hg]; exact (below_size (by repeat (first | (with_reducible first | exact HB.out | apply below_alloc | apply pw_below_drewN | apply below_drew1 | refine below_set ?_ GE217.out) | exact HB.out))) : w.heap.size ≤ gb236)); have n5_ := Aside0.mk ((by rw [hg]; exact (below_size (by repeat (first | (with_reducible first | exact HB.out | apply below_alloc | apply pw_below_drewN | apply below_drew1 | refine below_set ?_ GE217.out) | exact HB.out))) : w.heap.size ≤ gb236)); have n6_ := Aside0.mk ((by rw [hg]; exact Nat.ne_of_lt (blk_lt (g := gb217) (o := .cells #[.int .i64 a0_0, .int .u32 a0_1, .int .i64 a0_2, .int .i64 a0_3, .int .i64 a0_4] 49 (0, 0)) (by (with_reducible repeat (first | refine blk_drewN ?_ _ | refine blk_drew ?_ | refine blk_alloc ?_ _)); exact BK217.out)) : gb217 ≠ gb236)); have n7_ := Aside0.mk ((by rw [hg]; exact Nat.ne_of_gt (blk_lt (g := gb217) (o := .cells #[.int .i64 a0_0, .int .u32 a0_1, .int .i64 a0_2, .int .i64 a0_3, .int .i64 a0_4] 49 (0, 0)) (by (with_reducible repeat (first | refine blk_drewN ?_ _ | refine blk_drew ?_ | refine blk_alloc ?_ _)); exact BK217.out)) : gb236 ≠ gb217)); clear HO_3; clear BK217; clear HB; have HO_3 := n0_; have BK217 := n1_; have HB := n2_; have BK236 := n3_; have GW236 := n4_; have GE236 := n5_; have NB217_236 := n6_; have NB236_217 := n7_; clear n0_ n1_ n2_ n3_ n4_ n5_ n6_ n7_; clear hb hbox hg; have hnb44 := NB236_217.out; have hnc44 := NB217_236.out; have hcz45_0 : w43.cell? ⟨gb236, 0, none⟩ = some (.int .i64 0) := (blk_cell BK236.out 0).trans rfl; have hcz45_1 : w43.cell? ⟨gb236, 1, none⟩ = some (.int .u32 0) := (blk_cell BK236.out 1).trans rfl; have hcz45_2 : w43.cell? ⟨gb236, 2, none⟩ = some (.int .i64 0) := (blk_cell BK236.out 2).trans rfl; have hcz45_3 : w43.cell? ⟨gb236, 3, none⟩ = some (.int .i64 0) := (blk_cell BK236.out 3).trans rfl; have hcz45_4 : w43.cell? ⟨gb236, 4, none⟩ = some (.int .i64 0) := (blk_cell BK236.out 4).trans rfl; have hfz45_0 := blk_frozen BK236.out 0; have hfz45_1 := blk_frozen BK236.out 1; have hfz45_2 := blk_frozen BK236.out 2; have hfz45_3 := blk_frozen BK236.out 3; have hfz45_4 := blk_frozen BK236.out 4))
                have n0_ : Aside0 (Kd.R (Kd.int .u8) 5 (((((w43.setCell ⟨gb236, 0, none⟩ (.int .i64 t230)).setCell ⟨gb236, 1, none⟩ (.int .u32 t231)).setCell ⟨gb236, 2, none⟩ (.int .i64 t232)).setCell ⟨gb236, 3, none⟩ (.int .i64 t233)).setCell ⟨gb236, 4, none⟩ (.int .i64 t234)) w.heap.size (fun _ => True) (.slice Ao41 t218.length co41) t218) := ⟨by (with_reducible repeat (first | apply Kd.R_alloc | apply Kd.R_drewN | apply Kd.R_drew)); exact Kd.R_mono (Kd.R_far (p := ⟨gb236, 4, none⟩) (Kd.R_far (p := ⟨gb236, 3, none⟩) (Kd.R_far (p := ⟨gb236, 2, none⟩) (Kd.R_far (p := ⟨gb236, 1, none⟩) (Kd.R_far (p := ⟨gb236, 0, none⟩) (Kd.R_types HO_3.out BK236.out (by decide)) (fun _ hk => hk.2) (.int .i64 t230)) (fun _ hk => hk.2) (.int .u32 t231)) (fun _ hk => hk.2) (.int .i64 t232)) (fun _ hk => hk.2) (.int .i64 t233)) (fun _ hk => hk.2) (.int .i64 t234)) (fun _ hk => trivial)⟩
                have n1_ : Aside0 ((((((w43.setCell ⟨gb236, 0, none⟩ (.int .i64 t230)).setCell ⟨gb236, 1, none⟩ (.int .u32 t231)).setCell ⟨gb236, 2, none⟩ (.int .i64 t232)).setCell ⟨gb236, 3, none⟩ (.int .i64 t233)).setCell ⟨gb236, 4, none⟩ (.int .i64 t234)).heap[gb217]? = some (.cells #[.int .i64 a0_0, .int .u32 a0_1, .int .i64 a0_2, .int .i64 a0_3, .int .i64 a0_4] 49 (0, 0))) := ⟨by (with_reducible repeat (first | refine blk_drewN ?_ _ | refine blk_drew ?_ | refine blk_alloc ?_ _)); refine blk_far ?_ NB217_236.out _; (with_reducible repeat (first | refine blk_drewN ?_ _ | refine blk_drew ?_ | refine blk_alloc ?_ _)); refine blk_far ?_ NB217_236.out _; (with_reducible repeat (first | refine blk_drewN ?_ _ | refine blk_drew ?_ | refine blk_alloc ?_ _)); refine blk_far ?_ NB217_236.out _; (with_reducible repeat (first | refine blk_drewN ?_ _ | refine blk_drew ?_ | refine blk_alloc ?_ _)); refine blk_far ?_ NB217_236.out _; (with_reducible repeat (first | refine blk_drewN ?_ _ | refine blk_drew ?_ | refine blk_alloc ?_ _)); refine blk_far ?_ NB217_236.out _; (with_reducible repeat (first | refine blk_drewN ?_ _ | refine blk_drew ?_ | refine blk_alloc ?_ _)); exact BK217.out⟩
                have n2_ : Aside0 ((((((w43.setCell ⟨gb236, 0, none⟩ (.int .i64 t230)).setCell ⟨gb236, 1, none⟩ (.int .u32 t231)).setCell ⟨gb236, 2, none⟩ (.int .i64 t232)).setCell ⟨gb236, 3, none⟩ (.int .i64 t233)).setCell ⟨gb236, 4, none⟩ (.int .i64 t234)).heap[gb236]? = some (.cells #[.int .i64 t230, .int .u32 t231, .int .i64 t232, .int .i64 t233, .int .i64 t234] 49 (0, 0))) := ⟨by (with_reducible repeat (first | refine blk_drewN ?_ _ | refine blk_drew ?_ | refine blk_alloc ?_ _)); refine blk_put (cs := #[.int .i64 t230, .int .u32 t231, .int .i64 t232, .int .i64 t233, .int .i64 0]) ?_ 4 _ rfl; (with_reducible repeat (first | refine blk_drewN ?_ _ | refine blk_drew ?_ | refine blk_alloc ?_ _)); refine blk_put (cs := #[.int .i64 t230, .int .u32 t231, .int .i64 t232, .int .i64 0, .int .i64 0]) ?_ 3 _ rfl; (with_reducible repeat (first | refine blk_drewN ?_ _ | refine blk_drew ?_ | refine blk_alloc ?_ _)); refine blk_put (cs := #[.int .i64 t230, .int .u32 t231, .int .i64 0, .int .i64 0, .int .i64 0]) ?_ 2 _ rfl; (with_reducible repeat (first | refine blk_drewN ?_ _ | refine blk_drew ?_ | refine blk_alloc ?_ _)); refine blk_put (cs := #[.int .i64 t230, .int .u32 0, .int .i64 0, .int .i64 0, .int .i64 0]) ?_ 1 _ rfl; (with_reducible repeat (first | refine blk_drewN ?_ _ | refine blk_drew ?_ | refine blk_alloc ?_ _)); refine blk_put (cs := #[.int .i64 0, .int .u32 0, .int .i64 0, .int .i64 0, .int .i64 0]) ?_ 0 _ rfl; (with_reducible repeat (first | refine blk_drewN ?_ _ | refine blk_drew ?_ | refine blk_alloc ?_ _)); exact BK236.out⟩
                have n3_ : Aside0 (Below w.heap.size w (((((w43.setCell ⟨gb236, 0, none⟩ (.int .i64 t230)).setCell ⟨gb236, 1, none⟩ (.int .u32 t231)).setCell ⟨gb236, 2, none⟩ (.int .i64 t232)).setCell ⟨gb236, 3, none⟩ (.int .i64 t233)).setCell ⟨gb236, 4, none⟩ (.int .i64 t234))) := ⟨by repeat (first | (with_reducible first | exact HB.out | apply below_alloc | apply pw_below_drewN | apply below_drew1 | refine below_set ?_ GE217.out | refine below_set ?_ GE236.out) | exact HB.out)⟩
                (try clear HO_3)
                (try clear BK217)
                (try clear BK236)
                (try clear HB)
                generalize (((((w43.setCell ⟨gb236, 0, none⟩ (.int .i64 t230)).setCell ⟨gb236, 1, none⟩ (.int .u32 t231)).setCell ⟨gb236, 2, none⟩ (.int .i64 t232)).setCell ⟨gb236, 3, none⟩ (.int .i64 t233)).setCell ⟨gb236, 4, none⟩ (.int .i64 t234)) = w46 at n0_ n1_ n2_ n3_ ⊢
                have HO_3 := n0_
                have BK217 := n1_
                have BK236 := n2_
                have HB := n3_
                clear n0_ n1_ n2_ n3_
                have n0_ := Aside0.mk (Kd.R_drew HO_3.out)
                have n1_ := Aside0.mk (blk_drew BK217.out)
                have n2_ := Aside0.mk (blk_drew BK236.out)
                have n3_ := Aside0.mk (below_drew1 HB.out)
                clear HO_3
                clear BK217
                clear BK236
                clear HB
                have HO_3 := n0_
                have BK217 := n1_
                have BK236 := n2_
                have HB := n3_
                clear n0_ n1_ n2_ n3_
                refine start_ (n := 21) (S := fun w' => w'.cell? ⟨gb217, 0, none⟩ = some (.int .i64 a0_0) ∧ w'.cell? ⟨gb217, 1, none⟩ = some (.int .u32 a0_1) ∧ w'.cell? ⟨gb217, 2, none⟩ = some (.int .i64 a0_2) ∧ w'.cell? ⟨gb217, 3, none⟩ = some (.int .i64 a0_3) ∧ w'.cell? ⟨gb217, 4, none⟩ = some (.int .i64 a0_4) ∧ w'.cell? ⟨gb236, 0, none⟩ = some (.int .i64 t230) ∧ w'.cell? ⟨gb236, 1, none⟩ = some (.int .u32 t231) ∧ w'.cell? ⟨gb236, 2, none⟩ = some (.int .i64 t232) ∧ w'.cell? ⟨gb236, 3, none⟩ = some (.int .i64 t233) ∧ w'.cell? ⟨gb236, 4, none⟩ = some (.int .i64 t234) ∧ (convert 50 9 (.slice Ao41 t218.length co41)).run Try.prog w' = .ok (.string (strOfNums t218)) w') (ds := []) #[false, false, false, false, false, false, false, false, false, false, false, false, false, false, false, false, false, false, false, false, false] (by kernel_rfl) rfl rfl ⟨(blk_cell BK217.out 0).trans rfl, (blk_cell BK217.out 1).trans rfl, (blk_cell BK217.out 2).trans rfl, (blk_cell BK217.out 3).trans rfl, (blk_cell BK217.out 4).trans rfl, (blk_cell BK236.out 0).trans rfl, (blk_cell BK236.out 1).trans rfl, (blk_cell BK236.out 2).trans rfl, (blk_cell BK236.out 3).trans rfl, (blk_cell BK236.out 4).trans rfl, (by first | exact own_string (P := Try.prog) Try.underlying50 Try.underlying5 Try.underlying9 (Kd.own_of_R HO_3.out) | exact own_string (P := Try.prog) Try.underlying50 Try.underlying5 Try.underlying9 (Kd.own_of_R (Kd.R_drewN HO_3.out _)) | exact own_string (P := Try.prog) Try.underlying50 Try.underlying5 Try.underlying9 (Kd.own_of_R (Kd.R_drewN (Kd.R_drewN HO_3.out _) _)) | exact own_string (P := Try.prog) Try.underlying50 Try.underlying5 Try.underlying9 (Kd.own_of_R (Kd.R_drewN (Kd.R_drewN (Kd.R_drewN HO_3.out _) _) _)))⟩ (fun hHeld => ?_); refine with_tabW credenzalaw23_TellBytes.tab8 credenzalaw23_TellBytes.bits8 (fun HT_ HW_ => ?_)
                generalize w46.drew = w47 at HO_3 BK217 BK236 HB hHeld ⊢
                refine pure_ (i := 0) (N := some 38) (v := ?_) (a' := ?_) #[true, false, false, false, false, false, false, false, false, false, false, false, false, false, false, false, false, false, false, false, false] rfl rfl (any_of HT_.out (by kernel_rfl)) (fun _ _ _ h => h) (Or.inl ⟨by rfl, ?_⟩) ?_ ?_
                rotate_left
                · intro w'
                  go_simp
                  with_reducible rfl
                rotate_left
                · simp only [Act.put, List.setIfInBounds_toArray, List.set_cons_zero, List.set_cons_succ, i64_w, i32_w, IntKind.wrap_u32]
                  rfl
                refine take_ (i := 1) (N := some 39) (v := ?_) (a' := ?_) #[true, true, false, false, false, false, false, false, false, false, false, false, false, false, false, false, false, false, false, false, false] rfl rfl (take_ofW HT_.out HW_.out (by kernel_rfl)) (fun _ _ _ h => h) (Or.inl ⟨by rfl, ?_⟩) hHeld ?_ ?_
                rotate_left
                · rintro w' ⟨s0, s1, s2, s3, s4, s5, s6, s7, s8, s9, s10⟩
                  go_simp
                  with_reducible rfl
                rotate_left
                · simp only [Act.put, List.setIfInBounds_toArray, List.set_cons_zero, List.set_cons_succ, i64_w, i32_w, IntKind.wrap_u32]
                  rfl
                refine take_ (i := 2) (N := some 40) (v := ?_) (a' := ?_) #[true, true, true, false, false, false, false, false, false, false, false, false, false, false, false, false, false, false, false, false, false] rfl rfl (take_ofW HT_.out HW_.out (by kernel_rfl)) (fun _ _ _ h => h) (Or.inl ⟨by rfl, ?_⟩) hHeld ?_ ?_
                rotate_left
                · rintro w' ⟨s0, s1, s2, s3, s4, s5, s6, s7, s8, s9, s10⟩
                  go_simp
                  with_reducible rfl
                rotate_left
                · simp only [Act.put, List.setIfInBounds_toArray, List.set_cons_zero, List.set_cons_succ, i64_w, i32_w, IntKind.wrap_u32]
                  rfl
                refine one_ (i := 3) (N := some 41) #[true, true, true, true, false, false, false, false, false, false, false, false, false, false, false, false, false, false, false, false, false] rfl rfl (one_of HT_.out (by kernel_rfl)) (by decide) (fun K hK => ?_)
                refine goes_ Try.func30 (by kernel_rfl) rfl #[.agg #[.int .i64 a0_0, .int .u32 a0_1, .int .i64 a0_2, .int .i64 a0_3, .int .i64 a0_4]] (by rfl) rfl rfl (by (try simp only [List.map_toArray, List.map_cons, List.map_nil]); first | done | rfl | (simp only [List.length_drop, List.length_take]; rfl)) ?_
                with_reducible refine (credenzalaw23_ref.calls a0_0 a0_1 a0_2 a0_3 a0_4 t237 t238 t239 t240 t241 _ A21.out).mono ?_
                rintro e w48 ⟨rfl, hb⟩
                refine ⟨_, rfl, ?_⟩
                have n0_ := Aside0.mk (Kd.R_below (by (with_reducible repeat (first | apply Kd.R_alloc | apply Kd.R_drewN | apply Kd.R_drew)); exact HO_3.out) hb)
                have n1_ := Aside0.mk (blk_below (g := gb217) (o := .cells #[.int .i64 a0_0, .int .u32 a0_1, .int .i64 a0_2, .int .i64 a0_3, .int .i64 a0_4] 49 (0, 0)) (by (with_reducible repeat (first | refine blk_drewN ?_ _ | refine blk_drew ?_ | refine blk_alloc ?_ _)); exact BK217.out) hb)
                have n2_ := Aside0.mk (blk_below (g := gb236) (o := .cells #[.int .i64 t230, .int .u32 t231, .int .i64 t232, .int .i64 t233, .int .i64 t234] 49 (0, 0)) (by (with_reducible repeat (first | refine blk_drewN ?_ _ | refine blk_drew ?_ | refine blk_alloc ?_ _)); exact BK236.out) hb)
                have n3_ := Aside0.mk (below_step (by repeat (first | (with_reducible first | exact HB.out | apply below_alloc | apply pw_below_drewN | apply below_drew1 | refine below_set ?_ GE217.out | refine below_set ?_ GE236.out) | exact HB.out)) hb)
                clear HO_3
                clear BK217
                clear BK236
                clear HB
                have HO_3 := n0_
                have BK217 := n1_
                have BK236 := n2_
                have HB := n3_
                clear n0_ n1_ n2_ n3_
                (try clear hb)
                (try clear hb2)
                (try clear hk)
                (try clear hi)
                refine hK.out _ _ ⟨(blk_cell BK217.out 0).trans rfl, (blk_cell BK217.out 1).trans rfl, (blk_cell BK217.out 2).trans rfl, (blk_cell BK217.out 3).trans rfl, (blk_cell BK217.out 4).trans rfl, (blk_cell BK236.out 0).trans rfl, (blk_cell BK236.out 1).trans rfl, (blk_cell BK236.out 2).trans rfl, (blk_cell BK236.out 3).trans rfl, (blk_cell BK236.out 4).trans rfl, (by first | exact own_string (P := Try.prog) Try.underlying50 Try.underlying5 Try.underlying9 (Kd.own_of_R HO_3.out) | exact own_string (P := Try.prog) Try.underlying50 Try.underlying5 Try.underlying9 (Kd.own_of_R (Kd.R_drewN HO_3.out _)) | exact own_string (P := Try.prog) Try.underlying50 Try.underlying5 Try.underlying9 (Kd.own_of_R (Kd.R_drewN (Kd.R_drewN HO_3.out _) _)) | exact own_string (P := Try.prog) Try.underlying50 Try.underlying5 Try.underlying9 (Kd.own_of_R (Kd.R_drewN (Kd.R_drewN (Kd.R_drewN HO_3.out _) _) _)))⟩ (fun hHeld => ?_)
                clear hK K
                refine norm_ (a' := ?_) ?_ ?_
                rotate_left
                · show Act.put _ (some 41) _ = _
                  simp only [Act.put, List.setIfInBounds_toArray, List.set_cons_zero, List.set_cons_succ, i64_w, i32_w, IntKind.wrap_u32]
                  rfl
                refine one_ (i := 4) (N := some 42) #[true, true, true, true, true, false, false, false, false, false, false, false, false, false, false, false, false, false, false, false, false] rfl rfl (one_of HT_.out (by kernel_rfl)) (by decide) (fun K hK => ?_)
                refine goes_ Try.func34 (by kernel_rfl) rfl #[.agg #[.int .i64 t237, .int .u32 t238, .int .i64 t239, .int .i64 t240, .int .i64 t241]] (by rfl) rfl rfl (by (try simp only [List.map_toArray, List.map_cons, List.map_nil]); first | done | rfl | (simp only [List.length_drop, List.length_take]; rfl)) ?_
                with_reducible refine (credenzaref23_Bytes.calls kj4 t237 t238 t239 t240 t241 t242 _ A22.out).mono ?_
                rintro e w49 ⟨rfl, hb⟩
                refine ⟨_, rfl, ?_⟩
                have n0_ := Aside0.mk (Kd.R_below (by (with_reducible repeat (first | apply Kd.R_alloc | apply Kd.R_drewN | apply Kd.R_drew)); exact HO_3.out) hb)
                have n1_ := Aside0.mk (blk_below (g := gb217) (o := .cells #[.int .i64 a0_0, .int .u32 a0_1, .int .i64 a0_2, .int .i64 a0_3, .int .i64 a0_4] 49 (0, 0)) (by (with_reducible repeat (first | refine blk_drewN ?_ _ | refine blk_drew ?_ | refine blk_alloc ?_ _)); exact BK217.out) hb)
                have n2_ := Aside0.mk (blk_below (g := gb236) (o := .cells #[.int .i64 t230, .int .u32 t231, .int .i64 t232, .int .i64 t233, .int .i64 t234] 49 (0, 0)) (by (with_reducible repeat (first | refine blk_drewN ?_ _ | refine blk_drew ?_ | refine blk_alloc ?_ _)); exact BK236.out) hb)
                have n3_ := Aside0.mk (below_step (by repeat (first | (with_reducible first | exact HB.out | apply below_alloc | apply pw_below_drewN | apply below_drew1 | refine below_set ?_ GE217.out | refine below_set ?_ GE236.out) | exact HB.out)) hb)
                clear HO_3
                clear BK217
                clear BK236
                clear HB
                have HO_3 := n0_
                have BK217 := n1_
                have BK236 := n2_
                have HB := n3_
                clear n0_ n1_ n2_ n3_
                (try clear hb)
                (try clear hb2)
                (try clear hk)
                (try clear hi)
                refine hK.out _ _ ⟨(blk_cell BK217.out 0).trans rfl, (blk_cell BK217.out 1).trans rfl, (blk_cell BK217.out 2).trans rfl, (blk_cell BK217.out 3).trans rfl, (blk_cell BK217.out 4).trans rfl, (blk_cell BK236.out 0).trans rfl, (blk_cell BK236.out 1).trans rfl, (blk_cell BK236.out 2).trans rfl, (blk_cell BK236.out 3).trans rfl, (blk_cell BK236.out 4).trans rfl, (by first | exact own_string (P := Try.prog) Try.underlying50 Try.underlying5 Try.underlying9 (Kd.own_of_R HO_3.out) | exact own_string (P := Try.prog) Try.underlying50 Try.underlying5 Try.underlying9 (Kd.own_of_R (Kd.R_drewN HO_3.out _)) | exact own_string (P := Try.prog) Try.underlying50 Try.underlying5 Try.underlying9 (Kd.own_of_R (Kd.R_drewN (Kd.R_drewN HO_3.out _) _)) | exact own_string (P := Try.prog) Try.underlying50 Try.underlying5 Try.underlying9 (Kd.own_of_R (Kd.R_drewN (Kd.R_drewN (Kd.R_drewN HO_3.out _) _) _)))⟩ (fun hHeld => ?_)
                clear hK K
                refine norm_ (a' := ?_) ?_ ?_
                rotate_left
                · show Act.put _ (some 42) _ = _
                  simp only [Act.put, List.setIfInBounds_toArray, List.set_cons_zero, List.set_cons_succ, i64_w, i32_w, IntKind.wrap_u32]
                  rfl
                refine pure_ (i := 5) (N := some 43) (v := ?_) (a' := ?_) #[true, true, true, true, true, true, false, false, false, false, false, false, false, false, false, false, false, false, false, false, false] rfl rfl (any_of HT_.out (by kernel_rfl)) (fun _ _ _ h => h) (Or.inl ⟨by rfl, ?_⟩) ?_ ?_
                rotate_left
                · intro w'
                  go_simp
                  with_reducible rfl
                rotate_left
                · simp only [Act.put, List.setIfInBounds_toArray, List.set_cons_zero, List.set_cons_succ, i64_w, i32_w, IntKind.wrap_u32]
                  rfl
                refine pure_ (i := 6) (N := some 44) (v := ?_) (a' := ?_) #[true, true, true, true, true, true, true, false, false, false, false, false, false, false, false, false, false, false, false, false, false] rfl rfl (any_of HT_.out (by kernel_rfl)) (fun _ _ _ h => h) (Or.inl ⟨by rfl, ?_⟩) ?_ ?_
                rotate_left
                · intro w'
                  go_simp
                  with_reducible rfl
                rotate_left
                · simp only [Act.put, List.setIfInBounds_toArray, List.set_cons_zero, List.set_cons_succ, i64_w, i32_w, IntKind.wrap_u32]
                  rfl
                refine pure_ (i := 7) (N := some 45) (v := ?_) (a' := ?_) #[true, true, true, true, true, true, true, true, false, false, false, false, false, false, false, false, false, false, false, false, false] rfl rfl (any_of HT_.out (by kernel_rfl)) (fun _ _ _ h => h) (Or.inl ⟨by rfl, ?_⟩) ?_ ?_
                rotate_left
                · intro w'
                  go_simp
                  with_reducible rfl
                rotate_left
                · simp only [Act.put, List.setIfInBounds_toArray, List.set_cons_zero, List.set_cons_succ, i64_w, i32_w, IntKind.wrap_u32]
                  rfl
                refine pure_ (i := 8) (N := some 46) (v := ?_) (a' := ?_) #[true, true, true, true, true, true, true, true, true, false, false, false, false, false, false, false, false, false, false, false, false] rfl rfl (any_of HT_.out (by kernel_rfl)) (fun _ _ _ h => h) (Or.inl ⟨by rfl, ?_⟩) ?_ ?_
                rotate_left
                · intro w'
                  go_simp
                  with_reducible rfl
                rotate_left
                · simp only [Act.put, List.setIfInBounds_toArray, List.set_cons_zero, List.set_cons_succ, i64_w, i32_w, IntKind.wrap_u32]
                  rfl
                refine pure_ (i := 9) (N := some 47) (v := ?_) (a' := ?_) #[true, true, true, true, true, true, true, true, true, true, false, false, false, false, false, false, false, false, false, false, false] rfl rfl (any_of HT_.out (by kernel_rfl)) (fun _ _ _ h => h) (Or.inl ⟨by rfl, ?_⟩) ?_ ?_
                rotate_left
                · intro w'
                  go_simp
                  with_reducible rfl
                rotate_left
                · simp only [Act.put, List.setIfInBounds_toArray, List.set_cons_zero, List.set_cons_succ, i64_w, i32_w, IntKind.wrap_u32]
                  rfl
                refine pure_ (i := 10) (N := some 48) (v := ?_) (a' := ?_) #[true, true, true, true, true, true, true, true, true, true, true, false, false, false, false, false, false, false, false, false, false] rfl rfl (any_of HT_.out (by kernel_rfl)) (fun _ _ _ h => h) (Or.inl ⟨by rfl, ?_⟩) ?_ ?_
                rotate_left
                · intro w'
                  go_simp
                  with_reducible rfl
                rotate_left
                · simp only [Act.put, List.setIfInBounds_toArray, List.set_cons_zero, List.set_cons_succ, i64_w, i32_w, IntKind.wrap_u32]
                  rfl
                refine take_ (i := 11) (N := some 49) (v := ?_) (a' := ?_) #[true, true, true, true, true, true, true, true, true, true, true, true, false, false, false, false, false, false, false, false, false] rfl rfl (take_ofW HT_.out HW_.out (by kernel_rfl)) (fun _ _ _ h => h) (Or.inl ⟨by rfl, ?_⟩) hHeld ?_ ?_
                rotate_left
                · rintro w' ⟨s0, s1, s2, s3, s4, s5, s6, s7, s8, s9, s10⟩
                  go_simp
                  with_reducible rfl
                rotate_left
                · simp only [Act.put, List.setIfInBounds_toArray, List.set_cons_zero, List.set_cons_succ, i64_w, i32_w, IntKind.wrap_u32]
                  rfl
                refine take_ (i := 13) (N := some 51) (v := ?_) (a' := ?_) #[true, true, true, true, true, true, true, true, true, true, true, true, false, true, false, false, false, false, false, false, false] rfl rfl (take_ofW HT_.out HW_.out (by kernel_rfl)) (fun _ _ _ h => h) (Or.inl ⟨by rfl, ?_⟩) hHeld ?_ ?_
                rotate_left
                · rintro w' ⟨s0, s1, s2, s3, s4, s5, s6, s7, s8, s9, s10⟩
                  go_simp
                  with_reducible rfl
                rotate_left
                · simp only [Act.put, List.setIfInBounds_toArray, List.set_cons_zero, List.set_cons_succ, i64_w, i32_w, IntKind.wrap_u32]
                  rfl
                refine one_ (i := 12) (N := some 50) #[true, true, true, true, true, true, true, true, true, true, true, true, true, true, false, false, false, false, false, false, false] rfl rfl (one_of HT_.out (by kernel_rfl)) (by decide) (fun K hK => ?_)
                refine goes_ Try.func30 (by kernel_rfl) rfl #[.agg #[.int .i64 t230, .int .u32 t231, .int .i64 t232, .int .i64 t233, .int .i64 t234]] (by rfl) rfl rfl (by (try simp only [List.map_toArray, List.map_cons, List.map_nil]); first | done | rfl | (simp only [List.length_drop, List.length_take]; rfl)) ?_
                with_reducible refine (credenzalaw23_ref.calls t230 t231 t232 t233 t234 t243 t244 t245 t246 t247 _ A25.out).mono ?_
                rintro e w50 ⟨rfl, hb⟩
                refine ⟨_, rfl, ?_⟩
                have n0_ := Aside0.mk (Kd.R_below (by (with_reducible repeat (first | apply Kd.R_alloc | apply Kd.R_drewN | apply Kd.R_drew)); exact HO_3.out) hb)
                have n1_ := Aside0.mk (blk_below (g := gb217) (o := .cells #[.int .i64 a0_0, .int .u32 a0_1, .int .i64 a0_2, .int .i64 a0_3, .int .i64 a0_4] 49 (0, 0)) (by (with_reducible repeat (first | refine blk_drewN ?_ _ | refine blk_drew ?_ | refine blk_alloc ?_ _)); exact BK217.out) hb)
                have n2_ := Aside0.mk (blk_below (g := gb236) (o := .cells #[.int .i64 t230, .int .u32 t231, .int .i64 t232, .int .i64 t233, .int .i64 t234] 49 (0, 0)) (by (with_reducible repeat (first | refine blk_drewN ?_ _ | refine blk_drew ?_ | refine blk_alloc ?_ _)); exact BK236.out) hb)
                have n3_ := Aside0.mk (below_step (by repeat (first | (with_reducible first | exact HB.out | apply below_alloc | apply pw_below_drewN | apply below_drew1 | refine below_set ?_ GE217.out | refine below_set ?_ GE236.out) | exact HB.out)) hb)
                clear HO_3
                clear BK217
                clear BK236
                clear HB
                have HO_3 := n0_
                have BK217 := n1_
                have BK236 := n2_
                have HB := n3_
                clear n0_ n1_ n2_ n3_
                (try clear hb)
                (try clear hb2)
                (try clear hk)
                (try clear hi)
                refine hK.out _ _ ⟨(blk_cell BK217.out 0).trans rfl, (blk_cell BK217.out 1).trans rfl, (blk_cell BK217.out 2).trans rfl, (blk_cell BK217.out 3).trans rfl, (blk_cell BK217.out 4).trans rfl, (blk_cell BK236.out 0).trans rfl, (blk_cell BK236.out 1).trans rfl, (blk_cell BK236.out 2).trans rfl, (blk_cell BK236.out 3).trans rfl, (blk_cell BK236.out 4).trans rfl, (by first | exact own_string (P := Try.prog) Try.underlying50 Try.underlying5 Try.underlying9 (Kd.own_of_R HO_3.out) | exact own_string (P := Try.prog) Try.underlying50 Try.underlying5 Try.underlying9 (Kd.own_of_R (Kd.R_drewN HO_3.out _)) | exact own_string (P := Try.prog) Try.underlying50 Try.underlying5 Try.underlying9 (Kd.own_of_R (Kd.R_drewN (Kd.R_drewN HO_3.out _) _)) | exact own_string (P := Try.prog) Try.underlying50 Try.underlying5 Try.underlying9 (Kd.own_of_R (Kd.R_drewN (Kd.R_drewN (Kd.R_drewN HO_3.out _) _) _)))⟩ (fun hHeld => ?_)
                clear hK K
                refine norm_ (a' := ?_) ?_ ?_
                rotate_left
                · show Act.put _ (some 50) _ = _
                  simp only [Act.put, List.setIfInBounds_toArray, List.set_cons_zero, List.set_cons_succ, i64_w, i32_w, IntKind.wrap_u32]
                  rfl
                refine one_ (i := 14) (N := some 52) #[true, true, true, true, true, true, true, true, true, true, true, true, true, true, true, false, false, false, false, false, false] rfl rfl (one_of HT_.out (by kernel_rfl)) (by decide) (fun K hK => ?_)
                refine goes_ Try.func30 (by kernel_rfl) rfl #[.agg #[.int .i64 a0_0, .int .u32 a0_1, .int .i64 a0_2, .int .i64 a0_3, .int .i64 a0_4]] (by rfl) rfl rfl (by (try simp only [List.map_toArray, List.map_cons, List.map_nil]); first | done | rfl | (simp only [List.length_drop, List.length_take]; rfl)) ?_
                with_reducible refine (credenzalaw23_ref.calls a0_0 a0_1 a0_2 a0_3 a0_4 t248 t249 t250 t251 t252 _ A26.out).mono ?_
                rintro e w51 ⟨rfl, hb⟩
                refine ⟨_, rfl, ?_⟩
                have n0_ := Aside0.mk (Kd.R_below (by (with_reducible repeat (first | apply Kd.R_alloc | apply Kd.R_drewN | apply Kd.R_drew)); exact HO_3.out) hb)
                have n1_ := Aside0.mk (blk_below (g := gb217) (o := .cells #[.int .i64 a0_0, .int .u32 a0_1, .int .i64 a0_2, .int .i64 a0_3, .int .i64 a0_4] 49 (0, 0)) (by (with_reducible repeat (first | refine blk_drewN ?_ _ | refine blk_drew ?_ | refine blk_alloc ?_ _)); exact BK217.out) hb)
                have n2_ := Aside0.mk (blk_below (g := gb236) (o := .cells #[.int .i64 t230, .int .u32 t231, .int .i64 t232, .int .i64 t233, .int .i64 t234] 49 (0, 0)) (by (with_reducible repeat (first | refine blk_drewN ?_ _ | refine blk_drew ?_ | refine blk_alloc ?_ _)); exact BK236.out) hb)
                have n3_ := Aside0.mk (below_step (by repeat (first | (with_reducible first | exact HB.out | apply below_alloc | apply pw_below_drewN | apply below_drew1 | refine below_set ?_ GE217.out | refine below_set ?_ GE236.out) | exact HB.out)) hb)
                clear HO_3
                clear BK217
                clear BK236
                clear HB
                have HO_3 := n0_
                have BK217 := n1_
                have BK236 := n2_
                have HB := n3_
                clear n0_ n1_ n2_ n3_
                (try clear hb)
                (try clear hb2)
                (try clear hk)
                (try clear hi)
                refine hK.out _ _ ⟨(blk_cell BK217.out 0).trans rfl, (blk_cell BK217.out 1).trans rfl, (blk_cell BK217.out 2).trans rfl, (blk_cell BK217.out 3).trans rfl, (blk_cell BK217.out 4).trans rfl, (blk_cell BK236.out 0).trans rfl, (blk_cell BK236.out 1).trans rfl, (blk_cell BK236.out 2).trans rfl, (blk_cell BK236.out 3).trans rfl, (blk_cell BK236.out 4).trans rfl, (by first | exact own_string (P := Try.prog) Try.underlying50 Try.underlying5 Try.underlying9 (Kd.own_of_R HO_3.out) | exact own_string (P := Try.prog) Try.underlying50 Try.underlying5 Try.underlying9 (Kd.own_of_R (Kd.R_drewN HO_3.out _)) | exact own_string (P := Try.prog) Try.underlying50 Try.underlying5 Try.underlying9 (Kd.own_of_R (Kd.R_drewN (Kd.R_drewN HO_3.out _) _)) | exact own_string (P := Try.prog) Try.underlying50 Try.underlying5 Try.underlying9 (Kd.own_of_R (Kd.R_drewN (Kd.R_drewN (Kd.R_drewN HO_3.out _) _) _)))⟩ (fun hHeld => ?_)
                clear hK K
                refine norm_ (a' := ?_) ?_ ?_
                rotate_left
                · show Act.put _ (some 52) _ = _
                  simp only [Act.put, List.setIfInBounds_toArray, List.set_cons_zero, List.set_cons_succ, i64_w, i32_w, IntKind.wrap_u32]
                  rfl
                refine pure_ (i := 15) (N := some 53) (v := ?_) (a' := ?_) #[true, true, true, true, true, true, true, true, true, true, true, true, true, true, true, true, false, false, false, false, false] rfl rfl (any_of HT_.out (by kernel_rfl)) (fun _ _ _ h => h) (Or.inl ⟨by rfl, ?_⟩) ?_ ?_
                rotate_left
                · intro w'
                  go_simp
                  with_reducible rfl
                rotate_left
                · simp only [Act.put, List.setIfInBounds_toArray, List.set_cons_zero, List.set_cons_succ, i64_w, i32_w, IntKind.wrap_u32]
                  rfl
                refine pure_ (i := 16) (N := some 54) (v := ?_) (a' := ?_) #[true, true, true, true, true, true, true, true, true, true, true, true, true, true, true, true, true, false, false, false, false] rfl rfl (any_of HT_.out (by kernel_rfl)) (fun _ _ _ h => h) (Or.inl ⟨by rfl, ?_⟩) ?_ ?_
                rotate_left
                · intro w'
                  go_simp
                  with_reducible rfl
                rotate_left
                · simp only [Act.put, List.setIfInBounds_toArray, List.set_cons_zero, List.set_cons_succ, i64_w, i32_w, IntKind.wrap_u32]
                  rfl
                refine pure_ (i := 17) (N := some 55) (v := ?_) (a' := ?_) #[true, true, true, true, true, true, true, true, true, true, true, true, true, true, true, true, true, true, false, false, false] rfl rfl (any_of HT_.out (by kernel_rfl)) (fun _ _ _ h => h) (Or.inl ⟨by rfl, ?_⟩) ?_ ?_
                rotate_left
                · intro w'
                  go_simp
                  with_reducible rfl
                rotate_left
                · simp only [Act.put, List.setIfInBounds_toArray, List.set_cons_zero, List.set_cons_succ, i64_w, i32_w, IntKind.wrap_u32]
                  rfl
                refine pure_ (i := 18) (N := some 56) (v := undef) (a' := ?_) #[true, true, true, true, true, true, true, true, true, true, true, true, true, true, true, true, true, true, true, false, false] rfl rfl (any_of HT_.out (by kernel_rfl)) (fun _ _ _ h => h) (Or.inr ⟨by rfl, rfl⟩) ?_ ?_
                rotate_left
                · simp only [Act.put, List.setIfInBounds_toArray, List.set_cons_zero, List.set_cons_succ, i64_w, i32_w, IntKind.wrap_u32]
                  rfl
                refine pure_ (i := 19) (N := some 57) (v := ?_) (a' := ?_) #[true, true, true, true, true, true, true, true, true, true, true, true, true, true, true, true, true, true, true, true, false] rfl rfl (any_of HT_.out (by kernel_rfl)) (fun _ _ _ h => h) (Or.inl ⟨by rfl, ?_⟩) ?_ ?_
                rotate_left
                · intro w'
                  go_simp
                  with_reducible rfl
                rotate_left
                · simp only [Act.put, List.setIfInBounds_toArray, List.set_cons_zero, List.set_cons_succ, i64_w, i32_w, IntKind.wrap_u32]
                  rfl
                refine pure_ (i := 20) (N := some 2) (v := ?_) (a' := ?_) #[true, true, true, true, true, true, true, true, true, true, true, true, true, true, true, true, true, true, true, true, true] rfl rfl (any_of HT_.out (by kernel_rfl)) (fun _ _ _ h => h) (Or.inl ⟨by rfl, ?_⟩) ?_ ?_
                rotate_left
                · intro w'
                  go_simp
                  with_reducible rfl
                rotate_left
                · simp only [Act.put, List.setIfInBounds_toArray, List.set_cons_zero, List.set_cons_succ, i64_w, i32_w, IntKind.wrap_u32]
                  rfl
                refine done_ (done_of HT_.out (by kernel_rfl)) ?_
                try go_wp2
                go_ret
                exact ⟨by first | rfl | (simp [errW_none, errW_some] <;> rfl) | (simp [*, errW_none, errW_some] <;> rfl), by repeat (first | (with_reducible first | exact HB.out | apply below_alloc | apply pw_below_drewN | apply below_drew1 | refine below_set ?_ GE217.out | refine below_set ?_ GE236.out) | exact HB.out)⟩
            · rw [if_neg c24] at H
              have c24b0 : (t235 == 0) = false := beq_eq_false_iff_ne.mpr c24
              have c24b1 : (t235 != 0) = true := bne_iff_ne.mpr c24
              obtain rfl := Option.some.inj H
              obtain ⟨Ao52, co52, eo52⟩ := Kd.R_slice HO_3.out
              subst eo52
              try go_wp2_with (first | ((with_reducible refine gate_callee (f := 33) rfl ?_); refine goesL_ (some 35) rfl rfl Try.func33 (by kernel_rfl) rfl #[.slice Ao52 t218.length co52] rfl (by (try simp only [List.map_toArray, List.map_cons, List.map_nil]); first | done | rfl | (simp only [List.length_drop, List.length_take]; rfl)) ?_; (with_reducible refine (tell_Parse.calls kj4 _ _ t218 t230 t231 t232 t233 t234 t235 _ ?side1 ?side2 A20.out).mono ?_); (case side1 => repeat (first | exact (Kd.R_reads' HO_3.out).2.2 | (with_reducible refine Kd.C_alloc ?_ _) | (with_reducible refine Kd.C_drewN ?_ _) | (with_reducible refine Kd.C_drew ?_))); (case side2 => exact (Kd.R_reads' HO_3.out).2.1); rintro e w53 ⟨rfl, hb⟩; refine ⟨_, rfl, ?_⟩; have n0_ := Aside0.mk (Kd.R_below (by (with_reducible repeat (first | apply Kd.R_alloc | apply Kd.R_drewN | apply Kd.R_drew)); exact HO_3.out) hb); have n1_ := Aside0.mk (blk_below (g := gb217) (o := .cells #[.int .i64 a0_0, .int .u32 a0_1, .int .i64 a0_2, .int .i64 a0_3, .int .i64 a0_4] 49 (0, 0)) (by (with_reducible repeat (first | refine blk_drewN ?_ _ | refine blk_drew ?_ | refine blk_alloc ?_ _)); exact BK217.out) hb); have n2_ := Aside0.mk (below_step (by repeat (first | (with_reducible first | exact HB.out | apply below_alloc | apply pw_below_drewN | apply below_drew1 | refine below_set ?_ GE217.out) | exact HB.out)) hb); clear HO_3; clear BK217; clear HB; have HO_3 := n0_; have BK217 := n1_; have HB := n2_; clear n0_ n1_ n2_; (try clear hb); (try clear hb2); (try clear hk); (try clear hi)) | ((with_reducible refine gate_dst (N := 6) rfl ?_); refine box_event ?hg (N := 6) ?hd (cs := #[.int .i64 0, .int .u32 0, .int .i64 0, .int .i64 0, .int .i64 0]) (t := 49) ?hr ?_; (case hd => rfl); (case hg => rfl); (case hr => first | (go_simp; done) | (go_simp; rfl)); intro gb236 hg w54 hbox hb; have n0_ := Aside0.mk (Kd.R_below (by (with_reducible repeat (first | apply Kd.R_alloc | apply Kd.R_drewN | apply Kd.R_drew)); exact HO_3.out) hb); have n1_ := Aside0.mk (blk_below (g := gb217) (o := .cells #[.int .i64 a0_0, .int .u32 a0_1, .int .i64 a0_2, .int .i64 a0_3, .int .i64 a0_4] 49 (0, 0)) (by (with_reducible repeat (first | refine blk_drewN ?_ _ | refine blk_drew ?_ | refine blk_alloc ?_ _)); exact BK217.out) hb); have n2_ := Aside0.mk (below_step (by repeat (first | (with_reducible first | exact HB.out | apply below_alloc | apply pw_below_drewN | apply below_drew1 | refine below_set ?_ GE217.out) | exact HB.out)) hb); have n3_ := Aside0.mk (hbox); have n4_ := Aside0.mk ((by rw [hg]; exact (below_size (by repeat (first | (with_reducible first | exact HB.out | apply below_alloc | apply pw_below_drewN | apply below_drew1 | refine below_set ?_ GE217.out) | exact HB.out))) : w.heap.size ≤ gb236)); have n5_ := Aside0.mk ((by rw [hg]; exact (below_size (by repeat (first | (with_reducible first | exact HB.out | apply below_alloc | apply pw_below_drewN | apply below_drew1 | refine below_set ?_ GE217.out) | exact HB.out))) : w.heap.size ≤ gb236)); have n6_ := Aside0.mk ((by rw [hg]; exact Nat.ne_of_lt (blk_lt (g := gb217) (o := .cells #[.int .i64 a0_0, .int .u32 a0_1, .int .i64 a0_2, .int .i64 a0_3, .int .i64 a0_4] 49 (0, 0)) (by (with_reducible repeat (first | refine blk_drewN ?_ _ | refine blk_drew ?_ | refine blk_alloc ?_ _)); exact BK217.out)) : gb217 ≠ gb236)); have n7_ := Aside0.mk ((by rw [hg]; exact Nat.ne_of_gt (blk_lt (g := gb217) (o := .cells #[.int .i64 a0_0, .int .u32 a0_1, .int .i64 a0_2, .int .i64 a0_3, .int .i64 a0_4] 49 (0, 0)) (by (with_reducible repeat (first | refine blk_drewN ?_ _ | refine blk_drew ?_ | refine blk_alloc ?_ _)); exact BK217.out)) : gb236 ≠ gb217)); clear HO_3; clear BK217; clear HB; have HO_3 := n0_; have BK217 := n1_; have HB := n2_; have BK236 := n3_; have GW236 := n4_; have GE236 := n5_; have NB217_236 := n6_; have NB236_217 := n7_; clear n0_ n1_ n2_ n3_ n4_ n5_ n6_ n7_; clear hb hbox hg; have hnb55 := NB236_217.out; have hnc55 := NB217_236.out; have hcz56_0 : w54.cell? ⟨gb236, 0, none⟩ = some (.int .i64 0) := (blk_cell BK236.out 0).trans rfl; have hcz56_1 : w54.cell? ⟨gb236, 1, none⟩ = some (.int .u32 0) := (blk_cell BK236.out 1).trans rfl; have hcz56_2 : w54.cell? ⟨gb236, 2, none⟩ = some (.int .i64 0) := (blk_cell BK236.out 2).trans rfl; have hcz56_3 : w54.cell? ⟨gb236, 3, none⟩ = some (.int .i64 0) := (blk_cell BK236.out 3).trans rfl; have hcz56_4 : w54.cell? ⟨gb236, 4, none⟩ = some (.int .i64 0) := (blk_cell BK236.out 4).trans rfl; have hfz56_0 := blk_frozen BK236.out 0; have hfz56_1 := blk_frozen BK236.out 1; have hfz56_2 := blk_frozen BK236.out 2; have hfz56_3 := blk_frozen BK236.out 3; have hfz56_4 := blk_frozen BK236.out 4))
              have n0_ : Aside0 (Kd.R (Kd.int .u8) 5 (((((w54.setCell ⟨gb236, 0, none⟩ (.int .i64 t230)).setCell ⟨gb236, 1, none⟩ (.int .u32 t231)).setCell ⟨gb236, 2, none⟩ (.int .i64 t232)).setCell ⟨gb236, 3, none⟩ (.int .i64 t233)).setCell ⟨gb236, 4, none⟩ (.int .i64 t234)) w.heap.size (fun _ => True) (.slice Ao52 t218.length co52) t218) := ⟨by (with_reducible repeat (first | apply Kd.R_alloc | apply Kd.R_drewN | apply Kd.R_drew)); exact Kd.R_mono (Kd.R_far (p := ⟨gb236, 4, none⟩) (Kd.R_far (p := ⟨gb236, 3, none⟩) (Kd.R_far (p := ⟨gb236, 2, none⟩) (Kd.R_far (p := ⟨gb236, 1, none⟩) (Kd.R_far (p := ⟨gb236, 0, none⟩) (Kd.R_types HO_3.out BK236.out (by decide)) (fun _ hk => hk.2) (.int .i64 t230)) (fun _ hk => hk.2) (.int .u32 t231)) (fun _ hk => hk.2) (.int .i64 t232)) (fun _ hk => hk.2) (.int .i64 t233)) (fun _ hk => hk.2) (.int .i64 t234)) (fun _ hk => trivial)⟩
              have n1_ : Aside0 ((((((w54.setCell ⟨gb236, 0, none⟩ (.int .i64 t230)).setCell ⟨gb236, 1, none⟩ (.int .u32 t231)).setCell ⟨gb236, 2, none⟩ (.int .i64 t232)).setCell ⟨gb236, 3, none⟩ (.int .i64 t233)).setCell ⟨gb236, 4, none⟩ (.int .i64 t234)).heap[gb217]? = some (.cells #[.int .i64 a0_0, .int .u32 a0_1, .int .i64 a0_2, .int .i64 a0_3, .int .i64 a0_4] 49 (0, 0))) := ⟨by (with_reducible repeat (first | refine blk_drewN ?_ _ | refine blk_drew ?_ | refine blk_alloc ?_ _)); refine blk_far ?_ NB217_236.out _; (with_reducible repeat (first | refine blk_drewN ?_ _ | refine blk_drew ?_ | refine blk_alloc ?_ _)); refine blk_far ?_ NB217_236.out _; (with_reducible repeat (first | refine blk_drewN ?_ _ | refine blk_drew ?_ | refine blk_alloc ?_ _)); refine blk_far ?_ NB217_236.out _; (with_reducible repeat (first | refine blk_drewN ?_ _ | refine blk_drew ?_ | refine blk_alloc ?_ _)); refine blk_far ?_ NB217_236.out _; (with_reducible repeat (first | refine blk_drewN ?_ _ | refine blk_drew ?_ | refine blk_alloc ?_ _)); refine blk_far ?_ NB217_236.out _; (with_reducible repeat (first | refine blk_drewN ?_ _ | refine blk_drew ?_ | refine blk_alloc ?_ _)); exact BK217.out⟩
              have n2_ : Aside0 ((((((w54.setCell ⟨gb236, 0, none⟩ (.int .i64 t230)).setCell ⟨gb236, 1, none⟩ (.int .u32 t231)).setCell ⟨gb236, 2, none⟩ (.int .i64 t232)).setCell ⟨gb236, 3, none⟩ (.int .i64 t233)).setCell ⟨gb236, 4, none⟩ (.int .i64 t234)).heap[gb236]? = some (.cells #[.int .i64 t230, .int .u32 t231, .int .i64 t232, .int .i64 t233, .int .i64 t234] 49 (0, 0))) := ⟨by (with_reducible repeat (first | refine blk_drewN ?_ _ | refine blk_drew ?_ | refine blk_alloc ?_ _)); refine blk_put (cs := #[.int .i64 t230, .int .u32 t231, .int .i64 t232, .int .i64 t233, .int .i64 0]) ?_ 4 _ rfl; (with_reducible repeat (first | refine blk_drewN ?_ _ | refine blk_drew ?_ | refine blk_alloc ?_ _)); refine blk_put (cs := #[.int .i64 t230, .int .u32 t231, .int .i64 t232, .int .i64 0, .int .i64 0]) ?_ 3 _ rfl; (with_reducible repeat (first | refine blk_drewN ?_ _ | refine blk_drew ?_ | refine blk_alloc ?_ _)); refine blk_put (cs := #[.int .i64 t230, .int .u32 t231, .int .i64 0, .int .i64 0, .int .i64 0]) ?_ 2 _ rfl; (with_reducible repeat (first | refine blk_drewN ?_ _ | refine blk_drew ?_ | refine blk_alloc ?_ _)); refine blk_put (cs := #[.int .i64 t230, .int .u32 0, .int .i64 0, .int .i64 0, .int .i64 0]) ?_ 1 _ rfl; (with_reducible repeat (first | refine blk_drewN ?_ _ | refine blk_drew ?_ | refine blk_alloc ?_ _)); refine blk_put (cs := #[.int .i64 0, .int .u32 0, .int .i64 0, .int .i64 0, .int .i64 0]) ?_ 0 _ rfl; (with_reducible repeat (first | refine blk_drewN ?_ _ | refine blk_drew ?_ | refine blk_alloc ?_ _)); exact BK236.out⟩
              have n3_ : Aside0 (Below w.heap.size w (((((w54.setCell ⟨gb236, 0, none⟩ (.int .i64 t230)).setCell ⟨gb236, 1, none⟩ (.int .u32 t231)).setCell ⟨gb236, 2, none⟩ (.int .i64 t232)).setCell ⟨gb236, 3, none⟩ (.int .i64 t233)).setCell ⟨gb236, 4, none⟩ (.int .i64 t234))) := ⟨by repeat (first | (with_reducible first | exact HB.out | apply below_alloc | apply pw_below_drewN | apply below_drew1 | refine below_set ?_ GE217.out | refine below_set ?_ GE236.out) | exact HB.out)⟩
              (try clear HO_3)
              (try clear BK217)
              (try clear BK236)
              (try clear HB)
              generalize (((((w54.setCell ⟨gb236, 0, none⟩ (.int .i64 t230)).setCell ⟨gb236, 1, none⟩ (.int .u32 t231)).setCell ⟨gb236, 2, none⟩ (.int .i64 t232)).setCell ⟨gb236, 3, none⟩ (.int .i64 t233)).setCell ⟨gb236, 4, none⟩ (.int .i64 t234)) = w57 at n0_ n1_ n2_ n3_ ⊢
              have HO_3 := n0_
              have BK217 := n1_
              have BK236 := n2_
              have HB := n3_
              clear n0_ n1_ n2_ n3_
              have n0_ := Aside0.mk (Kd.R_drew HO_3.out)
              have n1_ := Aside0.mk (blk_drew BK217.out)
              have n2_ := Aside0.mk (blk_drew BK236.out)
              have n3_ := Aside0.mk (below_drew1 HB.out)
              clear HO_3
              clear BK217
              clear BK236
              clear HB
              have HO_3 := n0_
              have BK217 := n1_
              have BK236 := n2_
              have HB := n3_
              clear n0_ n1_ n2_ n3_
              refine start_ (n := 21) (S := fun w' => w'.cell? ⟨gb217, 0, none⟩ = some (.int .i64 a0_0) ∧ w'.cell? ⟨gb217, 1, none⟩ = some (.int .u32 a0_1) ∧ w'.cell? ⟨gb217, 2, none⟩ = some (.int .i64 a0_2) ∧ w'.cell? ⟨gb217, 3, none⟩ = some (.int .i64 a0_3) ∧ w'.cell? ⟨gb217, 4, none⟩ = some (.int .i64 a0_4) ∧ (convert 50 9 (.slice Ao52 t218.length co52)).run Try.prog w' = .ok (.string (strOfNums t218)) w') (ds := []) #[false, false, false, false, false, false, false, false, false, false, false, false, false, false, false, false, false, false, false, false, false] (by kernel_rfl) rfl rfl ⟨(blk_cell BK217.out 0).trans rfl, (blk_cell BK217.out 1).trans rfl, (blk_cell BK217.out 2).trans rfl, (blk_cell BK217.out 3).trans rfl, (blk_cell BK217.out 4).trans rfl, (by first | exact own_string (P := Try.prog) Try.underlying50 Try.underlying5 Try.underlying9 (Kd.own_of_R HO_3.out) | exact own_string (P := Try.prog) Try.underlying50 Try.underlying5 Try.underlying9 (Kd.own_of_R (Kd.R_drewN HO_3.out _)) | exact own_string (P := Try.prog) Try.underlying50 Try.underlying5 Try.underlying9 (Kd.own_of_R (Kd.R_drewN (Kd.R_drewN HO_3.out _) _)) | exact own_string (P := Try.prog) Try.underlying50 Try.underlying5 Try.underlying9 (Kd.own_of_R (Kd.R_drewN (Kd.R_drewN (Kd.R_drewN HO_3.out _) _) _)))⟩ (fun hHeld => ?_); refine with_tabW credenzalaw23_TellBytes.tab8 credenzalaw23_TellBytes.bits8 (fun HT_ HW_ => ?_)
              generalize w57.drew = w58 at HO_3 BK217 BK236 HB hHeld ⊢
              refine pure_ (i := 0) (N := some 38) (v := ?_) (a' := ?_) #[true, false, false, false, false, false, false, false, false, false, false, false, false, false, false, false, false, false, false, false, false] rfl rfl (any_of HT_.out (by kernel_rfl)) (fun _ _ _ h => h) (Or.inl ⟨by rfl, ?_⟩) ?_ ?_
              rotate_left
              · intro w'
                go_simp
                with_reducible rfl
              rotate_left
              · simp only [Act.put, List.setIfInBounds_toArray, List.set_cons_zero, List.set_cons_succ, i64_w, i32_w, IntKind.wrap_u32]
                rfl
              refine take_ (i := 1) (N := some 39) (v := ?_) (a' := ?_) #[true, true, false, false, false, false, false, false, false, false, false, false, false, false, false, false, false, false, false, false, false] rfl rfl (take_ofW HT_.out HW_.out (by kernel_rfl)) (fun _ _ _ h => h) (Or.inl ⟨by rfl, ?_⟩) hHeld ?_ ?_
              rotate_left
              · rintro w' ⟨s0, s1, s2, s3, s4, s5⟩
                go_simp
                with_reducible rfl
              rotate_left
              · simp only [Act.put, List.setIfInBounds_toArray, List.set_cons_zero, List.set_cons_succ, i64_w, i32_w, IntKind.wrap_u32]
                rfl
              refine take_ (i := 2) (N := some 40) (v := ?_) (a' := ?_) #[true, true, true, false, false, false, false, false, false, false, false, false, false, false, false, false, false, false, false, false, false] rfl rfl (take_ofW HT_.out HW_.out (by kernel_rfl)) (fun _ _ _ h => h) (Or.inl ⟨by rfl, ?_⟩) hHeld ?_ ?_
              rotate_left
              · rintro w' ⟨s0, s1, s2, s3, s4, s5⟩
                go_simp
                with_reducible rfl
              rotate_left
              · simp only [Act.put, List.setIfInBounds_toArray, List.set_cons_zero, List.set_cons_succ, i64_w, i32_w, IntKind.wrap_u32]
                rfl
              refine one_ (i := 3) (N := some 41) #[true, true, true, true, false, false, false, false, false, false, false, false, false, false, false, false, false, false, false, false, false] rfl rfl (one_of HT_.out (by kernel_rfl)) (by decide) (fun K hK => ?_)
              refine goes_ Try.func30 (by kernel_rfl) rfl #[.agg #[.int .i64 a0_0, .int .u32 a0_1, .int .i64 a0_2, .int .i64 a0_3, .int .i64 a0_4]] (by rfl) rfl rfl (by (try simp only [List.map_toArray, List.map_cons, List.map_nil]); first | done | rfl | (simp only [List.length_drop, List.length_take]; rfl)) ?_
              with_reducible refine (credenzalaw23_ref.calls a0_0 a0_1 a0_2 a0_3 a0_4 t237 t238 t239 t240 t241 _ A21.out).mono ?_
              rintro e w59 ⟨rfl, hb⟩
              refine ⟨_, rfl, ?_⟩
              have n0_ := Aside0.mk (Kd.R_below (by (with_reducible repeat (first | apply Kd.R_alloc | apply Kd.R_drewN | apply Kd.R_drew)); exact HO_3.out) hb)
              have n1_ := Aside0.mk (blk_below (g := gb217) (o := .cells #[.int .i64 a0_0, .int .u32 a0_1, .int .i64 a0_2, .int .i64 a0_3, .int .i64 a0_4] 49 (0, 0)) (by (with_reducible repeat (first | refine blk_drewN ?_ _ | refine blk_drew ?_ | refine blk_alloc ?_ _)); exact BK217.out) hb)
              have n2_ := Aside0.mk (blk_below (g := gb236) (o := .cells #[.int .i64 t230, .int .u32 t231, .int .i64 t232, .int .i64 t233, .int .i64 t234] 49 (0, 0)) (by (with_reducible repeat (first | refine blk_drewN ?_ _ | refine blk_drew ?_ | refine blk_alloc ?_ _)); exact BK236.out) hb)
              have n3_ := Aside0.mk (below_step (by repeat (first | (with_reducible first | exact HB.out | apply below_alloc | apply pw_below_drewN | apply below_drew1 | refine below_set ?_ GE217.out | refine below_set ?_ GE236.out) | exact HB.out)) hb)
              clear HO_3
              clear BK217
              clear BK236
              clear HB
              have HO_3 := n0_
              have BK217 := n1_
              have BK236 := n2_
              have HB := n3_
              clear n0_ n1_ n2_ n3_
              (try clear hb)
              (try clear hb2)
              (try clear hk)
              (try clear hi)
              refine hK.out _ _ ⟨(blk_cell BK217.out 0).trans rfl, (blk_cell BK217.out 1).trans rfl, (blk_cell BK217.out 2).trans rfl, (blk_cell BK217.out 3).trans rfl, (blk_cell BK217.out 4).trans rfl, (by first | exact own_string (P := Try.prog) Try.underlying50 Try.underlying5 Try.underlying9 (Kd.own_of_R HO_3.out) | exact own_string (P := Try.prog) Try.underlying50 Try.underlying5 Try.underlying9 (Kd.own_of_R (Kd.R_drewN HO_3.out _)) | exact own_string (P := Try.prog) Try.underlying50 Try.underlying5 Try.underlying9 (Kd.own_of_R (Kd.R_drewN (Kd.R_drewN HO_3.out _) _)) | exact own_string (P := Try.prog) Try.underlying50 Try.underlying5 Try.underlying9 (Kd.own_of_R (Kd.R_drewN (Kd.R_drewN (Kd.R_drewN HO_3.out _) _) _)))⟩ (fun hHeld => ?_)
              clear hK K
              refine norm_ (a' := ?_) ?_ ?_
              rotate_left
              · show Act.put _ (some 41) _ = _
                simp only [Act.put, List.setIfInBounds_toArray, List.set_cons_zero, List.set_cons_succ, i64_w, i32_w, IntKind.wrap_u32]
                rfl
              refine one_ (i := 4) (N := some 42) #[true, true, true, true, true, false, false, false, false, false, false, false, false, false, false, false, false, false, false, false, false] rfl rfl (one_of HT_.out (by kernel_rfl)) (by decide) (fun K hK => ?_)
              refine goes_ Try.func34 (by kernel_rfl) rfl #[.agg #[.int .i64 t237, .int .u32 t238, .int .i64 t239, .int .i64 t240, .int .i64 t241]] (by rfl) rfl rfl (by (try simp only [List.map_toArray, List.map_cons, List.map_nil]); first | done | rfl | (simp only [List.length_drop, List.length_take]; rfl)) ?_
              with_reducible refine (credenzaref23_Bytes.calls kj4 t237 t238 t239 t240 t241 t242 _ A22.out).mono ?_
              rintro e w60 ⟨rfl, hb⟩
              refine ⟨_, rfl, ?_⟩
              have n0_ := Aside0.mk (Kd.R_below (by (with_reducible repeat (first | apply Kd.R_alloc | apply Kd.R_drewN | apply Kd.R_drew)); exact HO_3.out) hb)
              have n1_ := Aside0.mk (blk_below (g := gb217) (o := .cells #[.int .i64 a0_0, .int .u32 a0_1, .int .i64 a0_2, .int .i64 a0_3, .int .i64 a0_4] 49 (0, 0)) (by (with_reducible repeat (first | refine blk_drewN ?_ _ | refine blk_drew ?_ | refine blk_alloc ?_ _)); exact BK217.out) hb)
              have n2_ := Aside0.mk (blk_below (g := gb236) (o := .cells #[.int .i64 t230, .int .u32 t231, .int .i64 t232, .int .i64 t233, .int .i64 t234] 49 (0, 0)) (by (with_reducible repeat (first | refine blk_drewN ?_ _ | refine blk_drew ?_ | refine blk_alloc ?_ _)); exact BK236.out) hb)
              have n3_ := Aside0.mk (below_step (by repeat (first | (with_reducible first | exact HB.out | apply below_alloc | apply pw_below_drewN | apply below_drew1 | refine below_set ?_ GE217.out | refine below_set ?_ GE236.out) | exact HB.out)) hb)
              clear HO_3
              clear BK217
              clear BK236
              clear HB
              have HO_3 := n0_
              have BK217 := n1_
              have BK236 := n2_
              have HB := n3_
              clear n0_ n1_ n2_ n3_
              (try clear hb)
              (try clear hb2)
              (try clear hk)
              (try clear hi)
              refine hK.out _ _ ⟨(blk_cell BK217.out 0).trans rfl, (blk_cell BK217.out 1).trans rfl, (blk_cell BK217.out 2).trans rfl, (blk_cell BK217.out 3).trans rfl, (blk_cell BK217.out 4).trans rfl, (by first | exact own_string (P := Try.prog) Try.underlying50 Try.underlying5 Try.underlying9 (Kd.own_of_R HO_3.out) | exact own_string (P := Try.prog) Try.underlying50 Try.underlying5 Try.underlying9 (Kd.own_of_R (Kd.R_drewN HO_3.out _)) | exact own_string (P := Try.prog) Try.underlying50 Try.underlying5 Try.underlying9 (Kd.own_of_R (Kd.R_drewN (Kd.R_drewN HO_3.out _) _)) | exact own_string (P := Try.prog) Try.underlying50 Try.underlying5 Try.underlying9 (Kd.own_of_R (Kd.R_drewN (Kd.R_drewN (Kd.R_drewN HO_3.out _) _) _)))⟩ (fun hHeld => ?_)
              clear hK K
              refine norm_ (a' := ?_) ?_ ?_
              rotate_left
              · show Act.put _ (some 42) _ = _
                simp only [Act.put, List.setIfInBounds_toArray, List.set_cons_zero, List.set_cons_succ, i64_w, i32_w, IntKind.wrap_u32]
                rfl
              refine pure_ (i := 5) (N := some 43) (v := ?_) (a' := ?_) #[true, true, true, true, true, true, false, false, false, false, false, false, false, false, false, false, false, false, false, false, false] rfl rfl (any_of HT_.out (by kernel_rfl)) (fun _ _ _ h => h) (Or.inl ⟨by rfl, ?_⟩) ?_ ?_
              rotate_left
              · intro w'
                go_simp
                with_reducible rfl
              rotate_left
              · simp only [Act.put, List.setIfInBounds_toArray, List.set_cons_zero, List.set_cons_succ, i64_w, i32_w, IntKind.wrap_u32]
                rfl
              refine pure_ (i := 6) (N := some 44) (v := ?_) (a' := ?_) #[true, true, true, true, true, true, true, false, false, false, false, false, false, false, false, false, false, false, false, false, false] rfl rfl (any_of HT_.out (by kernel_rfl)) (fun _ _ _ h => h) (Or.inl ⟨by rfl, ?_⟩) ?_ ?_
              rotate_left
              · intro w'
                go_simp
                with_reducible rfl
              rotate_left
              · simp only [Act.put, List.setIfInBounds_toArray, List.set_cons_zero, List.set_cons_succ, i64_w, i32_w, IntKind.wrap_u32]
                rfl
              refine pure_ (i := 7) (N := some 45) (v := ?_) (a' := ?_) #[true, true, true, true, true, true, true, true, false, false, false, false, false, false, false, false, false, false, false, false, false] rfl rfl (any_of HT_.out (by kernel_rfl)) (fun _ _ _ h => h) (Or.inl ⟨by rfl, ?_⟩) ?_ ?_
              rotate_left
              · intro w'
                go_simp
                with_reducible rfl
              rotate_left
              · simp only [Act.put, List.setIfInBounds_toArray, List.set_cons_zero, List.set_cons_succ, i64_w, i32_w, IntKind.wrap_u32]
                rfl
              refine pure_ (i := 8) (N := some 46) (v := ?_) (a' := ?_) #[true, true, true, true, true, true, true, true, true, false, false, false, false, false, false, false, false, false, false, false, false] rfl rfl (any_of HT_.out (by kernel_rfl)) (fun _ _ _ h => h) (Or.inl ⟨by rfl, ?_⟩) ?_ ?_
              rotate_left
              · intro w'
                go_simp
                with_reducible rfl
              rotate_left
              · simp only [Act.put, List.setIfInBounds_toArray, List.set_cons_zero, List.set_cons_succ, i64_w, i32_w, IntKind.wrap_u32]
                rfl
              refine pure_ (i := 9) (N := some 47) (v := ?_) (a' := ?_) #[true, true, true, true, true, true, true, true, true, true, false, false, false, false, false, false, false, false, false, false, false] rfl rfl (any_of HT_.out (by kernel_rfl)) (fun _ _ _ h => h) (Or.inl ⟨by rfl, ?_⟩) ?_ ?_
              rotate_left
              · intro w'
                go_simp
                with_reducible rfl
              rotate_left
              · simp only [Act.put, List.setIfInBounds_toArray, List.set_cons_zero, List.set_cons_succ, i64_w, i32_w, IntKind.wrap_u32]
                rfl
              refine pure_ (i := 10) (N := some 48) (v := ?_) (a' := ?_) #[true, true, true, true, true, true, true, true, true, true, true, false, false, false, false, false, false, false, false, false, false] rfl rfl (any_of HT_.out (by kernel_rfl)) (fun _ _ _ h => h) (Or.inl ⟨by rfl, ?_⟩) ?_ ?_
              rotate_left
              · intro w'
                go_simp
                with_reducible rfl
              rotate_left
              · simp only [Act.put, List.setIfInBounds_toArray, List.set_cons_zero, List.set_cons_succ, i64_w, i32_w, IntKind.wrap_u32]
                rfl
              refine pure_ (i := 11) (N := some 49) (v := undef) (a' := ?_) #[true, true, true, true, true, true, true, true, true, true, true, true, false, false, false, false, false, false, false, false, false] rfl rfl (any_of HT_.out (by kernel_rfl)) (fun _ _ _ h => h) (Or.inr ⟨by rfl, rfl⟩) ?_ ?_
              rotate_left
              · simp only [Act.put, List.setIfInBounds_toArray, List.set_cons_zero, List.set_cons_succ, i64_w, i32_w, IntKind.wrap_u32]
                rfl
              refine pure_ (i := 12) (N := some 50) (v := undef) (a' := ?_) #[true, true, true, true, true, true, true, true, true, true, true, true, true, false, false, false, false, false, false, false, false] rfl rfl (any_of HT_.out (by kernel_rfl)) (fun _ _ _ h => h) (Or.inr ⟨by rfl, rfl⟩) ?_ ?_
              rotate_left
              · simp only [Act.put, List.setIfInBounds_toArray, List.set_cons_zero, List.set_cons_succ, i64_w, i32_w, IntKind.wrap_u32]
                rfl
              refine pure_ (i := 13) (N := some 51) (v := undef) (a' := ?_) #[true, true, true, true, true, true, true, true, true, true, true, true, true, true, false, false, false, false, false, false, false] rfl rfl (any_of HT_.out (by kernel_rfl)) (fun _ _ _ h => h) (Or.inr ⟨by rfl, rfl⟩) ?_ ?_
              rotate_left
              · simp only [Act.put, List.setIfInBounds_toArray, List.set_cons_zero, List.set_cons_succ, i64_w, i32_w, IntKind.wrap_u32]
                rfl
              refine pure_ (i := 14) (N := some 52) (v := undef) (a' := ?_) #[true, true, true, true, true, true, true, true, true, true, true, true, true, true, true, false, false, false, false, false, false] rfl rfl (any_of HT_.out (by kernel_rfl)) (fun _ _ _ h => h) (Or.inr ⟨by rfl, rfl⟩) ?_ ?_
              rotate_left
              · simp only [Act.put, List.setIfInBounds_toArray, List.set_cons_zero, List.set_cons_succ, i64_w, i32_w, IntKind.wrap_u32]
                rfl
              refine pure_ (i := 15) (N := some 53) (v := undef) (a' := ?_) #[true, true, true, true, true, true, true, true, true, true, true, true, true, true, true, true, false, false, false, false, false] rfl rfl (any_of HT_.out (by kernel_rfl)) (fun _ _ _ h => h) (Or.inr ⟨by rfl, rfl⟩) ?_ ?_
              rotate_left
              · simp only [Act.put, List.setIfInBounds_toArray, List.set_cons_zero, List.set_cons_succ, i64_w, i32_w, IntKind.wrap_u32]
                rfl
              refine pure_ (i := 16) (N := some 54) (v := ?_) (a' := ?_) #[true, true, true, true, true, true, true, true, true, true, true, true, true, true, true, true, true, false, false, false, false] rfl rfl (any_of HT_.out (by kernel_rfl)) (fun _ _ _ h => h) (Or.inl ⟨by rfl, ?_⟩) ?_ ?_
              rotate_left
              · intro w'
                go_simp
                with_reducible rfl
              rotate_left
              · simp only [Act.put, List.setIfInBounds_toArray, List.set_cons_zero, List.set_cons_succ, i64_w, i32_w, IntKind.wrap_u32]
                rfl
              refine pure_ (i := 17) (N := some 55) (v := ?_) (a' := ?_) #[true, true, true, true, true, true, true, true, true, true, true, true, true, true, true, true, true, true, false, false, false] rfl rfl (any_of HT_.out (by kernel_rfl)) (fun _ _ _ h => h) (Or.inl ⟨by rfl, ?_⟩) ?_ ?_
              rotate_left
              · intro w'
                go_simp
                with_reducible rfl
              rotate_left
              · simp only [Act.put, List.setIfInBounds_toArray, List.set_cons_zero, List.set_cons_succ, i64_w, i32_w, IntKind.wrap_u32]
                rfl
              refine pure_ (i := 18) (N := some 56) (v := undef) (a' := ?_) #[true, true, true, true, true, true, true, true, true, true, true, true, true, true, true, true, true, true, true, false, false] rfl rfl (any_of HT_.out (by kernel_rfl)) (fun _ _ _ h => h) (Or.inr ⟨by rfl, rfl⟩) ?_ ?_
              rotate_left
              · simp only [Act.put, List.setIfInBounds_toArray, List.set_cons_zero, List.set_cons_succ, i64_w, i32_w, IntKind.wrap_u32]
                rfl
              refine pure_ (i := 19) (N := some 57) (v := ?_) (a' := ?_) #[true, true, true, true, true, true, true, true, true, true, true, true, true, true, true, true, true, true, true, true, false] rfl rfl (any_of HT_.out (by kernel_rfl)) (fun _ _ _ h => h) (Or.inl ⟨by rfl, ?_⟩) ?_ ?_
              rotate_left
              · intro w'
                go_simp
                with_reducible rfl
              rotate_left
              · simp only [Act.put, List.setIfInBounds_toArray, List.set_cons_zero, List.set_cons_succ, i64_w, i32_w, IntKind.wrap_u32]
                rfl
              refine pure_ (i := 20) (N := some 2) (v := ?_) (a' := ?_) #[true, true, true, true, true, true, true, true, true, true, true, true, true, true, true, true, true, true, true, true, true] rfl rfl (any_of HT_.out (by kernel_rfl)) (fun _ _ _ h => h) (Or.inl ⟨by rfl, ?_⟩) ?_ ?_
              rotate_left
              · intro w'
                go_simp
                with_reducible rfl
              rotate_left
              · simp only [Act.put, List.setIfInBounds_toArray, List.set_cons_zero, List.set_cons_succ, i64_w, i32_w, IntKind.wrap_u32]
                rfl
              refine done_ (done_of HT_.out (by kernel_rfl)) ?_
              try go_wp2
              go_ret
              exact ⟨by first | rfl | (simp [errW_none, errW_some] <;> rfl) | (simp [*, errW_none, errW_some] <;> rfl), by repeat (first | (with_reducible first | exact HB.out | apply below_alloc | apply pw_below_drewN | apply below_drew1 | refine below_set ?_ GE217.out | refine below_set ?_ GE236.out) | exact HB.out)⟩
          · rw [if_neg c23] at H
            have c23b0 : ((strOfNums t218).toList == t242.toList) = false := beq_eq_false_iff_ne.mpr c23
            have c23b1 : ((strOfNums t218).toList != t242.toList) = true := bne_iff_ne.mpr c23
            obtain rfl := Option.some.inj H
            obtain ⟨Ao61, co61, eo61⟩ := Kd.R_slice HO_3.out
            subst eo61
            try go_wp2_with (first | ((with_reducible refine gate_callee (f := 33) rfl ?_); refine goesL_ (some 35) rfl rfl Try.func33 (by kernel_rfl) rfl #[.slice Ao61 t218.length co61] rfl (by (try simp only [List.map_toArray, List.map_cons, List.map_nil]); first | done | rfl | (simp only [List.length_drop, List.length_take]; rfl)) ?_; (with_reducible refine (tell_Parse.calls kj4 _ _ t218 t230 t231 t232 t233 t234 t235 _ ?side1 ?side2 A20.out).mono ?_); (case side1 => repeat (first | exact (Kd.R_reads' HO_3.out).2.2 | (with_reducible refine Kd.C_alloc ?_ _) | (with_reducible refine Kd.C_drewN ?_ _) | (with_reducible refine Kd.C_drew ?_))); (case side2 => exact (Kd.R_reads' HO_3.out).2.1); rintro e w62 ⟨rfl, hb⟩; refine ⟨_, rfl, ?_⟩; have n0_ := Aside0.mk (Kd.R_below (by (with_reducible repeat (first | apply Kd.R_alloc | apply Kd.R_drewN | apply Kd.R_drew)); exact HO_3.out) hb); have n1_ := Aside0.mk (blk_below (g := gb217) (o := .cells #[.int .i64 a0_0, .int .u32 a0_1, .int .i64 a0_2, .int .i64 a0_3, .int .i64 a0_4] 49 (0, 0)) (by (with_reducible repeat (first | refine blk_drewN ?_ _ | refine blk_drew ?_ | refine blk_alloc ?_ _)); exact BK217.out) hb); have n2_ := Aside0.mk (below_step (by repeat (first | (with_reducible first | exact HB.out | apply below_alloc | apply pw_below_drewN | apply below_drew1 | refine below_set ?_ GE217.out) | exact HB.out)) hb); clear HO_3; clear BK217; clear HB; have HO_3 := n0_; have BK217 := n1_; have HB := n2_; clear n0_ n1_ n2_; (try clear hb); (try clear hb2); (try clear hk); (try clear hi)) | ((with_reducible refine gate_dst (N := 6) rfl ?_); refine box_event ?hg (N := 6) ?hd (cs := #[.int .i64 0, .int .u32 0, .int .i64 0, .int .i64 0, .int .i64 0]) (t := 49) ?hr ?_; (case hd => rfl); (case hg => rfl); (case hr => first | (go_simp; done) | (go_simp; rfl)); intro gb236 hg w63 hbox hb; have n0_ := Aside0.mk (Kd.R_below (by (with_reducible repeat (first | apply Kd.R_alloc | apply Kd.R_drewN | apply Kd.R_drew)); exact HO_3.out) hb); have n1_ := Aside0.mk (blk_below (g := gb217) (o := .cells #[.int .i64 a0_0, .int .u32 a0_1, .int .i64 a0_2, .int .i64 a0_3, .int .i64 a0_4] 49 (0, 0)) (by (with_reducible repeat (first | refine blk_drewN ?_ _ | refine blk_drew ?_ | refine blk_alloc ?_ _)); exact BK217.out) hb); have n2_ := Aside0.mk (below_step (by repeat (first | (with_reducible first | exact HB.out | apply below_alloc | apply pw_below_drewN | apply below_drew1 | refine below_set ?_ GE217.out) | exact HB.out)) hb); have n3_ := Aside0.mk (hbox); have n4_ := Aside0.mk ((by rw [hg]; exact (below_size (by repeat (first | (with_reducible first | exact HB.out | apply below_alloc | apply pw_below_drewN | apply below_drew1 | refine below_set ?_ GE217.out) | exact HB.out))) : w.heap.size ≤ gb236)); have n5_ := Aside0.mk ((by rw [hg]; exact (below_size (by repeat (first | (with_reducible first | exact HB.out | apply below_alloc | apply pw_below_drewN | apply below_drew1 | refine below_set ?_ GE217.out) | exact HB.out))) : w.heap.size ≤ gb236)); have n6_ := Aside0.mk ((by rw [hg]; exact Nat.ne_of_lt (blk_lt (g := gb217) (o := .cells #[.int .i64 a0_0, .int .u32 a0_1, .int .i64 a0_2, .int .i64 a0_3, .int .i64 a0_4] 49 (0, 0)) (by (with_reducible repeat (first | refine blk_drewN ?_ _ | refine blk_drew ?_ | refine blk_alloc ?_ _)); exact BK217.out)) : gb217 ≠ gb236)); have n7_ := Aside0.mk ((by rw [hg]; exact Nat.ne_of_gt (blk_lt (g := gb217) (o := .cells #[.int .i64 a0_0, .int .u32 a0_1, .int .i64 a0_2, .int .i64 a0_3, .int .i64 a0_4] 49 (0, 0)) (by (with_reducible repeat (first | refine blk_drewN ?_ _ | refine blk_drew ?_ | refine blk_alloc ?_ _)); exact BK217.out)) : gb236 ≠ gb217)); clear HO_3; clear BK217; clear HB; have HO_3 := n0_; have BK217 := n1_; have HB := n2_; have BK236 := n3_; have GW236 := n4_; have GE236 := n5_; have NB217_236 := n6_; have NB236_217 := n7_; clear n0_ n1_ n2_ n3_ n4_ n5_ n6_ n7_; clear hb hbox hg; have hnb64 := NB236_217.out; have hnc64 := NB217_236.out; have hcz65_0 : w63.cell? ⟨gb236, 0, none⟩ = some (.int .i64 0) := (blk_cell BK236.out 0).trans rfl; have hcz65_1 : w63.cell? ⟨gb236, 1, none⟩ = some (.int .u32 0) := (blk_cell BK236.out 1).trans rfl; have hcz65_2 : w63.cell? ⟨gb236, 2, none⟩ = some (.int .i64 0) := (blk_cell BK236.out 2).trans rfl; have hcz65_3 : w63.cell? ⟨gb236, 3, none⟩ = some (.int .i64 0) := (blk_cell BK236.out 3).trans rfl; have hcz65_4 : w63.cell? ⟨gb236, 4, none⟩ = some (.int .i64 0) := (blk_cell BK236.out 4).trans rfl; have hfz65_0 := blk_frozen BK236.out 0; have hfz65_1 := blk_frozen BK236.out 1; have hfz65_2 := blk_frozen BK236.out 2; have hfz65_3 := blk_frozen BK236.out 3; have hfz65_4 := blk_frozen BK236.out 4))
            have n0_ : Aside0 (Kd.R (Kd.int .u8) 5 (((((w63.setCell ⟨gb236, 0, none⟩ (.int .i64 t230)).setCell ⟨gb236, 1, none⟩ (.int .u32 t231)).setCell ⟨gb236, 2, none⟩ (.int .i64 t232)).setCell ⟨gb236, 3, none⟩ (.int .i64 t233)).setCell ⟨gb236, 4, none⟩ (.int .i64 t234)) w.heap.size (fun _ => True) (.slice Ao61 t218.length co61) t218) := ⟨by (with_reducible repeat (first | apply Kd.R_alloc | apply Kd.R_drewN | apply Kd.R_drew)); exact Kd.R_mono (Kd.R_far (p := ⟨gb236, 4, none⟩) (Kd.R_far (p := ⟨gb236, 3, none⟩) (Kd.R_far (p := ⟨gb236, 2, none⟩) (Kd.R_far (p := ⟨gb236, 1, none⟩) (Kd.R_far (p := ⟨gb236, 0, none⟩) (Kd.R_types HO_3.out BK236.out (by decide)) (fun _ hk => hk.2) (.int .i64 t230)) (fun _ hk => hk.2) (.int .u32 t231)) (fun _ hk => hk.2) (.int .i64 t232)) (fun _ hk => hk.2) (.int .i64 t233)) (fun _ hk => hk.2) (.int .i64 t234)) (fun _ hk => trivial)⟩
            have n1_ : Aside0 ((((((w63.setCell ⟨gb236, 0, none⟩ (.int .i64 t230)).setCell ⟨gb236, 1, none⟩ (.int .u32 t231)).setCell ⟨gb236, 2, none⟩ (.int .i64 t232)).setCell ⟨gb236, 3, none⟩ (.int .i64 t233)).setCell ⟨gb236, 4, none⟩ (.int .i64 t234)).heap[gb217]? = some (.cells #[.int .i64 a0_0, .int .u32 a0_1, .int .i64 a0_2, .int .i64 a0_3, .int .i64 a0_4] 49 (0, 0))) := ⟨by (with_reducible repeat (first | refine blk_drewN ?_ _ | refine blk_drew ?_ | refine blk_alloc ?_ _)); refine blk_far ?_ NB217_236.out _; (with_reducible repeat (first | refine blk_drewN ?_ _ | refine blk_drew ?_ | refine blk_alloc ?_ _)); refine blk_far ?_ NB217_236.out _; (with_reducible repeat (first | refine blk_drewN ?_ _ | refine blk_drew ?_ | refine blk_alloc ?_ _)); refine blk_far ?_ NB217_236.out _; (with_reducible repeat (first | refine blk_drewN ?_ _ | refine blk_drew ?_ | refine blk_alloc ?_ _)); refine blk_far ?_ NB217_236.out _; (with_reducible repeat (first | refine blk_drewN ?_ _ | refine blk_drew ?_ | refine blk_alloc ?_ _)); refine blk_far ?_ NB217_236.out _; (with_reducible repeat (first | refine blk_drewN ?_ _ | refine blk_drew ?_ | refine blk_alloc ?_ _)); exact BK217.out⟩
            have n2_ : Aside0 ((((((w63.setCell ⟨gb236, 0, none⟩ (.int .i64 t230)).setCell ⟨gb236, 1, none⟩ (.int .u32 t231)).setCell ⟨gb236, 2, none⟩ (.int .i64 t232)).setCell ⟨gb236, 3, none⟩ (.int .i64 t233)).setCell ⟨gb236, 4, none⟩ (.int .i64 t234)).heap[gb236]? = some (.cells #[.int .i64 t230, .int .u32 t231, .int .i64 t232, .int .i64 t233, .int .i64 t234] 49 (0, 0))) := ⟨by (with_reducible repeat (first | refine blk_drewN ?_ _ | refine blk_drew ?_ | refine blk_alloc ?_ _)); refine blk_put (cs := #[.int .i64 t230, .int .u32 t231, .int .i64 t232, .int .i64 t233, .int .i64 0]) ?_ 4 _ rfl; (with_reducible repeat (first | refine blk_drewN ?_ _ | refine blk_drew ?_ | refine blk_alloc ?_ _)); refine blk_put (cs := #[.int .i64 t230, .int .u32 t231, .int .i64 t232, .int .i64 0, .int .i64 0]) ?_ 3 _ rfl; (with_reducible repeat (first | refine blk_drewN ?_ _ | refine blk_drew ?_ | refine blk_alloc ?_ _)); refine blk_put (cs := #[.int .i64 t230, .int .u32 t231, .int .i64 0, .int .i64 0, .int .i64 0]) ?_ 2 _ rfl; (with_reducible repeat (first | refine blk_drewN ?_ _ | refine blk_drew ?_ | refine blk_alloc ?_ _)); refine blk_put (cs := #[.int .i64 t230, .int .u32 0, .int .i64 0, .int .i64 0, .int .i64 0]) ?_ 1 _ rfl; (with_reducible repeat (first | refine blk_drewN ?_ _ | refine blk_drew ?_ | refine blk_alloc ?_ _)); refine blk_put (cs := #[.int .i64 0, .int .u32 0, .int .i64 0, .int .i64 0, .int .i64 0]) ?_ 0 _ rfl; (with_reducible repeat (first | refine blk_drewN ?_ _ | refine blk_drew ?_ | refine blk_alloc ?_ _)); exact BK236.out⟩
            have n3_ : Aside0 (Below w.heap.size w (((((w63.setCell ⟨gb236, 0, none⟩ (.int .i64 t230)).setCell ⟨gb236, 1, none⟩ (.int .u32 t231)).setCell ⟨gb236, 2, none⟩ (.int .i64 t232)).setCell ⟨gb236, 3, none⟩ (.int .i64 t233)).setCell ⟨gb236, 4, none⟩ (.int .i64 t234))) := ⟨by repeat (first | (with_reducible first | exact HB.out | apply below_alloc | apply pw_below_drewN | apply below_drew1 | refine below_set ?_ GE217.out | refine below_set ?_ GE236.out) | exact HB.out)⟩
            (try clear HO_3)
            (try clear BK217)
            (try clear BK236)
            (try clear HB)
            generalize (((((w63.setCell ⟨gb236, 0, none⟩ (.int .i64 t230)).setCell ⟨gb236, 1, none⟩ (.int .u32 t231)).setCell ⟨gb236, 2, none⟩ (.int .i64 t232)).setCell ⟨gb236, 3, none⟩ (.int .i64 t233)).setCell ⟨gb236, 4, none⟩ (.int .i64 t234)) = w66 at n0_ n1_ n2_ n3_ ⊢
            have HO_3 := n0_
            have BK217 := n1_
            have BK236 := n2_
            have HB := n3_
            clear n0_ n1_ n2_ n3_
            have n0_ := Aside0.mk (Kd.R_drew HO_3.out)
            have n1_ := Aside0.mk (blk_drew BK217.out)
            have n2_ := Aside0.mk (blk_drew BK236.out)
            have n3_ := Aside0.mk (below_drew1 HB.out)
            clear HO_3
            clear BK217
            clear BK236
            clear HB
            have HO_3 := n0_
            have BK217 := n1_
            have BK236 := n2_
            have HB := n3_
            clear n0_ n1_ n2_ n3_
            refine start_ (n := 21) (S := fun w' => w'.cell? ⟨gb217, 0, none⟩ = some (.int .i64 a0_0) ∧ w'.cell? ⟨gb217, 1, none⟩ = some (.int .u32 a0_1) ∧ w'.cell? ⟨gb217, 2, none⟩ = some (.int .i64 a0_2) ∧ w'.cell? ⟨gb217, 3, none⟩ = some (.int .i64 a0_3) ∧ w'.cell? ⟨gb217, 4, none⟩ = some (.int .i64 a0_4) ∧ (convert 50 9 (.slice Ao61 t218.length co61)).run Try.prog w' = .ok (.string (strOfNums t218)) w') (ds := []) #[false, false, false, false, false, false, false, false, false, false, false, false, false, false, false, false, false, false, false, false, false] (by kernel_rfl) rfl rfl ⟨(blk_cell BK217.out 0).trans rfl, (blk_cell BK217.out 1).trans rfl, (blk_cell BK217.out 2).trans rfl, (blk_cell BK217.out 3).trans rfl, (blk_cell BK217.out 4).trans rfl, (by first | exact own_string (P := Try.prog) Try.underlying50 Try.underlying5 Try.underlying9 (Kd.own_of_R HO_3.out) | exact own_string (P := Try.prog) Try.underlying50 Try.underlying5 Try.underlying9 (Kd.own_of_R (Kd.R_drewN HO_3.out _)) | exact own_string (P := Try.prog) Try.underlying50 Try.underlying5 Try.underlying9 (Kd.own_of_R (Kd.R_drewN (Kd.R_drewN HO_3.out _) _)) | exact own_string (P := Try.prog) Try.underlying50 Try.underlying5 Try.underlying9 (Kd.own_of_R (Kd.R_drewN (Kd.R_drewN (Kd.R_drewN HO_3.out _) _) _)))⟩ (fun hHeld => ?_); refine with_tabW credenzalaw23_TellBytes.tab8 credenzalaw23_TellBytes.bits8 (fun HT_ HW_ => ?_)
            generalize w66.drew = w67 at HO_3 BK217 BK236 HB hHeld ⊢
            refine pure_ (i := 0) (N := some 38) (v := ?_) (a' := ?_) #[true, false, false, false, false, false, false, false, false, false, false, false, false, false, false, false, false, false, false, false, false] rfl rfl (any_of HT_.out (by kernel_rfl)) (fun _ _ _ h => h) (Or.inl ⟨by rfl, ?_⟩) ?_ ?_
            rotate_left
            · intro w'
              go_simp
              with_reducible rfl
            rotate_left
            · simp only [Act.put, List.setIfInBounds_toArray, List.set_cons_zero, List.set_cons_succ, i64_w, i32_w, IntKind.wrap_u32]
              rfl
            refine take_ (i := 1) (N := some 39) (v := ?_) (a' := ?_) #[true, true, false, false, false, false, false, false, false, false, false, false, false, false, false, false, false, false, false, false, false] rfl rfl (take_ofW HT_.out HW_.out (by kernel_rfl)) (fun _ _ _ h => h) (Or.inl ⟨by rfl, ?_⟩) hHeld ?_ ?_
            rotate_left
            · rintro w' ⟨s0, s1, s2, s3, s4, s5⟩
              go_simp
              with_reducible rfl
            rotate_left
            · simp only [Act.put, List.setIfInBounds_toArray, List.set_cons_zero, List.set_cons_succ, i64_w, i32_w, IntKind.wrap_u32]
              rfl
            refine take_ (i := 2) (N := some 40) (v := ?_) (a' := ?_) #[true, true, true, false, false, false, false, false, false, false, false, false, false, false, false, false, false, false, false, false, false] rfl rfl (take_ofW HT_.out HW_.out (by kernel_rfl)) (fun _ _ _ h => h) (Or.inl ⟨by rfl, ?_⟩) hHeld ?_ ?_
            rotate_left
            · rintro w' ⟨s0, s1, s2, s3, s4, s5⟩
              go_simp
              with_reducible rfl
            rotate_left
            · simp only [Act.put, List.setIfInBounds_toArray, List.set_cons_zero, List.set_cons_succ, i64_w, i32_w, IntKind.wrap_u32]
              rfl
            refine one_ (i := 3) (N := some 41) #[true, true, true, true, false, false, false, false, false, false, false, false, false, false, false, false, false, false, false, false, false] rfl rfl (one_of HT_.out (by kernel_rfl)) (by decide) (fun K hK => ?_)
            refine goes_ Try.func30 (by kernel_rfl) rfl #[.agg #[.int .i64 a0_0, .int .u32 a0_1, .int .i64 a0_2, .int .i64 a0_3, .int .i64 a0_4]] (by rfl) rfl rfl (by (try simp only [List.map_toArray, List.map_cons, List.map_nil]); first | done | rfl | (simp only [List.length_drop, List.length_take]; rfl)) ?_
            with_reducible refine (credenzalaw23_ref.calls a0_0 a0_1 a0_2 a0_3 a0_4 t237 t238 t239 t240 t241 _ A21.out).mono ?_
            rintro e w68 ⟨rfl, hb⟩
            refine ⟨_, rfl, ?_⟩
            have n0_ := Aside0.mk (Kd.R_below (by (with_reducible repeat (first | apply Kd.R_alloc | apply Kd.R_drewN | apply Kd.R_drew)); exact HO_3.out) hb)
            have n1_ := Aside0.mk (blk_below (g := gb217) (o := .cells #[.int .i64 a0_0, .int .u32 a0_1, .int .i64 a0_2, .int .i64 a0_3, .int .i64 a0_4] 49 (0, 0)) (by (with_reducible repeat (first | refine blk_drewN ?_ _ | refine blk_drew ?_ | refine blk_alloc ?_ _)); exact BK217.out) hb)
            have n2_ := Aside0.mk (blk_below (g := gb236) (o := .cells #[.int .i64 t230, .int .u32 t231, .int .i64 t232, .int .i64 t233, .int .i64 t234] 49 (0, 0)) (by (with_reducible repeat (first | refine blk_drewN ?_ _ | refine blk_drew ?_ | refine blk_alloc ?_ _)); exact BK236.out) hb)
            have n3_ := Aside0.mk (below_step (by repeat (first | (with_reducible first | exact HB.out | apply below_alloc | apply pw_below_drewN | apply below_drew1 | refine below_set ?_ GE217.out | refine below_set ?_ GE236.out) | exact HB.out)) hb)
            clear HO_3
            clear BK217
            clear BK236
            clear HB
            have HO_3 := n0_
            have BK217 := n1_
            have BK236 := n2_
            have HB := n3_
            clear n0_ n1_ n2_ n3_
            (try clear hb)
            (try clear hb2)
            (try clear hk)
            (try clear hi)
            refine hK.out _ _ ⟨(blk_cell BK217.out 0).trans rfl, (blk_cell BK217.out 1).trans rfl, (blk_cell BK217.out 2).trans rfl, (blk_cell BK217.out 3).trans rfl, (blk_cell BK217.out 4).trans rfl, (by first | exact own_string (P := Try.prog) Try.underlying50 Try.underlying5 Try.underlying9 (Kd.own_of_R HO_3.out) | exact own_string (P := Try.prog) Try.underlying50 Try.underlying5 Try.underlying9 (Kd.own_of_R (Kd.R_drewN HO_3.out _)) | exact own_string (P := Try.prog) Try.underlying50 Try.underlying5 Try.underlying9 (Kd.own_of_R (Kd.R_drewN (Kd.R_drewN HO_3.out _) _)) | exact own_string (P := Try.prog) Try.underlying50 Try.underlying5 Try.underlying9 (Kd.own_of_R (Kd.R_drewN (Kd.R_drewN (Kd.R_drewN HO_3.out _) _) _)))⟩ (fun hHeld => ?_)
            clear hK K
            refine norm_ (a' := ?_) ?_ ?_
            rotate_left
            · show Act.put _ (some 41) _ = _
              simp only [Act.put, List.setIfInBounds_toArray, List.set_cons_zero, List.set_cons_succ, i64_w, i32_w, IntKind.wrap_u32]
              rfl
            refine one_ (i := 4) (N := some 42) #[true, true, true, true, true, false, false, false, false, false, false, false, false, false, false, false, false, false, false, false, false] rfl rfl (one_of HT_.out (by kernel_rfl)) (by decide) (fun K hK => ?_)
            refine goes_ Try.func34 (by kernel_rfl) rfl #[.agg #[.int .i64 t237, .int .u32 t238, .int .i64 t239, .int .i64 t240, .int .i64 t241]] (by rfl) rfl rfl (by (try simp only [List.map_toArray, List.map_cons, List.map_nil]); first | done | rfl | (simp only [List.length_drop, List.length_take]; rfl)) ?_
            with_reducible refine (credenzaref23_Bytes.calls kj4 t237 t238 t239 t240 t241 t242 _ A22.out).mono ?_
            rintro e w69 ⟨rfl, hb⟩
            refine ⟨_, rfl, ?_⟩
            have n0_ := Aside0.mk (Kd.R_below (by (with_reducible repeat (first | apply Kd.R_alloc | apply Kd.R_drewN | apply Kd.R_drew)); exact HO_3.out) hb)
            have n1_ := Aside0.mk (blk_below (g := gb217) (o := .cells #[.int .i64 a0_0, .int .u32 a0_1, .int .i64 a0_2, .int .i64 a0_3, .int .i64 a0_4] 49 (0, 0)) (by (with_reducible repeat (first | refine blk_drewN ?_ _ | refine blk_drew ?_ | refine blk_alloc ?_ _)); exact BK217.out) hb)
            have n2_ := Aside0.mk (blk_below (g := gb236) (o := .cells #[.int .i64 t230, .int .u32 t231, .int .i64 t232, .int .i64 t233, .int .i64 t234] 49 (0, 0)) (by (with_reducible repeat (first | refine blk_drewN ?_ _ | refine blk_drew ?_ | refine blk_alloc ?_ _)); exact BK236.out) hb)
            have n3_ := Aside0.mk (below_step (by repeat (first | (with_reducible first | exact HB.out | apply below_alloc | apply pw_below_drewN | apply below_drew1 | refine below_set ?_ GE217.out | refine below_set ?_ GE236.out) | exact HB.out)) hb)
            clear HO_3
            clear BK217
            clear BK236
            clear HB
            have HO_3 := n0_
            have BK217 := n1_
            have BK236 := n2_
            have HB := n3_
            clear n0_ n1_ n2_ n3_
            (try clear hb)
            (try clear hb2)
            (try clear hk)
            (try clear hi)
            refine hK.out _ _ ⟨(blk_cell BK217.out 0).trans rfl, (blk_cell BK217.out 1).trans rfl, (blk_cell BK217.out 2).trans rfl, (blk_cell BK217.out 3).trans rfl, (blk_cell BK217.out 4).trans rfl, (by first | exact own_string (P := Try.prog) Try.underlying50 Try.underlying5 Try.underlying9 (Kd.own_of_R HO_3.out) | exact own_string (P := Try.prog) Try.underlying50 Try.underlying5 Try.underlying9 (Kd.own_of_R (Kd.R_drewN HO_3.out _)) | exact own_string (P := Try.prog) Try.underlying50 Try.underlying5 Try.underlying9 (Kd.own_of_R (Kd.R_drewN (Kd.R_drewN HO_3.out _) _)) | exact own_string (P := Try.prog) Try.underlying50 Try.underlying5 Try.underlying9 (Kd.own_of_R (Kd.R_drewN (Kd.R_drewN (Kd.R_drewN HO_3.out _) _) _)))⟩ (fun hHeld => ?_)
            clear hK K
            refine norm_ (a' := ?_) ?_ ?_
            rotate_left
            · show Act.put _ (some 42) _ = _
              simp only [Act.put, List.setIfInBounds_toArray, List.set_cons_zero, List.set_cons_succ, i64_w, i32_w, IntKind.wrap_u32]
              rfl
            refine pure_ (i := 5) (N := some 43) (v := ?_) (a' := ?_) #[true, true, true, true, true, true, false, false, false, false, false, false, false, false, false, false, false, false, false, false, false] rfl rfl (any_of HT_.out (by kernel_rfl)) (fun _ _ _ h => h) (Or.inl ⟨by rfl, ?_⟩) ?_ ?_
            rotate_left
            · intro w'
              go_simp
              with_reducible rfl
            rotate_left
            · simp only [Act.put, List.setIfInBounds_toArray, List.set_cons_zero, List.set_cons_succ, i64_w, i32_w, IntKind.wrap_u32]
              rfl
            refine pure_ (i := 6) (N := some 44) (v := ?_) (a' := ?_) #[true, true, true, true, true, true, true, false, false, false, false, false, false, false, false, false, false, false, false, false, false] rfl rfl (any_of HT_.out (by kernel_rfl)) (fun _ _ _ h => h) (Or.inl ⟨by rfl, ?_⟩) ?_ ?_
            rotate_left
            · intro w'
              go_simp
              with_reducible rfl
            rotate_left
            · simp only [Act.put, List.setIfInBounds_toArray, List.set_cons_zero, List.set_cons_succ, i64_w, i32_w, IntKind.wrap_u32]
              rfl
            refine pure_ (i := 7) (N := some 45) (v := undef) (a' := ?_) #[true, true, true, true, true, true, true, true, false, false, false, false, false, false, false, false, false, false, false, false, false] rfl rfl (any_of HT_.out (by kernel_rfl)) (fun _ _ _ h => h) (Or.inr ⟨by rfl, rfl⟩) ?_ ?_
            rotate_left
            · simp only [Act.put, List.setIfInBounds_toArray, List.set_cons_zero, List.set_cons_succ, i64_w, i32_w, IntKind.wrap_u32]
              rfl
            refine pure_ (i := 8) (N := some 46) (v := undef) (a' := ?_) #[true, true, true, true, true, true, true, true, true, false, false, false, false, false, false, false, false, false, false, false, false] rfl rfl (any_of HT_.out (by kernel_rfl)) (fun _ _ _ h => h) (Or.inr ⟨by rfl, rfl⟩) ?_ ?_
            rotate_left
            · simp only [Act.put, List.setIfInBounds_toArray, List.set_cons_zero, List.set_cons_succ, i64_w, i32_w, IntKind.wrap_u32]
              rfl
            refine pure_ (i := 9) (N := some 47) (v := ?_) (a' := ?_) #[true, true, true, true, true, true, true, true, true, true, false, false, false, false, false, false, false, false, false, false, false] rfl rfl (any_of HT_.out (by kernel_rfl)) (fun _ _ _ h => h) (Or.inl ⟨by rfl, ?_⟩) ?_ ?_
            rotate_left
            · intro w'
              go_simp
              with_reducible rfl
            rotate_left
            · simp only [Act.put, List.setIfInBounds_toArray, List.set_cons_zero, List.set_cons_succ, i64_w, i32_w, IntKind.wrap_u32]
              rfl
            refine pure_ (i := 10) (N := some 48) (v := ?_) (a' := ?_) #[true, true, true, true, true, true, true, true, true, true, true, false, false, false, false, false, false, false, false, false, false] rfl rfl (any_of HT_.out (by kernel_rfl)) (fun _ _ _ h => h) (Or.inl ⟨by rfl, ?_⟩) ?_ ?_
            rotate_left
            · intro w'
              go_simp
              with_reducible rfl
            rotate_left
            · simp only [Act.put, List.setIfInBounds_toArray, List.set_cons_zero, List.set_cons_succ, i64_w, i32_w, IntKind.wrap_u32]
              rfl
            refine pure_ (i := 11) (N := some 49) (v := undef) (a' := ?_) #[true, true, true, true, true, true, true, true, true, true, true, true, false, false, false, false, false, false, false, false, false] rfl rfl (any_of HT_.out (by kernel_rfl)) (fun _ _ _ h => h) (Or.inr ⟨by rfl, rfl⟩) ?_ ?_
            rotate_left
            · simp only [Act.put, List.setIfInBounds_toArray, List.set_cons_zero, List.set_cons_succ, i64_w, i32_w, IntKind.wrap_u32]
              rfl
            refine pure_ (i := 12) (N := some 50) (v := undef) (a' := ?_) #[true, true, true, true, true, true, true, true, true, true, true, true, true, false, false, false, false, false, false, false, false] rfl rfl (any_of HT_.out (by kernel_rfl)) (fun _ _ _ h => h) (Or.inr ⟨by rfl, rfl⟩) ?_ ?_
            rotate_left
            · simp only [Act.put, List.setIfInBounds_toArray, List.set_cons_zero, List.set_cons_succ, i64_w, i32_w, IntKind.wrap_u32]
              rfl
            refine pure_ (i := 13) (N := some 51) (v := undef) (a' := ?_) #[true, true, true, true, true, true, true, true, true, true, true, true, true, true, false, false, false, false, false, false, false] rfl rfl (any_of HT_.out (by kernel_rfl)) (fun _ _ _ h => h) (Or.inr ⟨by rfl, rfl⟩) ?_ ?_
            rotate_left
            · simp only [Act.put, List.setIfInBounds_toArray, List.set_cons_zero, List.set_cons_succ, i64_w, i32_w, IntKind.wrap_u32]
              rfl
            refine pure_ (i := 14) (N := some 52) (v := undef) (a' := ?_) #[true, true, true, true, true, true, true, true, true, true, true, true, true, true, true, false, false, false, false, false, false] rfl rfl (any_of HT_.out (by kernel_rfl)) (fun _ _ _ h => h) (Or.inr ⟨by rfl, rfl⟩) ?_ ?_
            rotate_left
            · simp only [Act.put, List.setIfInBounds_toArray, List.set_cons_zero, List.set_cons_succ, i64_w, i32_w, IntKind.wrap_u32]
              rfl
            refine pure_ (i := 15) (N := some 53) (v := undef) (a' := ?_) #[true, true, true, true, true, true, true, true, true, true, true, true, true, true, true, true, false, false, false, false, false] rfl rfl (any_of HT_.out (by kernel_rfl)) (fun _ _ _ h => h) (Or.inr ⟨by rfl, rfl⟩) ?_ ?_
            rotate_left
            · simp only [Act.put, List.setIfInBounds_toArray, List.set_cons_zero, List.set_cons_succ, i64_w, i32_w, IntKind.wrap_u32]
              rfl
            refine pure_ (i := 16) (N := some 54) (v := ?_) (a' := ?_) #[true, true, true, true, true, true, true, true, true, true, true, true, true, true, true, true, true, false, false, false, false] rfl rfl (any_of HT_.out (by kernel_rfl)) (fun _ _ _ h => h) (Or.inl ⟨by rfl, ?_⟩) ?_ ?_
            rotate_left
            · intro w'
              go_simp
              with_reducible rfl
            rotate_left
            · simp only [Act.put, List.setIfInBounds_toArray, List.set_cons_zero, List.set_cons_succ, i64_w, i32_w, IntKind.wrap_u32]
              rfl
            refine pure_ (i := 17) (N := some 55) (v := ?_) (a' := ?_) #[true, true, true, true, true, true, true, true, true, true, true, true, true, true, true, true, true, true, false, false, false] rfl rfl (any_of HT_.out (by kernel_rfl)) (fun _ _ _ h => h) (Or.inl ⟨by rfl, ?_⟩) ?_ ?_
            rotate_left
            · intro w'
              go_simp
              with_reducible rfl
            rotate_left
            · simp only [Act.put, List.setIfInBounds_toArray, List.set_cons_zero, List.set_cons_succ, i64_w, i32_w, IntKind.wrap_u32]
              rfl
            refine pure_ (i := 18) (N := some 56) (v := undef) (a' := ?_) #[true, true, true, true, true, true, true, true, true, true, true, true, true, true, true, true, true, true, true, false, false] rfl rfl (any_of HT_.out (by kernel_rfl)) (fun _ _ _ h => h) (Or.inr ⟨by rfl, rfl⟩) ?_ ?_
            rotate_left
            · simp only [Act.put, List.setIfInBounds_toArray, List.set_cons_zero, List.set_cons_succ, i64_w, i32_w, IntKind.wrap_u32]
              rfl
            refine pure_ (i := 19) (N := some 57) (v := ?_) (a' := ?_) #[true, true, true, true, true, true, true, true, true, true, true, true, true, true, true, true, true, true, true, true, false] rfl rfl (any_of HT_.out (by kernel_rfl)) (fun _ _ _ h => h) (Or.inl ⟨by rfl, ?_⟩) ?_ ?_
            rotate_left
            · intro w'
              go_simp
              with_reducible rfl
            rotate_left
            · simp only [Act.put, List.setIfInBounds_toArray, List.set_cons_zero, List.set_cons_succ, i64_w, i32_w, IntKind.wrap_u32]
              rfl
            refine pure_ (i := 20) (N := some 2) (v := ?_) (a' := ?_) #[true, true, true, true, true, true, true, true, true, true, true, true, true, true, true, true, true, true, true, true, true] rfl rfl (any_of HT_.out (by kernel_rfl)) (fun _ _ _ h => h) (Or.inl ⟨by rfl, ?_⟩) ?_ ?_
            rotate_left
            · intro w'
              go_simp
              with_reducible rfl
            rotate_left
            · simp only [Act.put, List.setIfInBounds_toArray, List.set_cons_zero, List.set_cons_succ, i64_w, i32_w, IntKind.wrap_u32]
              rfl
            refine done_ (done_of HT_.out (by kernel_rfl)) ?_
            try go_wp2
            go_ret
            exact ⟨by first | rfl | (simp [errW_none, errW_some] <;> rfl) | (simp [*, errW_none, errW_some] <;> rfl), by repeat (first | (with_reducible first | exact HB.out | apply below_alloc | apply pw_below_drewN | apply below_drew1 | refine below_set ?_ GE217.out | refine below_set ?_ GE236.out) | exact HB.out)⟩
        · rw [if_neg c19] at H
          have c19b0 : (t227 == 0) = false := beq_eq_false_iff_ne.mpr c19
          have c19b1 : (t227 != 0) = true := bne_iff_ne.mpr c19
          by_cases c70 : (t218.length : Int) = 0
          · rw [if_pos c70] at H
            have c70b0 : ((t218.length : Int) == 0) = true := beq_iff_eq.mpr c70
            have c70b1 : ((t218.length : Int) != 0) = false := bne_eq_false_iff_eq.mpr c70
            clear c70
            replace H := Option.bind_eq_some_iff.mp H
            obtain ⟨t229, A710, H⟩ := H
            replace H : (some t229) = some r := H
            have A71 := Aside0.mk A710
            clear A710
            obtain rfl := Option.some.inj H
            obtain ⟨Ao72, co72, eo72⟩ := Kd.R_slice HO_3.out
            subst eo72
            go_wp2_with (first | (go_at_call 32; (with_reducible refine (credenzalaw23_awake.calls kj4  t229 _ A71.out).mono ?_); rintro e w73 ⟨rfl, hb⟩; have n0_ := Aside0.mk (Kd.R_below (by (with_reducible repeat (first | apply Kd.R_alloc | apply Kd.R_drewN | apply Kd.R_drew)); exact HO_3.out) hb); have n1_ := Aside0.mk (blk_below (g := gb217) (o := .cells #[.int .i64 a0_0, .int .u32 a0_1, .int .i64 a0_2, .int .i64 a0_3, .int .i64 a0_4] 49 (0, 0)) (by (with_reducible repeat (first | refine blk_drewN ?_ _ | refine blk_drew ?_ | refine blk_alloc ?_ _)); exact BK217.out) hb); have n2_ := Aside0.mk (below_step (by repeat (first | (with_reducible first | exact HB.out | apply below_alloc | apply pw_below_drewN | apply below_drew1 | refine below_set ?_ GE217.out) | exact HB.out)) hb); clear HO_3; clear BK217; clear HB; have HO_3 := n0_; have BK217 := n1_; have HB := n2_; clear n0_ n1_ n2_; (try clear hb); (try clear hb2); (try clear hk); (try clear hi)))
            go_ret
            exact ⟨by first | rfl | (simp [errW_none, errW_some] <;> rfl) | (simp [*, errW_none, errW_some] <;> rfl), by repeat (first | (with_reducible first | exact HB.out | apply below_alloc | apply pw_below_drewN | apply below_drew1 | refine below_set ?_ GE217.out) | exact HB.out)⟩
          · rw [if_neg c70] at H
            have c70b0 : ((t218.length : Int) == 0) = false := beq_eq_false_iff_ne.mpr c70
            have c70b1 : ((t218.length : Int) != 0) = true := bne_iff_ne.mpr c70
            have c70b2 : ¬ (t218 = []) := fun h_ => c70 (by rw [h_]; rfl)
            obtain rfl := Option.some.inj H
            obtain ⟨Ao74, co74, eo74⟩ := Kd.R_slice HO_3.out
            subst eo74
            go_wp2
            go_ret
            exact ⟨by first | rfl | (simp [errW_none, errW_some] <;> rfl) | (simp [*, errW_none, errW_some] <;> rfl), by repeat (first | (with_reducible first | exact HB.out | apply below_alloc | apply pw_below_drewN | apply below_drew1 | refine below_set ?_ GE217.out) | exact HB.out)⟩

/-- THE ONE PURE STATEMENT of credenzalaw23_TellBytes: yours. -/
def credenzalaw23_TellBytes.Pure : Prop := ∀ (a0_0 : Int) (a0_1 : Int) (a0_2 : Int) (a0_3 : Int) (a0_4 : Int), (Lit.int .i64 a0_0).wf = true → (Lit.int .u32 a0_1).wf = true → (Lit.int .i64 a0_2).wf = true → (Lit.int .i64 a0_3).wf = true → (Lit.int .i64 a0_4).wf = true → ∃ k, credenzalaw23_TellBytes.f k a0_0 a0_1 a0_2 a0_3 a0_4 = some true
theorem credenzalaw23_TellBytes.walk (P : credenzalaw23_TellBytes.Pure) (a0_0 : Int) (a0_1 : Int) (a0_2 : Int) (a0_3 : Int) (a0_4 : Int) (w : World) (w0_0 : (Lit.int .i64 a0_0).wf = true) (w0_1 : (Lit.int .u32 a0_1).wf = true) (w0_2 : (Lit.int .i64 a0_2).wf = true) (w0_3 : (Lit.int .i64 a0_3).wf = true) (w0_4 : (Lit.int .i64 a0_4).wf = true) :
    Calls Try.prog 9 #[.agg #[.int .i64 a0_0, .int .u32 a0_1, .int .i64 a0_2, .int .i64 a0_3, .int .i64 a0_4]] w fun e w' => e = .returned (.bool true) ∧ Below w.heap.size w w' := by
  obtain ⟨k, h⟩ := P a0_0 a0_1 a0_2 a0_3 a0_4 w0_0 w0_1 w0_2 w0_3 w0_4
  refine (credenzalaw23_TellBytes.calls k a0_0 a0_1 a0_2 a0_3 a0_4 true w h).mono ?_
  rintro e w' ⟨rfl, hd⟩
  exact ⟨rfl, hd⟩

end Go.Proofs.Ytggoddiiglkpiaa.PTellBytes
