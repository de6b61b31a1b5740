-- Written by a program of this session (wip/tools/mkprint.py over the kit's print).
import Derived.Test.YtggoddiiglkpiaaPTellBytesx0
namespace Go.Proofs.Ytggoddiiglkpiaa.PTellBytes
open Go.RowKit Go.Proofs.YtggoddiiglkpiaaW.PrintWords Go.Proofs.YtggoddiiglkpiaaW.PrintLast Go.Proofs.YtggoddiiglkpiaaW.PrintMore
attribute [local go_sem] max2_int min2_int max_two min_two max_three min_three max_four min_four   -- for this text's walks alone
set_option linter.unusedVariables false
set_option linter.unusedSimpArgs false

/-! ### credenzaref23_Right: function 29 -/
mutual
def credenzaref23_Right.j0 : Nat → Bool → Int → Int → Int → Int → Int → Option (Int)
  | 0, _, _, _, _, _, _ => none
  | k + 1, x10, x139000, x139001, x139002, x139003, x139004 => if x10 = true then (some 29) else (if x139000 = 1 then (if x139000 = 5 then (if x139002 = 0 then (credenzaref23_Right.j1 k false x139000 x139001 x139002 x139003 x139004) else (credenzaref23_Right.j1 k true x139000 x139001 x139002 x139003 x139004)) else (credenzaref23_Right.j1 k (x139004 != 0) x139000 x139001 x139002 x139003 x139004)) else (if x139003 = 0 then (if x139000 = 5 then (if x139002 = 0 then (credenzaref23_Right.j1 k false x139000 x139001 x139002 x139003 x139004) else (credenzaref23_Right.j1 k true x139000 x139001 x139002 x139003 x139004)) else (credenzaref23_Right.j1 k (x139004 != 0) x139000 x139001 x139002 x139003 x139004)) else (credenzaref23_Right.j1 k true x139000 x139001 x139002 x139003 x139004)))
def credenzaref23_Right.j1 : Nat → Bool → Int → Int → Int → Int → Int → Option (Int)
  | 0, _, _, _, _, _, _ => none
  | k + 1, x38, x139000, x139001, x139002, x139003, x139004 => if x38 = true then (some 10) else (if x139002 < 0 then (some 11) else (if x139002 > 1024 then (some 11) else (if x139000 = 1 then (if x139002 = 1024 then (some 11) else (if x139003 < 0 then (some 11) else (if x139003 > 255 then (some 11) else (if x139004 > 255 then (some 11) else (if x139000 = 5 then (if x139004 < 1 then (some 11) else (some 0)) else (some 0)))))) else (if x139003 < 0 then (some 11) else (if x139003 > 255 then (some 11) else (if x139004 > 255 then (some 11) else (if x139000 = 5 then (if x139004 < 1 then (some 11) else (some 0)) else (some 0))))))))
end
def credenzaref23_Right.f (k : Nat) (a0_0 : Int) (a0_1 : Int) (a0_2 : Int) (a0_3 : Int) (a0_4 : Int) : Option (Int) := if a0_0 < 1 then (credenzaref23_Right.j0 k true a0_0 a0_1 a0_2 a0_3 a0_4) else (credenzaref23_Right.j0 k (decide (a0_0 > 5)) a0_0 a0_1 a0_2 a0_3 a0_4)
theorem credenzaref23_Right.mono_l : ∀ k, (∀ y0 y1 y2 y3 y4 y5, LeO (credenzaref23_Right.j0 k y0 y1 y2 y3 y4 y5) (credenzaref23_Right.j0 (k + 1) y0 y1 y2 y3 y4 y5)) ∧ (∀ y0 y1 y2 y3 y4 y5, LeO (credenzaref23_Right.j1 k y0 y1 y2 y3 y4 y5) (credenzaref23_Right.j1 (k + 1) y0 y1 y2 y3 y4 y5))
  | 0 => ⟨fun _ _ _ _ _ _ r h => by simp [credenzaref23_Right.j0] at h, fun _ _ _ _ _ _ r h => by simp [credenzaref23_Right.j1] at h⟩
  | k + 1 => by
    obtain ⟨ih0, ih1⟩ := credenzaref23_Right.mono_l k
    refine ⟨?_, ?_⟩
    · intro y0 y1 y2 y3 y4 y5
      unfold credenzaref23_Right.j0
      repeat' first
      | (with_reducible exact ih0 _ _ _ _ _ _)
      | (with_reducible exact ih1 _ _ _ _ _ _)
      | (with_reducible exact LeO.refl _)
      | (with_reducible exact LeO.none _)
      | (with_reducible refine LeO.ite ?_ ?_)
      | (with_reducible refine LeO.bind ?_ (fun _ => ?_))
      | exact ih0 _ _ _ _ _ _
      | exact ih1 _ _ _ _ _ _
      | exact LeO.none _
      | refine LeO.ite ?_ ?_
      | refine LeO.bind ?_ (fun _ => ?_)
    · intro y0 y1 y2 y3 y4 y5
      unfold credenzaref23_Right.j1
      repeat' first
      | (with_reducible exact ih0 _ _ _ _ _ _)
      | (with_reducible exact ih1 _ _ _ _ _ _)
      | (with_reducible exact LeO.refl _)
      | (with_reducible exact LeO.none _)
      | (with_reducible refine LeO.ite ?_ ?_)
      | (with_reducible refine LeO.bind ?_ (fun _ => ?_))
      | exact ih0 _ _ _ _ _ _
      | exact ih1 _ _ _ _ _ _
      | exact LeO.none _
      | refine LeO.ite ?_ ?_
      | refine LeO.bind ?_ (fun _ => ?_)
theorem credenzaref23_Right.mono : ∀ a0 a1 a2 a3 a4 k, LeO (credenzaref23_Right.f k a0 a1 a2 a3 a4) (credenzaref23_Right.f (k + 1) a0 a1 a2 a3 a4) := by
  intro a0 a1 a2 a3 a4 k
  obtain ⟨ih0, ih1⟩ := credenzaref23_Right.mono_l k
  unfold credenzaref23_Right.f
  repeat' first
      | (with_reducible exact ih0 _ _ _ _ _ _)
      | (with_reducible exact ih1 _ _ _ _ _ _)
      | (with_reducible exact LeO.refl _)
      | (with_reducible exact LeO.none _)
      | (with_reducible refine LeO.ite ?_ ?_)
      | (with_reducible refine LeO.bind ?_ (fun _ => ?_))
      | exact ih0 _ _ _ _ _ _
      | exact ih1 _ _ _ _ _ _
      | exact LeO.none _
      | refine LeO.ite ?_ ?_
      | refine LeO.bind ?_ (fun _ => ?_)
set_option maxHeartbeats 8000000 in
set_option maxRecDepth 100000 in
theorem credenzaref23_Right.calls (k : Nat) (a0_0 : Int) (a0_1 : Int) (a0_2 : Int) (a0_3 : Int) (a0_4 : Int) (r : Int) (w : World) (h : credenzaref23_Right.f k a0_0 a0_1 a0_2 a0_3 a0_4 = some r) :
    Calls Try.prog 29 #[.agg #[.int .i64 a0_0, .int .u32 a0_1, .int .i64 a0_2, .int .i64 a0_3, .int .i64 a0_4]] w fun e w' => e = .returned (.int .i64 r) ∧ Below w.heap.size w w' := by
  have hu55 := Try.underlying55
  have HB := Aside0.mk (Below.refl w.heap.size w)
  have H : (if a0_0 < 1 then (credenzaref23_Right.j0 k true a0_0 a0_1 a0_2 a0_3 a0_4) else (credenzaref23_Right.j0 k (decide (a0_0 > 5)) a0_0 a0_1 a0_2 a0_3 a0_4)) = some r := h
  clear h
  have HC2 := Aside0.mk H
  clear H
  go_enter Try.func29, Try.ntmps29
  go_upto_region 1 with (first | ((with_reducible refine gate_dst (N := 1) rfl ?_); refine box_event ?hg (N := 1) ?hd (cs := #[.int .i64 a0_0, .int .u32 a0_1, .int .i64 a0_2, .int .i64 a0_3, .int .i64 a0_4]) (t := 55) ?hr ?_; (case hd => rfl); (case hg => rfl); (case hr => first | (go_simp; done) | (go_simp; rfl)); intro gb138 hg w3 hbox hb; have n0_ := Aside0.mk (below_step (by repeat (first | (with_reducible first | exact HB.out | apply below_alloc | apply pw_below_drewN | apply below_drew1) | exact HB.out)) hb); have n1_ := Aside0.mk (hbox); have n2_ := Aside0.mk ((by rw [hg]; exact (below_size (by repeat (first | (with_reducible first | exact HB.out | apply below_alloc | apply pw_below_drewN | apply below_drew1) | exact HB.out))) : w.heap.size ≤ gb138)); have n3_ := Aside0.mk ((by rw [hg]; exact (below_size (by repeat (first | (with_reducible first | exact HB.out | apply below_alloc | apply pw_below_drewN | apply below_drew1) | exact HB.out))) : w.heap.size ≤ gb138)); clear HB; have HB := n0_; have BK138 := n1_; have GW138 := n2_; have GE138 := n3_; clear n0_ n1_ n2_ n3_; clear hb hbox hg))
  (try simp only [Act.put, List.setIfInBounds_toArray, List.set_cons_zero, List.set_cons_succ])
  go_cut [10] (fun v10 wc => ∃ (kq : Nat) (x10_1 : Bool), v10 = .bool x10_1 ∧ Aside0 (credenzaref23_Right.j0 kq x10_1 a0_0 a0_1 a0_2 a0_3 a0_4 = some r) ∧ Aside0 (kq ≤ k) ∧ Aside0 (wc.heap[gb138]? = some (.cells #[.int .i64 a0_0, .int .u32 a0_1, .int .i64 a0_2, .int .i64 a0_3, .int .i64 a0_4] 55 (0, 0))) ∧ Aside0 (Below w.heap.size w wc))
  case first =>
    have H := HC2.out
    clear HC2
    by_cases c4 : a0_0 < 1
    · rw [if_pos c4] at H
      have c4b0 : decide (a0_0 < 1) = true := decide_eq_true c4
      clear c4
      (first | rw [c4b0] | (simp only [i64_w, i32_w]; rw [c4b0]) | skip)
      have H' := Aside0.mk H
      clear H
      have hcz5_0 : w3.cell? ⟨gb138, 0, none⟩ = some (.int .i64 a0_0) := (blk_cell BK138.out 0).trans rfl
      have hcz5_1 : w3.cell? ⟨gb138, 1, none⟩ = some (.int .u32 a0_1) := (blk_cell BK138.out 1).trans rfl
      have hcz5_2 : w3.cell? ⟨gb138, 2, none⟩ = some (.int .i64 a0_2) := (blk_cell BK138.out 2).trans rfl
      have hcz5_3 : w3.cell? ⟨gb138, 3, none⟩ = some (.int .i64 a0_3) := (blk_cell BK138.out 3).trans rfl
      have hcz5_4 : w3.cell? ⟨gb138, 4, none⟩ = some (.int .i64 a0_4) := (blk_cell BK138.out 4).trans rfl
      have hfz5_0 := blk_frozen BK138.out 0
      have hfz5_1 := blk_frozen BK138.out 1
      have hfz5_2 := blk_frozen BK138.out 2
      have hfz5_3 := blk_frozen BK138.out 3
      have hfz5_4 := blk_frozen BK138.out 4
      go_wp2
      go_meet
      case rel => exact ⟨_, (true), (by first | rfl | (simp; done) | (simp [*]; done)), H', ⟨by first | omega | exact Nat.le_refl _⟩, ⟨by (with_reducible repeat (first | refine blk_drewN ?_ _ | refine blk_drew ?_ | refine blk_alloc ?_ _)); exact BK138.out⟩, ⟨by repeat (first | (with_reducible first | exact HB.out | apply below_alloc | apply pw_below_drewN | apply below_drew1 | refine below_set ?_ GE138.out) | exact HB.out)⟩⟩
    · rw [if_neg c4] at H
      have c4b0 : decide (a0_0 < 1) = false := decide_eq_false c4
      clear c4
      (first | rw [c4b0] | (simp only [i64_w, i32_w]; rw [c4b0]) | skip)
      have H' := Aside0.mk H
      clear H
      have hcz6_0 : w3.cell? ⟨gb138, 0, none⟩ = some (.int .i64 a0_0) := (blk_cell BK138.out 0).trans rfl
      have hcz6_1 : w3.cell? ⟨gb138, 1, none⟩ = some (.int .u32 a0_1) := (blk_cell BK138.out 1).trans rfl
      have hcz6_2 : w3.cell? ⟨gb138, 2, none⟩ = some (.int .i64 a0_2) := (blk_cell BK138.out 2).trans rfl
      have hcz6_3 : w3.cell? ⟨gb138, 3, none⟩ = some (.int .i64 a0_3) := (blk_cell BK138.out 3).trans rfl
      have hcz6_4 : w3.cell? ⟨gb138, 4, none⟩ = some (.int .i64 a0_4) := (blk_cell BK138.out 4).trans rfl
      have hfz6_0 := blk_frozen BK138.out 0
      have hfz6_1 := blk_frozen BK138.out 1
      have hfz6_2 := blk_frozen BK138.out 2
      have hfz6_3 := blk_frozen BK138.out 3
      have hfz6_4 := blk_frozen BK138.out 4
      go_wp2
      go_meet
      case rel => exact ⟨_, (decide (a0_0 > 5)), (by first | rfl | (simp; done) | (simp [*]; done)), H', ⟨by first | omega | exact Nat.le_refl _⟩, ⟨by (with_reducible repeat (first | refine blk_drewN ?_ _ | refine blk_drew ?_ | refine blk_alloc ?_ _)); exact BK138.out⟩, ⟨by repeat (first | (with_reducible first | exact HB.out | apply below_alloc | apply pw_below_drewN | apply below_drew1 | refine below_set ?_ GE138.out) | exact HB.out)⟩⟩
  case rest =>
    clear HC2
    try clear c2
    try clear p2
    try clear c4
    try clear c4b0
    try clear hcz5_0
    try clear hcz5_1
    try clear hcz5_2
    try clear hcz5_3
    try clear hcz5_4
    try clear hcz6_0
    try clear hcz6_1
    try clear hcz6_2
    try clear hcz6_3
    try clear hcz6_4
    try clear hfz5_0
    try clear hfz5_1
    try clear hfz5_2
    try clear hfz5_3
    try clear hfz5_4
    try clear hfz6_0
    try clear hfz6_1
    try clear hfz6_2
    try clear hfz6_3
    try clear hfz6_4
    obtain ⟨kq, x10_1, rfl, HA, HJ1, BK138, HB⟩ := hcut
    cases kq with
    | zero => exact absurd HA.out (by simp [credenzaref23_Right.j0])
    | succ kj1 =>
      have H := HA.out
      clear HA
      simp only [credenzaref23_Right.j0] at H
      by_cases c7 : x10_1 = true
      · subst c7
        have H1 : (some 29) = some r := by rw [if_pos rfl] at H; exact H
        clear H
        have H := H1
        clear H1
        obtain rfl := Option.some.inj H
        go_wp2
        go_ret
        exact ⟨by first | rfl | (simp [errW_none, errW_some] <;> rfl) | (simp [*, errW_none, errW_some] <;> rfl), by repeat (first | (with_reducible first | exact HB.out | apply below_alloc | apply pw_below_drewN | apply below_drew1 | refine below_set ?_ GE138.out) | exact HB.out)⟩
      · replace c7 := Bool.eq_false_iff.mpr c7
        subst c7
        have H1 : (if a0_0 = 1 then (if a0_0 = 5 then (if a0_2 = 0 then (credenzaref23_Right.j1 kj1 false a0_0 a0_1 a0_2 a0_3 a0_4) else (credenzaref23_Right.j1 kj1 true a0_0 a0_1 a0_2 a0_3 a0_4)) else (credenzaref23_Right.j1 kj1 (a0_4 != 0) a0_0 a0_1 a0_2 a0_3 a0_4)) else (if a0_3 = 0 then (if a0_0 = 5 then (if a0_2 = 0 then (credenzaref23_Right.j1 kj1 false a0_0 a0_1 a0_2 a0_3 a0_4) else (credenzaref23_Right.j1 kj1 true a0_0 a0_1 a0_2 a0_3 a0_4)) else (credenzaref23_Right.j1 kj1 (a0_4 != 0) a0_0 a0_1 a0_2 a0_3 a0_4)) else (credenzaref23_Right.j1 kj1 true a0_0 a0_1 a0_2 a0_3 a0_4))) = some r := by rw [if_neg (show ¬ (false = true) by decide)] at H; exact H
        clear H
        have H := H1
        clear H1
        have HC8 := Aside0.mk H
        clear H
        go_upto_region 3 with (fail)
        go_cut [38] (fun v38 wc => ∃ (kq : Nat) (x38_7 : Bool), v38 = .bool x38_7 ∧ Aside0 (credenzaref23_Right.j1 kq x38_7 a0_0 a0_1 a0_2 a0_3 a0_4 = some r) ∧ Aside0 (kq ≤ kj1) ∧ Aside0 (wc.heap[gb138]? = some (.cells #[.int .i64 a0_0, .int .u32 a0_1, .int .i64 a0_2, .int .i64 a0_3, .int .i64 a0_4] 55 (0, 0))) ∧ Aside0 (Below w.heap.size w wc))
        case first =>
          have H := HC8.out
          clear HC8
          by_cases c9 : a0_0 = 1
          · rw [if_pos c9] at H
            have c9b0 : (a0_0 == 1) = true := beq_iff_eq.mpr c9
            have c9b1 : (a0_0 != 1) = false := bne_eq_false_iff_eq.mpr c9
            clear c9
            (first | rw [c9b0] | (simp only [i64_w, i32_w]; rw [c9b0]) | skip)
            by_cases c10 : a0_0 = 5
            · rw [if_pos c10] at H
              have c10b0 : (a0_0 == 5) = true := beq_iff_eq.mpr c10
              have c10b1 : (a0_0 != 5) = false := bne_eq_false_iff_eq.mpr c10
              clear c10
              by_cases c11 : a0_2 = 0
              · rw [if_pos c11] at H
                have c11b0 : (a0_2 == 0) = true := beq_iff_eq.mpr c11
                have c11b1 : (a0_2 != 0) = false := bne_eq_false_iff_eq.mpr c11
                clear c11
                have H' := Aside0.mk H
                clear H
                have hcz12_0 : wc.cell? ⟨gb138, 0, none⟩ = some (.int .i64 a0_0) := (blk_cell BK138.out 0).trans rfl
                have hcz12_1 : wc.cell? ⟨gb138, 1, none⟩ = some (.int .u32 a0_1) := (blk_cell BK138.out 1).trans rfl
                have hcz12_2 : wc.cell? ⟨gb138, 2, none⟩ = some (.int .i64 a0_2) := (blk_cell BK138.out 2).trans rfl
                have hcz12_3 : wc.cell? ⟨gb138, 3, none⟩ = some (.int .i64 a0_3) := (blk_cell BK138.out 3).trans rfl
                have hcz12_4 : wc.cell? ⟨gb138, 4, none⟩ = some (.int .i64 a0_4) := (blk_cell BK138.out 4).trans rfl
                have hfz12_0 := blk_frozen BK138.out 0
                have hfz12_1 := blk_frozen BK138.out 1
                have hfz12_2 := blk_frozen BK138.out 2
                have hfz12_3 := blk_frozen BK138.out 3
                have hfz12_4 := blk_frozen BK138.out 4
                go_wp2
                go_meet
                case rel => exact ⟨_, (false), (by first | rfl | (simp; done) | (simp [*]; done)), H', ⟨by have := HJ1.out; first | omega | exact Nat.le_refl _⟩, ⟨by (with_reducible repeat (first | refine blk_drewN ?_ _ | refine blk_drew ?_ | refine blk_alloc ?_ _)); exact BK138.out⟩, ⟨by repeat (first | (with_reducible first | exact HB.out | apply below_alloc | apply pw_below_drewN | apply below_drew1 | refine below_set ?_ GE138.out) | exact HB.out)⟩⟩
              · rw [if_neg c11] at H
                have c11b0 : (a0_2 == 0) = false := beq_eq_false_iff_ne.mpr c11
                have c11b1 : (a0_2 != 0) = true := bne_iff_ne.mpr c11
                have H' := Aside0.mk H
                clear H
                have hcz13_0 : wc.cell? ⟨gb138, 0, none⟩ = some (.int .i64 a0_0) := (blk_cell BK138.out 0).trans rfl
                have hcz13_1 : wc.cell? ⟨gb138, 1, none⟩ = some (.int .u32 a0_1) := (blk_cell BK138.out 1).trans rfl
                have hcz13_2 : wc.cell? ⟨gb138, 2, none⟩ = some (.int .i64 a0_2) := (blk_cell BK138.out 2).trans rfl
                have hcz13_3 : wc.cell? ⟨gb138, 3, none⟩ = some (.int .i64 a0_3) := (blk_cell BK138.out 3).trans rfl
                have hcz13_4 : wc.cell? ⟨gb138, 4, none⟩ = some (.int .i64 a0_4) := (blk_cell BK138.out 4).trans rfl
                have hfz13_0 := blk_frozen BK138.out 0
                have hfz13_1 := blk_frozen BK138.out 1
                have hfz13_2 := blk_frozen BK138.out 2
                have hfz13_3 := blk_frozen BK138.out 3
                have hfz13_4 := blk_frozen BK138.out 4
                go_wp2
                go_meet
                case rel => exact ⟨_, (true), (by first | rfl | (simp; done) | (simp [*]; done)), H', ⟨by have := HJ1.out; first | omega | exact Nat.le_refl _⟩, ⟨by (with_reducible repeat (first | refine blk_drewN ?_ _ | refine blk_drew ?_ | refine blk_alloc ?_ _)); exact BK138.out⟩, ⟨by repeat (first | (with_reducible first | exact HB.out | apply below_alloc | apply pw_below_drewN | apply below_drew1 | refine below_set ?_ GE138.out) | exact HB.out)⟩⟩
            · rw [if_neg c10] at H
              have c10b0 : (a0_0 == 5) = false := beq_eq_false_iff_ne.mpr c10
              have c10b1 : (a0_0 != 5) = true := bne_iff_ne.mpr c10
              have H' := Aside0.mk H
              clear H
              have hcz14_0 : wc.cell? ⟨gb138, 0, none⟩ = some (.int .i64 a0_0) := (blk_cell BK138.out 0).trans rfl
              have hcz14_1 : wc.cell? ⟨gb138, 1, none⟩ = some (.int .u32 a0_1) := (blk_cell BK138.out 1).trans rfl
              have hcz14_2 : wc.cell? ⟨gb138, 2, none⟩ = some (.int .i64 a0_2) := (blk_cell BK138.out 2).trans rfl
              have hcz14_3 : wc.cell? ⟨gb138, 3, none⟩ = some (.int .i64 a0_3) := (blk_cell BK138.out 3).trans rfl
              have hcz14_4 : wc.cell? ⟨gb138, 4, none⟩ = some (.int .i64 a0_4) := (blk_cell BK138.out 4).trans rfl
              have hfz14_0 := blk_frozen BK138.out 0
              have hfz14_1 := blk_frozen BK138.out 1
              have hfz14_2 := blk_frozen BK138.out 2
              have hfz14_3 := blk_frozen BK138.out 3
              have hfz14_4 := blk_frozen BK138.out 4
              go_wp2
              go_meet
              case rel => exact ⟨_, ((a0_4 != 0)), (by first | rfl | (simp; done) | (simp [*]; done)), H', ⟨by have := HJ1.out; first | omega | exact Nat.le_refl _⟩, ⟨by (with_reducible repeat (first | refine blk_drewN ?_ _ | refine blk_drew ?_ | refine blk_alloc ?_ _)); exact BK138.out⟩, ⟨by repeat (first | (with_reducible first | exact HB.out | apply below_alloc | apply pw_below_drewN | apply below_drew1 | refine below_set ?_ GE138.out) | exact HB.out)⟩⟩
          · rw [if_neg c9] at H
            have c9b0 : (a0_0 == 1) = false := beq_eq_false_iff_ne.mpr c9
            have c9b1 : (a0_0 != 1) = true := bne_iff_ne.mpr c9
            (first | rw [c9b0] | (simp only [i64_w, i32_w]; rw [c9b0]) | skip)
            by_cases c15 : a0_3 = 0
            · rw [if_pos c15] at H
              have c15b0 : (a0_3 == 0) = true := beq_iff_eq.mpr c15
              have c15b1 : (a0_3 != 0) = false := bne_eq_false_iff_eq.mpr c15
              clear c15
              by_cases c16 : a0_0 = 5
              · rw [if_pos c16] at H
                have c16b0 : (a0_0 == 5) = true := beq_iff_eq.mpr c16
                have c16b1 : (a0_0 != 5) = false := bne_eq_false_iff_eq.mpr c16
                clear c16
                by_cases c17 : a0_2 = 0
                · rw [if_pos c17] at H
                  have c17b0 : (a0_2 == 0) = true := beq_iff_eq.mpr c17
                  have c17b1 : (a0_2 != 0) = false := bne_eq_false_iff_eq.mpr c17
                  clear c17
                  have H' := Aside0.mk H
                  clear H
                  have hcz18_0 : wc.cell? ⟨gb138, 0, none⟩ = some (.int .i64 a0_0) := (blk_cell BK138.out 0).trans rfl
                  have hcz18_1 : wc.cell? ⟨gb138, 1, none⟩ = some (.int .u32 a0_1) := (blk_cell BK138.out 1).trans rfl
                  have hcz18_2 : wc.cell? ⟨gb138, 2, none⟩ = some (.int .i64 a0_2) := (blk_cell BK138.out 2).trans rfl
                  have hcz18_3 : wc.cell? ⟨gb138, 3, none⟩ = some (.int .i64 a0_3) := (blk_cell BK138.out 3).trans rfl
                  have hcz18_4 : wc.cell? ⟨gb138, 4, none⟩ = some (.int .i64 a0_4) := (blk_cell BK138.out 4).trans rfl
                  have hfz18_0 := blk_frozen BK138.out 0
                  have hfz18_1 := blk_frozen BK138.out 1
                  have hfz18_2 := blk_frozen BK138.out 2
                  have hfz18_3 := blk_frozen BK138.out 3
                  have hfz18_4 := blk_frozen BK138.out 4
                  go_wp2
                  go_meet
                  case rel => exact ⟨_, (false), (by first | rfl | (simp; done) | (simp [*]; done)), H', ⟨by have := HJ1.out; first | omega | exact Nat.le_refl _⟩, ⟨by (with_reducible repeat (first | refine blk_drewN ?_ _ | refine blk_drew ?_ | refine blk_alloc ?_ _)); exact BK138.out⟩, ⟨by repeat (first | (with_reducible first | exact HB.out | apply below_alloc | apply pw_below_drewN | apply below_drew1 | refine below_set ?_ GE138.out) | exact HB.out)⟩⟩
                · rw [if_neg c17] at H
                  have c17b0 : (a0_2 == 0) = false := beq_eq_false_iff_ne.mpr c17
                  have c17b1 : (a0_2 != 0) = true := bne_iff_ne.mpr c17
                  have H' := Aside0.mk H
                  clear H
                  have hcz19_0 : wc.cell? ⟨gb138, 0, none⟩ = some (.int .i64 a0_0) := (blk_cell BK138.out 0).trans rfl
                  have hcz19_1 : wc.cell? ⟨gb138, 1, none⟩ = some (.int .u32 a0_1) := (blk_cell BK138.out 1).trans rfl
                  have hcz19_2 : wc.cell? ⟨gb138, 2, none⟩ = some (.int .i64 a0_2) := (blk_cell BK138.out 2).trans rfl
                  have hcz19_3 : wc.cell? ⟨gb138, 3, none⟩ = some (.int .i64 a0_3) := (blk_cell BK138.out 3).trans rfl
                  have hcz19_4 : wc.cell? ⟨gb138, 4, none⟩ = some (.int .i64 a0_4) := (blk_cell BK138.out 4).trans rfl
                  have hfz19_0 := blk_frozen BK138.out 0
                  have hfz19_1 := blk_frozen BK138.out 1
                  have hfz19_2 := blk_frozen BK138.out 2
                  have hfz19_3 := blk_frozen BK138.out 3
                  have hfz19_4 := blk_frozen BK138.out 4
                  go_wp2
                  go_meet
                  case rel => exact ⟨_, (true), (by first | rfl | (simp; done) | (simp [*]; done)), H', ⟨by have := HJ1.out; first | omega | exact Nat.le_refl _⟩, ⟨by (with_reducible repeat (first | refine blk_drewN ?_ _ | refine blk_drew ?_ | refine blk_alloc ?_ _)); exact BK138.out⟩, ⟨by repeat (first | (with_reducible first | exact HB.out | apply below_alloc | apply pw_below_drewN | apply below_drew1 | refine below_set ?_ GE138.out) | exact HB.out)⟩⟩
              · rw [if_neg c16] at H
                have c16b0 : (a0_0 == 5) = false := beq_eq_false_iff_ne.mpr c16
                have c16b1 : (a0_0 != 5) = true := bne_iff_ne.mpr c16
                have H' := Aside0.mk H
                clear H
                have hcz20_0 : wc.cell? ⟨gb138, 0, none⟩ = some (.int .i64 a0_0) := (blk_cell BK138.out 0).trans rfl
                have hcz20_1 : wc.cell? ⟨gb138, 1, none⟩ = some (.int .u32 a0_1) := (blk_cell BK138.out 1).trans rfl
                have hcz20_2 : wc.cell? ⟨gb138, 2, none⟩ = some (.int .i64 a0_2) := (blk_cell BK138.out 2).trans rfl
                have hcz20_3 : wc.cell? ⟨gb138, 3, none⟩ = some (.int .i64 a0_3) := (blk_cell BK138.out 3).trans rfl
                have hcz20_4 : wc.cell? ⟨gb138, 4, none⟩ = some (.int .i64 a0_4) := (blk_cell BK138.out 4).trans rfl
                have hfz20_0 := blk_frozen BK138.out 0
                have hfz20_1 := blk_frozen BK138.out 1
                have hfz20_2 := blk_frozen BK138.out 2
                have hfz20_3 := blk_frozen BK138.out 3
                have hfz20_4 := blk_frozen BK138.out 4
                go_wp2
                go_meet
                case rel => exact ⟨_, ((a0_4 != 0)), (by first | rfl | (simp; done) | (simp [*]; done)), H', ⟨by have := HJ1.out; first | omega | exact Nat.le_refl _⟩, ⟨by (with_reducible repeat (first | refine blk_drewN ?_ _ | refine blk_drew ?_ | refine blk_alloc ?_ _)); exact BK138.out⟩, ⟨by repeat (first | (with_reducible first | exact HB.out | apply below_alloc | apply pw_below_drewN | apply below_drew1 | refine below_set ?_ GE138.out) | exact HB.out)⟩⟩
            · rw [if_neg c15] at H
              have c15b0 : (a0_3 == 0) = false := beq_eq_false_iff_ne.mpr c15
              have c15b1 : (a0_3 != 0) = true := bne_iff_ne.mpr c15
              have H' := Aside0.mk H
              clear H
              have hcz21_0 : wc.cell? ⟨gb138, 0, none⟩ = some (.int .i64 a0_0) := (blk_cell BK138.out 0).trans rfl
              have hcz21_1 : wc.cell? ⟨gb138, 1, none⟩ = some (.int .u32 a0_1) := (blk_cell BK138.out 1).trans rfl
              have hcz21_2 : wc.cell? ⟨gb138, 2, none⟩ = some (.int .i64 a0_2) := (blk_cell BK138.out 2).trans rfl
              have hcz21_3 : wc.cell? ⟨gb138, 3, none⟩ = some (.int .i64 a0_3) := (blk_cell BK138.out 3).trans rfl
              have hcz21_4 : wc.cell? ⟨gb138, 4, none⟩ = some (.int .i64 a0_4) := (blk_cell BK138.out 4).trans rfl
              have hfz21_0 := blk_frozen BK138.out 0
              have hfz21_1 := blk_frozen BK138.out 1
              have hfz21_2 := blk_frozen BK138.out 2
              have hfz21_3 := blk_frozen BK138.out 3
              have hfz21_4 := blk_frozen BK138.out 4
              go_wp2
              go_meet
              case rel => exact ⟨_, (true), (by first | rfl | (simp; done) | (simp [*]; done)), H', ⟨by have := HJ1.out; first | omega | exact Nat.le_refl _⟩, ⟨by (with_reducible repeat (first | refine blk_drewN ?_ _ | refine blk_drew ?_ | refine blk_alloc ?_ _)); exact BK138.out⟩, ⟨by repeat (first | (with_reducible first | exact HB.out | apply below_alloc | apply pw_below_drewN | apply below_drew1 | refine below_set ?_ GE138.out) | exact HB.out)⟩⟩
        case rest =>
          clear HC8
          try clear c1
          try clear c2
          try clear p2
          try clear c4
          try clear c4b0
          try clear c7
          try clear c9
          try clear c9b0
          try clear c9b1
          try clear c10
          try clear c10b0
          try clear c10b1
          try clear c11
          try clear c11b0
          try clear c11b1
          try clear c15
          try clear c15b0
          try clear c15b1
          try clear c16
          try clear c16b0
          try clear c16b1
          try clear c17
          try clear c17b0
          try clear c17b1
          try clear hcz12_0
          try clear hcz12_1
          try clear hcz12_2
          try clear hcz12_3
          try clear hcz12_4
          try clear hcz13_0
          try clear hcz13_1
          try clear hcz13_2
          try clear hcz13_3
          try clear hcz13_4
          try clear hcz14_0
          try clear hcz14_1
          try clear hcz14_2
          try clear hcz14_3
          try clear hcz14_4
          try clear hcz18_0
          try clear hcz18_1
          try clear hcz18_2
          try clear hcz18_3
          try clear hcz18_4
          try clear hcz19_0
          try clear hcz19_1
          try clear hcz19_2
          try clear hcz19_3
          try clear hcz19_4
          try clear hcz20_0
          try clear hcz20_1
          try clear hcz20_2
          try clear hcz20_3
          try clear hcz20_4
          try clear hcz21_0
          try clear hcz21_1
          try clear hcz21_2
          try clear hcz21_3
          try clear hcz21_4
          try clear hcz5_0
          try clear hcz5_1
          try clear hcz5_2
          try clear hcz5_3
          try clear hcz5_4
          try clear hcz6_0
          try clear hcz6_1
          try clear hcz6_2
          try clear hcz6_3
          try clear hcz6_4
          try clear hfz12_0
          try clear hfz12_1
          try clear hfz12_2
          try clear hfz12_3
          try clear hfz12_4
          try clear hfz13_0
          try clear hfz13_1
          try clear hfz13_2
          try clear hfz13_3
          try clear hfz13_4
          try clear hfz14_0
          try clear hfz14_1
          try clear hfz14_2
          try clear hfz14_3
          try clear hfz14_4
          try clear hfz18_0
          try clear hfz18_1
          try clear hfz18_2
          try clear hfz18_3
          try clear hfz18_4
          try clear hfz19_0
          try clear hfz19_1
          try clear hfz19_2
          try clear hfz19_3
          try clear hfz19_4
          try clear hfz20_0
          try clear hfz20_1
          try clear hfz20_2
          try clear hfz20_3
          try clear hfz20_4
          try clear hfz21_0
          try clear hfz21_1
          try clear hfz21_2
          try clear hfz21_3
          try clear hfz21_4
          try clear hfz5_0
          try clear hfz5_1
          try clear hfz5_2
          try clear hfz5_3
          try clear hfz5_4
          try clear hfz6_0
          try clear hfz6_1
          try clear hfz6_2
          try clear hfz6_3
          try clear hfz6_4
          try clear p2
          obtain ⟨kq, x38_7, rfl, HA, HJ7, BK138, HB⟩ := hcut
          cases kq with
          | zero => exact absurd HA.out (by simp [credenzaref23_Right.j1])
          | succ kj7 =>
            have H := HA.out
            clear HA
            simp only [credenzaref23_Right.j1] at H
            by_cases c22 : x38_7 = true
            · subst c22
              have H1 : (some 10) = some r := by rw [if_pos rfl] at H; exact H
              clear H
              have H := H1
              clear H1
              obtain rfl := Option.some.inj H
              go_wp2
              go_ret
              exact ⟨by first | rfl | (simp [errW_none, errW_some] <;> rfl) | (simp [*, errW_none, errW_some] <;> rfl), by repeat (first | (with_reducible first | exact HB.out | apply below_alloc | apply pw_below_drewN | apply below_drew1 | refine below_set ?_ GE138.out) | exact HB.out)⟩
            · replace c22 := Bool.eq_false_iff.mpr c22
              subst c22
              have H1 : (if a0_2 < 0 then (some 11) else (if a0_2 > 1024 then (some 11) else (if a0_0 = 1 then (if a0_2 = 1024 then (some 11) else (if a0_3 < 0 then (some 11) else (if a0_3 > 255 then (some 11) else (if a0_4 > 255 then (some 11) else (if a0_0 = 5 then (if a0_4 < 1 then (some 11) else (some 0)) else (some 0)))))) else (if a0_3 < 0 then (some 11) else (if a0_3 > 255 then (some 11) else (if a0_4 > 255 then (some 11) else (if a0_0 = 5 then (if a0_4 < 1 then (some 11) else (some 0)) else (some 0)))))))) = some r := by rw [if_neg (show ¬ (false = true) by decide)] at H; exact H
              clear H
              have H := H1
              clear H1
              by_cases c23 : a0_2 < 0
              · rw [if_pos c23] at H
                have c23b0 : decide (a0_2 < 0) = true := decide_eq_true c23
                clear c23
                obtain rfl := Option.some.inj H
                have hcz24_0 : wc.cell? ⟨gb138, 0, none⟩ = some (.int .i64 a0_0) := (blk_cell BK138.out 0).trans rfl
                have hcz24_1 : wc.cell? ⟨gb138, 1, none⟩ = some (.int .u32 a0_1) := (blk_cell BK138.out 1).trans rfl
                have hcz24_2 : wc.cell? ⟨gb138, 2, none⟩ = some (.int .i64 a0_2) := (blk_cell BK138.out 2).trans rfl
                have hcz24_3 : wc.cell? ⟨gb138, 3, none⟩ = some (.int .i64 a0_3) := (blk_cell BK138.out 3).trans rfl
                have hcz24_4 : wc.cell? ⟨gb138, 4, none⟩ = some (.int .i64 a0_4) := (blk_cell BK138.out 4).trans rfl
                have hfz24_0 := blk_frozen BK138.out 0
                have hfz24_1 := blk_frozen BK138.out 1
                have hfz24_2 := blk_frozen BK138.out 2
                have hfz24_3 := blk_frozen BK138.out 3
                have hfz24_4 := blk_frozen BK138.out 4
                go_wp2
                go_ret
                exact ⟨by first | rfl | (simp [errW_none, errW_some] <;> rfl) | (simp [*, errW_none, errW_some] <;> rfl), by repeat (first | (with_reducible first | exact HB.out | apply below_alloc | apply pw_below_drewN | apply below_drew1 | refine below_set ?_ GE138.out) | exact HB.out)⟩
              · rw [if_neg c23] at H
                have c23b0 : decide (a0_2 < 0) = false := decide_eq_false c23
                clear c23
                by_cases c25 : a0_2 > 1024
                · rw [if_pos c25] at H
                  have c25b0 : decide (1024 < a0_2) = true := decide_eq_true c25
                  clear c25
                  obtain rfl := Option.some.inj H
                  have hcz26_0 : wc.cell? ⟨gb138, 0, none⟩ = some (.int .i64 a0_0) := (blk_cell BK138.out 0).trans rfl
                  have hcz26_1 : wc.cell? ⟨gb138, 1, none⟩ = some (.int .u32 a0_1) := (blk_cell BK138.out 1).trans rfl
                  have hcz26_2 : wc.cell? ⟨gb138, 2, none⟩ = some (.int .i64 a0_2) := (blk_cell BK138.out 2).trans rfl
                  have hcz26_3 : wc.cell? ⟨gb138, 3, none⟩ = some (.int .i64 a0_3) := (blk_cell BK138.out 3).trans rfl
                  have hcz26_4 : wc.cell? ⟨gb138, 4, none⟩ = some (.int .i64 a0_4) := (blk_cell BK138.out 4).trans rfl
                  have hfz26_0 := blk_frozen BK138.out 0
                  have hfz26_1 := blk_frozen BK138.out 1
                  have hfz26_2 := blk_frozen BK138.out 2
                  have hfz26_3 := blk_frozen BK138.out 3
                  have hfz26_4 := blk_frozen BK138.out 4
                  go_wp2
                  go_ret
                  exact ⟨by first | rfl | (simp [errW_none, errW_some] <;> rfl) | (simp [*, errW_none, errW_some] <;> rfl), by repeat (first | (with_reducible first | exact HB.out | apply below_alloc | apply pw_below_drewN | apply below_drew1 | refine below_set ?_ GE138.out) | exact HB.out)⟩
                · rw [if_neg c25] at H
                  have c25b0 : decide (1024 < a0_2) = false := decide_eq_false c25
                  clear c25
                  by_cases c27 : a0_0 = 1
                  · rw [if_pos c27] at H
                    have c27b0 : (a0_0 == 1) = true := beq_iff_eq.mpr c27
                    have c27b1 : (a0_0 != 1) = false := bne_eq_false_iff_eq.mpr c27
                    clear c27
                    by_cases c28 : a0_2 = 1024
                    · rw [if_pos c28] at H
                      have c28b0 : (a0_2 == 1024) = true := beq_iff_eq.mpr c28
                      have c28b1 : (a0_2 != 1024) = false := bne_eq_false_iff_eq.mpr c28
                      clear c28
                      obtain rfl := Option.some.inj H
                      have hcz29_0 : wc.cell? ⟨gb138, 0, none⟩ = some (.int .i64 a0_0) := (blk_cell BK138.out 0).trans rfl
                      have hcz29_1 : wc.cell? ⟨gb138, 1, none⟩ = some (.int .u32 a0_1) := (blk_cell BK138.out 1).trans rfl
                      have hcz29_2 : wc.cell? ⟨gb138, 2, none⟩ = some (.int .i64 a0_2) := (blk_cell BK138.out 2).trans rfl
                      have hcz29_3 : wc.cell? ⟨gb138, 3, none⟩ = some (.int .i64 a0_3) := (blk_cell BK138.out 3).trans rfl
                      have hcz29_4 : wc.cell? ⟨gb138, 4, none⟩ = some (.int .i64 a0_4) := (blk_cell BK138.out 4).trans rfl
                      have hfz29_0 := blk_frozen BK138.out 0
                      have hfz29_1 := blk_frozen BK138.out 1
                      have hfz29_2 := blk_frozen BK138.out 2
                      have hfz29_3 := blk_frozen BK138.out 3
                      have hfz29_4 := blk_frozen BK138.out 4
                      go_wp2
                      go_ret
                      exact ⟨by first | rfl | (simp [errW_none, errW_some] <;> rfl) | (simp [*, errW_none, errW_some] <;> rfl), by repeat (first | (with_reducible first | exact HB.out | apply below_alloc | apply pw_below_drewN | apply below_drew1 | refine below_set ?_ GE138.out) | exact HB.out)⟩
                    · rw [if_neg c28] at H
                      have c28b0 : (a0_2 == 1024) = false := beq_eq_false_iff_ne.mpr c28
                      have c28b1 : (a0_2 != 1024) = true := bne_iff_ne.mpr c28
                      by_cases c30 : a0_3 < 0
                      · rw [if_pos c30] at H
                        have c30b0 : decide (a0_3 < 0) = true := decide_eq_true c30
                        clear c30
                        obtain rfl := Option.some.inj H
                        have hcz31_0 : wc.cell? ⟨gb138, 0, none⟩ = some (.int .i64 a0_0) := (blk_cell BK138.out 0).trans rfl
                        have hcz31_1 : wc.cell? ⟨gb138, 1, none⟩ = some (.int .u32 a0_1) := (blk_cell BK138.out 1).trans rfl
                        have hcz31_2 : wc.cell? ⟨gb138, 2, none⟩ = some (.int .i64 a0_2) := (blk_cell BK138.out 2).trans rfl
                        have hcz31_3 : wc.cell? ⟨gb138, 3, none⟩ = some (.int .i64 a0_3) := (blk_cell BK138.out 3).trans rfl
                        have hcz31_4 : wc.cell? ⟨gb138, 4, none⟩ = some (.int .i64 a0_4) := (blk_cell BK138.out 4).trans rfl
                        have hfz31_0 := blk_frozen BK138.out 0
                        have hfz31_1 := blk_frozen BK138.out 1
                        have hfz31_2 := blk_frozen BK138.out 2
                        have hfz31_3 := blk_frozen BK138.out 3
                        have hfz31_4 := blk_frozen BK138.out 4
                        go_wp2
                        go_ret
                        exact ⟨by first | rfl | (simp [errW_none, errW_some] <;> rfl) | (simp [*, errW_none, errW_some] <;> rfl), by repeat (first | (with_reducible first | exact HB.out | apply below_alloc | apply pw_below_drewN | apply below_drew1 | refine below_set ?_ GE138.out) | exact HB.out)⟩
                      · rw [if_neg c30] at H
                        have c30b0 : decide (a0_3 < 0) = false := decide_eq_false c30
                        clear c30
                        by_cases c32 : a0_3 > 255
                        · rw [if_pos c32] at H
                          have c32b0 : decide (255 < a0_3) = true := decide_eq_true c32
                          clear c32
                          obtain rfl := Option.some.inj H
                          have hcz33_0 : wc.cell? ⟨gb138, 0, none⟩ = some (.int .i64 a0_0) := (blk_cell BK138.out 0).trans rfl
                          have hcz33_1 : wc.cell? ⟨gb138, 1, none⟩ = some (.int .u32 a0_1) := (blk_cell BK138.out 1).trans rfl
                          have hcz33_2 : wc.cell? ⟨gb138, 2, none⟩ = some (.int .i64 a0_2) := (blk_cell BK138.out 2).trans rfl
                          have hcz33_3 : wc.cell? ⟨gb138, 3, none⟩ = some (.int .i64 a0_3) := (blk_cell BK138.out 3).trans rfl
                          have hcz33_4 : wc.cell? ⟨gb138, 4, none⟩ = some (.int .i64 a0_4) := (blk_cell BK138.out 4).trans rfl
                          have hfz33_0 := blk_frozen BK138.out 0
                          have hfz33_1 := blk_frozen BK138.out 1
                          have hfz33_2 := blk_frozen BK138.out 2
                          have hfz33_3 := blk_frozen BK138.out 3
                          have hfz33_4 := blk_frozen BK138.out 4
                          go_wp2
                          go_ret
                          exact ⟨by first | rfl | (simp [errW_none, errW_some] <;> rfl) | (simp [*, errW_none, errW_some] <;> rfl), by repeat (first | (with_reducible first | exact HB.out | apply below_alloc | apply pw_below_drewN | apply below_drew1 | refine below_set ?_ GE138.out) | exact HB.out)⟩
                        · rw [if_neg c32] at H
                          have c32b0 : decide (255 < a0_3) = false := decide_eq_false c32
                          clear c32
                          by_cases c34 : a0_4 > 255
                          · rw [if_pos c34] at H
                            have c34b0 : decide (255 < a0_4) = true := decide_eq_true c34
                            clear c34
                            obtain rfl := Option.some.inj H
                            have hcz35_0 : wc.cell? ⟨gb138, 0, none⟩ = some (.int .i64 a0_0) := (blk_cell BK138.out 0).trans rfl
                            have hcz35_1 : wc.cell? ⟨gb138, 1, none⟩ = some (.int .u32 a0_1) := (blk_cell BK138.out 1).trans rfl
                            have hcz35_2 : wc.cell? ⟨gb138, 2, none⟩ = some (.int .i64 a0_2) := (blk_cell BK138.out 2).trans rfl
                            have hcz35_3 : wc.cell? ⟨gb138, 3, none⟩ = some (.int .i64 a0_3) := (blk_cell BK138.out 3).trans rfl
                            have hcz35_4 : wc.cell? ⟨gb138, 4, none⟩ = some (.int .i64 a0_4) := (blk_cell BK138.out 4).trans rfl
                            have hfz35_0 := blk_frozen BK138.out 0
                            have hfz35_1 := blk_frozen BK138.out 1
                            have hfz35_2 := blk_frozen BK138.out 2
                            have hfz35_3 := blk_frozen BK138.out 3
                            have hfz35_4 := blk_frozen BK138.out 4
                            go_wp2
                            go_ret
                            exact ⟨by first | rfl | (simp [errW_none, errW_some] <;> rfl) | (simp [*, errW_none, errW_some] <;> rfl), by repeat (first | (with_reducible first | exact HB.out | apply below_alloc | apply pw_below_drewN | apply below_drew1 | refine below_set ?_ GE138.out) | exact HB.out)⟩
                          · rw [if_neg c34] at H
                            have c34b0 : decide (255 < a0_4) = false := decide_eq_false c34
                            clear c34
                            by_cases c36 : a0_0 = 5
                            · rw [if_pos c36] at H
                              have c36b0 : (a0_0 == 5) = true := beq_iff_eq.mpr c36
                              have c36b1 : (a0_0 != 5) = false := bne_eq_false_iff_eq.mpr c36
                              clear c36
                              by_cases c37 : a0_4 < 1
                              · rw [if_pos c37] at H
                                have c37b0 : decide (a0_4 < 1) = true := decide_eq_true c37
                                clear c37
                                obtain rfl := Option.some.inj H
                                have hcz38_0 : wc.cell? ⟨gb138, 0, none⟩ = some (.int .i64 a0_0) := (blk_cell BK138.out 0).trans rfl
                                have hcz38_1 : wc.cell? ⟨gb138, 1, none⟩ = some (.int .u32 a0_1) := (blk_cell BK138.out 1).trans rfl
                                have hcz38_2 : wc.cell? ⟨gb138, 2, none⟩ = some (.int .i64 a0_2) := (blk_cell BK138.out 2).trans rfl
                                have hcz38_3 : wc.cell? ⟨gb138, 3, none⟩ = some (.int .i64 a0_3) := (blk_cell BK138.out 3).trans rfl
                                have hcz38_4 : wc.cell? ⟨gb138, 4, none⟩ = some (.int .i64 a0_4) := (blk_cell BK138.out 4).trans rfl
                                have hfz38_0 := blk_frozen BK138.out 0
                                have hfz38_1 := blk_frozen BK138.out 1
                                have hfz38_2 := blk_frozen BK138.out 2
                                have hfz38_3 := blk_frozen BK138.out 3
                                have hfz38_4 := blk_frozen BK138.out 4
                                go_wp2
                                go_ret
                                exact ⟨by first | rfl | (simp [errW_none, errW_some] <;> rfl) | (simp [*, errW_none, errW_some] <;> rfl), by repeat (first | (with_reducible first | exact HB.out | apply below_alloc | apply pw_below_drewN | apply below_drew1 | refine below_set ?_ GE138.out) | exact HB.out)⟩
                              · rw [if_neg c37] at H
                                have c37b0 : decide (a0_4 < 1) = false := decide_eq_false c37
                                clear c37
                                obtain rfl := Option.some.inj H
                                have hcz39_0 : wc.cell? ⟨gb138, 0, none⟩ = some (.int .i64 a0_0) := (blk_cell BK138.out 0).trans rfl
                                have hcz39_1 : wc.cell? ⟨gb138, 1, none⟩ = some (.int .u32 a0_1) := (blk_cell BK138.out 1).trans rfl
                                have hcz39_2 : wc.cell? ⟨gb138, 2, none⟩ = some (.int .i64 a0_2) := (blk_cell BK138.out 2).trans rfl
                                have hcz39_3 : wc.cell? ⟨gb138, 3, none⟩ = some (.int .i64 a0_3) := (blk_cell BK138.out 3).trans rfl
                                have hcz39_4 : wc.cell? ⟨gb138, 4, none⟩ = some (.int .i64 a0_4) := (blk_cell BK138.out 4).trans rfl
                                have hfz39_0 := blk_frozen BK138.out 0
                                have hfz39_1 := blk_frozen BK138.out 1
                                have hfz39_2 := blk_frozen BK138.out 2
                                have hfz39_3 := blk_frozen BK138.out 3
                                have hfz39_4 := blk_frozen BK138.out 4
                                go_wp2
                                go_ret
                                exact ⟨by first | rfl | (simp [errW_none, errW_some] <;> rfl) | (simp [*, errW_none, errW_some] <;> rfl), by repeat (first | (with_reducible first | exact HB.out | apply below_alloc | apply pw_below_drewN | apply below_drew1 | refine below_set ?_ GE138.out) | exact HB.out)⟩
                            · rw [if_neg c36] at H
                              have c36b0 : (a0_0 == 5) = false := beq_eq_false_iff_ne.mpr c36
                              have c36b1 : (a0_0 != 5) = true := bne_iff_ne.mpr c36
                              obtain rfl := Option.some.inj H
                              have hcz40_0 : wc.cell? ⟨gb138, 0, none⟩ = some (.int .i64 a0_0) := (blk_cell BK138.out 0).trans rfl
                              have hcz40_1 : wc.cell? ⟨gb138, 1, none⟩ = some (.int .u32 a0_1) := (blk_cell BK138.out 1).trans rfl
                              have hcz40_2 : wc.cell? ⟨gb138, 2, none⟩ = some (.int .i64 a0_2) := (blk_cell BK138.out 2).trans rfl
                              have hcz40_3 : wc.cell? ⟨gb138, 3, none⟩ = some (.int .i64 a0_3) := (blk_cell BK138.out 3).trans rfl
                              have hcz40_4 : wc.cell? ⟨gb138, 4, none⟩ = some (.int .i64 a0_4) := (blk_cell BK138.out 4).trans rfl
                              have hfz40_0 := blk_frozen BK138.out 0
                              have hfz40_1 := blk_frozen BK138.out 1
                              have hfz40_2 := blk_frozen BK138.out 2
                              have hfz40_3 := blk_frozen BK138.out 3
                              have hfz40_4 := blk_frozen BK138.out 4
                              go_wp2
                              go_ret
                              exact ⟨by first | rfl | (simp [errW_none, errW_some] <;> rfl) | (simp [*, errW_none, errW_some] <;> rfl), by repeat (first | (with_reducible first | exact HB.out | apply below_alloc | apply pw_below_drewN | apply below_drew1 | refine below_set ?_ GE138.out) | exact HB.out)⟩
                  · rw [if_neg c27] at H
                    have c27b0 : (a0_0 == 1) = false := beq_eq_false_iff_ne.mpr c27
                    have c27b1 : (a0_0 != 1) = true := bne_iff_ne.mpr c27
                    by_cases c41 : a0_3 < 0
                    · rw [if_pos c41] at H
                      have c41b0 : decide (a0_3 < 0) = true := decide_eq_true c41
                      clear c41
                      obtain rfl := Option.some.inj H
                      have hcz42_0 : wc.cell? ⟨gb138, 0, none⟩ = some (.int .i64 a0_0) := (blk_cell BK138.out 0).trans rfl
                      have hcz42_1 : wc.cell? ⟨gb138, 1, none⟩ = some (.int .u32 a0_1) := (blk_cell BK138.out 1).trans rfl
                      have hcz42_2 : wc.cell? ⟨gb138, 2, none⟩ = some (.int .i64 a0_2) := (blk_cell BK138.out 2).trans rfl
                      have hcz42_3 : wc.cell? ⟨gb138, 3, none⟩ = some (.int .i64 a0_3) := (blk_cell BK138.out 3).trans rfl
                      have hcz42_4 : wc.cell? ⟨gb138, 4, none⟩ = some (.int .i64 a0_4) := (blk_cell BK138.out 4).trans rfl
                      have hfz42_0 := blk_frozen BK138.out 0
                      have hfz42_1 := blk_frozen BK138.out 1
                      have hfz42_2 := blk_frozen BK138.out 2
                      have hfz42_3 := blk_frozen BK138.out 3
                      have hfz42_4 := blk_frozen BK138.out 4
                      go_wp2
                      go_ret
                      exact ⟨by first | rfl | (simp [errW_none, errW_some] <;> rfl) | (simp [*, errW_none, errW_some] <;> rfl), by repeat (first | (with_reducible first | exact HB.out | apply below_alloc | apply pw_below_drewN | apply below_drew1 | refine below_set ?_ GE138.out) | exact HB.out)⟩
                    · rw [if_neg c41] at H
                      have c41b0 : decide (a0_3 < 0) = false := decide_eq_false c41
                      clear c41
                      by_cases c43 : a0_3 > 255
                      · rw [if_pos c43] at H
                        have c43b0 : decide (255 < a0_3) = true := decide_eq_true c43
                        clear c43
                        obtain rfl := Option.some.inj H
                        have hcz44_0 : wc.cell? ⟨gb138, 0, none⟩ = some (.int .i64 a0_0) := (blk_cell BK138.out 0).trans rfl
                        have hcz44_1 : wc.cell? ⟨gb138, 1, none⟩ = some (.int .u32 a0_1) := (blk_cell BK138.out 1).trans rfl
                        have hcz44_2 : wc.cell? ⟨gb138, 2, none⟩ = some (.int .i64 a0_2) := (blk_cell BK138.out 2).trans rfl
                        have hcz44_3 : wc.cell? ⟨gb138, 3, none⟩ = some (.int .i64 a0_3) := (blk_cell BK138.out 3).trans rfl
                        have hcz44_4 : wc.cell? ⟨gb138, 4, none⟩ = some (.int .i64 a0_4) := (blk_cell BK138.out 4).trans rfl
                        have hfz44_0 := blk_frozen BK138.out 0
                        have hfz44_1 := blk_frozen BK138.out 1
                        have hfz44_2 := blk_frozen BK138.out 2
                        have hfz44_3 := blk_frozen BK138.out 3
                        have hfz44_4 := blk_frozen BK138.out 4
                        go_wp2
                        go_ret
                        exact ⟨by first | rfl | (simp [errW_none, errW_some] <;> rfl) | (simp [*, errW_none, errW_some] <;> rfl), by repeat (first | (with_reducible first | exact HB.out | apply below_alloc | apply pw_below_drewN | apply below_drew1 | refine below_set ?_ GE138.out) | exact HB.out)⟩
                      · rw [if_neg c43] at H
                        have c43b0 : decide (255 < a0_3) = false := decide_eq_false c43
                        clear c43
                        by_cases c45 : a0_4 > 255
                        · rw [if_pos c45] at H
                          have c45b0 : decide (255 < a0_4) = true := decide_eq_true c45
                          clear c45
                          obtain rfl := Option.some.inj H
                          have hcz46_0 : wc.cell? ⟨gb138, 0, none⟩ = some (.int .i64 a0_0) := (blk_cell BK138.out 0).trans rfl
                          have hcz46_1 : wc.cell? ⟨gb138, 1, none⟩ = some (.int .u32 a0_1) := (blk_cell BK138.out 1).trans rfl
                          have hcz46_2 : wc.cell? ⟨gb138, 2, none⟩ = some (.int .i64 a0_2) := (blk_cell BK138.out 2).trans rfl
                          have hcz46_3 : wc.cell? ⟨gb138, 3, none⟩ = some (.int .i64 a0_3) := (blk_cell BK138.out 3).trans rfl
                          have hcz46_4 : wc.cell? ⟨gb138, 4, none⟩ = some (.int .i64 a0_4) := (blk_cell BK138.out 4).trans rfl
                          have hfz46_0 := blk_frozen BK138.out 0
                          have hfz46_1 := blk_frozen BK138.out 1
                          have hfz46_2 := blk_frozen BK138.out 2
                          have hfz46_3 := blk_frozen BK138.out 3
                          have hfz46_4 := blk_frozen BK138.out 4
                          go_wp2
                          go_ret
                          exact ⟨by first | rfl | (simp [errW_none, errW_some] <;> rfl) | (simp [*, errW_none, errW_some] <;> rfl), by repeat (first | (with_reducible first | exact HB.out | apply below_alloc | apply pw_below_drewN | apply below_drew1 | refine below_set ?_ GE138.out) | exact HB.out)⟩
                        · rw [if_neg c45] at H
                          have c45b0 : decide (255 < a0_4) = false := decide_eq_false c45
                          clear c45
                          by_cases c47 : a0_0 = 5
                          · rw [if_pos c47] at H
                            have c47b0 : (a0_0 == 5) = true := beq_iff_eq.mpr c47
                            have c47b1 : (a0_0 != 5) = false := bne_eq_false_iff_eq.mpr c47
                            clear c47
                            by_cases c48 : a0_4 < 1
                            · rw [if_pos c48] at H
                              have c48b0 : decide (a0_4 < 1) = true := decide_eq_true c48
                              clear c48
                              obtain rfl := Option.some.inj H
                              have hcz49_0 : wc.cell? ⟨gb138, 0, none⟩ = some (.int .i64 a0_0) := (blk_cell BK138.out 0).trans rfl
                              have hcz49_1 : wc.cell? ⟨gb138, 1, none⟩ = some (.int .u32 a0_1) := (blk_cell BK138.out 1).trans rfl
                              have hcz49_2 : wc.cell? ⟨gb138, 2, none⟩ = some (.int .i64 a0_2) := (blk_cell BK138.out 2).trans rfl
                              have hcz49_3 : wc.cell? ⟨gb138, 3, none⟩ = some (.int .i64 a0_3) := (blk_cell BK138.out 3).trans rfl
                              have hcz49_4 : wc.cell? ⟨gb138, 4, none⟩ = some (.int .i64 a0_4) := (blk_cell BK138.out 4).trans rfl
                              have hfz49_0 := blk_frozen BK138.out 0
                              have hfz49_1 := blk_frozen BK138.out 1
                              have hfz49_2 := blk_frozen BK138.out 2
                              have hfz49_3 := blk_frozen BK138.out 3
                              have hfz49_4 := blk_frozen BK138.out 4
                              go_wp2
                              go_ret
                              exact ⟨by first | rfl | (simp [errW_none, errW_some] <;> rfl) | (simp [*, errW_none, errW_some] <;> rfl), by repeat (first | (with_reducible first | exact HB.out | apply below_alloc | apply pw_below_drewN | apply below_drew1 | refine below_set ?_ GE138.out) | exact HB.out)⟩
                            · rw [if_neg c48] at H
                              have c48b0 : decide (a0_4 < 1) = false := decide_eq_false c48
                              clear c48
                              obtain rfl := Option.some.inj H
                              have hcz50_0 : wc.cell? ⟨gb138, 0, none⟩ = some (.int .i64 a0_0) := (blk_cell BK138.out 0).trans rfl
                              have hcz50_1 : wc.cell? ⟨gb138, 1, none⟩ = some (.int .u32 a0_1) := (blk_cell BK138.out 1).trans rfl
                              have hcz50_2 : wc.cell? ⟨gb138, 2, none⟩ = some (.int .i64 a0_2) := (blk_cell BK138.out 2).trans rfl
                              have hcz50_3 : wc.cell? ⟨gb138, 3, none⟩ = some (.int .i64 a0_3) := (blk_cell BK138.out 3).trans rfl
                              have hcz50_4 : wc.cell? ⟨gb138, 4, none⟩ = some (.int .i64 a0_4) := (blk_cell BK138.out 4).trans rfl
                              have hfz50_0 := blk_frozen BK138.out 0
                              have hfz50_1 := blk_frozen BK138.out 1
                              have hfz50_2 := blk_frozen BK138.out 2
                              have hfz50_3 := blk_frozen BK138.out 3
                              have hfz50_4 := blk_frozen BK138.out 4
                              go_wp2
                              go_ret
                              exact ⟨by first | rfl | (simp [errW_none, errW_some] <;> rfl) | (simp [*, errW_none, errW_some] <;> rfl), by repeat (first | (with_reducible first | exact HB.out | apply below_alloc | apply pw_below_drewN | apply below_drew1 | refine below_set ?_ GE138.out) | exact HB.out)⟩
                          · rw [if_neg c47] at H
                            have c47b0 : (a0_0 == 5) = false := beq_eq_false_iff_ne.mpr c47
                            have c47b1 : (a0_0 != 5) = true := bne_iff_ne.mpr c47
                            obtain rfl := Option.some.inj H
                            have hcz51_0 : wc.cell? ⟨gb138, 0, none⟩ = some (.int .i64 a0_0) := (blk_cell BK138.out 0).trans rfl
                            have hcz51_1 : wc.cell? ⟨gb138, 1, none⟩ = some (.int .u32 a0_1) := (blk_cell BK138.out 1).trans rfl
                            have hcz51_2 : wc.cell? ⟨gb138, 2, none⟩ = some (.int .i64 a0_2) := (blk_cell BK138.out 2).trans rfl
                            have hcz51_3 : wc.cell? ⟨gb138, 3, none⟩ = some (.int .i64 a0_3) := (blk_cell BK138.out 3).trans rfl
                            have hcz51_4 : wc.cell? ⟨gb138, 4, none⟩ = some (.int .i64 a0_4) := (blk_cell BK138.out 4).trans rfl
                            have hfz51_0 := blk_frozen BK138.out 0
                            have hfz51_1 := blk_frozen BK138.out 1
                            have hfz51_2 := blk_frozen BK138.out 2
                            have hfz51_3 := blk_frozen BK138.out 3
                            have hfz51_4 := blk_frozen BK138.out 4
                            go_wp2
                            go_ret
                            exact ⟨by first | rfl | (simp [errW_none, errW_some] <;> rfl) | (simp [*, errW_none, errW_some] <;> rfl), by repeat (first | (with_reducible first | exact HB.out | apply below_alloc | apply pw_below_drewN | apply below_drew1 | refine below_set ?_ GE138.out) | exact HB.out)⟩

/-! ### credenzalaw23_ref: function 30 -/
def credenzalaw23_ref.f (a0_0 : Int) (a0_1 : Int) (a0_2 : Int) (a0_3 : Int) (a0_4 : Int) : Option (Int × Int × Int × Int × Int) := some (a0_0, a0_1, a0_2, a0_3, a0_4)
set_option maxHeartbeats 8000000 in
set_option maxRecDepth 100000 in
theorem credenzalaw23_ref.calls (a0_0 : Int) (a0_1 : Int) (a0_2 : Int) (a0_3 : Int) (a0_4 : Int) (r1 : Int) (r2 : Int) (r3 : Int) (r4 : Int) (r5 : Int) (w : World) (h : credenzalaw23_ref.f a0_0 a0_1 a0_2 a0_3 a0_4 = some (r1, r2, r3, r4, r5)) :
    Calls Try.prog 30 #[.agg #[.int .i64 a0_0, .int .u32 a0_1, .int .i64 a0_2, .int .i64 a0_3, .int .i64 a0_4]] w fun e w' => e = .returned (.agg #[.int .i64 r1, .int .u32 r2, .int .i64 r3, .int .i64 r4, .int .i64 r5]) ∧ Below w.heap.size w w' := by
  have hu49 := Try.underlying49
  have hu55 := Try.underlying55
  have HB := Aside0.mk (Below.refl w.heap.size w)
  have H : (some (a0_0, a0_1, a0_2, a0_3, a0_4)) = some (r1, r2, r3, r4, r5) := h
  clear h
  simp only [Option.some.injEq, Prod.mk.injEq] at H
  obtain ⟨rfl, rfl, rfl, rfl, rfl⟩ := H
  go_enter Try.func30, Try.ntmps30
  go_wp2_with (first | ((with_reducible refine gate_dst (N := 1) rfl ?_); refine box_event ?hg (N := 1) ?hd (cs := #[.int .i64 a0_0, .int .u32 a0_1, .int .i64 a0_2, .int .i64 a0_3, .int .i64 a0_4]) (t := 49) ?hr ?_; (case hd => rfl); (case hg => rfl); (case hr => first | (go_simp; done) | (go_simp; rfl)); intro gb139 hg w2 hbox hb; have n0_ := Aside0.mk (below_step (by repeat (first | (with_reducible first | exact HB.out | apply below_alloc | apply pw_below_drewN | apply below_drew1) | exact HB.out)) hb); have n1_ := Aside0.mk (hbox); have n2_ := Aside0.mk ((by rw [hg]; exact (below_size (by repeat (first | (with_reducible first | exact HB.out | apply below_alloc | apply pw_below_drewN | apply below_drew1) | exact HB.out))) : w.heap.size ≤ gb139)); have n3_ := Aside0.mk ((by rw [hg]; exact (below_size (by repeat (first | (with_reducible first | exact HB.out | apply below_alloc | apply pw_below_drewN | apply below_drew1) | exact HB.out))) : w.heap.size ≤ gb139)); clear HB; have HB := n0_; have BK139 := n1_; have GW139 := n2_; have GE139 := n3_; clear n0_ n1_ n2_ n3_; clear hb hbox hg) | ((with_reducible refine gate_dst (N := 2) rfl ?_); refine box_event ?hg (N := 2) ?hd (cs := #[.int .i64 0, .int .u32 0, .int .i64 0, .int .i64 0, .int .i64 0]) (t := 55) ?hr ?_; (case hd => rfl); (case hg => rfl); (case hr => first | (go_simp; done) | (go_simp; rfl)); intro gb140 hg w3 hbox hb; have n0_ := Aside0.mk (blk_below (g := gb139) (o := .cells #[.int .i64 a0_0, .int .u32 a0_1, .int .i64 a0_2, .int .i64 a0_3, .int .i64 a0_4] 49 (0, 0)) (by (with_reducible repeat (first | refine blk_drewN ?_ _ | refine blk_drew ?_ | refine blk_alloc ?_ _)); exact BK139.out) hb); have n1_ := Aside0.mk (below_step (by repeat (first | (with_reducible first | exact HB.out | apply below_alloc | apply pw_below_drewN | apply below_drew1 | refine below_set ?_ GE139.out) | exact HB.out)) hb); have n2_ := Aside0.mk (hbox); have n3_ := Aside0.mk ((by rw [hg]; exact (below_size (by repeat (first | (with_reducible first | exact HB.out | apply below_alloc | apply pw_below_drewN | apply below_drew1 | refine below_set ?_ GE139.out) | exact HB.out))) : w.heap.size ≤ gb140)); have n4_ := Aside0.mk ((by rw [hg]; exact (below_size (by repeat (first | (with_reducible first | exact HB.out | apply below_alloc | apply pw_below_drewN | apply below_drew1 | refine below_set ?_ GE139.out) | exact HB.out))) : w.heap.size ≤ gb140)); have n5_ := Aside0.mk ((by rw [hg]; exact Nat.ne_of_lt (blk_lt (g := gb139) (o := .cells #[.int .i64 a0_0, .int .u32 a0_1, .int .i64 a0_2, .int .i64 a0_3, .int .i64 a0_4] 49 (0, 0)) (by (with_reducible repeat (first | refine blk_drewN ?_ _ | refine blk_drew ?_ | refine blk_alloc ?_ _)); exact BK139.out)) : gb139 ≠ gb140)); have n6_ := Aside0.mk ((by rw [hg]; exact Nat.ne_of_gt (blk_lt (g := gb139) (o := .cells #[.int .i64 a0_0, .int .u32 a0_1, .int .i64 a0_2, .int .i64 a0_3, .int .i64 a0_4] 49 (0, 0)) (by (with_reducible repeat (first | refine blk_drewN ?_ _ | refine blk_drew ?_ | refine blk_alloc ?_ _)); exact BK139.out)) : gb140 ≠ gb139)); clear BK139; clear HB; have BK139 := n0_; have HB := n1_; have BK140 := n2_; have GW140 := n3_; have GE140 := n4_; have NB139_140 := n5_; have NB140_139 := n6_; clear n0_ n1_ n2_ n3_ n4_ n5_ n6_; clear hb hbox hg; have hnb4 := NB139_140.out; have hnc4 := NB140_139.out; have hcz5_0 : w3.cell? ⟨gb139, 0, none⟩ = some (.int .i64 a0_0) := (blk_cell BK139.out 0).trans rfl; have hcz5_1 : w3.cell? ⟨gb139, 1, none⟩ = some (.int .u32 a0_1) := (blk_cell BK139.out 1).trans rfl; have hcz5_2 : w3.cell? ⟨gb139, 2, none⟩ = some (.int .i64 a0_2) := (blk_cell BK139.out 2).trans rfl; have hcz5_3 : w3.cell? ⟨gb139, 3, none⟩ = some (.int .i64 a0_3) := (blk_cell BK139.out 3).trans rfl; have hcz5_4 : w3.cell? ⟨gb139, 4, none⟩ = some (.int .i64 a0_4) := (blk_cell BK139.out 4).trans rfl; have hfz5_0 := blk_frozen BK139.out 0; have hfz5_1 := blk_frozen BK139.out 1; have hfz5_2 := blk_frozen BK139.out 2; have hfz5_3 := blk_frozen BK139.out 3; have hfz5_4 := blk_frozen BK139.out 4; have hcz6_0 : w3.cell? ⟨gb140, 0, none⟩ = some (.int .i64 0) := (blk_cell BK140.out 0).trans rfl; have hcz6_1 : w3.cell? ⟨gb140, 1, none⟩ = some (.int .u32 0) := (blk_cell BK140.out 1).trans rfl; have hcz6_2 : w3.cell? ⟨gb140, 2, none⟩ = some (.int .i64 0) := (blk_cell BK140.out 2).trans rfl; have hcz6_3 : w3.cell? ⟨gb140, 3, none⟩ = some (.int .i64 0) := (blk_cell BK140.out 3).trans rfl; have hcz6_4 : w3.cell? ⟨gb140, 4, none⟩ = some (.int .i64 0) := (blk_cell BK140.out 4).trans rfl; have hfz6_0 := blk_frozen BK140.out 0; have hfz6_1 := blk_frozen BK140.out 1; have hfz6_2 := blk_frozen BK140.out 2; have hfz6_3 := blk_frozen BK140.out 3; have hfz6_4 := blk_frozen BK140.out 4))
  refine bodyPost_ret (results_cell_row rfl _ _ gb140 55 #[.int .i64 a0_0, .int .u32 a0_1, .int .i64 a0_2, .int .i64 a0_3, .int .i64 a0_4] (0, 0) _ rfl (by (with_reducible repeat (first | refine blk_drewN ?_ _ | refine blk_drew ?_ | refine blk_alloc ?_ _)); refine blk_put (cs := #[.int .i64 a0_0, .int .u32 a0_1, .int .i64 a0_2, .int .i64 a0_3, .int .i64 0]) ?_ 4 _ rfl; (with_reducible repeat (first | refine blk_drewN ?_ _ | refine blk_drew ?_ | refine blk_alloc ?_ _)); refine blk_put (cs := #[.int .i64 a0_0, .int .u32 a0_1, .int .i64 a0_2, .int .i64 0, .int .i64 0]) ?_ 3 _ rfl; (with_reducible repeat (first | refine blk_drewN ?_ _ | refine blk_drew ?_ | refine blk_alloc ?_ _)); refine blk_put (cs := #[.int .i64 a0_0, .int .u32 a0_1, .int .i64 0, .int .i64 0, .int .i64 0]) ?_ 2 _ rfl; (with_reducible repeat (first | refine blk_drewN ?_ _ | refine blk_drew ?_ | refine blk_alloc ?_ _)); refine blk_put (cs := #[.int .i64 a0_0, .int .u32 0, .int .i64 0, .int .i64 0, .int .i64 0]) ?_ 1 _ rfl; (with_reducible repeat (first | refine blk_drewN ?_ _ | refine blk_drew ?_ | refine blk_alloc ?_ _)); refine blk_put (cs := #[.int .i64 0, .int .u32 0, .int .i64 0, .int .i64 0, .int .i64 0]) ?_ 0 _ rfl; (with_reducible repeat (first | refine blk_drewN ?_ _ | refine blk_drew ?_ | refine blk_alloc ?_ _)); exact BK140.out) Try.underlying55 rfl (by kernel_rfl)) rfl ?_
  exact ⟨by first | rfl | (simp [errW_none, errW_some] <;> rfl) | (simp [*, errW_none, errW_some] <;> rfl), by repeat (first | (with_reducible first | exact HB.out | apply below_alloc | apply pw_below_drewN | apply below_drew1 | refine below_set ?_ GE139.out | refine below_set ?_ GE140.out) | exact HB.out)⟩

/-! ### bytes_Clone: function 69 -/
def bytes_Clone.f (l0 : List Int) : Option (List Int) := if l0.length < 140737488355328 then some l0 else none
set_option maxHeartbeats 8000000 in
set_option maxRecDepth 100000 in
theorem bytes_Clone.calls (A0 : Option Addr) (c0 : Nat) (l0 : List Int) (r : List Int) (w : World) (hr0 : Kd.C (Kd.int .u8) w A0 l0.length l0) (hc0 : l0.length ≤ c0) (h : bytes_Clone.f l0 = some r) :
    Calls Try.prog 69 #[.slice A0 l0.length c0] w fun e w' => ∃ v0_ : Value, e = .returned (v0_) ∧ Kd.R (Kd.int .u8) 5 w' w.heap.size (fun _ => True) v0_ r ∧ Below w.heap.size w w' := by
  unfold bytes_Clone.f at h
  by_cases hlim : l0.length < 140737488355328
  · rw [if_pos hlim] at h
    obtain rfl := Option.some.inj h
    clear h
    have HR0 := Aside0.mk hr0
    have HL := Aside0.mk hlim
    have hz := hr0.2.2
    clear hr0 hlim hc0
    have hcmp : ∀ W : World, (binOp .eql 50 (.slice A0 l0.length c0) (.slice none 0 0)).run Try.prog W = .ok (.bool A0.isNone) W := fun W => Lib.run_eql_slice_nil W _ _ A0 _ _ _ _ Try.underlying50
    cases A0 with
    | none =>
      have hl0 : l0 = [] := by
        rcases Nat.eq_zero_or_pos l0.length with h0 | h0
        · exact List.eq_nil_of_length_eq_zero h0
        · obtain ⟨ad, had, _⟩ := hz h0
          cases had
      subst hl0
      clear hz
      simp only [List.length_nil, Option.isNone_none] at hcmp
      have HB := Aside0.mk (Below.refl w.heap.size w)
      go_enter Try.func69, Try.ntmps69
      go_wp2
      go_ret
      exact ⟨_, rfl, Kd.R_nil _ _ _ _ _, HB.out⟩
    | some ad =>
      clear hz
      simp only [Option.isNone_some] at hcmp
      have HB := Aside0.mk (Below.refl w.heap.size w)
      go_enter Try.func69, Try.ntmps69
      go_wp2_with (first | ((with_reducible refine gate_dst (N := 5) rfl ?_); (try (refine gate_guard (by rfl) ?_; dsimp only)); refine Kd.R_lit (Kd.int .u8) _ 5 ?hg (N := 5) ?hd (xs := ([] : List Int)) (inner := []) (ok := fun _ => True) (okp := fun _ => True) ?hr ?hp (fun _ hk => hk) trivial (Below.refl _ _) (Nat.le_refl _) (by simp) ?_; (case hd => rfl); (case hg => rfl); (case hr => first | (go_simp; done) | (go_simp; rfl)); (case hp => exact (Reps.none _ _)); intro v188 w10 ho11 hb hg_ hnew_; clear hg_ hnew_; have n0_ := Aside0.mk (Kd.R_lower ho11 (below_size HB.out)); have n1_ := Aside0.mk (below_step HB.out hb); clear HB; have HO189 := n0_; have HB := n1_; clear n0_ n1_; clear hb ho11) | ((with_reducible refine gate_builtin (b := .append) (xs := #[.tmp 5, .tmp 6]) rfl ?_); (try (refine gate_guard (by rfl) ?_; dsimp only)); at_builtin; refine Kd.R_append_rows (Kd.int .u8) (w0 := w) w.heap.size rfl (.tmp 5) (.tmp 6) 50 5 (.int .u8 0) 1 rfl Try.underlying50 info5 rfl (by decide) (by omega) v188 [] l0 _ _ _ (fun _ => True) (fun _ => False) rfl rfl ?aO ?aR (fun _ _ h => h) (fun _ h => h.elim) ?aF ?aB ?aS ?aL ?_; (case aR => exact (Kd.C_below HR0.out HB.out)); (case aB => exact HB.out); (case aF => exact (fun _ _ => trivial)); (case aO => exact HO189.out); (case aS => exact (below_size HB.out)); (case aL => have := HL.out; simp; omega); intro v191 w12 ho hb hg hat; have n0_ := Aside0.mk (hb); have n1_ := Aside0.mk (ho); clear HB; clear HO189; have HB := n0_; have HO192 := n1_; clear n0_ n1_; clear ho hb hg hat))
      go_ret
      exact ⟨_, rfl, by simpa using HO192.out, HB.out⟩
  · rw [if_neg hlim] at h
    cases h

end Go.Proofs.Ytggoddiiglkpiaa.PTellBytes
