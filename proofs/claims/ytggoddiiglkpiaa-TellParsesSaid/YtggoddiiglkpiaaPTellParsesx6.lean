-- Written by a program of this session (wip/tools/mkprint.py over the kit's print).
import Derived.Test.YtggoddiiglkpiaaPTellParsesx0
namespace Go.Proofs.Ytggoddiiglkpiaa.PTellParses
open Go.RowKit Go.Proofs.YtggoddiiglkpiaaW.PrintWords Go.Proofs.YtggoddiiglkpiaaW.PrintLast Go.Proofs.YtggoddiiglkpiaaW.PrintMore
attribute [local go_sem] max2_int min2_int max_two min_two max_three min_three max_four min_four   -- for this text's walks alone
set_option linter.unusedVariables false
set_option linter.unusedSimpArgs false

/-! ### credenzaref23_Right: function 29 -/
mutual
def credenzaref23_Right.j0 : Nat → Bool → Int → Int → Int → Int → Int → Option (Int)
  | 0, _, _, _, _, _, _ => none
  | k + 1, x10, x208000, x208001, x208002, x208003, x208004 => if x10 = true then (some 29) else (if x208000 = 1 then (if x208000 = 5 then (if x208002 = 0 then (credenzaref23_Right.j1 k false x208000 x208001 x208002 x208003 x208004) else (credenzaref23_Right.j1 k true x208000 x208001 x208002 x208003 x208004)) else (credenzaref23_Right.j1 k (x208004 != 0) x208000 x208001 x208002 x208003 x208004)) else (if x208003 = 0 then (if x208000 = 5 then (if x208002 = 0 then (credenzaref23_Right.j1 k false x208000 x208001 x208002 x208003 x208004) else (credenzaref23_Right.j1 k true x208000 x208001 x208002 x208003 x208004)) else (credenzaref23_Right.j1 k (x208004 != 0) x208000 x208001 x208002 x208003 x208004)) else (credenzaref23_Right.j1 k true x208000 x208001 x208002 x208003 x208004)))
def credenzaref23_Right.j1 : Nat → Bool → Int → Int → Int → Int → Int → Option (Int)
  | 0, _, _, _, _, _, _ => none
  | k + 1, x38, x208000, x208001, x208002, x208003, x208004 => if x38 = true then (some 10) else (if x208002 < 0 then (some 11) else (if x208002 > 1024 then (some 11) else (if x208000 = 1 then (if x208002 = 1024 then (some 11) else (if x208003 < 0 then (some 11) else (if x208003 > 255 then (some 11) else (if x208004 > 255 then (some 11) else (if x208000 = 5 then (if x208004 < 1 then (some 11) else (some 0)) else (some 0)))))) else (if x208003 < 0 then (some 11) else (if x208003 > 255 then (some 11) else (if x208004 > 255 then (some 11) else (if x208000 = 5 then (if x208004 < 1 then (some 11) else (some 0)) else (some 0))))))))
end
def credenzaref23_Right.f (k : Nat) (a0_0 : Int) (a0_1 : Int) (a0_2 : Int) (a0_3 : Int) (a0_4 : Int) : Option (Int) := if a0_0 < 1 then (credenzaref23_Right.j0 k true a0_0 a0_1 a0_2 a0_3 a0_4) else (credenzaref23_Right.j0 k (decide (a0_0 > 5)) a0_0 a0_1 a0_2 a0_3 a0_4)
theorem credenzaref23_Right.mono_l : ∀ k, (∀ y0 y1 y2 y3 y4 y5, LeO (credenzaref23_Right.j0 k y0 y1 y2 y3 y4 y5) (credenzaref23_Right.j0 (k + 1) y0 y1 y2 y3 y4 y5)) ∧ (∀ y0 y1 y2 y3 y4 y5, LeO (credenzaref23_Right.j1 k y0 y1 y2 y3 y4 y5) (credenzaref23_Right.j1 (k + 1) y0 y1 y2 y3 y4 y5))
  | 0 => ⟨fun _ _ _ _ _ _ r h => by simp [credenzaref23_Right.j0] at h, fun _ _ _ _ _ _ r h => by simp [credenzaref23_Right.j1] at h⟩
  | k + 1 => by
    obtain ⟨ih0, ih1⟩ := credenzaref23_Right.mono_l k
    refine ⟨?_, ?_⟩
    · intro y0 y1 y2 y3 y4 y5
      unfold credenzaref23_Right.j0
      repeat' first
      | (with_reducible exact ih0 _ _ _ _ _ _)
      | (with_reducible exact ih1 _ _ _ _ _ _)
      | (with_reducible exact LeO.refl _)
      | (with_reducible exact LeO.none _)
      | (with_reducible refine LeO.ite ?_ ?_)
      | (with_reducible refine LeO.bind ?_ (fun _ => ?_))
      | exact ih0 _ _ _ _ _ _
      | exact ih1 _ _ _ _ _ _
      | exact LeO.none _
      | refine LeO.ite ?_ ?_
      | refine LeO.bind ?_ (fun _ => ?_)
    · intro y0 y1 y2 y3 y4 y5
      unfold credenzaref23_Right.j1
      repeat' first
      | (with_reducible exact ih0 _ _ _ _ _ _)
      | (with_reducible exact ih1 _ _ _ _ _ _)
      | (with_reducible exact LeO.refl _)
      | (with_reducible exact LeO.none _)
      | (with_reducible refine LeO.ite ?_ ?_)
      | (with_reducible refine LeO.bind ?_ (fun _ => ?_))
      | exact ih0 _ _ _ _ _ _
      | exact ih1 _ _ _ _ _ _
      | exact LeO.none _
      | refine LeO.ite ?_ ?_
      | refine LeO.bind ?_ (fun _ => ?_)
theorem credenzaref23_Right.mono : ∀ a0 a1 a2 a3 a4 k, LeO (credenzaref23_Right.f k a0 a1 a2 a3 a4) (credenzaref23_Right.f (k + 1) a0 a1 a2 a3 a4) := by
  intro a0 a1 a2 a3 a4 k
  obtain ⟨ih0, ih1⟩ := credenzaref23_Right.mono_l k
  unfold credenzaref23_Right.f
  repeat' first
      | (with_reducible exact ih0 _ _ _ _ _ _)
      | (with_reducible exact ih1 _ _ _ _ _ _)
      | (with_reducible exact LeO.refl _)
      | (with_reducible exact LeO.none _)
      | (with_reducible refine LeO.ite ?_ ?_)
      | (with_reducible refine LeO.bind ?_ (fun _ => ?_))
      | exact ih0 _ _ _ _ _ _
      | exact ih1 _ _ _ _ _ _
      | exact LeO.none _
      | refine LeO.ite ?_ ?_
      | refine LeO.bind ?_ (fun _ => ?_)
set_option maxHeartbeats 8000000 in
set_option maxRecDepth 100000 in
theorem credenzaref23_Right.calls (k : Nat) (a0_0 : Int) (a0_1 : Int) (a0_2 : Int) (a0_3 : Int) (a0_4 : Int) (r : Int) (w : World) (h : credenzaref23_Right.f k a0_0 a0_1 a0_2 a0_3 a0_4 = some r) :
    Calls Try.prog 29 #[.agg #[.int .i64 a0_0, .int .u32 a0_1, .int .i64 a0_2, .int .i64 a0_3, .int .i64 a0_4]] w fun e w' => e = .returned (.int .i64 r) ∧ Below w.heap.size w w' := by
  have hu55 := Try.underlying55
  have HB := Aside0.mk (Below.refl w.heap.size w)
  have H : (if a0_0 < 1 then (credenzaref23_Right.j0 k true a0_0 a0_1 a0_2 a0_3 a0_4) else (credenzaref23_Right.j0 k (decide (a0_0 > 5)) a0_0 a0_1 a0_2 a0_3 a0_4)) = some r := h
  clear h
  have HC2 := Aside0.mk H
  clear H
  go_enter Try.func29, Try.ntmps29
  go_upto_region 1 with (first | ((with_reducible refine gate_dst (N := 1) rfl ?_); refine box_event ?hg (N := 1) ?hd (cs := #[.int .i64 a0_0, .int .u32 a0_1, .int .i64 a0_2, .int .i64 a0_3, .int .i64 a0_4]) (t := 55) ?hr ?_; (case hd => rfl); (case hg => rfl); (case hr => first | (go_simp; done) | (go_simp; rfl)); intro gb207 hg w3 hbox hb; have n0_ := Aside0.mk (below_step (by repeat (first | (with_reducible first | exact HB.out | apply below_alloc | apply pw_below_drewN | apply below_drew1) | exact HB.out)) hb); have n1_ := Aside0.mk (hbox); have n2_ := Aside0.mk ((by rw [hg]; exact (below_size (by repeat (first | (with_reducible first | exact HB.out | apply below_alloc | apply pw_below_drewN | apply below_drew1) | exact HB.out))) : w.heap.size ≤ gb207)); have n3_ := Aside0.mk ((by rw [hg]; exact (below_size (by repeat (first | (with_reducible first | exact HB.out | apply below_alloc | apply pw_below_drewN | apply below_drew1) | exact HB.out))) : w.heap.size ≤ gb207)); clear HB; have HB := n0_; have BK207 := n1_; have GW207 := n2_; have GE207 := n3_; clear n0_ n1_ n2_ n3_; clear hb hbox hg))
  (try simp only [Act.put, List.setIfInBounds_toArray, List.set_cons_zero, List.set_cons_succ])
  go_cut [10] (fun v10 wc => ∃ (kq : Nat) (x10_1 : Bool), v10 = .bool x10_1 ∧ Aside0 (credenzaref23_Right.j0 kq x10_1 a0_0 a0_1 a0_2 a0_3 a0_4 = some r) ∧ Aside0 (kq ≤ k) ∧ Aside0 (wc.heap[gb207]? = some (.cells #[.int .i64 a0_0, .int .u32 a0_1, .int .i64 a0_2, .int .i64 a0_3, .int .i64 a0_4] 55 (0, 0))) ∧ Aside0 (Below w.heap.size w wc))
  case first =>
    have H := HC2.out
    clear HC2
    by_cases c4 : a0_0 < 1
    · rw [if_pos c4] at H
      have c4b0 : decide (a0_0 < 1) = true := decide_eq_true c4
      clear c4
      (first | rw [c4b0] | (simp only [i64_w, i32_w]; rw [c4b0]) | skip)
      have H' := Aside0.mk H
      clear H
      have hcz5_0 : w3.cell? ⟨gb207, 0, none⟩ = some (.int .i64 a0_0) := (blk_cell BK207.out 0).trans rfl
      have hcz5_1 : w3.cell? ⟨gb207, 1, none⟩ = some (.int .u32 a0_1) := (blk_cell BK207.out 1).trans rfl
      have hcz5_2 : w3.cell? ⟨gb207, 2, none⟩ = some (.int .i64 a0_2) := (blk_cell BK207.out 2).trans rfl
      have hcz5_3 : w3.cell? ⟨gb207, 3, none⟩ = some (.int .i64 a0_3) := (blk_cell BK207.out 3).trans rfl
      have hcz5_4 : w3.cell? ⟨gb207, 4, none⟩ = some (.int .i64 a0_4) := (blk_cell BK207.out 4).trans rfl
      have hfz5_0 := blk_frozen BK207.out 0
      have hfz5_1 := blk_frozen BK207.out 1
      have hfz5_2 := blk_frozen BK207.out 2
      have hfz5_3 := blk_frozen BK207.out 3
      have hfz5_4 := blk_frozen BK207.out 4
      go_wp2
      go_meet
      case rel => exact ⟨_, (true), (by first | rfl | (simp; done) | (simp [*]; done)), H', ⟨by first | omega | exact Nat.le_refl _⟩, ⟨by (with_reducible repeat (first | refine blk_drewN ?_ _ | refine blk_drew ?_ | refine blk_alloc ?_ _)); exact BK207.out⟩, ⟨by repeat (first | (with_reducible first | exact HB.out | apply below_alloc | apply pw_below_drewN | apply below_drew1 | refine below_set ?_ GE207.out) | exact HB.out)⟩⟩
    · rw [if_neg c4] at H
      have c4b0 : decide (a0_0 < 1) = false := decide_eq_false c4
      clear c4
      (first | rw [c4b0] | (simp only [i64_w, i32_w]; rw [c4b0]) | skip)
      have H' := Aside0.mk H
      clear H
      have hcz6_0 : w3.cell? ⟨gb207, 0, none⟩ = some (.int .i64 a0_0) := (blk_cell BK207.out 0).trans rfl
      have hcz6_1 : w3.cell? ⟨gb207, 1, none⟩ = some (.int .u32 a0_1) := (blk_cell BK207.out 1).trans rfl
      have hcz6_2 : w3.cell? ⟨gb207, 2, none⟩ = some (.int .i64 a0_2) := (blk_cell BK207.out 2).trans rfl
      have hcz6_3 : w3.cell? ⟨gb207, 3, none⟩ = some (.int .i64 a0_3) := (blk_cell BK207.out 3).trans rfl
      have hcz6_4 : w3.cell? ⟨gb207, 4, none⟩ = some (.int .i64 a0_4) := (blk_cell BK207.out 4).trans rfl
      have hfz6_0 := blk_frozen BK207.out 0
      have hfz6_1 := blk_frozen BK207.out 1
      have hfz6_2 := blk_frozen BK207.out 2
      have hfz6_3 := blk_frozen BK207.out 3
      have hfz6_4 := blk_frozen BK207.out 4
      go_wp2
      go_meet
      case rel => exact ⟨_, (decide (a0_0 > 5)), (by first | rfl | (simp; done) | (simp [*]; done)), H', ⟨by first | omega | exact Nat.le_refl _⟩, ⟨by (with_reducible repeat (first | refine blk_drewN ?_ _ | refine blk_drew ?_ | refine blk_alloc ?_ _)); exact BK207.out⟩, ⟨by repeat (first | (with_reducible first | exact HB.out | apply below_alloc | apply pw_below_drewN | apply below_drew1 | refine below_set ?_ GE207.out) | exact HB.out)⟩⟩
  case rest =>
    clear HC2
    try clear c2
    try clear p2
    try clear c4
    try clear c4b0
    try clear hcz5_0
    try clear hcz5_1
    try clear hcz5_2
    try clear hcz5_3
    try clear hcz5_4
    try clear hcz6_0
    try clear hcz6_1
    try clear hcz6_2
    try clear hcz6_3
    try clear hcz6_4
    try clear hfz5_0
    try clear hfz5_1
    try clear hfz5_2
    try clear hfz5_3
    try clear hfz5_4
    try clear hfz6_0
    try clear hfz6_1
    try clear hfz6_2
    try clear hfz6_3
    try clear hfz6_4
    obtain ⟨kq, x10_1, rfl, HA, HJ1, BK207, HB⟩ := hcut
    cases kq with
    | zero => exact absurd HA.out (by simp [credenzaref23_Right.j0])
    | succ kj1 =>
      have H := HA.out
      clear HA
      simp only [credenzaref23_Right.j0] at H
      by_cases c7 : x10_1 = true
      · subst c7
        have H1 : (some 29) = some r := by rw [if_pos rfl] at H; exact H
        clear H
        have H := H1
        clear H1
        obtain rfl := Option.some.inj H
        go_wp2
        go_ret
        exact ⟨by first | rfl | (simp [errW_none, errW_some] <;> rfl) | (simp [*, errW_none, errW_some] <;> rfl), by repeat (first | (with_reducible first | exact HB.out | apply below_alloc | apply pw_below_drewN | apply below_drew1 | refine below_set ?_ GE207.out) | exact HB.out)⟩
      · replace c7 := Bool.eq_false_iff.mpr c7
        subst c7
        have H1 : (if a0_0 = 1 then (if a0_0 = 5 then (if a0_2 = 0 then (credenzaref23_Right.j1 kj1 false a0_0 a0_1 a0_2 a0_3 a0_4) else (credenzaref23_Right.j1 kj1 true a0_0 a0_1 a0_2 a0_3 a0_4)) else (credenzaref23_Right.j1 kj1 (a0_4 != 0) a0_0 a0_1 a0_2 a0_3 a0_4)) else (if a0_3 = 0 then (if a0_0 = 5 then (if a0_2 = 0 then (credenzaref23_Right.j1 kj1 false a0_0 a0_1 a0_2 a0_3 a0_4) else (credenzaref23_Right.j1 kj1 true a0_0 a0_1 a0_2 a0_3 a0_4)) else (credenzaref23_Right.j1 kj1 (a0_4 != 0) a0_0 a0_1 a0_2 a0_3 a0_4)) else (credenzaref23_Right.j1 kj1 true a0_0 a0_1 a0_2 a0_3 a0_4))) = some r := by rw [if_neg (show ¬ (false = true) by decide)] at H; exact H
        clear H
        have H := H1
        clear H1
        have HC8 := Aside0.mk H
        clear H
        go_upto_region 3 with (fail)
        go_cut [38] (fun v38 wc => ∃ (kq : Nat) (x38_7 : Bool), v38 = .bool x38_7 ∧ Aside0 (credenzaref23_Right.j1 kq x38_7 a0_0 a0_1 a0_2 a0_3 a0_4 = some r) ∧ Aside0 (kq ≤ kj1) ∧ Aside0 (wc.heap[gb207]? = some (.cells #[.int .i64 a0_0, .int .u32 a0_1, .int .i64 a0_2, .int .i64 a0_3, .int .i64 a0_4] 55 (0, 0))) ∧ Aside0 (Below w.heap.size w wc))
        case first =>
          have H := HC8.out
          clear HC8
          by_cases c9 : a0_0 = 1
          · rw [if_pos c9] at H
            have c9b0 : (a0_0 == 1) = true := beq_iff_eq.mpr c9
            have c9b1 : (a0_0 != 1) = false := bne_eq_false_iff_eq.mpr c9
            clear c9
            (first | rw [c9b0] | (simp only [i64_w, i32_w]; rw [c9b0]) | skip)
            by_cases c10 : a0_0 = 5
            · rw [if_pos c10] at H
              have c10b0 : (a0_0 == 5) = true := beq_iff_eq.mpr c10
              have c10b1 : (a0_0 != 5) = false := bne_eq_false_iff_eq.mpr c10
              clear c10
              by_cases c11 : a0_2 = 0
              · rw [if_pos c11] at H
                have c11b0 : (a0_2 == 0) = true := beq_iff_eq.mpr c11
                have c11b1 : (a0_2 != 0) = false := bne_eq_false_iff_eq.mpr c11
                clear c11
                have H' := Aside0.mk H
                clear H
                have hcz12_0 : wc.cell? ⟨gb207, 0, none⟩ = some (.int .i64 a0_0) := (blk_cell BK207.out 0).trans rfl
                have hcz12_1 : wc.cell? ⟨gb207, 1, none⟩ = some (.int .u32 a0_1) := (blk_cell BK207.out 1).trans rfl
                have hcz12_2 : wc.cell? ⟨gb207, 2, none⟩ = some (.int .i64 a0_2) := (blk_cell BK207.out 2).trans rfl
                have hcz12_3 : wc.cell? ⟨gb207, 3, none⟩ = some (.int .i64 a0_3) := (blk_cell BK207.out 3).trans rfl
                have hcz12_4 : wc.cell? ⟨gb207, 4, none⟩ = some (.int .i64 a0_4) := (blk_cell BK207.out 4).trans rfl
                have hfz12_0 := blk_frozen BK207.out 0
                have hfz12_1 := blk_frozen BK207.out 1
                have hfz12_2 := blk_frozen BK207.out 2
                have hfz12_3 := blk_frozen BK207.out 3
                have hfz12_4 := blk_frozen BK207.out 4
                go_wp2
                go_meet
                case rel => exact ⟨_, (false), (by first | rfl | (simp; done) | (simp [*]; done)), H', ⟨by have := HJ1.out; first | omega | exact Nat.le_refl _⟩, ⟨by (with_reducible repeat (first | refine blk_drewN ?_ _ | refine blk_drew ?_ | refine blk_alloc ?_ _)); exact BK207.out⟩, ⟨by repeat (first | (with_reducible first | exact HB.out | apply below_alloc | apply pw_below_drewN | apply below_drew1 | refine below_set ?_ GE207.out) | exact HB.out)⟩⟩
              · rw [if_neg c11] at H
                have c11b0 : (a0_2 == 0) = false := beq_eq_false_iff_ne.mpr c11
                have c11b1 : (a0_2 != 0) = true := bne_iff_ne.mpr c11
                have H' := Aside0.mk H
                clear H
                have hcz13_0 : wc.cell? ⟨gb207, 0, none⟩ = some (.int .i64 a0_0) := (blk_cell BK207.out 0).trans rfl
                have hcz13_1 : wc.cell? ⟨gb207, 1, none⟩ = some (.int .u32 a0_1) := (blk_cell BK207.out 1).trans rfl
                have hcz13_2 : wc.cell? ⟨gb207, 2, none⟩ = some (.int .i64 a0_2) := (blk_cell BK207.out 2).trans rfl
                have hcz13_3 : wc.cell? ⟨gb207, 3, none⟩ = some (.int .i64 a0_3) := (blk_cell BK207.out 3).trans rfl
                have hcz13_4 : wc.cell? ⟨gb207, 4, none⟩ = some (.int .i64 a0_4) := (blk_cell BK207.out 4).trans rfl
                have hfz13_0 := blk_frozen BK207.out 0
                have hfz13_1 := blk_frozen BK207.out 1
                have hfz13_2 := blk_frozen BK207.out 2
                have hfz13_3 := blk_frozen BK207.out 3
                have hfz13_4 := blk_frozen BK207.out 4
                go_wp2
                go_meet
                case rel => exact ⟨_, (true), (by first | rfl | (simp; done) | (simp [*]; done)), H', ⟨by have := HJ1.out; first | omega | exact Nat.le_refl _⟩, ⟨by (with_reducible repeat (first | refine blk_drewN ?_ _ | refine blk_drew ?_ | refine blk_alloc ?_ _)); exact BK207.out⟩, ⟨by repeat (first | (with_reducible first | exact HB.out | apply below_alloc | apply pw_below_drewN | apply below_drew1 | refine below_set ?_ GE207.out) | exact HB.out)⟩⟩
            · rw [if_neg c10] at H
              have c10b0 : (a0_0 == 5) = false := beq_eq_false_iff_ne.mpr c10
              have c10b1 : (a0_0 != 5) = true := bne_iff_ne.mpr c10
              have H' := Aside0.mk H
              clear H
              have hcz14_0 : wc.cell? ⟨gb207, 0, none⟩ = some (.int .i64 a0_0) := (blk_cell BK207.out 0).trans rfl
              have hcz14_1 : wc.cell? ⟨gb207, 1, none⟩ = some (.int .u32 a0_1) := (blk_cell BK207.out 1).trans rfl
              have hcz14_2 : wc.cell? ⟨gb207, 2, none⟩ = some (.int .i64 a0_2) := (blk_cell BK207.out 2).trans rfl
              have hcz14_3 : wc.cell? ⟨gb207, 3, none⟩ = some (.int .i64 a0_3) := (blk_cell BK207.out 3).trans rfl
              have hcz14_4 : wc.cell? ⟨gb207, 4, none⟩ = some (.int .i64 a0_4) := (blk_cell BK207.out 4).trans rfl
              have hfz14_0 := blk_frozen BK207.out 0
              have hfz14_1 := blk_frozen BK207.out 1
              have hfz14_2 := blk_frozen BK207.out 2
              have hfz14_3 := blk_frozen BK207.out 3
              have hfz14_4 := blk_frozen BK207.out 4
              go_wp2
              go_meet
              case rel => exact ⟨_, ((a0_4 != 0)), (by first | rfl | (simp; done) | (simp [*]; done)), H', ⟨by have := HJ1.out; first | omega | exact Nat.le_refl _⟩, ⟨by (with_reducible repeat (first | refine blk_drewN ?_ _ | refine blk_drew ?_ | refine blk_alloc ?_ _)); exact BK207.out⟩, ⟨by repeat (first | (with_reducible first | exact HB.out | apply below_alloc | apply pw_below_drewN | apply below_drew1 | refine below_set ?_ GE207.out) | exact HB.out)⟩⟩
          · rw [if_neg c9] at H
            have c9b0 : (a0_0 == 1) = false := beq_eq_false_iff_ne.mpr c9
            have c9b1 : (a0_0 != 1) = true := bne_iff_ne.mpr c9
            (first | rw [c9b0] | (simp only [i64_w, i32_w]; rw [c9b0]) | skip)
            by_cases c15 : a0_3 = 0
            · rw [if_pos c15] at H
              have c15b0 : (a0_3 == 0) = true := beq_iff_eq.mpr c15
              have c15b1 : (a0_3 != 0) = false := bne_eq_false_iff_eq.mpr c15
              clear c15
              by_cases c16 : a0_0 = 5
              · rw [if_pos c16] at H
                have c16b0 : (a0_0 == 5) = true := beq_iff_eq.mpr c16
                have c16b1 : (a0_0 != 5) = false := bne_eq_false_iff_eq.mpr c16
                clear c16
                by_cases c17 : a0_2 = 0
                · rw [if_pos c17] at H
                  have c17b0 : (a0_2 == 0) = true := beq_iff_eq.mpr c17
                  have c17b1 : (a0_2 != 0) = false := bne_eq_false_iff_eq.mpr c17
                  clear c17
                  have H' := Aside0.mk H
                  clear H
                  have hcz18_0 : wc.cell? ⟨gb207, 0, none⟩ = some (.int .i64 a0_0) := (blk_cell BK207.out 0).trans rfl
                  have hcz18_1 : wc.cell? ⟨gb207, 1, none⟩ = some (.int .u32 a0_1) := (blk_cell BK207.out 1).trans rfl
                  have hcz18_2 : wc.cell? ⟨gb207, 2, none⟩ = some (.int .i64 a0_2) := (blk_cell BK207.out 2).trans rfl
                  have hcz18_3 : wc.cell? ⟨gb207, 3, none⟩ = some (.int .i64 a0_3) := (blk_cell BK207.out 3).trans rfl
                  have hcz18_4 : wc.cell? ⟨gb207, 4, none⟩ = some (.int .i64 a0_4) := (blk_cell BK207.out 4).trans rfl
                  have hfz18_0 := blk_frozen BK207.out 0
                  have hfz18_1 := blk_frozen BK207.out 1
                  have hfz18_2 := blk_frozen BK207.out 2
                  have hfz18_3 := blk_frozen BK207.out 3
                  have hfz18_4 := blk_frozen BK207.out 4
                  go_wp2
                  go_meet
                  case rel => exact ⟨_, (false), (by first | rfl | (simp; done) | (simp [*]; done)), H', ⟨by have := HJ1.out; first | omega | exact Nat.le_refl _⟩, ⟨by (with_reducible repeat (first | refine blk_drewN ?_ _ | refine blk_drew ?_ | refine blk_alloc ?_ _)); exact BK207.out⟩, ⟨by repeat (first | (with_reducible first | exact HB.out | apply below_alloc | apply pw_below_drewN | apply below_drew1 | refine below_set ?_ GE207.out) | exact HB.out)⟩⟩
                · rw [if_neg c17] at H
                  have c17b0 : (a0_2 == 0) = false := beq_eq_false_iff_ne.mpr c17
                  have c17b1 : (a0_2 != 0) = true := bne_iff_ne.mpr c17
                  have H' := Aside0.mk H
                  clear H
                  have hcz19_0 : wc.cell? ⟨gb207, 0, none⟩ = some (.int .i64 a0_0) := (blk_cell BK207.out 0).trans rfl
                  have hcz19_1 : wc.cell? ⟨gb207, 1, none⟩ = some (.int .u32 a0_1) := (blk_cell BK207.out 1).trans rfl
                  have hcz19_2 : wc.cell? ⟨gb207, 2, none⟩ = some (.int .i64 a0_2) := (blk_cell BK207.out 2).trans rfl
                  have hcz19_3 : wc.cell? ⟨gb207, 3, none⟩ = some (.int .i64 a0_3) := (blk_cell BK207.out 3).trans rfl
                  have hcz19_4 : wc.cell? ⟨gb207, 4, none⟩ = some (.int .i64 a0_4) := (blk_cell BK207.out 4).trans rfl
                  have hfz19_0 := blk_frozen BK207.out 0
                  have hfz19_1 := blk_frozen BK207.out 1
                  have hfz19_2 := blk_frozen BK207.out 2
                  have hfz19_3 := blk_frozen BK207.out 3
                  have hfz19_4 := blk_frozen BK207.out 4
                  go_wp2
                  go_meet
                  case rel => exact ⟨_, (true), (by first | rfl | (simp; done) | (simp [*]; done)), H', ⟨by have := HJ1.out; first | omega | exact Nat.le_refl _⟩, ⟨by (with_reducible repeat (first | refine blk_drewN ?_ _ | refine blk_drew ?_ | refine blk_alloc ?_ _)); exact BK207.out⟩, ⟨by repeat (first | (with_reducible first | exact HB.out | apply below_alloc | apply pw_below_drewN | apply below_drew1 | refine below_set ?_ GE207.out) | exact HB.out)⟩⟩
              · rw [if_neg c16] at H
                have c16b0 : (a0_0 == 5) = false := beq_eq_false_iff_ne.mpr c16
                have c16b1 : (a0_0 != 5) = true := bne_iff_ne.mpr c16
                have H' := Aside0.mk H
                clear H
                have hcz20_0 : wc.cell? ⟨gb207, 0, none⟩ = some (.int .i64 a0_0) := (blk_cell BK207.out 0).trans rfl
                have hcz20_1 : wc.cell? ⟨gb207, 1, none⟩ = some (.int .u32 a0_1) := (blk_cell BK207.out 1).trans rfl
                have hcz20_2 : wc.cell? ⟨gb207, 2, none⟩ = some (.int .i64 a0_2) := (blk_cell BK207.out 2).trans rfl
                have hcz20_3 : wc.cell? ⟨gb207, 3, none⟩ = some (.int .i64 a0_3) := (blk_cell BK207.out 3).trans rfl
                have hcz20_4 : wc.cell? ⟨gb207, 4, none⟩ = some (.int .i64 a0_4) := (blk_cell BK207.out 4).trans rfl
                have hfz20_0 := blk_frozen BK207.out 0
                have hfz20_1 := blk_frozen BK207.out 1
                have hfz20_2 := blk_frozen BK207.out 2
                have hfz20_3 := blk_frozen BK207.out 3
                have hfz20_4 := blk_frozen BK207.out 4
                go_wp2
                go_meet
                case rel => exact ⟨_, ((a0_4 != 0)), (by first | rfl | (simp; done) | (simp [*]; done)), H', ⟨by have := HJ1.out; first | omega | exact Nat.le_refl _⟩, ⟨by (with_reducible repeat (first | refine blk_drewN ?_ _ | refine blk_drew ?_ | refine blk_alloc ?_ _)); exact BK207.out⟩, ⟨by repeat (first | (with_reducible first | exact HB.out | apply below_alloc | apply pw_below_drewN | apply below_drew1 | refine below_set ?_ GE207.out) | exact HB.out)⟩⟩
            · rw [if_neg c15] at H
              have c15b0 : (a0_3 == 0) = false := beq_eq_false_iff_ne.mpr c15
              have c15b1 : (a0_3 != 0) = true := bne_iff_ne.mpr c15
              have H' := Aside0.mk H
              clear H
              have hcz21_0 : wc.cell? ⟨gb207, 0, none⟩ = some (.int .i64 a0_0) := (blk_cell BK207.out 0).trans rfl
              have hcz21_1 : wc.cell? ⟨gb207, 1, none⟩ = some (.int .u32 a0_1) := (blk_cell BK207.out 1).trans rfl
              have hcz21_2 : wc.cell? ⟨gb207, 2, none⟩ = some (.int .i64 a0_2) := (blk_cell BK207.out 2).trans rfl
              have hcz21_3 : wc.cell? ⟨gb207, 3, none⟩ = some (.int .i64 a0_3) := (blk_cell BK207.out 3).trans rfl
              have hcz21_4 : wc.cell? ⟨gb207, 4, none⟩ = some (.int .i64 a0_4) := (blk_cell BK207.out 4).trans rfl
              have hfz21_0 := blk_frozen BK207.out 0
              have hfz21_1 := blk_frozen BK207.out 1
              have hfz21_2 := blk_frozen BK207.out 2
              have hfz21_3 := blk_frozen BK207.out 3
              have hfz21_4 := blk_frozen BK207.out 4
              go_wp2
              go_meet
              case rel => exact ⟨_, (true), (by first | rfl | (simp; done) | (simp [*]; done)), H', ⟨by have := HJ1.out; first | omega | exact Nat.le_refl _⟩, ⟨by (with_reducible repeat (first | refine blk_drewN ?_ _ | refine blk_drew ?_ | refine blk_alloc ?_ _)); exact BK207.out⟩, ⟨by repeat (first | (with_reducible first | exact HB.out | apply below_alloc | apply pw_below_drewN | apply below_drew1 | refine below_set ?_ GE207.out) | exact HB.out)⟩⟩
        case rest =>
          clear HC8
          try clear c1
          try clear c2
          try clear p2
          try clear c4
          try clear c4b0
          try clear c7
          try clear c9
          try clear c9b0
          try clear c9b1
          try clear c10
          try clear c10b0
          try clear c10b1
          try clear c11
          try clear c11b0
          try clear c11b1
          try clear c15
          try clear c15b0
          try clear c15b1
          try clear c16
          try clear c16b0
          try clear c16b1
          try clear c17
          try clear c17b0
          try clear c17b1
          try clear hcz12_0
          try clear hcz12_1
          try clear hcz12_2
          try clear hcz12_3
          try clear hcz12_4
          try clear hcz13_0
          try clear hcz13_1
          try clear hcz13_2
          try clear hcz13_3
          try clear hcz13_4
          try clear hcz14_0
          try clear hcz14_1
          try clear hcz14_2
          try clear hcz14_3
          try clear hcz14_4
          try clear hcz18_0
          try clear hcz18_1
          try clear hcz18_2
          try clear hcz18_3
          try clear hcz18_4
          try clear hcz19_0
          try clear hcz19_1
          try clear hcz19_2
          try clear hcz19_3
          try clear hcz19_4
          try clear hcz20_0
          try clear hcz20_1
          try clear hcz20_2
          try clear hcz20_3
          try clear hcz20_4
          try clear hcz21_0
          try clear hcz21_1
          try clear hcz21_2
          try clear hcz21_3
          try clear hcz21_4
          try clear hcz5_0
          try clear hcz5_1
          try clear hcz5_2
          try clear hcz5_3
          try clear hcz5_4
          try clear hcz6_0
          try clear hcz6_1
          try clear hcz6_2
          try clear hcz6_3
          try clear hcz6_4
          try clear hfz12_0
          try clear hfz12_1
          try clear hfz12_2
          try clear hfz12_3
          try clear hfz12_4
          try clear hfz13_0
          try clear hfz13_1
          try clear hfz13_2
          try clear hfz13_3
          try clear hfz13_4
          try clear hfz14_0
          try clear hfz14_1
          try clear hfz14_2
          try clear hfz14_3
          try clear hfz14_4
          try clear hfz18_0
          try clear hfz18_1
          try clear hfz18_2
          try clear hfz18_3
          try clear hfz18_4
          try clear hfz19_0
          try clear hfz19_1
          try clear hfz19_2
          try clear hfz19_3
          try clear hfz19_4
          try clear hfz20_0
          try clear hfz20_1
          try clear hfz20_2
          try clear hfz20_3
          try clear hfz20_4
          try clear hfz21_0
          try clear hfz21_1
          try clear hfz21_2
          try clear hfz21_3
          try clear hfz21_4
          try clear hfz5_0
          try clear hfz5_1
          try clear hfz5_2
          try clear hfz5_3
          try clear hfz5_4
          try clear hfz6_0
          try clear hfz6_1
          try clear hfz6_2
          try clear hfz6_3
          try clear hfz6_4
          try clear p2
          obtain ⟨kq, x38_7, rfl, HA, HJ7, BK207, HB⟩ := hcut
          cases kq with
          | zero => exact absurd HA.out (by simp [credenzaref23_Right.j1])
          | succ kj7 =>
            have H := HA.out
            clear HA
            simp only [credenzaref23_Right.j1] at H
            by_cases c22 : x38_7 = true
            · subst c22
              have H1 : (some 10) = some r := by rw [if_pos rfl] at H; exact H
              clear H
              have H := H1
              clear H1
              obtain rfl := Option.some.inj H
              go_wp2
              go_ret
              exact ⟨by first | rfl | (simp [errW_none, errW_some] <;> rfl) | (simp [*, errW_none, errW_some] <;> rfl), by repeat (first | (with_reducible first | exact HB.out | apply below_alloc | apply pw_below_drewN | apply below_drew1 | refine below_set ?_ GE207.out) | exact HB.out)⟩
            · replace c22 := Bool.eq_false_iff.mpr c22
              subst c22
              have H1 : (if a0_2 < 0 then (some 11) else (if a0_2 > 1024 then (some 11) else (if a0_0 = 1 then (if a0_2 = 1024 then (some 11) else (if a0_3 < 0 then (some 11) else (if a0_3 > 255 then (some 11) else (if a0_4 > 255 then (some 11) else (if a0_0 = 5 then (if a0_4 < 1 then (some 11) else (some 0)) else (some 0)))))) else (if a0_3 < 0 then (some 11) else (if a0_3 > 255 then (some 11) else (if a0_4 > 255 then (some 11) else (if a0_0 = 5 then (if a0_4 < 1 then (some 11) else (some 0)) else (some 0)))))))) = some r := by rw [if_neg (show ¬ (false = true) by decide)] at H; exact H
              clear H
              have H := H1
              clear H1
              by_cases c23 : a0_2 < 0
              · rw [if_pos c23] at H
                have c23b0 : decide (a0_2 < 0) = true := decide_eq_true c23
                clear c23
                obtain rfl := Option.some.inj H
                have hcz24_0 : wc.cell? ⟨gb207, 0, none⟩ = some (.int .i64 a0_0) := (blk_cell BK207.out 0).trans rfl
                have hcz24_1 : wc.cell? ⟨gb207, 1, none⟩ = some (.int .u32 a0_1) := (blk_cell BK207.out 1).trans rfl
                have hcz24_2 : wc.cell? ⟨gb207, 2, none⟩ = some (.int .i64 a0_2) := (blk_cell BK207.out 2).trans rfl
                have hcz24_3 : wc.cell? ⟨gb207, 3, none⟩ = some (.int .i64 a0_3) := (blk_cell BK207.out 3).trans rfl
                have hcz24_4 : wc.cell? ⟨gb207, 4, none⟩ = some (.int .i64 a0_4) := (blk_cell BK207.out 4).trans rfl
                have hfz24_0 := blk_frozen BK207.out 0
                have hfz24_1 := blk_frozen BK207.out 1
                have hfz24_2 := blk_frozen BK207.out 2
                have hfz24_3 := blk_frozen BK207.out 3
                have hfz24_4 := blk_frozen BK207.out 4
                go_wp2
                go_ret
                exact ⟨by first | rfl | (simp [errW_none, errW_some] <;> rfl) | (simp [*, errW_none, errW_some] <;> rfl), by repeat (first | (with_reducible first | exact HB.out | apply below_alloc | apply pw_below_drewN | apply below_drew1 | refine below_set ?_ GE207.out) | exact HB.out)⟩
              · rw [if_neg c23] at H
                have c23b0 : decide (a0_2 < 0) = false := decide_eq_false c23
                clear c23
                by_cases c25 : a0_2 > 1024
                · rw [if_pos c25] at H
                  have c25b0 : decide (1024 < a0_2) = true := decide_eq_true c25
                  clear c25
                  obtain rfl := Option.some.inj H
                  have hcz26_0 : wc.cell? ⟨gb207, 0, none⟩ = some (.int .i64 a0_0) := (blk_cell BK207.out 0).trans rfl
                  have hcz26_1 : wc.cell? ⟨gb207, 1, none⟩ = some (.int .u32 a0_1) := (blk_cell BK207.out 1).trans rfl
                  have hcz26_2 : wc.cell? ⟨gb207, 2, none⟩ = some (.int .i64 a0_2) := (blk_cell BK207.out 2).trans rfl
                  have hcz26_3 : wc.cell? ⟨gb207, 3, none⟩ = some (.int .i64 a0_3) := (blk_cell BK207.out 3).trans rfl
                  have hcz26_4 : wc.cell? ⟨gb207, 4, none⟩ = some (.int .i64 a0_4) := (blk_cell BK207.out 4).trans rfl
                  have hfz26_0 := blk_frozen BK207.out 0
                  have hfz26_1 := blk_frozen BK207.out 1
                  have hfz26_2 := blk_frozen BK207.out 2
                  have hfz26_3 := blk_frozen BK207.out 3
                  have hfz26_4 := blk_frozen BK207.out 4
                  go_wp2
                  go_ret
                  exact ⟨by first | rfl | (simp [errW_none, errW_some] <;> rfl) | (simp [*, errW_none, errW_some] <;> rfl), by repeat (first | (with_reducible first | exact HB.out | apply below_alloc | apply pw_below_drewN | apply below_drew1 | refine below_set ?_ GE207.out) | exact HB.out)⟩
                · rw [if_neg c25] at H
                  have c25b0 : decide (1024 < a0_2) = false := decide_eq_false c25
                  clear c25
                  by_cases c27 : a0_0 = 1
                  · rw [if_pos c27] at H
                    have c27b0 : (a0_0 == 1) = true := beq_iff_eq.mpr c27
                    have c27b1 : (a0_0 != 1) = false := bne_eq_false_iff_eq.mpr c27
                    clear c27
                    by_cases c28 : a0_2 = 1024
                    · rw [if_pos c28] at H
                      have c28b0 : (a0_2 == 1024) = true := beq_iff_eq.mpr c28
                      have c28b1 : (a0_2 != 1024) = false := bne_eq_false_iff_eq.mpr c28
                      clear c28
                      obtain rfl := Option.some.inj H
                      have hcz29_0 : wc.cell? ⟨gb207, 0, none⟩ = some (.int .i64 a0_0) := (blk_cell BK207.out 0).trans rfl
                      have hcz29_1 : wc.cell? ⟨gb207, 1, none⟩ = some (.int .u32 a0_1) := (blk_cell BK207.out 1).trans rfl
                      have hcz29_2 : wc.cell? ⟨gb207, 2, none⟩ = some (.int .i64 a0_2) := (blk_cell BK207.out 2).trans rfl
                      have hcz29_3 : wc.cell? ⟨gb207, 3, none⟩ = some (.int .i64 a0_3) := (blk_cell BK207.out 3).trans rfl
                      have hcz29_4 : wc.cell? ⟨gb207, 4, none⟩ = some (.int .i64 a0_4) := (blk_cell BK207.out 4).trans rfl
                      have hfz29_0 := blk_frozen BK207.out 0
                      have hfz29_1 := blk_frozen BK207.out 1
                      have hfz29_2 := blk_frozen BK207.out 2
                      have hfz29_3 := blk_frozen BK207.out 3
                      have hfz29_4 := blk_frozen BK207.out 4
                      go_wp2
                      go_ret
                      exact ⟨by first | rfl | (simp [errW_none, errW_some] <;> rfl) | (simp [*, errW_none, errW_some] <;> rfl), by repeat (first | (with_reducible first | exact HB.out | apply below_alloc | apply pw_below_drewN | apply below_drew1 | refine below_set ?_ GE207.out) | exact HB.out)⟩
                    · rw [if_neg c28] at H
                      have c28b0 : (a0_2 == 1024) = false := beq_eq_false_iff_ne.mpr c28
                      have c28b1 : (a0_2 != 1024) = true := bne_iff_ne.mpr c28
                      by_cases c30 : a0_3 < 0
                      · rw [if_pos c30] at H
                        have c30b0 : decide (a0_3 < 0) = true := decide_eq_true c30
                        clear c30
                        obtain rfl := Option.some.inj H
                        have hcz31_0 : wc.cell? ⟨gb207, 0, none⟩ = some (.int .i64 a0_0) := (blk_cell BK207.out 0).trans rfl
                        have hcz31_1 : wc.cell? ⟨gb207, 1, none⟩ = some (.int .u32 a0_1) := (blk_cell BK207.out 1).trans rfl
                        have hcz31_2 : wc.cell? ⟨gb207, 2, none⟩ = some (.int .i64 a0_2) := (blk_cell BK207.out 2).trans rfl
                        have hcz31_3 : wc.cell? ⟨gb207, 3, none⟩ = some (.int .i64 a0_3) := (blk_cell BK207.out 3).trans rfl
                        have hcz31_4 : wc.cell? ⟨gb207, 4, none⟩ = some (.int .i64 a0_4) := (blk_cell BK207.out 4).trans rfl
                        have hfz31_0 := blk_frozen BK207.out 0
                        have hfz31_1 := blk_frozen BK207.out 1
                        have hfz31_2 := blk_frozen BK207.out 2
                        have hfz31_3 := blk_frozen BK207.out 3
                        have hfz31_4 := blk_frozen BK207.out 4
                        go_wp2
                        go_ret
                        exact ⟨by first | rfl | (simp [errW_none, errW_some] <;> rfl) | (simp [*, errW_none, errW_some] <;> rfl), by repeat (first | (with_reducible first | exact HB.out | apply below_alloc | apply pw_below_drewN | apply below_drew1 | refine below_set ?_ GE207.out) | exact HB.out)⟩
                      · rw [if_neg c30] at H
                        have c30b0 : decide (a0_3 < 0) = false := decide_eq_false c30
                        clear c30
                        by_cases c32 : a0_3 > 255
                        · rw [if_pos c32] at H
                          have c32b0 : decide (255 < a0_3) = true := decide_eq_true c32
                          clear c32
                          obtain rfl := Option.some.inj H
                          have hcz33_0 : wc.cell? ⟨gb207, 0, none⟩ = some (.int .i64 a0_0) := (blk_cell BK207.out 0).trans rfl
                          have hcz33_1 : wc.cell? ⟨gb207, 1, none⟩ = some (.int .u32 a0_1) := (blk_cell BK207.out 1).trans rfl
                          have hcz33_2 : wc.cell? ⟨gb207, 2, none⟩ = some (.int .i64 a0_2) := (blk_cell BK207.out 2).trans rfl
                          have hcz33_3 : wc.cell? ⟨gb207, 3, none⟩ = some (.int .i64 a0_3) := (blk_cell BK207.out 3).trans rfl
                          have hcz33_4 : wc.cell? ⟨gb207, 4, none⟩ = some (.int .i64 a0_4) := (blk_cell BK207.out 4).trans rfl
                          have hfz33_0 := blk_frozen BK207.out 0
                          have hfz33_1 := blk_frozen BK207.out 1
                          have hfz33_2 := blk_frozen BK207.out 2
                          have hfz33_3 := blk_frozen BK207.out 3
                          have hfz33_4 := blk_frozen BK207.out 4
                          go_wp2
                          go_ret
                          exact ⟨by first | rfl | (simp [errW_none, errW_some] <;> rfl) | (simp [*, errW_none, errW_some] <;> rfl), by repeat (first | (with_reducible first | exact HB.out | apply below_alloc | apply pw_below_drewN | apply below_drew1 | refine below_set ?_ GE207.out) | exact HB.out)⟩
                        · rw [if_neg c32] at H
                          have c32b0 : decide (255 < a0_3) = false := decide_eq_false c32
                          clear c32
                          by_cases c34 : a0_4 > 255
                          · rw [if_pos c34] at H
                            have c34b0 : decide (255 < a0_4) = true := decide_eq_true c34
                            clear c34
                            obtain rfl := Option.some.inj H
                            have hcz35_0 : wc.cell? ⟨gb207, 0, none⟩ = some (.int .i64 a0_0) := (blk_cell BK207.out 0).trans rfl
                            have hcz35_1 : wc.cell? ⟨gb207, 1, none⟩ = some (.int .u32 a0_1) := (blk_cell BK207.out 1).trans rfl
                            have hcz35_2 : wc.cell? ⟨gb207, 2, none⟩ = some (.int .i64 a0_2) := (blk_cell BK207.out 2).trans rfl
                            have hcz35_3 : wc.cell? ⟨gb207, 3, none⟩ = some (.int .i64 a0_3) := (blk_cell BK207.out 3).trans rfl
                            have hcz35_4 : wc.cell? ⟨gb207, 4, none⟩ = some (.int .i64 a0_4) := (blk_cell BK207.out 4).trans rfl
                            have hfz35_0 := blk_frozen BK207.out 0
                            have hfz35_1 := blk_frozen BK207.out 1
                            have hfz35_2 := blk_frozen BK207.out 2
                            have hfz35_3 := blk_frozen BK207.out 3
                            have hfz35_4 := blk_frozen BK207.out 4
                            go_wp2
                            go_ret
                            exact ⟨by first | rfl | (simp [errW_none, errW_some] <;> rfl) | (simp [*, errW_none, errW_some] <;> rfl), by repeat (first | (with_reducible first | exact HB.out | apply below_alloc | apply pw_below_drewN | apply below_drew1 | refine below_set ?_ GE207.out) | exact HB.out)⟩
                          · rw [if_neg c34] at H
                            have c34b0 : decide (255 < a0_4) = false := decide_eq_false c34
                            clear c34
                            by_cases c36 : a0_0 = 5
                            · rw [if_pos c36] at H
                              have c36b0 : (a0_0 == 5) = true := beq_iff_eq.mpr c36
                              have c36b1 : (a0_0 != 5) = false := bne_eq_false_iff_eq.mpr c36
                              clear c36
                              by_cases c37 : a0_4 < 1
                              · rw [if_pos c37] at H
                                have c37b0 : decide (a0_4 < 1) = true := decide_eq_true c37
                                clear c37
                                obtain rfl := Option.some.inj H
                                have hcz38_0 : wc.cell? ⟨gb207, 0, none⟩ = some (.int .i64 a0_0) := (blk_cell BK207.out 0).trans rfl
                                have hcz38_1 : wc.cell? ⟨gb207, 1, none⟩ = some (.int .u32 a0_1) := (blk_cell BK207.out 1).trans rfl
                                have hcz38_2 : wc.cell? ⟨gb207, 2, none⟩ = some (.int .i64 a0_2) := (blk_cell BK207.out 2).trans rfl
                                have hcz38_3 : wc.cell? ⟨gb207, 3, none⟩ = some (.int .i64 a0_3) := (blk_cell BK207.out 3).trans rfl
                                have hcz38_4 : wc.cell? ⟨gb207, 4, none⟩ = some (.int .i64 a0_4) := (blk_cell BK207.out 4).trans rfl
                                have hfz38_0 := blk_frozen BK207.out 0
                                have hfz38_1 := blk_frozen BK207.out 1
                                have hfz38_2 := blk_frozen BK207.out 2
                                have hfz38_3 := blk_frozen BK207.out 3
                                have hfz38_4 := blk_frozen BK207.out 4
                                go_wp2
                                go_ret
                                exact ⟨by first | rfl | (simp [errW_none, errW_some] <;> rfl) | (simp [*, errW_none, errW_some] <;> rfl), by repeat (first | (with_reducible first | exact HB.out | apply below_alloc | apply pw_below_drewN | apply below_drew1 | refine below_set ?_ GE207.out) | exact HB.out)⟩
                              · rw [if_neg c37] at H
                                have c37b0 : decide (a0_4 < 1) = false := decide_eq_false c37
                                clear c37
                                obtain rfl := Option.some.inj H
                                have hcz39_0 : wc.cell? ⟨gb207, 0, none⟩ = some (.int .i64 a0_0) := (blk_cell BK207.out 0).trans rfl
                                have hcz39_1 : wc.cell? ⟨gb207, 1, none⟩ = some (.int .u32 a0_1) := (blk_cell BK207.out 1).trans rfl
                                have hcz39_2 : wc.cell? ⟨gb207, 2, none⟩ = some (.int .i64 a0_2) := (blk_cell BK207.out 2).trans rfl
                                have hcz39_3 : wc.cell? ⟨gb207, 3, none⟩ = some (.int .i64 a0_3) := (blk_cell BK207.out 3).trans rfl
                                have hcz39_4 : wc.cell? ⟨gb207, 4, none⟩ = some (.int .i64 a0_4) := (blk_cell BK207.out 4).trans rfl
                                have hfz39_0 := blk_frozen BK207.out 0
                                have hfz39_1 := blk_frozen BK207.out 1
                                have hfz39_2 := blk_frozen BK207.out 2
                                have hfz39_3 := blk_frozen BK207.out 3
                                have hfz39_4 := blk_frozen BK207.out 4
                                go_wp2
                                go_ret
                                exact ⟨by first | rfl | (simp [errW_none, errW_some] <;> rfl) | (simp [*, errW_none, errW_some] <;> rfl), by repeat (first | (with_reducible first | exact HB.out | apply below_alloc | apply pw_below_drewN | apply below_drew1 | refine below_set ?_ GE207.out) | exact HB.out)⟩
                            · rw [if_neg c36] at H
                              have c36b0 : (a0_0 == 5) = false := beq_eq_false_iff_ne.mpr c36
                              have c36b1 : (a0_0 != 5) = true := bne_iff_ne.mpr c36
                              obtain rfl := Option.some.inj H
                              have hcz40_0 : wc.cell? ⟨gb207, 0, none⟩ = some (.int .i64 a0_0) := (blk_cell BK207.out 0).trans rfl
                              have hcz40_1 : wc.cell? ⟨gb207, 1, none⟩ = some (.int .u32 a0_1) := (blk_cell BK207.out 1).trans rfl
                              have hcz40_2 : wc.cell? ⟨gb207, 2, none⟩ = some (.int .i64 a0_2) := (blk_cell BK207.out 2).trans rfl
                              have hcz40_3 : wc.cell? ⟨gb207, 3, none⟩ = some (.int .i64 a0_3) := (blk_cell BK207.out 3).trans rfl
                              have hcz40_4 : wc.cell? ⟨gb207, 4, none⟩ = some (.int .i64 a0_4) := (blk_cell BK207.out 4).trans rfl
                              have hfz40_0 := blk_frozen BK207.out 0
                              have hfz40_1 := blk_frozen BK207.out 1
                              have hfz40_2 := blk_frozen BK207.out 2
                              have hfz40_3 := blk_frozen BK207.out 3
                              have hfz40_4 := blk_frozen BK207.out 4
                              go_wp2
                              go_ret
                              exact ⟨by first | rfl | (simp [errW_none, errW_some] <;> rfl) | (simp [*, errW_none, errW_some] <;> rfl), by repeat (first | (with_reducible first | exact HB.out | apply below_alloc | apply pw_below_drewN | apply below_drew1 | refine below_set ?_ GE207.out) | exact HB.out)⟩
                  · rw [if_neg c27] at H
                    have c27b0 : (a0_0 == 1) = false := beq_eq_false_iff_ne.mpr c27
                    have c27b1 : (a0_0 != 1) = true := bne_iff_ne.mpr c27
                    by_cases c41 : a0_3 < 0
                    · rw [if_pos c41] at H
                      have c41b0 : decide (a0_3 < 0) = true := decide_eq_true c41
                      clear c41
                      obtain rfl := Option.some.inj H
                      have hcz42_0 : wc.cell? ⟨gb207, 0, none⟩ = some (.int .i64 a0_0) := (blk_cell BK207.out 0).trans rfl
                      have hcz42_1 : wc.cell? ⟨gb207, 1, none⟩ = some (.int .u32 a0_1) := (blk_cell BK207.out 1).trans rfl
                      have hcz42_2 : wc.cell? ⟨gb207, 2, none⟩ = some (.int .i64 a0_2) := (blk_cell BK207.out 2).trans rfl
                      have hcz42_3 : wc.cell? ⟨gb207, 3, none⟩ = some (.int .i64 a0_3) := (blk_cell BK207.out 3).trans rfl
                      have hcz42_4 : wc.cell? ⟨gb207, 4, none⟩ = some (.int .i64 a0_4) := (blk_cell BK207.out 4).trans rfl
                      have hfz42_0 := blk_frozen BK207.out 0
                      have hfz42_1 := blk_frozen BK207.out 1
                      have hfz42_2 := blk_frozen BK207.out 2
                      have hfz42_3 := blk_frozen BK207.out 3
                      have hfz42_4 := blk_frozen BK207.out 4
                      go_wp2
                      go_ret
                      exact ⟨by first | rfl | (simp [errW_none, errW_some] <;> rfl) | (simp [*, errW_none, errW_some] <;> rfl), by repeat (first | (with_reducible first | exact HB.out | apply below_alloc | apply pw_below_drewN | apply below_drew1 | refine below_set ?_ GE207.out) | exact HB.out)⟩
                    · rw [if_neg c41] at H
                      have c41b0 : decide (a0_3 < 0) = false := decide_eq_false c41
                      clear c41
                      by_cases c43 : a0_3 > 255
                      · rw [if_pos c43] at H
                        have c43b0 : decide (255 < a0_3) = true := decide_eq_true c43
                        clear c43
                        obtain rfl := Option.some.inj H
                        have hcz44_0 : wc.cell? ⟨gb207, 0, none⟩ = some (.int .i64 a0_0) := (blk_cell BK207.out 0).trans rfl
                        have hcz44_1 : wc.cell? ⟨gb207, 1, none⟩ = some (.int .u32 a0_1) := (blk_cell BK207.out 1).trans rfl
                        have hcz44_2 : wc.cell? ⟨gb207, 2, none⟩ = some (.int .i64 a0_2) := (blk_cell BK207.out 2).trans rfl
                        have hcz44_3 : wc.cell? ⟨gb207, 3, none⟩ = some (.int .i64 a0_3) := (blk_cell BK207.out 3).trans rfl
                        have hcz44_4 : wc.cell? ⟨gb207, 4, none⟩ = some (.int .i64 a0_4) := (blk_cell BK207.out 4).trans rfl
                        have hfz44_0 := blk_frozen BK207.out 0
                        have hfz44_1 := blk_frozen BK207.out 1
                        have hfz44_2 := blk_frozen BK207.out 2
                        have hfz44_3 := blk_frozen BK207.out 3
                        have hfz44_4 := blk_frozen BK207.out 4
                        go_wp2
                        go_ret
                        exact ⟨by first | rfl | (simp [errW_none, errW_some] <;> rfl) | (simp [*, errW_none, errW_some] <;> rfl), by repeat (first | (with_reducible first | exact HB.out | apply below_alloc | apply pw_below_drewN | apply below_drew1 | refine below_set ?_ GE207.out) | exact HB.out)⟩
                      · rw [if_neg c43] at H
                        have c43b0 : decide (255 < a0_3) = false := decide_eq_false c43
                        clear c43
                        by_cases c45 : a0_4 > 255
                        · rw [if_pos c45] at H
                          have c45b0 : decide (255 < a0_4) = true := decide_eq_true c45
                          clear c45
                          obtain rfl := Option.some.inj H
                          have hcz46_0 : wc.cell? ⟨gb207, 0, none⟩ = some (.int .i64 a0_0) := (blk_cell BK207.out 0).trans rfl
                          have hcz46_1 : wc.cell? ⟨gb207, 1, none⟩ = some (.int .u32 a0_1) := (blk_cell BK207.out 1).trans rfl
                          have hcz46_2 : wc.cell? ⟨gb207, 2, none⟩ = some (.int .i64 a0_2) := (blk_cell BK207.out 2).trans rfl
                          have hcz46_3 : wc.cell? ⟨gb207, 3, none⟩ = some (.int .i64 a0_3) := (blk_cell BK207.out 3).trans rfl
                          have hcz46_4 : wc.cell? ⟨gb207, 4, none⟩ = some (.int .i64 a0_4) := (blk_cell BK207.out 4).trans rfl
                          have hfz46_0 := blk_frozen BK207.out 0
                          have hfz46_1 := blk_frozen BK207.out 1
                          have hfz46_2 := blk_frozen BK207.out 2
                          have hfz46_3 := blk_frozen BK207.out 3
                          have hfz46_4 := blk_frozen BK207.out 4
                          go_wp2
                          go_ret
                          exact ⟨by first | rfl | (simp [errW_none, errW_some] <;> rfl) | (simp [*, errW_none, errW_some] <;> rfl), by repeat (first | (with_reducible first | exact HB.out | apply below_alloc | apply pw_below_drewN | apply below_drew1 | refine below_set ?_ GE207.out) | exact HB.out)⟩
                        · rw [if_neg c45] at H
                          have c45b0 : decide (255 < a0_4) = false := decide_eq_false c45
                          clear c45
                          by_cases c47 : a0_0 = 5
                          · rw [if_pos c47] at H
                            have c47b0 : (a0_0 == 5) = true := beq_iff_eq.mpr c47
                            have c47b1 : (a0_0 != 5) = false := bne_eq_false_iff_eq.mpr c47
                            clear c47
                            by_cases c48 : a0_4 < 1
                            · rw [if_pos c48] at H
                              have c48b0 : decide (a0_4 < 1) = true := decide_eq_true c48
                              clear c48
                              obtain rfl := Option.some.inj H
                              have hcz49_0 : wc.cell? ⟨gb207, 0, none⟩ = some (.int .i64 a0_0) := (blk_cell BK207.out 0).trans rfl
                              have hcz49_1 : wc.cell? ⟨gb207, 1, none⟩ = some (.int .u32 a0_1) := (blk_cell BK207.out 1).trans rfl
                              have hcz49_2 : wc.cell? ⟨gb207, 2, none⟩ = some (.int .i64 a0_2) := (blk_cell BK207.out 2).trans rfl
                              have hcz49_3 : wc.cell? ⟨gb207, 3, none⟩ = some (.int .i64 a0_3) := (blk_cell BK207.out 3).trans rfl
                              have hcz49_4 : wc.cell? ⟨gb207, 4, none⟩ = some (.int .i64 a0_4) := (blk_cell BK207.out 4).trans rfl
                              have hfz49_0 := blk_frozen BK207.out 0
                              have hfz49_1 := blk_frozen BK207.out 1
                              have hfz49_2 := blk_frozen BK207.out 2
                              have hfz49_3 := blk_frozen BK207.out 3
                              have hfz49_4 := blk_frozen BK207.out 4
                              go_wp2
                              go_ret
                              exact ⟨by first | rfl | (simp [errW_none, errW_some] <;> rfl) | (simp [*, errW_none, errW_some] <;> rfl), by repeat (first | (with_reducible first | exact HB.out | apply below_alloc | apply pw_below_drewN | apply below_drew1 | refine below_set ?_ GE207.out) | exact HB.out)⟩
                            · rw [if_neg c48] at H
                              have c48b0 : decide (a0_4 < 1) = false := decide_eq_false c48
                              clear c48
                              obtain rfl := Option.some.inj H
                              have hcz50_0 : wc.cell? ⟨gb207, 0, none⟩ = some (.int .i64 a0_0) := (blk_cell BK207.out 0).trans rfl
                              have hcz50_1 : wc.cell? ⟨gb207, 1, none⟩ = some (.int .u32 a0_1) := (blk_cell BK207.out 1).trans rfl
                              have hcz50_2 : wc.cell? ⟨gb207, 2, none⟩ = some (.int .i64 a0_2) := (blk_cell BK207.out 2).trans rfl
                              have hcz50_3 : wc.cell? ⟨gb207, 3, none⟩ = some (.int .i64 a0_3) := (blk_cell BK207.out 3).trans rfl
                              have hcz50_4 : wc.cell? ⟨gb207, 4, none⟩ = some (.int .i64 a0_4) := (blk_cell BK207.out 4).trans rfl
                              have hfz50_0 := blk_frozen BK207.out 0
                              have hfz50_1 := blk_frozen BK207.out 1
                              have hfz50_2 := blk_frozen BK207.out 2
                              have hfz50_3 := blk_frozen BK207.out 3
                              have hfz50_4 := blk_frozen BK207.out 4
                              go_wp2
                              go_ret
                              exact ⟨by first | rfl | (simp [errW_none, errW_some] <;> rfl) | (simp [*, errW_none, errW_some] <;> rfl), by repeat (first | (with_reducible first | exact HB.out | apply below_alloc | apply pw_below_drewN | apply below_drew1 | refine below_set ?_ GE207.out) | exact HB.out)⟩
                          · rw [if_neg c47] at H
                            have c47b0 : (a0_0 == 5) = false := beq_eq_false_iff_ne.mpr c47
                            have c47b1 : (a0_0 != 5) = true := bne_iff_ne.mpr c47
                            obtain rfl := Option.some.inj H
                            have hcz51_0 : wc.cell? ⟨gb207, 0, none⟩ = some (.int .i64 a0_0) := (blk_cell BK207.out 0).trans rfl
                            have hcz51_1 : wc.cell? ⟨gb207, 1, none⟩ = some (.int .u32 a0_1) := (blk_cell BK207.out 1).trans rfl
                            have hcz51_2 : wc.cell? ⟨gb207, 2, none⟩ = some (.int .i64 a0_2) := (blk_cell BK207.out 2).trans rfl
                            have hcz51_3 : wc.cell? ⟨gb207, 3, none⟩ = some (.int .i64 a0_3) := (blk_cell BK207.out 3).trans rfl
                            have hcz51_4 : wc.cell? ⟨gb207, 4, none⟩ = some (.int .i64 a0_4) := (blk_cell BK207.out 4).trans rfl
                            have hfz51_0 := blk_frozen BK207.out 0
                            have hfz51_1 := blk_frozen BK207.out 1
                            have hfz51_2 := blk_frozen BK207.out 2
                            have hfz51_3 := blk_frozen BK207.out 3
                            have hfz51_4 := blk_frozen BK207.out 4
                            go_wp2
                            go_ret
                            exact ⟨by first | rfl | (simp [errW_none, errW_some] <;> rfl) | (simp [*, errW_none, errW_some] <;> rfl), by repeat (first | (with_reducible first | exact HB.out | apply below_alloc | apply pw_below_drewN | apply below_drew1 | refine below_set ?_ GE207.out) | exact HB.out)⟩

/-! ### credenzaref06_Number: function 61 -/
def credenzaref06_Number.l0 : Nat → ByteArray → Int → Int → Option (Int)
  | 0, _, _, _ => none
  | k + 1, x0, x3, x4 => if x4 < (x0.size : Int) then (if 0 ≤ x4 then (credenzaref06_Number.l0 k x0 (IntKind.u64.wrap ((IntKind.u64.wrap (x3 * 256)) + (IntKind.u64.wrap (bt x0 x4)))) (wrap64 (x4 + 1))) else (none)) else (some x3)
def credenzaref06_Number.f (k : Nat) (a0 : ByteArray) : Option (Int) := credenzaref06_Number.l0 k a0 0 0
theorem credenzaref06_Number.mono_l : ∀ k, (∀ y0 y1 y2, LeO (credenzaref06_Number.l0 k y0 y1 y2) (credenzaref06_Number.l0 (k + 1) y0 y1 y2))
  | 0 => fun _ _ _ r h => by simp [credenzaref06_Number.l0] at h
  | k + 1 => by
    have ih0 := credenzaref06_Number.mono_l k
    · intro y0 y1 y2
      unfold credenzaref06_Number.l0
      repeat' first
      | (with_reducible exact ih0 _ _ _)
      | (with_reducible exact LeO.refl _)
      | (with_reducible exact LeO.none _)
      | (with_reducible refine LeO.ite ?_ ?_)
      | (with_reducible refine LeO.bind ?_ (fun _ => ?_))
      | exact ih0 _ _ _
      | exact LeO.none _
      | refine LeO.ite ?_ ?_
      | refine LeO.bind ?_ (fun _ => ?_)
theorem credenzaref06_Number.mono : ∀ a0 k, LeO (credenzaref06_Number.f k a0) (credenzaref06_Number.f (k + 1) a0) := by
  intro a0 k
  have ih0 := credenzaref06_Number.mono_l k
  unfold credenzaref06_Number.f
  repeat' first
      | (with_reducible exact ih0 _ _ _)
      | (with_reducible exact LeO.refl _)
      | (with_reducible exact LeO.none _)
      | (with_reducible refine LeO.ite ?_ ?_)
      | (with_reducible refine LeO.bind ?_ (fun _ => ?_))
      | exact ih0 _ _ _
      | exact LeO.none _
      | refine LeO.ite ?_ ?_
      | refine LeO.bind ?_ (fun _ => ?_)
set_option maxHeartbeats 8000000 in
set_option maxRecDepth 100000 in
theorem credenzaref06_Number.calls (k : Nat) (a0 : ByteArray) (r : Int) (w : World) (h : credenzaref06_Number.f k a0 = some r) :
    Calls Try.prog 61 #[.string a0] w fun e w' => e = .returned (.int .u64 r) ∧ Drawn0 w w' := by
  have H : (credenzaref06_Number.l0 k a0 0 0) = some r := h
  clear h
  have H' := Aside0.mk H
  clear H
  go_enter Try.func61, Try.ntmps61
  go_wp2
  go_loopg [3, 4] k (fun kq v3 v4 w' => ∃ (x3_1 : Int) (x4_1 : Int), v3 = .int .u64 x3_1 ∧ v4 = .int .i64 x4_1 ∧ Aside0 (credenzaref06_Number.l0 kq a0 x3_1 x4_1 = some r) ∧ Aside0 (kq ≤ k) ∧ Drawn0 w w')
  case atStart => exact ⟨(0), (0), (by first | rfl | (simp; done) | (simp [*]; done)), (by first | rfl | (simp; done) | (simp [*]; done)), H', ⟨Nat.le_refl _⟩, by repeat (first | exact Drawn0.refl _ | apply Drawn0.step)⟩
  case round =>
    clear H'
    obtain ⟨x3_1, x4_1, rfl, rfl, HA, HK1, ⟨m1, rfl⟩⟩ := hrel
    cases gk with
    | zero => exact absurd HA.out (by simp [credenzaref06_Number.l0])
    | succ k1 =>
      have H := HA.out
      clear HA
      simp only [credenzaref06_Number.l0] at H
      by_cases c2 : x4_1 < (a0.size : Int)
      · rw [if_pos c2] at H
        have c2b0 : decide (x4_1 < (a0.size : Int)) = true := decide_eq_true c2
        clear c2
        by_cases c3 : 0 ≤ x4_1
        · rw [if_pos c3] at H
          have c3b0 : decide (0 ≤ x4_1) = true := decide_eq_true c3
          clear c3
          have H' := Aside0.mk H
          clear H
          have p4 : 0 ≤ (x4_1 : Int) := of_decide_eq_true (by first | (with_reducible assumption) | assumption)
          have q4 : x4_1 < (a0.size : Int) := of_decide_eq_true (by first | (with_reducible assumption) | assumption)
          have hx4 := bt_at a0 x4_1
          replace p4 := eq_true p4
          replace q4 := eq_true q4
          go_wp2
          go_roundg k1
          case measure => have := HK1.out; omega
          case rel => exact ⟨(IntKind.u64.wrap ((IntKind.u64.wrap (x3_1 * 256)) + (IntKind.u64.wrap (bt a0 x4_1)))), (wrap64 (x4_1 + 1)), (by first | rfl | (simp; done) | (simp [*]; done)), (by first | rfl | (simp; done) | (simp [*]; done)), H', ⟨by have := HK1.out; omega⟩, by repeat (first | exact Drawn0.refl _ | apply Drawn0.step)⟩
        · rw [if_neg c3] at H
          exact absurd H (by simp)
      · rw [if_neg c2] at H
        have c2b0 : decide (x4_1 < (a0.size : Int)) = false := decide_eq_false c2
        clear c2
        obtain rfl := Option.some.inj H
        go_wp2
        go_ret
        exact ⟨by first | rfl | (simp; done) | (simp [*]; done), by repeat (first | exact Drawn0.refl _ | apply Drawn0.step)⟩

end Go.Proofs.Ytggoddiiglkpiaa.PTellParses
