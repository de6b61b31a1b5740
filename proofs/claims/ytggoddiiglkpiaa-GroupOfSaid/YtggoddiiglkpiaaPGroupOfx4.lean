-- Written by a program of this session (wip/tools/mkprint.py over the kit's print).
import Derived.Test.YtggoddiiglkpiaaPGroupOfx0
import Derived.Test.YtggoddiiglkpiaaPGroupOfx3
namespace Go.Proofs.Ytggoddiiglkpiaa.PGroupOf
open Go.RowKit Go.Proofs.YtggoddiiglkpiaaW.PrintWords Go.Proofs.YtggoddiiglkpiaaW.PrintLast Go.Proofs.YtggoddiiglkpiaaW.PrintMore
attribute [local go_sem] max2_int min2_int max_two min_two max_three min_three max_four min_four   -- for this text's walks alone
set_option linter.unusedVariables false
set_option linter.unusedSimpArgs false

/-! ### credenzaref07_Of: function 17 -/
mutual
def credenzaref07_Of.l0 : Nat → List Int → Int → Int → Int → Int → Option (Int × Int × List Int)
  | 0, _, _, _, _, _ => none
  | k + 1, x0, x1, x5, x6, x7 => if x7 < (x0.length : Int) then (if 0 ≤ x7 then (if (wrap64 (rd x0 x7)) < x5 then (if (wrap64 (rd x0 x7)) > x6 then (credenzaref07_Of.l0 k x0 x1 (wrap64 (rd x0 x7)) (wrap64 (rd x0 x7)) (wrap64 (x7 + 1))) else (credenzaref07_Of.l0 k x0 x1 (wrap64 (rd x0 x7)) x6 (wrap64 (x7 + 1)))) else (if (wrap64 (rd x0 x7)) > x6 then (credenzaref07_Of.l0 k x0 x1 x5 (wrap64 (rd x0 x7)) (wrap64 (x7 + 1))) else (credenzaref07_Of.l0 k x0 x1 x5 x6 (wrap64 (x7 + 1))))) else (none)) else ((credenzaref07_Steps.f k x1).bind fun t179 => (if t179 = 0 then (none) else ((credenzaref07_Steps.f k x1).bind fun t180 => (if (wrap64 ((wrap64 (Int.tdiv (wrap64 (x6 - x5)) t179)) * t180)) < (wrap64 (x6 - x5)) then (credenzaref07_Of.j1 k x0 x5 (wrap64 ((wrap64 (Int.tdiv (wrap64 (x6 - x5)) t179)) + 1))) else (credenzaref07_Of.j1 k x0 x5 (wrap64 (Int.tdiv (wrap64 (x6 - x5)) t179)))))))
def credenzaref07_Of.j1 : Nat → List Int → Int → Int → Option (Int × Int × List Int)
  | 0, _, _, _ => none
  | k + 1, x0, x5, x8 => credenzaref07_Of.l1 k x0 x5 x8 0 (wrap32 (x5)) ((x8) % 4294967296) ([] : List Int)
def credenzaref07_Of.l1 : Nat → List Int → Int → Int → Int → Int → Int → List Int → Option (Int × Int × List Int)
  | 0, _, _, _, _, _, _, _ => none
  | k + 1, x0, x5, x8, x10, x182000, x182001, x182002 => if x10 < (x0.length : Int) then (if x8 > 0 then (if 0 ≤ x10 then ((credenzaref01_Ratio.f (wrap64 ((wrap64 (rd x0 x10)) - x5)) x8).bind fun t183 => (if x182002.length < 17592186044416 then (credenzaref07_Of.l1 k x0 x5 x8 (wrap64 (x10 + 1)) x182000 x182001 (x182002 ++ [t183])) else (none))) else (none)) else (if x182002.length < 17592186044416 then (credenzaref07_Of.l1 k x0 x5 x8 (wrap64 (x10 + 1)) x182000 x182001 (x182002 ++ [0])) else (none))) else (some (x182000, x182001, x182002))
end
def credenzaref07_Of.f (k : Nat) (l0 : List Int) (a1 : Int) : Option (Int × Int × List Int) := if 0 < (l0.length : Int) then (credenzaref07_Of.l0 k l0 a1 (wrap64 (rd l0 0)) (wrap64 (rd l0 0)) 0) else (none)
theorem credenzaref07_Of.mono_l : ∀ k, (∀ y0 y1 y2 y3 y4, LeO (credenzaref07_Of.l0 k y0 y1 y2 y3 y4) (credenzaref07_Of.l0 (k + 1) y0 y1 y2 y3 y4)) ∧ (∀ y0 y1 y2, LeO (credenzaref07_Of.j1 k y0 y1 y2) (credenzaref07_Of.j1 (k + 1) y0 y1 y2)) ∧ (∀ y0 y1 y2 y3 y4 y5 y6, LeO (credenzaref07_Of.l1 k y0 y1 y2 y3 y4 y5 y6) (credenzaref07_Of.l1 (k + 1) y0 y1 y2 y3 y4 y5 y6))
  | 0 => ⟨fun _ _ _ _ _ r h => by simp [credenzaref07_Of.l0] at h, fun _ _ _ r h => by simp [credenzaref07_Of.j1] at h, fun _ _ _ _ _ _ _ r h => by simp [credenzaref07_Of.l1] at h⟩
  | k + 1 => by
    obtain ⟨ih0, ih1, ih2⟩ := credenzaref07_Of.mono_l k
    refine ⟨?_, ?_, ?_⟩
    · intro y0 y1 y2 y3 y4
      unfold credenzaref07_Of.l0
      repeat' first
      | (with_reducible exact ih0 _ _ _ _ _)
      | (with_reducible exact ih1 _ _ _)
      | (with_reducible exact ih2 _ _ _ _ _ _ _)
      | (with_reducible exact credenzaref07_Steps.mono _ _)
      | (with_reducible exact LeO.refl _)
      | (with_reducible exact LeO.none _)
      | (with_reducible refine LeO.ite ?_ ?_)
      | (with_reducible refine LeO.bind ?_ (fun _ => ?_))
      | exact ih0 _ _ _ _ _
      | exact ih1 _ _ _
      | exact ih2 _ _ _ _ _ _ _
      | exact credenzaref07_Steps.mono _ _
      | exact LeO.none _
      | refine LeO.ite ?_ ?_
      | refine LeO.bind ?_ (fun _ => ?_)
    · intro y0 y1 y2
      unfold credenzaref07_Of.j1
      repeat' first
      | (with_reducible exact ih0 _ _ _ _ _)
      | (with_reducible exact ih1 _ _ _)
      | (with_reducible exact ih2 _ _ _ _ _ _ _)
      | (with_reducible exact credenzaref07_Steps.mono _ _)
      | (with_reducible exact LeO.refl _)
      | (with_reducible exact LeO.none _)
      | (with_reducible refine LeO.ite ?_ ?_)
      | (with_reducible refine LeO.bind ?_ (fun _ => ?_))
      | exact ih0 _ _ _ _ _
      | exact ih1 _ _ _
      | exact ih2 _ _ _ _ _ _ _
      | exact credenzaref07_Steps.mono _ _
      | exact LeO.none _
      | refine LeO.ite ?_ ?_
      | refine LeO.bind ?_ (fun _ => ?_)
    · intro y0 y1 y2 y3 y4 y5 y6
      unfold credenzaref07_Of.l1
      repeat' first
      | (with_reducible exact ih0 _ _ _ _ _)
      | (with_reducible exact ih1 _ _ _)
      | (with_reducible exact ih2 _ _ _ _ _ _ _)
      | (with_reducible exact credenzaref07_Steps.mono _ _)
      | (with_reducible exact LeO.refl _)
      | (with_reducible exact LeO.none _)
      | (with_reducible refine LeO.ite ?_ ?_)
      | (with_reducible refine LeO.bind ?_ (fun _ => ?_))
      | exact ih0 _ _ _ _ _
      | exact ih1 _ _ _
      | exact ih2 _ _ _ _ _ _ _
      | exact credenzaref07_Steps.mono _ _
      | exact LeO.none _
      | refine LeO.ite ?_ ?_
      | refine LeO.bind ?_ (fun _ => ?_)
theorem credenzaref07_Of.mono : ∀ a0 a1 k, LeO (credenzaref07_Of.f k a0 a1) (credenzaref07_Of.f (k + 1) a0 a1) := by
  intro a0 a1 k
  obtain ⟨ih0, ih1, ih2⟩ := credenzaref07_Of.mono_l k
  unfold credenzaref07_Of.f
  repeat' first
      | (with_reducible exact ih0 _ _ _ _ _)
      | (with_reducible exact ih1 _ _ _)
      | (with_reducible exact ih2 _ _ _ _ _ _ _)
      | (with_reducible exact credenzaref07_Steps.mono _ _)
      | (with_reducible exact LeO.refl _)
      | (with_reducible exact LeO.none _)
      | (with_reducible refine LeO.ite ?_ ?_)
      | (with_reducible refine LeO.bind ?_ (fun _ => ?_))
      | exact ih0 _ _ _ _ _
      | exact ih1 _ _ _
      | exact ih2 _ _ _ _ _ _ _
      | exact credenzaref07_Steps.mono _ _
      | exact LeO.none _
      | refine LeO.ite ?_ ?_
      | refine LeO.bind ?_ (fun _ => ?_)
set_option maxHeartbeats 8000000 in
set_option maxRecDepth 100000 in
theorem credenzaref07_Of.calls (k : Nat) (A0 : Option Addr) (c0 : Nat) (l0 : List Int) (a1 : Int) (r1 : Int) (r2 : Int) (r3 : List Int) (w : World) (hr0 : Kd.C (Kd.int .i32) w A0 l0.length l0) (hc0 : l0.length ≤ c0) (h : credenzaref07_Of.f k l0 a1 = some (r1, r2, r3)) :
    Calls Try.prog 17 #[.slice A0 l0.length c0, .int .i64 a1] w fun e w' => ∃ v2_ : Value, e = .returned (.agg #[.int .i32 r1, .int .u32 r2, v2_]) ∧ Kd.R (Kd.int .i64) 3 w' w.heap.size (fun _ => True) v2_ r3 ∧ Below w.heap.size w w' := by
  have hu32 := Try.underlying32
  have HR0 := Aside0.mk hr0
  have HC0 := Aside0.mk hc0
  clear hr0 hc0
  have HB := Aside0.mk (Below.refl w.heap.size w)
  have H : (if 0 < (l0.length : Int) then (credenzaref07_Of.l0 k l0 a1 (wrap64 (rd l0 0)) (wrap64 (rd l0 0)) 0) else (none)) = some (r1, r2, r3) := h
  clear h
  by_cases c3 : 0 < (l0.length : Int)
  · rw [if_pos c3] at H
    have c3b0 : decide (0 < (l0.length : Int)) = true := decide_eq_true c3
    have c3b1 : decide (0 < l0.length) = true := decide_eq_true (by omega)
    clear c3
    have H' := Aside0.mk H
    clear H
    go_enter Try.func17, Try.ntmps17
    go_wp2_with (first | ((with_reducible refine gate_dst (N := 4) rfl ?_); refine box_event ?hg (N := 4) ?hd (cs := #[.int .i32 0, .int .u32 0, .slice none 0 0]) (t := 32) ?hr ?_; (case hd => rfl); (case hg => rfl); (case hr => first | (go_simp; done) | (go_simp; rfl)); intro gb170 hg w4 hbox hb; have n0_ := Aside0.mk (below_step (by repeat (first | (with_reducible first | exact HB.out | apply below_alloc | apply pw_below_drewN | apply below_drew1) | exact HB.out)) hb); have n1_ := Aside0.mk (hbox); have n2_ := Aside0.mk ((by rw [hg]; exact (below_size (by repeat (first | (with_reducible first | exact HB.out | apply below_alloc | apply pw_below_drewN | apply below_drew1) | exact HB.out))) : w.heap.size ≤ gb170)); have n3_ := Aside0.mk ((by rw [hg]; exact (below_size (by repeat (first | (with_reducible first | exact HB.out | apply below_alloc | apply pw_below_drewN | apply below_drew1) | exact HB.out))) : w.heap.size ≤ gb170)); clear HB; have HB := n0_; have BK170 := n1_; have GW170 := n2_; have GE170 := n3_; clear n0_ n1_ n2_ n3_; clear hb hbox hg; have p171 : 0 ≤ (0 : Int) := (by omega); have q171 : 0 < (l0.length : Int) := of_decide_eq_true (by first | (with_reducible assumption) | assumption); obtain ⟨ad171, e171, hx171_0⟩ := Kd.at_int HR0.out 0 p171 q171; cases e171; have qi171 : (0 < l0.length) = True := eq_true (by omega); (try rw [show ((0 : Int)).toNat = 0 from rfl] at hx171_0); (try rw [Addr.add_zero'] at hx171_0); replace hx171_0 := (HB.out.cell (World.block_lt_of_cell? w _ hx171_0)).trans hx171_0; replace p171 := eq_true p171; replace q171 := eq_true q171; have p172 : 0 ≤ (0 : Int) := (by omega); have q172 : 0 < (l0.length : Int) := of_decide_eq_true (by first | (with_reducible assumption) | assumption); obtain ⟨ad172, e172, hx172_0⟩ := Kd.at_int HR0.out 0 p172 q172; obtain rfl : ad171 = ad172 := (by injection e172); have qi172 : (0 < l0.length) = True := eq_true (by omega); (try rw [show ((0 : Int)).toNat = 0 from rfl] at hx172_0); (try rw [Addr.add_zero'] at hx172_0); replace hx172_0 := (HB.out.cell (World.block_lt_of_cell? w _ hx172_0)).trans hx172_0; replace p172 := eq_true p172; replace q172 := eq_true q172))
    repeat (go_quiet (first | ((with_reducible refine gate_dst (N := 4) rfl ?_); refine box_event ?hg (N := 4) ?hd (cs := #[.int .i32 0, .int .u32 0, .slice none 0 0]) (t := 32) ?hr ?_; (case hd => rfl); (case hg => rfl); (case hr => first | (go_simp; done) | (go_simp; rfl)); intro gb170 hg w4 hbox hb; have n0_ := Aside0.mk (below_step (by repeat (first | (with_reducible first | exact HB.out | apply below_alloc | apply pw_below_drewN | apply below_drew1) | exact HB.out)) hb); have n1_ := Aside0.mk (hbox); have n2_ := Aside0.mk ((by rw [hg]; exact (below_size (by repeat (first | (with_reducible first | exact HB.out | apply below_alloc | apply pw_below_drewN | apply below_drew1) | exact HB.out))) : w.heap.size ≤ gb170)); have n3_ := Aside0.mk ((by rw [hg]; exact (below_size (by repeat (first | (with_reducible first | exact HB.out | apply below_alloc | apply pw_below_drewN | apply below_drew1) | exact HB.out))) : w.heap.size ≤ gb170)); clear HB; have HB := n0_; have BK170 := n1_; have GW170 := n2_; have GE170 := n3_; clear n0_ n1_ n2_ n3_; clear hb hbox hg; have p171 : 0 ≤ (0 : Int) := (by omega); have q171 : 0 < (l0.length : Int) := of_decide_eq_true (by first | (with_reducible assumption) | assumption); obtain ⟨ad171, e171, hx171_0⟩ := Kd.at_int HR0.out 0 p171 q171; cases e171; have qi171 : (0 < l0.length) = True := eq_true (by omega); (try rw [show ((0 : Int)).toNat = 0 from rfl] at hx171_0); (try rw [Addr.add_zero'] at hx171_0); replace hx171_0 := (HB.out.cell (World.block_lt_of_cell? w _ hx171_0)).trans hx171_0; replace p171 := eq_true p171; replace q171 := eq_true q171; have p172 : 0 ≤ (0 : Int) := (by omega); have q172 : 0 < (l0.length : Int) := of_decide_eq_true (by first | (with_reducible assumption) | assumption); obtain ⟨ad172, e172, hx172_0⟩ := Kd.at_int HR0.out 0 p172 q172; obtain rfl : ad171 = ad172 := (by injection e172); have qi172 : (0 < l0.length) = True := eq_true (by omega); (try rw [show ((0 : Int)).toNat = 0 from rfl] at hx172_0); (try rw [Addr.add_zero'] at hx172_0); replace hx172_0 := (HB.out.cell (World.block_lt_of_cell? w _ hx172_0)).trans hx172_0; replace p172 := eq_true p172; replace q172 := eq_true q172)); try go_wp2_with (first | ((with_reducible refine gate_dst (N := 4) rfl ?_); refine box_event ?hg (N := 4) ?hd (cs := #[.int .i32 0, .int .u32 0, .slice none 0 0]) (t := 32) ?hr ?_; (case hd => rfl); (case hg => rfl); (case hr => first | (go_simp; done) | (go_simp; rfl)); intro gb170 hg w4 hbox hb; have n0_ := Aside0.mk (below_step (by repeat (first | (with_reducible first | exact HB.out | apply below_alloc | apply pw_below_drewN | apply below_drew1) | exact HB.out)) hb); have n1_ := Aside0.mk (hbox); have n2_ := Aside0.mk ((by rw [hg]; exact (below_size (by repeat (first | (with_reducible first | exact HB.out | apply below_alloc | apply pw_below_drewN | apply below_drew1) | exact HB.out))) : w.heap.size ≤ gb170)); have n3_ := Aside0.mk ((by rw [hg]; exact (below_size (by repeat (first | (with_reducible first | exact HB.out | apply below_alloc | apply pw_below_drewN | apply below_drew1) | exact HB.out))) : w.heap.size ≤ gb170)); clear HB; have HB := n0_; have BK170 := n1_; have GW170 := n2_; have GE170 := n3_; clear n0_ n1_ n2_ n3_; clear hb hbox hg; have p171 : 0 ≤ (0 : Int) := (by omega); have q171 : 0 < (l0.length : Int) := of_decide_eq_true (by first | (with_reducible assumption) | assumption); obtain ⟨ad171, e171, hx171_0⟩ := Kd.at_int HR0.out 0 p171 q171; cases e171; have qi171 : (0 < l0.length) = True := eq_true (by omega); (try rw [show ((0 : Int)).toNat = 0 from rfl] at hx171_0); (try rw [Addr.add_zero'] at hx171_0); replace hx171_0 := (HB.out.cell (World.block_lt_of_cell? w _ hx171_0)).trans hx171_0; replace p171 := eq_true p171; replace q171 := eq_true q171; have p172 : 0 ≤ (0 : Int) := (by omega); have q172 : 0 < (l0.length : Int) := of_decide_eq_true (by first | (with_reducible assumption) | assumption); obtain ⟨ad172, e172, hx172_0⟩ := Kd.at_int HR0.out 0 p172 q172; obtain rfl : ad171 = ad172 := (by injection e172); have qi172 : (0 < l0.length) = True := eq_true (by omega); (try rw [show ((0 : Int)).toNat = 0 from rfl] at hx172_0); (try rw [Addr.add_zero'] at hx172_0); replace hx172_0 := (HB.out.cell (World.block_lt_of_cell? w _ hx172_0)).trans hx172_0; replace p172 := eq_true p172; replace q172 := eq_true q172)))
    go_loopg [5, 6, 7] k (fun kq v5 v6 v7 w' => ∃ (x5_1 : Int) (x6_1 : Int) (x7_1 : Int), v5 = .int .i64 x5_1 ∧ v6 = .int .i64 x6_1 ∧ v7 = .int .i64 x7_1 ∧ Aside0 (credenzaref07_Of.l0 kq l0 a1 x5_1 x6_1 x7_1 = some (r1, r2, r3)) ∧ Aside0 (kq ≤ k) ∧ Aside0 (w'.heap[gb170]? = some (.cells #[.int .i32 0, .int .u32 0, (.slice none 0 0)] 32 (0, 0))) ∧ Aside0 (Below w.heap.size w w'))
    case atStart => exact ⟨(wrap64 (rd l0 0)), (wrap64 (rd l0 0)), (0), (by first | rfl | (simp; done) | (simp [*]; done)), (by first | rfl | (simp; done) | (simp [*]; done)), (by first | rfl | (simp; done) | (simp [*]; done)), H', ⟨Nat.le_refl _⟩, ⟨by (with_reducible repeat (first | refine blk_drewN ?_ _ | refine blk_drew ?_ | refine blk_alloc ?_ _)); exact BK170.out⟩, ⟨by repeat (first | (with_reducible first | exact HB.out | apply below_alloc | apply pw_below_drewN | apply below_drew1 | refine below_set ?_ GE170.out) | exact HB.out)⟩⟩
    case round =>
      clear H'
      try clear c1
      try clear p1
      try clear q1
      try clear hx1
      try clear qi1
      try clear p2
      try clear c3
      try clear c3b0
      try clear c3b1
      try clear hx171_0
      try clear hx172_0
      try clear p171
      try clear p172
      try clear q171
      try clear q172
      obtain ⟨x5_1, x6_1, x7_1, rfl, rfl, rfl, HA, HK1, BK170, HB⟩ := hrel
      cases gk with
      | zero => exact absurd HA.out (by simp [credenzaref07_Of.l0])
      | succ k1 =>
        have H := HA.out
        clear HA
        simp only [credenzaref07_Of.l0] at H
        by_cases c5 : x7_1 < (l0.length : Int)
        · rw [if_pos c5] at H
          have c5b0 : decide (x7_1 < (l0.length : Int)) = true := decide_eq_true c5
          clear c5
          by_cases c6 : 0 ≤ x7_1
          · rw [if_pos c6] at H
            have c6b0 : decide (0 ≤ x7_1) = true := decide_eq_true c6
            clear c6
            by_cases c7 : (wrap64 (rd l0 x7_1)) < x5_1
            · rw [if_pos c7] at H
              have c7b0 : decide ((wrap64 (rd l0 x7_1)) < x5_1) = true := decide_eq_true c7
              clear c7
              by_cases c8 : (wrap64 (rd l0 x7_1)) > x6_1
              · rw [if_pos c8] at H
                have c8b0 : decide (x6_1 < (wrap64 (rd l0 x7_1))) = true := decide_eq_true c8
                clear c8
                have H' := Aside0.mk H
                clear H
                have p173 : 0 ≤ (x7_1 : Int) := of_decide_eq_true (by first | (with_reducible assumption) | assumption)
                have q173 : x7_1 < (l0.length : Int) := of_decide_eq_true (by first | (with_reducible assumption) | assumption)
                obtain ⟨ad173, e173, hx173_0⟩ := Kd.at_int HR0.out x7_1 p173 q173
                obtain rfl : ad171 = ad173 := (by injection e173)
                replace hx173_0 := (HB.out.cell (World.block_lt_of_cell? w _ hx173_0)).trans hx173_0
                replace p173 := eq_true p173
                replace q173 := eq_true q173
                have p174 : 0 ≤ (x7_1 : Int) := of_decide_eq_true (by first | (with_reducible assumption) | assumption)
                have q174 : x7_1 < (l0.length : Int) := of_decide_eq_true (by first | (with_reducible assumption) | assumption)
                obtain ⟨ad174, e174, hx174_0⟩ := Kd.at_int HR0.out x7_1 p174 q174
                obtain rfl : ad171 = ad174 := (by injection e174)
                replace hx174_0 := (HB.out.cell (World.block_lt_of_cell? w _ hx174_0)).trans hx174_0
                replace p174 := eq_true p174
                replace q174 := eq_true q174
                have p175 : 0 ≤ (x7_1 : Int) := of_decide_eq_true (by first | (with_reducible assumption) | assumption)
                have q175 : x7_1 < (l0.length : Int) := of_decide_eq_true (by first | (with_reducible assumption) | assumption)
                obtain ⟨ad175, e175, hx175_0⟩ := Kd.at_int HR0.out x7_1 p175 q175
                obtain rfl : ad171 = ad175 := (by injection e175)
                replace hx175_0 := (HB.out.cell (World.block_lt_of_cell? w _ hx175_0)).trans hx175_0
                replace p175 := eq_true p175
                replace q175 := eq_true q175
                have p176 : 0 ≤ (x7_1 : Int) := of_decide_eq_true (by first | (with_reducible assumption) | assumption)
                have q176 : x7_1 < (l0.length : Int) := of_decide_eq_true (by first | (with_reducible assumption) | assumption)
                obtain ⟨ad176, e176, hx176_0⟩ := Kd.at_int HR0.out x7_1 p176 q176
                obtain rfl : ad171 = ad176 := (by injection e176)
                replace hx176_0 := (HB.out.cell (World.block_lt_of_cell? w _ hx176_0)).trans hx176_0
                replace p176 := eq_true p176
                replace q176 := eq_true q176
                go_wp2
                repeat (go_quiet (fail); try go_wp2)
                go_roundg k1
                case measure => have := HK1.out; omega
                case rel => exact ⟨(wrap64 (rd l0 x7_1)), (wrap64 (rd l0 x7_1)), (wrap64 (x7_1 + 1)), (by first | rfl | (simp; done) | (simp [*]; done)), (by first | rfl | (simp; done) | (simp [*]; done)), (by first | rfl | (simp; done) | (simp [*]; done)), H', ⟨by have := HK1.out; omega⟩, ⟨by (with_reducible repeat (first | refine blk_drewN ?_ _ | refine blk_drew ?_ | refine blk_alloc ?_ _)); exact BK170.out⟩, ⟨by repeat (first | (with_reducible first | exact HB.out | apply below_alloc | apply pw_below_drewN | apply below_drew1 | refine below_set ?_ GE170.out) | exact HB.out)⟩⟩
              · rw [if_neg c8] at H
                have c8b0 : decide (x6_1 < (wrap64 (rd l0 x7_1))) = false := decide_eq_false c8
                clear c8
                have H' := Aside0.mk H
                clear H
                have p173 : 0 ≤ (x7_1 : Int) := of_decide_eq_true (by first | (with_reducible assumption) | assumption)
                have q173 : x7_1 < (l0.length : Int) := of_decide_eq_true (by first | (with_reducible assumption) | assumption)
                obtain ⟨ad173, e173, hx173_0⟩ := Kd.at_int HR0.out x7_1 p173 q173
                obtain rfl : ad171 = ad173 := (by injection e173)
                replace hx173_0 := (HB.out.cell (World.block_lt_of_cell? w _ hx173_0)).trans hx173_0
                replace p173 := eq_true p173
                replace q173 := eq_true q173
                have p174 : 0 ≤ (x7_1 : Int) := of_decide_eq_true (by first | (with_reducible assumption) | assumption)
                have q174 : x7_1 < (l0.length : Int) := of_decide_eq_true (by first | (with_reducible assumption) | assumption)
                obtain ⟨ad174, e174, hx174_0⟩ := Kd.at_int HR0.out x7_1 p174 q174
                obtain rfl : ad171 = ad174 := (by injection e174)
                replace hx174_0 := (HB.out.cell (World.block_lt_of_cell? w _ hx174_0)).trans hx174_0
                replace p174 := eq_true p174
                replace q174 := eq_true q174
                have p175 : 0 ≤ (x7_1 : Int) := of_decide_eq_true (by first | (with_reducible assumption) | assumption)
                have q175 : x7_1 < (l0.length : Int) := of_decide_eq_true (by first | (with_reducible assumption) | assumption)
                obtain ⟨ad175, e175, hx175_0⟩ := Kd.at_int HR0.out x7_1 p175 q175
                obtain rfl : ad171 = ad175 := (by injection e175)
                replace hx175_0 := (HB.out.cell (World.block_lt_of_cell? w _ hx175_0)).trans hx175_0
                replace p175 := eq_true p175
                replace q175 := eq_true q175
                go_wp2
                repeat (go_quiet (fail); try go_wp2)
                go_roundg k1
                case measure => have := HK1.out; omega
                case rel => exact ⟨(wrap64 (rd l0 x7_1)), (x6_1), (wrap64 (x7_1 + 1)), (by first | rfl | (simp; done) | (simp [*]; done)), (by first | rfl | (simp; done) | (simp [*]; done)), (by first | rfl | (simp; done) | (simp [*]; done)), H', ⟨by have := HK1.out; omega⟩, ⟨by (with_reducible repeat (first | refine blk_drewN ?_ _ | refine blk_drew ?_ | refine blk_alloc ?_ _)); exact BK170.out⟩, ⟨by repeat (first | (with_reducible first | exact HB.out | apply below_alloc | apply pw_below_drewN | apply below_drew1 | refine below_set ?_ GE170.out) | exact HB.out)⟩⟩
            · rw [if_neg c7] at H
              have c7b0 : decide ((wrap64 (rd l0 x7_1)) < x5_1) = false := decide_eq_false c7
              clear c7
              by_cases c9 : (wrap64 (rd l0 x7_1)) > x6_1
              · rw [if_pos c9] at H
                have c9b0 : decide (x6_1 < (wrap64 (rd l0 x7_1))) = true := decide_eq_true c9
                clear c9
                have H' := Aside0.mk H
                clear H
                have p173 : 0 ≤ (x7_1 : Int) := of_decide_eq_true (by first | (with_reducible assumption) | assumption)
                have q173 : x7_1 < (l0.length : Int) := of_decide_eq_true (by first | (with_reducible assumption) | assumption)
                obtain ⟨ad173, e173, hx173_0⟩ := Kd.at_int HR0.out x7_1 p173 q173
                obtain rfl : ad171 = ad173 := (by injection e173)
                replace hx173_0 := (HB.out.cell (World.block_lt_of_cell? w _ hx173_0)).trans hx173_0
                replace p173 := eq_true p173
                replace q173 := eq_true q173
                have p177 : 0 ≤ (x7_1 : Int) := of_decide_eq_true (by first | (with_reducible assumption) | assumption)
                have q177 : x7_1 < (l0.length : Int) := of_decide_eq_true (by first | (with_reducible assumption) | assumption)
                obtain ⟨ad177, e177, hx177_0⟩ := Kd.at_int HR0.out x7_1 p177 q177
                obtain rfl : ad171 = ad177 := (by injection e177)
                replace hx177_0 := (HB.out.cell (World.block_lt_of_cell? w _ hx177_0)).trans hx177_0
                replace p177 := eq_true p177
                replace q177 := eq_true q177
                have p178 : 0 ≤ (x7_1 : Int) := of_decide_eq_true (by first | (with_reducible assumption) | assumption)
                have q178 : x7_1 < (l0.length : Int) := of_decide_eq_true (by first | (with_reducible assumption) | assumption)
                obtain ⟨ad178, e178, hx178_0⟩ := Kd.at_int HR0.out x7_1 p178 q178
                obtain rfl : ad171 = ad178 := (by injection e178)
                replace hx178_0 := (HB.out.cell (World.block_lt_of_cell? w _ hx178_0)).trans hx178_0
                replace p178 := eq_true p178
                replace q178 := eq_true q178
                go_wp2
                repeat (go_quiet (fail); try go_wp2)
                go_roundg k1
                case measure => have := HK1.out; omega
                case rel => exact ⟨(x5_1), (wrap64 (rd l0 x7_1)), (wrap64 (x7_1 + 1)), (by first | rfl | (simp; done) | (simp [*]; done)), (by first | rfl | (simp; done) | (simp [*]; done)), (by first | rfl | (simp; done) | (simp [*]; done)), H', ⟨by have := HK1.out; omega⟩, ⟨by (with_reducible repeat (first | refine blk_drewN ?_ _ | refine blk_drew ?_ | refine blk_alloc ?_ _)); exact BK170.out⟩, ⟨by repeat (first | (with_reducible first | exact HB.out | apply below_alloc | apply pw_below_drewN | apply below_drew1 | refine below_set ?_ GE170.out) | exact HB.out)⟩⟩
              · rw [if_neg c9] at H
                have c9b0 : decide (x6_1 < (wrap64 (rd l0 x7_1))) = false := decide_eq_false c9
                clear c9
                have H' := Aside0.mk H
                clear H
                have p173 : 0 ≤ (x7_1 : Int) := of_decide_eq_true (by first | (with_reducible assumption) | assumption)
                have q173 : x7_1 < (l0.length : Int) := of_decide_eq_true (by first | (with_reducible assumption) | assumption)
                obtain ⟨ad173, e173, hx173_0⟩ := Kd.at_int HR0.out x7_1 p173 q173
                obtain rfl : ad171 = ad173 := (by injection e173)
                replace hx173_0 := (HB.out.cell (World.block_lt_of_cell? w _ hx173_0)).trans hx173_0
                replace p173 := eq_true p173
                replace q173 := eq_true q173
                have p177 : 0 ≤ (x7_1 : Int) := of_decide_eq_true (by first | (with_reducible assumption) | assumption)
                have q177 : x7_1 < (l0.length : Int) := of_decide_eq_true (by first | (with_reducible assumption) | assumption)
                obtain ⟨ad177, e177, hx177_0⟩ := Kd.at_int HR0.out x7_1 p177 q177
                obtain rfl : ad171 = ad177 := (by injection e177)
                replace hx177_0 := (HB.out.cell (World.block_lt_of_cell? w _ hx177_0)).trans hx177_0
                replace p177 := eq_true p177
                replace q177 := eq_true q177
                go_wp2
                repeat (go_quiet (fail); try go_wp2)
                go_roundg k1
                case measure => have := HK1.out; omega
                case rel => exact ⟨(x5_1), (x6_1), (wrap64 (x7_1 + 1)), (by first | rfl | (simp; done) | (simp [*]; done)), (by first | rfl | (simp; done) | (simp [*]; done)), (by first | rfl | (simp; done) | (simp [*]; done)), H', ⟨by have := HK1.out; omega⟩, ⟨by (with_reducible repeat (first | refine blk_drewN ?_ _ | refine blk_drew ?_ | refine blk_alloc ?_ _)); exact BK170.out⟩, ⟨by repeat (first | (with_reducible first | exact HB.out | apply below_alloc | apply pw_below_drewN | apply below_drew1 | refine below_set ?_ GE170.out) | exact HB.out)⟩⟩
          · rw [if_neg c6] at H
            exact absurd H (by simp)
        · rw [if_neg c5] at H
          have c5b0 : decide (x7_1 < (l0.length : Int)) = false := decide_eq_false c5
          clear c5
          replace H := Option.bind_eq_some_iff.mp H
          obtain ⟨t179, A100, H⟩ := H
          replace H : (if t179 = 0 then (none) else ((credenzaref07_Steps.f k1 a1).bind fun t180 => (if (wrap64 ((wrap64 (Int.tdiv (wrap64 (x6_1 - x5_1)) t179)) * t180)) < (wrap64 (x6_1 - x5_1)) then (credenzaref07_Of.j1 k1 l0 x5_1 (wrap64 ((wrap64 (Int.tdiv (wrap64 (x6_1 - x5_1)) t179)) + 1))) else (credenzaref07_Of.j1 k1 l0 x5_1 (wrap64 (Int.tdiv (wrap64 (x6_1 - x5_1)) t179)))))) = some (r1, r2, r3) := H
          have A10 := Aside0.mk A100
          clear A100
          by_cases c11 : t179 = 0
          · rw [if_pos c11] at H
            exact absurd H (by simp)
          · rw [if_neg c11] at H
            have c11b0 : (t179 == 0) = false := beq_eq_false_iff_ne.mpr c11
            have c11b1 : (t179 != 0) = true := bne_iff_ne.mpr c11
            replace H := Option.bind_eq_some_iff.mp H
            obtain ⟨t180, A120, H⟩ := H
            replace H : (if (wrap64 ((wrap64 (Int.tdiv (wrap64 (x6_1 - x5_1)) t179)) * t180)) < (wrap64 (x6_1 - x5_1)) then (credenzaref07_Of.j1 k1 l0 x5_1 (wrap64 ((wrap64 (Int.tdiv (wrap64 (x6_1 - x5_1)) t179)) + 1))) else (credenzaref07_Of.j1 k1 l0 x5_1 (wrap64 (Int.tdiv (wrap64 (x6_1 - x5_1)) t179)))) = some (r1, r2, r3) := H
            have A12 := Aside0.mk A120
            clear A120
            have HC13 := Aside0.mk H
            clear H
            go_upto_if 63 with (first | (go_at_call 24; (with_reducible refine (credenzaref07_Steps.calls k1 a1 t179 _ A10.out).mono ?_); rintro e w' ⟨rfl, ⟨nd, rfl⟩⟩; (try clear A10); (try first | exact ⟨rfl, _, World.drewN_drewN _ _ _⟩ | exact ⟨rfl, _, Eq.trans (World.drewN_drewN _ _ _) (congrArg (World.drewN _) (Nat.add_assoc _ _ _))⟩)) | (go_at_call 24; (with_reducible refine (credenzaref07_Steps.calls k1 a1 t180 _ A12.out).mono ?_); rintro e w' ⟨rfl, ⟨nd, rfl⟩⟩; (try clear A12); (try first | exact ⟨rfl, _, World.drewN_drewN _ _ _⟩ | exact ⟨rfl, _, Eq.trans (World.drewN_drewN _ _ _) (congrArg (World.drewN _) (Nat.add_assoc _ _ _))⟩)))
            repeat (go_quiet (first | (go_at_call 24; (with_reducible refine (credenzaref07_Steps.calls k1 a1 t179 _ A10.out).mono ?_); rintro e w' ⟨rfl, ⟨nd, rfl⟩⟩; (try clear A10); (try first | exact ⟨rfl, _, World.drewN_drewN _ _ _⟩ | exact ⟨rfl, _, Eq.trans (World.drewN_drewN _ _ _) (congrArg (World.drewN _) (Nat.add_assoc _ _ _))⟩)) | (go_at_call 24; (with_reducible refine (credenzaref07_Steps.calls k1 a1 t180 _ A12.out).mono ?_); rintro e w' ⟨rfl, ⟨nd, rfl⟩⟩; (try clear A12); (try first | exact ⟨rfl, _, World.drewN_drewN _ _ _⟩ | exact ⟨rfl, _, Eq.trans (World.drewN_drewN _ _ _) (congrArg (World.drewN _) (Nat.add_assoc _ _ _))⟩))); go_upto_if 63 with (first | (go_at_call 24; (with_reducible refine (credenzaref07_Steps.calls k1 a1 t179 _ A10.out).mono ?_); rintro e w' ⟨rfl, ⟨nd, rfl⟩⟩; (try clear A10); (try first | exact ⟨rfl, _, World.drewN_drewN _ _ _⟩ | exact ⟨rfl, _, Eq.trans (World.drewN_drewN _ _ _) (congrArg (World.drewN _) (Nat.add_assoc _ _ _))⟩)) | (go_at_call 24; (with_reducible refine (credenzaref07_Steps.calls k1 a1 t180 _ A12.out).mono ?_); rintro e w' ⟨rfl, ⟨nd, rfl⟩⟩; (try clear A12); (try first | exact ⟨rfl, _, World.drewN_drewN _ _ _⟩ | exact ⟨rfl, _, Eq.trans (World.drewN_drewN _ _ _) (congrArg (World.drewN _) (Nat.add_assoc _ _ _))⟩))))
            (try simp only [Act.put, List.setIfInBounds_toArray, List.set_cons_zero, List.set_cons_succ])
            go_cut [8] (fun v8 wc => ∃ (kq : Nat) (x8_12 : Int), v8 = .int .i64 x8_12 ∧ Aside0 (credenzaref07_Of.j1 kq l0 x5_1 x8_12 = some (r1, r2, r3)) ∧ Aside0 (kq ≤ k1) ∧ Aside0 (wc.heap[gb170]? = some (.cells #[.int .i32 0, .int .u32 0, (.slice none 0 0)] 32 (0, 0))) ∧ Aside0 (Below w.heap.size w wc))
            case first =>
              have H := HC13.out
              clear HC13
              by_cases c14 : (wrap64 ((wrap64 (Int.tdiv (wrap64 (x6_1 - x5_1)) t179)) * t180)) < (wrap64 (x6_1 - x5_1))
              · rw [if_pos c14] at H
                have c14b0 : decide ((wrap64 ((wrap64 (Int.tdiv (wrap64 (x6_1 - x5_1)) t179)) * t180)) < (wrap64 (x6_1 - x5_1))) = true := decide_eq_true c14
                clear c14
                (first | rw [c14b0] | (simp only [i64_w, i32_w]; rw [c14b0]) | skip)
                have H' := Aside0.mk H
                clear H
                go_wp2
                repeat (go_quiet (fail); try go_wp2)
                go_meet
                case rel => exact ⟨_, (wrap64 ((wrap64 (Int.tdiv (wrap64 (x6_1 - x5_1)) t179)) + 1)), (by first | rfl | (simp; done) | (simp [*]; done)), H', ⟨by have := HK1.out; first | omega | exact Nat.le_refl _⟩, ⟨by (with_reducible repeat (first | refine blk_drewN ?_ _ | refine blk_drew ?_ | refine blk_alloc ?_ _)); exact BK170.out⟩, ⟨by repeat (first | (with_reducible first | exact HB.out | apply below_alloc | apply pw_below_drewN | apply below_drew1 | refine below_set ?_ GE170.out) | exact HB.out)⟩⟩
              · rw [if_neg c14] at H
                have c14b0 : decide ((wrap64 ((wrap64 (Int.tdiv (wrap64 (x6_1 - x5_1)) t179)) * t180)) < (wrap64 (x6_1 - x5_1))) = false := decide_eq_false c14
                clear c14
                (first | rw [c14b0] | (simp only [i64_w, i32_w]; rw [c14b0]) | skip)
                have H' := Aside0.mk H
                clear H
                go_wp2
                repeat (go_quiet (fail); try go_wp2)
                go_meet
                case rel => exact ⟨_, (wrap64 (Int.tdiv (wrap64 (x6_1 - x5_1)) t179)), (by first | rfl | (simp; done) | (simp [*]; done)), H', ⟨by have := HK1.out; first | omega | exact Nat.le_refl _⟩, ⟨by (with_reducible repeat (first | refine blk_drewN ?_ _ | refine blk_drew ?_ | refine blk_alloc ?_ _)); exact BK170.out⟩, ⟨by repeat (first | (with_reducible first | exact HB.out | apply below_alloc | apply pw_below_drewN | apply below_drew1 | refine below_set ?_ GE170.out) | exact HB.out)⟩⟩
            case rest =>
              clear HC13
              try clear c1
              try clear p1
              try clear q1
              try clear hx1
              try clear qi1
              try clear p2
              try clear c3
              try clear c3b0
              try clear c3b1
              try clear c5
              try clear c5b0
              try clear c6
              try clear c6b0
              try clear p6
              try clear c7
              try clear c7b0
              try clear c8
              try clear c8b0
              try clear c9
              try clear c9b0
              try clear c11
              try clear c11b0
              try clear c11b1
              try clear c14
              try clear c14b0
              try clear hx171_0
              try clear hx172_0
              try clear hx173_0
              try clear hx174_0
              try clear hx175_0
              try clear hx176_0
              try clear hx177_0
              try clear hx178_0
              try clear p1
              try clear p171
              try clear p172
              try clear p173
              try clear p174
              try clear p175
              try clear p176
              try clear p177
              try clear p178
              try clear p2
              try clear q1
              try clear q171
              try clear q172
              try clear q173
              try clear q174
              try clear q175
              try clear q176
              try clear q177
              try clear q178
              obtain ⟨kq, x8_12, rfl, HA, HJ12, BK170, HB⟩ := hcut
              cases kq with
              | zero => exact absurd HA.out (by simp [credenzaref07_Of.j1])
              | succ kj12 =>
                have H := HA.out
                clear HA
                simp only [credenzaref07_Of.j1] at H
                have H' := Aside0.mk H
                clear H
                go_wp2_with (first | ((with_reducible refine gate_dst (N := 9) rfl ?_); refine box_event ?hg (N := 9) ?hd (cs := #[.int .i32 0, .int .u32 0, .slice none 0 0]) (t := 32) ?hr ?_; (case hd => rfl); (case hg => rfl); (case hr => first | (go_simp; done) | (go_simp; rfl)); intro gb181 hg w15 hbox hb; have n0_ := Aside0.mk (blk_below (g := gb170) (o := .cells #[.int .i32 0, .int .u32 0, .slice none 0 0] 32 (0, 0)) (by (with_reducible repeat (first | refine blk_drewN ?_ _ | refine blk_drew ?_ | refine blk_alloc ?_ _)); exact BK170.out) hb); have n1_ := Aside0.mk (below_step (by repeat (first | (with_reducible first | exact HB.out | apply below_alloc | apply pw_below_drewN | apply below_drew1 | refine below_set ?_ GE170.out) | exact HB.out)) hb); have n2_ := Aside0.mk (hbox); have n3_ := Aside0.mk ((by rw [hg]; exact (below_size (by repeat (first | (with_reducible first | exact HB.out | apply below_alloc | apply pw_below_drewN | apply below_drew1 | refine below_set ?_ GE170.out) | exact HB.out))) : w.heap.size ≤ gb181)); have n4_ := Aside0.mk ((by rw [hg]; exact (below_size (by repeat (first | (with_reducible first | exact HB.out | apply below_alloc | apply pw_below_drewN | apply below_drew1 | refine below_set ?_ GE170.out) | exact HB.out))) : w.heap.size ≤ gb181)); have n5_ := Aside0.mk ((by rw [hg]; exact Nat.ne_of_lt (blk_lt (g := gb170) (o := .cells #[.int .i32 0, .int .u32 0, .slice none 0 0] 32 (0, 0)) (by (with_reducible repeat (first | refine blk_drewN ?_ _ | refine blk_drew ?_ | refine blk_alloc ?_ _)); exact BK170.out)) : gb170 ≠ gb181)); have n6_ := Aside0.mk ((by rw [hg]; exact Nat.ne_of_gt (blk_lt (g := gb170) (o := .cells #[.int .i32 0, .int .u32 0, .slice none 0 0] 32 (0, 0)) (by (with_reducible repeat (first | refine blk_drewN ?_ _ | refine blk_drew ?_ | refine blk_alloc ?_ _)); exact BK170.out)) : gb181 ≠ gb170)); clear BK170; clear HB; have BK170 := n0_; have HB := n1_; have BK181 := n2_; have GW181 := n3_; have GE181 := n4_; have NB170_181 := n5_; have NB181_170 := n6_; clear n0_ n1_ n2_ n3_ n4_ n5_ n6_; clear hb hbox hg; have hnb16 := NB181_170.out; have hnc16 := NB170_181.out; have hcz17_0 : w15.cell? ⟨gb181, 0, none⟩ = some (.int .i32 0) := (blk_cell BK181.out 0).trans rfl; have hcz17_1 : w15.cell? ⟨gb181, 1, none⟩ = some (.int .u32 0) := (blk_cell BK181.out 1).trans rfl; have hcz17_2 : w15.cell? ⟨gb181, 2, none⟩ = some (.slice none 0 0) := (blk_cell BK181.out 2).trans rfl; have hfz17_0 := blk_frozen BK181.out 0; have hfz17_1 := blk_frozen BK181.out 1; have hfz17_2 := blk_frozen BK181.out 2))
                repeat (go_quiet (first | ((with_reducible refine gate_dst (N := 9) rfl ?_); refine box_event ?hg (N := 9) ?hd (cs := #[.int .i32 0, .int .u32 0, .slice none 0 0]) (t := 32) ?hr ?_; (case hd => rfl); (case hg => rfl); (case hr => first | (go_simp; done) | (go_simp; rfl)); intro gb181 hg w15 hbox hb; have n0_ := Aside0.mk (blk_below (g := gb170) (o := .cells #[.int .i32 0, .int .u32 0, .slice none 0 0] 32 (0, 0)) (by (with_reducible repeat (first | refine blk_drewN ?_ _ | refine blk_drew ?_ | refine blk_alloc ?_ _)); exact BK170.out) hb); have n1_ := Aside0.mk (below_step (by repeat (first | (with_reducible first | exact HB.out | apply below_alloc | apply pw_below_drewN | apply below_drew1 | refine below_set ?_ GE170.out) | exact HB.out)) hb); have n2_ := Aside0.mk (hbox); have n3_ := Aside0.mk ((by rw [hg]; exact (below_size (by repeat (first | (with_reducible first | exact HB.out | apply below_alloc | apply pw_below_drewN | apply below_drew1 | refine below_set ?_ GE170.out) | exact HB.out))) : w.heap.size ≤ gb181)); have n4_ := Aside0.mk ((by rw [hg]; exact (below_size (by repeat (first | (with_reducible first | exact HB.out | apply below_alloc | apply pw_below_drewN | apply below_drew1 | refine below_set ?_ GE170.out) | exact HB.out))) : w.heap.size ≤ gb181)); have n5_ := Aside0.mk ((by rw [hg]; exact Nat.ne_of_lt (blk_lt (g := gb170) (o := .cells #[.int .i32 0, .int .u32 0, .slice none 0 0] 32 (0, 0)) (by (with_reducible repeat (first | refine blk_drewN ?_ _ | refine blk_drew ?_ | refine blk_alloc ?_ _)); exact BK170.out)) : gb170 ≠ gb181)); have n6_ := Aside0.mk ((by rw [hg]; exact Nat.ne_of_gt (blk_lt (g := gb170) (o := .cells #[.int .i32 0, .int .u32 0, .slice none 0 0] 32 (0, 0)) (by (with_reducible repeat (first | refine blk_drewN ?_ _ | refine blk_drew ?_ | refine blk_alloc ?_ _)); exact BK170.out)) : gb181 ≠ gb170)); clear BK170; clear HB; have BK170 := n0_; have HB := n1_; have BK181 := n2_; have GW181 := n3_; have GE181 := n4_; have NB170_181 := n5_; have NB181_170 := n6_; clear n0_ n1_ n2_ n3_ n4_ n5_ n6_; clear hb hbox hg; have hnb16 := NB181_170.out; have hnc16 := NB170_181.out; have hcz17_0 : w15.cell? ⟨gb181, 0, none⟩ = some (.int .i32 0) := (blk_cell BK181.out 0).trans rfl; have hcz17_1 : w15.cell? ⟨gb181, 1, none⟩ = some (.int .u32 0) := (blk_cell BK181.out 1).trans rfl; have hcz17_2 : w15.cell? ⟨gb181, 2, none⟩ = some (.slice none 0 0) := (blk_cell BK181.out 2).trans rfl; have hfz17_0 := blk_frozen BK181.out 0; have hfz17_1 := blk_frozen BK181.out 1; have hfz17_2 := blk_frozen BK181.out 2)); try go_wp2_with (first | ((with_reducible refine gate_dst (N := 9) rfl ?_); refine box_event ?hg (N := 9) ?hd (cs := #[.int .i32 0, .int .u32 0, .slice none 0 0]) (t := 32) ?hr ?_; (case hd => rfl); (case hg => rfl); (case hr => first | (go_simp; done) | (go_simp; rfl)); intro gb181 hg w15 hbox hb; have n0_ := Aside0.mk (blk_below (g := gb170) (o := .cells #[.int .i32 0, .int .u32 0, .slice none 0 0] 32 (0, 0)) (by (with_reducible repeat (first | refine blk_drewN ?_ _ | refine blk_drew ?_ | refine blk_alloc ?_ _)); exact BK170.out) hb); have n1_ := Aside0.mk (below_step (by repeat (first | (with_reducible first | exact HB.out | apply below_alloc | apply pw_below_drewN | apply below_drew1 | refine below_set ?_ GE170.out) | exact HB.out)) hb); have n2_ := Aside0.mk (hbox); have n3_ := Aside0.mk ((by rw [hg]; exact (below_size (by repeat (first | (with_reducible first | exact HB.out | apply below_alloc | apply pw_below_drewN | apply below_drew1 | refine below_set ?_ GE170.out) | exact HB.out))) : w.heap.size ≤ gb181)); have n4_ := Aside0.mk ((by rw [hg]; exact (below_size (by repeat (first | (with_reducible first | exact HB.out | apply below_alloc | apply pw_below_drewN | apply below_drew1 | refine below_set ?_ GE170.out) | exact HB.out))) : w.heap.size ≤ gb181)); have n5_ := Aside0.mk ((by rw [hg]; exact Nat.ne_of_lt (blk_lt (g := gb170) (o := .cells #[.int .i32 0, .int .u32 0, .slice none 0 0] 32 (0, 0)) (by (with_reducible repeat (first | refine blk_drewN ?_ _ | refine blk_drew ?_ | refine blk_alloc ?_ _)); exact BK170.out)) : gb170 ≠ gb181)); have n6_ := Aside0.mk ((by rw [hg]; exact Nat.ne_of_gt (blk_lt (g := gb170) (o := .cells #[.int .i32 0, .int .u32 0, .slice none 0 0] 32 (0, 0)) (by (with_reducible repeat (first | refine blk_drewN ?_ _ | refine blk_drew ?_ | refine blk_alloc ?_ _)); exact BK170.out)) : gb181 ≠ gb170)); clear BK170; clear HB; have BK170 := n0_; have HB := n1_; have BK181 := n2_; have GW181 := n3_; have GE181 := n4_; have NB170_181 := n5_; have NB181_170 := n6_; clear n0_ n1_ n2_ n3_ n4_ n5_ n6_; clear hb hbox hg; have hnb16 := NB181_170.out; have hnc16 := NB170_181.out; have hcz17_0 : w15.cell? ⟨gb181, 0, none⟩ = some (.int .i32 0) := (blk_cell BK181.out 0).trans rfl; have hcz17_1 : w15.cell? ⟨gb181, 1, none⟩ = some (.int .u32 0) := (blk_cell BK181.out 1).trans rfl; have hcz17_2 : w15.cell? ⟨gb181, 2, none⟩ = some (.slice none 0 0) := (blk_cell BK181.out 2).trans rfl; have hfz17_0 := blk_frozen BK181.out 0; have hfz17_1 := blk_frozen BK181.out 1; have hfz17_2 := blk_frozen BK181.out 2)))
                go_loopg [10] kj12 (fun kq v10 w' => ∃ (x10_3 : Int) (x182002_3 : List Int) (u182002 : Value), v10 = .int .i64 x10_3 ∧ Aside0 (credenzaref07_Of.l1 kq l0 x5_1 x8_12 x10_3 (wrap32 (x5_1)) ((x8_12) % 4294967296) x182002_3 = some (r1, r2, r3)) ∧ Aside0 (kq ≤ kj12) ∧ Aside0 (Kd.R (Kd.int .i64) 3 w' w.heap.size (fun _ => True) u182002 x182002_3) ∧ Aside0 (w'.heap[gb170]? = some (.cells #[.int .i32 0, .int .u32 0, (.slice none 0 0)] 32 (0, 0))) ∧ Aside0 (w'.heap[gb181]? = some (.cells #[.int .i32 (wrap32 (x5_1)), .int .u32 ((x8_12) % 4294967296), u182002] 32 (0, 0))) ∧ Aside0 (Below w.heap.size w w'))
                case atStart => exact ⟨(0), (([] : List Int)), (.slice none 0 0), (by first | rfl | (simp; done) | (simp [*]; done)), H', ⟨Nat.le_refl _⟩, ⟨by first | exact Kd.R_nil _ _ _ _ _ | exact Kd.N_nil _ _ _ _ _ | exact Kd.V_nil _ _ _ _ _ | exact Kd.Q_nil _ _ _ _ _ | exact Kd.S_nil _ _ _ _ _⟩, ⟨by (with_reducible repeat (first | refine blk_drewN ?_ _ | refine blk_drew ?_ | refine blk_alloc ?_ _)); refine blk_far ?_ NB170_181.out _; (with_reducible repeat (first | refine blk_drewN ?_ _ | refine blk_drew ?_ | refine blk_alloc ?_ _)); refine blk_far ?_ NB170_181.out _; (with_reducible repeat (first | refine blk_drewN ?_ _ | refine blk_drew ?_ | refine blk_alloc ?_ _)); refine blk_far ?_ NB170_181.out _; (with_reducible repeat (first | refine blk_drewN ?_ _ | refine blk_drew ?_ | refine blk_alloc ?_ _)); exact BK170.out⟩, ⟨by (with_reducible repeat (first | refine blk_drewN ?_ _ | refine blk_drew ?_ | refine blk_alloc ?_ _)); refine blk_put (cs := #[.int .i32 (wrap32 (x5_1)), .int .u32 ((x8_12) % 4294967296), .slice none 0 0]) ?_ 2 _ rfl; (with_reducible repeat (first | refine blk_drewN ?_ _ | refine blk_drew ?_ | refine blk_alloc ?_ _)); refine blk_put (cs := #[.int .i32 (wrap32 (x5_1)), .int .u32 0, .slice none 0 0]) ?_ 1 _ rfl; (with_reducible repeat (first | refine blk_drewN ?_ _ | refine blk_drew ?_ | refine blk_alloc ?_ _)); refine blk_put (cs := #[.int .i32 0, .int .u32 0, .slice none 0 0]) ?_ 0 _ rfl; (with_reducible repeat (first | refine blk_drewN ?_ _ | refine blk_drew ?_ | refine blk_alloc ?_ _)); exact BK181.out⟩, ⟨by repeat (first | (with_reducible first | exact HB.out | apply below_alloc | apply pw_below_drewN | apply below_drew1 | refine below_set ?_ GE170.out | refine below_set ?_ GE181.out) | exact HB.out)⟩⟩
                case round =>
                  clear H'
                  try clear c1
                  try clear p1
                  try clear q1
                  try clear hx1
                  try clear qi1
                  try clear p2
                  try clear c3
                  try clear c3b0
                  try clear c3b1
                  try clear p3
                  try clear c5
                  try clear c5b0
                  try clear c6
                  try clear c6b0
                  try clear p6
                  try clear c7
                  try clear c7b0
                  try clear c8
                  try clear c8b0
                  try clear c9
                  try clear c9b0
                  try clear c11
                  try clear c11b0
                  try clear c11b1
                  try clear c14
                  try clear c14b0
                  try clear c16
                  try clear c17
                  try clear p17
                  try clear q17
                  try clear hx17
                  try clear qi17
                  try clear hcz17_0
                  try clear hcz17_1
                  try clear hcz17_2
                  try clear hfz17_0
                  try clear hfz17_1
                  try clear hfz17_2
                  try clear hx171_0
                  try clear hx172_0
                  try clear hx173_0
                  try clear hx174_0
                  try clear hx175_0
                  try clear hx176_0
                  try clear hx177_0
                  try clear hx178_0
                  try clear p1
                  try clear p171
                  try clear p172
                  try clear p173
                  try clear p174
                  try clear p175
                  try clear p176
                  try clear p177
                  try clear p178
                  try clear p2
                  try clear p6
                  try clear q1
                  try clear q171
                  try clear q172
                  try clear q173
                  try clear q174
                  try clear q175
                  try clear q176
                  try clear q177
                  try clear q178
                  obtain ⟨x10_3, x182002_3, u182002, rfl, HA, HK3, HO_182002, BK170, BK181, HB⟩ := hrel
                  cases gk with
                  | zero => exact absurd HA.out (by simp [credenzaref07_Of.l1])
                  | succ k3 =>
                    have H := HA.out
                    clear HA
                    simp only [credenzaref07_Of.l1] at H
                    by_cases c18 : x10_3 < (l0.length : Int)
                    · rw [if_pos c18] at H
                      have c18b0 : decide (x10_3 < (l0.length : Int)) = true := decide_eq_true c18
                      clear c18
                      by_cases c19 : x8_12 > 0
                      · rw [if_pos c19] at H
                        have c19b0 : decide (0 < x8_12) = true := decide_eq_true c19
                        clear c19
                        by_cases c20 : 0 ≤ x10_3
                        · rw [if_pos c20] at H
                          have c20b0 : decide (0 ≤ x10_3) = true := decide_eq_true c20
                          clear c20
                          replace H := Option.bind_eq_some_iff.mp H
                          obtain ⟨t183, A210, H⟩ := H
                          replace H : (if x182002_3.length < 17592186044416 then (credenzaref07_Of.l1 k3 l0 x5_1 x8_12 (wrap64 (x10_3 + 1)) (wrap32 (x5_1)) ((x8_12) % 4294967296) (x182002_3 ++ [t183])) else (none)) = some (r1, r2, r3) := H
                          have A21 := Aside0.mk A210
                          clear A210
                          by_cases c22 : x182002_3.length < 17592186044416
                          · rw [if_pos c22] at H
                            have LMc22 := Aside0.mk c22
                            clear c22
                            obtain ⟨y184, hy184⟩ : ∃ y_ : List Int, y_ = (x182002_3 ++ [t183]) := ⟨_, rfl⟩
                            replace H : (credenzaref07_Of.l1 k3 l0 x5_1 x8_12 (wrap64 (x10_3 + 1)) (wrap32 (x5_1)) ((x8_12) % 4294967296) y184) = some (r1, r2, r3) := by first | (rw [hy184]; with_reducible exact H) | (have H2_ := (Option.bind_some _ _).symm.trans H; rw [hy184]; with_reducible exact H2_) | (have H2_ := (Option.bind_some _ _).symm.trans H; with_reducible exact H2_) | with_reducible exact H | (rw [hy184]; exact H) | exact H
                            have Ny184 := Aside0.mk hy184
                            clear hy184
                            have H' := Aside0.mk H
                            clear H
                            have p182 : 0 ≤ (x10_3 : Int) := of_decide_eq_true (by first | (with_reducible assumption) | assumption)
                            have q182 : x10_3 < (l0.length : Int) := of_decide_eq_true (by first | (with_reducible assumption) | assumption)
                            obtain ⟨ad182, e182, hx182_0⟩ := Kd.at_int HR0.out x10_3 p182 q182
                            obtain rfl : ad171 = ad182 := (by injection e182)
                            replace hx182_0 := (HB.out.cell (World.block_lt_of_cell? w _ hx182_0)).trans hx182_0
                            replace p182 := eq_true p182
                            replace q182 := eq_true q182
                            go_wp2_with (first | (go_at_call 46; (with_reducible refine (credenzaref01_Ratio.calls (wrap64 ((wrap64 (rd l0 x10_3)) - x5_1)) x8_12 t183 _ A21.out).mono ?_); rintro e w' ⟨rfl, ⟨nd, rfl⟩⟩; (try first | exact ⟨rfl, _, World.drewN_drewN _ _ _⟩ | exact ⟨rfl, _, Eq.trans (World.drewN_drewN _ _ _) (congrArg (World.drewN _) (Nat.add_assoc _ _ _))⟩); have hnb23 := NB181_170.out; have hnc23 := NB170_181.out; have hcz24_0 : wr.cell? ⟨gb181, 0, none⟩ = some (.int .i32 (wrap32 (x5_1))) := (blk_cell BK181.out 0).trans rfl; have hcz24_1 : wr.cell? ⟨gb181, 1, none⟩ = some (.int .u32 ((x8_12) % 4294967296)) := (blk_cell BK181.out 1).trans rfl; have hcz24_2 : wr.cell? ⟨gb181, 2, none⟩ = some (u182002) := (blk_cell BK181.out 2).trans rfl; have hfz24_0 := blk_frozen BK181.out 0; have hfz24_1 := blk_frozen BK181.out 1; have hfz24_2 := blk_frozen BK181.out 2) | ((with_reducible refine gate_builtin (b := .append) (xs := #[.tmp 89, .tmp 91]) rfl ?_); at_builtin; refine Kd.R_append (Kd.int .i64) (w0 := w) w.heap.size rfl (.tmp 89) (.tmp 91) 25 3 (.int .i64 0) 8 rfl Try.underlying25 info3 rfl (by decide) (by omega) u182002 x182002_3 t183 [.int .i64 t183] (fun _ => True) (fun _ => False) rfl rfl ?aP (fun _ hk => hk.elim) ?aF ?aO ?aB ?aS ?aL ?_; (case aP => exact rfl); (case aB => exact (by repeat (first | (with_reducible first | exact HB.out | apply below_alloc | apply pw_below_drewN | apply below_drew1 | refine below_set ?_ GE170.out | refine below_set ?_ GE181.out) | exact HB.out))); (case aF => exact (fun _ _ => trivial)); (case aO => exact (by (with_reducible repeat (first | apply Kd.R_alloc | apply Kd.R_drewN | apply Kd.R_drew)); exact HO_182002.out)); (case aS => exact (below_size (by repeat (first | (with_reducible first | exact HB.out | apply below_alloc | apply pw_below_drewN | apply below_drew1 | refine below_set ?_ GE170.out | refine below_set ?_ GE181.out) | exact HB.out)))); (case aL => have := LMc22.out; omega); intro v185 w25 ho hb hg hat; rw [← Ny184.out] at ho; have n0_ := Aside0.mk (blk_grown (g := gb170) (o := .cells #[.int .i32 0, .int .u32 0, .slice none 0 0] 32 (0, 0)) (by (with_reducible repeat (first | refine blk_drewN ?_ _ | refine blk_drew ?_ | refine blk_alloc ?_ _)); exact BK170.out) hg (Kd.R_ne HO_182002.out BK170.out (by decide))); have n1_ := Aside0.mk (blk_grown (g := gb181) (o := .cells #[.int .i32 (wrap32 (x5_1)), .int .u32 ((x8_12) % 4294967296), u182002] 32 (0, 0)) (by (with_reducible repeat (first | refine blk_drewN ?_ _ | refine blk_drew ?_ | refine blk_alloc ?_ _)); exact BK181.out) hg (Kd.R_ne HO_182002.out BK181.out (by decide))); have n2_ := Aside0.mk (hb); have n3_ := Aside0.mk (ho); clear BK170; clear BK181; clear HB; clear HO_182002; have BK170 := n0_; have BK181 := n1_; have HB := n2_; have HO186 := n3_; clear n0_ n1_ n2_ n3_; clear ho hb hg hat; obtain ⟨Ao26, co26, eo26⟩ := Kd.R_slice HO186.out; subst eo26; have hcz27_0 : w25.cell? ⟨gb181, 0, none⟩ = some (.int .i32 (wrap32 (x5_1))) := (blk_cell BK181.out 0).trans rfl; have hcz27_1 : w25.cell? ⟨gb181, 1, none⟩ = some (.int .u32 ((x8_12) % 4294967296)) := (blk_cell BK181.out 1).trans rfl; have hcz27_2 : w25.cell? ⟨gb181, 2, none⟩ = some (u182002) := (blk_cell BK181.out 2).trans rfl; have hfz27_0 := blk_frozen BK181.out 0; have hfz27_1 := blk_frozen BK181.out 1; have hfz27_2 := blk_frozen BK181.out 2))
                            repeat (go_quiet (first | (go_at_call 46; (with_reducible refine (credenzaref01_Ratio.calls (wrap64 ((wrap64 (rd l0 x10_3)) - x5_1)) x8_12 t183 _ A21.out).mono ?_); rintro e w' ⟨rfl, ⟨nd, rfl⟩⟩; (try first | exact ⟨rfl, _, World.drewN_drewN _ _ _⟩ | exact ⟨rfl, _, Eq.trans (World.drewN_drewN _ _ _) (congrArg (World.drewN _) (Nat.add_assoc _ _ _))⟩); have hnb23 := NB181_170.out; have hnc23 := NB170_181.out; have hcz24_0 : wr.cell? ⟨gb181, 0, none⟩ = some (.int .i32 (wrap32 (x5_1))) := (blk_cell BK181.out 0).trans rfl; have hcz24_1 : wr.cell? ⟨gb181, 1, none⟩ = some (.int .u32 ((x8_12) % 4294967296)) := (blk_cell BK181.out 1).trans rfl; have hcz24_2 : wr.cell? ⟨gb181, 2, none⟩ = some (u182002) := (blk_cell BK181.out 2).trans rfl; have hfz24_0 := blk_frozen BK181.out 0; have hfz24_1 := blk_frozen BK181.out 1; have hfz24_2 := blk_frozen BK181.out 2) | ((with_reducible refine gate_builtin (b := .append) (xs := #[.tmp 89, .tmp 91]) rfl ?_); at_builtin; refine Kd.R_append (Kd.int .i64) (w0 := w) w.heap.size rfl (.tmp 89) (.tmp 91) 25 3 (.int .i64 0) 8 rfl Try.underlying25 info3 rfl (by decide) (by omega) u182002 x182002_3 t183 [.int .i64 t183] (fun _ => True) (fun _ => False) rfl rfl ?aP (fun _ hk => hk.elim) ?aF ?aO ?aB ?aS ?aL ?_; (case aP => exact rfl); (case aB => exact (by repeat (first | (with_reducible first | exact HB.out | apply below_alloc | apply pw_below_drewN | apply below_drew1 | refine below_set ?_ GE170.out | refine below_set ?_ GE181.out) | exact HB.out))); (case aF => exact (fun _ _ => trivial)); (case aO => exact (by (with_reducible repeat (first | apply Kd.R_alloc | apply Kd.R_drewN | apply Kd.R_drew)); exact HO_182002.out)); (case aS => exact (below_size (by repeat (first | (with_reducible first | exact HB.out | apply below_alloc | apply pw_below_drewN | apply below_drew1 | refine below_set ?_ GE170.out | refine below_set ?_ GE181.out) | exact HB.out)))); (case aL => have := LMc22.out; omega); intro v185 w25 ho hb hg hat; rw [← Ny184.out] at ho; have n0_ := Aside0.mk (blk_grown (g := gb170) (o := .cells #[.int .i32 0, .int .u32 0, .slice none 0 0] 32 (0, 0)) (by (with_reducible repeat (first | refine blk_drewN ?_ _ | refine blk_drew ?_ | refine blk_alloc ?_ _)); exact BK170.out) hg (Kd.R_ne HO_182002.out BK170.out (by decide))); have n1_ := Aside0.mk (blk_grown (g := gb181) (o := .cells #[.int .i32 (wrap32 (x5_1)), .int .u32 ((x8_12) % 4294967296), u182002] 32 (0, 0)) (by (with_reducible repeat (first | refine blk_drewN ?_ _ | refine blk_drew ?_ | refine blk_alloc ?_ _)); exact BK181.out) hg (Kd.R_ne HO_182002.out BK181.out (by decide))); have n2_ := Aside0.mk (hb); have n3_ := Aside0.mk (ho); clear BK170; clear BK181; clear HB; clear HO_182002; have BK170 := n0_; have BK181 := n1_; have HB := n2_; have HO186 := n3_; clear n0_ n1_ n2_ n3_; clear ho hb hg hat; obtain ⟨Ao26, co26, eo26⟩ := Kd.R_slice HO186.out; subst eo26; have hcz27_0 : w25.cell? ⟨gb181, 0, none⟩ = some (.int .i32 (wrap32 (x5_1))) := (blk_cell BK181.out 0).trans rfl; have hcz27_1 : w25.cell? ⟨gb181, 1, none⟩ = some (.int .u32 ((x8_12) % 4294967296)) := (blk_cell BK181.out 1).trans rfl; have hcz27_2 : w25.cell? ⟨gb181, 2, none⟩ = some (u182002) := (blk_cell BK181.out 2).trans rfl; have hfz27_0 := blk_frozen BK181.out 0; have hfz27_1 := blk_frozen BK181.out 1; have hfz27_2 := blk_frozen BK181.out 2)); try go_wp2_with (first | (go_at_call 46; (with_reducible refine (credenzaref01_Ratio.calls (wrap64 ((wrap64 (rd l0 x10_3)) - x5_1)) x8_12 t183 _ A21.out).mono ?_); rintro e w' ⟨rfl, ⟨nd, rfl⟩⟩; (try first | exact ⟨rfl, _, World.drewN_drewN _ _ _⟩ | exact ⟨rfl, _, Eq.trans (World.drewN_drewN _ _ _) (congrArg (World.drewN _) (Nat.add_assoc _ _ _))⟩); have hnb23 := NB181_170.out; have hnc23 := NB170_181.out; have hcz24_0 : wr.cell? ⟨gb181, 0, none⟩ = some (.int .i32 (wrap32 (x5_1))) := (blk_cell BK181.out 0).trans rfl; have hcz24_1 : wr.cell? ⟨gb181, 1, none⟩ = some (.int .u32 ((x8_12) % 4294967296)) := (blk_cell BK181.out 1).trans rfl; have hcz24_2 : wr.cell? ⟨gb181, 2, none⟩ = some (u182002) := (blk_cell BK181.out 2).trans rfl; have hfz24_0 := blk_frozen BK181.out 0; have hfz24_1 := blk_frozen BK181.out 1; have hfz24_2 := blk_frozen BK181.out 2) | ((with_reducible refine gate_builtin (b := .append) (xs := #[.tmp 89, .tmp 91]) rfl ?_); at_builtin; refine Kd.R_append (Kd.int .i64) (w0 := w) w.heap.size rfl (.tmp 89) (.tmp 91) 25 3 (.int .i64 0) 8 rfl Try.underlying25 info3 rfl (by decide) (by omega) u182002 x182002_3 t183 [.int .i64 t183] (fun _ => True) (fun _ => False) rfl rfl ?aP (fun _ hk => hk.elim) ?aF ?aO ?aB ?aS ?aL ?_; (case aP => exact rfl); (case aB => exact (by repeat (first | (with_reducible first | exact HB.out | apply below_alloc | apply pw_below_drewN | apply below_drew1 | refine below_set ?_ GE170.out | refine below_set ?_ GE181.out) | exact HB.out))); (case aF => exact (fun _ _ => trivial)); (case aO => exact (by (with_reducible repeat (first | apply Kd.R_alloc | apply Kd.R_drewN | apply Kd.R_drew)); exact HO_182002.out)); (case aS => exact (below_size (by repeat (first | (with_reducible first | exact HB.out | apply below_alloc | apply pw_below_drewN | apply below_drew1 | refine below_set ?_ GE170.out | refine below_set ?_ GE181.out) | exact HB.out)))); (case aL => have := LMc22.out; omega); intro v185 w25 ho hb hg hat; rw [← Ny184.out] at ho; have n0_ := Aside0.mk (blk_grown (g := gb170) (o := .cells #[.int .i32 0, .int .u32 0, .slice none 0 0] 32 (0, 0)) (by (with_reducible repeat (first | refine blk_drewN ?_ _ | refine blk_drew ?_ | refine blk_alloc ?_ _)); exact BK170.out) hg (Kd.R_ne HO_182002.out BK170.out (by decide))); have n1_ := Aside0.mk (blk_grown (g := gb181) (o := .cells #[.int .i32 (wrap32 (x5_1)), .int .u32 ((x8_12) % 4294967296), u182002] 32 (0, 0)) (by (with_reducible repeat (first | refine blk_drewN ?_ _ | refine blk_drew ?_ | refine blk_alloc ?_ _)); exact BK181.out) hg (Kd.R_ne HO_182002.out BK181.out (by decide))); have n2_ := Aside0.mk (hb); have n3_ := Aside0.mk (ho); clear BK170; clear BK181; clear HB; clear HO_182002; have BK170 := n0_; have BK181 := n1_; have HB := n2_; have HO186 := n3_; clear n0_ n1_ n2_ n3_; clear ho hb hg hat; obtain ⟨Ao26, co26, eo26⟩ := Kd.R_slice HO186.out; subst eo26; have hcz27_0 : w25.cell? ⟨gb181, 0, none⟩ = some (.int .i32 (wrap32 (x5_1))) := (blk_cell BK181.out 0).trans rfl; have hcz27_1 : w25.cell? ⟨gb181, 1, none⟩ = some (.int .u32 ((x8_12) % 4294967296)) := (blk_cell BK181.out 1).trans rfl; have hcz27_2 : w25.cell? ⟨gb181, 2, none⟩ = some (u182002) := (blk_cell BK181.out 2).trans rfl; have hfz27_0 := blk_frozen BK181.out 0; have hfz27_1 := blk_frozen BK181.out 1; have hfz27_2 := blk_frozen BK181.out 2)))
                            go_roundg k3
                            case measure => have := HK1.out; have := HJ12.out; have := HK3.out; omega
                            case rel => exact ⟨(wrap64 (x10_3 + 1)), (y184), (.slice Ao26 y184.length co26), (by first | rfl | (simp; done) | (simp [*]; done)), H', ⟨by have := HK1.out; have := HJ12.out; have := HK3.out; omega⟩, ⟨by (with_reducible repeat (first | apply Kd.R_alloc | apply Kd.R_drewN | apply Kd.R_drew)); exact Kd.R_mono (Kd.R_far (p := ⟨gb181, 2, none⟩) (Kd.R_types HO186.out BK181.out (by decide)) (fun _ hk => hk.2) (.slice Ao26 y184.length co26)) (fun _ hk => trivial)⟩, ⟨by (with_reducible repeat (first | refine blk_drewN ?_ _ | refine blk_drew ?_ | refine blk_alloc ?_ _)); refine blk_far ?_ NB170_181.out _; (with_reducible repeat (first | refine blk_drewN ?_ _ | refine blk_drew ?_ | refine blk_alloc ?_ _)); exact BK170.out⟩, ⟨by (with_reducible repeat (first | refine blk_drewN ?_ _ | refine blk_drew ?_ | refine blk_alloc ?_ _)); refine blk_put (cs := #[.int .i32 (wrap32 (x5_1)), .int .u32 ((x8_12) % 4294967296), u182002]) ?_ 2 _ rfl; (with_reducible repeat (first | refine blk_drewN ?_ _ | refine blk_drew ?_ | refine blk_alloc ?_ _)); exact BK181.out⟩, ⟨by repeat (first | (with_reducible first | exact HB.out | apply below_alloc | apply pw_below_drewN | apply below_drew1 | refine below_set ?_ GE170.out | refine below_set ?_ GE181.out) | exact HB.out)⟩⟩
                          · rw [if_neg c22] at H
                            exact absurd H (by simp)
                        · rw [if_neg c20] at H
                          exact absurd H (by simp)
                      · rw [if_neg c19] at H
                        have c19b0 : decide (0 < x8_12) = false := decide_eq_false c19
                        clear c19
                        by_cases c28 : x182002_3.length < 17592186044416
                        · rw [if_pos c28] at H
                          have LMc28 := Aside0.mk c28
                          clear c28
                          obtain ⟨y187, hy187⟩ : ∃ y_ : List Int, y_ = (x182002_3 ++ [0]) := ⟨_, rfl⟩
                          replace H : (credenzaref07_Of.l1 k3 l0 x5_1 x8_12 (wrap64 (x10_3 + 1)) (wrap32 (x5_1)) ((x8_12) % 4294967296) y187) = some (r1, r2, r3) := by first | (rw [hy187]; with_reducible exact H) | (have H2_ := (Option.bind_some _ _).symm.trans H; rw [hy187]; with_reducible exact H2_) | (have H2_ := (Option.bind_some _ _).symm.trans H; with_reducible exact H2_) | with_reducible exact H | (rw [hy187]; exact H) | exact H
                          have Ny187 := Aside0.mk hy187
                          clear hy187
                          have H' := Aside0.mk H
                          clear H
                          have hnb29 := NB181_170.out
                          have hnc29 := NB170_181.out
                          have hcz30_0 : wr.cell? ⟨gb181, 0, none⟩ = some (.int .i32 (wrap32 (x5_1))) := (blk_cell BK181.out 0).trans rfl
                          have hcz30_1 : wr.cell? ⟨gb181, 1, none⟩ = some (.int .u32 ((x8_12) % 4294967296)) := (blk_cell BK181.out 1).trans rfl
                          have hcz30_2 : wr.cell? ⟨gb181, 2, none⟩ = some (u182002) := (blk_cell BK181.out 2).trans rfl
                          have hfz30_0 := blk_frozen BK181.out 0
                          have hfz30_1 := blk_frozen BK181.out 1
                          have hfz30_2 := blk_frozen BK181.out 2
                          go_wp2_with (first | ((with_reducible refine gate_builtin (b := .append) (xs := #[.tmp 89, .tmp 91]) rfl ?_); at_builtin; refine Kd.R_append (Kd.int .i64) (w0 := w) w.heap.size rfl (.tmp 89) (.tmp 91) 25 3 (.int .i64 0) 8 rfl Try.underlying25 info3 rfl (by decide) (by omega) u182002 x182002_3 0 [.int .i64 0] (fun _ => True) (fun _ => False) rfl rfl ?aP (fun _ hk => hk.elim) ?aF ?aO ?aB ?aS ?aL ?_; (case aP => exact rfl); (case aB => exact (by repeat (first | (with_reducible first | exact HB.out | apply below_alloc | apply pw_below_drewN | apply below_drew1 | refine below_set ?_ GE170.out | refine below_set ?_ GE181.out) | exact HB.out))); (case aF => exact (fun _ _ => trivial)); (case aO => exact (by (with_reducible repeat (first | apply Kd.R_alloc | apply Kd.R_drewN | apply Kd.R_drew)); exact HO_182002.out)); (case aS => exact (below_size (by repeat (first | (with_reducible first | exact HB.out | apply below_alloc | apply pw_below_drewN | apply below_drew1 | refine below_set ?_ GE170.out | refine below_set ?_ GE181.out) | exact HB.out)))); (case aL => have := LMc28.out; omega); intro v188 w31 ho hb hg hat; rw [← Ny187.out] at ho; have n0_ := Aside0.mk (blk_grown (g := gb170) (o := .cells #[.int .i32 0, .int .u32 0, .slice none 0 0] 32 (0, 0)) (by (with_reducible repeat (first | refine blk_drewN ?_ _ | refine blk_drew ?_ | refine blk_alloc ?_ _)); exact BK170.out) hg (Kd.R_ne HO_182002.out BK170.out (by decide))); have n1_ := Aside0.mk (blk_grown (g := gb181) (o := .cells #[.int .i32 (wrap32 (x5_1)), .int .u32 ((x8_12) % 4294967296), u182002] 32 (0, 0)) (by (with_reducible repeat (first | refine blk_drewN ?_ _ | refine blk_drew ?_ | refine blk_alloc ?_ _)); exact BK181.out) hg (Kd.R_ne HO_182002.out BK181.out (by decide))); have n2_ := Aside0.mk (hb); have n3_ := Aside0.mk (ho); clear BK170; clear BK181; clear HB; clear HO_182002; have BK170 := n0_; have BK181 := n1_; have HB := n2_; have HO189 := n3_; clear n0_ n1_ n2_ n3_; clear ho hb hg hat; obtain ⟨Ao32, co32, eo32⟩ := Kd.R_slice HO189.out; subst eo32; have hcz33_0 : w31.cell? ⟨gb181, 0, none⟩ = some (.int .i32 (wrap32 (x5_1))) := (blk_cell BK181.out 0).trans rfl; have hcz33_1 : w31.cell? ⟨gb181, 1, none⟩ = some (.int .u32 ((x8_12) % 4294967296)) := (blk_cell BK181.out 1).trans rfl; have hcz33_2 : w31.cell? ⟨gb181, 2, none⟩ = some (u182002) := (blk_cell BK181.out 2).trans rfl; have hfz33_0 := blk_frozen BK181.out 0; have hfz33_1 := blk_frozen BK181.out 1; have hfz33_2 := blk_frozen BK181.out 2))
                          repeat (go_quiet (first | ((with_reducible refine gate_builtin (b := .append) (xs := #[.tmp 89, .tmp 91]) rfl ?_); at_builtin; refine Kd.R_append (Kd.int .i64) (w0 := w) w.heap.size rfl (.tmp 89) (.tmp 91) 25 3 (.int .i64 0) 8 rfl Try.underlying25 info3 rfl (by decide) (by omega) u182002 x182002_3 0 [.int .i64 0] (fun _ => True) (fun _ => False) rfl rfl ?aP (fun _ hk => hk.elim) ?aF ?aO ?aB ?aS ?aL ?_; (case aP => exact rfl); (case aB => exact (by repeat (first | (with_reducible first | exact HB.out | apply below_alloc | apply pw_below_drewN | apply below_drew1 | refine below_set ?_ GE170.out | refine below_set ?_ GE181.out) | exact HB.out))); (case aF => exact (fun _ _ => trivial)); (case aO => exact (by (with_reducible repeat (first | apply Kd.R_alloc | apply Kd.R_drewN | apply Kd.R_drew)); exact HO_182002.out)); (case aS => exact (below_size (by repeat (first | (with_reducible first | exact HB.out | apply below_alloc | apply pw_below_drewN | apply below_drew1 | refine below_set ?_ GE170.out | refine below_set ?_ GE181.out) | exact HB.out)))); (case aL => have := LMc28.out; omega); intro v188 w31 ho hb hg hat; rw [← Ny187.out] at ho; have n0_ := Aside0.mk (blk_grown (g := gb170) (o := .cells #[.int .i32 0, .int .u32 0, .slice none 0 0] 32 (0, 0)) (by (with_reducible repeat (first | refine blk_drewN ?_ _ | refine blk_drew ?_ | refine blk_alloc ?_ _)); exact BK170.out) hg (Kd.R_ne HO_182002.out BK170.out (by decide))); have n1_ := Aside0.mk (blk_grown (g := gb181) (o := .cells #[.int .i32 (wrap32 (x5_1)), .int .u32 ((x8_12) % 4294967296), u182002] 32 (0, 0)) (by (with_reducible repeat (first | refine blk_drewN ?_ _ | refine blk_drew ?_ | refine blk_alloc ?_ _)); exact BK181.out) hg (Kd.R_ne HO_182002.out BK181.out (by decide))); have n2_ := Aside0.mk (hb); have n3_ := Aside0.mk (ho); clear BK170; clear BK181; clear HB; clear HO_182002; have BK170 := n0_; have BK181 := n1_; have HB := n2_; have HO189 := n3_; clear n0_ n1_ n2_ n3_; clear ho hb hg hat; obtain ⟨Ao32, co32, eo32⟩ := Kd.R_slice HO189.out; subst eo32; have hcz33_0 : w31.cell? ⟨gb181, 0, none⟩ = some (.int .i32 (wrap32 (x5_1))) := (blk_cell BK181.out 0).trans rfl; have hcz33_1 : w31.cell? ⟨gb181, 1, none⟩ = some (.int .u32 ((x8_12) % 4294967296)) := (blk_cell BK181.out 1).trans rfl; have hcz33_2 : w31.cell? ⟨gb181, 2, none⟩ = some (u182002) := (blk_cell BK181.out 2).trans rfl; have hfz33_0 := blk_frozen BK181.out 0; have hfz33_1 := blk_frozen BK181.out 1; have hfz33_2 := blk_frozen BK181.out 2)); try go_wp2_with (first | ((with_reducible refine gate_builtin (b := .append) (xs := #[.tmp 89, .tmp 91]) rfl ?_); at_builtin; refine Kd.R_append (Kd.int .i64) (w0 := w) w.heap.size rfl (.tmp 89) (.tmp 91) 25 3 (.int .i64 0) 8 rfl Try.underlying25 info3 rfl (by decide) (by omega) u182002 x182002_3 0 [.int .i64 0] (fun _ => True) (fun _ => False) rfl rfl ?aP (fun _ hk => hk.elim) ?aF ?aO ?aB ?aS ?aL ?_; (case aP => exact rfl); (case aB => exact (by repeat (first | (with_reducible first | exact HB.out | apply below_alloc | apply pw_below_drewN | apply below_drew1 | refine below_set ?_ GE170.out | refine below_set ?_ GE181.out) | exact HB.out))); (case aF => exact (fun _ _ => trivial)); (case aO => exact (by (with_reducible repeat (first | apply Kd.R_alloc | apply Kd.R_drewN | apply Kd.R_drew)); exact HO_182002.out)); (case aS => exact (below_size (by repeat (first | (with_reducible first | exact HB.out | apply below_alloc | apply pw_below_drewN | apply below_drew1 | refine below_set ?_ GE170.out | refine below_set ?_ GE181.out) | exact HB.out)))); (case aL => have := LMc28.out; omega); intro v188 w31 ho hb hg hat; rw [← Ny187.out] at ho; have n0_ := Aside0.mk (blk_grown (g := gb170) (o := .cells #[.int .i32 0, .int .u32 0, .slice none 0 0] 32 (0, 0)) (by (with_reducible repeat (first | refine blk_drewN ?_ _ | refine blk_drew ?_ | refine blk_alloc ?_ _)); exact BK170.out) hg (Kd.R_ne HO_182002.out BK170.out (by decide))); have n1_ := Aside0.mk (blk_grown (g := gb181) (o := .cells #[.int .i32 (wrap32 (x5_1)), .int .u32 ((x8_12) % 4294967296), u182002] 32 (0, 0)) (by (with_reducible repeat (first | refine blk_drewN ?_ _ | refine blk_drew ?_ | refine blk_alloc ?_ _)); exact BK181.out) hg (Kd.R_ne HO_182002.out BK181.out (by decide))); have n2_ := Aside0.mk (hb); have n3_ := Aside0.mk (ho); clear BK170; clear BK181; clear HB; clear HO_182002; have BK170 := n0_; have BK181 := n1_; have HB := n2_; have HO189 := n3_; clear n0_ n1_ n2_ n3_; clear ho hb hg hat; obtain ⟨Ao32, co32, eo32⟩ := Kd.R_slice HO189.out; subst eo32; have hcz33_0 : w31.cell? ⟨gb181, 0, none⟩ = some (.int .i32 (wrap32 (x5_1))) := (blk_cell BK181.out 0).trans rfl; have hcz33_1 : w31.cell? ⟨gb181, 1, none⟩ = some (.int .u32 ((x8_12) % 4294967296)) := (blk_cell BK181.out 1).trans rfl; have hcz33_2 : w31.cell? ⟨gb181, 2, none⟩ = some (u182002) := (blk_cell BK181.out 2).trans rfl; have hfz33_0 := blk_frozen BK181.out 0; have hfz33_1 := blk_frozen BK181.out 1; have hfz33_2 := blk_frozen BK181.out 2)))
                          go_roundg k3
                          case measure => have := HK1.out; have := HJ12.out; have := HK3.out; omega
                          case rel => exact ⟨(wrap64 (x10_3 + 1)), (y187), (.slice Ao32 y187.length co32), (by first | rfl | (simp; done) | (simp [*]; done)), H', ⟨by have := HK1.out; have := HJ12.out; have := HK3.out; omega⟩, ⟨by (with_reducible repeat (first | apply Kd.R_alloc | apply Kd.R_drewN | apply Kd.R_drew)); exact Kd.R_mono (Kd.R_far (p := ⟨gb181, 2, none⟩) (Kd.R_types HO189.out BK181.out (by decide)) (fun _ hk => hk.2) (.slice Ao32 y187.length co32)) (fun _ hk => trivial)⟩, ⟨by (with_reducible repeat (first | refine blk_drewN ?_ _ | refine blk_drew ?_ | refine blk_alloc ?_ _)); refine blk_far ?_ NB170_181.out _; (with_reducible repeat (first | refine blk_drewN ?_ _ | refine blk_drew ?_ | refine blk_alloc ?_ _)); exact BK170.out⟩, ⟨by (with_reducible repeat (first | refine blk_drewN ?_ _ | refine blk_drew ?_ | refine blk_alloc ?_ _)); refine blk_put (cs := #[.int .i32 (wrap32 (x5_1)), .int .u32 ((x8_12) % 4294967296), u182002]) ?_ 2 _ rfl; (with_reducible repeat (first | refine blk_drewN ?_ _ | refine blk_drew ?_ | refine blk_alloc ?_ _)); exact BK181.out⟩, ⟨by repeat (first | (with_reducible first | exact HB.out | apply below_alloc | apply pw_below_drewN | apply below_drew1 | refine below_set ?_ GE170.out | refine below_set ?_ GE181.out) | exact HB.out)⟩⟩
                        · rw [if_neg c28] at H
                          exact absurd H (by simp)
                    · rw [if_neg c18] at H
                      have c18b0 : decide (x10_3 < (l0.length : Int)) = false := decide_eq_false c18
                      clear c18
                      simp only [Option.some.injEq, Prod.mk.injEq] at H
                      obtain ⟨rfl, rfl, rfl⟩ := H
                      have hnb34 := NB181_170.out
                      have hnc34 := NB170_181.out
                      have hcz35_0 : wr.cell? ⟨gb181, 0, none⟩ = some (.int .i32 (wrap32 (x5_1))) := (blk_cell BK181.out 0).trans rfl
                      have hcz35_1 : wr.cell? ⟨gb181, 1, none⟩ = some (.int .u32 ((x8_12) % 4294967296)) := (blk_cell BK181.out 1).trans rfl
                      have hcz35_2 : wr.cell? ⟨gb181, 2, none⟩ = some (u182002) := (blk_cell BK181.out 2).trans rfl
                      have hfz35_0 := blk_frozen BK181.out 0
                      have hfz35_1 := blk_frozen BK181.out 1
                      have hfz35_2 := blk_frozen BK181.out 2
                      have hcz36_0 : wr.cell? ⟨gb170, 0, none⟩ = some (.int .i32 0) := (blk_cell BK170.out 0).trans rfl
                      have hcz36_1 : wr.cell? ⟨gb170, 1, none⟩ = some (.int .u32 0) := (blk_cell BK170.out 1).trans rfl
                      have hcz36_2 : wr.cell? ⟨gb170, 2, none⟩ = some (.slice none 0 0) := (blk_cell BK170.out 2).trans rfl
                      have hfz36_0 := blk_frozen BK170.out 0
                      have hfz36_1 := blk_frozen BK170.out 1
                      have hfz36_2 := blk_frozen BK170.out 2
                      obtain ⟨Ao37, co37, eo37⟩ := Kd.R_slice HO_182002.out
                      subst eo37
                      go_wp2
                      repeat (go_quiet (fail); try go_wp2)
                      refine bodyPost_ret (results_cell_row rfl _ _ gb170 32 #[.int .i32 (wrap32 (x5_1)), .int .u32 ((x8_12) % 4294967296), .slice Ao37 x182002_3.length co37] (0, 0) _ rfl (by (with_reducible repeat (first | refine blk_drewN ?_ _ | refine blk_drew ?_ | refine blk_alloc ?_ _)); refine blk_put (cs := #[.int .i32 (wrap32 (x5_1)), .int .u32 ((x8_12) % 4294967296), .slice none 0 0]) ?_ 2 _ rfl; (with_reducible repeat (first | refine blk_drewN ?_ _ | refine blk_drew ?_ | refine blk_alloc ?_ _)); refine blk_put (cs := #[.int .i32 (wrap32 (x5_1)), .int .u32 0, .slice none 0 0]) ?_ 1 _ rfl; (with_reducible repeat (first | refine blk_drewN ?_ _ | refine blk_drew ?_ | refine blk_alloc ?_ _)); refine blk_put (cs := #[.int .i32 0, .int .u32 0, .slice none 0 0]) ?_ 0 _ rfl; (with_reducible repeat (first | refine blk_drewN ?_ _ | refine blk_drew ?_ | refine blk_alloc ?_ _)); exact BK170.out) Try.underlying32 rfl (by kernel_rfl)) rfl ?_
                      exact ⟨_, by first | rfl | (simp [errW_none, errW_some] <;> rfl) | (simp [*, errW_none, errW_some] <;> rfl), by (with_reducible repeat (first | apply Kd.R_alloc | apply Kd.R_drewN | apply Kd.R_drew)); exact Kd.R_mono (Kd.R_far (p := ⟨gb170, 2, none⟩) (Kd.R_far (p := ⟨gb170, 1, none⟩) (Kd.R_far (p := ⟨gb170, 0, none⟩) (Kd.R_types HO_182002.out BK170.out (by decide)) (fun _ hk => hk.2) (.int .i32 (wrap32 (x5_1)))) (fun _ hk => hk.2) (.int .u32 ((x8_12) % 4294967296))) (fun _ hk => hk.2) (.slice Ao37 x182002_3.length co37)) (fun _ hk => trivial), by repeat (first | (with_reducible first | exact HB.out | apply below_alloc | apply pw_below_drewN | apply below_drew1 | refine below_set ?_ GE170.out | refine below_set ?_ GE181.out) | exact HB.out)⟩
  · rw [if_neg c3] at H
    exact absurd H (by simp)

end Go.Proofs.Ytggoddiiglkpiaa.PGroupOf
