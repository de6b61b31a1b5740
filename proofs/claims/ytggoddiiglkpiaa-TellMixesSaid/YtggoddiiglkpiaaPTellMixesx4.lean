-- Written by a program of this session (wip/tools/mkprint.py over the kit's print).
import Derived.Test.YtggoddiiglkpiaaPTellMixesx0
import Derived.Test.YtggoddiiglkpiaaPTellMixesx2
import Derived.Test.YtggoddiiglkpiaaPTellMixesx3
namespace Go.Proofs.Ytggoddiiglkpiaa.PTellMixes
open Go.RowKit Go.Proofs.YtggoddiiglkpiaaW.PrintWords Go.Proofs.YtggoddiiglkpiaaW.PrintLast Go.Proofs.YtggoddiiglkpiaaW.PrintMore
attribute [local go_sem] max2_int min2_int max_two min_two max_three min_three max_four min_four   -- for this text's walks alone
set_option linter.unusedVariables false
set_option linter.unusedSimpArgs false

/-! ### tell_Last: function 39 -/
def tell_Last.l0 : Nat → Int → List (S49) → Int → Int → Option (Int)
  | 0, _, _, _, _ => none
  | k + 1, x1, x7, x8, x9 => if x9 < x8 then (if 0 ≤ x9 then (if x9 < (x7.length : Int) then (if ((rd_T49 x7 x9).f1) = x1 then (if ((rd_T49 x7 x9).f0) = 1 then (tell_Last.l0 k x1 x7 x8 (wrap64 (x9 + 1))) else (if ((rd_T49 x7 x9).f0) = 5 then (tell_Last.l0 k x1 x7 x8 (wrap64 (x9 + 1))) else (some ((rd_T49 x7 x9).f0)))) else (tell_Last.l0 k x1 x7 x8 (wrap64 (x9 + 1)))) else (none)) else (none)) else (some 0)
def tell_Last.f (k : Nat) (l0 : List (S49)) (a1 : Int) : Option (Int) := tell_Last.l0 k a1 l0 (l0.length : Int) 0
theorem tell_Last.mono_l : ∀ k, (∀ y0 y1 y2 y3, LeO (tell_Last.l0 k y0 y1 y2 y3) (tell_Last.l0 (k + 1) y0 y1 y2 y3))
  | 0 => fun _ _ _ _ r h => by simp [tell_Last.l0] at h
  | k + 1 => by
    have ih0 := tell_Last.mono_l k
    · intro y0 y1 y2 y3
      unfold tell_Last.l0
      repeat' first
      | (with_reducible exact ih0 _ _ _ _)
      | (with_reducible exact LeO.refl _)
      | (with_reducible exact LeO.none _)
      | (with_reducible refine LeO.ite ?_ ?_)
      | (with_reducible refine LeO.bind ?_ (fun _ => ?_))
      | exact ih0 _ _ _ _
      | exact LeO.none _
      | refine LeO.ite ?_ ?_
      | refine LeO.bind ?_ (fun _ => ?_)
theorem tell_Last.mono : ∀ a0 a1 k, LeO (tell_Last.f k a0 a1) (tell_Last.f (k + 1) a0 a1) := by
  intro a0 a1 k
  have ih0 := tell_Last.mono_l k
  unfold tell_Last.f
  repeat' first
      | (with_reducible exact ih0 _ _ _ _)
      | (with_reducible exact LeO.refl _)
      | (with_reducible exact LeO.none _)
      | (with_reducible refine LeO.ite ?_ ?_)
      | (with_reducible refine LeO.bind ?_ (fun _ => ?_))
      | exact ih0 _ _ _ _
      | exact LeO.none _
      | refine LeO.ite ?_ ?_
      | refine LeO.bind ?_ (fun _ => ?_)
set_option maxHeartbeats 8000000 in
set_option maxRecDepth 100000 in
theorem tell_Last.calls (k : Nat) (A0 : Option Addr) (c0 : Nat) (l0 : List (S49)) (a1 : Int) (r : Int) (w : World) (hr0 : Kd.C k49 w A0 l0.length l0) (hc0 : l0.length ≤ c0) (h : tell_Last.f k l0 a1 = some r) :
    Calls Try.prog 39 #[.slice A0 l0.length c0, .int .u32 a1] w fun e w' => e = .returned (.int .i64 r) ∧ Below w.heap.size w w' := by
  have hu49 := Try.underlying49
  have HR0 := Aside0.mk hr0
  have HC0 := Aside0.mk hc0
  clear hr0 hc0
  have HB := Aside0.mk (Below.refl w.heap.size w)
  have H : (tell_Last.l0 k a1 l0 (l0.length : Int) 0) = some r := h
  clear h
  have H' := Aside0.mk H
  clear H
  go_enter Try.func39, Try.ntmps39
  go_wp2
  go_loopg [9] k (fun kq v9 w' => ∃ (x9_1 : Int), v9 = .int .i64 x9_1 ∧ Aside0 (tell_Last.l0 kq a1 l0 (l0.length : Int) x9_1 = some r) ∧ Aside0 (kq ≤ k) ∧ Aside0 (Below w.heap.size w w'))
  case atStart => exact ⟨(0), (by first | rfl | (simp; done) | (simp [*]; done)), H', ⟨Nat.le_refl _⟩, ⟨by repeat (first | (with_reducible first | exact HB.out | apply below_alloc | apply pw_below_drewN | apply below_drew1) | exact HB.out)⟩⟩
  case round =>
    clear H'
    try clear p2
    obtain ⟨x9_1, rfl, HA, HK1, HB⟩ := hrel
    cases gk with
    | zero => exact absurd HA.out (by simp [tell_Last.l0])
    | succ k1 =>
      have H := HA.out
      clear HA
      simp only [tell_Last.l0] at H
      by_cases c3 : x9_1 < (l0.length : Int)
      · rw [if_pos c3] at H
        have c3b0 : decide (x9_1 < (l0.length : Int)) = true := decide_eq_true c3
        clear c3
        by_cases c4 : 0 ≤ x9_1
        · rw [if_pos c4] at H
          have c4b0 : decide (0 ≤ x9_1) = true := decide_eq_true c4
          clear c4
          by_cases c5 : x9_1 < (l0.length : Int)
          · rw [if_pos c5] at H
            have c5b0 : decide (x9_1 < (l0.length : Int)) = true := decide_eq_true c5
            clear c5
            by_cases c6 : ((rd_T49 l0 x9_1).f1) = a1
            · rw [if_pos c6] at H
              have c6b0 : (((rd_T49 l0 x9_1).f1) == a1) = true := beq_iff_eq.mpr c6
              have c6b1 : (((rd_T49 l0 x9_1).f1) != a1) = false := bne_eq_false_iff_eq.mpr c6
              clear c6
              by_cases c7 : ((rd_T49 l0 x9_1).f0) = 1
              · rw [if_pos c7] at H
                have c7b0 : (((rd_T49 l0 x9_1).f0) == 1) = true := beq_iff_eq.mpr c7
                have c7b1 : (((rd_T49 l0 x9_1).f0) != 1) = false := bne_eq_false_iff_eq.mpr c7
                clear c7
                have H' := Aside0.mk H
                clear H
                have p166 : 0 ≤ (x9_1 : Int) := of_decide_eq_true (by first | (with_reducible assumption) | assumption)
                have q166 : x9_1 < (l0.length : Int) := of_decide_eq_true (by first | (with_reducible assumption) | assumption)
                obtain ⟨ad166, e166, hx166_0, hx166_1, hx166_2, hx166_3, hx166_4⟩ := at_T49 HR0.out x9_1 p166 q166
                cases e166
                replace hx166_0 := (HB.out.cell (World.block_lt_of_cell? w _ hx166_0)).trans hx166_0
                replace hx166_1 := (HB.out.cell (World.block_lt_of_cell? w _ hx166_1)).trans hx166_1
                replace hx166_2 := (HB.out.cell (World.block_lt_of_cell? w _ hx166_2)).trans hx166_2
                replace hx166_3 := (HB.out.cell (World.block_lt_of_cell? w _ hx166_3)).trans hx166_3
                replace hx166_4 := (HB.out.cell (World.block_lt_of_cell? w _ hx166_4)).trans hx166_4
                replace p166 := eq_true p166
                replace q166 := eq_true q166
                go_wp2_with (first | ((with_reducible refine gate_dst (N := 6) rfl ?_); refine box_event ?hg (N := 6) ?hd (cs := #[.int .i64 0, .int .u32 0, .int .i64 0, .int .i64 0, .int .i64 0]) (t := 49) ?hr ?_; (case hd => rfl); (case hg => rfl); (case hr => first | (go_simp; done) | (go_simp; rfl)); intro gb167 hg w8 hbox hb; have n0_ := Aside0.mk (below_step (by repeat (first | (with_reducible first | exact HB.out | apply below_alloc | apply pw_below_drewN | apply below_drew1) | exact HB.out)) hb); have n1_ := Aside0.mk (hbox); have n2_ := Aside0.mk ((by rw [hg]; exact (below_size (by repeat (first | (with_reducible first | exact HB.out | apply below_alloc | apply pw_below_drewN | apply below_drew1) | exact HB.out))) : w.heap.size ≤ gb167)); have n3_ := Aside0.mk ((by rw [hg]; exact (below_size (by repeat (first | (with_reducible first | exact HB.out | apply below_alloc | apply pw_below_drewN | apply below_drew1) | exact HB.out))) : w.heap.size ≤ gb167)); clear HB; have HB := n0_; have BK167 := n1_; have GW167 := n2_; have GE167 := n3_; clear n0_ n1_ n2_ n3_; clear hb hbox hg; have hcz9_0 : w8.cell? ⟨gb167, 0, none⟩ = some (.int .i64 0) := (blk_cell BK167.out 0).trans rfl; have hcz9_1 : w8.cell? ⟨gb167, 1, none⟩ = some (.int .u32 0) := (blk_cell BK167.out 1).trans rfl; have hcz9_2 : w8.cell? ⟨gb167, 2, none⟩ = some (.int .i64 0) := (blk_cell BK167.out 2).trans rfl; have hcz9_3 : w8.cell? ⟨gb167, 3, none⟩ = some (.int .i64 0) := (blk_cell BK167.out 3).trans rfl; have hcz9_4 : w8.cell? ⟨gb167, 4, none⟩ = some (.int .i64 0) := (blk_cell BK167.out 4).trans rfl; have hfz9_0 := blk_frozen BK167.out 0; have hfz9_1 := blk_frozen BK167.out 1; have hfz9_2 := blk_frozen BK167.out 2; have hfz9_3 := blk_frozen BK167.out 3; have hfz9_4 := blk_frozen BK167.out 4))
                go_roundg k1
                case measure => have := HK1.out; omega
                case rel => exact ⟨(wrap64 (x9_1 + 1)), (by first | rfl | (simp; done) | (simp [*]; done)), H', ⟨by have := HK1.out; omega⟩, ⟨by repeat (first | (with_reducible first | exact HB.out | apply below_alloc | apply pw_below_drewN | apply below_drew1 | refine below_set ?_ GE167.out) | exact HB.out)⟩⟩
              · rw [if_neg c7] at H
                have c7b0 : (((rd_T49 l0 x9_1).f0) == 1) = false := beq_eq_false_iff_ne.mpr c7
                have c7b1 : (((rd_T49 l0 x9_1).f0) != 1) = true := bne_iff_ne.mpr c7
                by_cases c10 : ((rd_T49 l0 x9_1).f0) = 5
                · rw [if_pos c10] at H
                  have c10b0 : (((rd_T49 l0 x9_1).f0) == 5) = true := beq_iff_eq.mpr c10
                  have c10b1 : (((rd_T49 l0 x9_1).f0) != 5) = false := bne_eq_false_iff_eq.mpr c10
                  clear c10
                  have H' := Aside0.mk H
                  clear H
                  have p166 : 0 ≤ (x9_1 : Int) := of_decide_eq_true (by first | (with_reducible assumption) | assumption)
                  have q166 : x9_1 < (l0.length : Int) := of_decide_eq_true (by first | (with_reducible assumption) | assumption)
                  obtain ⟨ad166, e166, hx166_0, hx166_1, hx166_2, hx166_3, hx166_4⟩ := at_T49 HR0.out x9_1 p166 q166
                  cases e166
                  replace hx166_0 := (HB.out.cell (World.block_lt_of_cell? w _ hx166_0)).trans hx166_0
                  replace hx166_1 := (HB.out.cell (World.block_lt_of_cell? w _ hx166_1)).trans hx166_1
                  replace hx166_2 := (HB.out.cell (World.block_lt_of_cell? w _ hx166_2)).trans hx166_2
                  replace hx166_3 := (HB.out.cell (World.block_lt_of_cell? w _ hx166_3)).trans hx166_3
                  replace hx166_4 := (HB.out.cell (World.block_lt_of_cell? w _ hx166_4)).trans hx166_4
                  replace p166 := eq_true p166
                  replace q166 := eq_true q166
                  go_wp2_with (first | ((with_reducible refine gate_dst (N := 6) rfl ?_); refine box_event ?hg (N := 6) ?hd (cs := #[.int .i64 0, .int .u32 0, .int .i64 0, .int .i64 0, .int .i64 0]) (t := 49) ?hr ?_; (case hd => rfl); (case hg => rfl); (case hr => first | (go_simp; done) | (go_simp; rfl)); intro gb167 hg w11 hbox hb; have n0_ := Aside0.mk (below_step (by repeat (first | (with_reducible first | exact HB.out | apply below_alloc | apply pw_below_drewN | apply below_drew1) | exact HB.out)) hb); have n1_ := Aside0.mk (hbox); have n2_ := Aside0.mk ((by rw [hg]; exact (below_size (by repeat (first | (with_reducible first | exact HB.out | apply below_alloc | apply pw_below_drewN | apply below_drew1) | exact HB.out))) : w.heap.size ≤ gb167)); have n3_ := Aside0.mk ((by rw [hg]; exact (below_size (by repeat (first | (with_reducible first | exact HB.out | apply below_alloc | apply pw_below_drewN | apply below_drew1) | exact HB.out))) : w.heap.size ≤ gb167)); clear HB; have HB := n0_; have BK167 := n1_; have GW167 := n2_; have GE167 := n3_; clear n0_ n1_ n2_ n3_; clear hb hbox hg; have hcz12_0 : w11.cell? ⟨gb167, 0, none⟩ = some (.int .i64 0) := (blk_cell BK167.out 0).trans rfl; have hcz12_1 : w11.cell? ⟨gb167, 1, none⟩ = some (.int .u32 0) := (blk_cell BK167.out 1).trans rfl; have hcz12_2 : w11.cell? ⟨gb167, 2, none⟩ = some (.int .i64 0) := (blk_cell BK167.out 2).trans rfl; have hcz12_3 : w11.cell? ⟨gb167, 3, none⟩ = some (.int .i64 0) := (blk_cell BK167.out 3).trans rfl; have hcz12_4 : w11.cell? ⟨gb167, 4, none⟩ = some (.int .i64 0) := (blk_cell BK167.out 4).trans rfl; have hfz12_0 := blk_frozen BK167.out 0; have hfz12_1 := blk_frozen BK167.out 1; have hfz12_2 := blk_frozen BK167.out 2; have hfz12_3 := blk_frozen BK167.out 3; have hfz12_4 := blk_frozen BK167.out 4))
                  go_roundg k1
                  case measure => have := HK1.out; omega
                  case rel => exact ⟨(wrap64 (x9_1 + 1)), (by first | rfl | (simp; done) | (simp [*]; done)), H', ⟨by have := HK1.out; omega⟩, ⟨by repeat (first | (with_reducible first | exact HB.out | apply below_alloc | apply pw_below_drewN | apply below_drew1 | refine below_set ?_ GE167.out) | exact HB.out)⟩⟩
                · rw [if_neg c10] at H
                  have c10b0 : (((rd_T49 l0 x9_1).f0) == 5) = false := beq_eq_false_iff_ne.mpr c10
                  have c10b1 : (((rd_T49 l0 x9_1).f0) != 5) = true := bne_iff_ne.mpr c10
                  obtain rfl := Option.some.inj H
                  have p166 : 0 ≤ (x9_1 : Int) := of_decide_eq_true (by first | (with_reducible assumption) | assumption)
                  have q166 : x9_1 < (l0.length : Int) := of_decide_eq_true (by first | (with_reducible assumption) | assumption)
                  obtain ⟨ad166, e166, hx166_0, hx166_1, hx166_2, hx166_3, hx166_4⟩ := at_T49 HR0.out x9_1 p166 q166
                  cases e166
                  replace hx166_0 := (HB.out.cell (World.block_lt_of_cell? w _ hx166_0)).trans hx166_0
                  replace hx166_1 := (HB.out.cell (World.block_lt_of_cell? w _ hx166_1)).trans hx166_1
                  replace hx166_2 := (HB.out.cell (World.block_lt_of_cell? w _ hx166_2)).trans hx166_2
                  replace hx166_3 := (HB.out.cell (World.block_lt_of_cell? w _ hx166_3)).trans hx166_3
                  replace hx166_4 := (HB.out.cell (World.block_lt_of_cell? w _ hx166_4)).trans hx166_4
                  replace p166 := eq_true p166
                  replace q166 := eq_true q166
                  go_wp2_with (first | ((with_reducible refine gate_dst (N := 6) rfl ?_); refine box_event ?hg (N := 6) ?hd (cs := #[.int .i64 0, .int .u32 0, .int .i64 0, .int .i64 0, .int .i64 0]) (t := 49) ?hr ?_; (case hd => rfl); (case hg => rfl); (case hr => first | (go_simp; done) | (go_simp; rfl)); intro gb167 hg w13 hbox hb; have n0_ := Aside0.mk (below_step (by repeat (first | (with_reducible first | exact HB.out | apply below_alloc | apply pw_below_drewN | apply below_drew1) | exact HB.out)) hb); have n1_ := Aside0.mk (hbox); have n2_ := Aside0.mk ((by rw [hg]; exact (below_size (by repeat (first | (with_reducible first | exact HB.out | apply below_alloc | apply pw_below_drewN | apply below_drew1) | exact HB.out))) : w.heap.size ≤ gb167)); have n3_ := Aside0.mk ((by rw [hg]; exact (below_size (by repeat (first | (with_reducible first | exact HB.out | apply below_alloc | apply pw_below_drewN | apply below_drew1) | exact HB.out))) : w.heap.size ≤ gb167)); clear HB; have HB := n0_; have BK167 := n1_; have GW167 := n2_; have GE167 := n3_; clear n0_ n1_ n2_ n3_; clear hb hbox hg; have hcz14_0 : w13.cell? ⟨gb167, 0, none⟩ = some (.int .i64 0) := (blk_cell BK167.out 0).trans rfl; have hcz14_1 : w13.cell? ⟨gb167, 1, none⟩ = some (.int .u32 0) := (blk_cell BK167.out 1).trans rfl; have hcz14_2 : w13.cell? ⟨gb167, 2, none⟩ = some (.int .i64 0) := (blk_cell BK167.out 2).trans rfl; have hcz14_3 : w13.cell? ⟨gb167, 3, none⟩ = some (.int .i64 0) := (blk_cell BK167.out 3).trans rfl; have hcz14_4 : w13.cell? ⟨gb167, 4, none⟩ = some (.int .i64 0) := (blk_cell BK167.out 4).trans rfl; have hfz14_0 := blk_frozen BK167.out 0; have hfz14_1 := blk_frozen BK167.out 1; have hfz14_2 := blk_frozen BK167.out 2; have hfz14_3 := blk_frozen BK167.out 3; have hfz14_4 := blk_frozen BK167.out 4))
                  go_ret
                  exact ⟨by first | rfl | (simp [errW_none, errW_some] <;> rfl) | (simp [*, errW_none, errW_some] <;> rfl), by repeat (first | (with_reducible first | exact HB.out | apply below_alloc | apply pw_below_drewN | apply below_drew1 | refine below_set ?_ GE167.out) | exact HB.out)⟩
            · rw [if_neg c6] at H
              have c6b0 : (((rd_T49 l0 x9_1).f1) == a1) = false := beq_eq_false_iff_ne.mpr c6
              have c6b1 : (((rd_T49 l0 x9_1).f1) != a1) = true := bne_iff_ne.mpr c6
              have H' := Aside0.mk H
              clear H
              have p166 : 0 ≤ (x9_1 : Int) := of_decide_eq_true (by first | (with_reducible assumption) | assumption)
              have q166 : x9_1 < (l0.length : Int) := of_decide_eq_true (by first | (with_reducible assumption) | assumption)
              obtain ⟨ad166, e166, hx166_0, hx166_1, hx166_2, hx166_3, hx166_4⟩ := at_T49 HR0.out x9_1 p166 q166
              cases e166
              replace hx166_0 := (HB.out.cell (World.block_lt_of_cell? w _ hx166_0)).trans hx166_0
              replace hx166_1 := (HB.out.cell (World.block_lt_of_cell? w _ hx166_1)).trans hx166_1
              replace hx166_2 := (HB.out.cell (World.block_lt_of_cell? w _ hx166_2)).trans hx166_2
              replace hx166_3 := (HB.out.cell (World.block_lt_of_cell? w _ hx166_3)).trans hx166_3
              replace hx166_4 := (HB.out.cell (World.block_lt_of_cell? w _ hx166_4)).trans hx166_4
              replace p166 := eq_true p166
              replace q166 := eq_true q166
              go_wp2_with (first | ((with_reducible refine gate_dst (N := 6) rfl ?_); refine box_event ?hg (N := 6) ?hd (cs := #[.int .i64 0, .int .u32 0, .int .i64 0, .int .i64 0, .int .i64 0]) (t := 49) ?hr ?_; (case hd => rfl); (case hg => rfl); (case hr => first | (go_simp; done) | (go_simp; rfl)); intro gb167 hg w15 hbox hb; have n0_ := Aside0.mk (below_step (by repeat (first | (with_reducible first | exact HB.out | apply below_alloc | apply pw_below_drewN | apply below_drew1) | exact HB.out)) hb); have n1_ := Aside0.mk (hbox); have n2_ := Aside0.mk ((by rw [hg]; exact (below_size (by repeat (first | (with_reducible first | exact HB.out | apply below_alloc | apply pw_below_drewN | apply below_drew1) | exact HB.out))) : w.heap.size ≤ gb167)); have n3_ := Aside0.mk ((by rw [hg]; exact (below_size (by repeat (first | (with_reducible first | exact HB.out | apply below_alloc | apply pw_below_drewN | apply below_drew1) | exact HB.out))) : w.heap.size ≤ gb167)); clear HB; have HB := n0_; have BK167 := n1_; have GW167 := n2_; have GE167 := n3_; clear n0_ n1_ n2_ n3_; clear hb hbox hg; have hcz16_0 : w15.cell? ⟨gb167, 0, none⟩ = some (.int .i64 0) := (blk_cell BK167.out 0).trans rfl; have hcz16_1 : w15.cell? ⟨gb167, 1, none⟩ = some (.int .u32 0) := (blk_cell BK167.out 1).trans rfl; have hcz16_2 : w15.cell? ⟨gb167, 2, none⟩ = some (.int .i64 0) := (blk_cell BK167.out 2).trans rfl; have hcz16_3 : w15.cell? ⟨gb167, 3, none⟩ = some (.int .i64 0) := (blk_cell BK167.out 3).trans rfl; have hcz16_4 : w15.cell? ⟨gb167, 4, none⟩ = some (.int .i64 0) := (blk_cell BK167.out 4).trans rfl; have hfz16_0 := blk_frozen BK167.out 0; have hfz16_1 := blk_frozen BK167.out 1; have hfz16_2 := blk_frozen BK167.out 2; have hfz16_3 := blk_frozen BK167.out 3; have hfz16_4 := blk_frozen BK167.out 4))
              go_roundg k1
              case measure => have := HK1.out; omega
              case rel => exact ⟨(wrap64 (x9_1 + 1)), (by first | rfl | (simp; done) | (simp [*]; done)), H', ⟨by have := HK1.out; omega⟩, ⟨by repeat (first | (with_reducible first | exact HB.out | apply below_alloc | apply pw_below_drewN | apply below_drew1 | refine below_set ?_ GE167.out) | exact HB.out)⟩⟩
          · rw [if_neg c5] at H
            exact absurd H (by simp)
        · rw [if_neg c4] at H
          exact absurd H (by simp)
      · rw [if_neg c3] at H
        have c3b0 : decide (x9_1 < (l0.length : Int)) = false := decide_eq_false c3
        clear c3
        obtain rfl := Option.some.inj H
        go_wp2
        go_ret
        exact ⟨by first | rfl | (simp [errW_none, errW_some] <;> rfl) | (simp [*, errW_none, errW_some] <;> rfl), by repeat (first | (with_reducible first | exact HB.out | apply below_alloc | apply pw_below_drewN | apply below_drew1) | exact HB.out)⟩

/-! ### credenzalaw23_awake: function 32 -/
def credenzalaw23_awake.f (k : Nat)  : Option (Bool) := (tell_Bytes.f k 1 5 0 7 0).bind fun bt168 => ((tell_Parse.f k (([5, 0, 0, 0, 5, 0, 0, 0, 28] : List Int))).bind fun bt176 => ((tell_Parse.f k (([5] : List Int))).bind fun bt187 => ((some (([(⟨1, 1, 0, 0, 0⟩ : S49), (⟨3, 1, 1, 0, 0⟩ : S49)] : List (S49)) : List (S49))).bind fun y194 => (if (strOfNums bt168.1).toList = ([1, 0, 0, 0, 5, 0, 0, 7, 0] : List UInt8) then (if bt168.2 = 0 then (if bt176.1 = 5 then (if bt176.2.2.2.2.1 = 28 then (if bt176.2.2.2.2.2 = 0 then (if bt187.2.2.2.2.2 = 16 then ((tell_Ordered.f y194).bind fun t197 => (if t197 = true then (if 1 ≤ (y194.length : Int) then ((tell_Ordered.f (y194.drop 1)).bind fun t202 => (if t202 = true then (none) else ((tell_Last.f k y194 1).bind fun t203 => (if t203 = 3 then ((tell_Right.f 0 0 0 0 0).bind fun t204 => (some (t204 == 29))) else (none))))) else (none)) else (none))) else (none)) else (none)) else (none)) else (none)) else (none)) else (none)))))
theorem credenzalaw23_awake.mono : ∀ k, LeO (credenzalaw23_awake.f k ) (credenzalaw23_awake.f (k + 1) ) := by
  intro  k
  unfold credenzalaw23_awake.f
  repeat' first
      | (with_reducible exact tell_Bytes.mono _ _ _ _ _ _)
      | (with_reducible exact tell_Last.mono _ _ _)
      | (with_reducible exact tell_Parse.mono _ _)
      | (with_reducible exact LeO.refl _)
      | (with_reducible exact LeO.none _)
      | (with_reducible refine LeO.ite ?_ ?_)
      | (with_reducible refine LeO.bind ?_ (fun _ => ?_))
      | exact tell_Bytes.mono _ _ _ _ _ _
      | exact tell_Last.mono _ _ _
      | exact tell_Parse.mono _ _
      | exact LeO.none _
      | refine LeO.ite ?_ ?_
      | refine LeO.bind ?_ (fun _ => ?_)
set_option maxHeartbeats 8000000 in
set_option maxRecDepth 100000 in
theorem credenzalaw23_awake.calls (k : Nat)  (r : Bool) (w : World) (h : credenzalaw23_awake.f k  = some r) :
    Calls Try.prog 32 #[] w fun e w' => e = .returned (.bool r) ∧ Below w.heap.size w w' := by
  have hu49 := Try.underlying49
  have HB := Aside0.mk (Below.refl w.heap.size w)
  have H : ((tell_Bytes.f k 1 5 0 7 0).bind fun bt168 => ((tell_Parse.f k (([5, 0, 0, 0, 5, 0, 0, 0, 28] : List Int))).bind fun bt176 => ((tell_Parse.f k (([5] : List Int))).bind fun bt187 => ((some (([(⟨1, 1, 0, 0, 0⟩ : S49), (⟨3, 1, 1, 0, 0⟩ : S49)] : List (S49)) : List (S49))).bind fun y194 => (if (strOfNums bt168.1).toList = ([1, 0, 0, 0, 5, 0, 0, 7, 0] : List UInt8) then (if bt168.2 = 0 then (if bt176.1 = 5 then (if bt176.2.2.2.2.1 = 28 then (if bt176.2.2.2.2.2 = 0 then (if bt187.2.2.2.2.2 = 16 then ((tell_Ordered.f y194).bind fun t197 => (if t197 = true then (if 1 ≤ (y194.length : Int) then ((tell_Ordered.f (y194.drop 1)).bind fun t202 => (if t202 = true then (none) else ((tell_Last.f k y194 1).bind fun t203 => (if t203 = 3 then ((tell_Right.f 0 0 0 0 0).bind fun t204 => (some (t204 == 29))) else (none))))) else (none)) else (none))) else (none)) else (none)) else (none)) else (none)) else (none)) else (none)))))) = some r := h
  clear h
  replace H := Option.bind_eq_some_iff.mp H
  obtain ⟨⟨t168, t171⟩, A10, H⟩ := H
  replace H : ((tell_Parse.f k (([5, 0, 0, 0, 5, 0, 0, 0, 28] : List Int))).bind fun bt176 => ((tell_Parse.f k (([5] : List Int))).bind fun bt187 => ((some (([(⟨1, 1, 0, 0, 0⟩ : S49), (⟨3, 1, 1, 0, 0⟩ : S49)] : List (S49)) : List (S49))).bind fun y194 => (if (strOfNums t168).toList = ([1, 0, 0, 0, 5, 0, 0, 7, 0] : List UInt8) then (if t171 = 0 then (if bt176.1 = 5 then (if bt176.2.2.2.2.1 = 28 then (if bt176.2.2.2.2.2 = 0 then (if bt187.2.2.2.2.2 = 16 then ((tell_Ordered.f y194).bind fun t197 => (if t197 = true then (if 1 ≤ (y194.length : Int) then ((tell_Ordered.f (y194.drop 1)).bind fun t202 => (if t202 = true then (none) else ((tell_Last.f k y194 1).bind fun t203 => (if t203 = 3 then ((tell_Right.f 0 0 0 0 0).bind fun t204 => (some (t204 == 29))) else (none))))) else (none)) else (none))) else (none)) else (none)) else (none)) else (none)) else (none)) else (none))))) = some r := H
  have A1 := Aside0.mk A10
  clear A10
  obtain ⟨y172, hy172⟩ : ∃ y_ : List Int, y_ = (([5, 0, 0, 0, 5, 0, 0, 0, 28] : List Int)) := ⟨_, rfl⟩
  replace H : ((tell_Parse.f k y172).bind fun bt176 => ((tell_Parse.f k (([5] : List Int))).bind fun bt187 => ((some (([(⟨1, 1, 0, 0, 0⟩ : S49), (⟨3, 1, 1, 0, 0⟩ : S49)] : List (S49)) : List (S49))).bind fun y194 => (if (strOfNums t168).toList = ([1, 0, 0, 0, 5, 0, 0, 7, 0] : List UInt8) then (if t171 = 0 then (if bt176.1 = 5 then (if bt176.2.2.2.2.1 = 28 then (if bt176.2.2.2.2.2 = 0 then (if bt187.2.2.2.2.2 = 16 then ((tell_Ordered.f y194).bind fun t197 => (if t197 = true then (if 1 ≤ (y194.length : Int) then ((tell_Ordered.f (y194.drop 1)).bind fun t202 => (if t202 = true then (none) else ((tell_Last.f k y194 1).bind fun t203 => (if t203 = 3 then ((tell_Right.f 0 0 0 0 0).bind fun t204 => (some (t204 == 29))) else (none))))) else (none)) else (none))) else (none)) else (none)) else (none)) else (none)) else (none)) else (none))))) = some r := by first | (rw [hy172]; with_reducible exact H) | (have H2_ := (Option.bind_some _ _).symm.trans H; rw [hy172]; with_reducible exact H2_) | (have H2_ := (Option.bind_some _ _).symm.trans H; with_reducible exact H2_) | with_reducible exact H | (rw [hy172]; exact H) | exact H
  have Ny172 := Aside0.mk hy172
  clear hy172
  replace H := Option.bind_eq_some_iff.mp H
  obtain ⟨⟨t176, t177, t178, t179, t180, t181⟩, A20, H⟩ := H
  replace H : ((tell_Parse.f k (([5] : List Int))).bind fun bt187 => ((some (([(⟨1, 1, 0, 0, 0⟩ : S49), (⟨3, 1, 1, 0, 0⟩ : S49)] : List (S49)) : List (S49))).bind fun y194 => (if (strOfNums t168).toList = ([1, 0, 0, 0, 5, 0, 0, 7, 0] : List UInt8) then (if t171 = 0 then (if t176 = 5 then (if t180 = 28 then (if t181 = 0 then (if bt187.2.2.2.2.2 = 16 then ((tell_Ordered.f y194).bind fun t197 => (if t197 = true then (if 1 ≤ (y194.length : Int) then ((tell_Ordered.f (y194.drop 1)).bind fun t202 => (if t202 = true then (none) else ((tell_Last.f k y194 1).bind fun t203 => (if t203 = 3 then ((tell_Right.f 0 0 0 0 0).bind fun t204 => (some (t204 == 29))) else (none))))) else (none)) else (none))) else (none)) else (none)) else (none)) else (none)) else (none)) else (none)))) = some r := H
  have A2 := Aside0.mk A20
  clear A20
  obtain ⟨y183, hy183⟩ : ∃ y_ : List Int, y_ = (([5] : List Int)) := ⟨_, rfl⟩
  replace H : ((tell_Parse.f k y183).bind fun bt187 => ((some (([(⟨1, 1, 0, 0, 0⟩ : S49), (⟨3, 1, 1, 0, 0⟩ : S49)] : List (S49)) : List (S49))).bind fun y194 => (if (strOfNums t168).toList = ([1, 0, 0, 0, 5, 0, 0, 7, 0] : List UInt8) then (if t171 = 0 then (if t176 = 5 then (if t180 = 28 then (if t181 = 0 then (if bt187.2.2.2.2.2 = 16 then ((tell_Ordered.f y194).bind fun t197 => (if t197 = true then (if 1 ≤ (y194.length : Int) then ((tell_Ordered.f (y194.drop 1)).bind fun t202 => (if t202 = true then (none) else ((tell_Last.f k y194 1).bind fun t203 => (if t203 = 3 then ((tell_Right.f 0 0 0 0 0).bind fun t204 => (some (t204 == 29))) else (none))))) else (none)) else (none))) else (none)) else (none)) else (none)) else (none)) else (none)) else (none)))) = some r := by first | (rw [hy183]; with_reducible exact H) | (have H2_ := (Option.bind_some _ _).symm.trans H; rw [hy183]; with_reducible exact H2_) | (have H2_ := (Option.bind_some _ _).symm.trans H; with_reducible exact H2_) | with_reducible exact H | (rw [hy183]; exact H) | exact H
  have Ny183 := Aside0.mk hy183
  clear hy183
  replace H := Option.bind_eq_some_iff.mp H
  obtain ⟨⟨t187, t188, t189, t190, t191, t192⟩, A30, H⟩ := H
  replace H : ((some (([(⟨1, 1, 0, 0, 0⟩ : S49), (⟨3, 1, 1, 0, 0⟩ : S49)] : List (S49)) : List (S49))).bind fun y194 => (if (strOfNums t168).toList = ([1, 0, 0, 0, 5, 0, 0, 7, 0] : List UInt8) then (if t171 = 0 then (if t176 = 5 then (if t180 = 28 then (if t181 = 0 then (if t192 = 16 then ((tell_Ordered.f y194).bind fun t197 => (if t197 = true then (if 1 ≤ (y194.length : Int) then ((tell_Ordered.f (y194.drop 1)).bind fun t202 => (if t202 = true then (none) else ((tell_Last.f k y194 1).bind fun t203 => (if t203 = 3 then ((tell_Right.f 0 0 0 0 0).bind fun t204 => (some (t204 == 29))) else (none))))) else (none)) else (none))) else (none)) else (none)) else (none)) else (none)) else (none)) else (none))) = some r := H
  have A3 := Aside0.mk A30
  clear A30
  obtain ⟨y194, hy194⟩ : ∃ y_ : List (S49), y_ = (([(⟨1, 1, 0, 0, 0⟩ : S49), (⟨3, 1, 1, 0, 0⟩ : S49)] : List (S49))) := ⟨_, rfl⟩
  replace H : (if (strOfNums t168).toList = ([1, 0, 0, 0, 5, 0, 0, 7, 0] : List UInt8) then (if t171 = 0 then (if t176 = 5 then (if t180 = 28 then (if t181 = 0 then (if t192 = 16 then ((tell_Ordered.f y194).bind fun t197 => (if t197 = true then (if 1 ≤ (y194.length : Int) then ((tell_Ordered.f (y194.drop 1)).bind fun t202 => (if t202 = true then (none) else ((tell_Last.f k y194 1).bind fun t203 => (if t203 = 3 then ((tell_Right.f 0 0 0 0 0).bind fun t204 => (some (t204 == 29))) else (none))))) else (none)) else (none))) else (none)) else (none)) else (none)) else (none)) else (none)) else (none)) = some r := by first | (rw [hy194]; with_reducible exact H) | (have H2_ := (Option.bind_some _ _).symm.trans H; rw [hy194]; with_reducible exact H2_) | (have H2_ := (Option.bind_some _ _).symm.trans H; with_reducible exact H2_) | with_reducible exact H | (rw [hy194]; exact H) | exact H
  have Ny194 := Aside0.mk hy194
  clear hy194
  by_cases c4 : (strOfNums t168).toList = ([1, 0, 0, 0, 5, 0, 0, 7, 0] : List UInt8)
  · rw [if_pos c4] at H
    have c4b0 : ((strOfNums t168).toList == ([1, 0, 0, 0, 5, 0, 0, 7, 0] : List UInt8)) = true := beq_iff_eq.mpr c4
    have c4b1 : ((strOfNums t168).toList != ([1, 0, 0, 0, 5, 0, 0, 7, 0] : List UInt8)) = false := bne_eq_false_iff_eq.mpr c4
    clear c4
    by_cases c5 : t171 = 0
    · rw [if_pos c5] at H
      have c5b0 : (t171 == 0) = true := beq_iff_eq.mpr c5
      have c5b1 : (t171 != 0) = false := bne_eq_false_iff_eq.mpr c5
      clear c5
      by_cases c6 : t176 = 5
      · rw [if_pos c6] at H
        have c6b0 : (t176 == 5) = true := beq_iff_eq.mpr c6
        have c6b1 : (t176 != 5) = false := bne_eq_false_iff_eq.mpr c6
        clear c6
        by_cases c7 : t180 = 28
        · rw [if_pos c7] at H
          have c7b0 : (t180 == 28) = true := beq_iff_eq.mpr c7
          have c7b1 : (t180 != 28) = false := bne_eq_false_iff_eq.mpr c7
          clear c7
          by_cases c8 : t181 = 0
          · rw [if_pos c8] at H
            have c8b0 : (t181 == 0) = true := beq_iff_eq.mpr c8
            have c8b1 : (t181 != 0) = false := bne_eq_false_iff_eq.mpr c8
            clear c8
            by_cases c9 : t192 = 16
            · rw [if_pos c9] at H
              have c9b0 : (t192 == 16) = true := beq_iff_eq.mpr c9
              have c9b1 : (t192 != 16) = false := bne_eq_false_iff_eq.mpr c9
              clear c9
              replace H := Option.bind_eq_some_iff.mp H
              obtain ⟨t197, A100, H⟩ := H
              replace H : (if t197 = true then (if 1 ≤ (y194.length : Int) then ((tell_Ordered.f (y194.drop 1)).bind fun t202 => (if t202 = true then (none) else ((tell_Last.f k y194 1).bind fun t203 => (if t203 = 3 then ((tell_Right.f 0 0 0 0 0).bind fun t204 => (some (t204 == 29))) else (none))))) else (none)) else (none)) = some r := H
              have A10 := Aside0.mk A100
              clear A100
              by_cases c11 : t197 = true
              · subst c11
                have H1 : (if 1 ≤ (y194.length : Int) then ((tell_Ordered.f (y194.drop 1)).bind fun t202 => (if t202 = true then (none) else ((tell_Last.f k y194 1).bind fun t203 => (if t203 = 3 then ((tell_Right.f 0 0 0 0 0).bind fun t204 => (some (t204 == 29))) else (none))))) else (none)) = some r := by rw [if_pos rfl] at H; exact H
                clear H
                have H := H1
                clear H1
                by_cases c12 : 1 ≤ (y194.length : Int)
                · rw [if_pos c12] at H
                  have c12b0 := eq_true c12
                  have c12b1 : decide (1 ≤ (y194.length : Int)) = true := decide_eq_true c12
                  clear c12
                  obtain ⟨y198, hy198⟩ : ∃ y_ : List (S49), y_ = (y194.drop 1) := ⟨_, rfl⟩
                  replace H : ((tell_Ordered.f y198).bind fun t202 => (if t202 = true then (none) else ((tell_Last.f k y194 1).bind fun t203 => (if t203 = 3 then ((tell_Right.f 0 0 0 0 0).bind fun t204 => (some (t204 == 29))) else (none))))) = some r := by first | (rw [hy198]; with_reducible exact H) | (have H2_ := (Option.bind_some _ _).symm.trans H; rw [hy198]; with_reducible exact H2_) | (have H2_ := (Option.bind_some _ _).symm.trans H; with_reducible exact H2_) | with_reducible exact H | (rw [hy198]; exact H) | exact H
                  have Ny198 := Aside0.mk hy198
                  clear hy198
                  replace H := Option.bind_eq_some_iff.mp H
                  obtain ⟨t202, A130, H⟩ := H
                  replace H : (if t202 = true then (none) else ((tell_Last.f k y194 1).bind fun t203 => (if t203 = 3 then ((tell_Right.f 0 0 0 0 0).bind fun t204 => (some (t204 == 29))) else (none)))) = some r := H
                  have A13 := Aside0.mk A130
                  clear A130
                  by_cases c14 : t202 = true
                  · subst c14
                    have H1 : (none) = some r := by rw [if_pos rfl] at H; exact H
                    clear H
                    have H := H1
                    clear H1
                    exact absurd H (by simp)
                  · replace c14 := Bool.eq_false_iff.mpr c14
                    subst c14
                    have H1 : ((tell_Last.f k y194 1).bind fun t203 => (if t203 = 3 then ((tell_Right.f 0 0 0 0 0).bind fun t204 => (some (t204 == 29))) else (none))) = some r := by rw [if_neg (show ¬ (false = true) by decide)] at H; exact H
                    clear H
                    have H := H1
                    clear H1
                    replace H := Option.bind_eq_some_iff.mp H
                    obtain ⟨t203, A150, H⟩ := H
                    replace H : (if t203 = 3 then ((tell_Right.f 0 0 0 0 0).bind fun t204 => (some (t204 == 29))) else (none)) = some r := H
                    have A15 := Aside0.mk A150
                    clear A150
                    by_cases c16 : t203 = 3
                    · rw [if_pos c16] at H
                      have c16b0 : (t203 == 3) = true := beq_iff_eq.mpr c16
                      have c16b1 : (t203 != 3) = false := bne_eq_false_iff_eq.mpr c16
                      clear c16
                      replace H := Option.bind_eq_some_iff.mp H
                      obtain ⟨t204, A170, H⟩ := H
                      replace H : (some (t204 == 29)) = some r := H
                      have A17 := Aside0.mk A170
                      clear A170
                      obtain rfl := Option.some.inj H
                      go_enter Try.func32, Try.ntmps32
                      go_wp2_with (first | ((with_reducible refine gate_callee (f := 28) rfl ?_); refine goesL_ (some 10) rfl rfl Try.func28 (by kernel_rfl) rfl #[.agg #[.int .i64 1, .int .u32 5, .int .i64 0, .int .i64 7, .int .i64 0]] rfl (by (try simp only [List.map_toArray, List.map_cons, List.map_nil]); first | done | rfl | (simp only [List.length_drop, List.length_take]; rfl)) ?_; (with_reducible refine (tell_Bytes.calls k 1 5 0 7 0 t168 t171 _ A1.out).mono ?_); rintro e w18 ⟨v169, rfl, ho0, hb⟩; refine ⟨_, rfl, ?_⟩; have n0_ := Aside0.mk (Kd.R_lower ho0 (below_size (by repeat (first | (with_reducible first | exact HB.out | apply below_alloc | apply pw_below_drewN | apply below_drew1) | exact HB.out)))); have n1_ := Aside0.mk (below_step (by repeat (first | (with_reducible first | exact HB.out | apply below_alloc | apply pw_below_drewN | apply below_drew1) | exact HB.out)) hb); clear HB; have HO170 := n0_; have HB := n1_; clear n0_ n1_; (try clear hb); (try clear hb2); (try clear hk); (try clear hi); (try clear ho0)) | ((with_reducible refine gate_dst (N := 14) rfl ?_); refine Kd.R_lit (Kd.int .u8) _ 5 ?hg (N := 14) ?hd (xs := ([5, 0, 0, 0, 5, 0, 0, 0, 28] : List Int)) (inner := [.int .u8 5, .int .u8 0, .int .u8 0, .int .u8 0, .int .u8 5, .int .u8 0, .int .u8 0, .int .u8 0, .int .u8 28]) (ok := fun _ => True) (okp := fun _ => True) ?hr ?hp (fun _ hk => hk) trivial (Below.refl _ _) (Nat.le_refl _) (by simp) ?_; (case hd => rfl); (case hg => rfl); (case hr => first | (go_simp; done) | (go_simp; rfl)); (case hp => exact (Reps.one (show Kd.M (Kd.int .u8) _ _ _ 5 [.int .u8 5] from rfl) (Reps.one (show Kd.M (Kd.int .u8) _ _ _ 0 [.int .u8 0] from rfl) (Reps.one (show Kd.M (Kd.int .u8) _ _ _ 0 [.int .u8 0] from rfl) (Reps.one (show Kd.M (Kd.int .u8) _ _ _ 0 [.int .u8 0] from rfl) (Reps.one (show Kd.M (Kd.int .u8) _ _ _ 5 [.int .u8 5] from rfl) (Reps.one (show Kd.M (Kd.int .u8) _ _ _ 0 [.int .u8 0] from rfl) (Reps.one (show Kd.M (Kd.int .u8) _ _ _ 0 [.int .u8 0] from rfl) (Reps.one (show Kd.M (Kd.int .u8) _ _ _ 0 [.int .u8 0] from rfl) (Reps.one (show Kd.M (Kd.int .u8) _ _ _ 28 [.int .u8 28] from rfl) (Reps.none _ _))))))))))); intro v173 w19 ho20 hb hg_ hnew_; clear hg_ hnew_; (first | rw [← Ny172.out] at ho20 | (simp only [Int.reduceToNat] at ho20; rw [← Ny172.out] at ho20)); have n0_ := Aside0.mk (Kd.R_elder' (by (with_reducible repeat (first | apply Kd.R_alloc | apply Kd.R_drewN | apply Kd.R_drew)); exact HO170.out) (Kd.R_base ho20) hb); have n1_ := Aside0.mk (Kd.R_lower (Kd.R_new' ho20 (Kd.R_lt (by (with_reducible repeat (first | apply Kd.R_alloc | apply Kd.R_drewN | apply Kd.R_drew)); exact HO170.out))) (below_size (by repeat (first | (with_reducible first | exact HB.out | apply below_alloc | apply pw_below_drewN | apply below_drew1) | exact HB.out)))); have n2_ := Aside0.mk (below_step (by repeat (first | (with_reducible first | exact HB.out | apply below_alloc | apply pw_below_drewN | apply below_drew1) | exact HB.out)) hb); clear HO170; clear HB; have HO170 := n0_; have HO174 := n1_; have HB := n2_; clear n0_ n1_ n2_; clear hb ho20; obtain ⟨Ao21, co21, eo21⟩ := Kd.R_slice HO174.out; subst eo21; obtain ⟨w23, hcv22, hr22, hg, hbm, hcc22⟩ := run_mark (P := Try.prog) Try.underlying50 Try.underlying5 HO174.out (by first | (rw [Ny172.out]; decide) | decide); have n0_ := Aside0.mk (Kd.R_mono (Kd.R_after (ok := (fun _ => True)) (by (with_reducible repeat (first | apply Kd.R_alloc | apply Kd.R_drewN | apply Kd.R_drew)); exact HO170.out) hg (.inl rfl)) (fun _ h_ => h_.1)); have n1_ := Aside0.mk (hbm _ (by repeat (first | (with_reducible first | exact HB.out | apply below_alloc | apply pw_below_drewN | apply below_drew1) | exact HB.out))); clear HO170; clear HB; clear HO174; have HO170 := n0_; have HB := n1_; clear n0_ n1_; have HR175 := Aside0.mk hr22; have HC175 := Aside0.mk hcc22; clear hr22 hcc22 hg hbm) | ((with_reducible refine gate_callee (f := 33) rfl ?_); refine goesL_ (some 16) rfl rfl Try.func33 (by kernel_rfl) rfl #[.slice Ao21 y172.length co21] rfl (by (try simp only [List.map_toArray, List.map_cons, List.map_nil]); first | done | rfl | (simp only [List.length_drop, List.length_take]; rfl)) ?_; (with_reducible refine (tell_Parse.calls k _ _ y172 t176 t177 t178 t179 t180 t181 _ ?side1 ?side2 A2.out).mono ?_); (case side1 => repeat (first | exact (by repeat (first | (with_reducible exact HR175.out) | (with_reducible refine Kd.C_alloc ?_ _) | (with_reducible refine Kd.C_drewN ?_ _) | (with_reducible refine Kd.C_drew ?_) | exact HR175.out)) | (with_reducible refine Kd.C_alloc ?_ _) | (with_reducible refine Kd.C_drewN ?_ _) | (with_reducible refine Kd.C_drew ?_))); (case side2 => exact HC175.out); rintro e w24 ⟨rfl, hb⟩; refine ⟨_, rfl, ?_⟩; have n0_ := Aside0.mk (Kd.R_below (by (with_reducible repeat (first | apply Kd.R_alloc | apply Kd.R_drewN | apply Kd.R_drew)); exact HO170.out) hb); have n1_ := Aside0.mk (Kd.C_below (by repeat (first | (with_reducible exact HR175.out) | (with_reducible refine Kd.C_alloc ?_ _) | (with_reducible refine Kd.C_drewN ?_ _) | (with_reducible refine Kd.C_drew ?_) | exact HR175.out)) hb); have n2_ := Aside0.mk (below_step (by repeat (first | (with_reducible first | exact HB.out | apply below_alloc | apply pw_below_drewN | apply below_drew1) | exact HB.out)) hb); clear HO170; clear HR175; clear HB; have HO170 := n0_; have HR175 := n1_; have HB := n2_; clear n0_ n1_ n2_; (try clear hb); (try clear hb2); (try clear hk); (try clear hi)) | ((with_reducible refine gate_dst (N := 3) rfl ?_); refine box_event ?hg (N := 3) ?hd (cs := #[.int .i64 0, .int .u32 0, .int .i64 0, .int .i64 0, .int .i64 0]) (t := 49) ?hr ?_; (case hd => rfl); (case hg => rfl); (case hr => first | (go_simp; done) | (go_simp; rfl)); intro gb182 hg w25 hbox hb; have n0_ := Aside0.mk (Kd.R_below (by (with_reducible repeat (first | apply Kd.R_alloc | apply Kd.R_drewN | apply Kd.R_drew)); exact HO170.out) hb); have n1_ := Aside0.mk (Kd.C_below (by repeat (first | (with_reducible exact HR175.out) | (with_reducible refine Kd.C_alloc ?_ _) | (with_reducible refine Kd.C_drewN ?_ _) | (with_reducible refine Kd.C_drew ?_) | exact HR175.out)) hb); have n2_ := Aside0.mk (below_step (by repeat (first | (with_reducible first | exact HB.out | apply below_alloc | apply pw_below_drewN | apply below_drew1) | exact HB.out)) hb); have n3_ := Aside0.mk (hbox); have n4_ := Aside0.mk ((by rw [hg]; exact (below_size (by repeat (first | (with_reducible first | exact HB.out | apply below_alloc | apply pw_below_drewN | apply below_drew1) | exact HB.out))) : w.heap.size ≤ gb182)); have n5_ := Aside0.mk ((by rw [hg]; exact (below_size (by repeat (first | (with_reducible first | exact HB.out | apply below_alloc | apply pw_below_drewN | apply below_drew1) | exact HB.out))) : w.heap.size ≤ gb182)); clear HO170; clear HR175; clear HB; have HO170 := n0_; have HR175 := n1_; have HB := n2_; have BK182 := n3_; have GW182 := n4_; have GE182 := n5_; clear n0_ n1_ n2_ n3_ n4_ n5_; clear hb hbox hg; have hcz26_0 : w25.cell? ⟨gb182, 0, none⟩ = some (.int .i64 0) := (blk_cell BK182.out 0).trans rfl; have hcz26_1 : w25.cell? ⟨gb182, 1, none⟩ = some (.int .u32 0) := (blk_cell BK182.out 1).trans rfl; have hcz26_2 : w25.cell? ⟨gb182, 2, none⟩ = some (.int .i64 0) := (blk_cell BK182.out 2).trans rfl; have hcz26_3 : w25.cell? ⟨gb182, 3, none⟩ = some (.int .i64 0) := (blk_cell BK182.out 3).trans rfl; have hcz26_4 : w25.cell? ⟨gb182, 4, none⟩ = some (.int .i64 0) := (blk_cell BK182.out 4).trans rfl; have hfz26_0 := blk_frozen BK182.out 0; have hfz26_1 := blk_frozen BK182.out 1; have hfz26_2 := blk_frozen BK182.out 2; have hfz26_3 := blk_frozen BK182.out 3; have hfz26_4 := blk_frozen BK182.out 4) | ((with_reducible refine gate_dst (N := 20) rfl ?_); refine Kd.R_lit (Kd.int .u8) _ 5 ?hg (N := 20) ?hd (xs := ([5] : List Int)) (inner := [.int .u8 5]) (ok := fun _ => True) (okp := fun _ => True) ?hr ?hp (fun _ hk => hk) trivial (Below.refl _ _) (Nat.le_refl _) (by simp) ?_; (case hd => rfl); (case hg => rfl); (case hr => first | (go_simp; done) | (go_simp; rfl)); (case hp => exact (Reps.one (show Kd.M (Kd.int .u8) _ _ _ 5 [.int .u8 5] from rfl) (Reps.none _ _))); intro v184 w27 ho28 hb hg_ hnew_; clear hg_ hnew_; (first | rw [← Ny183.out] at ho28 | (simp only [Int.reduceToNat] at ho28; rw [← Ny183.out] at ho28)); have n0_ := Aside0.mk (Kd.R_elder' (by (with_reducible repeat (first | apply Kd.R_alloc | apply Kd.R_drewN | apply Kd.R_drew)); exact (Kd.R_mono (Kd.R_far (p := ⟨gb182, 4, none⟩) (Kd.R_far (p := ⟨gb182, 3, none⟩) (Kd.R_far (p := ⟨gb182, 2, none⟩) (Kd.R_far (p := ⟨gb182, 1, none⟩) (Kd.R_far (p := ⟨gb182, 0, none⟩) (Kd.R_types HO170.out BK182.out (by decide)) (fun _ hk => hk.2) (.int .i64 t176)) (fun _ hk => hk.2) (.int .u32 t177)) (fun _ hk => hk.2) (.int .i64 t178)) (fun _ hk => hk.2) (.int .i64 t179)) (fun _ hk => hk.2) (.int .i64 t180)) (fun _ h_ => h_.1))) (Kd.R_base ho28) hb); have n1_ := Aside0.mk (Kd.R_lower (Kd.R_new' ho28 (Kd.R_lt (by (with_reducible repeat (first | apply Kd.R_alloc | apply Kd.R_drewN | apply Kd.R_drew)); exact (Kd.R_mono (Kd.R_far (p := ⟨gb182, 4, none⟩) (Kd.R_far (p := ⟨gb182, 3, none⟩) (Kd.R_far (p := ⟨gb182, 2, none⟩) (Kd.R_far (p := ⟨gb182, 1, none⟩) (Kd.R_far (p := ⟨gb182, 0, none⟩) (Kd.R_types HO170.out BK182.out (by decide)) (fun _ hk => hk.2) (.int .i64 t176)) (fun _ hk => hk.2) (.int .u32 t177)) (fun _ hk => hk.2) (.int .i64 t178)) (fun _ hk => hk.2) (.int .i64 t179)) (fun _ hk => hk.2) (.int .i64 t180)) (fun _ h_ => h_.1))))) (below_size (by repeat (first | (with_reducible first | exact HB.out | apply below_alloc | apply pw_below_drewN | apply below_drew1 | refine below_set ?_ GE182.out) | exact HB.out)))); have n2_ := Aside0.mk (blk_below (g := gb182) (o := .cells #[.int .i64 t176, .int .u32 t177, .int .i64 t178, .int .i64 t179, .int .i64 t180] 49 (0, 0)) (by (with_reducible repeat (first | refine blk_drewN ?_ _ | refine blk_drew ?_ | refine blk_alloc ?_ _)); refine blk_put (cs := #[.int .i64 t176, .int .u32 t177, .int .i64 t178, .int .i64 t179, .int .i64 0]) ?_ 4 _ rfl; (with_reducible repeat (first | refine blk_drewN ?_ _ | refine blk_drew ?_ | refine blk_alloc ?_ _)); refine blk_put (cs := #[.int .i64 t176, .int .u32 t177, .int .i64 t178, .int .i64 0, .int .i64 0]) ?_ 3 _ rfl; (with_reducible repeat (first | refine blk_drewN ?_ _ | refine blk_drew ?_ | refine blk_alloc ?_ _)); refine blk_put (cs := #[.int .i64 t176, .int .u32 t177, .int .i64 0, .int .i64 0, .int .i64 0]) ?_ 2 _ rfl; (with_reducible repeat (first | refine blk_drewN ?_ _ | refine blk_drew ?_ | refine blk_alloc ?_ _)); refine blk_put (cs := #[.int .i64 t176, .int .u32 0, .int .i64 0, .int .i64 0, .int .i64 0]) ?_ 1 _ rfl; (with_reducible repeat (first | refine blk_drewN ?_ _ | refine blk_drew ?_ | refine blk_alloc ?_ _)); refine blk_put (cs := #[.int .i64 0, .int .u32 0, .int .i64 0, .int .i64 0, .int .i64 0]) ?_ 0 _ rfl; (with_reducible repeat (first | refine blk_drewN ?_ _ | refine blk_drew ?_ | refine blk_alloc ?_ _)); exact BK182.out) hb); have n3_ := Aside0.mk (below_step (by repeat (first | (with_reducible first | exact HB.out | apply below_alloc | apply pw_below_drewN | apply below_drew1 | refine below_set ?_ GE182.out) | exact HB.out)) hb); clear HO170; clear BK182; clear HB; have HO170 := n0_; have HO185 := n1_; have BK182 := n2_; have HB := n3_; clear n0_ n1_ n2_ n3_; clear hb ho28; obtain ⟨Ao29, co29, eo29⟩ := Kd.R_slice HO185.out; subst eo29; obtain ⟨w31, hcv30, hr30, hg, hbm, hcc30⟩ := run_mark (P := Try.prog) Try.underlying50 Try.underlying5 HO185.out (by first | (rw [Ny183.out]; decide) | decide); have n0_ := Aside0.mk (Kd.R_mono (Kd.R_after (ok := (fun _ => True)) (by (with_reducible repeat (first | apply Kd.R_alloc | apply Kd.R_drewN | apply Kd.R_drew)); exact HO170.out) hg (.inl rfl)) (fun _ h_ => h_.1)); have n1_ := Aside0.mk (blk_grown (g := gb182) (o := .cells #[.int .i64 t176, .int .u32 t177, .int .i64 t178, .int .i64 t179, .int .i64 t180] 49 (0, 0)) (by (with_reducible repeat (first | refine blk_drewN ?_ _ | refine blk_drew ?_ | refine blk_alloc ?_ _)); exact BK182.out) hg (Kd.R_ne HO185.out BK182.out (by decide))); have n2_ := Aside0.mk (hbm _ (by repeat (first | (with_reducible first | exact HB.out | apply below_alloc | apply pw_below_drewN | apply below_drew1 | refine below_set ?_ GE182.out) | exact HB.out))); clear HO170; clear BK182; clear HB; clear HO185; have HO170 := n0_; have BK182 := n1_; have HB := n2_; clear n0_ n1_ n2_; have HR186 := Aside0.mk hr30; have HC186 := Aside0.mk hcc30; clear hr30 hcc30 hg hbm) | ((with_reducible refine gate_callee (f := 33) rfl ?_); refine goesL_ (some 22) rfl rfl Try.func33 (by kernel_rfl) rfl #[.slice Ao29 y183.length co29] rfl (by (try simp only [List.map_toArray, List.map_cons, List.map_nil]); first | done | rfl | (simp only [List.length_drop, List.length_take]; rfl)) ?_; (with_reducible refine (tell_Parse.calls k _ _ y183 t187 t188 t189 t190 t191 t192 _ ?side1 ?side2 A3.out).mono ?_); (case side1 => repeat (first | exact (by repeat (first | (with_reducible exact HR186.out) | (with_reducible refine Kd.C_alloc ?_ _) | (with_reducible refine Kd.C_drewN ?_ _) | (with_reducible refine Kd.C_drew ?_) | exact HR186.out)) | (with_reducible refine Kd.C_alloc ?_ _) | (with_reducible refine Kd.C_drewN ?_ _) | (with_reducible refine Kd.C_drew ?_))); (case side2 => exact HC186.out); rintro e w32 ⟨rfl, hb⟩; refine ⟨_, rfl, ?_⟩; have n0_ := Aside0.mk (Kd.R_below (by (with_reducible repeat (first | apply Kd.R_alloc | apply Kd.R_drewN | apply Kd.R_drew)); exact HO170.out) hb); have n1_ := Aside0.mk (blk_below (g := gb182) (o := .cells #[.int .i64 t176, .int .u32 t177, .int .i64 t178, .int .i64 t179, .int .i64 t180] 49 (0, 0)) (by (with_reducible repeat (first | refine blk_drewN ?_ _ | refine blk_drew ?_ | refine blk_alloc ?_ _)); exact BK182.out) hb); have n2_ := Aside0.mk (Kd.C_below (by repeat (first | (with_reducible exact HR186.out) | (with_reducible refine Kd.C_alloc ?_ _) | (with_reducible refine Kd.C_drewN ?_ _) | (with_reducible refine Kd.C_drew ?_) | exact HR186.out)) hb); have n3_ := Aside0.mk (below_step (by repeat (first | (with_reducible first | exact HB.out | apply below_alloc | apply pw_below_drewN | apply below_drew1 | refine below_set ?_ GE182.out) | exact HB.out)) hb); clear HO170; clear BK182; clear HR186; clear HB; have HO170 := n0_; have BK182 := n1_; have HR186 := n2_; have HB := n3_; clear n0_ n1_ n2_ n3_; (try clear hb); (try clear hb2); (try clear hk); (try clear hi)) | ((with_reducible refine gate_dst (N := 5) rfl ?_); refine box_event ?hg (N := 5) ?hd (cs := #[.int .i64 0, .int .u32 0, .int .i64 0, .int .i64 0, .int .i64 0]) (t := 49) ?hr ?_; (case hd => rfl); (case hg => rfl); (case hr => first | (go_simp; done) | (go_simp; rfl)); intro gb193 hg w33 hbox hb; have n0_ := Aside0.mk (Kd.R_below (by (with_reducible repeat (first | apply Kd.R_alloc | apply Kd.R_drewN | apply Kd.R_drew)); exact HO170.out) hb); have n1_ := Aside0.mk (blk_below (g := gb182) (o := .cells #[.int .i64 t176, .int .u32 t177, .int .i64 t178, .int .i64 t179, .int .i64 t180] 49 (0, 0)) (by (with_reducible repeat (first | refine blk_drewN ?_ _ | refine blk_drew ?_ | refine blk_alloc ?_ _)); exact BK182.out) hb); have n2_ := Aside0.mk (Kd.C_below (by repeat (first | (with_reducible exact HR186.out) | (with_reducible refine Kd.C_alloc ?_ _) | (with_reducible refine Kd.C_drewN ?_ _) | (with_reducible refine Kd.C_drew ?_) | exact HR186.out)) hb); have n3_ := Aside0.mk (below_step (by repeat (first | (with_reducible first | exact HB.out | apply below_alloc | apply pw_below_drewN | apply below_drew1 | refine below_set ?_ GE182.out) | exact HB.out)) hb); have n4_ := Aside0.mk (hbox); have n5_ := Aside0.mk ((by rw [hg]; exact (below_size (by repeat (first | (with_reducible first | exact HB.out | apply below_alloc | apply pw_below_drewN | apply below_drew1 | refine below_set ?_ GE182.out) | exact HB.out))) : w.heap.size ≤ gb193)); have n6_ := Aside0.mk ((by rw [hg]; exact (below_size (by repeat (first | (with_reducible first | exact HB.out | apply below_alloc | apply pw_below_drewN | apply below_drew1 | refine below_set ?_ GE182.out) | exact HB.out))) : w.heap.size ≤ gb193)); have n7_ := Aside0.mk ((by rw [hg]; exact Nat.ne_of_lt (blk_lt (g := gb182) (o := .cells #[.int .i64 t176, .int .u32 t177, .int .i64 t178, .int .i64 t179, .int .i64 t180] 49 (0, 0)) (by (with_reducible repeat (first | refine blk_drewN ?_ _ | refine blk_drew ?_ | refine blk_alloc ?_ _)); exact BK182.out)) : gb182 ≠ gb193)); have n8_ := Aside0.mk ((by rw [hg]; exact Nat.ne_of_gt (blk_lt (g := gb182) (o := .cells #[.int .i64 t176, .int .u32 t177, .int .i64 t178, .int .i64 t179, .int .i64 t180] 49 (0, 0)) (by (with_reducible repeat (first | refine blk_drewN ?_ _ | refine blk_drew ?_ | refine blk_alloc ?_ _)); exact BK182.out)) : gb193 ≠ gb182)); clear HO170; clear BK182; clear HR186; clear HB; have HO170 := n0_; have BK182 := n1_; have HR186 := n2_; have HB := n3_; have BK193 := n4_; have GW193 := n5_; have GE193 := n6_; have NB182_193 := n7_; have NB193_182 := n8_; clear n0_ n1_ n2_ n3_ n4_ n5_ n6_ n7_ n8_; clear hb hbox hg; have hnb34 := NB193_182.out; have hnc34 := NB182_193.out; have hcz35_0 : w33.cell? ⟨gb193, 0, none⟩ = some (.int .i64 0) := (blk_cell BK193.out 0).trans rfl; have hcz35_1 : w33.cell? ⟨gb193, 1, none⟩ = some (.int .u32 0) := (blk_cell BK193.out 1).trans rfl; have hcz35_2 : w33.cell? ⟨gb193, 2, none⟩ = some (.int .i64 0) := (blk_cell BK193.out 2).trans rfl; have hcz35_3 : w33.cell? ⟨gb193, 3, none⟩ = some (.int .i64 0) := (blk_cell BK193.out 3).trans rfl; have hcz35_4 : w33.cell? ⟨gb193, 4, none⟩ = some (.int .i64 0) := (blk_cell BK193.out 4).trans rfl; have hfz35_0 := blk_frozen BK193.out 0; have hfz35_1 := blk_frozen BK193.out 1; have hfz35_2 := blk_frozen BK193.out 2; have hfz35_3 := blk_frozen BK193.out 3; have hfz35_4 := blk_frozen BK193.out 4) | ((with_reducible refine gate_dst (N := 27) rfl ?_); refine Kd.R_lit k49 _ 49 ?hg (N := 27) ?hd (xs := ([(⟨1, 1, 0, 0, 0⟩ : S49), (⟨3, 1, 1, 0, 0⟩ : S49)] : List (S49))) (inner := [.int .i64 1, .int .u32 1, .int .i64 0, .int .i64 0, .int .i64 0, .int .i64 3, .int .u32 1, .int .i64 1, .int .i64 0, .int .i64 0]) (ok := fun _ => True) (okp := fun _ => True) ?hr ?hp (fun _ hk => hk) trivial (Below.refl _ _) (Nat.le_refl _) (by simp) ?_; (case hd => rfl); (case hg => rfl); (case hr => first | (go_simp; done) | (go_simp; rfl)); (case hp => exact (Reps.c5 (show Kd.M k49 _ _ _ (⟨1, 1, 0, 0, 0⟩ : S49) [.int .i64 1, .int .u32 1, .int .i64 0, .int .i64 0, .int .i64 0] from (k49_mkM _ _ _ (⟨1, 1, 0, 0, 0⟩ : S49) )) (Reps.c5 (show Kd.M k49 _ _ _ (⟨3, 1, 1, 0, 0⟩ : S49) [.int .i64 3, .int .u32 1, .int .i64 1, .int .i64 0, .int .i64 0] from (k49_mkM _ _ _ (⟨3, 1, 1, 0, 0⟩ : S49) )) (Reps.none _ _)))); intro v195 w36 ho37 hb hg_ hnew_; clear hg_ hnew_; (first | rw [← Ny194.out] at ho37 | (simp only [Int.reduceToNat] at ho37; rw [← Ny194.out] at ho37)); have n0_ := Aside0.mk (Kd.R_below (by (with_reducible repeat (first | apply Kd.R_alloc | apply Kd.R_drewN | apply Kd.R_drew)); exact (Kd.R_mono (Kd.R_far (p := ⟨gb193, 4, none⟩) (Kd.R_far (p := ⟨gb193, 3, none⟩) (Kd.R_far (p := ⟨gb193, 2, none⟩) (Kd.R_far (p := ⟨gb193, 1, none⟩) (Kd.R_far (p := ⟨gb193, 0, none⟩) (Kd.R_types HO170.out BK193.out (by decide)) (fun _ hk => hk.2) (.int .i64 t187)) (fun _ hk => hk.2) (.int .u32 t188)) (fun _ hk => hk.2) (.int .i64 t189)) (fun _ hk => hk.2) (.int .i64 t190)) (fun _ hk => hk.2) (.int .i64 t191)) (fun _ h_ => h_.1))) hb); have n1_ := Aside0.mk (Kd.R_lower (Kd.R_newB (Kd.R_newB ho37 (g := gb182) (o := .cells #[.int .i64 t176, .int .u32 t177, .int .i64 t178, .int .i64 t179, .int .i64 t180] 49 (0, 0)) (by (with_reducible repeat (first | refine blk_drewN ?_ _ | refine blk_drew ?_ | refine blk_alloc ?_ _)); refine blk_far ?_ NB182_193.out _; (with_reducible repeat (first | refine blk_drewN ?_ _ | refine blk_drew ?_ | refine blk_alloc ?_ _)); refine blk_far ?_ NB182_193.out _; (with_reducible repeat (first | refine blk_drewN ?_ _ | refine blk_drew ?_ | refine blk_alloc ?_ _)); refine blk_far ?_ NB182_193.out _; (with_reducible repeat (first | refine blk_drewN ?_ _ | refine blk_drew ?_ | refine blk_alloc ?_ _)); refine blk_far ?_ NB182_193.out _; (with_reducible repeat (first | refine blk_drewN ?_ _ | refine blk_drew ?_ | refine blk_alloc ?_ _)); refine blk_far ?_ NB182_193.out _; (with_reducible repeat (first | refine blk_drewN ?_ _ | refine blk_drew ?_ | refine blk_alloc ?_ _)); exact BK182.out)) (g := gb193) (o := .cells #[.int .i64 t187, .int .u32 t188, .int .i64 t189, .int .i64 t190, .int .i64 t191] 49 (0, 0)) (by (with_reducible repeat (first | refine blk_drewN ?_ _ | refine blk_drew ?_ | refine blk_alloc ?_ _)); refine blk_put (cs := #[.int .i64 t187, .int .u32 t188, .int .i64 t189, .int .i64 t190, .int .i64 0]) ?_ 4 _ rfl; (with_reducible repeat (first | refine blk_drewN ?_ _ | refine blk_drew ?_ | refine blk_alloc ?_ _)); refine blk_put (cs := #[.int .i64 t187, .int .u32 t188, .int .i64 t189, .int .i64 0, .int .i64 0]) ?_ 3 _ rfl; (with_reducible repeat (first | refine blk_drewN ?_ _ | refine blk_drew ?_ | refine blk_alloc ?_ _)); refine blk_put (cs := #[.int .i64 t187, .int .u32 t188, .int .i64 0, .int .i64 0, .int .i64 0]) ?_ 2 _ rfl; (with_reducible repeat (first | refine blk_drewN ?_ _ | refine blk_drew ?_ | refine blk_alloc ?_ _)); refine blk_put (cs := #[.int .i64 t187, .int .u32 0, .int .i64 0, .int .i64 0, .int .i64 0]) ?_ 1 _ rfl; (with_reducible repeat (first | refine blk_drewN ?_ _ | refine blk_drew ?_ | refine blk_alloc ?_ _)); refine blk_put (cs := #[.int .i64 0, .int .u32 0, .int .i64 0, .int .i64 0, .int .i64 0]) ?_ 0 _ rfl; (with_reducible repeat (first | refine blk_drewN ?_ _ | refine blk_drew ?_ | refine blk_alloc ?_ _)); exact BK193.out)) (below_size (by repeat (first | (with_reducible first | exact HB.out | apply below_alloc | apply pw_below_drewN | apply below_drew1 | refine below_set ?_ GE182.out | refine below_set ?_ GE193.out) | exact HB.out)))); have n2_ := Aside0.mk (blk_below (g := gb182) (o := .cells #[.int .i64 t176, .int .u32 t177, .int .i64 t178, .int .i64 t179, .int .i64 t180] 49 (0, 0)) (by (with_reducible repeat (first | refine blk_drewN ?_ _ | refine blk_drew ?_ | refine blk_alloc ?_ _)); refine blk_far ?_ NB182_193.out _; (with_reducible repeat (first | refine blk_drewN ?_ _ | refine blk_drew ?_ | refine blk_alloc ?_ _)); refine blk_far ?_ NB182_193.out _; (with_reducible repeat (first | refine blk_drewN ?_ _ | refine blk_drew ?_ | refine blk_alloc ?_ _)); refine blk_far ?_ NB182_193.out _; (with_reducible repeat (first | refine blk_drewN ?_ _ | refine blk_drew ?_ | refine blk_alloc ?_ _)); refine blk_far ?_ NB182_193.out _; (with_reducible repeat (first | refine blk_drewN ?_ _ | refine blk_drew ?_ | refine blk_alloc ?_ _)); refine blk_far ?_ NB182_193.out _; (with_reducible repeat (first | refine blk_drewN ?_ _ | refine blk_drew ?_ | refine blk_alloc ?_ _)); exact BK182.out) hb); have n3_ := Aside0.mk (blk_below (g := gb193) (o := .cells #[.int .i64 t187, .int .u32 t188, .int .i64 t189, .int .i64 t190, .int .i64 t191] 49 (0, 0)) (by (with_reducible repeat (first | refine blk_drewN ?_ _ | refine blk_drew ?_ | refine blk_alloc ?_ _)); refine blk_put (cs := #[.int .i64 t187, .int .u32 t188, .int .i64 t189, .int .i64 t190, .int .i64 0]) ?_ 4 _ rfl; (with_reducible repeat (first | refine blk_drewN ?_ _ | refine blk_drew ?_ | refine blk_alloc ?_ _)); refine blk_put (cs := #[.int .i64 t187, .int .u32 t188, .int .i64 t189, .int .i64 0, .int .i64 0]) ?_ 3 _ rfl; (with_reducible repeat (first | refine blk_drewN ?_ _ | refine blk_drew ?_ | refine blk_alloc ?_ _)); refine blk_put (cs := #[.int .i64 t187, .int .u32 t188, .int .i64 0, .int .i64 0, .int .i64 0]) ?_ 2 _ rfl; (with_reducible repeat (first | refine blk_drewN ?_ _ | refine blk_drew ?_ | refine blk_alloc ?_ _)); refine blk_put (cs := #[.int .i64 t187, .int .u32 0, .int .i64 0, .int .i64 0, .int .i64 0]) ?_ 1 _ rfl; (with_reducible repeat (first | refine blk_drewN ?_ _ | refine blk_drew ?_ | refine blk_alloc ?_ _)); refine blk_put (cs := #[.int .i64 0, .int .u32 0, .int .i64 0, .int .i64 0, .int .i64 0]) ?_ 0 _ rfl; (with_reducible repeat (first | refine blk_drewN ?_ _ | refine blk_drew ?_ | refine blk_alloc ?_ _)); exact BK193.out) hb); have n4_ := Aside0.mk (below_step (by repeat (first | (with_reducible first | exact HB.out | apply below_alloc | apply pw_below_drewN | apply below_drew1 | refine below_set ?_ GE182.out | refine below_set ?_ GE193.out) | exact HB.out)) hb); clear HO170; clear BK182; clear BK193; clear HB; have HO170 := n0_; have HO196 := n1_; have BK182 := n2_; have BK193 := n3_; have HB := n4_; clear n0_ n1_ n2_ n3_ n4_; clear hb ho37; have hcv38 := own_string (P := Try.prog) Try.underlying50 Try.underlying5 Try.underlying9 (Kd.own_of_R HO170.out); have hcz39_0 : w36.cell? ⟨gb182, 0, none⟩ = some (.int .i64 t176) := (blk_cell BK182.out 0).trans rfl; have hcz39_1 : w36.cell? ⟨gb182, 1, none⟩ = some (.int .u32 t177) := (blk_cell BK182.out 1).trans rfl; have hcz39_2 : w36.cell? ⟨gb182, 2, none⟩ = some (.int .i64 t178) := (blk_cell BK182.out 2).trans rfl; have hcz39_3 : w36.cell? ⟨gb182, 3, none⟩ = some (.int .i64 t179) := (blk_cell BK182.out 3).trans rfl; have hcz39_4 : w36.cell? ⟨gb182, 4, none⟩ = some (.int .i64 t180) := (blk_cell BK182.out 4).trans rfl; have hfz39_0 := blk_frozen BK182.out 0; have hfz39_1 := blk_frozen BK182.out 1; have hfz39_2 := blk_frozen BK182.out 2; have hfz39_3 := blk_frozen BK182.out 3; have hfz39_4 := blk_frozen BK182.out 4; obtain ⟨Ao40, co40, eo40⟩ := Kd.R_slice HO196.out; subst eo40) | (go_at_call 36; (with_reducible refine (tell_Ordered.calls _ _ y194 true _ ?side1 ?side2 A10.out).mono ?_); (case side1 => repeat (first | exact (Kd.R_reads' HO196.out).2.2 | (with_reducible refine Kd.C_alloc ?_ _) | (with_reducible refine Kd.C_drewN ?_ _) | (with_reducible refine Kd.C_drew ?_))); (case side2 => exact (Kd.R_reads' HO196.out).2.1); rintro e w41 ⟨rfl, hb⟩; have n0_ := Aside0.mk (Kd.R_below (by (with_reducible repeat (first | apply Kd.R_alloc | apply Kd.R_drewN | apply Kd.R_drew)); exact HO170.out) hb); have n1_ := Aside0.mk (Kd.R_below (by (with_reducible repeat (first | apply Kd.R_alloc | apply Kd.R_drewN | apply Kd.R_drew)); exact HO196.out) hb); have n2_ := Aside0.mk (blk_below (g := gb182) (o := .cells #[.int .i64 t176, .int .u32 t177, .int .i64 t178, .int .i64 t179, .int .i64 t180] 49 (0, 0)) (by (with_reducible repeat (first | refine blk_drewN ?_ _ | refine blk_drew ?_ | refine blk_alloc ?_ _)); exact BK182.out) hb); have n3_ := Aside0.mk (blk_below (g := gb193) (o := .cells #[.int .i64 t187, .int .u32 t188, .int .i64 t189, .int .i64 t190, .int .i64 t191] 49 (0, 0)) (by (with_reducible repeat (first | refine blk_drewN ?_ _ | refine blk_drew ?_ | refine blk_alloc ?_ _)); exact BK193.out) hb); have n4_ := Aside0.mk (below_step (by repeat (first | (with_reducible first | exact HB.out | apply below_alloc | apply pw_below_drewN | apply below_drew1 | refine below_set ?_ GE182.out | refine below_set ?_ GE193.out) | exact HB.out)) hb); clear HO170; clear HO196; clear BK182; clear BK193; clear HB; have HO170 := n0_; have HO196 := n1_; have BK182 := n2_; have BK193 := n3_; have HB := n4_; clear n0_ n1_ n2_ n3_ n4_; (try clear hb); (try clear hb2); (try clear hk); (try clear hi); have q42 : (1 : Int) ≤ ((y194.length : Int) : Int) := of_decide_eq_true (by first | (with_reducible assumption) | assumption); obtain ⟨i042, hi042, _, hsz42, _⟩ := info_parts info49; have hroom42 : y194.length ≤ co40 := (Kd.R_reads' HO196.out).2.1; have hC42 : Kd.C k49 _ Ao40 y194.length y194 := (Kd.R_reads' HO196.out).2.2; have hcut42 := cut_from (P := Try.prog) 65 49 .i64 Try.underlying65 hi042 5 hsz42 Ao40 y194.length co40 1 (by omega) q42; have hr42 := Kd.C_drop (m := (1 : Int).toNat) (c := co40) hC42 (by omega) hroom42; obtain ⟨A42, hA42⟩ : ∃ A1, A1 = (if co40 = (1 : Int).toNat then Ao40 else (Ao40 : Option Addr).map (·.add ((1 : Int).toNat * 5))) := ⟨_, rfl⟩; obtain ⟨c42, hc42⟩ : ∃ c1, c1 = co40 - (1 : Int).toNat := ⟨_, rfl⟩; have hy42 : y198.length = y194.length - (1 : Int).toNat := (by rw [Ny198.out, List.length_drop] <;> omega); rw [show (y194).drop (1 : Int).toNat = y198 from Ny198.out.symm] at hr42; replace hr42 : Kd.C k49 _ A42 y198.length y198 := (by rw [hA42]; exact hr42); rw [← hy42, ← hA42, ← hc42] at hcut42; have HR201 := Aside0.mk hr42; have HC201 := Aside0.mk (show y198.length ≤ c42 from by rw [hy42, hc42]; exact Nat.sub_le_sub_right hroom42 _); clear hr42 hC42 hroom42 hi042 hsz42 hc42; have KY42 := Aside0.mk hy42; have KA42 := Aside0.mk hA42; clear hy42 hA42; have KL42 := Aside0.mk (show 1 ≤ y194.length from by omega); replace q42 := eq_true q42) | (go_at_call 36; (with_reducible refine (tell_Ordered.calls _ _ y198 false _ ?side1 ?side2 A13.out).mono ?_); (case side1 => repeat (first | exact (by repeat (first | (with_reducible exact HR201.out) | (with_reducible refine Kd.C_alloc ?_ _) | (with_reducible refine Kd.C_drewN ?_ _) | (with_reducible refine Kd.C_drew ?_) | exact HR201.out)) | (with_reducible refine Kd.C_alloc ?_ _) | (with_reducible refine Kd.C_drewN ?_ _) | (with_reducible refine Kd.C_drew ?_))); (case side2 => exact HC201.out); rintro e w43 ⟨rfl, hb⟩; have n0_ := Aside0.mk (Kd.R_below (by (with_reducible repeat (first | apply Kd.R_alloc | apply Kd.R_drewN | apply Kd.R_drew)); exact HO170.out) hb); have n1_ := Aside0.mk (Kd.R_below (by (with_reducible repeat (first | apply Kd.R_alloc | apply Kd.R_drewN | apply Kd.R_drew)); exact HO196.out) hb); have n2_ := Aside0.mk (blk_below (g := gb182) (o := .cells #[.int .i64 t176, .int .u32 t177, .int .i64 t178, .int .i64 t179, .int .i64 t180] 49 (0, 0)) (by (with_reducible repeat (first | refine blk_drewN ?_ _ | refine blk_drew ?_ | refine blk_alloc ?_ _)); exact BK182.out) hb); have n3_ := Aside0.mk (blk_below (g := gb193) (o := .cells #[.int .i64 t187, .int .u32 t188, .int .i64 t189, .int .i64 t190, .int .i64 t191] 49 (0, 0)) (by (with_reducible repeat (first | refine blk_drewN ?_ _ | refine blk_drew ?_ | refine blk_alloc ?_ _)); exact BK193.out) hb); have n4_ := Aside0.mk (Kd.C_below (by repeat (first | (with_reducible exact HR201.out) | (with_reducible refine Kd.C_alloc ?_ _) | (with_reducible refine Kd.C_drewN ?_ _) | (with_reducible refine Kd.C_drew ?_) | exact HR201.out)) hb); have n5_ := Aside0.mk (below_step (by repeat (first | (with_reducible first | exact HB.out | apply below_alloc | apply pw_below_drewN | apply below_drew1 | refine below_set ?_ GE182.out | refine below_set ?_ GE193.out) | exact HB.out)) hb); clear HO170; clear HO196; clear BK182; clear BK193; clear HR201; clear HB; have HO170 := n0_; have HO196 := n1_; have BK182 := n2_; have BK193 := n3_; have HR201 := n4_; have HB := n5_; clear n0_ n1_ n2_ n3_ n4_ n5_; (try clear hb); (try clear hb2); (try clear hk); (try clear hi)) | (go_at_call 39; (with_reducible refine (tell_Last.calls k _ _ y194 1 t203 _ ?side1 ?side2 A15.out).mono ?_); (case side1 => repeat (first | exact (Kd.R_reads' HO196.out).2.2 | (with_reducible refine Kd.C_alloc ?_ _) | (with_reducible refine Kd.C_drewN ?_ _) | (with_reducible refine Kd.C_drew ?_))); (case side2 => exact (Kd.R_reads' HO196.out).2.1); rintro e w44 ⟨rfl, hb⟩; have n0_ := Aside0.mk (Kd.R_below (by (with_reducible repeat (first | apply Kd.R_alloc | apply Kd.R_drewN | apply Kd.R_drew)); exact HO170.out) hb); have n1_ := Aside0.mk (Kd.R_below (by (with_reducible repeat (first | apply Kd.R_alloc | apply Kd.R_drewN | apply Kd.R_drew)); exact HO196.out) hb); have n2_ := Aside0.mk (blk_below (g := gb182) (o := .cells #[.int .i64 t176, .int .u32 t177, .int .i64 t178, .int .i64 t179, .int .i64 t180] 49 (0, 0)) (by (with_reducible repeat (first | refine blk_drewN ?_ _ | refine blk_drew ?_ | refine blk_alloc ?_ _)); exact BK182.out) hb); have n3_ := Aside0.mk (blk_below (g := gb193) (o := .cells #[.int .i64 t187, .int .u32 t188, .int .i64 t189, .int .i64 t190, .int .i64 t191] 49 (0, 0)) (by (with_reducible repeat (first | refine blk_drewN ?_ _ | refine blk_drew ?_ | refine blk_alloc ?_ _)); exact BK193.out) hb); have n4_ := Aside0.mk (Kd.C_below (by repeat (first | (with_reducible exact HR201.out) | (with_reducible refine Kd.C_alloc ?_ _) | (with_reducible refine Kd.C_drewN ?_ _) | (with_reducible refine Kd.C_drew ?_) | exact HR201.out)) hb); have n5_ := Aside0.mk (below_step (by repeat (first | (with_reducible first | exact HB.out | apply below_alloc | apply pw_below_drewN | apply below_drew1 | refine below_set ?_ GE182.out | refine below_set ?_ GE193.out) | exact HB.out)) hb); clear HO170; clear HO196; clear BK182; clear BK193; clear HR201; clear HB; have HO170 := n0_; have HO196 := n1_; have BK182 := n2_; have BK193 := n3_; have HR201 := n4_; have HB := n5_; clear n0_ n1_ n2_ n3_ n4_ n5_; (try clear hb); (try clear hb2); (try clear hk); (try clear hi)) | (go_at_call 31; (with_reducible refine (tell_Right.calls 0 0 0 0 0 t204 _ A17.out).mono ?_); rintro e w45 ⟨rfl, hb⟩; have n0_ := Aside0.mk (Kd.R_below (by (with_reducible repeat (first | apply Kd.R_alloc | apply Kd.R_drewN | apply Kd.R_drew)); exact HO170.out) hb); have n1_ := Aside0.mk (Kd.R_below (by (with_reducible repeat (first | apply Kd.R_alloc | apply Kd.R_drewN | apply Kd.R_drew)); exact HO196.out) hb); have n2_ := Aside0.mk (blk_below (g := gb182) (o := .cells #[.int .i64 t176, .int .u32 t177, .int .i64 t178, .int .i64 t179, .int .i64 t180] 49 (0, 0)) (by (with_reducible repeat (first | refine blk_drewN ?_ _ | refine blk_drew ?_ | refine blk_alloc ?_ _)); exact BK182.out) hb); have n3_ := Aside0.mk (blk_below (g := gb193) (o := .cells #[.int .i64 t187, .int .u32 t188, .int .i64 t189, .int .i64 t190, .int .i64 t191] 49 (0, 0)) (by (with_reducible repeat (first | refine blk_drewN ?_ _ | refine blk_drew ?_ | refine blk_alloc ?_ _)); exact BK193.out) hb); have n4_ := Aside0.mk (Kd.C_below (by repeat (first | (with_reducible exact HR201.out) | (with_reducible refine Kd.C_alloc ?_ _) | (with_reducible refine Kd.C_drewN ?_ _) | (with_reducible refine Kd.C_drew ?_) | exact HR201.out)) hb); have n5_ := Aside0.mk (below_step (by repeat (first | (with_reducible first | exact HB.out | apply below_alloc | apply pw_below_drewN | apply below_drew1 | refine below_set ?_ GE182.out | refine below_set ?_ GE193.out) | exact HB.out)) hb); clear HO170; clear HO196; clear BK182; clear BK193; clear HR201; clear HB; have HO170 := n0_; have HO196 := n1_; have BK182 := n2_; have BK193 := n3_; have HR201 := n4_; have HB := n5_; clear n0_ n1_ n2_ n3_ n4_ n5_; (try clear hb); (try clear hb2); (try clear hk); (try clear hi)))
                      go_ret
                      exact ⟨by first | rfl | (simp [errW_none, errW_some] <;> rfl) | (simp [*, errW_none, errW_some] <;> rfl), by repeat (first | (with_reducible first | exact HB.out | apply below_alloc | apply pw_below_drewN | apply below_drew1 | refine below_set ?_ GE182.out | refine below_set ?_ GE193.out) | exact HB.out)⟩
                    · rw [if_neg c16] at H
                      exact absurd H (by simp)
                · rw [if_neg c12] at H
                  exact absurd H (by simp)
              · replace c11 := Bool.eq_false_iff.mpr c11
                subst c11
                have H1 : (none) = some r := by rw [if_neg (show ¬ (false = true) by decide)] at H; exact H
                clear H
                have H := H1
                clear H1
                exact absurd H (by simp)
            · rw [if_neg c9] at H
              exact absurd H (by simp)
          · rw [if_neg c8] at H
            exact absurd H (by simp)
        · rw [if_neg c7] at H
          exact absurd H (by simp)
      · rw [if_neg c6] at H
        exact absurd H (by simp)
    · rw [if_neg c5] at H
      exact absurd H (by simp)
  · rw [if_neg c4] at H
    exact absurd H (by simp)

end Go.Proofs.Ytggoddiiglkpiaa.PTellMixes
