-- Written by a program of this session (wip/tools/mkprint.py over the kit's print).
import Derived.Test.YtoofkemhikigoaaPBlockPlaysx0
import Derived.Test.YtoofkemhikigoaaPBlockPlaysx1
import Derived.Test.YtoofkemhikigoaaPBlockPlaysx2
namespace Go.Proofs.Ytoofkemhikigoaa.PBlockPlays
open Go.RowKit Go.Proofs.YtoofkemhikigoaaW.PrintWords Go.Proofs.YtoofkemhikigoaaW.PrintLast Go.Proofs.YtoofkemhikigoaaW.PrintMore
attribute [local go_sem] max2_int min2_int max_two min_two max_three min_three max_four min_four   -- for this text's walks alone
set_option linter.unusedVariables false
set_option linter.unusedSimpArgs false

/-! ### group_Right: function 73 -/
mutual
def group_Right.j0 : Nat → Bool → Int → Int → List Int → Int → Option (Int)
 | 0, _, _, _, _, _ => none
 | k + 1, x6, x132000, x132001, x132002, x133000 => if x132001 > 1431655765 then (group_Right.j1 k true x132000 x132001 x132002 x133000) else (group_Right.j1 k x6 x132000 x132001 x132002 x133000)
def group_Right.j1 : Nat → Bool → Int → Int → List Int → Int → Option (Int)
 | 0, _, _, _, _, _ => none
 | k + 1, x23, x132000, x132001, x132002, x133000 => if x23 = true then (some 21) else ((group_Right_2_any.f x132002 x133000).bind fun t135 => (if t135 = true then (some 11) else (some 0)))
end
def group_Right.f (k : Nat) (a0_0 : Int) (a0_1 : Int) (l0_2 : List Int) (a1 : Int) : Option (Int) := (group_many.f (l0_2.length : Int) a1).bind fun t133 => (if t133 = 0 then (if a0_1 = 0 then ((group_Right_1_any.f l0_2).bind fun t134 => (group_Right.j0 k t134 a0_0 a0_1 l0_2 a1)) else (group_Right.j0 k false a0_0 a0_1 l0_2 a1)) else (some t133))
theorem group_Right.mono_l : ∀ k, (∀ y0 y1 y2 y3 y4, LeO (group_Right.j0 k y0 y1 y2 y3 y4) (group_Right.j0 (k + 1) y0 y1 y2 y3 y4)) ∧ (∀ y0 y1 y2 y3 y4, LeO (group_Right.j1 k y0 y1 y2 y3 y4) (group_Right.j1 (k + 1) y0 y1 y2 y3 y4))
 | 0 => ⟨fun _ _ _ _ _ r h => by simp [group_Right.j0] at h, fun _ _ _ _ _ r h => by simp [group_Right.j1] at h⟩
 | k + 1 => by
  obtain ⟨ih0, ih1⟩ := group_Right.mono_l k
  refine ⟨?_, ?_⟩
  ·
   intro y0 y1 y2 y3 y4
   unfold group_Right.j0
   repeat' first
   | (with_reducible exact ih0 _ _ _ _ _)
   | (with_reducible exact ih1 _ _ _ _ _)
   | (with_reducible exact LeO.refl _)
   | (with_reducible exact LeO.none _)
   | (with_reducible refine LeO.ite ?_ ?_)
   | (with_reducible refine LeO.bind ?_ (fun _ => ?_))
   | exact ih0 _ _ _ _ _
   | exact ih1 _ _ _ _ _
   | exact LeO.none _
   | refine LeO.ite ?_ ?_
   | refine LeO.bind ?_ (fun _ => ?_)
  ·
   intro y0 y1 y2 y3 y4
   unfold group_Right.j1
   repeat' first
   | (with_reducible exact ih0 _ _ _ _ _)
   | (with_reducible exact ih1 _ _ _ _ _)
   | (with_reducible exact LeO.refl _)
   | (with_reducible exact LeO.none _)
   | (with_reducible refine LeO.ite ?_ ?_)
   | (with_reducible refine LeO.bind ?_ (fun _ => ?_))
   | exact ih0 _ _ _ _ _
   | exact ih1 _ _ _ _ _
   | exact LeO.none _
   | refine LeO.ite ?_ ?_
   | refine LeO.bind ?_ (fun _ => ?_)
theorem group_Right.mono : ∀ a0 a1 a2 a3 k, LeO (group_Right.f k a0 a1 a2 a3) (group_Right.f (k + 1) a0 a1 a2 a3) := by
 intro a0 a1 a2 a3 k
 obtain ⟨ih0, ih1⟩ := group_Right.mono_l k
 unfold group_Right.f
 repeat' first
   | (with_reducible exact ih0 _ _ _ _ _)
   | (with_reducible exact ih1 _ _ _ _ _)
   | (with_reducible exact LeO.refl _)
   | (with_reducible exact LeO.none _)
   | (with_reducible refine LeO.ite ?_ ?_)
   | (with_reducible refine LeO.bind ?_ (fun _ => ?_))
   | exact ih0 _ _ _ _ _
   | exact ih1 _ _ _ _ _
   | exact LeO.none _
   | refine LeO.ite ?_ ?_
   | refine LeO.bind ?_ (fun _ => ?_)
set_option maxHeartbeats 8000000 in
set_option maxRecDepth 100000 in
theorem group_Right.calls (k : Nat) (a0_0 : Int) (a0_1 : Int) (A0_2 : Option Addr) (c0_2 : Nat) (l0_2 : List Int) (a1 : Int) (r : Int) (w : World) (hr0_2 : Kd.C (Kd.int .i64) w A0_2 l0_2.length l0_2) (hc0_2 : l0_2.length ≤ c0_2) (h : group_Right.f k a0_0 a0_1 l0_2 a1 = some r) :
  Calls Try.prog 73 #[.agg #[.int .i32 a0_0, .int .u32 a0_1, .slice A0_2 l0_2.length c0_2], .int .i64 a1] w fun e w' => e = .returned (.int .i64 r) ∧ Below w.heap.size w w' := by
 have hu117 := Try.underlying117
 have HR0_2 := Aside0.mk hr0_2
 have HC0_2 := Aside0.mk hc0_2
 clear hr0_2 hc0_2
 have HB := Aside0.mk (Below.refl w.heap.size w)
 have H : ((group_many.f (l0_2.length : Int) a1).bind fun t133 => (if t133 = 0 then (if a0_1 = 0 then ((group_Right_1_any.f l0_2).bind fun t134 => (group_Right.j0 k t134 a0_0 a0_1 l0_2 a1)) else (group_Right.j0 k false a0_0 a0_1 l0_2 a1)) else (some t133))) = some r := h
 clear h
 replace H := Option.bind_eq_some_iff.mp H
 obtain ⟨t133, A30, H⟩ := H
 replace H : (if t133 = 0 then (if a0_1 = 0 then ((group_Right_1_any.f l0_2).bind fun t134 => (group_Right.j0 k t134 a0_0 a0_1 l0_2 a1)) else (group_Right.j0 k false a0_0 a0_1 l0_2 a1)) else (some t133)) = some r := H
 have A3 := Aside0.mk A30
 clear A30
 by_cases c4 : t133 = 0
 ·
  rw [if_pos c4] at H
  have c4b0 : (t133 == 0) = true := beq_iff_eq.mpr c4
  have c4b1 : (t133 != 0) = false := bne_eq_false_iff_eq.mpr c4
  clear c4
  have HC5 := Aside0.mk H
  clear H
  go_enter Try.func73, Try.ntmps73
  go_upto_region 4 with (first | ((with_reducible refine gate_dst (N := 2) rfl ?_); refine box_event ?hg (N := 2) ?hd (cs := #[.int .i32 a0_0, .int .u32 a0_1, .slice A0_2 l0_2.length c0_2]) (t := 117) ?hr ?_; (case hd => rfl); (case hg => rfl); (case hr => first | (go_simp; done) | (go_simp; rfl)); intro gb131 hg w6 hbox hb; have n0_ := Aside0.mk (below_step (by repeat (first | (with_reducible first | exact HB.out | apply below_alloc | apply pw_below_drewN | apply below_drew1) | exact HB.out)) hb); have n1_ := Aside0.mk (hbox); have n2_ := Aside0.mk ((by rw [hg]; exact (below_size (by repeat (first | (with_reducible first | exact HB.out | apply below_alloc | apply pw_below_drewN | apply below_drew1) | exact HB.out))) : w.heap.size ≤ gb131)); have n3_ := Aside0.mk ((by rw [hg]; exact (below_size (by repeat (first | (with_reducible first | exact HB.out | apply below_alloc | apply pw_below_drewN | apply below_drew1) | exact HB.out))) : w.heap.size ≤ gb131)); clear HB; have HB := n0_; have BK131 := n1_; have GW131 := n2_; have GE131 := n3_; clear n0_ n1_ n2_ n3_; clear hb hbox hg) | ((with_reducible refine gate_dst (N := 3) rfl ?_); refine box_event ?hg (N := 3) ?hd (cs := #[.int .i64 a1]) (t := 3) ?hr ?_; (case hd => rfl); (case hg => rfl); (case hr => first | (go_simp; done) | (go_simp; rfl)); intro gb132 hg w7 hbox hb; have n0_ := Aside0.mk (blk_below (g := gb131) (o := .cells #[.int .i32 a0_0, .int .u32 a0_1, .slice A0_2 l0_2.length c0_2] 117 (0, 0)) (by (with_reducible repeat (first | refine blk_drewN ?_ _ | refine blk_drew ?_ | refine blk_alloc ?_ _)); exact BK131.out) hb); have n1_ := Aside0.mk (below_step (by repeat (first | (with_reducible first | exact HB.out | apply below_alloc | apply pw_below_drewN | apply below_drew1 | refine below_set ?_ GE131.out) | exact HB.out)) hb); have n2_ := Aside0.mk (hbox); have n3_ := Aside0.mk ((by rw [hg]; exact (below_size (by repeat (first | (with_reducible first | exact HB.out | apply below_alloc | apply pw_below_drewN | apply below_drew1 | refine below_set ?_ GE131.out) | exact HB.out))) : w.heap.size ≤ gb132)); have n4_ := Aside0.mk ((by rw [hg]; exact (below_size (by repeat (first | (with_reducible first | exact HB.out | apply below_alloc | apply pw_below_drewN | apply below_drew1 | refine below_set ?_ GE131.out) | exact HB.out))) : w.heap.size ≤ gb132)); have n5_ := Aside0.mk ((by rw [hg]; exact Nat.ne_of_lt (blk_lt (g := gb131) (o := .cells #[.int .i32 a0_0, .int .u32 a0_1, .slice A0_2 l0_2.length c0_2] 117 (0, 0)) (by (with_reducible repeat (first | refine blk_drewN ?_ _ | refine blk_drew ?_ | refine blk_alloc ?_ _)); exact BK131.out)) : gb131 ≠ gb132)); have n6_ := Aside0.mk ((by rw [hg]; exact Nat.ne_of_gt (blk_lt (g := gb131) (o := .cells #[.int .i32 a0_0, .int .u32 a0_1, .slice A0_2 l0_2.length c0_2] 117 (0, 0)) (by (with_reducible repeat (first | refine blk_drewN ?_ _ | refine blk_drew ?_ | refine blk_alloc ?_ _)); exact BK131.out)) : gb132 ≠ gb131)); clear BK131; clear HB; have BK131 := n0_; have HB := n1_; have BK132 := n2_; have GW132 := n3_; have GE132 := n4_; have NB131_132 := n5_; have NB132_131 := n6_; clear n0_ n1_ n2_ n3_ n4_ n5_ n6_; clear hb hbox hg; have hnb8 := NB131_132.out; have hnc8 := NB132_131.out; have hcz9_0 : w7.cell? ⟨gb131, 0, none⟩ = some (.int .i32 a0_0) := (blk_cell BK131.out 0).trans rfl; have hcz9_1 : w7.cell? ⟨gb131, 1, none⟩ = some (.int .u32 a0_1) := (blk_cell BK131.out 1).trans rfl; have hcz9_2 : w7.cell? ⟨gb131, 2, none⟩ = some (.slice A0_2 l0_2.length c0_2) := (blk_cell BK131.out 2).trans rfl; have hfz9_0 := blk_frozen BK131.out 0; have hfz9_1 := blk_frozen BK131.out 1; have hfz9_2 := blk_frozen BK131.out 2; have hcz10_0 : w7.cell? ⟨gb132, 0, none⟩ = some (.int .i64 a1) := (blk_cell BK132.out 0).trans rfl; have hfz10_0 := blk_frozen BK132.out 0) | ((with_reducible refine gate_callee (f := 67) rfl ?_); refine goesL_ (some 11) rfl rfl Try.func67 (by kernel_rfl) rfl #[.int .i64 (l0_2.length : Int), .int .i64 a1] rfl (by (try simp only [List.map_toArray, List.map_cons, List.map_nil]); first | done | rfl | (simp only [List.length_drop, List.length_take]; rfl)) ?_; (with_reducible refine (group_many.calls (l0_2.length : Int) a1 t133 _ A3.out).mono ?_); rintro e w' ⟨rfl, ⟨nd, rfl⟩⟩; refine ⟨_, rfl, ?_⟩))
  (try simp only [Act.put, List.setIfInBounds_toArray, List.set_cons_zero, List.set_cons_succ])
  go_cut [6] (fun v6 wc => ∃ (kq : Nat) (x6_4 : Bool), v6 = .bool x6_4 ∧ Aside0 (group_Right.j0 kq x6_4 a0_0 a0_1 l0_2 a1 = some r) ∧ Aside0 (kq ≤ k) ∧ Aside0 (wc.heap[gb131]? = some (.cells #[.int .i32 a0_0, .int .u32 a0_1, (.slice A0_2 l0_2.length c0_2)] 117 (0, 0))) ∧ Aside0 (wc.heap[gb132]? = some (.cells #[.int .i64 a1] 3 (0, 0))) ∧ Aside0 (Below w.heap.size w wc))
  case first =>
   have H := HC5.out
   clear HC5
   by_cases c11 : a0_1 = 0
   ·
    rw [if_pos c11] at H
    have c11b0 : (a0_1 == 0) = true := beq_iff_eq.mpr c11
    have c11b1 : (a0_1 != 0) = false := bne_eq_false_iff_eq.mpr c11
    clear c11
    (first | rw [c11b0] | (simp only [i64_w, i32_w]; rw [c11b0]) | skip)
    replace H := Option.bind_eq_some_iff.mp H
    obtain ⟨t134, A120, H⟩ := H
    replace H : (group_Right.j0 k t134 a0_0 a0_1 l0_2 a1) = some r := H
    have A12 := Aside0.mk A120
    clear A120
    have H' := Aside0.mk H
    clear H
    have hnb13 := NB131_132.out
    have hnc13 := NB132_131.out
    have hcz14_0 : w7.cell? ⟨gb131, 0, none⟩ = some (.int .i32 a0_0) := (blk_cell BK131.out 0).trans rfl
    have hcz14_1 : w7.cell? ⟨gb131, 1, none⟩ = some (.int .u32 a0_1) := (blk_cell BK131.out 1).trans rfl
    have hcz14_2 : w7.cell? ⟨gb131, 2, none⟩ = some (.slice A0_2 l0_2.length c0_2) := (blk_cell BK131.out 2).trans rfl
    have hfz14_0 := blk_frozen BK131.out 0
    have hfz14_1 := blk_frozen BK131.out 1
    have hfz14_2 := blk_frozen BK131.out 2
    go_wp2_with (first | (go_at_call 75; (with_reducible refine (group_Right_1_any.calls _ _ l0_2  t134 _ ?side1 ?side2 A12.out).mono ?_); (case side1 => repeat (first | exact (Kd.C_below HR0_2.out HB.out) | (with_reducible refine Kd.C_alloc ?_ _) | (with_reducible refine Kd.C_drewN ?_ _) | (with_reducible refine Kd.C_drew ?_))); (case side2 => exact HC0_2.out); rintro e w' ⟨rfl, ⟨nd, rfl⟩⟩))
    go_meet
    case rel => exact ⟨_, (t134), (by first | rfl | (simp; done) | (simp [*]; done)), H', ⟨by first | omega | exact Nat.le_refl _⟩, ⟨by (with_reducible repeat (first | refine blk_drewN ?_ _ | refine blk_drew ?_ | refine blk_alloc ?_ _)); exact BK131.out⟩, ⟨by (with_reducible repeat (first | refine blk_drewN ?_ _ | refine blk_drew ?_ | refine blk_alloc ?_ _)); exact BK132.out⟩, ⟨by repeat (first | (with_reducible first | exact HB.out | apply below_alloc | apply pw_below_drewN | apply below_drew1 | refine below_set ?_ GE131.out | refine below_set ?_ GE132.out) | exact HB.out)⟩⟩
   ·
    rw [if_neg c11] at H
    have c11b0 : (a0_1 == 0) = false := beq_eq_false_iff_ne.mpr c11
    have c11b1 : (a0_1 != 0) = true := bne_iff_ne.mpr c11
    (first | rw [c11b0] | (simp only [i64_w, i32_w]; rw [c11b0]) | skip)
    have H' := Aside0.mk H
    clear H
    have hnb15 := NB131_132.out
    have hnc15 := NB132_131.out
    have hcz16_0 : w7.cell? ⟨gb131, 0, none⟩ = some (.int .i32 a0_0) := (blk_cell BK131.out 0).trans rfl
    have hcz16_1 : w7.cell? ⟨gb131, 1, none⟩ = some (.int .u32 a0_1) := (blk_cell BK131.out 1).trans rfl
    have hcz16_2 : w7.cell? ⟨gb131, 2, none⟩ = some (.slice A0_2 l0_2.length c0_2) := (blk_cell BK131.out 2).trans rfl
    have hfz16_0 := blk_frozen BK131.out 0
    have hfz16_1 := blk_frozen BK131.out 1
    have hfz16_2 := blk_frozen BK131.out 2
    go_wp2
    go_meet
    case rel => exact ⟨_, (false), (by first | rfl | (simp; done) | (simp [*]; done)), H', ⟨by first | omega | exact Nat.le_refl _⟩, ⟨by (with_reducible repeat (first | refine blk_drewN ?_ _ | refine blk_drew ?_ | refine blk_alloc ?_ _)); exact BK131.out⟩, ⟨by (with_reducible repeat (first | refine blk_drewN ?_ _ | refine blk_drew ?_ | refine blk_alloc ?_ _)); exact BK132.out⟩, ⟨by repeat (first | (with_reducible first | exact HB.out | apply below_alloc | apply pw_below_drewN | apply below_drew1 | refine below_set ?_ GE131.out | refine below_set ?_ GE132.out) | exact HB.out)⟩⟩
  case rest =>
   clear HC5
   try clear c1
   try clear p2
   try clear c4
   try clear c4b0
   try clear c4b1
   try clear c6
   try clear c7
   try clear c8
   try clear c11
   try clear c11b0
   try clear c11b1
   try clear c13
   try clear c15
   try clear hcz10_0
   try clear hcz14_0
   try clear hcz14_1
   try clear hcz14_2
   try clear hcz16_0
   try clear hcz16_1
   try clear hcz16_2
   try clear hcz9_0
   try clear hcz9_1
   try clear hcz9_2
   try clear hfz10_0
   try clear hfz14_0
   try clear hfz14_1
   try clear hfz14_2
   try clear hfz16_0
   try clear hfz16_1
   try clear hfz16_2
   try clear hfz9_0
   try clear hfz9_1
   try clear hfz9_2
   obtain ⟨kq, x6_4, rfl, HA, HJ4, BK131, BK132, HB⟩ := hcut
   cases kq with
   | zero => exact absurd HA.out (by simp [group_Right.j0])
   | succ kj4 =>
    have H := HA.out
    clear HA
    simp only [group_Right.j0] at H
    have HC17 := Aside0.mk H
    clear H
    go_upto_region 5 with (fail)
    go_cut [23] (fun v23 wc => ∃ (kq : Nat) (x23_16 : Bool), v23 = .bool x23_16 ∧ Aside0 (group_Right.j1 kq x23_16 a0_0 a0_1 l0_2 a1 = some r) ∧ Aside0 (kq ≤ kj4) ∧ Aside0 (wc.heap[gb131]? = some (.cells #[.int .i32 a0_0, .int .u32 a0_1, (.slice A0_2 l0_2.length c0_2)] 117 (0, 0))) ∧ Aside0 (wc.heap[gb132]? = some (.cells #[.int .i64 a1] 3 (0, 0))) ∧ Aside0 (Below w.heap.size w wc))
    case first =>
     have H := HC17.out
     clear HC17
     by_cases c18 : a0_1 > 1431655765
     ·
      rw [if_pos c18] at H
      have c18b0 : decide (1431655765 < a0_1) = true := decide_eq_true c18
      clear c18
      (first | rw [c18b0] | (simp only [i64_w, i32_w]; rw [c18b0]) | skip)
      have H' := Aside0.mk H
      clear H
      have hnb19 := NB131_132.out
      have hnc19 := NB132_131.out
      have hcz20_0 : wc.cell? ⟨gb131, 0, none⟩ = some (.int .i32 a0_0) := (blk_cell BK131.out 0).trans rfl
      have hcz20_1 : wc.cell? ⟨gb131, 1, none⟩ = some (.int .u32 a0_1) := (blk_cell BK131.out 1).trans rfl
      have hcz20_2 : wc.cell? ⟨gb131, 2, none⟩ = some (.slice A0_2 l0_2.length c0_2) := (blk_cell BK131.out 2).trans rfl
      have hfz20_0 := blk_frozen BK131.out 0
      have hfz20_1 := blk_frozen BK131.out 1
      have hfz20_2 := blk_frozen BK131.out 2
      go_wp2
      go_meet
      case rel => exact ⟨_, (true), (by first | rfl | (simp; done) | (simp [*]; done)), H', ⟨by have := HJ4.out; first | omega | exact Nat.le_refl _⟩, ⟨by (with_reducible repeat (first | refine blk_drewN ?_ _ | refine blk_drew ?_ | refine blk_alloc ?_ _)); exact BK131.out⟩, ⟨by (with_reducible repeat (first | refine blk_drewN ?_ _ | refine blk_drew ?_ | refine blk_alloc ?_ _)); exact BK132.out⟩, ⟨by repeat (first | (with_reducible first | exact HB.out | apply below_alloc | apply pw_below_drewN | apply below_drew1 | refine below_set ?_ GE131.out | refine below_set ?_ GE132.out) | exact HB.out)⟩⟩
     ·
      rw [if_neg c18] at H
      have c18b0 : decide (1431655765 < a0_1) = false := decide_eq_false c18
      clear c18
      (first | rw [c18b0] | (simp only [i64_w, i32_w]; rw [c18b0]) | skip)
      have H' := Aside0.mk H
      clear H
      have hnb21 := NB131_132.out
      have hnc21 := NB132_131.out
      have hcz22_0 : wc.cell? ⟨gb131, 0, none⟩ = some (.int .i32 a0_0) := (blk_cell BK131.out 0).trans rfl
      have hcz22_1 : wc.cell? ⟨gb131, 1, none⟩ = some (.int .u32 a0_1) := (blk_cell BK131.out 1).trans rfl
      have hcz22_2 : wc.cell? ⟨gb131, 2, none⟩ = some (.slice A0_2 l0_2.length c0_2) := (blk_cell BK131.out 2).trans rfl
      have hfz22_0 := blk_frozen BK131.out 0
      have hfz22_1 := blk_frozen BK131.out 1
      have hfz22_2 := blk_frozen BK131.out 2
      go_wp2
      go_meet
      case rel => exact ⟨_, (x6_4), (by first | rfl | (simp; done) | (simp [*]; done)), H', ⟨by have := HJ4.out; first | omega | exact Nat.le_refl _⟩, ⟨by (with_reducible repeat (first | refine blk_drewN ?_ _ | refine blk_drew ?_ | refine blk_alloc ?_ _)); exact BK131.out⟩, ⟨by (with_reducible repeat (first | refine blk_drewN ?_ _ | refine blk_drew ?_ | refine blk_alloc ?_ _)); exact BK132.out⟩, ⟨by repeat (first | (with_reducible first | exact HB.out | apply below_alloc | apply pw_below_drewN | apply below_drew1 | refine below_set ?_ GE131.out | refine below_set ?_ GE132.out) | exact HB.out)⟩⟩
    case rest =>
     clear HC17
     try clear c1
     try clear c2
     try clear p2
     try clear c4
     try clear c4b0
     try clear c4b1
     try clear c6
     try clear c7
     try clear c8
     try clear c11
     try clear c11b0
     try clear c11b1
     try clear c13
     try clear c15
     try clear c18
     try clear c18b0
     try clear c19
     try clear c21
     try clear hcz10_0
     try clear hcz14_0
     try clear hcz14_1
     try clear hcz14_2
     try clear hcz16_0
     try clear hcz16_1
     try clear hcz16_2
     try clear hcz20_0
     try clear hcz20_1
     try clear hcz20_2
     try clear hcz22_0
     try clear hcz22_1
     try clear hcz22_2
     try clear hcz9_0
     try clear hcz9_1
     try clear hcz9_2
     try clear hfz10_0
     try clear hfz14_0
     try clear hfz14_1
     try clear hfz14_2
     try clear hfz16_0
     try clear hfz16_1
     try clear hfz16_2
     try clear hfz20_0
     try clear hfz20_1
     try clear hfz20_2
     try clear hfz22_0
     try clear hfz22_1
     try clear hfz22_2
     try clear hfz9_0
     try clear hfz9_1
     try clear hfz9_2
     try clear p2
     obtain ⟨kq, x23_16, rfl, HA, HJ16, BK131, BK132, HB⟩ := hcut
     cases kq with
     | zero => exact absurd HA.out (by simp [group_Right.j1])
     | succ kj16 =>
      have H := HA.out
      clear HA
      simp only [group_Right.j1] at H
      by_cases c23 : x23_16 = true
      ·
       subst c23
       have H1 : (some 21) = some r := by rw [if_pos rfl] at H; exact H
       clear H
       have H := H1
       clear H1
       obtain rfl := Option.some.inj H
       go_wp2
       go_ret
       exact ⟨by first | rfl | (simp [errW_none, errW_some] <;> rfl) | (simp [*, errW_none, errW_some] <;> rfl), by repeat (first | (with_reducible first | exact HB.out | apply below_alloc | apply pw_below_drewN | apply below_drew1 | refine below_set ?_ GE131.out | refine below_set ?_ GE132.out) | exact HB.out)⟩
      ·
       replace c23 := Bool.eq_false_iff.mpr c23
       subst c23
       have H1 : ((group_Right_2_any.f l0_2 a1).bind fun t135 => (if t135 = true then (some 11) else (some 0))) = some r := by rw [if_neg (show ¬ (false = true) by decide)] at H; exact H
       clear H
       have H := H1
       clear H1
       replace H := Option.bind_eq_some_iff.mp H
       obtain ⟨t135, A240, H⟩ := H
       replace H : (if t135 = true then (some 11) else (some 0)) = some r := H
       have A24 := Aside0.mk A240
       clear A240
       by_cases c25 : t135 = true
       ·
        subst c25
        have H1 : (some 11) = some r := by rw [if_pos rfl] at H; exact H
        clear H
        have H := H1
        clear H1
        obtain rfl := Option.some.inj H
        have hnb26 := NB131_132.out
        have hnc26 := NB132_131.out
        have hcz27_0 : wc.cell? ⟨gb131, 0, none⟩ = some (.int .i32 a0_0) := (blk_cell BK131.out 0).trans rfl
        have hcz27_1 : wc.cell? ⟨gb131, 1, none⟩ = some (.int .u32 a0_1) := (blk_cell BK131.out 1).trans rfl
        have hcz27_2 : wc.cell? ⟨gb131, 2, none⟩ = some (.slice A0_2 l0_2.length c0_2) := (blk_cell BK131.out 2).trans rfl
        have hfz27_0 := blk_frozen BK131.out 0
        have hfz27_1 := blk_frozen BK131.out 1
        have hfz27_2 := blk_frozen BK131.out 2
        have hcz28_0 : wc.cell? ⟨gb132, 0, none⟩ = some (.int .i64 a1) := (blk_cell BK132.out 0).trans rfl
        have hfz28_0 := blk_frozen BK132.out 0
        go_wp2_with (first | ((with_reducible refine gate_callee (f := 75) rfl ?_); refine goesL_ (some 34) rfl rfl Try.func75 (by kernel_rfl) rfl #[.slice A0_2 l0_2.length c0_2, .func (.func 77) #[] #[.pointer (some ⟨gb132, 0, none⟩)]] rfl (by (try simp only [List.map_toArray, List.map_cons, List.map_nil]); first | done | rfl | (simp only [List.length_drop, List.length_take]; rfl)) ?_; (with_reducible refine (group_Right_2_any.calls _ _ l0_2 gb132 a1 true _ ?side1 ?side2 ?side3 A24.out).mono ?_); (case side1 => repeat (first | exact (Kd.C_below HR0_2.out HB.out) | (with_reducible refine Kd.C_alloc ?_ _) | (with_reducible refine Kd.C_drewN ?_ _) | (with_reducible refine Kd.C_drew ?_))); (case side2 => exact HC0_2.out); (case side3 => exact by (with_reducible repeat (first | refine blk_drewN ?_ _ | refine blk_drew ?_ | refine blk_alloc ?_ _)); exact BK132.out); rintro e w' ⟨rfl, ⟨nd, rfl⟩⟩; refine ⟨_, rfl, ?_⟩))
        go_ret
        exact ⟨by first | rfl | (simp [errW_none, errW_some] <;> rfl) | (simp [*, errW_none, errW_some] <;> rfl), by repeat (first | (with_reducible first | exact HB.out | apply below_alloc | apply pw_below_drewN | apply below_drew1 | refine below_set ?_ GE131.out | refine below_set ?_ GE132.out) | exact HB.out)⟩
       ·
        replace c25 := Bool.eq_false_iff.mpr c25
        subst c25
        have H1 : (some 0) = some r := by rw [if_neg (show ¬ (false = true) by decide)] at H; exact H
        clear H
        have H := H1
        clear H1
        obtain rfl := Option.some.inj H
        have hnb29 := NB131_132.out
        have hnc29 := NB132_131.out
        have hcz30_0 : wc.cell? ⟨gb131, 0, none⟩ = some (.int .i32 a0_0) := (blk_cell BK131.out 0).trans rfl
        have hcz30_1 : wc.cell? ⟨gb131, 1, none⟩ = some (.int .u32 a0_1) := (blk_cell BK131.out 1).trans rfl
        have hcz30_2 : wc.cell? ⟨gb131, 2, none⟩ = some (.slice A0_2 l0_2.length c0_2) := (blk_cell BK131.out 2).trans rfl
        have hfz30_0 := blk_frozen BK131.out 0
        have hfz30_1 := blk_frozen BK131.out 1
        have hfz30_2 := blk_frozen BK131.out 2
        have hcz31_0 : wc.cell? ⟨gb132, 0, none⟩ = some (.int .i64 a1) := (blk_cell BK132.out 0).trans rfl
        have hfz31_0 := blk_frozen BK132.out 0
        go_wp2_with (first | ((with_reducible refine gate_callee (f := 75) rfl ?_); refine goesL_ (some 34) rfl rfl Try.func75 (by kernel_rfl) rfl #[.slice A0_2 l0_2.length c0_2, .func (.func 77) #[] #[.pointer (some ⟨gb132, 0, none⟩)]] rfl (by (try simp only [List.map_toArray, List.map_cons, List.map_nil]); first | done | rfl | (simp only [List.length_drop, List.length_take]; rfl)) ?_; (with_reducible refine (group_Right_2_any.calls _ _ l0_2 gb132 a1 false _ ?side1 ?side2 ?side3 A24.out).mono ?_); (case side1 => repeat (first | exact (Kd.C_below HR0_2.out HB.out) | (with_reducible refine Kd.C_alloc ?_ _) | (with_reducible refine Kd.C_drewN ?_ _) | (with_reducible refine Kd.C_drew ?_))); (case side2 => exact HC0_2.out); (case side3 => exact by (with_reducible repeat (first | refine blk_drewN ?_ _ | refine blk_drew ?_ | refine blk_alloc ?_ _)); exact BK132.out); rintro e w' ⟨rfl, ⟨nd, rfl⟩⟩; refine ⟨_, rfl, ?_⟩))
        go_ret
        exact ⟨by first | rfl | (simp [errW_none, errW_some] <;> rfl) | (simp [*, errW_none, errW_some] <;> rfl), by repeat (first | (with_reducible first | exact HB.out | apply below_alloc | apply pw_below_drewN | apply below_drew1 | refine below_set ?_ GE131.out | refine below_set ?_ GE132.out) | exact HB.out)⟩
 ·
  rw [if_neg c4] at H
  have c4b0 : (t133 == 0) = false := beq_eq_false_iff_ne.mpr c4
  have c4b1 : (t133 != 0) = true := bne_iff_ne.mpr c4
  obtain rfl := Option.some.inj H
  go_enter Try.func73, Try.ntmps73
  go_wp2_with (first | ((with_reducible refine gate_dst (N := 2) rfl ?_); refine box_event ?hg (N := 2) ?hd (cs := #[.int .i32 a0_0, .int .u32 a0_1, .slice A0_2 l0_2.length c0_2]) (t := 117) ?hr ?_; (case hd => rfl); (case hg => rfl); (case hr => first | (go_simp; done) | (go_simp; rfl)); intro gb131 hg w32 hbox hb; have n0_ := Aside0.mk (below_step (by repeat (first | (with_reducible first | exact HB.out | apply below_alloc | apply pw_below_drewN | apply below_drew1) | exact HB.out)) hb); have n1_ := Aside0.mk (hbox); have n2_ := Aside0.mk ((by rw [hg]; exact (below_size (by repeat (first | (with_reducible first | exact HB.out | apply below_alloc | apply pw_below_drewN | apply below_drew1) | exact HB.out))) : w.heap.size ≤ gb131)); have n3_ := Aside0.mk ((by rw [hg]; exact (below_size (by repeat (first | (with_reducible first | exact HB.out | apply below_alloc | apply pw_below_drewN | apply below_drew1) | exact HB.out))) : w.heap.size ≤ gb131)); clear HB; have HB := n0_; have BK131 := n1_; have GW131 := n2_; have GE131 := n3_; clear n0_ n1_ n2_ n3_; clear hb hbox hg) | ((with_reducible refine gate_dst (N := 3) rfl ?_); refine box_event ?hg (N := 3) ?hd (cs := #[.int .i64 a1]) (t := 3) ?hr ?_; (case hd => rfl); (case hg => rfl); (case hr => first | (go_simp; done) | (go_simp; rfl)); intro gb132 hg w33 hbox hb; have n0_ := Aside0.mk (blk_below (g := gb131) (o := .cells #[.int .i32 a0_0, .int .u32 a0_1, .slice A0_2 l0_2.length c0_2] 117 (0, 0)) (by (with_reducible repeat (first | refine blk_drewN ?_ _ | refine blk_drew ?_ | refine blk_alloc ?_ _)); exact BK131.out) hb); have n1_ := Aside0.mk (below_step (by repeat (first | (with_reducible first | exact HB.out | apply below_alloc | apply pw_below_drewN | apply below_drew1 | refine below_set ?_ GE131.out) | exact HB.out)) hb); have n2_ := Aside0.mk (hbox); have n3_ := Aside0.mk ((by rw [hg]; exact (below_size (by repeat (first | (with_reducible first | exact HB.out | apply below_alloc | apply pw_below_drewN | apply below_drew1 | refine below_set ?_ GE131.out) | exact HB.out))) : w.heap.size ≤ gb132)); have n4_ := Aside0.mk ((by rw [hg]; exact (below_size (by repeat (first | (with_reducible first | exact HB.out | apply below_alloc | apply pw_below_drewN | apply below_drew1 | refine below_set ?_ GE131.out) | exact HB.out))) : w.heap.size ≤ gb132)); have n5_ := Aside0.mk ((by rw [hg]; exact Nat.ne_of_lt (blk_lt (g := gb131) (o := .cells #[.int .i32 a0_0, .int .u32 a0_1, .slice A0_2 l0_2.length c0_2] 117 (0, 0)) (by (with_reducible repeat (first | refine blk_drewN ?_ _ | refine blk_drew ?_ | refine blk_alloc ?_ _)); exact BK131.out)) : gb131 ≠ gb132)); have n6_ := Aside0.mk ((by rw [hg]; exact Nat.ne_of_gt (blk_lt (g := gb131) (o := .cells #[.int .i32 a0_0, .int .u32 a0_1, .slice A0_2 l0_2.length c0_2] 117 (0, 0)) (by (with_reducible repeat (first | refine blk_drewN ?_ _ | refine blk_drew ?_ | refine blk_alloc ?_ _)); exact BK131.out)) : gb132 ≠ gb131)); clear BK131; clear HB; have BK131 := n0_; have HB := n1_; have BK132 := n2_; have GW132 := n3_; have GE132 := n4_; have NB131_132 := n5_; have NB132_131 := n6_; clear n0_ n1_ n2_ n3_ n4_ n5_ n6_; clear hb hbox hg; have hnb34 := NB131_132.out; have hnc34 := NB132_131.out; have hcz35_0 : w33.cell? ⟨gb131, 0, none⟩ = some (.int .i32 a0_0) := (blk_cell BK131.out 0).trans rfl; have hcz35_1 : w33.cell? ⟨gb131, 1, none⟩ = some (.int .u32 a0_1) := (blk_cell BK131.out 1).trans rfl; have hcz35_2 : w33.cell? ⟨gb131, 2, none⟩ = some (.slice A0_2 l0_2.length c0_2) := (blk_cell BK131.out 2).trans rfl; have hfz35_0 := blk_frozen BK131.out 0; have hfz35_1 := blk_frozen BK131.out 1; have hfz35_2 := blk_frozen BK131.out 2; have hcz36_0 : w33.cell? ⟨gb132, 0, none⟩ = some (.int .i64 a1) := (blk_cell BK132.out 0).trans rfl; have hfz36_0 := blk_frozen BK132.out 0) | ((with_reducible refine gate_callee (f := 67) rfl ?_); refine goesL_ (some 11) rfl rfl Try.func67 (by kernel_rfl) rfl #[.int .i64 (l0_2.length : Int), .int .i64 a1] rfl (by (try simp only [List.map_toArray, List.map_cons, List.map_nil]); first | done | rfl | (simp only [List.length_drop, List.length_take]; rfl)) ?_; (with_reducible refine (group_many.calls (l0_2.length : Int) a1 t133 _ A3.out).mono ?_); rintro e w' ⟨rfl, ⟨nd, rfl⟩⟩; refine ⟨_, rfl, ?_⟩))
  go_ret
  exact ⟨by first | rfl | (simp [errW_none, errW_some] <;> rfl) | (simp [*, errW_none, errW_some] <;> rfl), by repeat (first | (with_reducible first | exact HB.out | apply below_alloc | apply pw_below_drewN | apply below_drew1 | refine below_set ?_ GE131.out | refine below_set ?_ GE132.out) | exact HB.out)⟩

/-! ### pack_many: function 78 -/
def pack_many.f (a0 : Int) : Option (Bool) := if a0 ≥ 0 then (some (decide (a0 ≤ 256))) else (some false)
set_option maxHeartbeats 8000000 in
set_option maxRecDepth 100000 in
theorem pack_many.calls (a0 : Int) (r : Bool) (w : World) (h : pack_many.f a0 = some r) :
  Calls Try.prog 78 #[.int .i64 a0] w fun e w' => e = .returned (.bool r) ∧ Drawn0 w w' := by
 have H : (if a0 ≥ 0 then (some (decide (a0 ≤ 256))) else (some false)) = some r := h
 clear h
 by_cases c2 : a0 ≥ 0
 ·
  rw [if_pos c2] at H
  have c2b0 : decide (0 ≤ a0) = true := decide_eq_true c2
  clear c2
  obtain rfl := Option.some.inj H
  go_enter Try.func78, Try.ntmps78
  go_wp2
  go_ret
  exact ⟨by first | rfl | (simp; done) | (simp [*]; done), by repeat (first | exact Drawn0.refl _ | apply Drawn0.step)⟩
 ·
  rw [if_neg c2] at H
  have c2b0 : decide (0 ≤ a0) = false := decide_eq_false c2
  clear c2
  obtain rfl := Option.some.inj H
  go_enter Try.func78, Try.ntmps78
  go_wp2
  go_ret
  exact ⟨by first | rfl | (simp; done) | (simp [*]; done), by repeat (first | exact Drawn0.refl _ | apply Drawn0.step)⟩

/-! ### pack_Words: function 80 -/
def pack_Words.f (a0 : Int) (a1 : Int) : Option (Int) := (pack_Bits.f a1).bind fun t136 => (if t136 = true then ((pack_many.f a0).bind fun t137 => (if t137 = true then (some (wrap64 (Int.tdiv (wrap64 ((wrap64 ((wrap64 (a0 * a1)) + 64)) - 1)) 64))) else (some 0))) else (some 0))
set_option maxHeartbeats 8000000 in
set_option maxRecDepth 100000 in
theorem pack_Words.calls (a0 : Int) (a1 : Int) (r : Int) (w : World) (h : pack_Words.f a0 a1 = some r) :
  Calls Try.prog 80 #[.int .i64 a0, .int .i64 a1] w fun e w' => e = .returned (.int .i64 r) ∧ Drawn0 w w' := by
 have H : ((pack_Bits.f a1).bind fun t136 => (if t136 = true then ((pack_many.f a0).bind fun t137 => (if t137 = true then (some (wrap64 (Int.tdiv (wrap64 ((wrap64 ((wrap64 (a0 * a1)) + 64)) - 1)) 64))) else (some 0))) else (some 0))) = some r := h
 clear h
 replace H := Option.bind_eq_some_iff.mp H
 obtain ⟨t136, A30, H⟩ := H
 replace H : (if t136 = true then ((pack_many.f a0).bind fun t137 => (if t137 = true then (some (wrap64 (Int.tdiv (wrap64 ((wrap64 ((wrap64 (a0 * a1)) + 64)) - 1)) 64))) else (some 0))) else (some 0)) = some r := H
 have A3 := Aside0.mk A30
 clear A30
 by_cases c4 : t136 = true
 ·
  subst c4
  have H1 : ((pack_many.f a0).bind fun t137 => (if t137 = true then (some (wrap64 (Int.tdiv (wrap64 ((wrap64 ((wrap64 (a0 * a1)) + 64)) - 1)) 64))) else (some 0))) = some r := by rw [if_pos rfl] at H; exact H
  clear H
  have H := H1
  clear H1
  replace H := Option.bind_eq_some_iff.mp H
  obtain ⟨t137, A50, H⟩ := H
  replace H : (if t137 = true then (some (wrap64 (Int.tdiv (wrap64 ((wrap64 ((wrap64 (a0 * a1)) + 64)) - 1)) 64))) else (some 0)) = some r := H
  have A5 := Aside0.mk A50
  clear A50
  by_cases c6 : t137 = true
  ·
   subst c6
   have H1 : (some (wrap64 (Int.tdiv (wrap64 ((wrap64 ((wrap64 (a0 * a1)) + 64)) - 1)) 64))) = some r := by rw [if_pos rfl] at H; exact H
   clear H
   have H := H1
   clear H1
   obtain rfl := Option.some.inj H
   go_enter Try.func80, Try.ntmps80
   go_wp2_with (first | ((with_reducible refine gate_callee (f := 65) rfl ?_); refine goesL_ (some 6) rfl rfl Try.func65 (by kernel_rfl) rfl #[.int .i64 a1] rfl (by (try simp only [List.map_toArray, List.map_cons, List.map_nil]); first | done | rfl | (simp only [List.length_drop, List.length_take]; rfl)) ?_; (with_reducible refine (pack_Bits.calls a1 true _ A3.out).mono ?_); rintro e w' ⟨rfl, ⟨nd, rfl⟩⟩; refine ⟨_, rfl, ?_⟩) | (go_at_call 78; (with_reducible refine (pack_many.calls a0 true _ A5.out).mono ?_); rintro e w' ⟨rfl, ⟨nd, rfl⟩⟩))
   go_ret
   exact ⟨by first | rfl | (simp; done) | (simp [*]; done), by repeat (first | exact Drawn0.refl _ | apply Drawn0.step)⟩
  ·
   replace c6 := Bool.eq_false_iff.mpr c6
   subst c6
   have H1 : (some 0) = some r := by rw [if_neg (show ¬ (false = true) by decide)] at H; exact H
   clear H
   have H := H1
   clear H1
   obtain rfl := Option.some.inj H
   go_enter Try.func80, Try.ntmps80
   go_wp2_with (first | ((with_reducible refine gate_callee (f := 65) rfl ?_); refine goesL_ (some 6) rfl rfl Try.func65 (by kernel_rfl) rfl #[.int .i64 a1] rfl (by (try simp only [List.map_toArray, List.map_cons, List.map_nil]); first | done | rfl | (simp only [List.length_drop, List.length_take]; rfl)) ?_; (with_reducible refine (pack_Bits.calls a1 true _ A3.out).mono ?_); rintro e w' ⟨rfl, ⟨nd, rfl⟩⟩; refine ⟨_, rfl, ?_⟩) | (go_at_call 78; (with_reducible refine (pack_many.calls a0 false _ A5.out).mono ?_); rintro e w' ⟨rfl, ⟨nd, rfl⟩⟩))
   go_ret
   exact ⟨by first | rfl | (simp; done) | (simp [*]; done), by repeat (first | exact Drawn0.refl _ | apply Drawn0.step)⟩
 ·
  replace c4 := Bool.eq_false_iff.mpr c4
  subst c4
  have H1 : (some 0) = some r := by rw [if_neg (show ¬ (false = true) by decide)] at H; exact H
  clear H
  have H := H1
  clear H1
  obtain rfl := Option.some.inj H
  go_enter Try.func80, Try.ntmps80
  go_wp2_with (first | ((with_reducible refine gate_callee (f := 65) rfl ?_); refine goesL_ (some 6) rfl rfl Try.func65 (by kernel_rfl) rfl #[.int .i64 a1] rfl (by (try simp only [List.map_toArray, List.map_cons, List.map_nil]); first | done | rfl | (simp only [List.length_drop, List.length_take]; rfl)) ?_; (with_reducible refine (pack_Bits.calls a1 false _ A3.out).mono ?_); rintro e w' ⟨rfl, ⟨nd, rfl⟩⟩; refine ⟨_, rfl, ?_⟩))
  go_ret
  exact ⟨by first | rfl | (simp; done) | (simp [*]; done), by repeat (first | exact Drawn0.refl _ | apply Drawn0.step)⟩

/-! ### pack_Pack_1_any: function 75 at 79 -/
def pack_Pack_1.ok (b : Int) : Bool := decide (0 ≤ b) && decide (b ≤ 62)
def pack_Pack_1.p (b x : Int) : Bool := decide (x < 0) || decide (2 ^ b.toNat ≤ x)
set_option maxHeartbeats 8000000 in
set_option maxRecDepth 100000 in
theorem pack_Pack_1.calls (g : Nat) (b x : Int) (w : World) (hg : w.heap[g]? = some (.cells #[.int .i64 b] 3 (0, 0))) (hk : pack_Pack_1.ok b = true) :
  Calls Try.prog 79 #[.int .i64 x, .pointer (some ⟨g, 0, none⟩)] w fun e w' => e = .returned (.bool (pack_Pack_1.p b x)) ∧ Drawn0 w w' := by
 have hk2 : 0 ≤ b ∧ b ≤ 62 := by simpa [pack_Pack_1.ok] using hk
 have h0 : 0 ≤ b := hk2.1
 have h62 : b ≤ 62 := hk2.2
 have hpow : (2 : Int) ^ b.toNat ≤ 2 ^ 62 := by
  have h1 : (2 : Nat) ^ b.toNat ≤ 2 ^ 62 := Nat.pow_le_pow_right (by decide) (by omega)
  exact_mod_cast h1
 have hpos : (0 : Int) < 2 ^ b.toNat := Int.pow_pos (by decide)
 have hwr : wrap64 (2 ^ b.toNat) = 2 ^ b.toNat := by
  have : (2 : Int) ^ 62 = 4611686018427387904 := by decide
  unfold wrap64
  omega
 have hcell : w.cell? ⟨g, 0, none⟩ = some (.int .i64 b) := (blk_cell hg 0).trans rfl
 obtain ⟨q, hq⟩ : ∃ q : Bool, pack_Pack_1.p b x = q := ⟨_, rfl⟩
 have HQ := Aside0.mk hq
 rw [hq]
 have HW := Aside0.mk hwr
 clear hq hk hk2 hpow hpos hwr hg
 by_cases hx : x < 0
 ·
  have hx1 : decide (x < 0) = true := decide_eq_true hx
  go_enter Try.func79, Try.ntmps79
  go_wp2
  all_goals (first | (go_ret; exact ⟨by rw [← HQ.out]; simp [pack_Pack_1.p, hx], Drawn0.refl _⟩) | (exfalso; omega))
 ·
  have hx1 : decide (x < 0) = false := decide_eq_false hx
  go_enter Try.func79, Try.ntmps79
  go_wp2
  all_goals (first | (go_ret; exact ⟨by rw [← HQ.out]; simp only [pack_Pack_1.p, hx1, HW.out, Bool.false_or]; rfl, Drawn0.refl _⟩) | (exfalso; omega))

def pack_Pack_1_any.f (l0 : List Int) (b : Int) : Option Bool := if pack_Pack_1.ok b = true then some (l0.any (pack_Pack_1.p b)) else none
set_option maxHeartbeats 8000000 in
set_option maxRecDepth 100000 in
theorem pack_Pack_1_ix.calls (A0 : Option Addr) (c0 : Nat) (l0 : List Int) (g : Nat) (b : Int) (w : World) (hr0 : Kd.C (Kd.int .i64) w A0 l0.length l0) (hg : w.heap[g]? = some (.cells #[.int .i64 b] 3 (0, 0))) (hk : pack_Pack_1.ok b = true) :
  Calls Try.prog 81 #[.slice A0 l0.length c0, .func (.func 79) #[] #[.pointer (some ⟨g, 0, none⟩)]] w fun e w' => ∃ r : Int, e = .returned (.int .i64 r) ∧ Aside0 (decide (0 ≤ r) = l0.any (pack_Pack_1.p b)) ∧ Drawn0 w w' := by
 have HR0 := Aside0.mk hr0
 have HG := Aside0.mk hg
 have HK := Aside0.mk hk
 clear hr0 hg hk
 go_enter Try.func81, Try.ntmps81
 go_wp2
 go_loopw [8, 5] (fun i _ w' => ∃ n : Nat, n ≤ l0.length ∧ i = .int .i64 n ∧ Aside0 ((l0.take n).any (pack_Pack_1.p b) = false) ∧ Drawn0 w w') (fun i _ _ => l0.length - (intOf i).toNat)
 case atStart => exact ⟨0, Nat.zero_le _, rfl, ⟨by simp⟩, Drawn0.refl _⟩
 case round =>
  obtain ⟨n, hn, rfl, HA, ⟨m, rfl⟩⟩ := hrel
  have hl63 := HR0.out.2.1
  by_cases c : n < l0.length
  ·
   have c1 : decide ((n : Int) < (l0.length : Int)) = true := decide_eq_true (by omega)
   have c2 : decide (n < l0.length) = true := decide_eq_true c
   have hp0 : (0 : Int) ≤ (n : Int) := by omega
   have hq0 : (n : Int) < (l0.length : Int) := by omega
   obtain ⟨ad, e1, hx⟩ := Kd.at_int HR0.out (n : Int) hp0 hq0
   cases e1
   have hx2 : w.cell? (ad.add n) = some (.int .i64 (rd l0 (n : Int))) := by simpa using hx
   have hx3 : (w.drewN m).cell? (ad.add n) = some (.int .i64 (rd l0 (n : Int))) := hx2
   obtain ⟨y, hy⟩ : ∃ y : Int, rd l0 (n : Int) = y := ⟨_, rfl⟩
   rw [hy] at hx hx2 hx3
   obtain ⟨q, hq⟩ : ∃ q : Bool, pack_Pack_1.p b y = q := ⟨_, rfl⟩
   have CC := Aside0.mk (fun (W : World) (hW : W.heap[g]? = some (.cells #[.int .i64 b] 3 (0, 0))) => by
    have h1 := pack_Pack_1.calls g b y W hW HK.out
    rw [hq] at h1
    exact h1)
   have HT : Aside0 ((l0.take (n + 1)).any (pack_Pack_1.p b) = q) := ⟨by
    rw [List.take_succ_eq_append_getElem c, List.any_append, HA.out]
    have : l0[n] = y := by rw [← hy]; simp [rd, List.getElem?_eq_getElem c]
    simp [this, hq]⟩
   have HMEM : Aside0 (pack_Pack_1.p b y = true → l0.any (pack_Pack_1.p b) = true) := ⟨fun h => by
    rw [List.any_eq_true]
    refine ⟨y, ?_, h⟩
    have : l0[n] = y := by rw [← hy]; simp [rd, List.getElem?_eq_getElem c]
    rw [← this]
    exact List.getElem_mem c⟩
   have HQ := Aside0.mk hq
   have HG2 := Aside0.mk (show (w.drewN m).heap[g]? = some (.cells #[.int .i64 b] 3 (0, 0)) from HG.out)
   clear hq hy HA
   cases q with
   | true =>
    go_wp2_with (first | (go_at_call 79; (with_reducible refine (CC.out _ HG2.out).mono ?_); rintro e w' ⟨rfl, ⟨nd, rfl⟩⟩))
    go_ret
    exact ⟨_, rfl, ⟨by rw [HMEM.out HQ.out]; simp⟩, by repeat (first | exact Drawn0.refl _ | apply Drawn0.step)⟩
   | false =>
    go_wp2_with (first | (go_at_call 79; (with_reducible refine (CC.out _ HG2.out).mono ?_); rintro e w' ⟨rfl, ⟨nd, rfl⟩⟩))
    go_roundw
    case rel => exact ⟨n + 1, by omega, by go_num, HT, by repeat (first | exact Drawn0.refl _ | apply Drawn0.step)⟩
    case measure => simp [intOf]; omega
  ·
   have c1 : decide ((n : Int) < (l0.length : Int)) = false := decide_eq_false (by omega)
   have c2 : decide (n < l0.length) = false := decide_eq_false c
   have hnl : n = l0.length := by omega
   subst hnl
   go_wp2
   go_ret
   exact ⟨_, rfl, ⟨by have h1 := HA.out; rw [List.take_length] at h1; rw [h1]; rfl⟩, by repeat (first | exact Drawn0.refl _ | apply Drawn0.step)⟩
set_option maxHeartbeats 8000000 in
set_option maxRecDepth 100000 in
theorem pack_Pack_1_any.calls (A0 : Option Addr) (c0 : Nat) (l0 : List Int) (g : Nat) (b : Int) (r : Bool) (w : World) (hr0 : Kd.C (Kd.int .i64) w A0 l0.length l0) (hc0 : l0.length ≤ c0) (hg : w.heap[g]? = some (.cells #[.int .i64 b] 3 (0, 0))) (h : pack_Pack_1_any.f l0 b = some r) :
  Calls Try.prog 75 #[.slice A0 l0.length c0, .func (.func 79) #[] #[.pointer (some ⟨g, 0, none⟩)]] w fun e w' => e = .returned (.bool r) ∧ Drawn0 w w' := by
 have h2 : (if pack_Pack_1.ok b = true then some (l0.any (pack_Pack_1.p b)) else none) = some r := h
 clear h
 by_cases hk : pack_Pack_1.ok b = true
 ·
  rw [if_pos hk] at h2
  have HS := Aside0.mk (Option.some.inj h2)
  have HR0 := Aside0.mk hr0
  have HG := Aside0.mk hg
  have HK := Aside0.mk hk
  clear hr0 hg hk h2 hc0
  go_enter Try.func75, Try.ntmps75
  go_wp2_with (first | (go_at_call 81; (with_reducible refine (pack_Pack_1_ix.calls A0 c0 l0 g b _ HR0.out HG.out HK.out).mono ?_); rintro e w' ⟨r1, rfl, HE, ⟨nd, rfl⟩⟩))
  go_ret
  exact ⟨by rw [← HS.out, ← HE.out]; rfl, by repeat (first | exact Drawn0.refl _ | apply Drawn0.step)⟩
 ·
  rw [if_neg hk] at h2
  cases h2

end Go.Proofs.Ytoofkemhikigoaa.PBlockPlays
