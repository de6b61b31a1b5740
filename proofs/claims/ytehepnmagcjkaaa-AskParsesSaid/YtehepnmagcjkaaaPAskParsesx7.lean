-- Written by a program of this session (wip/tools/mkprint.py over the kit's print).
import Derived.Test.YtehepnmagcjkaaaPAskParsesx0
namespace Go.Proofs.Ytehepnmagcjkaaa.PAskParses
open Go.RowKit Go.Proofs.YtehepnmagcjkaaaW.PrintWords Go.Proofs.YtehepnmagcjkaaaW.PrintLast Go.Proofs.YtehepnmagcjkaaaW.PrintMore
attribute [local go_sem] max2_int min2_int max_two min_two max_three min_three max_four min_four   -- for this text's walks alone
set_option linter.unusedVariables false
set_option linter.unusedSimpArgs false

/-! ### credenzaref22_Ranged: function 42 -/
mutual
def credenzaref22_Ranged.j0 : Nat → Bool → Int → Int → List Int → Int → Int → Int → Int → Int → Int → Option (Bool)
 | 0, _, _, _, _, _, _, _, _, _, _ => none
 | k + 1, x22, x266000, x266001, x266002, x266003, x266004, x266005, x266006, x266007, x266008 => if x22 = true then (some false) else (credenzaref22_Ranged.l0 k 0 x266000 x266001 x266002 x266003 x266004 x266005 x266006 x266007 x266008)
def credenzaref22_Ranged.l0 : Nat → Int → Int → Int → List Int → Int → Int → Int → Int → Int → Int → Option (Bool)
 | 0, _, _, _, _, _, _, _, _, _, _ => none
 | k + 1, x3, x266000, x266001, x266002, x266003, x266004, x266005, x266006, x266007, x266008 => if x3 < (x266002.length : Int) then (if 0 ≤ x3 then (if (rd x266002 x3) < 0 then (some false) else (if (rd x266002 x3) > 255 then (some false) else (credenzaref22_Ranged.l0 k (wrap64 (x3 + 1)) x266000 x266001 x266002 x266003 x266004 x266005 x266006 x266007 x266008))) else (none)) else (if x266003 ≥ 0 then (if x266003 ≤ 65535 then (if x266004 ≥ (-1) then (if x266004 ≤ 254 then (if x266005 ≥ 0 then (if x266006 ≥ 0 then (some (decide (x266006 ≤ 255))) else (some false)) else (some false)) else (some false)) else (some false)) else (some false)) else (some false))
end
def credenzaref22_Ranged.f (k : Nat) (a0_0 : Int) (a0_1 : Int) (l0_2 : List Int) (a0_3 : Int) (a0_4 : Int) (a0_5 : Int) (a0_6 : Int) (a0_7 : Int) (a0_8 : Int) : Option (Bool) := if a0_0 = 3 then (if a0_8 < 1 then (credenzaref22_Ranged.j0 k true a0_0 a0_1 l0_2 a0_3 a0_4 a0_5 a0_6 a0_7 a0_8) else (if a0_8 < 0 then (credenzaref22_Ranged.j0 k true a0_0 a0_1 l0_2 a0_3 a0_4 a0_5 a0_6 a0_7 a0_8) else (credenzaref22_Ranged.j0 k (decide (a0_8 > 255)) a0_0 a0_1 l0_2 a0_3 a0_4 a0_5 a0_6 a0_7 a0_8))) else (if a0_8 < 0 then (credenzaref22_Ranged.j0 k true a0_0 a0_1 l0_2 a0_3 a0_4 a0_5 a0_6 a0_7 a0_8) else (credenzaref22_Ranged.j0 k (decide (a0_8 > 255)) a0_0 a0_1 l0_2 a0_3 a0_4 a0_5 a0_6 a0_7 a0_8))
theorem credenzaref22_Ranged.mono_l : ∀ k, (∀ y0 y1 y2 y3 y4 y5 y6 y7 y8 y9, LeO (credenzaref22_Ranged.j0 k y0 y1 y2 y3 y4 y5 y6 y7 y8 y9) (credenzaref22_Ranged.j0 (k + 1) y0 y1 y2 y3 y4 y5 y6 y7 y8 y9)) ∧ (∀ y0 y1 y2 y3 y4 y5 y6 y7 y8 y9, LeO (credenzaref22_Ranged.l0 k y0 y1 y2 y3 y4 y5 y6 y7 y8 y9) (credenzaref22_Ranged.l0 (k + 1) y0 y1 y2 y3 y4 y5 y6 y7 y8 y9))
 | 0 => ⟨fun _ _ _ _ _ _ _ _ _ _ r h => by simp [credenzaref22_Ranged.j0] at h, fun _ _ _ _ _ _ _ _ _ _ r h => by simp [credenzaref22_Ranged.l0] at h⟩
 | k + 1 => by
  obtain ⟨ih0, ih1⟩ := credenzaref22_Ranged.mono_l k
  refine ⟨?_, ?_⟩
  ·
   intro y0 y1 y2 y3 y4 y5 y6 y7 y8 y9
   unfold credenzaref22_Ranged.j0
   repeat' first
   | (with_reducible exact ih0 _ _ _ _ _ _ _ _ _ _)
   | (with_reducible exact ih1 _ _ _ _ _ _ _ _ _ _)
   | (with_reducible exact LeO.refl _)
   | (with_reducible exact LeO.none _)
   | (with_reducible refine LeO.ite ?_ ?_)
   | (with_reducible refine LeO.bind ?_ (fun _ => ?_))
   | exact ih0 _ _ _ _ _ _ _ _ _ _
   | exact ih1 _ _ _ _ _ _ _ _ _ _
   | exact LeO.none _
   | refine LeO.ite ?_ ?_
   | refine LeO.bind ?_ (fun _ => ?_)
  ·
   intro y0 y1 y2 y3 y4 y5 y6 y7 y8 y9
   unfold credenzaref22_Ranged.l0
   repeat' first
   | (with_reducible exact ih0 _ _ _ _ _ _ _ _ _ _)
   | (with_reducible exact ih1 _ _ _ _ _ _ _ _ _ _)
   | (with_reducible exact LeO.refl _)
   | (with_reducible exact LeO.none _)
   | (with_reducible refine LeO.ite ?_ ?_)
   | (with_reducible refine LeO.bind ?_ (fun _ => ?_))
   | exact ih0 _ _ _ _ _ _ _ _ _ _
   | exact ih1 _ _ _ _ _ _ _ _ _ _
   | exact LeO.none _
   | refine LeO.ite ?_ ?_
   | refine LeO.bind ?_ (fun _ => ?_)
theorem credenzaref22_Ranged.mono : ∀ a0 a1 a2 a3 a4 a5 a6 a7 a8 k, LeO (credenzaref22_Ranged.f k a0 a1 a2 a3 a4 a5 a6 a7 a8) (credenzaref22_Ranged.f (k + 1) a0 a1 a2 a3 a4 a5 a6 a7 a8) := by
 intro a0 a1 a2 a3 a4 a5 a6 a7 a8 k
 obtain ⟨ih0, ih1⟩ := credenzaref22_Ranged.mono_l k
 unfold credenzaref22_Ranged.f
 repeat' first
   | (with_reducible exact ih0 _ _ _ _ _ _ _ _ _ _)
   | (with_reducible exact ih1 _ _ _ _ _ _ _ _ _ _)
   | (with_reducible exact LeO.refl _)
   | (with_reducible exact LeO.none _)
   | (with_reducible refine LeO.ite ?_ ?_)
   | (with_reducible refine LeO.bind ?_ (fun _ => ?_))
   | exact ih0 _ _ _ _ _ _ _ _ _ _
   | exact ih1 _ _ _ _ _ _ _ _ _ _
   | exact LeO.none _
   | refine LeO.ite ?_ ?_
   | refine LeO.bind ?_ (fun _ => ?_)
set_option maxHeartbeats 8000000 in
set_option maxRecDepth 100000 in
theorem credenzaref22_Ranged.calls (k : Nat) (a0_0 : Int) (a0_1 : Int) (A0_2 : Option Addr) (c0_2 : Nat) (l0_2 : List Int) (a0_3 : Int) (a0_4 : Int) (a0_5 : Int) (a0_6 : Int) (a0_7 : Int) (a0_8 : Int) (r : Bool) (w : World) (hr0_2 : Kd.C (Kd.int .i64) w A0_2 l0_2.length l0_2) (hc0_2 : l0_2.length ≤ c0_2) (h : credenzaref22_Ranged.f k a0_0 a0_1 l0_2 a0_3 a0_4 a0_5 a0_6 a0_7 a0_8 = some r) :
  Calls Try.prog 42 #[.agg #[.int .i64 a0_0, .int .u32 a0_1, .slice A0_2 l0_2.length c0_2, .int .i64 a0_3, .int .i64 a0_4, .int .i32 a0_5, .int .i64 a0_6, .int .u64 a0_7, .int .i64 a0_8]] w fun e w' => e = .returned (.bool r) ∧ Below w.heap.size w w' := by
 have hu40 := Try.underlying40
 have hu38 := Try.underlying38
 have HR0_2 := Aside0.mk hr0_2
 have HC0_2 := Aside0.mk hc0_2
 clear hr0_2 hc0_2
 have HB := Aside0.mk (Below.refl w.heap.size w)
 have H : (if a0_0 = 3 then (if a0_8 < 1 then (credenzaref22_Ranged.j0 k true a0_0 a0_1 l0_2 a0_3 a0_4 a0_5 a0_6 a0_7 a0_8) else (if a0_8 < 0 then (credenzaref22_Ranged.j0 k true a0_0 a0_1 l0_2 a0_3 a0_4 a0_5 a0_6 a0_7 a0_8) else (credenzaref22_Ranged.j0 k (decide (a0_8 > 255)) a0_0 a0_1 l0_2 a0_3 a0_4 a0_5 a0_6 a0_7 a0_8))) else (if a0_8 < 0 then (credenzaref22_Ranged.j0 k true a0_0 a0_1 l0_2 a0_3 a0_4 a0_5 a0_6 a0_7 a0_8) else (credenzaref22_Ranged.j0 k (decide (a0_8 > 255)) a0_0 a0_1 l0_2 a0_3 a0_4 a0_5 a0_6 a0_7 a0_8))) = some r := h
 clear h
 have HC2 := Aside0.mk H
 clear H
 go_enter Try.func42, Try.ntmps42
 go_upto_region 1 with (first | ((with_reducible refine gate_dst (N := 1) rfl ?_); refine box_event ?hg (N := 1) ?hd (cs := #[.int .i64 a0_0, .int .u32 a0_1, .slice A0_2 l0_2.length c0_2, .int .i64 a0_3, .int .i64 a0_4, .int .i32 a0_5, .int .i64 a0_6, .int .u64 a0_7, .int .i64 a0_8]) (t := 40) ?hr ?_; (case hd => rfl); (case hg => rfl); (case hr => first | (go_simp; done) | (go_simp; rfl)); intro gb265 hg w3 hbox hb; have n0_ := Aside0.mk (below_step (by repeat (first | (with_reducible first | exact HB.out | apply below_alloc | apply pw_below_drewN | apply below_drew1) | exact HB.out)) hb); have n1_ := Aside0.mk (hbox); have n2_ := Aside0.mk ((by rw [hg]; exact (below_size (by repeat (first | (with_reducible first | exact HB.out | apply below_alloc | apply pw_below_drewN | apply below_drew1) | exact HB.out))) : w.heap.size ≤ gb265)); have n3_ := Aside0.mk ((by rw [hg]; exact (below_size (by repeat (first | (with_reducible first | exact HB.out | apply below_alloc | apply pw_below_drewN | apply below_drew1) | exact HB.out))) : w.heap.size ≤ gb265)); clear HB; have HB := n0_; have BK265 := n1_; have GW265 := n2_; have GE265 := n3_; clear n0_ n1_ n2_ n3_; clear hb hbox hg))
 (try simp only [Act.put, List.setIfInBounds_toArray, List.set_cons_zero, List.set_cons_succ])
 go_cut [22] (fun v22 wc => ∃ (kq : Nat) (x22_1 : Bool), v22 = .bool x22_1 ∧ Aside0 (credenzaref22_Ranged.j0 kq x22_1 a0_0 a0_1 l0_2 a0_3 a0_4 a0_5 a0_6 a0_7 a0_8 = some r) ∧ Aside0 (kq ≤ k) ∧ Aside0 (wc.heap[gb265]? = some (.cells #[.int .i64 a0_0, .int .u32 a0_1, (.slice A0_2 l0_2.length c0_2), .int .i64 a0_3, .int .i64 a0_4, .int .i32 a0_5, .int .i64 a0_6, .int .u64 a0_7, .int .i64 a0_8] 40 (0, 0))) ∧ Aside0 (Below w.heap.size w wc))
 case first =>
  have H := HC2.out
  clear HC2
  by_cases c4 : a0_0 = 3
  ·
   rw [if_pos c4] at H
   have c4b0 : (a0_0 == 3) = true := beq_iff_eq.mpr c4
   have c4b1 : (a0_0 != 3) = false := bne_eq_false_iff_eq.mpr c4
   clear c4
   (first | rw [c4b0] | (simp only [i64_w, i32_w]; rw [c4b0]) | skip)
   by_cases c5 : a0_8 < 1
   ·
    rw [if_pos c5] at H
    have c5b0 : decide (a0_8 < 1) = true := decide_eq_true c5
    clear c5
    have H' := Aside0.mk H
    clear H
    have hcz6_0 : w3.cell? ⟨gb265, 0, none⟩ = some (.int .i64 a0_0) := (blk_cell BK265.out 0).trans rfl
    have hcz6_1 : w3.cell? ⟨gb265, 1, none⟩ = some (.int .u32 a0_1) := (blk_cell BK265.out 1).trans rfl
    have hcz6_2 : w3.cell? ⟨gb265, 2, none⟩ = some (.slice A0_2 l0_2.length c0_2) := (blk_cell BK265.out 2).trans rfl
    have hcz6_3 : w3.cell? ⟨gb265, 3, none⟩ = some (.int .i64 a0_3) := (blk_cell BK265.out 3).trans rfl
    have hcz6_4 : w3.cell? ⟨gb265, 4, none⟩ = some (.int .i64 a0_4) := (blk_cell BK265.out 4).trans rfl
    have hcz6_5 : w3.cell? ⟨gb265, 5, none⟩ = some (.int .i32 a0_5) := (blk_cell BK265.out 5).trans rfl
    have hcz6_6 : w3.cell? ⟨gb265, 6, none⟩ = some (.int .i64 a0_6) := (blk_cell BK265.out 6).trans rfl
    have hcz6_7 : w3.cell? ⟨gb265, 7, none⟩ = some (.int .u64 a0_7) := (blk_cell BK265.out 7).trans rfl
    have hcz6_8 : w3.cell? ⟨gb265, 8, none⟩ = some (.int .i64 a0_8) := (blk_cell BK265.out 8).trans rfl
    have hfz6_0 := blk_frozen BK265.out 0
    have hfz6_1 := blk_frozen BK265.out 1
    have hfz6_2 := blk_frozen BK265.out 2
    have hfz6_3 := blk_frozen BK265.out 3
    have hfz6_4 := blk_frozen BK265.out 4
    have hfz6_5 := blk_frozen BK265.out 5
    have hfz6_6 := blk_frozen BK265.out 6
    have hfz6_7 := blk_frozen BK265.out 7
    have hfz6_8 := blk_frozen BK265.out 8
    go_wp2
    go_meet
    case rel => exact ⟨_, (true), (by first | rfl | (simp; done) | (simp [*]; done)), H', ⟨by first | omega | exact Nat.le_refl _⟩, ⟨by (with_reducible repeat (first | refine blk_drewN ?_ _ | refine blk_drew ?_ | refine blk_alloc ?_ _)); exact BK265.out⟩, ⟨by repeat (first | (with_reducible first | exact HB.out | apply below_alloc | apply pw_below_drewN | apply below_drew1 | refine below_set ?_ GE265.out) | exact HB.out)⟩⟩
   ·
    rw [if_neg c5] at H
    have c5b0 : decide (a0_8 < 1) = false := decide_eq_false c5
    clear c5
    by_cases c7 : a0_8 < 0
    ·
     rw [if_pos c7] at H
     have c7b0 : decide (a0_8 < 0) = true := decide_eq_true c7
     clear c7
     have H' := Aside0.mk H
     clear H
     have hcz8_0 : w3.cell? ⟨gb265, 0, none⟩ = some (.int .i64 a0_0) := (blk_cell BK265.out 0).trans rfl
     have hcz8_1 : w3.cell? ⟨gb265, 1, none⟩ = some (.int .u32 a0_1) := (blk_cell BK265.out 1).trans rfl
     have hcz8_2 : w3.cell? ⟨gb265, 2, none⟩ = some (.slice A0_2 l0_2.length c0_2) := (blk_cell BK265.out 2).trans rfl
     have hcz8_3 : w3.cell? ⟨gb265, 3, none⟩ = some (.int .i64 a0_3) := (blk_cell BK265.out 3).trans rfl
     have hcz8_4 : w3.cell? ⟨gb265, 4, none⟩ = some (.int .i64 a0_4) := (blk_cell BK265.out 4).trans rfl
     have hcz8_5 : w3.cell? ⟨gb265, 5, none⟩ = some (.int .i32 a0_5) := (blk_cell BK265.out 5).trans rfl
     have hcz8_6 : w3.cell? ⟨gb265, 6, none⟩ = some (.int .i64 a0_6) := (blk_cell BK265.out 6).trans rfl
     have hcz8_7 : w3.cell? ⟨gb265, 7, none⟩ = some (.int .u64 a0_7) := (blk_cell BK265.out 7).trans rfl
     have hcz8_8 : w3.cell? ⟨gb265, 8, none⟩ = some (.int .i64 a0_8) := (blk_cell BK265.out 8).trans rfl
     have hfz8_0 := blk_frozen BK265.out 0
     have hfz8_1 := blk_frozen BK265.out 1
     have hfz8_2 := blk_frozen BK265.out 2
     have hfz8_3 := blk_frozen BK265.out 3
     have hfz8_4 := blk_frozen BK265.out 4
     have hfz8_5 := blk_frozen BK265.out 5
     have hfz8_6 := blk_frozen BK265.out 6
     have hfz8_7 := blk_frozen BK265.out 7
     have hfz8_8 := blk_frozen BK265.out 8
     go_wp2
     go_meet
     case rel => exact ⟨_, (true), (by first | rfl | (simp; done) | (simp [*]; done)), H', ⟨by first | omega | exact Nat.le_refl _⟩, ⟨by (with_reducible repeat (first | refine blk_drewN ?_ _ | refine blk_drew ?_ | refine blk_alloc ?_ _)); exact BK265.out⟩, ⟨by repeat (first | (with_reducible first | exact HB.out | apply below_alloc | apply pw_below_drewN | apply below_drew1 | refine below_set ?_ GE265.out) | exact HB.out)⟩⟩
    ·
     rw [if_neg c7] at H
     have c7b0 : decide (a0_8 < 0) = false := decide_eq_false c7
     clear c7
     have H' := Aside0.mk H
     clear H
     have hcz9_0 : w3.cell? ⟨gb265, 0, none⟩ = some (.int .i64 a0_0) := (blk_cell BK265.out 0).trans rfl
     have hcz9_1 : w3.cell? ⟨gb265, 1, none⟩ = some (.int .u32 a0_1) := (blk_cell BK265.out 1).trans rfl
     have hcz9_2 : w3.cell? ⟨gb265, 2, none⟩ = some (.slice A0_2 l0_2.length c0_2) := (blk_cell BK265.out 2).trans rfl
     have hcz9_3 : w3.cell? ⟨gb265, 3, none⟩ = some (.int .i64 a0_3) := (blk_cell BK265.out 3).trans rfl
     have hcz9_4 : w3.cell? ⟨gb265, 4, none⟩ = some (.int .i64 a0_4) := (blk_cell BK265.out 4).trans rfl
     have hcz9_5 : w3.cell? ⟨gb265, 5, none⟩ = some (.int .i32 a0_5) := (blk_cell BK265.out 5).trans rfl
     have hcz9_6 : w3.cell? ⟨gb265, 6, none⟩ = some (.int .i64 a0_6) := (blk_cell BK265.out 6).trans rfl
     have hcz9_7 : w3.cell? ⟨gb265, 7, none⟩ = some (.int .u64 a0_7) := (blk_cell BK265.out 7).trans rfl
     have hcz9_8 : w3.cell? ⟨gb265, 8, none⟩ = some (.int .i64 a0_8) := (blk_cell BK265.out 8).trans rfl
     have hfz9_0 := blk_frozen BK265.out 0
     have hfz9_1 := blk_frozen BK265.out 1
     have hfz9_2 := blk_frozen BK265.out 2
     have hfz9_3 := blk_frozen BK265.out 3
     have hfz9_4 := blk_frozen BK265.out 4
     have hfz9_5 := blk_frozen BK265.out 5
     have hfz9_6 := blk_frozen BK265.out 6
     have hfz9_7 := blk_frozen BK265.out 7
     have hfz9_8 := blk_frozen BK265.out 8
     go_wp2
     go_meet
     case rel => exact ⟨_, (decide (a0_8 > 255)), (by first | rfl | (simp; done) | (simp [*]; done)), H', ⟨by first | omega | exact Nat.le_refl _⟩, ⟨by (with_reducible repeat (first | refine blk_drewN ?_ _ | refine blk_drew ?_ | refine blk_alloc ?_ _)); exact BK265.out⟩, ⟨by repeat (first | (with_reducible first | exact HB.out | apply below_alloc | apply pw_below_drewN | apply below_drew1 | refine below_set ?_ GE265.out) | exact HB.out)⟩⟩
  ·
   rw [if_neg c4] at H
   have c4b0 : (a0_0 == 3) = false := beq_eq_false_iff_ne.mpr c4
   have c4b1 : (a0_0 != 3) = true := bne_iff_ne.mpr c4
   (first | rw [c4b0] | (simp only [i64_w, i32_w]; rw [c4b0]) | skip)
   by_cases c10 : a0_8 < 0
   ·
    rw [if_pos c10] at H
    have c10b0 : decide (a0_8 < 0) = true := decide_eq_true c10
    clear c10
    have H' := Aside0.mk H
    clear H
    have hcz11_0 : w3.cell? ⟨gb265, 0, none⟩ = some (.int .i64 a0_0) := (blk_cell BK265.out 0).trans rfl
    have hcz11_1 : w3.cell? ⟨gb265, 1, none⟩ = some (.int .u32 a0_1) := (blk_cell BK265.out 1).trans rfl
    have hcz11_2 : w3.cell? ⟨gb265, 2, none⟩ = some (.slice A0_2 l0_2.length c0_2) := (blk_cell BK265.out 2).trans rfl
    have hcz11_3 : w3.cell? ⟨gb265, 3, none⟩ = some (.int .i64 a0_3) := (blk_cell BK265.out 3).trans rfl
    have hcz11_4 : w3.cell? ⟨gb265, 4, none⟩ = some (.int .i64 a0_4) := (blk_cell BK265.out 4).trans rfl
    have hcz11_5 : w3.cell? ⟨gb265, 5, none⟩ = some (.int .i32 a0_5) := (blk_cell BK265.out 5).trans rfl
    have hcz11_6 : w3.cell? ⟨gb265, 6, none⟩ = some (.int .i64 a0_6) := (blk_cell BK265.out 6).trans rfl
    have hcz11_7 : w3.cell? ⟨gb265, 7, none⟩ = some (.int .u64 a0_7) := (blk_cell BK265.out 7).trans rfl
    have hcz11_8 : w3.cell? ⟨gb265, 8, none⟩ = some (.int .i64 a0_8) := (blk_cell BK265.out 8).trans rfl
    have hfz11_0 := blk_frozen BK265.out 0
    have hfz11_1 := blk_frozen BK265.out 1
    have hfz11_2 := blk_frozen BK265.out 2
    have hfz11_3 := blk_frozen BK265.out 3
    have hfz11_4 := blk_frozen BK265.out 4
    have hfz11_5 := blk_frozen BK265.out 5
    have hfz11_6 := blk_frozen BK265.out 6
    have hfz11_7 := blk_frozen BK265.out 7
    have hfz11_8 := blk_frozen BK265.out 8
    go_wp2
    go_meet
    case rel => exact ⟨_, (true), (by first | rfl | (simp; done) | (simp [*]; done)), H', ⟨by first | omega | exact Nat.le_refl _⟩, ⟨by (with_reducible repeat (first | refine blk_drewN ?_ _ | refine blk_drew ?_ | refine blk_alloc ?_ _)); exact BK265.out⟩, ⟨by repeat (first | (with_reducible first | exact HB.out | apply below_alloc | apply pw_below_drewN | apply below_drew1 | refine below_set ?_ GE265.out) | exact HB.out)⟩⟩
   ·
    rw [if_neg c10] at H
    have c10b0 : decide (a0_8 < 0) = false := decide_eq_false c10
    clear c10
    have H' := Aside0.mk H
    clear H
    have hcz12_0 : w3.cell? ⟨gb265, 0, none⟩ = some (.int .i64 a0_0) := (blk_cell BK265.out 0).trans rfl
    have hcz12_1 : w3.cell? ⟨gb265, 1, none⟩ = some (.int .u32 a0_1) := (blk_cell BK265.out 1).trans rfl
    have hcz12_2 : w3.cell? ⟨gb265, 2, none⟩ = some (.slice A0_2 l0_2.length c0_2) := (blk_cell BK265.out 2).trans rfl
    have hcz12_3 : w3.cell? ⟨gb265, 3, none⟩ = some (.int .i64 a0_3) := (blk_cell BK265.out 3).trans rfl
    have hcz12_4 : w3.cell? ⟨gb265, 4, none⟩ = some (.int .i64 a0_4) := (blk_cell BK265.out 4).trans rfl
    have hcz12_5 : w3.cell? ⟨gb265, 5, none⟩ = some (.int .i32 a0_5) := (blk_cell BK265.out 5).trans rfl
    have hcz12_6 : w3.cell? ⟨gb265, 6, none⟩ = some (.int .i64 a0_6) := (blk_cell BK265.out 6).trans rfl
    have hcz12_7 : w3.cell? ⟨gb265, 7, none⟩ = some (.int .u64 a0_7) := (blk_cell BK265.out 7).trans rfl
    have hcz12_8 : w3.cell? ⟨gb265, 8, none⟩ = some (.int .i64 a0_8) := (blk_cell BK265.out 8).trans rfl
    have hfz12_0 := blk_frozen BK265.out 0
    have hfz12_1 := blk_frozen BK265.out 1
    have hfz12_2 := blk_frozen BK265.out 2
    have hfz12_3 := blk_frozen BK265.out 3
    have hfz12_4 := blk_frozen BK265.out 4
    have hfz12_5 := blk_frozen BK265.out 5
    have hfz12_6 := blk_frozen BK265.out 6
    have hfz12_7 := blk_frozen BK265.out 7
    have hfz12_8 := blk_frozen BK265.out 8
    go_wp2
    go_meet
    case rel => exact ⟨_, (decide (a0_8 > 255)), (by first | rfl | (simp; done) | (simp [*]; done)), H', ⟨by first | omega | exact Nat.le_refl _⟩, ⟨by (with_reducible repeat (first | refine blk_drewN ?_ _ | refine blk_drew ?_ | refine blk_alloc ?_ _)); exact BK265.out⟩, ⟨by repeat (first | (with_reducible first | exact HB.out | apply below_alloc | apply pw_below_drewN | apply below_drew1 | refine below_set ?_ GE265.out) | exact HB.out)⟩⟩
 case rest =>
  clear HC2
  try clear c1
  try clear p2
  try clear c4
  try clear c4b0
  try clear c4b1
  try clear c5
  try clear c5b0
  try clear c7
  try clear c7b0
  try clear c10
  try clear c10b0
  try clear hcz11_0
  try clear hcz11_1
  try clear hcz11_2
  try clear hcz11_3
  try clear hcz11_4
  try clear hcz11_5
  try clear hcz11_6
  try clear hcz11_7
  try clear hcz11_8
  try clear hcz12_0
  try clear hcz12_1
  try clear hcz12_2
  try clear hcz12_3
  try clear hcz12_4
  try clear hcz12_5
  try clear hcz12_6
  try clear hcz12_7
  try clear hcz12_8
  try clear hcz6_0
  try clear hcz6_1
  try clear hcz6_2
  try clear hcz6_3
  try clear hcz6_4
  try clear hcz6_5
  try clear hcz6_6
  try clear hcz6_7
  try clear hcz6_8
  try clear hcz8_0
  try clear hcz8_1
  try clear hcz8_2
  try clear hcz8_3
  try clear hcz8_4
  try clear hcz8_5
  try clear hcz8_6
  try clear hcz8_7
  try clear hcz8_8
  try clear hcz9_0
  try clear hcz9_1
  try clear hcz9_2
  try clear hcz9_3
  try clear hcz9_4
  try clear hcz9_5
  try clear hcz9_6
  try clear hcz9_7
  try clear hcz9_8
  try clear hfz11_0
  try clear hfz11_1
  try clear hfz11_2
  try clear hfz11_3
  try clear hfz11_4
  try clear hfz11_5
  try clear hfz11_6
  try clear hfz11_7
  try clear hfz11_8
  try clear hfz12_0
  try clear hfz12_1
  try clear hfz12_2
  try clear hfz12_3
  try clear hfz12_4
  try clear hfz12_5
  try clear hfz12_6
  try clear hfz12_7
  try clear hfz12_8
  try clear hfz6_0
  try clear hfz6_1
  try clear hfz6_2
  try clear hfz6_3
  try clear hfz6_4
  try clear hfz6_5
  try clear hfz6_6
  try clear hfz6_7
  try clear hfz6_8
  try clear hfz8_0
  try clear hfz8_1
  try clear hfz8_2
  try clear hfz8_3
  try clear hfz8_4
  try clear hfz8_5
  try clear hfz8_6
  try clear hfz8_7
  try clear hfz8_8
  try clear hfz9_0
  try clear hfz9_1
  try clear hfz9_2
  try clear hfz9_3
  try clear hfz9_4
  try clear hfz9_5
  try clear hfz9_6
  try clear hfz9_7
  try clear hfz9_8
  obtain ⟨kq, x22_1, rfl, HA, HJ1, BK265, HB⟩ := hcut
  cases kq with
  | zero => exact absurd HA.out (by simp [credenzaref22_Ranged.j0])
  | succ kj1 =>
   have H := HA.out
   clear HA
   simp only [credenzaref22_Ranged.j0] at H
   by_cases c13 : x22_1 = true
   ·
    subst c13
    have H1 : (some false) = some r := by rw [if_pos rfl] at H; exact H
    clear H
    have H := H1
    clear H1
    obtain rfl := Option.some.inj H
    go_wp2
    go_ret
    exact ⟨by first | rfl | (simp [errW_none, errW_some] <;> rfl) | (simp [*, errW_none, errW_some] <;> rfl), by repeat (first | (with_reducible first | exact HB.out | apply below_alloc | apply pw_below_drewN | apply below_drew1 | refine below_set ?_ GE265.out) | exact HB.out)⟩
   ·
    replace c13 := Bool.eq_false_iff.mpr c13
    subst c13
    have H1 : (credenzaref22_Ranged.l0 kj1 0 a0_0 a0_1 l0_2 a0_3 a0_4 a0_5 a0_6 a0_7 a0_8) = some r := by rw [if_neg (show ¬ (false = true) by decide)] at H; exact H
    clear H
    have H := H1
    clear H1
    have H' := Aside0.mk H
    clear H
    go_wp2
    go_loopg [3] kj1 (fun kq v3 w' => ∃ (x3_2 : Int), v3 = .int .i64 x3_2 ∧ Aside0 (credenzaref22_Ranged.l0 kq x3_2 a0_0 a0_1 l0_2 a0_3 a0_4 a0_5 a0_6 a0_7 a0_8 = some r) ∧ Aside0 (kq ≤ kj1) ∧ Aside0 (w'.heap[gb265]? = some (.cells #[.int .i64 a0_0, .int .u32 a0_1, (.slice A0_2 l0_2.length c0_2), .int .i64 a0_3, .int .i64 a0_4, .int .i32 a0_5, .int .i64 a0_6, .int .u64 a0_7, .int .i64 a0_8] 40 (0, 0))) ∧ Aside0 (Below w.heap.size w w'))
    case atStart => exact ⟨(0), (by first | rfl | (simp; done) | (simp [*]; done)), H', ⟨Nat.le_refl _⟩, ⟨by (with_reducible repeat (first | refine blk_drewN ?_ _ | refine blk_drew ?_ | refine blk_alloc ?_ _)); exact BK265.out⟩, ⟨by repeat (first | (with_reducible first | exact HB.out | apply below_alloc | apply pw_below_drewN | apply below_drew1 | refine below_set ?_ GE265.out) | exact HB.out)⟩⟩
    case round =>
     clear H'
     try clear c1
     try clear p2
     try clear c4
     try clear c4b0
     try clear c4b1
     try clear c5
     try clear c5b0
     try clear c7
     try clear c7b0
     try clear c10
     try clear c10b0
     try clear c13
     try clear hcz11_0
     try clear hcz11_1
     try clear hcz11_2
     try clear hcz11_3
     try clear hcz11_4
     try clear hcz11_5
     try clear hcz11_6
     try clear hcz11_7
     try clear hcz11_8
     try clear hcz12_0
     try clear hcz12_1
     try clear hcz12_2
     try clear hcz12_3
     try clear hcz12_4
     try clear hcz12_5
     try clear hcz12_6
     try clear hcz12_7
     try clear hcz12_8
     try clear hcz6_0
     try clear hcz6_1
     try clear hcz6_2
     try clear hcz6_3
     try clear hcz6_4
     try clear hcz6_5
     try clear hcz6_6
     try clear hcz6_7
     try clear hcz6_8
     try clear hcz8_0
     try clear hcz8_1
     try clear hcz8_2
     try clear hcz8_3
     try clear hcz8_4
     try clear hcz8_5
     try clear hcz8_6
     try clear hcz8_7
     try clear hcz8_8
     try clear hcz9_0
     try clear hcz9_1
     try clear hcz9_2
     try clear hcz9_3
     try clear hcz9_4
     try clear hcz9_5
     try clear hcz9_6
     try clear hcz9_7
     try clear hcz9_8
     try clear hfz11_0
     try clear hfz11_1
     try clear hfz11_2
     try clear hfz11_3
     try clear hfz11_4
     try clear hfz11_5
     try clear hfz11_6
     try clear hfz11_7
     try clear hfz11_8
     try clear hfz12_0
     try clear hfz12_1
     try clear hfz12_2
     try clear hfz12_3
     try clear hfz12_4
     try clear hfz12_5
     try clear hfz12_6
     try clear hfz12_7
     try clear hfz12_8
     try clear hfz6_0
     try clear hfz6_1
     try clear hfz6_2
     try clear hfz6_3
     try clear hfz6_4
     try clear hfz6_5
     try clear hfz6_6
     try clear hfz6_7
     try clear hfz6_8
     try clear hfz8_0
     try clear hfz8_1
     try clear hfz8_2
     try clear hfz8_3
     try clear hfz8_4
     try clear hfz8_5
     try clear hfz8_6
     try clear hfz8_7
     try clear hfz8_8
     try clear hfz9_0
     try clear hfz9_1
     try clear hfz9_2
     try clear hfz9_3
     try clear hfz9_4
     try clear hfz9_5
     try clear hfz9_6
     try clear hfz9_7
     try clear hfz9_8
     try clear p2
     obtain ⟨x3_2, rfl, HA, HK2, BK265, HB⟩ := hrel
     cases gk with
     | zero => exact absurd HA.out (by simp [credenzaref22_Ranged.l0])
     | succ k2 =>
      have H := HA.out
      clear HA
      simp only [credenzaref22_Ranged.l0] at H
      by_cases c14 : x3_2 < (l0_2.length : Int)
      ·
       rw [if_pos c14] at H
       have c14b0 : decide (x3_2 < (l0_2.length : Int)) = true := decide_eq_true c14
       clear c14
       by_cases c15 : 0 ≤ x3_2
       ·
        rw [if_pos c15] at H
        have c15b0 : decide (0 ≤ x3_2) = true := decide_eq_true c15
        clear c15
        by_cases c16 : (rd l0_2 x3_2) < 0
        ·
         rw [if_pos c16] at H
         have c16b0 : decide ((rd l0_2 x3_2) < 0) = true := decide_eq_true c16
         clear c16
         obtain rfl := Option.some.inj H
         have hcz17_0 : wr.cell? ⟨gb265, 0, none⟩ = some (.int .i64 a0_0) := (blk_cell BK265.out 0).trans rfl
         have hcz17_1 : wr.cell? ⟨gb265, 1, none⟩ = some (.int .u32 a0_1) := (blk_cell BK265.out 1).trans rfl
         have hcz17_2 : wr.cell? ⟨gb265, 2, none⟩ = some (.slice A0_2 l0_2.length c0_2) := (blk_cell BK265.out 2).trans rfl
         have hcz17_3 : wr.cell? ⟨gb265, 3, none⟩ = some (.int .i64 a0_3) := (blk_cell BK265.out 3).trans rfl
         have hcz17_4 : wr.cell? ⟨gb265, 4, none⟩ = some (.int .i64 a0_4) := (blk_cell BK265.out 4).trans rfl
         have hcz17_5 : wr.cell? ⟨gb265, 5, none⟩ = some (.int .i32 a0_5) := (blk_cell BK265.out 5).trans rfl
         have hcz17_6 : wr.cell? ⟨gb265, 6, none⟩ = some (.int .i64 a0_6) := (blk_cell BK265.out 6).trans rfl
         have hcz17_7 : wr.cell? ⟨gb265, 7, none⟩ = some (.int .u64 a0_7) := (blk_cell BK265.out 7).trans rfl
         have hcz17_8 : wr.cell? ⟨gb265, 8, none⟩ = some (.int .i64 a0_8) := (blk_cell BK265.out 8).trans rfl
         have hfz17_0 := blk_frozen BK265.out 0
         have hfz17_1 := blk_frozen BK265.out 1
         have hfz17_2 := blk_frozen BK265.out 2
         have hfz17_3 := blk_frozen BK265.out 3
         have hfz17_4 := blk_frozen BK265.out 4
         have hfz17_5 := blk_frozen BK265.out 5
         have hfz17_6 := blk_frozen BK265.out 6
         have hfz17_7 := blk_frozen BK265.out 7
         have hfz17_8 := blk_frozen BK265.out 8
         have p266 : 0 ≤ (x3_2 : Int) := of_decide_eq_true (by first | (with_reducible assumption) | assumption)
         have q266 : x3_2 < (l0_2.length : Int) := of_decide_eq_true (by first | (with_reducible assumption) | assumption)
         obtain ⟨ad266, e266, hx266_0⟩ := Kd.at_int HR0_2.out x3_2 p266 q266
         cases e266
         replace hx266_0 := (HB.out.cell (World.block_lt_of_cell? w _ hx266_0)).trans hx266_0
         replace p266 := eq_true p266
         replace q266 := eq_true q266
         go_wp2
         go_ret
         exact ⟨by first | rfl | (simp [errW_none, errW_some] <;> rfl) | (simp [*, errW_none, errW_some] <;> rfl), by repeat (first | (with_reducible first | exact HB.out | apply below_alloc | apply pw_below_drewN | apply below_drew1 | refine below_set ?_ GE265.out) | exact HB.out)⟩
        ·
         rw [if_neg c16] at H
         have c16b0 : decide ((rd l0_2 x3_2) < 0) = false := decide_eq_false c16
         clear c16
         by_cases c18 : (rd l0_2 x3_2) > 255
         ·
          rw [if_pos c18] at H
          have c18b0 : decide (255 < (rd l0_2 x3_2)) = true := decide_eq_true c18
          clear c18
          obtain rfl := Option.some.inj H
          have hcz19_0 : wr.cell? ⟨gb265, 0, none⟩ = some (.int .i64 a0_0) := (blk_cell BK265.out 0).trans rfl
          have hcz19_1 : wr.cell? ⟨gb265, 1, none⟩ = some (.int .u32 a0_1) := (blk_cell BK265.out 1).trans rfl
          have hcz19_2 : wr.cell? ⟨gb265, 2, none⟩ = some (.slice A0_2 l0_2.length c0_2) := (blk_cell BK265.out 2).trans rfl
          have hcz19_3 : wr.cell? ⟨gb265, 3, none⟩ = some (.int .i64 a0_3) := (blk_cell BK265.out 3).trans rfl
          have hcz19_4 : wr.cell? ⟨gb265, 4, none⟩ = some (.int .i64 a0_4) := (blk_cell BK265.out 4).trans rfl
          have hcz19_5 : wr.cell? ⟨gb265, 5, none⟩ = some (.int .i32 a0_5) := (blk_cell BK265.out 5).trans rfl
          have hcz19_6 : wr.cell? ⟨gb265, 6, none⟩ = some (.int .i64 a0_6) := (blk_cell BK265.out 6).trans rfl
          have hcz19_7 : wr.cell? ⟨gb265, 7, none⟩ = some (.int .u64 a0_7) := (blk_cell BK265.out 7).trans rfl
          have hcz19_8 : wr.cell? ⟨gb265, 8, none⟩ = some (.int .i64 a0_8) := (blk_cell BK265.out 8).trans rfl
          have hfz19_0 := blk_frozen BK265.out 0
          have hfz19_1 := blk_frozen BK265.out 1
          have hfz19_2 := blk_frozen BK265.out 2
          have hfz19_3 := blk_frozen BK265.out 3
          have hfz19_4 := blk_frozen BK265.out 4
          have hfz19_5 := blk_frozen BK265.out 5
          have hfz19_6 := blk_frozen BK265.out 6
          have hfz19_7 := blk_frozen BK265.out 7
          have hfz19_8 := blk_frozen BK265.out 8
          have p266 : 0 ≤ (x3_2 : Int) := of_decide_eq_true (by first | (with_reducible assumption) | assumption)
          have q266 : x3_2 < (l0_2.length : Int) := of_decide_eq_true (by first | (with_reducible assumption) | assumption)
          obtain ⟨ad266, e266, hx266_0⟩ := Kd.at_int HR0_2.out x3_2 p266 q266
          cases e266
          replace hx266_0 := (HB.out.cell (World.block_lt_of_cell? w _ hx266_0)).trans hx266_0
          replace p266 := eq_true p266
          replace q266 := eq_true q266
          have p267 : 0 ≤ (x3_2 : Int) := of_decide_eq_true (by first | (with_reducible assumption) | assumption)
          have q267 : x3_2 < (l0_2.length : Int) := of_decide_eq_true (by first | (with_reducible assumption) | assumption)
          obtain ⟨ad267, e267, hx267_0⟩ := Kd.at_int HR0_2.out x3_2 p267 q267
          obtain rfl : ad266 = ad267 := (by injection e267)
          replace hx267_0 := (HB.out.cell (World.block_lt_of_cell? w _ hx267_0)).trans hx267_0
          replace p267 := eq_true p267
          replace q267 := eq_true q267
          go_wp2
          go_ret
          exact ⟨by first | rfl | (simp [errW_none, errW_some] <;> rfl) | (simp [*, errW_none, errW_some] <;> rfl), by repeat (first | (with_reducible first | exact HB.out | apply below_alloc | apply pw_below_drewN | apply below_drew1 | refine below_set ?_ GE265.out) | exact HB.out)⟩
         ·
          rw [if_neg c18] at H
          have c18b0 : decide (255 < (rd l0_2 x3_2)) = false := decide_eq_false c18
          clear c18
          have H' := Aside0.mk H
          clear H
          have hcz20_0 : wr.cell? ⟨gb265, 0, none⟩ = some (.int .i64 a0_0) := (blk_cell BK265.out 0).trans rfl
          have hcz20_1 : wr.cell? ⟨gb265, 1, none⟩ = some (.int .u32 a0_1) := (blk_cell BK265.out 1).trans rfl
          have hcz20_2 : wr.cell? ⟨gb265, 2, none⟩ = some (.slice A0_2 l0_2.length c0_2) := (blk_cell BK265.out 2).trans rfl
          have hcz20_3 : wr.cell? ⟨gb265, 3, none⟩ = some (.int .i64 a0_3) := (blk_cell BK265.out 3).trans rfl
          have hcz20_4 : wr.cell? ⟨gb265, 4, none⟩ = some (.int .i64 a0_4) := (blk_cell BK265.out 4).trans rfl
          have hcz20_5 : wr.cell? ⟨gb265, 5, none⟩ = some (.int .i32 a0_5) := (blk_cell BK265.out 5).trans rfl
          have hcz20_6 : wr.cell? ⟨gb265, 6, none⟩ = some (.int .i64 a0_6) := (blk_cell BK265.out 6).trans rfl
          have hcz20_7 : wr.cell? ⟨gb265, 7, none⟩ = some (.int .u64 a0_7) := (blk_cell BK265.out 7).trans rfl
          have hcz20_8 : wr.cell? ⟨gb265, 8, none⟩ = some (.int .i64 a0_8) := (blk_cell BK265.out 8).trans rfl
          have hfz20_0 := blk_frozen BK265.out 0
          have hfz20_1 := blk_frozen BK265.out 1
          have hfz20_2 := blk_frozen BK265.out 2
          have hfz20_3 := blk_frozen BK265.out 3
          have hfz20_4 := blk_frozen BK265.out 4
          have hfz20_5 := blk_frozen BK265.out 5
          have hfz20_6 := blk_frozen BK265.out 6
          have hfz20_7 := blk_frozen BK265.out 7
          have hfz20_8 := blk_frozen BK265.out 8
          have p266 : 0 ≤ (x3_2 : Int) := of_decide_eq_true (by first | (with_reducible assumption) | assumption)
          have q266 : x3_2 < (l0_2.length : Int) := of_decide_eq_true (by first | (with_reducible assumption) | assumption)
          obtain ⟨ad266, e266, hx266_0⟩ := Kd.at_int HR0_2.out x3_2 p266 q266
          cases e266
          replace hx266_0 := (HB.out.cell (World.block_lt_of_cell? w _ hx266_0)).trans hx266_0
          replace p266 := eq_true p266
          replace q266 := eq_true q266
          have p267 : 0 ≤ (x3_2 : Int) := of_decide_eq_true (by first | (with_reducible assumption) | assumption)
          have q267 : x3_2 < (l0_2.length : Int) := of_decide_eq_true (by first | (with_reducible assumption) | assumption)
          obtain ⟨ad267, e267, hx267_0⟩ := Kd.at_int HR0_2.out x3_2 p267 q267
          obtain rfl : ad266 = ad267 := (by injection e267)
          replace hx267_0 := (HB.out.cell (World.block_lt_of_cell? w _ hx267_0)).trans hx267_0
          replace p267 := eq_true p267
          replace q267 := eq_true q267
          go_wp2
          go_roundg k2
          case measure => have := HJ1.out; have := HK2.out; omega
          case rel => exact ⟨(wrap64 (x3_2 + 1)), (by first | rfl | (simp; done) | (simp [*]; done)), H', ⟨by have := HJ1.out; have := HK2.out; omega⟩, ⟨by (with_reducible repeat (first | refine blk_drewN ?_ _ | refine blk_drew ?_ | refine blk_alloc ?_ _)); exact BK265.out⟩, ⟨by repeat (first | (with_reducible first | exact HB.out | apply below_alloc | apply pw_below_drewN | apply below_drew1 | refine below_set ?_ GE265.out) | exact HB.out)⟩⟩
       ·
        rw [if_neg c15] at H
        exact absurd H (by simp)
      ·
       rw [if_neg c14] at H
       have c14b0 : decide (x3_2 < (l0_2.length : Int)) = false := decide_eq_false c14
       clear c14
       by_cases c21 : a0_3 ≥ 0
       ·
        rw [if_pos c21] at H
        have c21b0 : decide (0 ≤ a0_3) = true := decide_eq_true c21
        clear c21
        by_cases c22 : a0_3 ≤ 65535
        ·
         rw [if_pos c22] at H
         have c22b0 : decide (a0_3 ≤ 65535) = true := decide_eq_true c22
         clear c22
         by_cases c23 : a0_4 ≥ (-1)
         ·
          rw [if_pos c23] at H
          have c23b0 : decide ((-1) ≤ a0_4) = true := decide_eq_true c23
          clear c23
          by_cases c24 : a0_4 ≤ 254
          ·
           rw [if_pos c24] at H
           have c24b0 : decide (a0_4 ≤ 254) = true := decide_eq_true c24
           clear c24
           by_cases c25 : a0_5 ≥ 0
           ·
            rw [if_pos c25] at H
            have c25b0 : decide (0 ≤ a0_5) = true := decide_eq_true c25
            clear c25
            by_cases c26 : a0_6 ≥ 0
            ·
             rw [if_pos c26] at H
             have c26b0 : decide (0 ≤ a0_6) = true := decide_eq_true c26
             clear c26
             obtain rfl := Option.some.inj H
             have hcz27_0 : wr.cell? ⟨gb265, 0, none⟩ = some (.int .i64 a0_0) := (blk_cell BK265.out 0).trans rfl
             have hcz27_1 : wr.cell? ⟨gb265, 1, none⟩ = some (.int .u32 a0_1) := (blk_cell BK265.out 1).trans rfl
             have hcz27_2 : wr.cell? ⟨gb265, 2, none⟩ = some (.slice A0_2 l0_2.length c0_2) := (blk_cell BK265.out 2).trans rfl
             have hcz27_3 : wr.cell? ⟨gb265, 3, none⟩ = some (.int .i64 a0_3) := (blk_cell BK265.out 3).trans rfl
             have hcz27_4 : wr.cell? ⟨gb265, 4, none⟩ = some (.int .i64 a0_4) := (blk_cell BK265.out 4).trans rfl
             have hcz27_5 : wr.cell? ⟨gb265, 5, none⟩ = some (.int .i32 a0_5) := (blk_cell BK265.out 5).trans rfl
             have hcz27_6 : wr.cell? ⟨gb265, 6, none⟩ = some (.int .i64 a0_6) := (blk_cell BK265.out 6).trans rfl
             have hcz27_7 : wr.cell? ⟨gb265, 7, none⟩ = some (.int .u64 a0_7) := (blk_cell BK265.out 7).trans rfl
             have hcz27_8 : wr.cell? ⟨gb265, 8, none⟩ = some (.int .i64 a0_8) := (blk_cell BK265.out 8).trans rfl
             have hfz27_0 := blk_frozen BK265.out 0
             have hfz27_1 := blk_frozen BK265.out 1
             have hfz27_2 := blk_frozen BK265.out 2
             have hfz27_3 := blk_frozen BK265.out 3
             have hfz27_4 := blk_frozen BK265.out 4
             have hfz27_5 := blk_frozen BK265.out 5
             have hfz27_6 := blk_frozen BK265.out 6
             have hfz27_7 := blk_frozen BK265.out 7
             have hfz27_8 := blk_frozen BK265.out 8
             go_wp2_with (first | ((with_reducible refine gate_dst (N := 4) rfl ?_); refine box_event ?hg (N := 4) ?hd (cs := #[.slice none 0 0, .int .i64 0, .int .i64 0, .int .i32 0, .int .i64 0, .int .u64 0]) (t := 38) ?hr ?_; (case hd => rfl); (case hg => rfl); (case hr => first | (go_simp; done) | (go_simp; rfl)); intro gb268 hg w28 hbox hb; have n0_ := Aside0.mk (blk_below (g := gb265) (o := .cells #[.int .i64 a0_0, .int .u32 a0_1, .slice A0_2 l0_2.length c0_2, .int .i64 a0_3, .int .i64 a0_4, .int .i32 a0_5, .int .i64 a0_6, .int .u64 a0_7, .int .i64 a0_8] 40 (0, 0)) (by (with_reducible repeat (first | refine blk_drewN ?_ _ | refine blk_drew ?_ | refine blk_alloc ?_ _)); exact BK265.out) hb); have n1_ := Aside0.mk (below_step (by repeat (first | (with_reducible first | exact HB.out | apply below_alloc | apply pw_below_drewN | apply below_drew1 | refine below_set ?_ GE265.out) | exact HB.out)) hb); have n2_ := Aside0.mk (hbox); have n3_ := Aside0.mk ((by rw [hg]; exact (below_size (by repeat (first | (with_reducible first | exact HB.out | apply below_alloc | apply pw_below_drewN | apply below_drew1 | refine below_set ?_ GE265.out) | exact HB.out))) : w.heap.size ≤ gb268)); have n4_ := Aside0.mk ((by rw [hg]; exact (below_size (by repeat (first | (with_reducible first | exact HB.out | apply below_alloc | apply pw_below_drewN | apply below_drew1 | refine below_set ?_ GE265.out) | exact HB.out))) : w.heap.size ≤ gb268)); have n5_ := Aside0.mk ((by rw [hg]; exact Nat.ne_of_lt (blk_lt (g := gb265) (o := .cells #[.int .i64 a0_0, .int .u32 a0_1, .slice A0_2 l0_2.length c0_2, .int .i64 a0_3, .int .i64 a0_4, .int .i32 a0_5, .int .i64 a0_6, .int .u64 a0_7, .int .i64 a0_8] 40 (0, 0)) (by (with_reducible repeat (first | refine blk_drewN ?_ _ | refine blk_drew ?_ | refine blk_alloc ?_ _)); exact BK265.out)) : gb265 ≠ gb268)); have n6_ := Aside0.mk ((by rw [hg]; exact Nat.ne_of_gt (blk_lt (g := gb265) (o := .cells #[.int .i64 a0_0, .int .u32 a0_1, .slice A0_2 l0_2.length c0_2, .int .i64 a0_3, .int .i64 a0_4, .int .i32 a0_5, .int .i64 a0_6, .int .u64 a0_7, .int .i64 a0_8] 40 (0, 0)) (by (with_reducible repeat (first | refine blk_drewN ?_ _ | refine blk_drew ?_ | refine blk_alloc ?_ _)); exact BK265.out)) : gb268 ≠ gb265)); clear BK265; clear HB; have BK265 := n0_; have HB := n1_; have BK268 := n2_; have GW268 := n3_; have GE268 := n4_; have NB265_268 := n5_; have NB268_265 := n6_; clear n0_ n1_ n2_ n3_ n4_ n5_ n6_; clear hb hbox hg; have hnb29 := NB268_265.out; have hnc29 := NB265_268.out; have hcz30_0 : w28.cell? ⟨gb268, 0, none⟩ = some (.slice none 0 0) := (blk_cell BK268.out 0).trans rfl; have hcz30_1 : w28.cell? ⟨gb268, 1, none⟩ = some (.int .i64 0) := (blk_cell BK268.out 1).trans rfl; have hcz30_2 : w28.cell? ⟨gb268, 2, none⟩ = some (.int .i64 0) := (blk_cell BK268.out 2).trans rfl; have hcz30_3 : w28.cell? ⟨gb268, 3, none⟩ = some (.int .i32 0) := (blk_cell BK268.out 3).trans rfl; have hcz30_4 : w28.cell? ⟨gb268, 4, none⟩ = some (.int .i64 0) := (blk_cell BK268.out 4).trans rfl; have hcz30_5 : w28.cell? ⟨gb268, 5, none⟩ = some (.int .u64 0) := (blk_cell BK268.out 5).trans rfl; have hfz30_0 := blk_frozen BK268.out 0; have hfz30_1 := blk_frozen BK268.out 1; have hfz30_2 := blk_frozen BK268.out 2; have hfz30_3 := blk_frozen BK268.out 3; have hfz30_4 := blk_frozen BK268.out 4; have hfz30_5 := blk_frozen BK268.out 5))
             go_ret
             exact ⟨by first | rfl | (simp [errW_none, errW_some] <;> rfl) | (simp [*, errW_none, errW_some] <;> rfl), by repeat (first | (with_reducible first | exact HB.out | apply below_alloc | apply pw_below_drewN | apply below_drew1 | refine below_set ?_ GE265.out | refine below_set ?_ GE268.out) | exact HB.out)⟩
            ·
             rw [if_neg c26] at H
             have c26b0 : decide (0 ≤ a0_6) = false := decide_eq_false c26
             clear c26
             obtain rfl := Option.some.inj H
             have hcz31_0 : wr.cell? ⟨gb265, 0, none⟩ = some (.int .i64 a0_0) := (blk_cell BK265.out 0).trans rfl
             have hcz31_1 : wr.cell? ⟨gb265, 1, none⟩ = some (.int .u32 a0_1) := (blk_cell BK265.out 1).trans rfl
             have hcz31_2 : wr.cell? ⟨gb265, 2, none⟩ = some (.slice A0_2 l0_2.length c0_2) := (blk_cell BK265.out 2).trans rfl
             have hcz31_3 : wr.cell? ⟨gb265, 3, none⟩ = some (.int .i64 a0_3) := (blk_cell BK265.out 3).trans rfl
             have hcz31_4 : wr.cell? ⟨gb265, 4, none⟩ = some (.int .i64 a0_4) := (blk_cell BK265.out 4).trans rfl
             have hcz31_5 : wr.cell? ⟨gb265, 5, none⟩ = some (.int .i32 a0_5) := (blk_cell BK265.out 5).trans rfl
             have hcz31_6 : wr.cell? ⟨gb265, 6, none⟩ = some (.int .i64 a0_6) := (blk_cell BK265.out 6).trans rfl
             have hcz31_7 : wr.cell? ⟨gb265, 7, none⟩ = some (.int .u64 a0_7) := (blk_cell BK265.out 7).trans rfl
             have hcz31_8 : wr.cell? ⟨gb265, 8, none⟩ = some (.int .i64 a0_8) := (blk_cell BK265.out 8).trans rfl
             have hfz31_0 := blk_frozen BK265.out 0
             have hfz31_1 := blk_frozen BK265.out 1
             have hfz31_2 := blk_frozen BK265.out 2
             have hfz31_3 := blk_frozen BK265.out 3
             have hfz31_4 := blk_frozen BK265.out 4
             have hfz31_5 := blk_frozen BK265.out 5
             have hfz31_6 := blk_frozen BK265.out 6
             have hfz31_7 := blk_frozen BK265.out 7
             have hfz31_8 := blk_frozen BK265.out 8
             go_wp2_with (first | ((with_reducible refine gate_dst (N := 4) rfl ?_); refine box_event ?hg (N := 4) ?hd (cs := #[.slice none 0 0, .int .i64 0, .int .i64 0, .int .i32 0, .int .i64 0, .int .u64 0]) (t := 38) ?hr ?_; (case hd => rfl); (case hg => rfl); (case hr => first | (go_simp; done) | (go_simp; rfl)); intro gb268 hg w32 hbox hb; have n0_ := Aside0.mk (blk_below (g := gb265) (o := .cells #[.int .i64 a0_0, .int .u32 a0_1, .slice A0_2 l0_2.length c0_2, .int .i64 a0_3, .int .i64 a0_4, .int .i32 a0_5, .int .i64 a0_6, .int .u64 a0_7, .int .i64 a0_8] 40 (0, 0)) (by (with_reducible repeat (first | refine blk_drewN ?_ _ | refine blk_drew ?_ | refine blk_alloc ?_ _)); exact BK265.out) hb); have n1_ := Aside0.mk (below_step (by repeat (first | (with_reducible first | exact HB.out | apply below_alloc | apply pw_below_drewN | apply below_drew1 | refine below_set ?_ GE265.out) | exact HB.out)) hb); have n2_ := Aside0.mk (hbox); have n3_ := Aside0.mk ((by rw [hg]; exact (below_size (by repeat (first | (with_reducible first | exact HB.out | apply below_alloc | apply pw_below_drewN | apply below_drew1 | refine below_set ?_ GE265.out) | exact HB.out))) : w.heap.size ≤ gb268)); have n4_ := Aside0.mk ((by rw [hg]; exact (below_size (by repeat (first | (with_reducible first | exact HB.out | apply below_alloc | apply pw_below_drewN | apply below_drew1 | refine below_set ?_ GE265.out) | exact HB.out))) : w.heap.size ≤ gb268)); have n5_ := Aside0.mk ((by rw [hg]; exact Nat.ne_of_lt (blk_lt (g := gb265) (o := .cells #[.int .i64 a0_0, .int .u32 a0_1, .slice A0_2 l0_2.length c0_2, .int .i64 a0_3, .int .i64 a0_4, .int .i32 a0_5, .int .i64 a0_6, .int .u64 a0_7, .int .i64 a0_8] 40 (0, 0)) (by (with_reducible repeat (first | refine blk_drewN ?_ _ | refine blk_drew ?_ | refine blk_alloc ?_ _)); exact BK265.out)) : gb265 ≠ gb268)); have n6_ := Aside0.mk ((by rw [hg]; exact Nat.ne_of_gt (blk_lt (g := gb265) (o := .cells #[.int .i64 a0_0, .int .u32 a0_1, .slice A0_2 l0_2.length c0_2, .int .i64 a0_3, .int .i64 a0_4, .int .i32 a0_5, .int .i64 a0_6, .int .u64 a0_7, .int .i64 a0_8] 40 (0, 0)) (by (with_reducible repeat (first | refine blk_drewN ?_ _ | refine blk_drew ?_ | refine blk_alloc ?_ _)); exact BK265.out)) : gb268 ≠ gb265)); clear BK265; clear HB; have BK265 := n0_; have HB := n1_; have BK268 := n2_; have GW268 := n3_; have GE268 := n4_; have NB265_268 := n5_; have NB268_265 := n6_; clear n0_ n1_ n2_ n3_ n4_ n5_ n6_; clear hb hbox hg; have hnb33 := NB268_265.out; have hnc33 := NB265_268.out; have hcz34_0 : w32.cell? ⟨gb268, 0, none⟩ = some (.slice none 0 0) := (blk_cell BK268.out 0).trans rfl; have hcz34_1 : w32.cell? ⟨gb268, 1, none⟩ = some (.int .i64 0) := (blk_cell BK268.out 1).trans rfl; have hcz34_2 : w32.cell? ⟨gb268, 2, none⟩ = some (.int .i64 0) := (blk_cell BK268.out 2).trans rfl; have hcz34_3 : w32.cell? ⟨gb268, 3, none⟩ = some (.int .i32 0) := (blk_cell BK268.out 3).trans rfl; have hcz34_4 : w32.cell? ⟨gb268, 4, none⟩ = some (.int .i64 0) := (blk_cell BK268.out 4).trans rfl; have hcz34_5 : w32.cell? ⟨gb268, 5, none⟩ = some (.int .u64 0) := (blk_cell BK268.out 5).trans rfl; have hfz34_0 := blk_frozen BK268.out 0; have hfz34_1 := blk_frozen BK268.out 1; have hfz34_2 := blk_frozen BK268.out 2; have hfz34_3 := blk_frozen BK268.out 3; have hfz34_4 := blk_frozen BK268.out 4; have hfz34_5 := blk_frozen BK268.out 5))
             go_ret
             exact ⟨by first | rfl | (simp [errW_none, errW_some] <;> rfl) | (simp [*, errW_none, errW_some] <;> rfl), by repeat (first | (with_reducible first | exact HB.out | apply below_alloc | apply pw_below_drewN | apply below_drew1 | refine below_set ?_ GE265.out | refine below_set ?_ GE268.out) | exact HB.out)⟩
           ·
            rw [if_neg c25] at H
            have c25b0 : decide (0 ≤ a0_5) = false := decide_eq_false c25
            clear c25
            obtain rfl := Option.some.inj H
            have hcz35_0 : wr.cell? ⟨gb265, 0, none⟩ = some (.int .i64 a0_0) := (blk_cell BK265.out 0).trans rfl
            have hcz35_1 : wr.cell? ⟨gb265, 1, none⟩ = some (.int .u32 a0_1) := (blk_cell BK265.out 1).trans rfl
            have hcz35_2 : wr.cell? ⟨gb265, 2, none⟩ = some (.slice A0_2 l0_2.length c0_2) := (blk_cell BK265.out 2).trans rfl
            have hcz35_3 : wr.cell? ⟨gb265, 3, none⟩ = some (.int .i64 a0_3) := (blk_cell BK265.out 3).trans rfl
            have hcz35_4 : wr.cell? ⟨gb265, 4, none⟩ = some (.int .i64 a0_4) := (blk_cell BK265.out 4).trans rfl
            have hcz35_5 : wr.cell? ⟨gb265, 5, none⟩ = some (.int .i32 a0_5) := (blk_cell BK265.out 5).trans rfl
            have hcz35_6 : wr.cell? ⟨gb265, 6, none⟩ = some (.int .i64 a0_6) := (blk_cell BK265.out 6).trans rfl
            have hcz35_7 : wr.cell? ⟨gb265, 7, none⟩ = some (.int .u64 a0_7) := (blk_cell BK265.out 7).trans rfl
            have hcz35_8 : wr.cell? ⟨gb265, 8, none⟩ = some (.int .i64 a0_8) := (blk_cell BK265.out 8).trans rfl
            have hfz35_0 := blk_frozen BK265.out 0
            have hfz35_1 := blk_frozen BK265.out 1
            have hfz35_2 := blk_frozen BK265.out 2
            have hfz35_3 := blk_frozen BK265.out 3
            have hfz35_4 := blk_frozen BK265.out 4
            have hfz35_5 := blk_frozen BK265.out 5
            have hfz35_6 := blk_frozen BK265.out 6
            have hfz35_7 := blk_frozen BK265.out 7
            have hfz35_8 := blk_frozen BK265.out 8
            go_wp2_with (first | ((with_reducible refine gate_dst (N := 4) rfl ?_); refine box_event ?hg (N := 4) ?hd (cs := #[.slice none 0 0, .int .i64 0, .int .i64 0, .int .i32 0, .int .i64 0, .int .u64 0]) (t := 38) ?hr ?_; (case hd => rfl); (case hg => rfl); (case hr => first | (go_simp; done) | (go_simp; rfl)); intro gb268 hg w36 hbox hb; have n0_ := Aside0.mk (blk_below (g := gb265) (o := .cells #[.int .i64 a0_0, .int .u32 a0_1, .slice A0_2 l0_2.length c0_2, .int .i64 a0_3, .int .i64 a0_4, .int .i32 a0_5, .int .i64 a0_6, .int .u64 a0_7, .int .i64 a0_8] 40 (0, 0)) (by (with_reducible repeat (first | refine blk_drewN ?_ _ | refine blk_drew ?_ | refine blk_alloc ?_ _)); exact BK265.out) hb); have n1_ := Aside0.mk (below_step (by repeat (first | (with_reducible first | exact HB.out | apply below_alloc | apply pw_below_drewN | apply below_drew1 | refine below_set ?_ GE265.out) | exact HB.out)) hb); have n2_ := Aside0.mk (hbox); have n3_ := Aside0.mk ((by rw [hg]; exact (below_size (by repeat (first | (with_reducible first | exact HB.out | apply below_alloc | apply pw_below_drewN | apply below_drew1 | refine below_set ?_ GE265.out) | exact HB.out))) : w.heap.size ≤ gb268)); have n4_ := Aside0.mk ((by rw [hg]; exact (below_size (by repeat (first | (with_reducible first | exact HB.out | apply below_alloc | apply pw_below_drewN | apply below_drew1 | refine below_set ?_ GE265.out) | exact HB.out))) : w.heap.size ≤ gb268)); have n5_ := Aside0.mk ((by rw [hg]; exact Nat.ne_of_lt (blk_lt (g := gb265) (o := .cells #[.int .i64 a0_0, .int .u32 a0_1, .slice A0_2 l0_2.length c0_2, .int .i64 a0_3, .int .i64 a0_4, .int .i32 a0_5, .int .i64 a0_6, .int .u64 a0_7, .int .i64 a0_8] 40 (0, 0)) (by (with_reducible repeat (first | refine blk_drewN ?_ _ | refine blk_drew ?_ | refine blk_alloc ?_ _)); exact BK265.out)) : gb265 ≠ gb268)); have n6_ := Aside0.mk ((by rw [hg]; exact Nat.ne_of_gt (blk_lt (g := gb265) (o := .cells #[.int .i64 a0_0, .int .u32 a0_1, .slice A0_2 l0_2.length c0_2, .int .i64 a0_3, .int .i64 a0_4, .int .i32 a0_5, .int .i64 a0_6, .int .u64 a0_7, .int .i64 a0_8] 40 (0, 0)) (by (with_reducible repeat (first | refine blk_drewN ?_ _ | refine blk_drew ?_ | refine blk_alloc ?_ _)); exact BK265.out)) : gb268 ≠ gb265)); clear BK265; clear HB; have BK265 := n0_; have HB := n1_; have BK268 := n2_; have GW268 := n3_; have GE268 := n4_; have NB265_268 := n5_; have NB268_265 := n6_; clear n0_ n1_ n2_ n3_ n4_ n5_ n6_; clear hb hbox hg; have hnb37 := NB268_265.out; have hnc37 := NB265_268.out; have hcz38_0 : w36.cell? ⟨gb268, 0, none⟩ = some (.slice none 0 0) := (blk_cell BK268.out 0).trans rfl; have hcz38_1 : w36.cell? ⟨gb268, 1, none⟩ = some (.int .i64 0) := (blk_cell BK268.out 1).trans rfl; have hcz38_2 : w36.cell? ⟨gb268, 2, none⟩ = some (.int .i64 0) := (blk_cell BK268.out 2).trans rfl; have hcz38_3 : w36.cell? ⟨gb268, 3, none⟩ = some (.int .i32 0) := (blk_cell BK268.out 3).trans rfl; have hcz38_4 : w36.cell? ⟨gb268, 4, none⟩ = some (.int .i64 0) := (blk_cell BK268.out 4).trans rfl; have hcz38_5 : w36.cell? ⟨gb268, 5, none⟩ = some (.int .u64 0) := (blk_cell BK268.out 5).trans rfl; have hfz38_0 := blk_frozen BK268.out 0; have hfz38_1 := blk_frozen BK268.out 1; have hfz38_2 := blk_frozen BK268.out 2; have hfz38_3 := blk_frozen BK268.out 3; have hfz38_4 := blk_frozen BK268.out 4; have hfz38_5 := blk_frozen BK268.out 5))
            go_ret
            exact ⟨by first | rfl | (simp [errW_none, errW_some] <;> rfl) | (simp [*, errW_none, errW_some] <;> rfl), by repeat (first | (with_reducible first | exact HB.out | apply below_alloc | apply pw_below_drewN | apply below_drew1 | refine below_set ?_ GE265.out | refine below_set ?_ GE268.out) | exact HB.out)⟩
          ·
           rw [if_neg c24] at H
           have c24b0 : decide (a0_4 ≤ 254) = false := decide_eq_false c24
           clear c24
           obtain rfl := Option.some.inj H
           have hcz39_0 : wr.cell? ⟨gb265, 0, none⟩ = some (.int .i64 a0_0) := (blk_cell BK265.out 0).trans rfl
           have hcz39_1 : wr.cell? ⟨gb265, 1, none⟩ = some (.int .u32 a0_1) := (blk_cell BK265.out 1).trans rfl
           have hcz39_2 : wr.cell? ⟨gb265, 2, none⟩ = some (.slice A0_2 l0_2.length c0_2) := (blk_cell BK265.out 2).trans rfl
           have hcz39_3 : wr.cell? ⟨gb265, 3, none⟩ = some (.int .i64 a0_3) := (blk_cell BK265.out 3).trans rfl
           have hcz39_4 : wr.cell? ⟨gb265, 4, none⟩ = some (.int .i64 a0_4) := (blk_cell BK265.out 4).trans rfl
           have hcz39_5 : wr.cell? ⟨gb265, 5, none⟩ = some (.int .i32 a0_5) := (blk_cell BK265.out 5).trans rfl
           have hcz39_6 : wr.cell? ⟨gb265, 6, none⟩ = some (.int .i64 a0_6) := (blk_cell BK265.out 6).trans rfl
           have hcz39_7 : wr.cell? ⟨gb265, 7, none⟩ = some (.int .u64 a0_7) := (blk_cell BK265.out 7).trans rfl
           have hcz39_8 : wr.cell? ⟨gb265, 8, none⟩ = some (.int .i64 a0_8) := (blk_cell BK265.out 8).trans rfl
           have hfz39_0 := blk_frozen BK265.out 0
           have hfz39_1 := blk_frozen BK265.out 1
           have hfz39_2 := blk_frozen BK265.out 2
           have hfz39_3 := blk_frozen BK265.out 3
           have hfz39_4 := blk_frozen BK265.out 4
           have hfz39_5 := blk_frozen BK265.out 5
           have hfz39_6 := blk_frozen BK265.out 6
           have hfz39_7 := blk_frozen BK265.out 7
           have hfz39_8 := blk_frozen BK265.out 8
           go_wp2_with (first | ((with_reducible refine gate_dst (N := 4) rfl ?_); refine box_event ?hg (N := 4) ?hd (cs := #[.slice none 0 0, .int .i64 0, .int .i64 0, .int .i32 0, .int .i64 0, .int .u64 0]) (t := 38) ?hr ?_; (case hd => rfl); (case hg => rfl); (case hr => first | (go_simp; done) | (go_simp; rfl)); intro gb268 hg w40 hbox hb; have n0_ := Aside0.mk (blk_below (g := gb265) (o := .cells #[.int .i64 a0_0, .int .u32 a0_1, .slice A0_2 l0_2.length c0_2, .int .i64 a0_3, .int .i64 a0_4, .int .i32 a0_5, .int .i64 a0_6, .int .u64 a0_7, .int .i64 a0_8] 40 (0, 0)) (by (with_reducible repeat (first | refine blk_drewN ?_ _ | refine blk_drew ?_ | refine blk_alloc ?_ _)); exact BK265.out) hb); have n1_ := Aside0.mk (below_step (by repeat (first | (with_reducible first | exact HB.out | apply below_alloc | apply pw_below_drewN | apply below_drew1 | refine below_set ?_ GE265.out) | exact HB.out)) hb); have n2_ := Aside0.mk (hbox); have n3_ := Aside0.mk ((by rw [hg]; exact (below_size (by repeat (first | (with_reducible first | exact HB.out | apply below_alloc | apply pw_below_drewN | apply below_drew1 | refine below_set ?_ GE265.out) | exact HB.out))) : w.heap.size ≤ gb268)); have n4_ := Aside0.mk ((by rw [hg]; exact (below_size (by repeat (first | (with_reducible first | exact HB.out | apply below_alloc | apply pw_below_drewN | apply below_drew1 | refine below_set ?_ GE265.out) | exact HB.out))) : w.heap.size ≤ gb268)); have n5_ := Aside0.mk ((by rw [hg]; exact Nat.ne_of_lt (blk_lt (g := gb265) (o := .cells #[.int .i64 a0_0, .int .u32 a0_1, .slice A0_2 l0_2.length c0_2, .int .i64 a0_3, .int .i64 a0_4, .int .i32 a0_5, .int .i64 a0_6, .int .u64 a0_7, .int .i64 a0_8] 40 (0, 0)) (by (with_reducible repeat (first | refine blk_drewN ?_ _ | refine blk_drew ?_ | refine blk_alloc ?_ _)); exact BK265.out)) : gb265 ≠ gb268)); have n6_ := Aside0.mk ((by rw [hg]; exact Nat.ne_of_gt (blk_lt (g := gb265) (o := .cells #[.int .i64 a0_0, .int .u32 a0_1, .slice A0_2 l0_2.length c0_2, .int .i64 a0_3, .int .i64 a0_4, .int .i32 a0_5, .int .i64 a0_6, .int .u64 a0_7, .int .i64 a0_8] 40 (0, 0)) (by (with_reducible repeat (first | refine blk_drewN ?_ _ | refine blk_drew ?_ | refine blk_alloc ?_ _)); exact BK265.out)) : gb268 ≠ gb265)); clear BK265; clear HB; have BK265 := n0_; have HB := n1_; have BK268 := n2_; have GW268 := n3_; have GE268 := n4_; have NB265_268 := n5_; have NB268_265 := n6_; clear n0_ n1_ n2_ n3_ n4_ n5_ n6_; clear hb hbox hg; have hnb41 := NB268_265.out; have hnc41 := NB265_268.out; have hcz42_0 : w40.cell? ⟨gb268, 0, none⟩ = some (.slice none 0 0) := (blk_cell BK268.out 0).trans rfl; have hcz42_1 : w40.cell? ⟨gb268, 1, none⟩ = some (.int .i64 0) := (blk_cell BK268.out 1).trans rfl; have hcz42_2 : w40.cell? ⟨gb268, 2, none⟩ = some (.int .i64 0) := (blk_cell BK268.out 2).trans rfl; have hcz42_3 : w40.cell? ⟨gb268, 3, none⟩ = some (.int .i32 0) := (blk_cell BK268.out 3).trans rfl; have hcz42_4 : w40.cell? ⟨gb268, 4, none⟩ = some (.int .i64 0) := (blk_cell BK268.out 4).trans rfl; have hcz42_5 : w40.cell? ⟨gb268, 5, none⟩ = some (.int .u64 0) := (blk_cell BK268.out 5).trans rfl; have hfz42_0 := blk_frozen BK268.out 0; have hfz42_1 := blk_frozen BK268.out 1; have hfz42_2 := blk_frozen BK268.out 2; have hfz42_3 := blk_frozen BK268.out 3; have hfz42_4 := blk_frozen BK268.out 4; have hfz42_5 := blk_frozen BK268.out 5))
           go_ret
           exact ⟨by first | rfl | (simp [errW_none, errW_some] <;> rfl) | (simp [*, errW_none, errW_some] <;> rfl), by repeat (first | (with_reducible first | exact HB.out | apply below_alloc | apply pw_below_drewN | apply below_drew1 | refine below_set ?_ GE265.out | refine below_set ?_ GE268.out) | exact HB.out)⟩
         ·
          rw [if_neg c23] at H
          have c23b0 : decide ((-1) ≤ a0_4) = false := decide_eq_false c23
          clear c23
          obtain rfl := Option.some.inj H
          have hcz43_0 : wr.cell? ⟨gb265, 0, none⟩ = some (.int .i64 a0_0) := (blk_cell BK265.out 0).trans rfl
          have hcz43_1 : wr.cell? ⟨gb265, 1, none⟩ = some (.int .u32 a0_1) := (blk_cell BK265.out 1).trans rfl
          have hcz43_2 : wr.cell? ⟨gb265, 2, none⟩ = some (.slice A0_2 l0_2.length c0_2) := (blk_cell BK265.out 2).trans rfl
          have hcz43_3 : wr.cell? ⟨gb265, 3, none⟩ = some (.int .i64 a0_3) := (blk_cell BK265.out 3).trans rfl
          have hcz43_4 : wr.cell? ⟨gb265, 4, none⟩ = some (.int .i64 a0_4) := (blk_cell BK265.out 4).trans rfl
          have hcz43_5 : wr.cell? ⟨gb265, 5, none⟩ = some (.int .i32 a0_5) := (blk_cell BK265.out 5).trans rfl
          have hcz43_6 : wr.cell? ⟨gb265, 6, none⟩ = some (.int .i64 a0_6) := (blk_cell BK265.out 6).trans rfl
          have hcz43_7 : wr.cell? ⟨gb265, 7, none⟩ = some (.int .u64 a0_7) := (blk_cell BK265.out 7).trans rfl
          have hcz43_8 : wr.cell? ⟨gb265, 8, none⟩ = some (.int .i64 a0_8) := (blk_cell BK265.out 8).trans rfl
          have hfz43_0 := blk_frozen BK265.out 0
          have hfz43_1 := blk_frozen BK265.out 1
          have hfz43_2 := blk_frozen BK265.out 2
          have hfz43_3 := blk_frozen BK265.out 3
          have hfz43_4 := blk_frozen BK265.out 4
          have hfz43_5 := blk_frozen BK265.out 5
          have hfz43_6 := blk_frozen BK265.out 6
          have hfz43_7 := blk_frozen BK265.out 7
          have hfz43_8 := blk_frozen BK265.out 8
          go_wp2_with (first | ((with_reducible refine gate_dst (N := 4) rfl ?_); refine box_event ?hg (N := 4) ?hd (cs := #[.slice none 0 0, .int .i64 0, .int .i64 0, .int .i32 0, .int .i64 0, .int .u64 0]) (t := 38) ?hr ?_; (case hd => rfl); (case hg => rfl); (case hr => first | (go_simp; done) | (go_simp; rfl)); intro gb268 hg w44 hbox hb; have n0_ := Aside0.mk (blk_below (g := gb265) (o := .cells #[.int .i64 a0_0, .int .u32 a0_1, .slice A0_2 l0_2.length c0_2, .int .i64 a0_3, .int .i64 a0_4, .int .i32 a0_5, .int .i64 a0_6, .int .u64 a0_7, .int .i64 a0_8] 40 (0, 0)) (by (with_reducible repeat (first | refine blk_drewN ?_ _ | refine blk_drew ?_ | refine blk_alloc ?_ _)); exact BK265.out) hb); have n1_ := Aside0.mk (below_step (by repeat (first | (with_reducible first | exact HB.out | apply below_alloc | apply pw_below_drewN | apply below_drew1 | refine below_set ?_ GE265.out) | exact HB.out)) hb); have n2_ := Aside0.mk (hbox); have n3_ := Aside0.mk ((by rw [hg]; exact (below_size (by repeat (first | (with_reducible first | exact HB.out | apply below_alloc | apply pw_below_drewN | apply below_drew1 | refine below_set ?_ GE265.out) | exact HB.out))) : w.heap.size ≤ gb268)); have n4_ := Aside0.mk ((by rw [hg]; exact (below_size (by repeat (first | (with_reducible first | exact HB.out | apply below_alloc | apply pw_below_drewN | apply below_drew1 | refine below_set ?_ GE265.out) | exact HB.out))) : w.heap.size ≤ gb268)); have n5_ := Aside0.mk ((by rw [hg]; exact Nat.ne_of_lt (blk_lt (g := gb265) (o := .cells #[.int .i64 a0_0, .int .u32 a0_1, .slice A0_2 l0_2.length c0_2, .int .i64 a0_3, .int .i64 a0_4, .int .i32 a0_5, .int .i64 a0_6, .int .u64 a0_7, .int .i64 a0_8] 40 (0, 0)) (by (with_reducible repeat (first | refine blk_drewN ?_ _ | refine blk_drew ?_ | refine blk_alloc ?_ _)); exact BK265.out)) : gb265 ≠ gb268)); have n6_ := Aside0.mk ((by rw [hg]; exact Nat.ne_of_gt (blk_lt (g := gb265) (o := .cells #[.int .i64 a0_0, .int .u32 a0_1, .slice A0_2 l0_2.length c0_2, .int .i64 a0_3, .int .i64 a0_4, .int .i32 a0_5, .int .i64 a0_6, .int .u64 a0_7, .int .i64 a0_8] 40 (0, 0)) (by (with_reducible repeat (first | refine blk_drewN ?_ _ | refine blk_drew ?_ | refine blk_alloc ?_ _)); exact BK265.out)) : gb268 ≠ gb265)); clear BK265; clear HB; have BK265 := n0_; have HB := n1_; have BK268 := n2_; have GW268 := n3_; have GE268 := n4_; have NB265_268 := n5_; have NB268_265 := n6_; clear n0_ n1_ n2_ n3_ n4_ n5_ n6_; clear hb hbox hg; have hnb45 := NB268_265.out; have hnc45 := NB265_268.out; have hcz46_0 : w44.cell? ⟨gb268, 0, none⟩ = some (.slice none 0 0) := (blk_cell BK268.out 0).trans rfl; have hcz46_1 : w44.cell? ⟨gb268, 1, none⟩ = some (.int .i64 0) := (blk_cell BK268.out 1).trans rfl; have hcz46_2 : w44.cell? ⟨gb268, 2, none⟩ = some (.int .i64 0) := (blk_cell BK268.out 2).trans rfl; have hcz46_3 : w44.cell? ⟨gb268, 3, none⟩ = some (.int .i32 0) := (blk_cell BK268.out 3).trans rfl; have hcz46_4 : w44.cell? ⟨gb268, 4, none⟩ = some (.int .i64 0) := (blk_cell BK268.out 4).trans rfl; have hcz46_5 : w44.cell? ⟨gb268, 5, none⟩ = some (.int .u64 0) := (blk_cell BK268.out 5).trans rfl; have hfz46_0 := blk_frozen BK268.out 0; have hfz46_1 := blk_frozen BK268.out 1; have hfz46_2 := blk_frozen BK268.out 2; have hfz46_3 := blk_frozen BK268.out 3; have hfz46_4 := blk_frozen BK268.out 4; have hfz46_5 := blk_frozen BK268.out 5))
          go_ret
          exact ⟨by first | rfl | (simp [errW_none, errW_some] <;> rfl) | (simp [*, errW_none, errW_some] <;> rfl), by repeat (first | (with_reducible first | exact HB.out | apply below_alloc | apply pw_below_drewN | apply below_drew1 | refine below_set ?_ GE265.out | refine below_set ?_ GE268.out) | exact HB.out)⟩
        ·
         rw [if_neg c22] at H
         have c22b0 : decide (a0_3 ≤ 65535) = false := decide_eq_false c22
         clear c22
         obtain rfl := Option.some.inj H
         have hcz47_0 : wr.cell? ⟨gb265, 0, none⟩ = some (.int .i64 a0_0) := (blk_cell BK265.out 0).trans rfl
         have hcz47_1 : wr.cell? ⟨gb265, 1, none⟩ = some (.int .u32 a0_1) := (blk_cell BK265.out 1).trans rfl
         have hcz47_2 : wr.cell? ⟨gb265, 2, none⟩ = some (.slice A0_2 l0_2.length c0_2) := (blk_cell BK265.out 2).trans rfl
         have hcz47_3 : wr.cell? ⟨gb265, 3, none⟩ = some (.int .i64 a0_3) := (blk_cell BK265.out 3).trans rfl
         have hcz47_4 : wr.cell? ⟨gb265, 4, none⟩ = some (.int .i64 a0_4) := (blk_cell BK265.out 4).trans rfl
         have hcz47_5 : wr.cell? ⟨gb265, 5, none⟩ = some (.int .i32 a0_5) := (blk_cell BK265.out 5).trans rfl
         have hcz47_6 : wr.cell? ⟨gb265, 6, none⟩ = some (.int .i64 a0_6) := (blk_cell BK265.out 6).trans rfl
         have hcz47_7 : wr.cell? ⟨gb265, 7, none⟩ = some (.int .u64 a0_7) := (blk_cell BK265.out 7).trans rfl
         have hcz47_8 : wr.cell? ⟨gb265, 8, none⟩ = some (.int .i64 a0_8) := (blk_cell BK265.out 8).trans rfl
         have hfz47_0 := blk_frozen BK265.out 0
         have hfz47_1 := blk_frozen BK265.out 1
         have hfz47_2 := blk_frozen BK265.out 2
         have hfz47_3 := blk_frozen BK265.out 3
         have hfz47_4 := blk_frozen BK265.out 4
         have hfz47_5 := blk_frozen BK265.out 5
         have hfz47_6 := blk_frozen BK265.out 6
         have hfz47_7 := blk_frozen BK265.out 7
         have hfz47_8 := blk_frozen BK265.out 8
         go_wp2_with (first | ((with_reducible refine gate_dst (N := 4) rfl ?_); refine box_event ?hg (N := 4) ?hd (cs := #[.slice none 0 0, .int .i64 0, .int .i64 0, .int .i32 0, .int .i64 0, .int .u64 0]) (t := 38) ?hr ?_; (case hd => rfl); (case hg => rfl); (case hr => first | (go_simp; done) | (go_simp; rfl)); intro gb268 hg w48 hbox hb; have n0_ := Aside0.mk (blk_below (g := gb265) (o := .cells #[.int .i64 a0_0, .int .u32 a0_1, .slice A0_2 l0_2.length c0_2, .int .i64 a0_3, .int .i64 a0_4, .int .i32 a0_5, .int .i64 a0_6, .int .u64 a0_7, .int .i64 a0_8] 40 (0, 0)) (by (with_reducible repeat (first | refine blk_drewN ?_ _ | refine blk_drew ?_ | refine blk_alloc ?_ _)); exact BK265.out) hb); have n1_ := Aside0.mk (below_step (by repeat (first | (with_reducible first | exact HB.out | apply below_alloc | apply pw_below_drewN | apply below_drew1 | refine below_set ?_ GE265.out) | exact HB.out)) hb); have n2_ := Aside0.mk (hbox); have n3_ := Aside0.mk ((by rw [hg]; exact (below_size (by repeat (first | (with_reducible first | exact HB.out | apply below_alloc | apply pw_below_drewN | apply below_drew1 | refine below_set ?_ GE265.out) | exact HB.out))) : w.heap.size ≤ gb268)); have n4_ := Aside0.mk ((by rw [hg]; exact (below_size (by repeat (first | (with_reducible first | exact HB.out | apply below_alloc | apply pw_below_drewN | apply below_drew1 | refine below_set ?_ GE265.out) | exact HB.out))) : w.heap.size ≤ gb268)); have n5_ := Aside0.mk ((by rw [hg]; exact Nat.ne_of_lt (blk_lt (g := gb265) (o := .cells #[.int .i64 a0_0, .int .u32 a0_1, .slice A0_2 l0_2.length c0_2, .int .i64 a0_3, .int .i64 a0_4, .int .i32 a0_5, .int .i64 a0_6, .int .u64 a0_7, .int .i64 a0_8] 40 (0, 0)) (by (with_reducible repeat (first | refine blk_drewN ?_ _ | refine blk_drew ?_ | refine blk_alloc ?_ _)); exact BK265.out)) : gb265 ≠ gb268)); have n6_ := Aside0.mk ((by rw [hg]; exact Nat.ne_of_gt (blk_lt (g := gb265) (o := .cells #[.int .i64 a0_0, .int .u32 a0_1, .slice A0_2 l0_2.length c0_2, .int .i64 a0_3, .int .i64 a0_4, .int .i32 a0_5, .int .i64 a0_6, .int .u64 a0_7, .int .i64 a0_8] 40 (0, 0)) (by (with_reducible repeat (first | refine blk_drewN ?_ _ | refine blk_drew ?_ | refine blk_alloc ?_ _)); exact BK265.out)) : gb268 ≠ gb265)); clear BK265; clear HB; have BK265 := n0_; have HB := n1_; have BK268 := n2_; have GW268 := n3_; have GE268 := n4_; have NB265_268 := n5_; have NB268_265 := n6_; clear n0_ n1_ n2_ n3_ n4_ n5_ n6_; clear hb hbox hg; have hnb49 := NB268_265.out; have hnc49 := NB265_268.out; have hcz50_0 : w48.cell? ⟨gb268, 0, none⟩ = some (.slice none 0 0) := (blk_cell BK268.out 0).trans rfl; have hcz50_1 : w48.cell? ⟨gb268, 1, none⟩ = some (.int .i64 0) := (blk_cell BK268.out 1).trans rfl; have hcz50_2 : w48.cell? ⟨gb268, 2, none⟩ = some (.int .i64 0) := (blk_cell BK268.out 2).trans rfl; have hcz50_3 : w48.cell? ⟨gb268, 3, none⟩ = some (.int .i32 0) := (blk_cell BK268.out 3).trans rfl; have hcz50_4 : w48.cell? ⟨gb268, 4, none⟩ = some (.int .i64 0) := (blk_cell BK268.out 4).trans rfl; have hcz50_5 : w48.cell? ⟨gb268, 5, none⟩ = some (.int .u64 0) := (blk_cell BK268.out 5).trans rfl; have hfz50_0 := blk_frozen BK268.out 0; have hfz50_1 := blk_frozen BK268.out 1; have hfz50_2 := blk_frozen BK268.out 2; have hfz50_3 := blk_frozen BK268.out 3; have hfz50_4 := blk_frozen BK268.out 4; have hfz50_5 := blk_frozen BK268.out 5))
         go_ret
         exact ⟨by first | rfl | (simp [errW_none, errW_some] <;> rfl) | (simp [*, errW_none, errW_some] <;> rfl), by repeat (first | (with_reducible first | exact HB.out | apply below_alloc | apply pw_below_drewN | apply below_drew1 | refine below_set ?_ GE265.out | refine below_set ?_ GE268.out) | exact HB.out)⟩
       ·
        rw [if_neg c21] at H
        have c21b0 : decide (0 ≤ a0_3) = false := decide_eq_false c21
        clear c21
        obtain rfl := Option.some.inj H
        have hcz51_0 : wr.cell? ⟨gb265, 0, none⟩ = some (.int .i64 a0_0) := (blk_cell BK265.out 0).trans rfl
        have hcz51_1 : wr.cell? ⟨gb265, 1, none⟩ = some (.int .u32 a0_1) := (blk_cell BK265.out 1).trans rfl
        have hcz51_2 : wr.cell? ⟨gb265, 2, none⟩ = some (.slice A0_2 l0_2.length c0_2) := (blk_cell BK265.out 2).trans rfl
        have hcz51_3 : wr.cell? ⟨gb265, 3, none⟩ = some (.int .i64 a0_3) := (blk_cell BK265.out 3).trans rfl
        have hcz51_4 : wr.cell? ⟨gb265, 4, none⟩ = some (.int .i64 a0_4) := (blk_cell BK265.out 4).trans rfl
        have hcz51_5 : wr.cell? ⟨gb265, 5, none⟩ = some (.int .i32 a0_5) := (blk_cell BK265.out 5).trans rfl
        have hcz51_6 : wr.cell? ⟨gb265, 6, none⟩ = some (.int .i64 a0_6) := (blk_cell BK265.out 6).trans rfl
        have hcz51_7 : wr.cell? ⟨gb265, 7, none⟩ = some (.int .u64 a0_7) := (blk_cell BK265.out 7).trans rfl
        have hcz51_8 : wr.cell? ⟨gb265, 8, none⟩ = some (.int .i64 a0_8) := (blk_cell BK265.out 8).trans rfl
        have hfz51_0 := blk_frozen BK265.out 0
        have hfz51_1 := blk_frozen BK265.out 1
        have hfz51_2 := blk_frozen BK265.out 2
        have hfz51_3 := blk_frozen BK265.out 3
        have hfz51_4 := blk_frozen BK265.out 4
        have hfz51_5 := blk_frozen BK265.out 5
        have hfz51_6 := blk_frozen BK265.out 6
        have hfz51_7 := blk_frozen BK265.out 7
        have hfz51_8 := blk_frozen BK265.out 8
        go_wp2_with (first | ((with_reducible refine gate_dst (N := 4) rfl ?_); refine box_event ?hg (N := 4) ?hd (cs := #[.slice none 0 0, .int .i64 0, .int .i64 0, .int .i32 0, .int .i64 0, .int .u64 0]) (t := 38) ?hr ?_; (case hd => rfl); (case hg => rfl); (case hr => first | (go_simp; done) | (go_simp; rfl)); intro gb268 hg w52 hbox hb; have n0_ := Aside0.mk (blk_below (g := gb265) (o := .cells #[.int .i64 a0_0, .int .u32 a0_1, .slice A0_2 l0_2.length c0_2, .int .i64 a0_3, .int .i64 a0_4, .int .i32 a0_5, .int .i64 a0_6, .int .u64 a0_7, .int .i64 a0_8] 40 (0, 0)) (by (with_reducible repeat (first | refine blk_drewN ?_ _ | refine blk_drew ?_ | refine blk_alloc ?_ _)); exact BK265.out) hb); have n1_ := Aside0.mk (below_step (by repeat (first | (with_reducible first | exact HB.out | apply below_alloc | apply pw_below_drewN | apply below_drew1 | refine below_set ?_ GE265.out) | exact HB.out)) hb); have n2_ := Aside0.mk (hbox); have n3_ := Aside0.mk ((by rw [hg]; exact (below_size (by repeat (first | (with_reducible first | exact HB.out | apply below_alloc | apply pw_below_drewN | apply below_drew1 | refine below_set ?_ GE265.out) | exact HB.out))) : w.heap.size ≤ gb268)); have n4_ := Aside0.mk ((by rw [hg]; exact (below_size (by repeat (first | (with_reducible first | exact HB.out | apply below_alloc | apply pw_below_drewN | apply below_drew1 | refine below_set ?_ GE265.out) | exact HB.out))) : w.heap.size ≤ gb268)); have n5_ := Aside0.mk ((by rw [hg]; exact Nat.ne_of_lt (blk_lt (g := gb265) (o := .cells #[.int .i64 a0_0, .int .u32 a0_1, .slice A0_2 l0_2.length c0_2, .int .i64 a0_3, .int .i64 a0_4, .int .i32 a0_5, .int .i64 a0_6, .int .u64 a0_7, .int .i64 a0_8] 40 (0, 0)) (by (with_reducible repeat (first | refine blk_drewN ?_ _ | refine blk_drew ?_ | refine blk_alloc ?_ _)); exact BK265.out)) : gb265 ≠ gb268)); have n6_ := Aside0.mk ((by rw [hg]; exact Nat.ne_of_gt (blk_lt (g := gb265) (o := .cells #[.int .i64 a0_0, .int .u32 a0_1, .slice A0_2 l0_2.length c0_2, .int .i64 a0_3, .int .i64 a0_4, .int .i32 a0_5, .int .i64 a0_6, .int .u64 a0_7, .int .i64 a0_8] 40 (0, 0)) (by (with_reducible repeat (first | refine blk_drewN ?_ _ | refine blk_drew ?_ | refine blk_alloc ?_ _)); exact BK265.out)) : gb268 ≠ gb265)); clear BK265; clear HB; have BK265 := n0_; have HB := n1_; have BK268 := n2_; have GW268 := n3_; have GE268 := n4_; have NB265_268 := n5_; have NB268_265 := n6_; clear n0_ n1_ n2_ n3_ n4_ n5_ n6_; clear hb hbox hg; have hnb53 := NB268_265.out; have hnc53 := NB265_268.out; have hcz54_0 : w52.cell? ⟨gb268, 0, none⟩ = some (.slice none 0 0) := (blk_cell BK268.out 0).trans rfl; have hcz54_1 : w52.cell? ⟨gb268, 1, none⟩ = some (.int .i64 0) := (blk_cell BK268.out 1).trans rfl; have hcz54_2 : w52.cell? ⟨gb268, 2, none⟩ = some (.int .i64 0) := (blk_cell BK268.out 2).trans rfl; have hcz54_3 : w52.cell? ⟨gb268, 3, none⟩ = some (.int .i32 0) := (blk_cell BK268.out 3).trans rfl; have hcz54_4 : w52.cell? ⟨gb268, 4, none⟩ = some (.int .i64 0) := (blk_cell BK268.out 4).trans rfl; have hcz54_5 : w52.cell? ⟨gb268, 5, none⟩ = some (.int .u64 0) := (blk_cell BK268.out 5).trans rfl; have hfz54_0 := blk_frozen BK268.out 0; have hfz54_1 := blk_frozen BK268.out 1; have hfz54_2 := blk_frozen BK268.out 2; have hfz54_3 := blk_frozen BK268.out 3; have hfz54_4 := blk_frozen BK268.out 4; have hfz54_5 := blk_frozen BK268.out 5))
        go_ret
        exact ⟨by first | rfl | (simp [errW_none, errW_some] <;> rfl) | (simp [*, errW_none, errW_some] <;> rfl), by repeat (first | (with_reducible first | exact HB.out | apply below_alloc | apply pw_below_drewN | apply below_drew1 | refine below_set ?_ GE265.out | refine below_set ?_ GE268.out) | exact HB.out)⟩

/-! ### credenzaref06_Number: function 55 -/
def credenzaref06_Number.l0 : Nat → ByteArray → Int → Int → Option (Int)
 | 0, _, _, _ => none
 | k + 1, x0, x3, x4 => if x4 < (x0.size : Int) then (if 0 ≤ x4 then (credenzaref06_Number.l0 k x0 (IntKind.u64.wrap ((IntKind.u64.wrap (x3 * 256)) + (IntKind.u64.wrap (bt x0 x4)))) (wrap64 (x4 + 1))) else (none)) else (some x3)
def credenzaref06_Number.f (k : Nat) (a0 : ByteArray) : Option (Int) := credenzaref06_Number.l0 k a0 0 0
theorem credenzaref06_Number.mono_l : ∀ k, (∀ y0 y1 y2, LeO (credenzaref06_Number.l0 k y0 y1 y2) (credenzaref06_Number.l0 (k + 1) y0 y1 y2))
 | 0 => fun _ _ _ r h => by simp [credenzaref06_Number.l0] at h
 | k + 1 => by
  have ih0 := credenzaref06_Number.mono_l k
  ·
   intro y0 y1 y2
   unfold credenzaref06_Number.l0
   repeat' first
   | (with_reducible exact ih0 _ _ _)
   | (with_reducible exact LeO.refl _)
   | (with_reducible exact LeO.none _)
   | (with_reducible refine LeO.ite ?_ ?_)
   | (with_reducible refine LeO.bind ?_ (fun _ => ?_))
   | exact ih0 _ _ _
   | exact LeO.none _
   | refine LeO.ite ?_ ?_
   | refine LeO.bind ?_ (fun _ => ?_)
theorem credenzaref06_Number.mono : ∀ a0 k, LeO (credenzaref06_Number.f k a0) (credenzaref06_Number.f (k + 1) a0) := by
 intro a0 k
 have ih0 := credenzaref06_Number.mono_l k
 unfold credenzaref06_Number.f
 repeat' first
   | (with_reducible exact ih0 _ _ _)
   | (with_reducible exact LeO.refl _)
   | (with_reducible exact LeO.none _)
   | (with_reducible refine LeO.ite ?_ ?_)
   | (with_reducible refine LeO.bind ?_ (fun _ => ?_))
   | exact ih0 _ _ _
   | exact LeO.none _
   | refine LeO.ite ?_ ?_
   | refine LeO.bind ?_ (fun _ => ?_)
set_option maxHeartbeats 8000000 in
set_option maxRecDepth 100000 in
theorem credenzaref06_Number.calls (k : Nat) (a0 : ByteArray) (r : Int) (w : World) (h : credenzaref06_Number.f k a0 = some r) :
  Calls Try.prog 55 #[.string a0] w fun e w' => e = .returned (.int .u64 r) ∧ Drawn0 w w' := by
 have H : (credenzaref06_Number.l0 k a0 0 0) = some r := h
 clear h
 have H' := Aside0.mk H
 clear H
 go_enter Try.func55, Try.ntmps55
 go_wp2
 go_loopg [3, 4] k (fun kq v3 v4 w' => ∃ (x3_1 : Int) (x4_1 : Int), v3 = .int .u64 x3_1 ∧ v4 = .int .i64 x4_1 ∧ Aside0 (credenzaref06_Number.l0 kq a0 x3_1 x4_1 = some r) ∧ Aside0 (kq ≤ k) ∧ Drawn0 w w')
 case atStart => exact ⟨(0), (0), (by first | rfl | (simp; done) | (simp [*]; done)), (by first | rfl | (simp; done) | (simp [*]; done)), H', ⟨Nat.le_refl _⟩, by repeat (first | exact Drawn0.refl _ | apply Drawn0.step)⟩
 case round =>
  clear H'
  obtain ⟨x3_1, x4_1, rfl, rfl, HA, HK1, ⟨m1, rfl⟩⟩ := hrel
  cases gk with
  | zero => exact absurd HA.out (by simp [credenzaref06_Number.l0])
  | succ k1 =>
   have H := HA.out
   clear HA
   simp only [credenzaref06_Number.l0] at H
   by_cases c2 : x4_1 < (a0.size : Int)
   ·
    rw [if_pos c2] at H
    have c2b0 : decide (x4_1 < (a0.size : Int)) = true := decide_eq_true c2
    clear c2
    by_cases c3 : 0 ≤ x4_1
    ·
     rw [if_pos c3] at H
     have c3b0 : decide (0 ≤ x4_1) = true := decide_eq_true c3
     clear c3
     have H' := Aside0.mk H
     clear H
     have p4 : 0 ≤ (x4_1 : Int) := of_decide_eq_true (by first | (with_reducible assumption) | assumption)
     have q4 : x4_1 < (a0.size : Int) := of_decide_eq_true (by first | (with_reducible assumption) | assumption)
     have hx4 := bt_at a0 x4_1
     replace p4 := eq_true p4
     replace q4 := eq_true q4
     go_wp2
     go_roundg k1
     case measure => have := HK1.out; omega
     case rel => exact ⟨(IntKind.u64.wrap ((IntKind.u64.wrap (x3_1 * 256)) + (IntKind.u64.wrap (bt a0 x4_1)))), (wrap64 (x4_1 + 1)), (by first | rfl | (simp; done) | (simp [*]; done)), (by first | rfl | (simp; done) | (simp [*]; done)), H', ⟨by have := HK1.out; omega⟩, by repeat (first | exact Drawn0.refl _ | apply Drawn0.step)⟩
    ·
     rw [if_neg c3] at H
     exact absurd H (by simp)
   ·
    rw [if_neg c2] at H
    have c2b0 : decide (x4_1 < (a0.size : Int)) = false := decide_eq_false c2
    clear c2
    obtain rfl := Option.some.inj H
    go_wp2
    go_ret
    exact ⟨by first | rfl | (simp; done) | (simp [*]; done), by repeat (first | exact Drawn0.refl _ | apply Drawn0.step)⟩

end Go.Proofs.Ytehepnmagcjkaaa.PAskParses
