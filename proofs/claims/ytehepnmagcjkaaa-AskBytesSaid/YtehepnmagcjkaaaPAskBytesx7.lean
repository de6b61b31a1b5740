-- Written by a program of this session (wip/tools/mkprint.py over the kit's print).
import Derived.Test.YtehepnmagcjkaaaPAskBytesx0
import Derived.Test.YtehepnmagcjkaaaPAskBytesx5
import Derived.Test.YtehepnmagcjkaaaPAskBytesx6
namespace Go.Proofs.Ytehepnmagcjkaaa.PAskBytes
open Go.RowKit Go.Proofs.YtehepnmagcjkaaaW.PrintWords Go.Proofs.YtehepnmagcjkaaaW.PrintLast Go.Proofs.YtehepnmagcjkaaaW.PrintMore
attribute [local go_sem] max2_int min2_int max_two min_two max_three min_three max_four min_four   -- for this text's walks alone
set_option linter.unusedVariables false
set_option linter.unusedSimpArgs false

/-! ### credenzaref22_Right: function 14 -/
mutual
def credenzaref22_Right.j0 : Nat → Bool → Int → Int → List Int → Int → Int → Int → Int → Int → Int → Option (Int)
 | 0, _, _, _, _, _, _, _, _, _, _ => none
 | k + 1, x10, x271000, x271001, x271002, x271003, x271004, x271005, x271006, x271007, x271008 => if x10 = true then (some 29) else (if x271000 > 2 then (if x271001 = 0 then (if x271000 < 3 then (if x271008 = 0 then (if x271000 = 1 then (credenzaref22_Right.j1 k false x271000 x271001 x271002 x271003 x271004 x271005 x271006 x271007 x271008) else ((credenzaref22_empty.f x271002 x271003 x271004 x271005 x271006 x271007).bind fun t271 => (credenzaref22_Right.j1 k (!t271) x271000 x271001 x271002 x271003 x271004 x271005 x271006 x271007 x271008))) else (credenzaref22_Right.j1 k true x271000 x271001 x271002 x271003 x271004 x271005 x271006 x271007 x271008)) else (if x271000 = 1 then (credenzaref22_Right.j1 k false x271000 x271001 x271002 x271003 x271004 x271005 x271006 x271007 x271008) else ((credenzaref22_empty.f x271002 x271003 x271004 x271005 x271006 x271007).bind fun t272 => (credenzaref22_Right.j1 k (!t272) x271000 x271001 x271002 x271003 x271004 x271005 x271006 x271007 x271008)))) else (credenzaref22_Right.j1 k true x271000 x271001 x271002 x271003 x271004 x271005 x271006 x271007 x271008)) else (if x271000 < 3 then (if x271008 = 0 then (if x271000 = 1 then (credenzaref22_Right.j1 k false x271000 x271001 x271002 x271003 x271004 x271005 x271006 x271007 x271008) else ((credenzaref22_empty.f x271002 x271003 x271004 x271005 x271006 x271007).bind fun t273 => (credenzaref22_Right.j1 k (!t273) x271000 x271001 x271002 x271003 x271004 x271005 x271006 x271007 x271008))) else (credenzaref22_Right.j1 k true x271000 x271001 x271002 x271003 x271004 x271005 x271006 x271007 x271008)) else (if x271000 = 1 then (credenzaref22_Right.j1 k false x271000 x271001 x271002 x271003 x271004 x271005 x271006 x271007 x271008) else ((credenzaref22_empty.f x271002 x271003 x271004 x271005 x271006 x271007).bind fun t274 => (credenzaref22_Right.j1 k (!t274) x271000 x271001 x271002 x271003 x271004 x271005 x271006 x271007 x271008)))))
def credenzaref22_Right.j1 : Nat → Bool → Int → Int → List Int → Int → Int → Int → Int → Int → Int → Option (Int)
 | 0, _, _, _, _, _, _, _, _, _, _ => none
 | k + 1, x39, x271000, x271001, x271002, x271003, x271004, x271005, x271006, x271007, x271008 => if x39 = true then (some 10) else (if (x271002.length : Int) > 1024 then (some 12) else ((credenzaref22_Ranged.f k x271000 x271001 x271002 x271003 x271004 x271005 x271006 x271007 x271008).bind fun t275 => (if t275 = true then (some 0) else (some 11))))
end
def credenzaref22_Right.f (k : Nat) (a0_0 : Int) (a0_1 : Int) (l0_2 : List Int) (a0_3 : Int) (a0_4 : Int) (a0_5 : Int) (a0_6 : Int) (a0_7 : Int) (a0_8 : Int) : Option (Int) := if a0_0 < 1 then (credenzaref22_Right.j0 k true a0_0 a0_1 l0_2 a0_3 a0_4 a0_5 a0_6 a0_7 a0_8) else (credenzaref22_Right.j0 k (decide (a0_0 > 4)) a0_0 a0_1 l0_2 a0_3 a0_4 a0_5 a0_6 a0_7 a0_8)
theorem credenzaref22_Right.mono_l : ∀ k, (∀ y0 y1 y2 y3 y4 y5 y6 y7 y8 y9, LeO (credenzaref22_Right.j0 k y0 y1 y2 y3 y4 y5 y6 y7 y8 y9) (credenzaref22_Right.j0 (k + 1) y0 y1 y2 y3 y4 y5 y6 y7 y8 y9)) ∧ (∀ y0 y1 y2 y3 y4 y5 y6 y7 y8 y9, LeO (credenzaref22_Right.j1 k y0 y1 y2 y3 y4 y5 y6 y7 y8 y9) (credenzaref22_Right.j1 (k + 1) y0 y1 y2 y3 y4 y5 y6 y7 y8 y9))
 | 0 => ⟨fun _ _ _ _ _ _ _ _ _ _ r h => by simp [credenzaref22_Right.j0] at h, fun _ _ _ _ _ _ _ _ _ _ r h => by simp [credenzaref22_Right.j1] at h⟩
 | k + 1 => by
  obtain ⟨ih0, ih1⟩ := credenzaref22_Right.mono_l k
  refine ⟨?_, ?_⟩
  ·
   intro y0 y1 y2 y3 y4 y5 y6 y7 y8 y9
   unfold credenzaref22_Right.j0
   repeat' first
   | (with_reducible exact ih0 _ _ _ _ _ _ _ _ _ _)
   | (with_reducible exact ih1 _ _ _ _ _ _ _ _ _ _)
   | (with_reducible exact credenzaref22_Ranged.mono _ _ _ _ _ _ _ _ _ _)
   | (with_reducible exact LeO.refl _)
   | (with_reducible exact LeO.none _)
   | (with_reducible refine LeO.ite ?_ ?_)
   | (with_reducible refine LeO.bind ?_ (fun _ => ?_))
   | exact ih0 _ _ _ _ _ _ _ _ _ _
   | exact ih1 _ _ _ _ _ _ _ _ _ _
   | exact credenzaref22_Ranged.mono _ _ _ _ _ _ _ _ _ _
   | exact LeO.none _
   | refine LeO.ite ?_ ?_
   | refine LeO.bind ?_ (fun _ => ?_)
  ·
   intro y0 y1 y2 y3 y4 y5 y6 y7 y8 y9
   unfold credenzaref22_Right.j1
   repeat' first
   | (with_reducible exact ih0 _ _ _ _ _ _ _ _ _ _)
   | (with_reducible exact ih1 _ _ _ _ _ _ _ _ _ _)
   | (with_reducible exact credenzaref22_Ranged.mono _ _ _ _ _ _ _ _ _ _)
   | (with_reducible exact LeO.refl _)
   | (with_reducible exact LeO.none _)
   | (with_reducible refine LeO.ite ?_ ?_)
   | (with_reducible refine LeO.bind ?_ (fun _ => ?_))
   | exact ih0 _ _ _ _ _ _ _ _ _ _
   | exact ih1 _ _ _ _ _ _ _ _ _ _
   | exact credenzaref22_Ranged.mono _ _ _ _ _ _ _ _ _ _
   | exact LeO.none _
   | refine LeO.ite ?_ ?_
   | refine LeO.bind ?_ (fun _ => ?_)
theorem credenzaref22_Right.mono : ∀ a0 a1 a2 a3 a4 a5 a6 a7 a8 k, LeO (credenzaref22_Right.f k a0 a1 a2 a3 a4 a5 a6 a7 a8) (credenzaref22_Right.f (k + 1) a0 a1 a2 a3 a4 a5 a6 a7 a8) := by
 intro a0 a1 a2 a3 a4 a5 a6 a7 a8 k
 obtain ⟨ih0, ih1⟩ := credenzaref22_Right.mono_l k
 unfold credenzaref22_Right.f
 repeat' first
   | (with_reducible exact ih0 _ _ _ _ _ _ _ _ _ _)
   | (with_reducible exact ih1 _ _ _ _ _ _ _ _ _ _)
   | (with_reducible exact credenzaref22_Ranged.mono _ _ _ _ _ _ _ _ _ _)
   | (with_reducible exact LeO.refl _)
   | (with_reducible exact LeO.none _)
   | (with_reducible refine LeO.ite ?_ ?_)
   | (with_reducible refine LeO.bind ?_ (fun _ => ?_))
   | exact ih0 _ _ _ _ _ _ _ _ _ _
   | exact ih1 _ _ _ _ _ _ _ _ _ _
   | exact credenzaref22_Ranged.mono _ _ _ _ _ _ _ _ _ _
   | exact LeO.none _
   | refine LeO.ite ?_ ?_
   | refine LeO.bind ?_ (fun _ => ?_)
set_option maxHeartbeats 8000000 in
set_option maxRecDepth 100000 in
theorem credenzaref22_Right.calls (k : Nat) (a0_0 : Int) (a0_1 : Int) (A0_2 : Option Addr) (c0_2 : Nat) (l0_2 : List Int) (a0_3 : Int) (a0_4 : Int) (a0_5 : Int) (a0_6 : Int) (a0_7 : Int) (a0_8 : Int) (r : Int) (w : World) (hr0_2 : Kd.C (Kd.int .i64) w A0_2 l0_2.length l0_2) (hc0_2 : l0_2.length ≤ c0_2) (h : credenzaref22_Right.f k a0_0 a0_1 l0_2 a0_3 a0_4 a0_5 a0_6 a0_7 a0_8 = some r) :
  Calls Try.prog 14 #[.agg #[.int .i64 a0_0, .int .u32 a0_1, .slice A0_2 l0_2.length c0_2, .int .i64 a0_3, .int .i64 a0_4, .int .i32 a0_5, .int .i64 a0_6, .int .u64 a0_7, .int .i64 a0_8]] w fun e w' => e = .returned (.int .i64 r) ∧ Below w.heap.size w w' := by
 have hu40 := Try.underlying40
 have hu38 := Try.underlying38
 have HR0_2 := Aside0.mk hr0_2
 have HC0_2 := Aside0.mk hc0_2
 clear hr0_2 hc0_2
 have HB := Aside0.mk (Below.refl w.heap.size w)
 have H : (if a0_0 < 1 then (credenzaref22_Right.j0 k true a0_0 a0_1 l0_2 a0_3 a0_4 a0_5 a0_6 a0_7 a0_8) else (credenzaref22_Right.j0 k (decide (a0_0 > 4)) a0_0 a0_1 l0_2 a0_3 a0_4 a0_5 a0_6 a0_7 a0_8)) = some r := h
 clear h
 have HC2 := Aside0.mk H
 clear H
 go_enter Try.func14, Try.ntmps14
 go_upto_region 1 with (first | ((with_reducible refine gate_dst (N := 1) rfl ?_); refine box_event ?hg (N := 1) ?hd (cs := #[.int .i64 a0_0, .int .u32 a0_1, .slice A0_2 l0_2.length c0_2, .int .i64 a0_3, .int .i64 a0_4, .int .i32 a0_5, .int .i64 a0_6, .int .u64 a0_7, .int .i64 a0_8]) (t := 40) ?hr ?_; (case hd => rfl); (case hg => rfl); (case hr => first | (go_simp; done) | (go_simp; rfl)); intro gb270 hg w3 hbox hb; have n0_ := Aside0.mk (below_step (by repeat (first | (with_reducible first | exact HB.out | apply below_alloc | apply pw_below_drewN | apply below_drew1) | exact HB.out)) hb); have n1_ := Aside0.mk (hbox); have n2_ := Aside0.mk ((by rw [hg]; exact (below_size (by repeat (first | (with_reducible first | exact HB.out | apply below_alloc | apply pw_below_drewN | apply below_drew1) | exact HB.out))) : w.heap.size ≤ gb270)); have n3_ := Aside0.mk ((by rw [hg]; exact (below_size (by repeat (first | (with_reducible first | exact HB.out | apply below_alloc | apply pw_below_drewN | apply below_drew1) | exact HB.out))) : w.heap.size ≤ gb270)); clear HB; have HB := n0_; have BK270 := n1_; have GW270 := n2_; have GE270 := n3_; clear n0_ n1_ n2_ n3_; clear hb hbox hg))
 (try simp only [Act.put, List.setIfInBounds_toArray, List.set_cons_zero, List.set_cons_succ])
 go_cut [10] (fun v10 wc => ∃ (kq : Nat) (x10_1 : Bool), v10 = .bool x10_1 ∧ Aside0 (credenzaref22_Right.j0 kq x10_1 a0_0 a0_1 l0_2 a0_3 a0_4 a0_5 a0_6 a0_7 a0_8 = some r) ∧ Aside0 (kq ≤ k) ∧ Aside0 (wc.heap[gb270]? = some (.cells #[.int .i64 a0_0, .int .u32 a0_1, (.slice A0_2 l0_2.length c0_2), .int .i64 a0_3, .int .i64 a0_4, .int .i32 a0_5, .int .i64 a0_6, .int .u64 a0_7, .int .i64 a0_8] 40 (0, 0))) ∧ Aside0 (Below w.heap.size w wc))
 case first =>
  have H := HC2.out
  clear HC2
  by_cases c4 : a0_0 < 1
  ·
   rw [if_pos c4] at H
   have c4b0 : decide (a0_0 < 1) = true := decide_eq_true c4
   clear c4
   (first | rw [c4b0] | (simp only [i64_w, i32_w]; rw [c4b0]) | skip)
   have H' := Aside0.mk H
   clear H
   have hcz5_0 : w3.cell? ⟨gb270, 0, none⟩ = some (.int .i64 a0_0) := (blk_cell BK270.out 0).trans rfl
   have hcz5_1 : w3.cell? ⟨gb270, 1, none⟩ = some (.int .u32 a0_1) := (blk_cell BK270.out 1).trans rfl
   have hcz5_2 : w3.cell? ⟨gb270, 2, none⟩ = some (.slice A0_2 l0_2.length c0_2) := (blk_cell BK270.out 2).trans rfl
   have hcz5_3 : w3.cell? ⟨gb270, 3, none⟩ = some (.int .i64 a0_3) := (blk_cell BK270.out 3).trans rfl
   have hcz5_4 : w3.cell? ⟨gb270, 4, none⟩ = some (.int .i64 a0_4) := (blk_cell BK270.out 4).trans rfl
   have hcz5_5 : w3.cell? ⟨gb270, 5, none⟩ = some (.int .i32 a0_5) := (blk_cell BK270.out 5).trans rfl
   have hcz5_6 : w3.cell? ⟨gb270, 6, none⟩ = some (.int .i64 a0_6) := (blk_cell BK270.out 6).trans rfl
   have hcz5_7 : w3.cell? ⟨gb270, 7, none⟩ = some (.int .u64 a0_7) := (blk_cell BK270.out 7).trans rfl
   have hcz5_8 : w3.cell? ⟨gb270, 8, none⟩ = some (.int .i64 a0_8) := (blk_cell BK270.out 8).trans rfl
   have hfz5_0 := blk_frozen BK270.out 0
   have hfz5_1 := blk_frozen BK270.out 1
   have hfz5_2 := blk_frozen BK270.out 2
   have hfz5_3 := blk_frozen BK270.out 3
   have hfz5_4 := blk_frozen BK270.out 4
   have hfz5_5 := blk_frozen BK270.out 5
   have hfz5_6 := blk_frozen BK270.out 6
   have hfz5_7 := blk_frozen BK270.out 7
   have hfz5_8 := blk_frozen BK270.out 8
   go_wp2
   go_meet
   case rel => exact ⟨_, (true), (by first | rfl | (simp; done) | (simp [*]; done)), H', ⟨by first | omega | exact Nat.le_refl _⟩, ⟨by (with_reducible repeat (first | refine blk_drewN ?_ _ | refine blk_drew ?_ | refine blk_alloc ?_ _)); exact BK270.out⟩, ⟨by repeat (first | (with_reducible first | exact HB.out | apply below_alloc | apply pw_below_drewN | apply below_drew1 | refine below_set ?_ GE270.out) | exact HB.out)⟩⟩
  ·
   rw [if_neg c4] at H
   have c4b0 : decide (a0_0 < 1) = false := decide_eq_false c4
   clear c4
   (first | rw [c4b0] | (simp only [i64_w, i32_w]; rw [c4b0]) | skip)
   have H' := Aside0.mk H
   clear H
   have hcz6_0 : w3.cell? ⟨gb270, 0, none⟩ = some (.int .i64 a0_0) := (blk_cell BK270.out 0).trans rfl
   have hcz6_1 : w3.cell? ⟨gb270, 1, none⟩ = some (.int .u32 a0_1) := (blk_cell BK270.out 1).trans rfl
   have hcz6_2 : w3.cell? ⟨gb270, 2, none⟩ = some (.slice A0_2 l0_2.length c0_2) := (blk_cell BK270.out 2).trans rfl
   have hcz6_3 : w3.cell? ⟨gb270, 3, none⟩ = some (.int .i64 a0_3) := (blk_cell BK270.out 3).trans rfl
   have hcz6_4 : w3.cell? ⟨gb270, 4, none⟩ = some (.int .i64 a0_4) := (blk_cell BK270.out 4).trans rfl
   have hcz6_5 : w3.cell? ⟨gb270, 5, none⟩ = some (.int .i32 a0_5) := (blk_cell BK270.out 5).trans rfl
   have hcz6_6 : w3.cell? ⟨gb270, 6, none⟩ = some (.int .i64 a0_6) := (blk_cell BK270.out 6).trans rfl
   have hcz6_7 : w3.cell? ⟨gb270, 7, none⟩ = some (.int .u64 a0_7) := (blk_cell BK270.out 7).trans rfl
   have hcz6_8 : w3.cell? ⟨gb270, 8, none⟩ = some (.int .i64 a0_8) := (blk_cell BK270.out 8).trans rfl
   have hfz6_0 := blk_frozen BK270.out 0
   have hfz6_1 := blk_frozen BK270.out 1
   have hfz6_2 := blk_frozen BK270.out 2
   have hfz6_3 := blk_frozen BK270.out 3
   have hfz6_4 := blk_frozen BK270.out 4
   have hfz6_5 := blk_frozen BK270.out 5
   have hfz6_6 := blk_frozen BK270.out 6
   have hfz6_7 := blk_frozen BK270.out 7
   have hfz6_8 := blk_frozen BK270.out 8
   go_wp2
   go_meet
   case rel => exact ⟨_, (decide (a0_0 > 4)), (by first | rfl | (simp; done) | (simp [*]; done)), H', ⟨by first | omega | exact Nat.le_refl _⟩, ⟨by (with_reducible repeat (first | refine blk_drewN ?_ _ | refine blk_drew ?_ | refine blk_alloc ?_ _)); exact BK270.out⟩, ⟨by repeat (first | (with_reducible first | exact HB.out | apply below_alloc | apply pw_below_drewN | apply below_drew1 | refine below_set ?_ GE270.out) | exact HB.out)⟩⟩
 case rest =>
  clear HC2
  try clear c1
  try clear p2
  try clear c4
  try clear c4b0
  try clear hcz5_0
  try clear hcz5_1
  try clear hcz5_2
  try clear hcz5_3
  try clear hcz5_4
  try clear hcz5_5
  try clear hcz5_6
  try clear hcz5_7
  try clear hcz5_8
  try clear hcz6_0
  try clear hcz6_1
  try clear hcz6_2
  try clear hcz6_3
  try clear hcz6_4
  try clear hcz6_5
  try clear hcz6_6
  try clear hcz6_7
  try clear hcz6_8
  try clear hfz5_0
  try clear hfz5_1
  try clear hfz5_2
  try clear hfz5_3
  try clear hfz5_4
  try clear hfz5_5
  try clear hfz5_6
  try clear hfz5_7
  try clear hfz5_8
  try clear hfz6_0
  try clear hfz6_1
  try clear hfz6_2
  try clear hfz6_3
  try clear hfz6_4
  try clear hfz6_5
  try clear hfz6_6
  try clear hfz6_7
  try clear hfz6_8
  obtain ⟨kq, x10_1, rfl, HA, HJ1, BK270, HB⟩ := hcut
  cases kq with
  | zero => exact absurd HA.out (by simp [credenzaref22_Right.j0])
  | succ kj1 =>
   have H := HA.out
   clear HA
   simp only [credenzaref22_Right.j0] at H
   by_cases c7 : x10_1 = true
   ·
    subst c7
    have H1 : (some 29) = some r := by rw [if_pos rfl] at H; exact H
    clear H
    have H := H1
    clear H1
    obtain rfl := Option.some.inj H
    go_wp2
    go_ret
    exact ⟨by first | rfl | (simp [errW_none, errW_some] <;> rfl) | (simp [*, errW_none, errW_some] <;> rfl), by repeat (first | (with_reducible first | exact HB.out | apply below_alloc | apply pw_below_drewN | apply below_drew1 | refine below_set ?_ GE270.out) | exact HB.out)⟩
   ·
    replace c7 := Bool.eq_false_iff.mpr c7
    subst c7
    have H1 : (if a0_0 > 2 then (if a0_1 = 0 then (if a0_0 < 3 then (if a0_8 = 0 then (if a0_0 = 1 then (credenzaref22_Right.j1 kj1 false a0_0 a0_1 l0_2 a0_3 a0_4 a0_5 a0_6 a0_7 a0_8) else ((credenzaref22_empty.f l0_2 a0_3 a0_4 a0_5 a0_6 a0_7).bind fun t271 => (credenzaref22_Right.j1 kj1 (!t271) a0_0 a0_1 l0_2 a0_3 a0_4 a0_5 a0_6 a0_7 a0_8))) else (credenzaref22_Right.j1 kj1 true a0_0 a0_1 l0_2 a0_3 a0_4 a0_5 a0_6 a0_7 a0_8)) else (if a0_0 = 1 then (credenzaref22_Right.j1 kj1 false a0_0 a0_1 l0_2 a0_3 a0_4 a0_5 a0_6 a0_7 a0_8) else ((credenzaref22_empty.f l0_2 a0_3 a0_4 a0_5 a0_6 a0_7).bind fun t272 => (credenzaref22_Right.j1 kj1 (!t272) a0_0 a0_1 l0_2 a0_3 a0_4 a0_5 a0_6 a0_7 a0_8)))) else (credenzaref22_Right.j1 kj1 true a0_0 a0_1 l0_2 a0_3 a0_4 a0_5 a0_6 a0_7 a0_8)) else (if a0_0 < 3 then (if a0_8 = 0 then (if a0_0 = 1 then (credenzaref22_Right.j1 kj1 false a0_0 a0_1 l0_2 a0_3 a0_4 a0_5 a0_6 a0_7 a0_8) else ((credenzaref22_empty.f l0_2 a0_3 a0_4 a0_5 a0_6 a0_7).bind fun t273 => (credenzaref22_Right.j1 kj1 (!t273) a0_0 a0_1 l0_2 a0_3 a0_4 a0_5 a0_6 a0_7 a0_8))) else (credenzaref22_Right.j1 kj1 true a0_0 a0_1 l0_2 a0_3 a0_4 a0_5 a0_6 a0_7 a0_8)) else (if a0_0 = 1 then (credenzaref22_Right.j1 kj1 false a0_0 a0_1 l0_2 a0_3 a0_4 a0_5 a0_6 a0_7 a0_8) else ((credenzaref22_empty.f l0_2 a0_3 a0_4 a0_5 a0_6 a0_7).bind fun t274 => (credenzaref22_Right.j1 kj1 (!t274) a0_0 a0_1 l0_2 a0_3 a0_4 a0_5 a0_6 a0_7 a0_8))))) = some r := by rw [if_neg (show ¬ (false = true) by decide)] at H; exact H
    clear H
    have H := H1
    clear H1
    have HC8 := Aside0.mk H
    clear H
    go_upto_region 3 with (fail)
    go_cut [39] (fun v39 wc => ∃ (kq : Nat) (x39_7 : Bool), v39 = .bool x39_7 ∧ Aside0 (credenzaref22_Right.j1 kq x39_7 a0_0 a0_1 l0_2 a0_3 a0_4 a0_5 a0_6 a0_7 a0_8 = some r) ∧ Aside0 (kq ≤ kj1) ∧ Aside0 (wc.heap[gb270]? = some (.cells #[.int .i64 a0_0, .int .u32 a0_1, (.slice A0_2 l0_2.length c0_2), .int .i64 a0_3, .int .i64 a0_4, .int .i32 a0_5, .int .i64 a0_6, .int .u64 a0_7, .int .i64 a0_8] 40 (0, 0))) ∧ Aside0 (Below w.heap.size w wc))
    case first =>
     have H := HC8.out
     clear HC8
     by_cases c9 : a0_0 > 2
     ·
      rw [if_pos c9] at H
      have c9b0 : decide (2 < a0_0) = true := decide_eq_true c9
      clear c9
      (first | rw [c9b0] | (simp only [i64_w, i32_w]; rw [c9b0]) | skip)
      by_cases c10 : a0_1 = 0
      ·
       rw [if_pos c10] at H
       have c10b0 : (a0_1 == 0) = true := beq_iff_eq.mpr c10
       have c10b1 : (a0_1 != 0) = false := bne_eq_false_iff_eq.mpr c10
       clear c10
       by_cases c11 : a0_0 < 3
       ·
        rw [if_pos c11] at H
        have c11b0 : decide (a0_0 < 3) = true := decide_eq_true c11
        clear c11
        by_cases c12 : a0_8 = 0
        ·
         rw [if_pos c12] at H
         have c12b0 : (a0_8 == 0) = true := beq_iff_eq.mpr c12
         have c12b1 : (a0_8 != 0) = false := bne_eq_false_iff_eq.mpr c12
         clear c12
         by_cases c13 : a0_0 = 1
         ·
          rw [if_pos c13] at H
          have c13b0 : (a0_0 == 1) = true := beq_iff_eq.mpr c13
          have c13b1 : (a0_0 != 1) = false := bne_eq_false_iff_eq.mpr c13
          clear c13
          have H' := Aside0.mk H
          clear H
          have hcz14_0 : wc.cell? ⟨gb270, 0, none⟩ = some (.int .i64 a0_0) := (blk_cell BK270.out 0).trans rfl
          have hcz14_1 : wc.cell? ⟨gb270, 1, none⟩ = some (.int .u32 a0_1) := (blk_cell BK270.out 1).trans rfl
          have hcz14_2 : wc.cell? ⟨gb270, 2, none⟩ = some (.slice A0_2 l0_2.length c0_2) := (blk_cell BK270.out 2).trans rfl
          have hcz14_3 : wc.cell? ⟨gb270, 3, none⟩ = some (.int .i64 a0_3) := (blk_cell BK270.out 3).trans rfl
          have hcz14_4 : wc.cell? ⟨gb270, 4, none⟩ = some (.int .i64 a0_4) := (blk_cell BK270.out 4).trans rfl
          have hcz14_5 : wc.cell? ⟨gb270, 5, none⟩ = some (.int .i32 a0_5) := (blk_cell BK270.out 5).trans rfl
          have hcz14_6 : wc.cell? ⟨gb270, 6, none⟩ = some (.int .i64 a0_6) := (blk_cell BK270.out 6).trans rfl
          have hcz14_7 : wc.cell? ⟨gb270, 7, none⟩ = some (.int .u64 a0_7) := (blk_cell BK270.out 7).trans rfl
          have hcz14_8 : wc.cell? ⟨gb270, 8, none⟩ = some (.int .i64 a0_8) := (blk_cell BK270.out 8).trans rfl
          have hfz14_0 := blk_frozen BK270.out 0
          have hfz14_1 := blk_frozen BK270.out 1
          have hfz14_2 := blk_frozen BK270.out 2
          have hfz14_3 := blk_frozen BK270.out 3
          have hfz14_4 := blk_frozen BK270.out 4
          have hfz14_5 := blk_frozen BK270.out 5
          have hfz14_6 := blk_frozen BK270.out 6
          have hfz14_7 := blk_frozen BK270.out 7
          have hfz14_8 := blk_frozen BK270.out 8
          go_wp2
          go_meet
          case rel => exact ⟨_, (false), (by first | rfl | (simp; done) | (simp [*]; done)), H', ⟨by have := HJ1.out; first | omega | exact Nat.le_refl _⟩, ⟨by (with_reducible repeat (first | refine blk_drewN ?_ _ | refine blk_drew ?_ | refine blk_alloc ?_ _)); exact BK270.out⟩, ⟨by repeat (first | (with_reducible first | exact HB.out | apply below_alloc | apply pw_below_drewN | apply below_drew1 | refine below_set ?_ GE270.out) | exact HB.out)⟩⟩
         ·
          rw [if_neg c13] at H
          have c13b0 : (a0_0 == 1) = false := beq_eq_false_iff_ne.mpr c13
          have c13b1 : (a0_0 != 1) = true := bne_iff_ne.mpr c13
          replace H := Option.bind_eq_some_iff.mp H
          obtain ⟨t271, A150, H⟩ := H
          replace H : (credenzaref22_Right.j1 kj1 (!t271) a0_0 a0_1 l0_2 a0_3 a0_4 a0_5 a0_6 a0_7 a0_8) = some r := H
          have A15 := Aside0.mk A150
          clear A150
          have H' := Aside0.mk H
          clear H
          have hcz16_0 : wc.cell? ⟨gb270, 0, none⟩ = some (.int .i64 a0_0) := (blk_cell BK270.out 0).trans rfl
          have hcz16_1 : wc.cell? ⟨gb270, 1, none⟩ = some (.int .u32 a0_1) := (blk_cell BK270.out 1).trans rfl
          have hcz16_2 : wc.cell? ⟨gb270, 2, none⟩ = some (.slice A0_2 l0_2.length c0_2) := (blk_cell BK270.out 2).trans rfl
          have hcz16_3 : wc.cell? ⟨gb270, 3, none⟩ = some (.int .i64 a0_3) := (blk_cell BK270.out 3).trans rfl
          have hcz16_4 : wc.cell? ⟨gb270, 4, none⟩ = some (.int .i64 a0_4) := (blk_cell BK270.out 4).trans rfl
          have hcz16_5 : wc.cell? ⟨gb270, 5, none⟩ = some (.int .i32 a0_5) := (blk_cell BK270.out 5).trans rfl
          have hcz16_6 : wc.cell? ⟨gb270, 6, none⟩ = some (.int .i64 a0_6) := (blk_cell BK270.out 6).trans rfl
          have hcz16_7 : wc.cell? ⟨gb270, 7, none⟩ = some (.int .u64 a0_7) := (blk_cell BK270.out 7).trans rfl
          have hcz16_8 : wc.cell? ⟨gb270, 8, none⟩ = some (.int .i64 a0_8) := (blk_cell BK270.out 8).trans rfl
          have hfz16_0 := blk_frozen BK270.out 0
          have hfz16_1 := blk_frozen BK270.out 1
          have hfz16_2 := blk_frozen BK270.out 2
          have hfz16_3 := blk_frozen BK270.out 3
          have hfz16_4 := blk_frozen BK270.out 4
          have hfz16_5 := blk_frozen BK270.out 5
          have hfz16_6 := blk_frozen BK270.out 6
          have hfz16_7 := blk_frozen BK270.out 7
          have hfz16_8 := blk_frozen BK270.out 8
          go_wp2_with (first | (go_at_call 41; (with_reducible refine (credenzaref22_empty.calls _ _ l0_2 a0_3 a0_4 a0_5 a0_6 a0_7 t271 _ ?side1 ?side2 A15.out).mono ?_); (case side1 => repeat (first | exact (Kd.C_below HR0_2.out HB.out) | (with_reducible refine Kd.C_alloc ?_ _) | (with_reducible refine Kd.C_drewN ?_ _) | (with_reducible refine Kd.C_drew ?_))); (case side2 => exact HC0_2.out); rintro e w17 ⟨rfl, hb⟩; have n0_ := Aside0.mk (blk_below (g := gb270) (o := .cells #[.int .i64 a0_0, .int .u32 a0_1, .slice A0_2 l0_2.length c0_2, .int .i64 a0_3, .int .i64 a0_4, .int .i32 a0_5, .int .i64 a0_6, .int .u64 a0_7, .int .i64 a0_8] 40 (0, 0)) (by (with_reducible repeat (first | refine blk_drewN ?_ _ | refine blk_drew ?_ | refine blk_alloc ?_ _)); exact BK270.out) hb); have n1_ := Aside0.mk (below_step (by repeat (first | (with_reducible first | exact HB.out | apply below_alloc | apply pw_below_drewN | apply below_drew1 | refine below_set ?_ GE270.out) | exact HB.out)) hb); clear BK270; clear HB; have BK270 := n0_; have HB := n1_; clear n0_ n1_; (try clear hb); (try clear hb2); (try clear hk); (try clear hi)))
          go_meet
          case rel => exact ⟨_, (!t271), (by first | rfl | (simp; done) | (simp [*]; done)), H', ⟨by have := HJ1.out; first | omega | exact Nat.le_refl _⟩, ⟨by (with_reducible repeat (first | refine blk_drewN ?_ _ | refine blk_drew ?_ | refine blk_alloc ?_ _)); exact BK270.out⟩, ⟨by repeat (first | (with_reducible first | exact HB.out | apply below_alloc | apply pw_below_drewN | apply below_drew1 | refine below_set ?_ GE270.out) | exact HB.out)⟩⟩
        ·
         rw [if_neg c12] at H
         have c12b0 : (a0_8 == 0) = false := beq_eq_false_iff_ne.mpr c12
         have c12b1 : (a0_8 != 0) = true := bne_iff_ne.mpr c12
         have H' := Aside0.mk H
         clear H
         have hcz18_0 : wc.cell? ⟨gb270, 0, none⟩ = some (.int .i64 a0_0) := (blk_cell BK270.out 0).trans rfl
         have hcz18_1 : wc.cell? ⟨gb270, 1, none⟩ = some (.int .u32 a0_1) := (blk_cell BK270.out 1).trans rfl
         have hcz18_2 : wc.cell? ⟨gb270, 2, none⟩ = some (.slice A0_2 l0_2.length c0_2) := (blk_cell BK270.out 2).trans rfl
         have hcz18_3 : wc.cell? ⟨gb270, 3, none⟩ = some (.int .i64 a0_3) := (blk_cell BK270.out 3).trans rfl
         have hcz18_4 : wc.cell? ⟨gb270, 4, none⟩ = some (.int .i64 a0_4) := (blk_cell BK270.out 4).trans rfl
         have hcz18_5 : wc.cell? ⟨gb270, 5, none⟩ = some (.int .i32 a0_5) := (blk_cell BK270.out 5).trans rfl
         have hcz18_6 : wc.cell? ⟨gb270, 6, none⟩ = some (.int .i64 a0_6) := (blk_cell BK270.out 6).trans rfl
         have hcz18_7 : wc.cell? ⟨gb270, 7, none⟩ = some (.int .u64 a0_7) := (blk_cell BK270.out 7).trans rfl
         have hcz18_8 : wc.cell? ⟨gb270, 8, none⟩ = some (.int .i64 a0_8) := (blk_cell BK270.out 8).trans rfl
         have hfz18_0 := blk_frozen BK270.out 0
         have hfz18_1 := blk_frozen BK270.out 1
         have hfz18_2 := blk_frozen BK270.out 2
         have hfz18_3 := blk_frozen BK270.out 3
         have hfz18_4 := blk_frozen BK270.out 4
         have hfz18_5 := blk_frozen BK270.out 5
         have hfz18_6 := blk_frozen BK270.out 6
         have hfz18_7 := blk_frozen BK270.out 7
         have hfz18_8 := blk_frozen BK270.out 8
         go_wp2
         go_meet
         case rel => exact ⟨_, (true), (by first | rfl | (simp; done) | (simp [*]; done)), H', ⟨by have := HJ1.out; first | omega | exact Nat.le_refl _⟩, ⟨by (with_reducible repeat (first | refine blk_drewN ?_ _ | refine blk_drew ?_ | refine blk_alloc ?_ _)); exact BK270.out⟩, ⟨by repeat (first | (with_reducible first | exact HB.out | apply below_alloc | apply pw_below_drewN | apply below_drew1 | refine below_set ?_ GE270.out) | exact HB.out)⟩⟩
       ·
        rw [if_neg c11] at H
        have c11b0 : decide (a0_0 < 3) = false := decide_eq_false c11
        clear c11
        by_cases c19 : a0_0 = 1
        ·
         rw [if_pos c19] at H
         have c19b0 : (a0_0 == 1) = true := beq_iff_eq.mpr c19
         have c19b1 : (a0_0 != 1) = false := bne_eq_false_iff_eq.mpr c19
         clear c19
         have H' := Aside0.mk H
         clear H
         have hcz20_0 : wc.cell? ⟨gb270, 0, none⟩ = some (.int .i64 a0_0) := (blk_cell BK270.out 0).trans rfl
         have hcz20_1 : wc.cell? ⟨gb270, 1, none⟩ = some (.int .u32 a0_1) := (blk_cell BK270.out 1).trans rfl
         have hcz20_2 : wc.cell? ⟨gb270, 2, none⟩ = some (.slice A0_2 l0_2.length c0_2) := (blk_cell BK270.out 2).trans rfl
         have hcz20_3 : wc.cell? ⟨gb270, 3, none⟩ = some (.int .i64 a0_3) := (blk_cell BK270.out 3).trans rfl
         have hcz20_4 : wc.cell? ⟨gb270, 4, none⟩ = some (.int .i64 a0_4) := (blk_cell BK270.out 4).trans rfl
         have hcz20_5 : wc.cell? ⟨gb270, 5, none⟩ = some (.int .i32 a0_5) := (blk_cell BK270.out 5).trans rfl
         have hcz20_6 : wc.cell? ⟨gb270, 6, none⟩ = some (.int .i64 a0_6) := (blk_cell BK270.out 6).trans rfl
         have hcz20_7 : wc.cell? ⟨gb270, 7, none⟩ = some (.int .u64 a0_7) := (blk_cell BK270.out 7).trans rfl
         have hcz20_8 : wc.cell? ⟨gb270, 8, none⟩ = some (.int .i64 a0_8) := (blk_cell BK270.out 8).trans rfl
         have hfz20_0 := blk_frozen BK270.out 0
         have hfz20_1 := blk_frozen BK270.out 1
         have hfz20_2 := blk_frozen BK270.out 2
         have hfz20_3 := blk_frozen BK270.out 3
         have hfz20_4 := blk_frozen BK270.out 4
         have hfz20_5 := blk_frozen BK270.out 5
         have hfz20_6 := blk_frozen BK270.out 6
         have hfz20_7 := blk_frozen BK270.out 7
         have hfz20_8 := blk_frozen BK270.out 8
         go_wp2
         go_meet
         case rel => exact ⟨_, (false), (by first | rfl | (simp; done) | (simp [*]; done)), H', ⟨by have := HJ1.out; first | omega | exact Nat.le_refl _⟩, ⟨by (with_reducible repeat (first | refine blk_drewN ?_ _ | refine blk_drew ?_ | refine blk_alloc ?_ _)); exact BK270.out⟩, ⟨by repeat (first | (with_reducible first | exact HB.out | apply below_alloc | apply pw_below_drewN | apply below_drew1 | refine below_set ?_ GE270.out) | exact HB.out)⟩⟩
        ·
         rw [if_neg c19] at H
         have c19b0 : (a0_0 == 1) = false := beq_eq_false_iff_ne.mpr c19
         have c19b1 : (a0_0 != 1) = true := bne_iff_ne.mpr c19
         replace H := Option.bind_eq_some_iff.mp H
         obtain ⟨t272, A210, H⟩ := H
         replace H : (credenzaref22_Right.j1 kj1 (!t272) a0_0 a0_1 l0_2 a0_3 a0_4 a0_5 a0_6 a0_7 a0_8) = some r := H
         have A21 := Aside0.mk A210
         clear A210
         have H' := Aside0.mk H
         clear H
         have hcz22_0 : wc.cell? ⟨gb270, 0, none⟩ = some (.int .i64 a0_0) := (blk_cell BK270.out 0).trans rfl
         have hcz22_1 : wc.cell? ⟨gb270, 1, none⟩ = some (.int .u32 a0_1) := (blk_cell BK270.out 1).trans rfl
         have hcz22_2 : wc.cell? ⟨gb270, 2, none⟩ = some (.slice A0_2 l0_2.length c0_2) := (blk_cell BK270.out 2).trans rfl
         have hcz22_3 : wc.cell? ⟨gb270, 3, none⟩ = some (.int .i64 a0_3) := (blk_cell BK270.out 3).trans rfl
         have hcz22_4 : wc.cell? ⟨gb270, 4, none⟩ = some (.int .i64 a0_4) := (blk_cell BK270.out 4).trans rfl
         have hcz22_5 : wc.cell? ⟨gb270, 5, none⟩ = some (.int .i32 a0_5) := (blk_cell BK270.out 5).trans rfl
         have hcz22_6 : wc.cell? ⟨gb270, 6, none⟩ = some (.int .i64 a0_6) := (blk_cell BK270.out 6).trans rfl
         have hcz22_7 : wc.cell? ⟨gb270, 7, none⟩ = some (.int .u64 a0_7) := (blk_cell BK270.out 7).trans rfl
         have hcz22_8 : wc.cell? ⟨gb270, 8, none⟩ = some (.int .i64 a0_8) := (blk_cell BK270.out 8).trans rfl
         have hfz22_0 := blk_frozen BK270.out 0
         have hfz22_1 := blk_frozen BK270.out 1
         have hfz22_2 := blk_frozen BK270.out 2
         have hfz22_3 := blk_frozen BK270.out 3
         have hfz22_4 := blk_frozen BK270.out 4
         have hfz22_5 := blk_frozen BK270.out 5
         have hfz22_6 := blk_frozen BK270.out 6
         have hfz22_7 := blk_frozen BK270.out 7
         have hfz22_8 := blk_frozen BK270.out 8
         go_wp2_with (first | (go_at_call 41; (with_reducible refine (credenzaref22_empty.calls _ _ l0_2 a0_3 a0_4 a0_5 a0_6 a0_7 t272 _ ?side1 ?side2 A21.out).mono ?_); (case side1 => repeat (first | exact (Kd.C_below HR0_2.out HB.out) | (with_reducible refine Kd.C_alloc ?_ _) | (with_reducible refine Kd.C_drewN ?_ _) | (with_reducible refine Kd.C_drew ?_))); (case side2 => exact HC0_2.out); rintro e w23 ⟨rfl, hb⟩; have n0_ := Aside0.mk (blk_below (g := gb270) (o := .cells #[.int .i64 a0_0, .int .u32 a0_1, .slice A0_2 l0_2.length c0_2, .int .i64 a0_3, .int .i64 a0_4, .int .i32 a0_5, .int .i64 a0_6, .int .u64 a0_7, .int .i64 a0_8] 40 (0, 0)) (by (with_reducible repeat (first | refine blk_drewN ?_ _ | refine blk_drew ?_ | refine blk_alloc ?_ _)); exact BK270.out) hb); have n1_ := Aside0.mk (below_step (by repeat (first | (with_reducible first | exact HB.out | apply below_alloc | apply pw_below_drewN | apply below_drew1 | refine below_set ?_ GE270.out) | exact HB.out)) hb); clear BK270; clear HB; have BK270 := n0_; have HB := n1_; clear n0_ n1_; (try clear hb); (try clear hb2); (try clear hk); (try clear hi)))
         go_meet
         case rel => exact ⟨_, (!t272), (by first | rfl | (simp; done) | (simp [*]; done)), H', ⟨by have := HJ1.out; first | omega | exact Nat.le_refl _⟩, ⟨by (with_reducible repeat (first | refine blk_drewN ?_ _ | refine blk_drew ?_ | refine blk_alloc ?_ _)); exact BK270.out⟩, ⟨by repeat (first | (with_reducible first | exact HB.out | apply below_alloc | apply pw_below_drewN | apply below_drew1 | refine below_set ?_ GE270.out) | exact HB.out)⟩⟩
      ·
       rw [if_neg c10] at H
       have c10b0 : (a0_1 == 0) = false := beq_eq_false_iff_ne.mpr c10
       have c10b1 : (a0_1 != 0) = true := bne_iff_ne.mpr c10
       have H' := Aside0.mk H
       clear H
       have hcz24_0 : wc.cell? ⟨gb270, 0, none⟩ = some (.int .i64 a0_0) := (blk_cell BK270.out 0).trans rfl
       have hcz24_1 : wc.cell? ⟨gb270, 1, none⟩ = some (.int .u32 a0_1) := (blk_cell BK270.out 1).trans rfl
       have hcz24_2 : wc.cell? ⟨gb270, 2, none⟩ = some (.slice A0_2 l0_2.length c0_2) := (blk_cell BK270.out 2).trans rfl
       have hcz24_3 : wc.cell? ⟨gb270, 3, none⟩ = some (.int .i64 a0_3) := (blk_cell BK270.out 3).trans rfl
       have hcz24_4 : wc.cell? ⟨gb270, 4, none⟩ = some (.int .i64 a0_4) := (blk_cell BK270.out 4).trans rfl
       have hcz24_5 : wc.cell? ⟨gb270, 5, none⟩ = some (.int .i32 a0_5) := (blk_cell BK270.out 5).trans rfl
       have hcz24_6 : wc.cell? ⟨gb270, 6, none⟩ = some (.int .i64 a0_6) := (blk_cell BK270.out 6).trans rfl
       have hcz24_7 : wc.cell? ⟨gb270, 7, none⟩ = some (.int .u64 a0_7) := (blk_cell BK270.out 7).trans rfl
       have hcz24_8 : wc.cell? ⟨gb270, 8, none⟩ = some (.int .i64 a0_8) := (blk_cell BK270.out 8).trans rfl
       have hfz24_0 := blk_frozen BK270.out 0
       have hfz24_1 := blk_frozen BK270.out 1
       have hfz24_2 := blk_frozen BK270.out 2
       have hfz24_3 := blk_frozen BK270.out 3
       have hfz24_4 := blk_frozen BK270.out 4
       have hfz24_5 := blk_frozen BK270.out 5
       have hfz24_6 := blk_frozen BK270.out 6
       have hfz24_7 := blk_frozen BK270.out 7
       have hfz24_8 := blk_frozen BK270.out 8
       go_wp2
       go_meet
       case rel => exact ⟨_, (true), (by first | rfl | (simp; done) | (simp [*]; done)), H', ⟨by have := HJ1.out; first | omega | exact Nat.le_refl _⟩, ⟨by (with_reducible repeat (first | refine blk_drewN ?_ _ | refine blk_drew ?_ | refine blk_alloc ?_ _)); exact BK270.out⟩, ⟨by repeat (first | (with_reducible first | exact HB.out | apply below_alloc | apply pw_below_drewN | apply below_drew1 | refine below_set ?_ GE270.out) | exact HB.out)⟩⟩
     ·
      rw [if_neg c9] at H
      have c9b0 : decide (2 < a0_0) = false := decide_eq_false c9
      clear c9
      (first | rw [c9b0] | (simp only [i64_w, i32_w]; rw [c9b0]) | skip)
      by_cases c25 : a0_0 < 3
      ·
       rw [if_pos c25] at H
       have c25b0 : decide (a0_0 < 3) = true := decide_eq_true c25
       clear c25
       by_cases c26 : a0_8 = 0
       ·
        rw [if_pos c26] at H
        have c26b0 : (a0_8 == 0) = true := beq_iff_eq.mpr c26
        have c26b1 : (a0_8 != 0) = false := bne_eq_false_iff_eq.mpr c26
        clear c26
        by_cases c27 : a0_0 = 1
        ·
         rw [if_pos c27] at H
         have c27b0 : (a0_0 == 1) = true := beq_iff_eq.mpr c27
         have c27b1 : (a0_0 != 1) = false := bne_eq_false_iff_eq.mpr c27
         clear c27
         have H' := Aside0.mk H
         clear H
         have hcz28_0 : wc.cell? ⟨gb270, 0, none⟩ = some (.int .i64 a0_0) := (blk_cell BK270.out 0).trans rfl
         have hcz28_1 : wc.cell? ⟨gb270, 1, none⟩ = some (.int .u32 a0_1) := (blk_cell BK270.out 1).trans rfl
         have hcz28_2 : wc.cell? ⟨gb270, 2, none⟩ = some (.slice A0_2 l0_2.length c0_2) := (blk_cell BK270.out 2).trans rfl
         have hcz28_3 : wc.cell? ⟨gb270, 3, none⟩ = some (.int .i64 a0_3) := (blk_cell BK270.out 3).trans rfl
         have hcz28_4 : wc.cell? ⟨gb270, 4, none⟩ = some (.int .i64 a0_4) := (blk_cell BK270.out 4).trans rfl
         have hcz28_5 : wc.cell? ⟨gb270, 5, none⟩ = some (.int .i32 a0_5) := (blk_cell BK270.out 5).trans rfl
         have hcz28_6 : wc.cell? ⟨gb270, 6, none⟩ = some (.int .i64 a0_6) := (blk_cell BK270.out 6).trans rfl
         have hcz28_7 : wc.cell? ⟨gb270, 7, none⟩ = some (.int .u64 a0_7) := (blk_cell BK270.out 7).trans rfl
         have hcz28_8 : wc.cell? ⟨gb270, 8, none⟩ = some (.int .i64 a0_8) := (blk_cell BK270.out 8).trans rfl
         have hfz28_0 := blk_frozen BK270.out 0
         have hfz28_1 := blk_frozen BK270.out 1
         have hfz28_2 := blk_frozen BK270.out 2
         have hfz28_3 := blk_frozen BK270.out 3
         have hfz28_4 := blk_frozen BK270.out 4
         have hfz28_5 := blk_frozen BK270.out 5
         have hfz28_6 := blk_frozen BK270.out 6
         have hfz28_7 := blk_frozen BK270.out 7
         have hfz28_8 := blk_frozen BK270.out 8
         go_wp2
         go_meet
         case rel => exact ⟨_, (false), (by first | rfl | (simp; done) | (simp [*]; done)), H', ⟨by have := HJ1.out; first | omega | exact Nat.le_refl _⟩, ⟨by (with_reducible repeat (first | refine blk_drewN ?_ _ | refine blk_drew ?_ | refine blk_alloc ?_ _)); exact BK270.out⟩, ⟨by repeat (first | (with_reducible first | exact HB.out | apply below_alloc | apply pw_below_drewN | apply below_drew1 | refine below_set ?_ GE270.out) | exact HB.out)⟩⟩
        ·
         rw [if_neg c27] at H
         have c27b0 : (a0_0 == 1) = false := beq_eq_false_iff_ne.mpr c27
         have c27b1 : (a0_0 != 1) = true := bne_iff_ne.mpr c27
         replace H := Option.bind_eq_some_iff.mp H
         obtain ⟨t273, A290, H⟩ := H
         replace H : (credenzaref22_Right.j1 kj1 (!t273) a0_0 a0_1 l0_2 a0_3 a0_4 a0_5 a0_6 a0_7 a0_8) = some r := H
         have A29 := Aside0.mk A290
         clear A290
         have H' := Aside0.mk H
         clear H
         have hcz30_0 : wc.cell? ⟨gb270, 0, none⟩ = some (.int .i64 a0_0) := (blk_cell BK270.out 0).trans rfl
         have hcz30_1 : wc.cell? ⟨gb270, 1, none⟩ = some (.int .u32 a0_1) := (blk_cell BK270.out 1).trans rfl
         have hcz30_2 : wc.cell? ⟨gb270, 2, none⟩ = some (.slice A0_2 l0_2.length c0_2) := (blk_cell BK270.out 2).trans rfl
         have hcz30_3 : wc.cell? ⟨gb270, 3, none⟩ = some (.int .i64 a0_3) := (blk_cell BK270.out 3).trans rfl
         have hcz30_4 : wc.cell? ⟨gb270, 4, none⟩ = some (.int .i64 a0_4) := (blk_cell BK270.out 4).trans rfl
         have hcz30_5 : wc.cell? ⟨gb270, 5, none⟩ = some (.int .i32 a0_5) := (blk_cell BK270.out 5).trans rfl
         have hcz30_6 : wc.cell? ⟨gb270, 6, none⟩ = some (.int .i64 a0_6) := (blk_cell BK270.out 6).trans rfl
         have hcz30_7 : wc.cell? ⟨gb270, 7, none⟩ = some (.int .u64 a0_7) := (blk_cell BK270.out 7).trans rfl
         have hcz30_8 : wc.cell? ⟨gb270, 8, none⟩ = some (.int .i64 a0_8) := (blk_cell BK270.out 8).trans rfl
         have hfz30_0 := blk_frozen BK270.out 0
         have hfz30_1 := blk_frozen BK270.out 1
         have hfz30_2 := blk_frozen BK270.out 2
         have hfz30_3 := blk_frozen BK270.out 3
         have hfz30_4 := blk_frozen BK270.out 4
         have hfz30_5 := blk_frozen BK270.out 5
         have hfz30_6 := blk_frozen BK270.out 6
         have hfz30_7 := blk_frozen BK270.out 7
         have hfz30_8 := blk_frozen BK270.out 8
         go_wp2_with (first | (go_at_call 41; (with_reducible refine (credenzaref22_empty.calls _ _ l0_2 a0_3 a0_4 a0_5 a0_6 a0_7 t273 _ ?side1 ?side2 A29.out).mono ?_); (case side1 => repeat (first | exact (Kd.C_below HR0_2.out HB.out) | (with_reducible refine Kd.C_alloc ?_ _) | (with_reducible refine Kd.C_drewN ?_ _) | (with_reducible refine Kd.C_drew ?_))); (case side2 => exact HC0_2.out); rintro e w31 ⟨rfl, hb⟩; have n0_ := Aside0.mk (blk_below (g := gb270) (o := .cells #[.int .i64 a0_0, .int .u32 a0_1, .slice A0_2 l0_2.length c0_2, .int .i64 a0_3, .int .i64 a0_4, .int .i32 a0_5, .int .i64 a0_6, .int .u64 a0_7, .int .i64 a0_8] 40 (0, 0)) (by (with_reducible repeat (first | refine blk_drewN ?_ _ | refine blk_drew ?_ | refine blk_alloc ?_ _)); exact BK270.out) hb); have n1_ := Aside0.mk (below_step (by repeat (first | (with_reducible first | exact HB.out | apply below_alloc | apply pw_below_drewN | apply below_drew1 | refine below_set ?_ GE270.out) | exact HB.out)) hb); clear BK270; clear HB; have BK270 := n0_; have HB := n1_; clear n0_ n1_; (try clear hb); (try clear hb2); (try clear hk); (try clear hi)))
         go_meet
         case rel => exact ⟨_, (!t273), (by first | rfl | (simp; done) | (simp [*]; done)), H', ⟨by have := HJ1.out; first | omega | exact Nat.le_refl _⟩, ⟨by (with_reducible repeat (first | refine blk_drewN ?_ _ | refine blk_drew ?_ | refine blk_alloc ?_ _)); exact BK270.out⟩, ⟨by repeat (first | (with_reducible first | exact HB.out | apply below_alloc | apply pw_below_drewN | apply below_drew1 | refine below_set ?_ GE270.out) | exact HB.out)⟩⟩
       ·
        rw [if_neg c26] at H
        have c26b0 : (a0_8 == 0) = false := beq_eq_false_iff_ne.mpr c26
        have c26b1 : (a0_8 != 0) = true := bne_iff_ne.mpr c26
        have H' := Aside0.mk H
        clear H
        have hcz32_0 : wc.cell? ⟨gb270, 0, none⟩ = some (.int .i64 a0_0) := (blk_cell BK270.out 0).trans rfl
        have hcz32_1 : wc.cell? ⟨gb270, 1, none⟩ = some (.int .u32 a0_1) := (blk_cell BK270.out 1).trans rfl
        have hcz32_2 : wc.cell? ⟨gb270, 2, none⟩ = some (.slice A0_2 l0_2.length c0_2) := (blk_cell BK270.out 2).trans rfl
        have hcz32_3 : wc.cell? ⟨gb270, 3, none⟩ = some (.int .i64 a0_3) := (blk_cell BK270.out 3).trans rfl
        have hcz32_4 : wc.cell? ⟨gb270, 4, none⟩ = some (.int .i64 a0_4) := (blk_cell BK270.out 4).trans rfl
        have hcz32_5 : wc.cell? ⟨gb270, 5, none⟩ = some (.int .i32 a0_5) := (blk_cell BK270.out 5).trans rfl
        have hcz32_6 : wc.cell? ⟨gb270, 6, none⟩ = some (.int .i64 a0_6) := (blk_cell BK270.out 6).trans rfl
        have hcz32_7 : wc.cell? ⟨gb270, 7, none⟩ = some (.int .u64 a0_7) := (blk_cell BK270.out 7).trans rfl
        have hcz32_8 : wc.cell? ⟨gb270, 8, none⟩ = some (.int .i64 a0_8) := (blk_cell BK270.out 8).trans rfl
        have hfz32_0 := blk_frozen BK270.out 0
        have hfz32_1 := blk_frozen BK270.out 1
        have hfz32_2 := blk_frozen BK270.out 2
        have hfz32_3 := blk_frozen BK270.out 3
        have hfz32_4 := blk_frozen BK270.out 4
        have hfz32_5 := blk_frozen BK270.out 5
        have hfz32_6 := blk_frozen BK270.out 6
        have hfz32_7 := blk_frozen BK270.out 7
        have hfz32_8 := blk_frozen BK270.out 8
        go_wp2
        go_meet
        case rel => exact ⟨_, (true), (by first | rfl | (simp; done) | (simp [*]; done)), H', ⟨by have := HJ1.out; first | omega | exact Nat.le_refl _⟩, ⟨by (with_reducible repeat (first | refine blk_drewN ?_ _ | refine blk_drew ?_ | refine blk_alloc ?_ _)); exact BK270.out⟩, ⟨by repeat (first | (with_reducible first | exact HB.out | apply below_alloc | apply pw_below_drewN | apply below_drew1 | refine below_set ?_ GE270.out) | exact HB.out)⟩⟩
      ·
       rw [if_neg c25] at H
       have c25b0 : decide (a0_0 < 3) = false := decide_eq_false c25
       clear c25
       by_cases c33 : a0_0 = 1
       ·
        rw [if_pos c33] at H
        have c33b0 : (a0_0 == 1) = true := beq_iff_eq.mpr c33
        have c33b1 : (a0_0 != 1) = false := bne_eq_false_iff_eq.mpr c33
        clear c33
        have H' := Aside0.mk H
        clear H
        have hcz34_0 : wc.cell? ⟨gb270, 0, none⟩ = some (.int .i64 a0_0) := (blk_cell BK270.out 0).trans rfl
        have hcz34_1 : wc.cell? ⟨gb270, 1, none⟩ = some (.int .u32 a0_1) := (blk_cell BK270.out 1).trans rfl
        have hcz34_2 : wc.cell? ⟨gb270, 2, none⟩ = some (.slice A0_2 l0_2.length c0_2) := (blk_cell BK270.out 2).trans rfl
        have hcz34_3 : wc.cell? ⟨gb270, 3, none⟩ = some (.int .i64 a0_3) := (blk_cell BK270.out 3).trans rfl
        have hcz34_4 : wc.cell? ⟨gb270, 4, none⟩ = some (.int .i64 a0_4) := (blk_cell BK270.out 4).trans rfl
        have hcz34_5 : wc.cell? ⟨gb270, 5, none⟩ = some (.int .i32 a0_5) := (blk_cell BK270.out 5).trans rfl
        have hcz34_6 : wc.cell? ⟨gb270, 6, none⟩ = some (.int .i64 a0_6) := (blk_cell BK270.out 6).trans rfl
        have hcz34_7 : wc.cell? ⟨gb270, 7, none⟩ = some (.int .u64 a0_7) := (blk_cell BK270.out 7).trans rfl
        have hcz34_8 : wc.cell? ⟨gb270, 8, none⟩ = some (.int .i64 a0_8) := (blk_cell BK270.out 8).trans rfl
        have hfz34_0 := blk_frozen BK270.out 0
        have hfz34_1 := blk_frozen BK270.out 1
        have hfz34_2 := blk_frozen BK270.out 2
        have hfz34_3 := blk_frozen BK270.out 3
        have hfz34_4 := blk_frozen BK270.out 4
        have hfz34_5 := blk_frozen BK270.out 5
        have hfz34_6 := blk_frozen BK270.out 6
        have hfz34_7 := blk_frozen BK270.out 7
        have hfz34_8 := blk_frozen BK270.out 8
        go_wp2
        go_meet
        case rel => exact ⟨_, (false), (by first | rfl | (simp; done) | (simp [*]; done)), H', ⟨by have := HJ1.out; first | omega | exact Nat.le_refl _⟩, ⟨by (with_reducible repeat (first | refine blk_drewN ?_ _ | refine blk_drew ?_ | refine blk_alloc ?_ _)); exact BK270.out⟩, ⟨by repeat (first | (with_reducible first | exact HB.out | apply below_alloc | apply pw_below_drewN | apply below_drew1 | refine below_set ?_ GE270.out) | exact HB.out)⟩⟩
       ·
        rw [if_neg c33] at H
        have c33b0 : (a0_0 == 1) = false := beq_eq_false_iff_ne.mpr c33
        have c33b1 : (a0_0 != 1) = true := bne_iff_ne.mpr c33
        replace H := Option.bind_eq_some_iff.mp H
        obtain ⟨t274, A350, H⟩ := H
        replace H : (credenzaref22_Right.j1 kj1 (!t274) a0_0 a0_1 l0_2 a0_3 a0_4 a0_5 a0_6 a0_7 a0_8) = some r := H
        have A35 := Aside0.mk A350
        clear A350
        have H' := Aside0.mk H
        clear H
        have hcz36_0 : wc.cell? ⟨gb270, 0, none⟩ = some (.int .i64 a0_0) := (blk_cell BK270.out 0).trans rfl
        have hcz36_1 : wc.cell? ⟨gb270, 1, none⟩ = some (.int .u32 a0_1) := (blk_cell BK270.out 1).trans rfl
        have hcz36_2 : wc.cell? ⟨gb270, 2, none⟩ = some (.slice A0_2 l0_2.length c0_2) := (blk_cell BK270.out 2).trans rfl
        have hcz36_3 : wc.cell? ⟨gb270, 3, none⟩ = some (.int .i64 a0_3) := (blk_cell BK270.out 3).trans rfl
        have hcz36_4 : wc.cell? ⟨gb270, 4, none⟩ = some (.int .i64 a0_4) := (blk_cell BK270.out 4).trans rfl
        have hcz36_5 : wc.cell? ⟨gb270, 5, none⟩ = some (.int .i32 a0_5) := (blk_cell BK270.out 5).trans rfl
        have hcz36_6 : wc.cell? ⟨gb270, 6, none⟩ = some (.int .i64 a0_6) := (blk_cell BK270.out 6).trans rfl
        have hcz36_7 : wc.cell? ⟨gb270, 7, none⟩ = some (.int .u64 a0_7) := (blk_cell BK270.out 7).trans rfl
        have hcz36_8 : wc.cell? ⟨gb270, 8, none⟩ = some (.int .i64 a0_8) := (blk_cell BK270.out 8).trans rfl
        have hfz36_0 := blk_frozen BK270.out 0
        have hfz36_1 := blk_frozen BK270.out 1
        have hfz36_2 := blk_frozen BK270.out 2
        have hfz36_3 := blk_frozen BK270.out 3
        have hfz36_4 := blk_frozen BK270.out 4
        have hfz36_5 := blk_frozen BK270.out 5
        have hfz36_6 := blk_frozen BK270.out 6
        have hfz36_7 := blk_frozen BK270.out 7
        have hfz36_8 := blk_frozen BK270.out 8
        go_wp2_with (first | (go_at_call 41; (with_reducible refine (credenzaref22_empty.calls _ _ l0_2 a0_3 a0_4 a0_5 a0_6 a0_7 t274 _ ?side1 ?side2 A35.out).mono ?_); (case side1 => repeat (first | exact (Kd.C_below HR0_2.out HB.out) | (with_reducible refine Kd.C_alloc ?_ _) | (with_reducible refine Kd.C_drewN ?_ _) | (with_reducible refine Kd.C_drew ?_))); (case side2 => exact HC0_2.out); rintro e w37 ⟨rfl, hb⟩; have n0_ := Aside0.mk (blk_below (g := gb270) (o := .cells #[.int .i64 a0_0, .int .u32 a0_1, .slice A0_2 l0_2.length c0_2, .int .i64 a0_3, .int .i64 a0_4, .int .i32 a0_5, .int .i64 a0_6, .int .u64 a0_7, .int .i64 a0_8] 40 (0, 0)) (by (with_reducible repeat (first | refine blk_drewN ?_ _ | refine blk_drew ?_ | refine blk_alloc ?_ _)); exact BK270.out) hb); have n1_ := Aside0.mk (below_step (by repeat (first | (with_reducible first | exact HB.out | apply below_alloc | apply pw_below_drewN | apply below_drew1 | refine below_set ?_ GE270.out) | exact HB.out)) hb); clear BK270; clear HB; have BK270 := n0_; have HB := n1_; clear n0_ n1_; (try clear hb); (try clear hb2); (try clear hk); (try clear hi)))
        go_meet
        case rel => exact ⟨_, (!t274), (by first | rfl | (simp; done) | (simp [*]; done)), H', ⟨by have := HJ1.out; first | omega | exact Nat.le_refl _⟩, ⟨by (with_reducible repeat (first | refine blk_drewN ?_ _ | refine blk_drew ?_ | refine blk_alloc ?_ _)); exact BK270.out⟩, ⟨by repeat (first | (with_reducible first | exact HB.out | apply below_alloc | apply pw_below_drewN | apply below_drew1 | refine below_set ?_ GE270.out) | exact HB.out)⟩⟩
    case rest =>
     clear HC8
     try clear c1
     try clear c2
     try clear p2
     try clear c3
     try clear c4
     try clear c4b0
     try clear c7
     try clear c9
     try clear c9b0
     try clear c10
     try clear c10b0
     try clear c10b1
     try clear c11
     try clear c11b0
     try clear c12
     try clear c12b0
     try clear c12b1
     try clear c13
     try clear c13b0
     try clear c13b1
     try clear c14
     try clear c19
     try clear c19b0
     try clear c19b1
     try clear c25
     try clear c25b0
     try clear c26
     try clear c26b0
     try clear c26b1
     try clear c27
     try clear c27b0
     try clear c27b1
     try clear c33
     try clear c33b0
     try clear c33b1
     try clear hcz14_0
     try clear hcz14_1
     try clear hcz14_2
     try clear hcz14_3
     try clear hcz14_4
     try clear hcz14_5
     try clear hcz14_6
     try clear hcz14_7
     try clear hcz14_8
     try clear hcz16_0
     try clear hcz16_1
     try clear hcz16_2
     try clear hcz16_3
     try clear hcz16_4
     try clear hcz16_5
     try clear hcz16_6
     try clear hcz16_7
     try clear hcz16_8
     try clear hcz18_0
     try clear hcz18_1
     try clear hcz18_2
     try clear hcz18_3
     try clear hcz18_4
     try clear hcz18_5
     try clear hcz18_6
     try clear hcz18_7
     try clear hcz18_8
     try clear hcz20_0
     try clear hcz20_1
     try clear hcz20_2
     try clear hcz20_3
     try clear hcz20_4
     try clear hcz20_5
     try clear hcz20_6
     try clear hcz20_7
     try clear hcz20_8
     try clear hcz22_0
     try clear hcz22_1
     try clear hcz22_2
     try clear hcz22_3
     try clear hcz22_4
     try clear hcz22_5
     try clear hcz22_6
     try clear hcz22_7
     try clear hcz22_8
     try clear hcz24_0
     try clear hcz24_1
     try clear hcz24_2
     try clear hcz24_3
     try clear hcz24_4
     try clear hcz24_5
     try clear hcz24_6
     try clear hcz24_7
     try clear hcz24_8
     try clear hcz28_0
     try clear hcz28_1
     try clear hcz28_2
     try clear hcz28_3
     try clear hcz28_4
     try clear hcz28_5
     try clear hcz28_6
     try clear hcz28_7
     try clear hcz28_8
     try clear hcz30_0
     try clear hcz30_1
     try clear hcz30_2
     try clear hcz30_3
     try clear hcz30_4
     try clear hcz30_5
     try clear hcz30_6
     try clear hcz30_7
     try clear hcz30_8
     try clear hcz32_0
     try clear hcz32_1
     try clear hcz32_2
     try clear hcz32_3
     try clear hcz32_4
     try clear hcz32_5
     try clear hcz32_6
     try clear hcz32_7
     try clear hcz32_8
     try clear hcz34_0
     try clear hcz34_1
     try clear hcz34_2
     try clear hcz34_3
     try clear hcz34_4
     try clear hcz34_5
     try clear hcz34_6
     try clear hcz34_7
     try clear hcz34_8
     try clear hcz36_0
     try clear hcz36_1
     try clear hcz36_2
     try clear hcz36_3
     try clear hcz36_4
     try clear hcz36_5
     try clear hcz36_6
     try clear hcz36_7
     try clear hcz36_8
     try clear hcz5_0
     try clear hcz5_1
     try clear hcz5_2
     try clear hcz5_3
     try clear hcz5_4
     try clear hcz5_5
     try clear hcz5_6
     try clear hcz5_7
     try clear hcz5_8
     try clear hcz6_0
     try clear hcz6_1
     try clear hcz6_2
     try clear hcz6_3
     try clear hcz6_4
     try clear hcz6_5
     try clear hcz6_6
     try clear hcz6_7
     try clear hcz6_8
     try clear hfz14_0
     try clear hfz14_1
     try clear hfz14_2
     try clear hfz14_3
     try clear hfz14_4
     try clear hfz14_5
     try clear hfz14_6
     try clear hfz14_7
     try clear hfz14_8
     try clear hfz16_0
     try clear hfz16_1
     try clear hfz16_2
     try clear hfz16_3
     try clear hfz16_4
     try clear hfz16_5
     try clear hfz16_6
     try clear hfz16_7
     try clear hfz16_8
     try clear hfz18_0
     try clear hfz18_1
     try clear hfz18_2
     try clear hfz18_3
     try clear hfz18_4
     try clear hfz18_5
     try clear hfz18_6
     try clear hfz18_7
     try clear hfz18_8
     try clear hfz20_0
     try clear hfz20_1
     try clear hfz20_2
     try clear hfz20_3
     try clear hfz20_4
     try clear hfz20_5
     try clear hfz20_6
     try clear hfz20_7
     try clear hfz20_8
     try clear hfz22_0
     try clear hfz22_1
     try clear hfz22_2
     try clear hfz22_3
     try clear hfz22_4
     try clear hfz22_5
     try clear hfz22_6
     try clear hfz22_7
     try clear hfz22_8
     try clear hfz24_0
     try clear hfz24_1
     try clear hfz24_2
     try clear hfz24_3
     try clear hfz24_4
     try clear hfz24_5
     try clear hfz24_6
     try clear hfz24_7
     try clear hfz24_8
     try clear hfz28_0
     try clear hfz28_1
     try clear hfz28_2
     try clear hfz28_3
     try clear hfz28_4
     try clear hfz28_5
     try clear hfz28_6
     try clear hfz28_7
     try clear hfz28_8
     try clear hfz30_0
     try clear hfz30_1
     try clear hfz30_2
     try clear hfz30_3
     try clear hfz30_4
     try clear hfz30_5
     try clear hfz30_6
     try clear hfz30_7
     try clear hfz30_8
     try clear hfz32_0
     try clear hfz32_1
     try clear hfz32_2
     try clear hfz32_3
     try clear hfz32_4
     try clear hfz32_5
     try clear hfz32_6
     try clear hfz32_7
     try clear hfz32_8
     try clear hfz34_0
     try clear hfz34_1
     try clear hfz34_2
     try clear hfz34_3
     try clear hfz34_4
     try clear hfz34_5
     try clear hfz34_6
     try clear hfz34_7
     try clear hfz34_8
     try clear hfz36_0
     try clear hfz36_1
     try clear hfz36_2
     try clear hfz36_3
     try clear hfz36_4
     try clear hfz36_5
     try clear hfz36_6
     try clear hfz36_7
     try clear hfz36_8
     try clear hfz5_0
     try clear hfz5_1
     try clear hfz5_2
     try clear hfz5_3
     try clear hfz5_4
     try clear hfz5_5
     try clear hfz5_6
     try clear hfz5_7
     try clear hfz5_8
     try clear hfz6_0
     try clear hfz6_1
     try clear hfz6_2
     try clear hfz6_3
     try clear hfz6_4
     try clear hfz6_5
     try clear hfz6_6
     try clear hfz6_7
     try clear hfz6_8
     try clear p2
     obtain ⟨kq, x39_7, rfl, HA, HJ7, BK270, HB⟩ := hcut
     cases kq with
     | zero => exact absurd HA.out (by simp [credenzaref22_Right.j1])
     | succ kj7 =>
      have H := HA.out
      clear HA
      simp only [credenzaref22_Right.j1] at H
      by_cases c38 : x39_7 = true
      ·
       subst c38
       have H1 : (some 10) = some r := by rw [if_pos rfl] at H; exact H
       clear H
       have H := H1
       clear H1
       obtain rfl := Option.some.inj H
       go_wp2
       go_ret
       exact ⟨by first | rfl | (simp [errW_none, errW_some] <;> rfl) | (simp [*, errW_none, errW_some] <;> rfl), by repeat (first | (with_reducible first | exact HB.out | apply below_alloc | apply pw_below_drewN | apply below_drew1 | refine below_set ?_ GE270.out) | exact HB.out)⟩
      ·
       replace c38 := Bool.eq_false_iff.mpr c38
       subst c38
       have H1 : (if (l0_2.length : Int) > 1024 then (some 12) else ((credenzaref22_Ranged.f kj7 a0_0 a0_1 l0_2 a0_3 a0_4 a0_5 a0_6 a0_7 a0_8).bind fun t275 => (if t275 = true then (some 0) else (some 11)))) = some r := by rw [if_neg (show ¬ (false = true) by decide)] at H; exact H
       clear H
       have H := H1
       clear H1
       by_cases c39 : (l0_2.length : Int) > 1024
       ·
        rw [if_pos c39] at H
        have c39b0 : decide (1024 < (l0_2.length : Int)) = true := decide_eq_true c39
        have c39b1 : decide (1024 < l0_2.length) = true := decide_eq_true (by omega)
        clear c39
        obtain rfl := Option.some.inj H
        have hcz40_0 : wc.cell? ⟨gb270, 0, none⟩ = some (.int .i64 a0_0) := (blk_cell BK270.out 0).trans rfl
        have hcz40_1 : wc.cell? ⟨gb270, 1, none⟩ = some (.int .u32 a0_1) := (blk_cell BK270.out 1).trans rfl
        have hcz40_2 : wc.cell? ⟨gb270, 2, none⟩ = some (.slice A0_2 l0_2.length c0_2) := (blk_cell BK270.out 2).trans rfl
        have hcz40_3 : wc.cell? ⟨gb270, 3, none⟩ = some (.int .i64 a0_3) := (blk_cell BK270.out 3).trans rfl
        have hcz40_4 : wc.cell? ⟨gb270, 4, none⟩ = some (.int .i64 a0_4) := (blk_cell BK270.out 4).trans rfl
        have hcz40_5 : wc.cell? ⟨gb270, 5, none⟩ = some (.int .i32 a0_5) := (blk_cell BK270.out 5).trans rfl
        have hcz40_6 : wc.cell? ⟨gb270, 6, none⟩ = some (.int .i64 a0_6) := (blk_cell BK270.out 6).trans rfl
        have hcz40_7 : wc.cell? ⟨gb270, 7, none⟩ = some (.int .u64 a0_7) := (blk_cell BK270.out 7).trans rfl
        have hcz40_8 : wc.cell? ⟨gb270, 8, none⟩ = some (.int .i64 a0_8) := (blk_cell BK270.out 8).trans rfl
        have hfz40_0 := blk_frozen BK270.out 0
        have hfz40_1 := blk_frozen BK270.out 1
        have hfz40_2 := blk_frozen BK270.out 2
        have hfz40_3 := blk_frozen BK270.out 3
        have hfz40_4 := blk_frozen BK270.out 4
        have hfz40_5 := blk_frozen BK270.out 5
        have hfz40_6 := blk_frozen BK270.out 6
        have hfz40_7 := blk_frozen BK270.out 7
        have hfz40_8 := blk_frozen BK270.out 8
        go_wp2
        go_ret
        exact ⟨by first | rfl | (simp [errW_none, errW_some] <;> rfl) | (simp [*, errW_none, errW_some] <;> rfl), by repeat (first | (with_reducible first | exact HB.out | apply below_alloc | apply pw_below_drewN | apply below_drew1 | refine below_set ?_ GE270.out) | exact HB.out)⟩
       ·
        rw [if_neg c39] at H
        have c39b0 : decide (1024 < (l0_2.length : Int)) = false := decide_eq_false c39
        have c39b1 : decide (1024 < l0_2.length) = false := decide_eq_false (by omega)
        clear c39
        replace H := Option.bind_eq_some_iff.mp H
        obtain ⟨t275, A410, H⟩ := H
        replace H : (if t275 = true then (some 0) else (some 11)) = some r := H
        have A41 := Aside0.mk A410
        clear A410
        by_cases c42 : t275 = true
        ·
         subst c42
         have H1 : (some 0) = some r := by rw [if_pos rfl] at H; exact H
         clear H
         have H := H1
         clear H1
         obtain rfl := Option.some.inj H
         have hcz43_0 : wc.cell? ⟨gb270, 0, none⟩ = some (.int .i64 a0_0) := (blk_cell BK270.out 0).trans rfl
         have hcz43_1 : wc.cell? ⟨gb270, 1, none⟩ = some (.int .u32 a0_1) := (blk_cell BK270.out 1).trans rfl
         have hcz43_2 : wc.cell? ⟨gb270, 2, none⟩ = some (.slice A0_2 l0_2.length c0_2) := (blk_cell BK270.out 2).trans rfl
         have hcz43_3 : wc.cell? ⟨gb270, 3, none⟩ = some (.int .i64 a0_3) := (blk_cell BK270.out 3).trans rfl
         have hcz43_4 : wc.cell? ⟨gb270, 4, none⟩ = some (.int .i64 a0_4) := (blk_cell BK270.out 4).trans rfl
         have hcz43_5 : wc.cell? ⟨gb270, 5, none⟩ = some (.int .i32 a0_5) := (blk_cell BK270.out 5).trans rfl
         have hcz43_6 : wc.cell? ⟨gb270, 6, none⟩ = some (.int .i64 a0_6) := (blk_cell BK270.out 6).trans rfl
         have hcz43_7 : wc.cell? ⟨gb270, 7, none⟩ = some (.int .u64 a0_7) := (blk_cell BK270.out 7).trans rfl
         have hcz43_8 : wc.cell? ⟨gb270, 8, none⟩ = some (.int .i64 a0_8) := (blk_cell BK270.out 8).trans rfl
         have hfz43_0 := blk_frozen BK270.out 0
         have hfz43_1 := blk_frozen BK270.out 1
         have hfz43_2 := blk_frozen BK270.out 2
         have hfz43_3 := blk_frozen BK270.out 3
         have hfz43_4 := blk_frozen BK270.out 4
         have hfz43_5 := blk_frozen BK270.out 5
         have hfz43_6 := blk_frozen BK270.out 6
         have hfz43_7 := blk_frozen BK270.out 7
         have hfz43_8 := blk_frozen BK270.out 8
         go_wp2_with (first | ((with_reducible refine gate_callee (f := 42) rfl ?_); refine goesL_ (some 46) rfl rfl Try.func42 (by kernel_rfl) rfl #[.agg #[.int .i64 a0_0, .int .u32 a0_1, .slice A0_2 l0_2.length c0_2, .int .i64 a0_3, .int .i64 a0_4, .int .i32 a0_5, .int .i64 a0_6, .int .u64 a0_7, .int .i64 a0_8]] rfl (by (try simp only [List.map_toArray, List.map_cons, List.map_nil]); first | done | rfl | (simp only [List.length_drop, List.length_take]; rfl)) ?_; (with_reducible refine (credenzaref22_Ranged.calls kj7 a0_0 a0_1 _ _ l0_2 a0_3 a0_4 a0_5 a0_6 a0_7 a0_8 true _ ?side1 ?side2 A41.out).mono ?_); (case side1 => repeat (first | exact (Kd.C_below HR0_2.out HB.out) | (with_reducible refine Kd.C_alloc ?_ _) | (with_reducible refine Kd.C_drewN ?_ _) | (with_reducible refine Kd.C_drew ?_))); (case side2 => exact HC0_2.out); rintro e w44 ⟨rfl, hb⟩; refine ⟨_, rfl, ?_⟩; have n0_ := Aside0.mk (blk_below (g := gb270) (o := .cells #[.int .i64 a0_0, .int .u32 a0_1, .slice A0_2 l0_2.length c0_2, .int .i64 a0_3, .int .i64 a0_4, .int .i32 a0_5, .int .i64 a0_6, .int .u64 a0_7, .int .i64 a0_8] 40 (0, 0)) (by (with_reducible repeat (first | refine blk_drewN ?_ _ | refine blk_drew ?_ | refine blk_alloc ?_ _)); exact BK270.out) hb); have n1_ := Aside0.mk (below_step (by repeat (first | (with_reducible first | exact HB.out | apply below_alloc | apply pw_below_drewN | apply below_drew1 | refine below_set ?_ GE270.out) | exact HB.out)) hb); clear BK270; clear HB; have BK270 := n0_; have HB := n1_; clear n0_ n1_; (try clear hb); (try clear hb2); (try clear hk); (try clear hi)))
         go_ret
         exact ⟨by first | rfl | (simp [errW_none, errW_some] <;> rfl) | (simp [*, errW_none, errW_some] <;> rfl), by repeat (first | (with_reducible first | exact HB.out | apply below_alloc | apply pw_below_drewN | apply below_drew1 | refine below_set ?_ GE270.out) | exact HB.out)⟩
        ·
         replace c42 := Bool.eq_false_iff.mpr c42
         subst c42
         have H1 : (some 11) = some r := by rw [if_neg (show ¬ (false = true) by decide)] at H; exact H
         clear H
         have H := H1
         clear H1
         obtain rfl := Option.some.inj H
         have hcz45_0 : wc.cell? ⟨gb270, 0, none⟩ = some (.int .i64 a0_0) := (blk_cell BK270.out 0).trans rfl
         have hcz45_1 : wc.cell? ⟨gb270, 1, none⟩ = some (.int .u32 a0_1) := (blk_cell BK270.out 1).trans rfl
         have hcz45_2 : wc.cell? ⟨gb270, 2, none⟩ = some (.slice A0_2 l0_2.length c0_2) := (blk_cell BK270.out 2).trans rfl
         have hcz45_3 : wc.cell? ⟨gb270, 3, none⟩ = some (.int .i64 a0_3) := (blk_cell BK270.out 3).trans rfl
         have hcz45_4 : wc.cell? ⟨gb270, 4, none⟩ = some (.int .i64 a0_4) := (blk_cell BK270.out 4).trans rfl
         have hcz45_5 : wc.cell? ⟨gb270, 5, none⟩ = some (.int .i32 a0_5) := (blk_cell BK270.out 5).trans rfl
         have hcz45_6 : wc.cell? ⟨gb270, 6, none⟩ = some (.int .i64 a0_6) := (blk_cell BK270.out 6).trans rfl
         have hcz45_7 : wc.cell? ⟨gb270, 7, none⟩ = some (.int .u64 a0_7) := (blk_cell BK270.out 7).trans rfl
         have hcz45_8 : wc.cell? ⟨gb270, 8, none⟩ = some (.int .i64 a0_8) := (blk_cell BK270.out 8).trans rfl
         have hfz45_0 := blk_frozen BK270.out 0
         have hfz45_1 := blk_frozen BK270.out 1
         have hfz45_2 := blk_frozen BK270.out 2
         have hfz45_3 := blk_frozen BK270.out 3
         have hfz45_4 := blk_frozen BK270.out 4
         have hfz45_5 := blk_frozen BK270.out 5
         have hfz45_6 := blk_frozen BK270.out 6
         have hfz45_7 := blk_frozen BK270.out 7
         have hfz45_8 := blk_frozen BK270.out 8
         go_wp2_with (first | ((with_reducible refine gate_callee (f := 42) rfl ?_); refine goesL_ (some 46) rfl rfl Try.func42 (by kernel_rfl) rfl #[.agg #[.int .i64 a0_0, .int .u32 a0_1, .slice A0_2 l0_2.length c0_2, .int .i64 a0_3, .int .i64 a0_4, .int .i32 a0_5, .int .i64 a0_6, .int .u64 a0_7, .int .i64 a0_8]] rfl (by (try simp only [List.map_toArray, List.map_cons, List.map_nil]); first | done | rfl | (simp only [List.length_drop, List.length_take]; rfl)) ?_; (with_reducible refine (credenzaref22_Ranged.calls kj7 a0_0 a0_1 _ _ l0_2 a0_3 a0_4 a0_5 a0_6 a0_7 a0_8 false _ ?side1 ?side2 A41.out).mono ?_); (case side1 => repeat (first | exact (Kd.C_below HR0_2.out HB.out) | (with_reducible refine Kd.C_alloc ?_ _) | (with_reducible refine Kd.C_drewN ?_ _) | (with_reducible refine Kd.C_drew ?_))); (case side2 => exact HC0_2.out); rintro e w46 ⟨rfl, hb⟩; refine ⟨_, rfl, ?_⟩; have n0_ := Aside0.mk (blk_below (g := gb270) (o := .cells #[.int .i64 a0_0, .int .u32 a0_1, .slice A0_2 l0_2.length c0_2, .int .i64 a0_3, .int .i64 a0_4, .int .i32 a0_5, .int .i64 a0_6, .int .u64 a0_7, .int .i64 a0_8] 40 (0, 0)) (by (with_reducible repeat (first | refine blk_drewN ?_ _ | refine blk_drew ?_ | refine blk_alloc ?_ _)); exact BK270.out) hb); have n1_ := Aside0.mk (below_step (by repeat (first | (with_reducible first | exact HB.out | apply below_alloc | apply pw_below_drewN | apply below_drew1 | refine below_set ?_ GE270.out) | exact HB.out)) hb); clear BK270; clear HB; have BK270 := n0_; have HB := n1_; clear n0_ n1_; (try clear hb); (try clear hb2); (try clear hk); (try clear hi)))
         go_ret
         exact ⟨by first | rfl | (simp [errW_none, errW_some] <;> rfl) | (simp [*, errW_none, errW_some] <;> rfl), by repeat (first | (with_reducible first | exact HB.out | apply below_alloc | apply pw_below_drewN | apply below_drew1 | refine below_set ?_ GE270.out) | exact HB.out)⟩

end Go.Proofs.Ytehepnmagcjkaaa.PAskBytes
