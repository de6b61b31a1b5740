-- Written by a program of this session (wip/tools/mkprint.py over the kit's print).
import Derived.Test.YtoofkemhikigoaaPBlockPlaysx0
import Derived.Test.YtoofkemhikigoaaPBlockPlaysx1
import Derived.Test.YtoofkemhikigoaaPBlockPlaysx2
import Derived.Test.YtoofkemhikigoaaPBlockPlaysx4
namespace Go.Proofs.Ytoofkemhikigoaa.PBlockPlays
open Go.RowKit Go.Proofs.YtoofkemhikigoaaW.PrintWords Go.Proofs.YtoofkemhikigoaaW.PrintLast Go.Proofs.YtoofkemhikigoaaW.PrintMore
attribute [local go_sem] max2_int min2_int max_two min_two max_three min_three max_four min_four   -- for this text's walks alone
set_option linter.unusedVariables false
set_option linter.unusedSimpArgs false

/-! ### page_Quantize: function 48 -/
mutual
def page_Quantize.l0 : Nat → List (List Int) → List (List Int) → List (S117) → Int → Int → Int → Int → Int → Int → Int → Int → Int → Option ((List (S96)) × Int)
 | 0, _, _, _, _, _, _, _, _, _, _, _, _ => none
 | k + 1, x1, x2, x8, x40, x41, x160000, x160001, x160002, x160003, x160004, x160005, x160006 => if x41 < x40 then (page_Quantize.l1 k x1 x2 x8 x41 ([] : List Int) x40 x41 x1 (x1.length : Int) 0 x160000 x160001 x160002 x160003 x160004 x160005 x160006) else (page_Quantize.l2 k x8 ([] : List (S117)) x2 (x2.length : Int) 0 x160000 x160001 x160002 x160003 x160004 x160005 x160006)
def page_Quantize.l1 : Nat → List (List Int) → List (List Int) → List (S117) → Int → List Int → Int → Int → List (List Int) → Int → Int → Int → Int → Int → Int → Int → Int → Int → Option ((List (S96)) × Int)
 | 0, _, _, _, _, _, _, _, _, _, _, _, _, _, _, _, _, _ => none
 | k + 1, x1, x2, x8, x10, x11, x40, x41, x44, x45, x46, x160000, x160001, x160002, x160003, x160004, x160005, x160006 => if x46 < x45 then (if 0 ≤ x46 then (if x46 < (x44.length : Int) then (if 0 ≤ x10 then (if x10 < ((rd_L11 x44 x46).length : Int) then (if x11.length < 35184372088832 then (page_Quantize.l1 k x1 x2 x8 x10 (x11 ++ [rd (rd_L11 x44 x46) x10]) x40 x41 x44 x45 (wrap64 (x46 + 1)) x160000 x160001 x160002 x160003 x160004 x160005 x160006) else (none)) else (none)) else (none)) else (none)) else (none)) else ((group_Of.f k x11 x160000).bind fun bt168 => (if x8.length < 4398046511104 then (page_Quantize.l0 k x1 x2 (x8 ++ [(⟨bt168.1, bt168.2.1, bt168.2.2.1⟩ : S117)]) x40 (wrap64 (x41 + 1)) x160000 x160001 x160002 x160003 x160004 x160005 x160006) else (none)))
def page_Quantize.l2 : Nat → List (S117) → List (S117) → List (List Int) → Int → Int → Int → Int → Int → Int → Int → Int → Int → Option ((List (S96)) × Int)
 | 0, _, _, _, _, _, _, _, _, _, _, _, _ => none
 | k + 1, x8, x9, x70, x71, x72, x160000, x160001, x160002, x160003, x160004, x160005, x160006 => if x72 < x71 then (if 0 ≤ x72 then (if x72 < (x70.length : Int) then ((group_Of.f k (rd_L11 x70 x72) x160001).bind fun bt179 => (if x9.length < 4398046511104 then (page_Quantize.l2 k x8 (x9 ++ [(⟨bt179.1, bt179.2.1, bt179.2.2.1⟩ : S117)]) x70 x71 (wrap64 (x72 + 1)) x160000 x160001 x160002 x160003 x160004 x160005 x160006) else (none))) else (none)) else (none)) else ((page_New.f k x160000 x160001 x160002 x160003 x160004 x160005 x160006 x8 x9).bind fun bt189 => (some (bt189.1, bt189.2)))
end
def page_Quantize.f (k : Nat) (a0_0 : Int) (a0_1 : Int) (a0_2 : Int) (a0_3 : Int) (a0_4 : Int) (a0_5 : Int) (a0_6 : Int) (l1 : List (List Int)) (l2 : List (List Int)) : Option ((List (S96)) × Int) := (page_Right.f a0_0 a0_1 a0_2 a0_3 a0_4 a0_5 a0_6).bind fun t160 => (if t160 = true then ((page_numbers.f k l1 a0_2 a0_3).bind fun t161 => (if t161 = true then ((page_numbers.f k l2 a0_2 a0_3).bind fun t162 => (if t162 = true then (page_Quantize.l0 k l1 l2 ([] : List (S117)) a0_3 0 a0_0 a0_1 a0_2 a0_3 a0_4 a0_5 a0_6) else (some (([] : List (S96)), 25)))) else (some (([] : List (S96)), 25)))) else (some (([] : List (S96)), 11)))
theorem page_Quantize.mono_l : ∀ k, (∀ y0 y1 y2 y3 y4 y5 y6 y7 y8 y9 y10 y11, LeO (page_Quantize.l0 k y0 y1 y2 y3 y4 y5 y6 y7 y8 y9 y10 y11) (page_Quantize.l0 (k + 1) y0 y1 y2 y3 y4 y5 y6 y7 y8 y9 y10 y11)) ∧ (∀ y0 y1 y2 y3 y4 y5 y6 y7 y8 y9 y10 y11 y12 y13 y14 y15 y16, LeO (page_Quantize.l1 k y0 y1 y2 y3 y4 y5 y6 y7 y8 y9 y10 y11 y12 y13 y14 y15 y16) (page_Quantize.l1 (k + 1) y0 y1 y2 y3 y4 y5 y6 y7 y8 y9 y10 y11 y12 y13 y14 y15 y16)) ∧ (∀ y0 y1 y2 y3 y4 y5 y6 y7 y8 y9 y10 y11, LeO (page_Quantize.l2 k y0 y1 y2 y3 y4 y5 y6 y7 y8 y9 y10 y11) (page_Quantize.l2 (k + 1) y0 y1 y2 y3 y4 y5 y6 y7 y8 y9 y10 y11))
 | 0 => ⟨fun _ _ _ _ _ _ _ _ _ _ _ _ r h => by simp [page_Quantize.l0] at h, fun _ _ _ _ _ _ _ _ _ _ _ _ _ _ _ _ _ r h => by simp [page_Quantize.l1] at h, fun _ _ _ _ _ _ _ _ _ _ _ _ r h => by simp [page_Quantize.l2] at h⟩
 | k + 1 => by
  obtain ⟨ih0, ih1, ih2⟩ := page_Quantize.mono_l k
  refine ⟨?_, ?_, ?_⟩
  ·
   intro y0 y1 y2 y3 y4 y5 y6 y7 y8 y9 y10 y11
   unfold page_Quantize.l0
   repeat' first
   | (with_reducible exact ih0 _ _ _ _ _ _ _ _ _ _ _ _)
   | (with_reducible exact ih1 _ _ _ _ _ _ _ _ _ _ _ _ _ _ _ _ _)
   | (with_reducible exact ih2 _ _ _ _ _ _ _ _ _ _ _ _)
   | (with_reducible exact group_Of.mono _ _ _)
   | (with_reducible exact page_New.mono _ _ _ _ _ _ _ _ _ _)
   | (with_reducible exact page_numbers.mono _ _ _ _)
   | (with_reducible exact LeO.refl _)
   | (with_reducible exact LeO.none _)
   | (with_reducible refine LeO.ite ?_ ?_)
   | (with_reducible refine LeO.bind ?_ (fun _ => ?_))
   | exact ih0 _ _ _ _ _ _ _ _ _ _ _ _
   | exact ih1 _ _ _ _ _ _ _ _ _ _ _ _ _ _ _ _ _
   | exact ih2 _ _ _ _ _ _ _ _ _ _ _ _
   | exact group_Of.mono _ _ _
   | exact page_New.mono _ _ _ _ _ _ _ _ _ _
   | exact page_numbers.mono _ _ _ _
   | exact LeO.none _
   | refine LeO.ite ?_ ?_
   | refine LeO.bind ?_ (fun _ => ?_)
  ·
   intro y0 y1 y2 y3 y4 y5 y6 y7 y8 y9 y10 y11 y12 y13 y14 y15 y16
   unfold page_Quantize.l1
   repeat' first
   | (with_reducible exact ih0 _ _ _ _ _ _ _ _ _ _ _ _)
   | (with_reducible exact ih1 _ _ _ _ _ _ _ _ _ _ _ _ _ _ _ _ _)
   | (with_reducible exact ih2 _ _ _ _ _ _ _ _ _ _ _ _)
   | (with_reducible exact group_Of.mono _ _ _)
   | (with_reducible exact page_New.mono _ _ _ _ _ _ _ _ _ _)
   | (with_reducible exact page_numbers.mono _ _ _ _)
   | (with_reducible exact LeO.refl _)
   | (with_reducible exact LeO.none _)
   | (with_reducible refine LeO.ite ?_ ?_)
   | (with_reducible refine LeO.bind ?_ (fun _ => ?_))
   | exact ih0 _ _ _ _ _ _ _ _ _ _ _ _
   | exact ih1 _ _ _ _ _ _ _ _ _ _ _ _ _ _ _ _ _
   | exact ih2 _ _ _ _ _ _ _ _ _ _ _ _
   | exact group_Of.mono _ _ _
   | exact page_New.mono _ _ _ _ _ _ _ _ _ _
   | exact page_numbers.mono _ _ _ _
   | exact LeO.none _
   | refine LeO.ite ?_ ?_
   | refine LeO.bind ?_ (fun _ => ?_)
  ·
   intro y0 y1 y2 y3 y4 y5 y6 y7 y8 y9 y10 y11
   unfold page_Quantize.l2
   repeat' first
   | (with_reducible exact ih0 _ _ _ _ _ _ _ _ _ _ _ _)
   | (with_reducible exact ih1 _ _ _ _ _ _ _ _ _ _ _ _ _ _ _ _ _)
   | (with_reducible exact ih2 _ _ _ _ _ _ _ _ _ _ _ _)
   | (with_reducible exact group_Of.mono _ _ _)
   | (with_reducible exact page_New.mono _ _ _ _ _ _ _ _ _ _)
   | (with_reducible exact page_numbers.mono _ _ _ _)
   | (with_reducible exact LeO.refl _)
   | (with_reducible exact LeO.none _)
   | (with_reducible refine LeO.ite ?_ ?_)
   | (with_reducible refine LeO.bind ?_ (fun _ => ?_))
   | exact ih0 _ _ _ _ _ _ _ _ _ _ _ _
   | exact ih1 _ _ _ _ _ _ _ _ _ _ _ _ _ _ _ _ _
   | exact ih2 _ _ _ _ _ _ _ _ _ _ _ _
   | exact group_Of.mono _ _ _
   | exact page_New.mono _ _ _ _ _ _ _ _ _ _
   | exact page_numbers.mono _ _ _ _
   | exact LeO.none _
   | refine LeO.ite ?_ ?_
   | refine LeO.bind ?_ (fun _ => ?_)
theorem page_Quantize.mono : ∀ a0 a1 a2 a3 a4 a5 a6 a7 a8 k, LeO (page_Quantize.f k a0 a1 a2 a3 a4 a5 a6 a7 a8) (page_Quantize.f (k + 1) a0 a1 a2 a3 a4 a5 a6 a7 a8) := by
 intro a0 a1 a2 a3 a4 a5 a6 a7 a8 k
 obtain ⟨ih0, ih1, ih2⟩ := page_Quantize.mono_l k
 unfold page_Quantize.f
 repeat' first
   | (with_reducible exact ih0 _ _ _ _ _ _ _ _ _ _ _ _)
   | (with_reducible exact ih1 _ _ _ _ _ _ _ _ _ _ _ _ _ _ _ _ _)
   | (with_reducible exact ih2 _ _ _ _ _ _ _ _ _ _ _ _)
   | (with_reducible exact group_Of.mono _ _ _)
   | (with_reducible exact page_New.mono _ _ _ _ _ _ _ _ _ _)
   | (with_reducible exact page_numbers.mono _ _ _ _)
   | (with_reducible exact LeO.refl _)
   | (with_reducible exact LeO.none _)
   | (with_reducible refine LeO.ite ?_ ?_)
   | (with_reducible refine LeO.bind ?_ (fun _ => ?_))
   | exact ih0 _ _ _ _ _ _ _ _ _ _ _ _
   | exact ih1 _ _ _ _ _ _ _ _ _ _ _ _ _ _ _ _ _
   | exact ih2 _ _ _ _ _ _ _ _ _ _ _ _
   | exact group_Of.mono _ _ _
   | exact page_New.mono _ _ _ _ _ _ _ _ _ _
   | exact page_numbers.mono _ _ _ _
   | exact LeO.none _
   | refine LeO.ite ?_ ?_
   | refine LeO.bind ?_ (fun _ => ?_)
set_option maxHeartbeats 8000000 in
set_option maxRecDepth 100000 in
theorem page_Quantize.calls (k : Nat) (a0_0 : Int) (a0_1 : Int) (a0_2 : Int) (a0_3 : Int) (a0_4 : Int) (a0_5 : Int) (a0_6 : Int) (A1 : Option Addr) (c1 : Nat) (l1 : List (List Int)) (A2 : Option Addr) (c2 : Nat) (l2 : List (List Int)) (r1 : List (S96)) (r2 : Int) (w : World) (hr1 : Kd.C (Kd.slice 21 (Kd.int .i32)) w A1 l1.length l1) (hc1 : l1.length ≤ c1) (hr2 : Kd.C (Kd.slice 21 (Kd.int .i32)) w A2 l2.length l2) (hc2 : l2.length ≤ c2) (h : page_Quantize.f k a0_0 a0_1 a0_2 a0_3 a0_4 a0_5 a0_6 l1 l2 = some (r1, r2)) :
  Calls Try.prog 48 #[.agg #[.int .i64 a0_0, .int .i64 a0_1, .int .i64 a0_2, .int .i64 a0_3, .int .i64 a0_4, .int .i64 a0_5, .int .i64 a0_6], .slice A1 l1.length c1, .slice A2 l2.length c2] w fun e w' => ∃ v0_ : Value, e = .returned (.tuple #[asPtr v0_, .int .i64 r2]) ∧ Kd.R k96 96 w' w.heap.size (fun _ => True) v0_ r1 ∧ Below w.heap.size w w' := by
 have hu48 := Try.underlying48
 have hu117 := Try.underlying117
 have HR1 := Aside0.mk hr1
 have HC1 := Aside0.mk hc1
 clear hr1 hc1
 have HR2 := Aside0.mk hr2
 have HC2 := Aside0.mk hc2
 clear hr2 hc2
 have HB := Aside0.mk (Below.refl w.heap.size w)
 have H : ((page_Right.f a0_0 a0_1 a0_2 a0_3 a0_4 a0_5 a0_6).bind fun t160 => (if t160 = true then ((page_numbers.f k l1 a0_2 a0_3).bind fun t161 => (if t161 = true then ((page_numbers.f k l2 a0_2 a0_3).bind fun t162 => (if t162 = true then (page_Quantize.l0 k l1 l2 ([] : List (S117)) a0_3 0 a0_0 a0_1 a0_2 a0_3 a0_4 a0_5 a0_6) else (some (([] : List (S96)), 25)))) else (some (([] : List (S96)), 25)))) else (some (([] : List (S96)), 11)))) = some (r1, r2) := h
 clear h
 replace H := Option.bind_eq_some_iff.mp H
 obtain ⟨t160, A40, H⟩ := H
 replace H : (if t160 = true then ((page_numbers.f k l1 a0_2 a0_3).bind fun t161 => (if t161 = true then ((page_numbers.f k l2 a0_2 a0_3).bind fun t162 => (if t162 = true then (page_Quantize.l0 k l1 l2 ([] : List (S117)) a0_3 0 a0_0 a0_1 a0_2 a0_3 a0_4 a0_5 a0_6) else (some (([] : List (S96)), 25)))) else (some (([] : List (S96)), 25)))) else (some (([] : List (S96)), 11))) = some (r1, r2) := H
 have A4 := Aside0.mk A40
 clear A40
 by_cases c5 : t160 = true
 ·
  subst c5
  have H1 : ((page_numbers.f k l1 a0_2 a0_3).bind fun t161 => (if t161 = true then ((page_numbers.f k l2 a0_2 a0_3).bind fun t162 => (if t162 = true then (page_Quantize.l0 k l1 l2 ([] : List (S117)) a0_3 0 a0_0 a0_1 a0_2 a0_3 a0_4 a0_5 a0_6) else (some (([] : List (S96)), 25)))) else (some (([] : List (S96)), 25)))) = some (r1, r2) := by rw [if_pos rfl] at H; exact H
  clear H
  have H := H1
  clear H1
  replace H := Option.bind_eq_some_iff.mp H
  obtain ⟨t161, A60, H⟩ := H
  replace H : (if t161 = true then ((page_numbers.f k l2 a0_2 a0_3).bind fun t162 => (if t162 = true then (page_Quantize.l0 k l1 l2 ([] : List (S117)) a0_3 0 a0_0 a0_1 a0_2 a0_3 a0_4 a0_5 a0_6) else (some (([] : List (S96)), 25)))) else (some (([] : List (S96)), 25))) = some (r1, r2) := H
  have A6 := Aside0.mk A60
  clear A60
  by_cases c7 : t161 = true
  ·
   subst c7
   have H1 : ((page_numbers.f k l2 a0_2 a0_3).bind fun t162 => (if t162 = true then (page_Quantize.l0 k l1 l2 ([] : List (S117)) a0_3 0 a0_0 a0_1 a0_2 a0_3 a0_4 a0_5 a0_6) else (some (([] : List (S96)), 25)))) = some (r1, r2) := by rw [if_pos rfl] at H; exact H
   clear H
   have H := H1
   clear H1
   replace H := Option.bind_eq_some_iff.mp H
   obtain ⟨t162, A80, H⟩ := H
   replace H : (if t162 = true then (page_Quantize.l0 k l1 l2 ([] : List (S117)) a0_3 0 a0_0 a0_1 a0_2 a0_3 a0_4 a0_5 a0_6) else (some (([] : List (S96)), 25))) = some (r1, r2) := H
   have A8 := Aside0.mk A80
   clear A80
   by_cases c9 : t162 = true
   ·
    subst c9
    have H1 : (page_Quantize.l0 k l1 l2 ([] : List (S117)) a0_3 0 a0_0 a0_1 a0_2 a0_3 a0_4 a0_5 a0_6) = some (r1, r2) := by rw [if_pos rfl] at H; exact H
    clear H
    have H := H1
    clear H1
    have H' := Aside0.mk H
    clear H
    go_enter Try.func48, Try.ntmps48
    go_wp2_with (first | ((with_reducible refine gate_dst (N := 3) rfl ?_); refine box_event ?hg (N := 3) ?hd (cs := #[.int .i64 a0_0, .int .i64 a0_1, .int .i64 a0_2, .int .i64 a0_3, .int .i64 a0_4, .int .i64 a0_5, .int .i64 a0_6]) (t := 48) ?hr ?_; (case hd => rfl); (case hg => rfl); (case hr => first | (go_simp; done) | (go_simp; rfl)); intro gb159 hg w10 hbox hb; have n0_ := Aside0.mk (below_step (by with_reducible exact HB.out) hb); have n1_ := Aside0.mk (hbox); have n2_ := Aside0.mk ((by rw [hg]; exact (below_size (by with_reducible exact HB.out)) : w.heap.size ≤ gb159)); have n3_ := Aside0.mk ((by rw [hg]; exact (below_size (by with_reducible exact HB.out)) : w.heap.size ≤ gb159)); clear HB; have HB := n0_; have BK159 := n1_; have GW159 := n2_; have GE159 := n3_; clear n0_ n1_ n2_ n3_; clear hb hbox hg; have hcz11_0 : w10.cell? ⟨gb159, 0, none⟩ = some (.int .i64 a0_0) := (blk_cell BK159.out 0).trans rfl; have hcz11_1 : w10.cell? ⟨gb159, 1, none⟩ = some (.int .i64 a0_1) := (blk_cell BK159.out 1).trans rfl; have hcz11_2 : w10.cell? ⟨gb159, 2, none⟩ = some (.int .i64 a0_2) := (blk_cell BK159.out 2).trans rfl; have hcz11_3 : w10.cell? ⟨gb159, 3, none⟩ = some (.int .i64 a0_3) := (blk_cell BK159.out 3).trans rfl; have hcz11_4 : w10.cell? ⟨gb159, 4, none⟩ = some (.int .i64 a0_4) := (blk_cell BK159.out 4).trans rfl; have hcz11_5 : w10.cell? ⟨gb159, 5, none⟩ = some (.int .i64 a0_5) := (blk_cell BK159.out 5).trans rfl; have hcz11_6 : w10.cell? ⟨gb159, 6, none⟩ = some (.int .i64 a0_6) := (blk_cell BK159.out 6).trans rfl; have hfz11_0 := blk_frozen BK159.out 0; have hfz11_1 := blk_frozen BK159.out 1; have hfz11_2 := blk_frozen BK159.out 2; have hfz11_3 := blk_frozen BK159.out 3; have hfz11_4 := blk_frozen BK159.out 4; have hfz11_5 := blk_frozen BK159.out 5; have hfz11_6 := blk_frozen BK159.out 6) | ((with_reducible refine gate_callee (f := 60) rfl ?_); refine goesL_ (some 22) rfl rfl Try.func60 (by kernel_rfl) rfl #[.agg #[.int .i64 a0_0, .int .i64 a0_1, .int .i64 a0_2, .int .i64 a0_3, .int .i64 a0_4, .int .i64 a0_5, .int .i64 a0_6]] rfl (by (try simp only [List.map_toArray, List.map_cons, List.map_nil]); first | done | rfl | (simp only [List.length_drop, List.length_take]; rfl)) ?_; (with_reducible refine (page_Right.calls a0_0 a0_1 a0_2 a0_3 a0_4 a0_5 a0_6 true _ A4.out).mono ?_); rintro e w12 ⟨rfl, hb⟩; refine ⟨_, rfl, ?_⟩; have n0_ := Aside0.mk (blk_below (g := gb159) (o := .cells #[.int .i64 a0_0, .int .i64 a0_1, .int .i64 a0_2, .int .i64 a0_3, .int .i64 a0_4, .int .i64 a0_5, .int .i64 a0_6] 48 (0, 0)) (by exact BK159.out) hb); have n1_ := Aside0.mk (below_step (by with_reducible exact HB.out) hb); clear BK159; clear HB; have BK159 := n0_; have HB := n1_; clear n0_ n1_; (try clear hb); (try clear hb2); (try clear hk); (try clear hi); have hcz13_0 : w12.cell? ⟨gb159, 0, none⟩ = some (.int .i64 a0_0) := (blk_cell BK159.out 0).trans rfl; have hcz13_1 : w12.cell? ⟨gb159, 1, none⟩ = some (.int .i64 a0_1) := (blk_cell BK159.out 1).trans rfl; have hcz13_2 : w12.cell? ⟨gb159, 2, none⟩ = some (.int .i64 a0_2) := (blk_cell BK159.out 2).trans rfl; have hcz13_3 : w12.cell? ⟨gb159, 3, none⟩ = some (.int .i64 a0_3) := (blk_cell BK159.out 3).trans rfl; have hcz13_4 : w12.cell? ⟨gb159, 4, none⟩ = some (.int .i64 a0_4) := (blk_cell BK159.out 4).trans rfl; have hcz13_5 : w12.cell? ⟨gb159, 5, none⟩ = some (.int .i64 a0_5) := (blk_cell BK159.out 5).trans rfl; have hcz13_6 : w12.cell? ⟨gb159, 6, none⟩ = some (.int .i64 a0_6) := (blk_cell BK159.out 6).trans rfl; have hfz13_0 := blk_frozen BK159.out 0; have hfz13_1 := blk_frozen BK159.out 1; have hfz13_2 := blk_frozen BK159.out 2; have hfz13_3 := blk_frozen BK159.out 3; have hfz13_4 := blk_frozen BK159.out 4; have hfz13_5 := blk_frozen BK159.out 5; have hfz13_6 := blk_frozen BK159.out 6) | ((with_reducible refine gate_callee (f := 61) rfl ?_); refine goesL_ (some 30) rfl rfl Try.func61 (by kernel_rfl) rfl #[.slice A1 l1.length c1, .int .i64 a0_2, .int .i64 a0_3] rfl (by (try simp only [List.map_toArray, List.map_cons, List.map_nil]); first | done | rfl | (simp only [List.length_drop, List.length_take]; rfl)) ?_; (with_reducible refine (page_numbers.calls k _ _ l1 a0_2 a0_3 true _ ?side1 ?side2 A6.out).mono ?_); (case side1 => repeat (first | exact (Kd.C_below HR1.out HB.out) | (with_reducible refine Kd.C_alloc ?_ _) | (with_reducible refine Kd.C_drewN ?_ _) | (with_reducible refine Kd.C_drew ?_))); (case side2 => exact HC1.out); rintro e w' ⟨rfl, ⟨nd, rfl⟩⟩; refine ⟨_, rfl, ?_⟩) | ((with_reducible refine gate_callee (f := 61) rfl ?_); refine goesL_ (some 37) rfl rfl Try.func61 (by kernel_rfl) rfl #[.slice A2 l2.length c2, .int .i64 a0_2, .int .i64 a0_3] rfl (by (try simp only [List.map_toArray, List.map_cons, List.map_nil]); first | done | rfl | (simp only [List.length_drop, List.length_take]; rfl)) ?_; (with_reducible refine (page_numbers.calls k _ _ l2 a0_2 a0_3 true _ ?side1 ?side2 A8.out).mono ?_); (case side1 => repeat (first | exact (Kd.C_below HR2.out (by repeat (first | (with_reducible first | exact HB.out | apply below_alloc | apply pw_below_drewN | apply below_drew1 | refine below_set ?_ GE159.out) | exact HB.out))) | (with_reducible refine Kd.C_alloc ?_ _) | (with_reducible refine Kd.C_drewN ?_ _) | (with_reducible refine Kd.C_drew ?_))); (case side2 => exact HC2.out); rintro e w' ⟨rfl, ⟨nd, rfl⟩⟩; refine ⟨_, rfl, ?_⟩))
    go_loopg [8, 41] k (fun kq v8 v41 w' => ∃ (x8_1 : List (S117)) (x41_1 : Int), v41 = .int .i64 x41_1 ∧ Aside0 (page_Quantize.l0 kq l1 l2 x8_1 a0_3 x41_1 a0_0 a0_1 a0_2 a0_3 a0_4 a0_5 a0_6 = some (r1, r2)) ∧ Aside0 (kq ≤ k) ∧ Aside0 (Kd.S k117 117 w' w.heap.size (fun _ => True) v8 x8_1) ∧ Aside0 (w'.heap[gb159]? = some (.cells #[.int .i64 a0_0, .int .i64 a0_1, .int .i64 a0_2, .int .i64 a0_3, .int .i64 a0_4, .int .i64 a0_5, .int .i64 a0_6] 48 (0, 0))) ∧ Aside0 (Below w.heap.size w w'))
    case atStart => exact ⟨(([] : List (S117))), (0), (by first | rfl | (simp; done) | (simp [*]; done)), H', ⟨Nat.le_refl _⟩, ⟨by first | exact Kd.S_nil _ _ _ _ _ | exact Kd.N_nil _ _ _ _ _ | exact Kd.V_nil _ _ _ _ _ | exact Kd.Q_nil _ _ _ _ _ | exact Kd.R_nil _ _ _ _ _⟩, ⟨by (with_reducible repeat (first | refine blk_drewN ?_ _ | refine blk_drew ?_ | refine blk_alloc ?_ _)); exact BK159.out⟩, ⟨by repeat (first | (with_reducible first | exact HB.out | apply below_alloc | apply pw_below_drewN | apply below_drew1 | refine below_set ?_ GE159.out) | exact HB.out)⟩⟩
    case round =>
     clear H'
     try clear c1
     try clear c2
     try clear p2
     try clear c4
     try clear c5
     try clear c6
     try clear c7
     try clear c9
     try clear hcz11_0
     try clear hcz11_1
     try clear hcz11_2
     try clear hcz11_3
     try clear hcz11_4
     try clear hcz11_5
     try clear hcz11_6
     try clear hcz13_0
     try clear hcz13_1
     try clear hcz13_2
     try clear hcz13_3
     try clear hcz13_4
     try clear hcz13_5
     try clear hcz13_6
     try clear hfz11_0
     try clear hfz11_1
     try clear hfz11_2
     try clear hfz11_3
     try clear hfz11_4
     try clear hfz11_5
     try clear hfz11_6
     try clear hfz13_0
     try clear hfz13_1
     try clear hfz13_2
     try clear hfz13_3
     try clear hfz13_4
     try clear hfz13_5
     try clear hfz13_6
     obtain ⟨x8_1, x41_1, rfl, HA, HK1, HO_8, BK159, HB⟩ := hrel
     cases gk with
     | zero => exact absurd HA.out (by simp [page_Quantize.l0])
     | succ k1 =>
      have H := HA.out
      clear HA
      simp only [page_Quantize.l0] at H
      by_cases c14 : x41_1 < a0_3
      ·
       rw [if_pos c14] at H
       have c14b0 : decide (x41_1 < a0_3) = true := decide_eq_true c14
       clear c14
       have H' := Aside0.mk H
       clear H
       go_wp2
       go_loopg [11, 46] k1 (fun kq v11 v46 w' => ∃ (x11_2 : List Int) (x46_2 : Int), v46 = .int .i64 x46_2 ∧ Aside0 (page_Quantize.l1 kq l1 l2 x8_1 x41_1 x11_2 a0_3 x41_1 l1 (l1.length : Int) x46_2 a0_0 a0_1 a0_2 a0_3 a0_4 a0_5 a0_6 = some (r1, r2)) ∧ Aside0 (kq ≤ k1) ∧ Aside0 (Kd.S k117 117 w' w.heap.size (fun _ => True) u8 x8_1) ∧ Aside0 (Kd.R (Kd.int .i32) 21 w' w.heap.size (fun _ => True) v11 x11_2) ∧ Aside0 (w'.heap[gb159]? = some (.cells #[.int .i64 a0_0, .int .i64 a0_1, .int .i64 a0_2, .int .i64 a0_3, .int .i64 a0_4, .int .i64 a0_5, .int .i64 a0_6] 48 (0, 0))) ∧ Aside0 (Below w.heap.size w w'))
       case atStart => exact ⟨(([] : List Int)), (0), (by first | rfl | (simp; done) | (simp [*]; done)), H', ⟨Nat.le_refl _⟩, ⟨by exact HO_8.out⟩, ⟨by first | exact Kd.R_nil _ _ _ _ _ | exact Kd.N_nil _ _ _ _ _ | exact Kd.V_nil _ _ _ _ _ | exact Kd.Q_nil _ _ _ _ _ | exact Kd.S_nil _ _ _ _ _⟩, ⟨by exact BK159.out⟩, ⟨by with_reducible exact HB.out⟩⟩
       case round =>
        clear H'
        try clear c1
        try clear c2
        try clear p2
        try clear c4
        try clear c5
        try clear c6
        try clear c7
        try clear c9
        try clear c14
        try clear c14b0
        try clear hcz11_0
        try clear hcz11_1
        try clear hcz11_2
        try clear hcz11_3
        try clear hcz11_4
        try clear hcz11_5
        try clear hcz11_6
        try clear hcz13_0
        try clear hcz13_1
        try clear hcz13_2
        try clear hcz13_3
        try clear hcz13_4
        try clear hcz13_5
        try clear hcz13_6
        try clear hfz11_0
        try clear hfz11_1
        try clear hfz11_2
        try clear hfz11_3
        try clear hfz11_4
        try clear hfz11_5
        try clear hfz11_6
        try clear hfz13_0
        try clear hfz13_1
        try clear hfz13_2
        try clear hfz13_3
        try clear hfz13_4
        try clear hfz13_5
        try clear hfz13_6
        try clear p2
        obtain ⟨x11_2, x46_2, rfl, HA, HK2, HO_8, HO_11, BK159, HB⟩ := hrel
        cases gk with
        | zero => exact absurd HA.out (by simp [page_Quantize.l1])
        | succ k2 =>
         have H := HA.out
         clear HA
         simp only [page_Quantize.l1] at H
         by_cases c15 : x46_2 < (l1.length : Int)
         ·
          rw [if_pos c15] at H
          have c15b0 : decide (x46_2 < (l1.length : Int)) = true := decide_eq_true c15
          clear c15
          by_cases c16 : 0 ≤ x46_2
          case neg => (rw [if_neg c16] at H; exact absurd H (by simp))
          rw [if_pos c16] at H
          have c16b0 : decide (0 ≤ x46_2) = true := decide_eq_true c16
          clear c16
          by_cases c17 : x46_2 < (l1.length : Int)
          case neg => (rw [if_neg c17] at H; exact absurd H (by simp))
          rw [if_pos c17] at H
          have c17b0 : decide (x46_2 < (l1.length : Int)) = true := decide_eq_true c17
          clear c17
          by_cases c18 : 0 ≤ x41_1
          case neg => (rw [if_neg c18] at H; exact absurd H (by simp))
          rw [if_pos c18] at H
          have c18b0 : decide (0 ≤ x41_1) = true := decide_eq_true c18
          clear c18
          by_cases c19 : x41_1 < ((rd_L11 l1 x46_2).length : Int)
          case neg => (rw [if_neg c19] at H; exact absurd H (by simp))
          rw [if_pos c19] at H
          have c19b0 : decide (x41_1 < ((rd_L11 l1 x46_2).length : Int)) = true := decide_eq_true c19
          clear c19
          by_cases c20 : x11_2.length < 35184372088832
          case neg => (rw [if_neg c20] at H; exact absurd H (by simp))
          rw [if_pos c20] at H
          have LMc20 := Aside0.mk c20
          clear c20
          obtain ⟨y165, hy165⟩ : ∃ y_ : List Int, y_ = (x11_2 ++ [rd (rd_L11 l1 x46_2) x41_1]) := ⟨_, rfl⟩
          replace H : (page_Quantize.l1 k2 l1 l2 x8_1 x41_1 y165 a0_3 x41_1 l1 (l1.length : Int) (wrap64 (x46_2 + 1)) a0_0 a0_1 a0_2 a0_3 a0_4 a0_5 a0_6) = some (r1, r2) := by first | (rw [hy165]; with_reducible exact H) | (have H2_ := (Option.bind_some _ _).symm.trans H; rw [hy165]; with_reducible exact H2_) | (have H2_ := (Option.bind_some _ _).symm.trans H; with_reducible exact H2_) | with_reducible exact H | (rw [hy165]; exact H) | exact H
          have Ny165 := Aside0.mk hy165
          clear hy165
          have H' := Aside0.mk H
          clear H
          have p163 : 0 ≤ (x46_2 : Int) := of_decide_eq_true (by first | (with_reducible assumption) | assumption)
          have q163 : x46_2 < (l1.length : Int) := of_decide_eq_true (by first | (with_reducible assumption) | assumption)
          obtain ⟨ad163, A163_0, c163_0, e163, hx163_0, hl163_0, hi163_0⟩ := at_L11 HR1.out x46_2 p163 q163
          cases e163
          replace hx163_0 := (HB.out.cell (World.block_lt_of_cell? w _ hx163_0)).trans hx163_0
          have HR163_0 := Aside0.mk hi163_0
          have HC163_0 := Aside0.mk hl163_0
          clear hi163_0 hl163_0
          replace p163 := eq_true p163
          replace q163 := eq_true q163
          have p164 : 0 ≤ (x41_1 : Int) := of_decide_eq_true (by first | (with_reducible assumption) | assumption)
          have q164 : x41_1 < ((rd_L11 l1 x46_2).length : Int) := of_decide_eq_true (by first | (with_reducible assumption) | assumption)
          obtain ⟨ad164, e164, hx164_0⟩ := Kd.at_int HR163_0.out x41_1 p164 q164
          cases e164
          replace hx164_0 := (HB.out.cell (World.block_lt_of_cell? w _ hx164_0)).trans hx164_0
          replace p164 := eq_true p164
          replace q164 := eq_true q164
          go_wp2_with (first | ((with_reducible refine gate_builtin (b := .append) (xs := #[.tmp 50, .tmp 55]) rfl ?_); at_builtin; refine Kd.R_append (Kd.int .i32) (w0 := w) w.heap.size rfl (.tmp 50) (.tmp 55) 92 21 (.int .i32 0) 4 rfl Try.underlying92 info21 rfl (by decide) (by omega) u11 x11_2 (rd (rd_L11 l1 x46_2) x41_1) [.int .i32 (rd (rd_L11 l1 x46_2) x41_1)] (fun _ => True) (fun _ => False) rfl rfl ?aP (fun _ hk => hk.elim) ?aF ?aO ?aB ?aS ?aL ?_; (case aP => exact rfl); (case aB => exact (by with_reducible exact HB.out)); (case aF => exact (fun _ _ => trivial)); (case aO => exact (by exact HO_11.out)); (case aS => exact (below_size (by with_reducible exact HB.out))); (case aL => have := LMc20.out; omega); intro v166 w21 ho hb hg hat; rw [← Ny165.out] at ho; have n0_ := Aside0.mk (Kd.S_over' (by exact HO_8.out) (Kd.R_typed (by exact HO_11.out)) (by decide) hg); have n1_ := Aside0.mk (blk_grown (g := gb159) (o := .cells #[.int .i64 a0_0, .int .i64 a0_1, .int .i64 a0_2, .int .i64 a0_3, .int .i64 a0_4, .int .i64 a0_5, .int .i64 a0_6] 48 (0, 0)) (by exact BK159.out) hg (Kd.R_ne HO_11.out BK159.out (by decide))); have n2_ := Aside0.mk (hb); have n3_ := Aside0.mk (ho); clear HO_8; clear BK159; clear HB; clear HO_11; have HO_8 := n0_; have BK159 := n1_; have HB := n2_; have HO167 := n3_; clear n0_ n1_ n2_ n3_; clear ho hb hg hat))
          go_roundg k2
          case measure => have := HK1.out; have := HK2.out; omega
          case rel => exact ⟨(y165), (wrap64 (x46_2 + 1)), (by first | rfl | (simp; done) | (simp [*]; done)), H', ⟨by have := HK1.out; have := HK2.out; omega⟩, ⟨by exact HO_8.out⟩, ⟨by exact HO167.out⟩, ⟨by exact BK159.out⟩, ⟨by with_reducible exact HB.out⟩⟩
         ·
          rw [if_neg c15] at H
          have c15b0 : decide (x46_2 < (l1.length : Int)) = false := decide_eq_false c15
          clear c15
          replace H := Option.bind_eq_some_iff.mp H
          obtain ⟨⟨t168, t169, t170, t173⟩, A220, H⟩ := H
          replace H : (if x8_1.length < 4398046511104 then (page_Quantize.l0 k2 l1 l2 (x8_1 ++ [(⟨t168, t169, t170⟩ : S117)]) a0_3 (wrap64 (x41_1 + 1)) a0_0 a0_1 a0_2 a0_3 a0_4 a0_5 a0_6) else (none)) = some (r1, r2) := H
          have A22 := Aside0.mk A220
          clear A220
          by_cases c23 : x8_1.length < 4398046511104
          case neg => (rw [if_neg c23] at H; exact absurd H (by simp))
          rw [if_pos c23] at H
          have LMc23 := Aside0.mk c23
          clear c23
          obtain ⟨y175, hy175⟩ : ∃ y_ : List (S117), y_ = (x8_1 ++ [(⟨t168, t169, t170⟩ : S117)]) := ⟨_, rfl⟩
          replace H : (page_Quantize.l0 k2 l1 l2 y175 a0_3 (wrap64 (x41_1 + 1)) a0_0 a0_1 a0_2 a0_3 a0_4 a0_5 a0_6) = some (r1, r2) := by first | (rw [hy175]; with_reducible exact H) | (have H2_ := (Option.bind_some _ _).symm.trans H; rw [hy175]; with_reducible exact H2_) | (have H2_ := (Option.bind_some _ _).symm.trans H; with_reducible exact H2_) | with_reducible exact H | (rw [hy175]; exact H) | exact H
          have Ny175 := Aside0.mk hy175
          clear hy175
          have H' := Aside0.mk H
          clear H
          have hcz24_0 : wr.cell? ⟨gb159, 0, none⟩ = some (.int .i64 a0_0) := (blk_cell BK159.out 0).trans rfl
          have hcz24_1 : wr.cell? ⟨gb159, 1, none⟩ = some (.int .i64 a0_1) := (blk_cell BK159.out 1).trans rfl
          have hcz24_2 : wr.cell? ⟨gb159, 2, none⟩ = some (.int .i64 a0_2) := (blk_cell BK159.out 2).trans rfl
          have hcz24_3 : wr.cell? ⟨gb159, 3, none⟩ = some (.int .i64 a0_3) := (blk_cell BK159.out 3).trans rfl
          have hcz24_4 : wr.cell? ⟨gb159, 4, none⟩ = some (.int .i64 a0_4) := (blk_cell BK159.out 4).trans rfl
          have hcz24_5 : wr.cell? ⟨gb159, 5, none⟩ = some (.int .i64 a0_5) := (blk_cell BK159.out 5).trans rfl
          have hcz24_6 : wr.cell? ⟨gb159, 6, none⟩ = some (.int .i64 a0_6) := (blk_cell BK159.out 6).trans rfl
          have hfz24_0 := blk_frozen BK159.out 0
          have hfz24_1 := blk_frozen BK159.out 1
          have hfz24_2 := blk_frozen BK159.out 2
          have hfz24_3 := blk_frozen BK159.out 3
          have hfz24_4 := blk_frozen BK159.out 4
          have hfz24_5 := blk_frozen BK159.out 5
          have hfz24_6 := blk_frozen BK159.out 6
          obtain ⟨Ao25, co25, eo25⟩ := Kd.R_slice HO_11.out
          subst eo25
          go_wp2_with (first | ((with_reducible refine gate_callee (f := 62) rfl ?_); refine goesL_ (some 62) rfl rfl Try.func62 (by kernel_rfl) rfl #[.slice Ao25 x11_2.length co25, .int .i64 a0_0] rfl (by (try simp only [List.map_toArray, List.map_cons, List.map_nil]); first | done | rfl | (simp only [List.length_drop, List.length_take]; rfl)) ?_; (with_reducible refine (group_Of.calls k2 _ _ x11_2 a0_0 t168 t169 t170 t173 _ ?side1 ?side2 A22.out).mono ?_); (case side1 => repeat (first | exact (Kd.R_reads' HO_11.out).2.2 | (with_reducible refine Kd.C_alloc ?_ _) | (with_reducible refine Kd.C_drewN ?_ _) | (with_reducible refine Kd.C_drew ?_))); (case side2 => exact (Kd.R_reads' HO_11.out).2.1); rintro e w26 ⟨v171, rfl, ho0, hb⟩; refine ⟨_, rfl, ?_⟩; have n0_ := Aside0.mk (Kd.S_elder' (by exact HO_8.out) (Kd.R_base ho0) hb); have n1_ := Aside0.mk (Kd.R_below (by exact HO_11.out) hb); have n2_ := Aside0.mk (Kd.R_lower ho0 (below_size (by with_reducible exact HB.out))); have n3_ := Aside0.mk (blk_below (g := gb159) (o := .cells #[.int .i64 a0_0, .int .i64 a0_1, .int .i64 a0_2, .int .i64 a0_3, .int .i64 a0_4, .int .i64 a0_5, .int .i64 a0_6] 48 (0, 0)) (by exact BK159.out) hb); have n4_ := Aside0.mk (below_step (by with_reducible exact HB.out) hb); clear HO_8; clear HO_11; clear BK159; clear HB; have HO_8 := n0_; have HO_11 := n1_; have HO172 := n2_; have BK159 := n3_; have HB := n4_; clear n0_ n1_ n2_ n3_ n4_; (try clear hb); (try clear hb2); (try clear hk); (try clear hi); (try clear ho0)) | ((with_reducible refine gate_dst (N := 14) rfl ?_); refine box_event ?hg (N := 14) ?hd (cs := #[.int .i32 0, .int .u32 0, .slice none 0 0]) (t := 117) ?hr ?_; (case hd => rfl); (case hg => rfl); (case hr => first | (go_simp; done) | (go_simp; rfl)); intro gb174 hg w27 hbox hb; have n0_ := Aside0.mk (Kd.S_below (Kd.S_elderB (by exact HO_8.out) gb174 (Nat.le_of_eq hg.symm)) hb); have n1_ := Aside0.mk (Kd.R_below (by exact HO_11.out) hb); have n2_ := Aside0.mk (Kd.R_below (by exact HO172.out) hb); have n3_ := Aside0.mk (blk_below (g := gb159) (o := .cells #[.int .i64 a0_0, .int .i64 a0_1, .int .i64 a0_2, .int .i64 a0_3, .int .i64 a0_4, .int .i64 a0_5, .int .i64 a0_6] 48 (0, 0)) (by exact BK159.out) hb); have n4_ := Aside0.mk (below_step (by with_reducible exact HB.out) hb); have n5_ := Aside0.mk (hbox); have n6_ := Aside0.mk ((by rw [hg]; exact (below_size (by with_reducible exact HB.out)) : w.heap.size ≤ gb174)); have n7_ := Aside0.mk ((by rw [hg]; exact (below_size (by with_reducible exact HB.out)) : w.heap.size ≤ gb174)); have n8_ := Aside0.mk ((by rw [hg]; exact Nat.ne_of_lt (blk_lt (g := gb159) (o := .cells #[.int .i64 a0_0, .int .i64 a0_1, .int .i64 a0_2, .int .i64 a0_3, .int .i64 a0_4, .int .i64 a0_5, .int .i64 a0_6] 48 (0, 0)) (by exact BK159.out)) : gb159 ≠ gb174)); have n9_ := Aside0.mk ((by rw [hg]; exact Nat.ne_of_gt (blk_lt (g := gb159) (o := .cells #[.int .i64 a0_0, .int .i64 a0_1, .int .i64 a0_2, .int .i64 a0_3, .int .i64 a0_4, .int .i64 a0_5, .int .i64 a0_6] 48 (0, 0)) (by exact BK159.out)) : gb174 ≠ gb159)); clear HO_8; clear HO_11; clear HO172; clear BK159; clear HB; have HO_8 := n0_; have HO_11 := n1_; have HO172 := n2_; have BK159 := n3_; have HB := n4_; have BK174 := n5_; have GW174 := n6_; have GE174 := n7_; have NB159_174 := n8_; have NB174_159 := n9_; clear n0_ n1_ n2_ n3_ n4_ n5_ n6_ n7_ n8_ n9_; clear hb hbox hg; have hnb28 := NB174_159.out; have hnc28 := NB159_174.out; have hcz29_0 : w27.cell? ⟨gb174, 0, none⟩ = some (.int .i32 0) := (blk_cell BK174.out 0).trans rfl; have hcz29_1 : w27.cell? ⟨gb174, 1, none⟩ = some (.int .u32 0) := (blk_cell BK174.out 1).trans rfl; have hcz29_2 : w27.cell? ⟨gb174, 2, none⟩ = some (.slice none 0 0) := (blk_cell BK174.out 2).trans rfl; have hfz29_0 := blk_frozen BK174.out 0; have hfz29_1 := blk_frozen BK174.out 1; have hfz29_2 := blk_frozen BK174.out 2; obtain ⟨Ao30, co30, eo30⟩ := Kd.R_slice HO172.out; subst eo30) | ((with_reducible refine gate_store (t := 117) (p := 14) rfl ?_); refine store_event (t := 117) (p := 14) (v := ?vo_w31) (w1 := (((w27.setCell ⟨gb174, 0, none⟩ (.int .i32 t168)).setCell ⟨gb174, 1, none⟩ (.int .u32 t169)).setCell ⟨gb174, 2, none⟩ (.slice Ao30 t170.length co30))) ?hg ?ho ?hn ?hr ?_; (case ho => rfl); (case hg => rfl); (case hn => rfl); (case hr => first | (go_simp; done) | (go_simp; rfl)); intro w31 hw; have n0_ : Aside0 (Kd.S k117 117 w31 w.heap.size (fun k_ => some k_ ≠ (.slice Ao30 t170.length co30 : Value).ownBlock ∧ k_ ≠ gb174) u8 x8_1) := ⟨(by rw [hw]; exact (by (with_reducible repeat (first | apply Kd.S_alloc | apply Kd.S_drewN | apply Kd.S_drew)); exact Kd.S_mono (Kd.S_far (p := ⟨gb174, 2, none⟩) (Kd.S_far (p := ⟨gb174, 1, none⟩) (Kd.S_far (p := ⟨gb174, 0, none⟩) (Kd.S_mono HO_8.out (fun k_ hk => (⟨hk, hk.2⟩ : _ ∧ k_ ≠ gb174))) (fun _ hk => hk.2) (.int .i32 t168)) (fun _ hk => hk.2) (.int .u32 t169)) (fun _ hk => hk.2) (.slice Ao30 t170.length co30)) (fun _ hk => ⟨hk.1.1.2, hk.1.2⟩)))⟩; have n1_ : Aside0 (Kd.R (Kd.int .i32) 21 w31 w.heap.size (fun _ => True) (.slice Ao25 x11_2.length co25) x11_2) := ⟨(by rw [hw]; exact (by (with_reducible repeat (first | apply Kd.R_alloc | apply Kd.R_drewN | apply Kd.R_drew)); exact Kd.R_mono (Kd.R_far (p := ⟨gb174, 2, none⟩) (Kd.R_far (p := ⟨gb174, 1, none⟩) (Kd.R_far (p := ⟨gb174, 0, none⟩) (Kd.R_types HO_11.out BK174.out (by decide)) (fun _ hk => hk.2) (.int .i32 t168)) (fun _ hk => hk.2) (.int .u32 t169)) (fun _ hk => hk.2) (.slice Ao30 t170.length co30)) (fun _ hk => trivial)))⟩; have n2_ : Aside0 (Kd.R (Kd.int .i64) 3 w31 w.heap.size (fun _ => True) (.slice Ao30 t170.length co30) t170) := ⟨(by rw [hw]; exact (by (with_reducible repeat (first | apply Kd.R_alloc | apply Kd.R_drewN | apply Kd.R_drew)); exact Kd.R_mono (Kd.R_far (p := ⟨gb174, 2, none⟩) (Kd.R_far (p := ⟨gb174, 1, none⟩) (Kd.R_far (p := ⟨gb174, 0, none⟩) (Kd.R_types HO172.out BK174.out (by decide)) (fun _ hk => hk.2) (.int .i32 t168)) (fun _ hk => hk.2) (.int .u32 t169)) (fun _ hk => hk.2) (.slice Ao30 t170.length co30)) (fun _ hk => trivial)))⟩; have n3_ : Aside0 (w31.heap[gb159]? = some (.cells #[.int .i64 a0_0, .int .i64 a0_1, .int .i64 a0_2, .int .i64 a0_3, .int .i64 a0_4, .int .i64 a0_5, .int .i64 a0_6] 48 (0, 0))) := ⟨(by rw [hw]; exact (by (with_reducible repeat (first | refine blk_drewN ?_ _ | refine blk_drew ?_ | refine blk_alloc ?_ _)); refine blk_far ?_ NB159_174.out _; (with_reducible repeat (first | refine blk_drewN ?_ _ | refine blk_drew ?_ | refine blk_alloc ?_ _)); refine blk_far ?_ NB159_174.out _; (with_reducible repeat (first | refine blk_drewN ?_ _ | refine blk_drew ?_ | refine blk_alloc ?_ _)); refine blk_far ?_ NB159_174.out _; (with_reducible repeat (first | refine blk_drewN ?_ _ | refine blk_drew ?_ | refine blk_alloc ?_ _)); exact BK159.out))⟩; have n4_ : Aside0 (w31.heap[gb174]? = some (.cells #[.int .i32 t168, .int .u32 t169, .slice Ao30 t170.length co30] 117 (0, 0))) := ⟨(by rw [hw]; exact (by (with_reducible repeat (first | refine blk_drewN ?_ _ | refine blk_drew ?_ | refine blk_alloc ?_ _)); refine blk_put (cs := #[.int .i32 t168, .int .u32 t169, .slice none 0 0]) ?_ 2 _ rfl; (with_reducible repeat (first | refine blk_drewN ?_ _ | refine blk_drew ?_ | refine blk_alloc ?_ _)); refine blk_put (cs := #[.int .i32 t168, .int .u32 0, .slice none 0 0]) ?_ 1 _ rfl; (with_reducible repeat (first | refine blk_drewN ?_ _ | refine blk_drew ?_ | refine blk_alloc ?_ _)); refine blk_put (cs := #[.int .i32 0, .int .u32 0, .slice none 0 0]) ?_ 0 _ rfl; (with_reducible repeat (first | refine blk_drewN ?_ _ | refine blk_drew ?_ | refine blk_alloc ?_ _)); exact BK174.out))⟩; have n5_ : Aside0 (Below w.heap.size w w31) := ⟨(by rw [hw]; exact (by repeat (first | (with_reducible first | exact HB.out | apply below_alloc | apply pw_below_drewN | apply below_drew1 | refine below_set ?_ GE159.out | refine below_set ?_ GE174.out) | exact HB.out)))⟩; clear hw; clear HO_8; clear HO_11; clear HO172; clear BK159; clear BK174; clear HB; have HO_8 := n0_; have HO_11 := n1_; have HO172 := n2_; have BK159 := n3_; have BK174 := n4_; have HB := n5_; clear n0_ n1_ n2_ n3_ n4_ n5_; have hcz32_0 : w31.cell? ⟨gb174, 0, none⟩ = some (.int .i32 t168) := (blk_cell BK174.out 0).trans rfl; have hcz32_1 : w31.cell? ⟨gb174, 1, none⟩ = some (.int .u32 t169) := (blk_cell BK174.out 1).trans rfl; have hcz32_2 : w31.cell? ⟨gb174, 2, none⟩ = some (.slice Ao30 t170.length co30) := (blk_cell BK174.out 2).trans rfl; have hfz32_0 := blk_frozen BK174.out 0; have hfz32_1 := blk_frozen BK174.out 1; have hfz32_2 := blk_frozen BK174.out 2) | ((with_reducible refine gate_builtin (b := .append) (xs := #[.tmp 65, .tmp 67]) rfl ?_); at_builtin; refine Kd.S_append k117 (w0 := w) w.heap.size rfl (.tmp 65) (.tmp 67) 114 117 (.agg #[(.int .i32 0), (.int .u32 0), (.slice none 0 0)]) 32 rfl Try.underlying114 info117 rfl (by decide) (by omega) u8 x8_1 (⟨t168, t169, t170⟩ : S117) [.int .i32 t168, .int .u32 t169, .slice Ao30 t170.length co30] (fun k_ => k_ ≠ gb174) (fun k_ => some k_ = (.slice Ao30 t170.length co30 : Value).ownBlock) rfl rfl ?aP (fun k_ hk_ => ((Kd.R_mono (ok' := fun k_ => ((fun k_ => k_ ≠ gb174)) k_ ∧ some k_ ≠ (u8 : Value).ownBlock) (Kd.R_types (Kd.R_apart' (HO172.out) (Kd.S_typed HO_8.out) (by decide)) BK174.out (by decide)) (fun k_ hk => ⟨hk.2, hk.1.2⟩))).1 k_ hk_.symm) ?aF ?aO ?aB ?aS ?aL ?_; (case aP => exact k117_mkM _ _ _ (⟨t168, t169, t170⟩ : S117) (Kd.R_mono (Kd.R_tight rfl (Kd.R_mono (ok' := fun k_ => ((fun k_ => k_ ≠ gb174)) k_ ∧ some k_ ≠ (u8 : Value).ownBlock) (Kd.R_types (Kd.R_apart' (HO172.out) (Kd.S_typed HO_8.out) (by decide)) BK174.out (by decide)) (fun k_ hk => ⟨hk.2, hk.1.2⟩))) (fun _ h_ => h_))); (case aB => exact (by with_reducible exact HB.out)); (case aF => exact (fun k_ hk => Kd.freshB (g := gb174) (o := .cells #[.int .i32 t168, .int .u32 t169, .slice Ao30 t170.length co30] 117 (0, 0)) (by exact BK174.out) k_ hk)); (case aO => exact (by (with_reducible repeat (first | apply Kd.S_alloc | apply Kd.S_drewN | apply Kd.S_drew)); exact Kd.S_mono HO_8.out (fun k_ hk => ⟨hk.2, fun e_ => hk.1 e_⟩))); (case aS => exact (below_size (by with_reducible exact HB.out))); (case aL => have := LMc23.out; omega); intro v176 w33 ho hb hg hat; rw [← Ny175.out] at ho; have n0_ := Aside0.mk (Kd.R_over' (by exact HO_11.out) (Kd.S_typed (by exact HO_8.out)) (by decide) hg); have n1_ := Aside0.mk (blk_grown (g := gb159) (o := .cells #[.int .i64 a0_0, .int .i64 a0_1, .int .i64 a0_2, .int .i64 a0_3, .int .i64 a0_4, .int .i64 a0_5, .int .i64 a0_6] 48 (0, 0)) (by exact BK159.out) hg (Kd.S_ne HO_8.out BK159.out (by decide))); have n2_ := Aside0.mk (blk_grown (g := gb174) (o := .cells #[.int .i32 t168, .int .u32 t169, .slice Ao30 t170.length co30] 117 (0, 0)) (by exact BK174.out) hg (Kd.S_away HO_8.out (fun _ hk => hk.2))); have n3_ := Aside0.mk (hb); have n4_ := Aside0.mk (ho); clear HO_11; clear BK159; clear BK174; clear HB; clear HO_8; clear HO172; have HO_11 := n0_; have BK159 := n1_; have BK174 := n2_; have HB := n3_; have HO177 := n4_; clear n0_ n1_ n2_ n3_ n4_; clear ho hb hg hat))
          go_roundg k2
          case measure => have := HK1.out; have := HK2.out; omega
          case rel => exact ⟨(y175), (wrap64 (x41_1 + 1)), (by first | rfl | (simp; done) | (simp [*]; done)), H', ⟨by have := HK1.out; have := HK2.out; omega⟩, ⟨by exact Kd.S_mono HO177.out (fun _ hk => trivial)⟩, ⟨by exact BK159.out⟩, ⟨by with_reducible exact HB.out⟩⟩
      ·
       rw [if_neg c14] at H
       have c14b0 : decide (x41_1 < a0_3) = false := decide_eq_false c14
       clear c14
       have H' := Aside0.mk H
       clear H
       go_wp2
       go_loopg [9, 72] k1 (fun kq v9 v72 w' => ∃ (x9_2 : List (S117)) (x72_2 : Int), v72 = .int .i64 x72_2 ∧ Aside0 (page_Quantize.l2 kq x8_1 x9_2 l2 (l2.length : Int) x72_2 a0_0 a0_1 a0_2 a0_3 a0_4 a0_5 a0_6 = some (r1, r2)) ∧ Aside0 (kq ≤ k1) ∧ Aside0 (Kd.S k117 117 w' w.heap.size (fun k_ => some k_ ≠ (v9 : Value).ownBlock) u8 x8_1) ∧ Aside0 (Kd.S k117 117 w' w.heap.size (fun k_ => some k_ ≠ (u8 : Value).ownBlock) v9 x9_2) ∧ Aside0 (w'.heap[gb159]? = some (.cells #[.int .i64 a0_0, .int .i64 a0_1, .int .i64 a0_2, .int .i64 a0_3, .int .i64 a0_4, .int .i64 a0_5, .int .i64 a0_6] 48 (0, 0))) ∧ Aside0 (Below w.heap.size w w'))
       case atStart => exact ⟨(([] : List (S117))), (0), (by first | rfl | (simp; done) | (simp [*]; done)), H', ⟨Nat.le_refl _⟩, ⟨by exact Kd.S_mono HO_8.out (fun _ hk => (by simp [Value.ownBlock]))⟩, ⟨by first | exact Kd.S_nil _ _ _ _ _ | exact Kd.N_nil _ _ _ _ _ | exact Kd.V_nil _ _ _ _ _ | exact Kd.Q_nil _ _ _ _ _ | exact Kd.R_nil _ _ _ _ _⟩, ⟨by exact BK159.out⟩, ⟨by with_reducible exact HB.out⟩⟩
       case round =>
        clear H'
        try clear c1
        try clear p1
        try clear q1
        try clear hx1
        try clear c2
        try clear p2
        try clear c4
        try clear c5
        try clear c6
        try clear p6
        try clear c7
        try clear c9
        try clear c14
        try clear c14b0
        try clear c15
        try clear c15b0
        try clear c16
        try clear c16b0
        try clear p16
        try clear q16
        try clear hx16
        try clear c17
        try clear c17b0
        try clear c18
        try clear c18b0
        try clear c19
        try clear c19b0
        try clear c20
        try clear c23
        try clear c28
        try clear hcz11_0
        try clear hcz11_1
        try clear hcz11_2
        try clear hcz11_3
        try clear hcz11_4
        try clear hcz11_5
        try clear hcz11_6
        try clear hcz13_0
        try clear hcz13_1
        try clear hcz13_2
        try clear hcz13_3
        try clear hcz13_4
        try clear hcz13_5
        try clear hcz13_6
        try clear hcz24_0
        try clear hcz24_1
        try clear hcz24_2
        try clear hcz24_3
        try clear hcz24_4
        try clear hcz24_5
        try clear hcz24_6
        try clear hcz29_0
        try clear hcz29_1
        try clear hcz29_2
        try clear hcz32_0
        try clear hcz32_1
        try clear hcz32_2
        try clear hfz11_0
        try clear hfz11_1
        try clear hfz11_2
        try clear hfz11_3
        try clear hfz11_4
        try clear hfz11_5
        try clear hfz11_6
        try clear hfz13_0
        try clear hfz13_1
        try clear hfz13_2
        try clear hfz13_3
        try clear hfz13_4
        try clear hfz13_5
        try clear hfz13_6
        try clear hfz24_0
        try clear hfz24_1
        try clear hfz24_2
        try clear hfz24_3
        try clear hfz24_4
        try clear hfz24_5
        try clear hfz24_6
        try clear hfz29_0
        try clear hfz29_1
        try clear hfz29_2
        try clear hfz32_0
        try clear hfz32_1
        try clear hfz32_2
        try clear hx163_0
        try clear hx164_0
        try clear p163
        try clear p164
        try clear p2
        try clear q163
        try clear q164
        obtain ⟨x9_2, x72_2, rfl, HA, HK2, HO_8, HO_9, BK159, HB⟩ := hrel
        cases gk with
        | zero => exact absurd HA.out (by simp [page_Quantize.l2])
        | succ k2 =>
         have H := HA.out
         clear HA
         simp only [page_Quantize.l2] at H
         by_cases c34 : x72_2 < (l2.length : Int)
         ·
          rw [if_pos c34] at H
          have c34b0 : decide (x72_2 < (l2.length : Int)) = true := decide_eq_true c34
          clear c34
          by_cases c35 : 0 ≤ x72_2
          case neg => (rw [if_neg c35] at H; exact absurd H (by simp))
          rw [if_pos c35] at H
          have c35b0 : decide (0 ≤ x72_2) = true := decide_eq_true c35
          clear c35
          by_cases c36 : x72_2 < (l2.length : Int)
          case neg => (rw [if_neg c36] at H; exact absurd H (by simp))
          rw [if_pos c36] at H
          have c36b0 : decide (x72_2 < (l2.length : Int)) = true := decide_eq_true c36
          clear c36
          replace H := Option.bind_eq_some_iff.mp H
          obtain ⟨⟨t179, t180, t181, t184⟩, A370, H⟩ := H
          replace H : (if x9_2.length < 4398046511104 then (page_Quantize.l2 k2 x8_1 (x9_2 ++ [(⟨t179, t180, t181⟩ : S117)]) l2 (l2.length : Int) (wrap64 (x72_2 + 1)) a0_0 a0_1 a0_2 a0_3 a0_4 a0_5 a0_6) else (none)) = some (r1, r2) := H
          have A37 := Aside0.mk A370
          clear A370
          by_cases c38 : x9_2.length < 4398046511104
          case neg => (rw [if_neg c38] at H; exact absurd H (by simp))
          rw [if_pos c38] at H
          have LMc38 := Aside0.mk c38
          clear c38
          obtain ⟨y186, hy186⟩ : ∃ y_ : List (S117), y_ = (x9_2 ++ [(⟨t179, t180, t181⟩ : S117)]) := ⟨_, rfl⟩
          replace H : (page_Quantize.l2 k2 x8_1 y186 l2 (l2.length : Int) (wrap64 (x72_2 + 1)) a0_0 a0_1 a0_2 a0_3 a0_4 a0_5 a0_6) = some (r1, r2) := by first | (rw [hy186]; with_reducible exact H) | (have H2_ := (Option.bind_some _ _).symm.trans H; rw [hy186]; with_reducible exact H2_) | (have H2_ := (Option.bind_some _ _).symm.trans H; with_reducible exact H2_) | with_reducible exact H | (rw [hy186]; exact H) | exact H
          have Ny186 := Aside0.mk hy186
          clear hy186
          have H' := Aside0.mk H
          clear H
          have p178 : 0 ≤ (x72_2 : Int) := of_decide_eq_true (by first | (with_reducible assumption) | assumption)
          have q178 : x72_2 < (l2.length : Int) := of_decide_eq_true (by first | (with_reducible assumption) | assumption)
          obtain ⟨ad178, A178_0, c178_0, e178, hx178_0, hl178_0, hi178_0⟩ := at_L11 HR2.out x72_2 p178 q178
          cases e178
          replace hx178_0 := (HB.out.cell (World.block_lt_of_cell? w _ hx178_0)).trans hx178_0
          have HR178_0 := Aside0.mk hi178_0
          have HC178_0 := Aside0.mk hl178_0
          clear hi178_0 hl178_0
          replace p178 := eq_true p178
          replace q178 := eq_true q178
          have hcz39_0 : wr.cell? ⟨gb159, 0, none⟩ = some (.int .i64 a0_0) := (blk_cell BK159.out 0).trans rfl
          have hcz39_1 : wr.cell? ⟨gb159, 1, none⟩ = some (.int .i64 a0_1) := (blk_cell BK159.out 1).trans rfl
          have hcz39_2 : wr.cell? ⟨gb159, 2, none⟩ = some (.int .i64 a0_2) := (blk_cell BK159.out 2).trans rfl
          have hcz39_3 : wr.cell? ⟨gb159, 3, none⟩ = some (.int .i64 a0_3) := (blk_cell BK159.out 3).trans rfl
          have hcz39_4 : wr.cell? ⟨gb159, 4, none⟩ = some (.int .i64 a0_4) := (blk_cell BK159.out 4).trans rfl
          have hcz39_5 : wr.cell? ⟨gb159, 5, none⟩ = some (.int .i64 a0_5) := (blk_cell BK159.out 5).trans rfl
          have hcz39_6 : wr.cell? ⟨gb159, 6, none⟩ = some (.int .i64 a0_6) := (blk_cell BK159.out 6).trans rfl
          have hfz39_0 := blk_frozen BK159.out 0
          have hfz39_1 := blk_frozen BK159.out 1
          have hfz39_2 := blk_frozen BK159.out 2
          have hfz39_3 := blk_frozen BK159.out 3
          have hfz39_4 := blk_frozen BK159.out 4
          have hfz39_5 := blk_frozen BK159.out 5
          have hfz39_6 := blk_frozen BK159.out 6
          go_wp2_with (first | ((with_reducible refine gate_callee (f := 62) rfl ?_); refine goesL_ (some 80) rfl rfl Try.func62 (by kernel_rfl) rfl #[.slice A178_0 (rd_L11 l2 x72_2).length c178_0, .int .i64 a0_1] rfl (by (try simp only [List.map_toArray, List.map_cons, List.map_nil]); first | done | rfl | (simp only [List.length_drop, List.length_take]; rfl)) ?_; (with_reducible refine (group_Of.calls k2 _ _ (rd_L11 l2 x72_2) a0_1 t179 t180 t181 t184 _ ?side1 ?side2 A37.out).mono ?_); (case side1 => repeat (first | exact (Kd.C_below HR178_0.out HB.out) | (with_reducible refine Kd.C_alloc ?_ _) | (with_reducible refine Kd.C_drewN ?_ _) | (with_reducible refine Kd.C_drew ?_))); (case side2 => exact HC178_0.out); rintro e w40 ⟨v182, rfl, ho0, hb⟩; refine ⟨_, rfl, ?_⟩; have n0_ := Aside0.mk (Kd.S_elder' (by exact HO_8.out) (Kd.R_base ho0) hb); have n1_ := Aside0.mk (Kd.S_elder' (by exact HO_9.out) (Kd.R_base ho0) hb); have n2_ := Aside0.mk (Kd.R_lower ho0 (below_size (by with_reducible exact HB.out))); have n3_ := Aside0.mk (blk_below (g := gb159) (o := .cells #[.int .i64 a0_0, .int .i64 a0_1, .int .i64 a0_2, .int .i64 a0_3, .int .i64 a0_4, .int .i64 a0_5, .int .i64 a0_6] 48 (0, 0)) (by exact BK159.out) hb); have n4_ := Aside0.mk (below_step (by with_reducible exact HB.out) hb); clear HO_8; clear HO_9; clear BK159; clear HB; have HO_8 := n0_; have HO_9 := n1_; have HO183 := n2_; have BK159 := n3_; have HB := n4_; clear n0_ n1_ n2_ n3_ n4_; (try clear hb); (try clear hb2); (try clear hk); (try clear hi); (try clear ho0)) | ((with_reducible refine gate_dst (N := 18) rfl ?_); refine box_event ?hg (N := 18) ?hd (cs := #[.int .i32 0, .int .u32 0, .slice none 0 0]) (t := 117) ?hr ?_; (case hd => rfl); (case hg => rfl); (case hr => first | (go_simp; done) | (go_simp; rfl)); intro gb185 hg w41 hbox hb; have n0_ := Aside0.mk (Kd.S_below (Kd.S_elderB (by exact HO_8.out) gb185 (Nat.le_of_eq hg.symm)) hb); have n1_ := Aside0.mk (Kd.S_below (Kd.S_elderB (by exact HO_9.out) gb185 (Nat.le_of_eq hg.symm)) hb); have n2_ := Aside0.mk (Kd.R_below (by exact HO183.out) hb); have n3_ := Aside0.mk (blk_below (g := gb159) (o := .cells #[.int .i64 a0_0, .int .i64 a0_1, .int .i64 a0_2, .int .i64 a0_3, .int .i64 a0_4, .int .i64 a0_5, .int .i64 a0_6] 48 (0, 0)) (by exact BK159.out) hb); have n4_ := Aside0.mk (below_step (by with_reducible exact HB.out) hb); have n5_ := Aside0.mk (hbox); have n6_ := Aside0.mk ((by rw [hg]; exact (below_size (by with_reducible exact HB.out)) : w.heap.size ≤ gb185)); have n7_ := Aside0.mk ((by rw [hg]; exact (below_size (by with_reducible exact HB.out)) : w.heap.size ≤ gb185)); have n8_ := Aside0.mk ((by rw [hg]; exact Nat.ne_of_lt (blk_lt (g := gb159) (o := .cells #[.int .i64 a0_0, .int .i64 a0_1, .int .i64 a0_2, .int .i64 a0_3, .int .i64 a0_4, .int .i64 a0_5, .int .i64 a0_6] 48 (0, 0)) (by exact BK159.out)) : gb159 ≠ gb185)); have n9_ := Aside0.mk ((by rw [hg]; exact Nat.ne_of_gt (blk_lt (g := gb159) (o := .cells #[.int .i64 a0_0, .int .i64 a0_1, .int .i64 a0_2, .int .i64 a0_3, .int .i64 a0_4, .int .i64 a0_5, .int .i64 a0_6] 48 (0, 0)) (by exact BK159.out)) : gb185 ≠ gb159)); clear HO_8; clear HO_9; clear HO183; clear BK159; clear HB; have HO_8 := n0_; have HO_9 := n1_; have HO183 := n2_; have BK159 := n3_; have HB := n4_; have BK185 := n5_; have GW185 := n6_; have GE185 := n7_; have NB159_185 := n8_; have NB185_159 := n9_; clear n0_ n1_ n2_ n3_ n4_ n5_ n6_ n7_ n8_ n9_; clear hb hbox hg; have hnb42 := NB185_159.out; have hnc42 := NB159_185.out; have hcz43_0 : w41.cell? ⟨gb185, 0, none⟩ = some (.int .i32 0) := (blk_cell BK185.out 0).trans rfl; have hcz43_1 : w41.cell? ⟨gb185, 1, none⟩ = some (.int .u32 0) := (blk_cell BK185.out 1).trans rfl; have hcz43_2 : w41.cell? ⟨gb185, 2, none⟩ = some (.slice none 0 0) := (blk_cell BK185.out 2).trans rfl; have hfz43_0 := blk_frozen BK185.out 0; have hfz43_1 := blk_frozen BK185.out 1; have hfz43_2 := blk_frozen BK185.out 2; obtain ⟨Ao44, co44, eo44⟩ := Kd.R_slice HO183.out; subst eo44) | ((with_reducible refine gate_store (t := 117) (p := 18) rfl ?_); refine store_event (t := 117) (p := 18) (v := ?vo_w45) (w1 := (((w41.setCell ⟨gb185, 0, none⟩ (.int .i32 t179)).setCell ⟨gb185, 1, none⟩ (.int .u32 t180)).setCell ⟨gb185, 2, none⟩ (.slice Ao44 t181.length co44))) ?hg ?ho ?hn ?hr ?_; (case ho => rfl); (case hg => rfl); (case hn => rfl); (case hr => first | (go_simp; done) | (go_simp; rfl)); intro w45 hw; have n0_ : Aside0 (Kd.S k117 117 w45 w.heap.size (fun k_ => some k_ ≠ (u9 : Value).ownBlock ∧ some k_ ≠ (.slice Ao44 t181.length co44 : Value).ownBlock ∧ k_ ≠ gb185) u8 x8_1) := ⟨(by rw [hw]; exact (by (with_reducible repeat (first | apply Kd.S_alloc | apply Kd.S_drewN | apply Kd.S_drew)); exact Kd.S_mono (Kd.S_far (p := ⟨gb185, 2, none⟩) (Kd.S_far (p := ⟨gb185, 1, none⟩) (Kd.S_far (p := ⟨gb185, 0, none⟩) (Kd.S_mono HO_8.out (fun k_ hk => (⟨hk, hk.2⟩ : _ ∧ k_ ≠ gb185))) (fun _ hk => hk.2) (.int .i32 t179)) (fun _ hk => hk.2) (.int .u32 t180)) (fun _ hk => hk.2) (.slice Ao44 t181.length co44)) (fun _ hk => ⟨hk.1.1.1, ⟨hk.1.1.2, hk.1.2⟩⟩)))⟩; have n1_ : Aside0 (Kd.S k117 117 w45 w.heap.size (fun k_ => some k_ ≠ (u8 : Value).ownBlock ∧ some k_ ≠ (.slice Ao44 t181.length co44 : Value).ownBlock ∧ k_ ≠ gb185) u9 x9_2) := ⟨(by rw [hw]; exact (by (with_reducible repeat (first | apply Kd.S_alloc | apply Kd.S_drewN | apply Kd.S_drew)); exact Kd.S_mono (Kd.S_far (p := ⟨gb185, 2, none⟩) (Kd.S_far (p := ⟨gb185, 1, none⟩) (Kd.S_far (p := ⟨gb185, 0, none⟩) (Kd.S_mono HO_9.out (fun k_ hk => (⟨hk, hk.2⟩ : _ ∧ k_ ≠ gb185))) (fun _ hk => hk.2) (.int .i32 t179)) (fun _ hk => hk.2) (.int .u32 t180)) (fun _ hk => hk.2) (.slice Ao44 t181.length co44)) (fun _ hk => ⟨hk.1.1.1, ⟨hk.1.1.2, hk.1.2⟩⟩)))⟩; have n2_ : Aside0 (Kd.R (Kd.int .i64) 3 w45 w.heap.size (fun _ => True) (.slice Ao44 t181.length co44) t181) := ⟨(by rw [hw]; exact (by (with_reducible repeat (first | apply Kd.R_alloc | apply Kd.R_drewN | apply Kd.R_drew)); exact Kd.R_mono (Kd.R_far (p := ⟨gb185, 2, none⟩) (Kd.R_far (p := ⟨gb185, 1, none⟩) (Kd.R_far (p := ⟨gb185, 0, none⟩) (Kd.R_types HO183.out BK185.out (by decide)) (fun _ hk => hk.2) (.int .i32 t179)) (fun _ hk => hk.2) (.int .u32 t180)) (fun _ hk => hk.2) (.slice Ao44 t181.length co44)) (fun _ hk => trivial)))⟩; have n3_ : Aside0 (w45.heap[gb159]? = some (.cells #[.int .i64 a0_0, .int .i64 a0_1, .int .i64 a0_2, .int .i64 a0_3, .int .i64 a0_4, .int .i64 a0_5, .int .i64 a0_6] 48 (0, 0))) := ⟨(by rw [hw]; exact (by (with_reducible repeat (first | refine blk_drewN ?_ _ | refine blk_drew ?_ | refine blk_alloc ?_ _)); refine blk_far ?_ NB159_185.out _; (with_reducible repeat (first | refine blk_drewN ?_ _ | refine blk_drew ?_ | refine blk_alloc ?_ _)); refine blk_far ?_ NB159_185.out _; (with_reducible repeat (first | refine blk_drewN ?_ _ | refine blk_drew ?_ | refine blk_alloc ?_ _)); refine blk_far ?_ NB159_185.out _; (with_reducible repeat (first | refine blk_drewN ?_ _ | refine blk_drew ?_ | refine blk_alloc ?_ _)); exact BK159.out))⟩; have n4_ : Aside0 (w45.heap[gb185]? = some (.cells #[.int .i32 t179, .int .u32 t180, .slice Ao44 t181.length co44] 117 (0, 0))) := ⟨(by rw [hw]; exact (by (with_reducible repeat (first | refine blk_drewN ?_ _ | refine blk_drew ?_ | refine blk_alloc ?_ _)); refine blk_put (cs := #[.int .i32 t179, .int .u32 t180, .slice none 0 0]) ?_ 2 _ rfl; (with_reducible repeat (first | refine blk_drewN ?_ _ | refine blk_drew ?_ | refine blk_alloc ?_ _)); refine blk_put (cs := #[.int .i32 t179, .int .u32 0, .slice none 0 0]) ?_ 1 _ rfl; (with_reducible repeat (first | refine blk_drewN ?_ _ | refine blk_drew ?_ | refine blk_alloc ?_ _)); refine blk_put (cs := #[.int .i32 0, .int .u32 0, .slice none 0 0]) ?_ 0 _ rfl; (with_reducible repeat (first | refine blk_drewN ?_ _ | refine blk_drew ?_ | refine blk_alloc ?_ _)); exact BK185.out))⟩; have n5_ : Aside0 (Below w.heap.size w w45) := ⟨(by rw [hw]; exact (by repeat (first | (with_reducible first | exact HB.out | apply below_alloc | apply pw_below_drewN | apply below_drew1 | refine below_set ?_ GE159.out | refine below_set ?_ GE185.out) | exact HB.out)))⟩; clear hw; clear HO_8; clear HO_9; clear HO183; clear BK159; clear BK185; clear HB; have HO_8 := n0_; have HO_9 := n1_; have HO183 := n2_; have BK159 := n3_; have BK185 := n4_; have HB := n5_; clear n0_ n1_ n2_ n3_ n4_ n5_; have hcz46_0 : w45.cell? ⟨gb185, 0, none⟩ = some (.int .i32 t179) := (blk_cell BK185.out 0).trans rfl; have hcz46_1 : w45.cell? ⟨gb185, 1, none⟩ = some (.int .u32 t180) := (blk_cell BK185.out 1).trans rfl; have hcz46_2 : w45.cell? ⟨gb185, 2, none⟩ = some (.slice Ao44 t181.length co44) := (blk_cell BK185.out 2).trans rfl; have hfz46_0 := blk_frozen BK185.out 0; have hfz46_1 := blk_frozen BK185.out 1; have hfz46_2 := blk_frozen BK185.out 2) | ((with_reducible refine gate_builtin (b := .append) (xs := #[.tmp 83, .tmp 85]) rfl ?_); at_builtin; refine Kd.S_append k117 (w0 := w) w.heap.size rfl (.tmp 83) (.tmp 85) 114 117 (.agg #[(.int .i32 0), (.int .u32 0), (.slice none 0 0)]) 32 rfl Try.underlying114 info117 rfl (by decide) (by omega) u9 x9_2 (⟨t179, t180, t181⟩ : S117) [.int .i32 t179, .int .u32 t180, .slice Ao44 t181.length co44] (fun k_ => some k_ ≠ (u8 : Value).ownBlock ∧ k_ ≠ gb185) (fun k_ => some k_ = (.slice Ao44 t181.length co44 : Value).ownBlock) rfl rfl ?aP (fun k_ hk_ => ((Kd.R_mono (ok' := fun k_ => ((fun k_ => some k_ ≠ (u8 : Value).ownBlock ∧ k_ ≠ gb185)) k_ ∧ some k_ ≠ (u9 : Value).ownBlock) (Kd.R_types (Kd.R_apart' (Kd.R_apart' (HO183.out) (Kd.S_typed HO_8.out) (by decide)) (Kd.S_typed HO_9.out) (by decide)) BK185.out (by decide)) (fun k_ hk => ⟨⟨hk.1.1.2, hk.2⟩, hk.1.2⟩))).1 k_ hk_.symm) ?aF ?aO ?aB ?aS ?aL ?_; (case aP => exact k117_mkM _ _ _ (⟨t179, t180, t181⟩ : S117) (Kd.R_mono (Kd.R_tight rfl (Kd.R_mono (ok' := fun k_ => ((fun k_ => some k_ ≠ (u8 : Value).ownBlock ∧ k_ ≠ gb185)) k_ ∧ some k_ ≠ (u9 : Value).ownBlock) (Kd.R_types (Kd.R_apart' (Kd.R_apart' (HO183.out) (Kd.S_typed HO_8.out) (by decide)) (Kd.S_typed HO_9.out) (by decide)) BK185.out (by decide)) (fun k_ hk => ⟨⟨hk.1.1.2, hk.2⟩, hk.1.2⟩))) (fun _ h_ => h_))); (case aB => exact (by with_reducible exact HB.out)); (case aF => exact (fun k_ hk => ⟨Kd.fresh' (Kd.S_lt (by exact HO_8.out)) k_ hk, Kd.freshB (g := gb185) (o := .cells #[.int .i32 t179, .int .u32 t180, .slice Ao44 t181.length co44] 117 (0, 0)) (by exact BK185.out) k_ hk⟩)); (case aO => exact (by (with_reducible repeat (first | apply Kd.S_alloc | apply Kd.S_drewN | apply Kd.S_drew)); exact Kd.S_mono HO_9.out (fun k_ hk => ⟨⟨hk.1, hk.2.2⟩, fun e_ => hk.2.1 e_⟩))); (case aS => exact (below_size (by with_reducible exact HB.out))); (case aL => have := LMc38.out; omega); intro v187 w47 ho hb hg hat; rw [← Ny186.out] at ho; have n0_ := Aside0.mk (Kd.S_after (ok := (fun k_ => some k_ ≠ (.slice Ao44 t181.length co44 : Value).ownBlock ∧ k_ ≠ gb185)) (by exact Kd.S_mono HO_8.out (fun _ hk => ⟨⟨hk.2.1, hk.2.2⟩, hk.1⟩)) hg hat); have n1_ := Aside0.mk (blk_grown (g := gb159) (o := .cells #[.int .i64 a0_0, .int .i64 a0_1, .int .i64 a0_2, .int .i64 a0_3, .int .i64 a0_4, .int .i64 a0_5, .int .i64 a0_6] 48 (0, 0)) (by exact BK159.out) hg (Kd.S_ne HO_9.out BK159.out (by decide))); have n2_ := Aside0.mk (blk_grown (g := gb185) (o := .cells #[.int .i32 t179, .int .u32 t180, .slice Ao44 t181.length co44] 117 (0, 0)) (by exact BK185.out) hg (Kd.S_away HO_9.out (fun _ hk => hk.2.2))); have n3_ := Aside0.mk (hb); have n4_ := Aside0.mk (ho); clear HO_8; clear BK159; clear BK185; clear HB; clear HO_9; clear HO183; have HO_8 := n0_; have BK159 := n1_; have BK185 := n2_; have HB := n3_; have HO188 := n4_; clear n0_ n1_ n2_ n3_ n4_; clear ho hb hg hat))
          go_roundg k2
          case measure => have := HK1.out; have := HK2.out; omega
          case rel => exact ⟨(y186), (wrap64 (x72_2 + 1)), (by first | rfl | (simp; done) | (simp [*]; done)), H', ⟨by have := HK1.out; have := HK2.out; omega⟩, ⟨by exact Kd.S_mono HO_8.out (fun _ hk => hk.2)⟩, ⟨by exact Kd.S_mono HO188.out (fun _ hk => hk.1)⟩, ⟨by exact BK159.out⟩, ⟨by with_reducible exact HB.out⟩⟩
         ·
          rw [if_neg c34] at H
          have c34b0 : decide (x72_2 < (l2.length : Int)) = false := decide_eq_false c34
          clear c34
          replace H := Option.bind_eq_some_iff.mp H
          obtain ⟨⟨t189, t192⟩, A480, H⟩ := H
          replace H : (some (t189, t192)) = some (r1, r2) := H
          have A48 := Aside0.mk A480
          clear A480
          simp only [Option.some.injEq, Prod.mk.injEq] at H
          obtain ⟨rfl, rfl⟩ := H
          have hcz49_0 : wr.cell? ⟨gb159, 0, none⟩ = some (.int .i64 a0_0) := (blk_cell BK159.out 0).trans rfl
          have hcz49_1 : wr.cell? ⟨gb159, 1, none⟩ = some (.int .i64 a0_1) := (blk_cell BK159.out 1).trans rfl
          have hcz49_2 : wr.cell? ⟨gb159, 2, none⟩ = some (.int .i64 a0_2) := (blk_cell BK159.out 2).trans rfl
          have hcz49_3 : wr.cell? ⟨gb159, 3, none⟩ = some (.int .i64 a0_3) := (blk_cell BK159.out 3).trans rfl
          have hcz49_4 : wr.cell? ⟨gb159, 4, none⟩ = some (.int .i64 a0_4) := (blk_cell BK159.out 4).trans rfl
          have hcz49_5 : wr.cell? ⟨gb159, 5, none⟩ = some (.int .i64 a0_5) := (blk_cell BK159.out 5).trans rfl
          have hcz49_6 : wr.cell? ⟨gb159, 6, none⟩ = some (.int .i64 a0_6) := (blk_cell BK159.out 6).trans rfl
          have hfz49_0 := blk_frozen BK159.out 0
          have hfz49_1 := blk_frozen BK159.out 1
          have hfz49_2 := blk_frozen BK159.out 2
          have hfz49_3 := blk_frozen BK159.out 3
          have hfz49_4 := blk_frozen BK159.out 4
          have hfz49_5 := blk_frozen BK159.out 5
          have hfz49_6 := blk_frozen BK159.out 6
          obtain ⟨Ao50, co50, eo50⟩ := Kd.S_slice HO_8.out
          subst eo50
          obtain ⟨Ao51, co51, eo51⟩ := Kd.S_slice HO_9.out
          subst eo51
          go_wp2_with (first | ((with_reducible refine gate_callee (f := 63) rfl ?_); refine goesL_ (some 91) rfl rfl Try.func63 (by kernel_rfl) rfl #[.agg #[.int .i64 a0_0, .int .i64 a0_1, .int .i64 a0_2, .int .i64 a0_3, .int .i64 a0_4, .int .i64 a0_5, .int .i64 a0_6], .slice Ao50 x8_1.length co50, .slice Ao51 x9_2.length co51] rfl (by (try simp only [List.map_toArray, List.map_cons, List.map_nil]); first | done | rfl | (simp only [List.length_drop, List.length_take]; rfl)) ?_; (with_reducible refine (page_New.calls k2 a0_0 a0_1 a0_2 a0_3 a0_4 a0_5 a0_6 _ _ x8_1 _ _ x9_2 t189 t192 _ ?side1 ?side2 ?side3 ?side4 A48.out).mono ?_); (case side1 => repeat (first | exact (Kd.S_reads' HO_8.out).2.2 | (with_reducible refine Kd.C_alloc ?_ _) | (with_reducible refine Kd.C_drewN ?_ _) | (with_reducible refine Kd.C_drew ?_))); (case side2 => exact (Kd.S_reads' HO_8.out).2.1); (case side3 => repeat (first | exact (Kd.S_reads' HO_9.out).2.2 | (with_reducible refine Kd.C_alloc ?_ _) | (with_reducible refine Kd.C_drewN ?_ _) | (with_reducible refine Kd.C_drew ?_))); (case side4 => exact (Kd.S_reads' HO_9.out).2.1); rintro e w52 ⟨v190, rfl, ho0, hb⟩; refine ⟨_, rfl, ?_⟩; have n0_ := Aside0.mk (Kd.S_below (by exact HO_8.out) hb); have n1_ := Aside0.mk (Kd.S_below (by exact HO_9.out) hb); have n2_ := Aside0.mk (Kd.R_lower ho0 (below_size (by with_reducible exact HB.out))); have n3_ := Aside0.mk (blk_below (g := gb159) (o := .cells #[.int .i64 a0_0, .int .i64 a0_1, .int .i64 a0_2, .int .i64 a0_3, .int .i64 a0_4, .int .i64 a0_5, .int .i64 a0_6] 48 (0, 0)) (by exact BK159.out) hb); have n4_ := Aside0.mk (below_step (by with_reducible exact HB.out) hb); clear HO_8; clear HO_9; clear BK159; clear HB; have HO_8 := n0_; have HO_9 := n1_; have HO191 := n2_; have BK159 := n3_; have HB := n4_; clear n0_ n1_ n2_ n3_ n4_; (try clear hb); (try clear hb2); (try clear hk); (try clear hi); (try clear ho0)))
          go_ret2
          exact ⟨_, by first | rfl | (simp [errW_none, errW_some] <;> rfl) | (simp [*, errW_none, errW_some] <;> rfl), by exact HO191.out, by with_reducible exact HB.out⟩
   ·
    replace c9 := Bool.eq_false_iff.mpr c9
    subst c9
    have H1 : (some (([] : List (S96)), 25)) = some (r1, r2) := by rw [if_neg (show ¬ (false = true) by decide)] at H; exact H
    clear H
    have H := H1
    clear H1
    simp only [Option.some.injEq, Prod.mk.injEq] at H
    obtain ⟨rfl, rfl⟩ := H
    go_enter Try.func48, Try.ntmps48
    go_wp2_with (first | ((with_reducible refine gate_dst (N := 3) rfl ?_); refine box_event ?hg (N := 3) ?hd (cs := #[.int .i64 a0_0, .int .i64 a0_1, .int .i64 a0_2, .int .i64 a0_3, .int .i64 a0_4, .int .i64 a0_5, .int .i64 a0_6]) (t := 48) ?hr ?_; (case hd => rfl); (case hg => rfl); (case hr => first | (go_simp; done) | (go_simp; rfl)); intro gb159 hg w53 hbox hb; have n0_ := Aside0.mk (below_step (by with_reducible exact HB.out) hb); have n1_ := Aside0.mk (hbox); have n2_ := Aside0.mk ((by rw [hg]; exact (below_size (by with_reducible exact HB.out)) : w.heap.size ≤ gb159)); have n3_ := Aside0.mk ((by rw [hg]; exact (below_size (by with_reducible exact HB.out)) : w.heap.size ≤ gb159)); clear HB; have HB := n0_; have BK159 := n1_; have GW159 := n2_; have GE159 := n3_; clear n0_ n1_ n2_ n3_; clear hb hbox hg; have hcz54_0 : w53.cell? ⟨gb159, 0, none⟩ = some (.int .i64 a0_0) := (blk_cell BK159.out 0).trans rfl; have hcz54_1 : w53.cell? ⟨gb159, 1, none⟩ = some (.int .i64 a0_1) := (blk_cell BK159.out 1).trans rfl; have hcz54_2 : w53.cell? ⟨gb159, 2, none⟩ = some (.int .i64 a0_2) := (blk_cell BK159.out 2).trans rfl; have hcz54_3 : w53.cell? ⟨gb159, 3, none⟩ = some (.int .i64 a0_3) := (blk_cell BK159.out 3).trans rfl; have hcz54_4 : w53.cell? ⟨gb159, 4, none⟩ = some (.int .i64 a0_4) := (blk_cell BK159.out 4).trans rfl; have hcz54_5 : w53.cell? ⟨gb159, 5, none⟩ = some (.int .i64 a0_5) := (blk_cell BK159.out 5).trans rfl; have hcz54_6 : w53.cell? ⟨gb159, 6, none⟩ = some (.int .i64 a0_6) := (blk_cell BK159.out 6).trans rfl; have hfz54_0 := blk_frozen BK159.out 0; have hfz54_1 := blk_frozen BK159.out 1; have hfz54_2 := blk_frozen BK159.out 2; have hfz54_3 := blk_frozen BK159.out 3; have hfz54_4 := blk_frozen BK159.out 4; have hfz54_5 := blk_frozen BK159.out 5; have hfz54_6 := blk_frozen BK159.out 6) | ((with_reducible refine gate_callee (f := 60) rfl ?_); refine goesL_ (some 22) rfl rfl Try.func60 (by kernel_rfl) rfl #[.agg #[.int .i64 a0_0, .int .i64 a0_1, .int .i64 a0_2, .int .i64 a0_3, .int .i64 a0_4, .int .i64 a0_5, .int .i64 a0_6]] rfl (by (try simp only [List.map_toArray, List.map_cons, List.map_nil]); first | done | rfl | (simp only [List.length_drop, List.length_take]; rfl)) ?_; (with_reducible refine (page_Right.calls a0_0 a0_1 a0_2 a0_3 a0_4 a0_5 a0_6 true _ A4.out).mono ?_); rintro e w55 ⟨rfl, hb⟩; refine ⟨_, rfl, ?_⟩; have n0_ := Aside0.mk (blk_below (g := gb159) (o := .cells #[.int .i64 a0_0, .int .i64 a0_1, .int .i64 a0_2, .int .i64 a0_3, .int .i64 a0_4, .int .i64 a0_5, .int .i64 a0_6] 48 (0, 0)) (by exact BK159.out) hb); have n1_ := Aside0.mk (below_step (by with_reducible exact HB.out) hb); clear BK159; clear HB; have BK159 := n0_; have HB := n1_; clear n0_ n1_; (try clear hb); (try clear hb2); (try clear hk); (try clear hi); have hcz56_0 : w55.cell? ⟨gb159, 0, none⟩ = some (.int .i64 a0_0) := (blk_cell BK159.out 0).trans rfl; have hcz56_1 : w55.cell? ⟨gb159, 1, none⟩ = some (.int .i64 a0_1) := (blk_cell BK159.out 1).trans rfl; have hcz56_2 : w55.cell? ⟨gb159, 2, none⟩ = some (.int .i64 a0_2) := (blk_cell BK159.out 2).trans rfl; have hcz56_3 : w55.cell? ⟨gb159, 3, none⟩ = some (.int .i64 a0_3) := (blk_cell BK159.out 3).trans rfl; have hcz56_4 : w55.cell? ⟨gb159, 4, none⟩ = some (.int .i64 a0_4) := (blk_cell BK159.out 4).trans rfl; have hcz56_5 : w55.cell? ⟨gb159, 5, none⟩ = some (.int .i64 a0_5) := (blk_cell BK159.out 5).trans rfl; have hcz56_6 : w55.cell? ⟨gb159, 6, none⟩ = some (.int .i64 a0_6) := (blk_cell BK159.out 6).trans rfl; have hfz56_0 := blk_frozen BK159.out 0; have hfz56_1 := blk_frozen BK159.out 1; have hfz56_2 := blk_frozen BK159.out 2; have hfz56_3 := blk_frozen BK159.out 3; have hfz56_4 := blk_frozen BK159.out 4; have hfz56_5 := blk_frozen BK159.out 5; have hfz56_6 := blk_frozen BK159.out 6) | ((with_reducible refine gate_callee (f := 61) rfl ?_); refine goesL_ (some 30) rfl rfl Try.func61 (by kernel_rfl) rfl #[.slice A1 l1.length c1, .int .i64 a0_2, .int .i64 a0_3] rfl (by (try simp only [List.map_toArray, List.map_cons, List.map_nil]); first | done | rfl | (simp only [List.length_drop, List.length_take]; rfl)) ?_; (with_reducible refine (page_numbers.calls k _ _ l1 a0_2 a0_3 true _ ?side1 ?side2 A6.out).mono ?_); (case side1 => repeat (first | exact (Kd.C_below HR1.out HB.out) | (with_reducible refine Kd.C_alloc ?_ _) | (with_reducible refine Kd.C_drewN ?_ _) | (with_reducible refine Kd.C_drew ?_))); (case side2 => exact HC1.out); rintro e w' ⟨rfl, ⟨nd, rfl⟩⟩; refine ⟨_, rfl, ?_⟩) | ((with_reducible refine gate_callee (f := 61) rfl ?_); refine goesL_ (some 37) rfl rfl Try.func61 (by kernel_rfl) rfl #[.slice A2 l2.length c2, .int .i64 a0_2, .int .i64 a0_3] rfl (by (try simp only [List.map_toArray, List.map_cons, List.map_nil]); first | done | rfl | (simp only [List.length_drop, List.length_take]; rfl)) ?_; (with_reducible refine (page_numbers.calls k _ _ l2 a0_2 a0_3 false _ ?side1 ?side2 A8.out).mono ?_); (case side1 => repeat (first | exact (Kd.C_below HR2.out (by repeat (first | (with_reducible first | exact HB.out | apply below_alloc | apply pw_below_drewN | apply below_drew1 | refine below_set ?_ GE159.out) | exact HB.out))) | (with_reducible refine Kd.C_alloc ?_ _) | (with_reducible refine Kd.C_drewN ?_ _) | (with_reducible refine Kd.C_drew ?_))); (case side2 => exact HC2.out); rintro e w' ⟨rfl, ⟨nd, rfl⟩⟩; refine ⟨_, rfl, ?_⟩))
    go_ret2
    exact ⟨(.slice none 0 0 : Value), by first | rfl | (simp [errW_none, errW_some] <;> rfl) | (simp [*, errW_none, errW_some] <;> rfl), by first | exact Kd.R_nil _ _ _ _ _ | exact Kd.N_nil _ _ _ _ _ | exact Kd.V_nil _ _ _ _ _ | exact Kd.Q_nil _ _ _ _ _ | exact Kd.S_nil _ _ _ _ _, by repeat (first | (with_reducible first | exact HB.out | apply below_alloc | apply pw_below_drewN | apply below_drew1 | refine below_set ?_ GE159.out) | exact HB.out)⟩
  ·
   replace c7 := Bool.eq_false_iff.mpr c7
   subst c7
   have H1 : (some (([] : List (S96)), 25)) = some (r1, r2) := by rw [if_neg (show ¬ (false = true) by decide)] at H; exact H
   clear H
   have H := H1
   clear H1
   simp only [Option.some.injEq, Prod.mk.injEq] at H
   obtain ⟨rfl, rfl⟩ := H
   go_enter Try.func48, Try.ntmps48
   go_wp2_with (first | ((with_reducible refine gate_dst (N := 3) rfl ?_); refine box_event ?hg (N := 3) ?hd (cs := #[.int .i64 a0_0, .int .i64 a0_1, .int .i64 a0_2, .int .i64 a0_3, .int .i64 a0_4, .int .i64 a0_5, .int .i64 a0_6]) (t := 48) ?hr ?_; (case hd => rfl); (case hg => rfl); (case hr => first | (go_simp; done) | (go_simp; rfl)); intro gb159 hg w57 hbox hb; have n0_ := Aside0.mk (below_step (by with_reducible exact HB.out) hb); have n1_ := Aside0.mk (hbox); have n2_ := Aside0.mk ((by rw [hg]; exact (below_size (by with_reducible exact HB.out)) : w.heap.size ≤ gb159)); have n3_ := Aside0.mk ((by rw [hg]; exact (below_size (by with_reducible exact HB.out)) : w.heap.size ≤ gb159)); clear HB; have HB := n0_; have BK159 := n1_; have GW159 := n2_; have GE159 := n3_; clear n0_ n1_ n2_ n3_; clear hb hbox hg; have hcz58_0 : w57.cell? ⟨gb159, 0, none⟩ = some (.int .i64 a0_0) := (blk_cell BK159.out 0).trans rfl; have hcz58_1 : w57.cell? ⟨gb159, 1, none⟩ = some (.int .i64 a0_1) := (blk_cell BK159.out 1).trans rfl; have hcz58_2 : w57.cell? ⟨gb159, 2, none⟩ = some (.int .i64 a0_2) := (blk_cell BK159.out 2).trans rfl; have hcz58_3 : w57.cell? ⟨gb159, 3, none⟩ = some (.int .i64 a0_3) := (blk_cell BK159.out 3).trans rfl; have hcz58_4 : w57.cell? ⟨gb159, 4, none⟩ = some (.int .i64 a0_4) := (blk_cell BK159.out 4).trans rfl; have hcz58_5 : w57.cell? ⟨gb159, 5, none⟩ = some (.int .i64 a0_5) := (blk_cell BK159.out 5).trans rfl; have hcz58_6 : w57.cell? ⟨gb159, 6, none⟩ = some (.int .i64 a0_6) := (blk_cell BK159.out 6).trans rfl; have hfz58_0 := blk_frozen BK159.out 0; have hfz58_1 := blk_frozen BK159.out 1; have hfz58_2 := blk_frozen BK159.out 2; have hfz58_3 := blk_frozen BK159.out 3; have hfz58_4 := blk_frozen BK159.out 4; have hfz58_5 := blk_frozen BK159.out 5; have hfz58_6 := blk_frozen BK159.out 6) | ((with_reducible refine gate_callee (f := 60) rfl ?_); refine goesL_ (some 22) rfl rfl Try.func60 (by kernel_rfl) rfl #[.agg #[.int .i64 a0_0, .int .i64 a0_1, .int .i64 a0_2, .int .i64 a0_3, .int .i64 a0_4, .int .i64 a0_5, .int .i64 a0_6]] rfl (by (try simp only [List.map_toArray, List.map_cons, List.map_nil]); first | done | rfl | (simp only [List.length_drop, List.length_take]; rfl)) ?_; (with_reducible refine (page_Right.calls a0_0 a0_1 a0_2 a0_3 a0_4 a0_5 a0_6 true _ A4.out).mono ?_); rintro e w59 ⟨rfl, hb⟩; refine ⟨_, rfl, ?_⟩; have n0_ := Aside0.mk (blk_below (g := gb159) (o := .cells #[.int .i64 a0_0, .int .i64 a0_1, .int .i64 a0_2, .int .i64 a0_3, .int .i64 a0_4, .int .i64 a0_5, .int .i64 a0_6] 48 (0, 0)) (by exact BK159.out) hb); have n1_ := Aside0.mk (below_step (by with_reducible exact HB.out) hb); clear BK159; clear HB; have BK159 := n0_; have HB := n1_; clear n0_ n1_; (try clear hb); (try clear hb2); (try clear hk); (try clear hi); have hcz60_0 : w59.cell? ⟨gb159, 0, none⟩ = some (.int .i64 a0_0) := (blk_cell BK159.out 0).trans rfl; have hcz60_1 : w59.cell? ⟨gb159, 1, none⟩ = some (.int .i64 a0_1) := (blk_cell BK159.out 1).trans rfl; have hcz60_2 : w59.cell? ⟨gb159, 2, none⟩ = some (.int .i64 a0_2) := (blk_cell BK159.out 2).trans rfl; have hcz60_3 : w59.cell? ⟨gb159, 3, none⟩ = some (.int .i64 a0_3) := (blk_cell BK159.out 3).trans rfl; have hcz60_4 : w59.cell? ⟨gb159, 4, none⟩ = some (.int .i64 a0_4) := (blk_cell BK159.out 4).trans rfl; have hcz60_5 : w59.cell? ⟨gb159, 5, none⟩ = some (.int .i64 a0_5) := (blk_cell BK159.out 5).trans rfl; have hcz60_6 : w59.cell? ⟨gb159, 6, none⟩ = some (.int .i64 a0_6) := (blk_cell BK159.out 6).trans rfl; have hfz60_0 := blk_frozen BK159.out 0; have hfz60_1 := blk_frozen BK159.out 1; have hfz60_2 := blk_frozen BK159.out 2; have hfz60_3 := blk_frozen BK159.out 3; have hfz60_4 := blk_frozen BK159.out 4; have hfz60_5 := blk_frozen BK159.out 5; have hfz60_6 := blk_frozen BK159.out 6) | ((with_reducible refine gate_callee (f := 61) rfl ?_); refine goesL_ (some 30) rfl rfl Try.func61 (by kernel_rfl) rfl #[.slice A1 l1.length c1, .int .i64 a0_2, .int .i64 a0_3] rfl (by (try simp only [List.map_toArray, List.map_cons, List.map_nil]); first | done | rfl | (simp only [List.length_drop, List.length_take]; rfl)) ?_; (with_reducible refine (page_numbers.calls k _ _ l1 a0_2 a0_3 false _ ?side1 ?side2 A6.out).mono ?_); (case side1 => repeat (first | exact (Kd.C_below HR1.out HB.out) | (with_reducible refine Kd.C_alloc ?_ _) | (with_reducible refine Kd.C_drewN ?_ _) | (with_reducible refine Kd.C_drew ?_))); (case side2 => exact HC1.out); rintro e w' ⟨rfl, ⟨nd, rfl⟩⟩; refine ⟨_, rfl, ?_⟩))
   go_ret2
   exact ⟨(.slice none 0 0 : Value), by first | rfl | (simp [errW_none, errW_some] <;> rfl) | (simp [*, errW_none, errW_some] <;> rfl), by first | exact Kd.R_nil _ _ _ _ _ | exact Kd.N_nil _ _ _ _ _ | exact Kd.V_nil _ _ _ _ _ | exact Kd.Q_nil _ _ _ _ _ | exact Kd.S_nil _ _ _ _ _, by repeat (first | (with_reducible first | exact HB.out | apply below_alloc | apply pw_below_drewN | apply below_drew1 | refine below_set ?_ GE159.out) | exact HB.out)⟩
 ·
  replace c5 := Bool.eq_false_iff.mpr c5
  subst c5
  have H1 : (some (([] : List (S96)), 11)) = some (r1, r2) := by rw [if_neg (show ¬ (false = true) by decide)] at H; exact H
  clear H
  have H := H1
  clear H1
  simp only [Option.some.injEq, Prod.mk.injEq] at H
  obtain ⟨rfl, rfl⟩ := H
  go_enter Try.func48, Try.ntmps48
  go_wp2_with (first | ((with_reducible refine gate_dst (N := 3) rfl ?_); refine box_event ?hg (N := 3) ?hd (cs := #[.int .i64 a0_0, .int .i64 a0_1, .int .i64 a0_2, .int .i64 a0_3, .int .i64 a0_4, .int .i64 a0_5, .int .i64 a0_6]) (t := 48) ?hr ?_; (case hd => rfl); (case hg => rfl); (case hr => first | (go_simp; done) | (go_simp; rfl)); intro gb159 hg w61 hbox hb; have n0_ := Aside0.mk (below_step (by with_reducible exact HB.out) hb); have n1_ := Aside0.mk (hbox); have n2_ := Aside0.mk ((by rw [hg]; exact (below_size (by with_reducible exact HB.out)) : w.heap.size ≤ gb159)); have n3_ := Aside0.mk ((by rw [hg]; exact (below_size (by with_reducible exact HB.out)) : w.heap.size ≤ gb159)); clear HB; have HB := n0_; have BK159 := n1_; have GW159 := n2_; have GE159 := n3_; clear n0_ n1_ n2_ n3_; clear hb hbox hg; have hcz62_0 : w61.cell? ⟨gb159, 0, none⟩ = some (.int .i64 a0_0) := (blk_cell BK159.out 0).trans rfl; have hcz62_1 : w61.cell? ⟨gb159, 1, none⟩ = some (.int .i64 a0_1) := (blk_cell BK159.out 1).trans rfl; have hcz62_2 : w61.cell? ⟨gb159, 2, none⟩ = some (.int .i64 a0_2) := (blk_cell BK159.out 2).trans rfl; have hcz62_3 : w61.cell? ⟨gb159, 3, none⟩ = some (.int .i64 a0_3) := (blk_cell BK159.out 3).trans rfl; have hcz62_4 : w61.cell? ⟨gb159, 4, none⟩ = some (.int .i64 a0_4) := (blk_cell BK159.out 4).trans rfl; have hcz62_5 : w61.cell? ⟨gb159, 5, none⟩ = some (.int .i64 a0_5) := (blk_cell BK159.out 5).trans rfl; have hcz62_6 : w61.cell? ⟨gb159, 6, none⟩ = some (.int .i64 a0_6) := (blk_cell BK159.out 6).trans rfl; have hfz62_0 := blk_frozen BK159.out 0; have hfz62_1 := blk_frozen BK159.out 1; have hfz62_2 := blk_frozen BK159.out 2; have hfz62_3 := blk_frozen BK159.out 3; have hfz62_4 := blk_frozen BK159.out 4; have hfz62_5 := blk_frozen BK159.out 5; have hfz62_6 := blk_frozen BK159.out 6) | ((with_reducible refine gate_callee (f := 60) rfl ?_); refine goesL_ (some 22) rfl rfl Try.func60 (by kernel_rfl) rfl #[.agg #[.int .i64 a0_0, .int .i64 a0_1, .int .i64 a0_2, .int .i64 a0_3, .int .i64 a0_4, .int .i64 a0_5, .int .i64 a0_6]] rfl (by (try simp only [List.map_toArray, List.map_cons, List.map_nil]); first | done | rfl | (simp only [List.length_drop, List.length_take]; rfl)) ?_; (with_reducible refine (page_Right.calls a0_0 a0_1 a0_2 a0_3 a0_4 a0_5 a0_6 false _ A4.out).mono ?_); rintro e w63 ⟨rfl, hb⟩; refine ⟨_, rfl, ?_⟩; have n0_ := Aside0.mk (blk_below (g := gb159) (o := .cells #[.int .i64 a0_0, .int .i64 a0_1, .int .i64 a0_2, .int .i64 a0_3, .int .i64 a0_4, .int .i64 a0_5, .int .i64 a0_6] 48 (0, 0)) (by exact BK159.out) hb); have n1_ := Aside0.mk (below_step (by with_reducible exact HB.out) hb); clear BK159; clear HB; have BK159 := n0_; have HB := n1_; clear n0_ n1_; (try clear hb); (try clear hb2); (try clear hk); (try clear hi)))
  go_ret2
  exact ⟨(.slice none 0 0 : Value), by first | rfl | (simp [errW_none, errW_some] <;> rfl) | (simp [*, errW_none, errW_some] <;> rfl), by first | exact Kd.R_nil _ _ _ _ _ | exact Kd.N_nil _ _ _ _ _ | exact Kd.V_nil _ _ _ _ _ | exact Kd.Q_nil _ _ _ _ _ | exact Kd.S_nil _ _ _ _ _, by with_reducible exact HB.out⟩

/-! ### credenzalaw11_made: function 34 -/
def credenzalaw11_made.f (k : Nat) (a0 : Int) : Option ((List (S96))) := (page_Quantize.f k 2 2 1 1 0 0 (Go.bits .and .i64 a0 1023) (([(([1] : List Int))] : List (List Int))) (([(([2] : List Int))] : List (List Int)))).bind fun bt205 => (some bt205.1)
theorem credenzalaw11_made.mono : ∀ a0 k, LeO (credenzalaw11_made.f k a0) (credenzalaw11_made.f (k + 1) a0) := by
 intro a0 k
 unfold credenzalaw11_made.f
 repeat' first
   | (with_reducible exact page_Quantize.mono _ _ _ _ _ _ _ _ _ _)
   | (with_reducible exact LeO.refl _)
   | (with_reducible exact LeO.none _)
   | (with_reducible refine LeO.ite ?_ ?_)
   | (with_reducible refine LeO.bind ?_ (fun _ => ?_))
   | exact page_Quantize.mono _ _ _ _ _ _ _ _ _ _
   | exact LeO.none _
   | refine LeO.ite ?_ ?_
   | refine LeO.bind ?_ (fun _ => ?_)
set_option maxHeartbeats 8000000 in
set_option maxRecDepth 100000 in
theorem credenzalaw11_made.calls (k : Nat) (a0 : Int) (r : List (S96)) (w : World) (h : credenzalaw11_made.f k a0 = some r) :
  Calls Try.prog 34 #[.int .i64 a0] w fun e w' => ∃ v0_ : Value, e = .returned (asPtr v0_) ∧ Kd.N k96 96 w' w.heap.size (fun k_ => (w.heap.size ≤ k_)) v0_ r ∧ Below w.heap.size w w' := by
 have hu48 := Try.underlying48
 have HB := Aside0.mk (Below.refl w.heap.size w)
 have H : ((page_Quantize.f k 2 2 1 1 0 0 (Go.bits .and .i64 a0 1023) (([(([1] : List Int))] : List (List Int))) (([(([2] : List Int))] : List (List Int)))).bind fun bt205 => (some bt205.1)) = some r := h
 clear h
 obtain ⟨y193, hy193⟩ : ∃ y_ : List Int, y_ = (([1] : List Int)) := ⟨_, rfl⟩
 replace H : ((page_Quantize.f k 2 2 1 1 0 0 (Go.bits .and .i64 a0 1023) (([y193] : List (List Int))) (([(([2] : List Int))] : List (List Int)))).bind fun bt205 => (some bt205.1)) = some r := by first | (rw [hy193]; with_reducible exact H) | (have H2_ := (Option.bind_some _ _).symm.trans H; rw [hy193]; with_reducible exact H2_) | (have H2_ := (Option.bind_some _ _).symm.trans H; with_reducible exact H2_) | with_reducible exact H | (rw [hy193]; exact H) | exact H
 have Ny193 := Aside0.mk hy193
 clear hy193
 obtain ⟨y196, hy196⟩ : ∃ y_ : List (List Int), y_ = (([y193] : List (List Int))) := ⟨_, rfl⟩
 replace H : ((page_Quantize.f k 2 2 1 1 0 0 (Go.bits .and .i64 a0 1023) y196 (([(([2] : List Int))] : List (List Int)))).bind fun bt205 => (some bt205.1)) = some r := by first | (rw [hy196]; with_reducible exact H) | (have H2_ := (Option.bind_some _ _).symm.trans H; rw [hy196]; with_reducible exact H2_) | (have H2_ := (Option.bind_some _ _).symm.trans H; with_reducible exact H2_) | with_reducible exact H | (rw [hy196]; exact H) | exact H
 have Ny196 := Aside0.mk hy196
 clear hy196
 obtain ⟨y199, hy199⟩ : ∃ y_ : List Int, y_ = (([2] : List Int)) := ⟨_, rfl⟩
 replace H : ((page_Quantize.f k 2 2 1 1 0 0 (Go.bits .and .i64 a0 1023) y196 (([y199] : List (List Int)))).bind fun bt205 => (some bt205.1)) = some r := by first | (rw [hy199]; with_reducible exact H) | (have H2_ := (Option.bind_some _ _).symm.trans H; rw [hy199]; with_reducible exact H2_) | (have H2_ := (Option.bind_some _ _).symm.trans H; with_reducible exact H2_) | with_reducible exact H | (rw [hy199]; exact H) | exact H
 have Ny199 := Aside0.mk hy199
 clear hy199
 obtain ⟨y202, hy202⟩ : ∃ y_ : List (List Int), y_ = (([y199] : List (List Int))) := ⟨_, rfl⟩
 replace H : ((page_Quantize.f k 2 2 1 1 0 0 (Go.bits .and .i64 a0 1023) y196 y202).bind fun bt205 => (some bt205.1)) = some r := by first | (rw [hy202]; with_reducible exact H) | (have H2_ := (Option.bind_some _ _).symm.trans H; rw [hy202]; with_reducible exact H2_) | (have H2_ := (Option.bind_some _ _).symm.trans H; with_reducible exact H2_) | with_reducible exact H | (rw [hy202]; exact H) | exact H
 have Ny202 := Aside0.mk hy202
 clear hy202
 replace H := Option.bind_eq_some_iff.mp H
 obtain ⟨⟨t205, t208⟩, A20, H⟩ := H
 replace H : (some t205) = some r := H
 have A2 := Aside0.mk A20
 clear A20
 obtain rfl := Option.some.inj H
 go_enter Try.func34, Try.ntmps34
 go_wp2_with (first | ((with_reducible refine gate_dst (N := 9) rfl ?_); refine Kd.R_lit (Kd.int .i32) _ 21 ?hg (N := 9) ?hd (xs := ([1] : List Int)) (inner := [.int .i32 1]) (ok := fun _ => True) (okp := fun _ => True) ?hr ?hp (fun _ hk => hk) trivial (Below.refl _ _) (Nat.le_refl _) (by simp) ?_; (case hd => rfl); (case hg => rfl); (case hr => first | (go_simp; done) | (go_simp; rfl)); (case hp => exact (Reps.one (show Kd.M (Kd.int .i32) _ _ _ 1 [.int .i32 1] from rfl) (Reps.none _ _))); intro v194 w3 ho4 hb hg_ hnew_; clear hg_ hnew_; (first | rw [← Ny193.out] at ho4 | (simp only [Int.reduceToNat] at ho4; rw [← Ny193.out] at ho4)); have n0_ := Aside0.mk (Kd.R_lower (Kd.R_newM (M := fun k_ => (w.heap.size ≤ k_)) ho4 (below_size (by with_reducible exact HB.out)) (fun k_ h_ => h_)) (below_size (by with_reducible exact HB.out))); have n1_ := Aside0.mk (below_step (by with_reducible exact HB.out) hb); clear HB; have HO195 := n0_; have HB := n1_; clear n0_ n1_; clear hb ho4; obtain ⟨Ao5, co5, eo5⟩ := Kd.R_slice HO195.out; subst eo5) | ((with_reducible refine gate_dst (N := 10) rfl ?_); refine Kd.N_lit (Kd.slice 21 (Kd.int .i32)) _ 92 ?hg (N' := 10) ?hd (xs := ([y193] : List (List Int))) (inner := [.slice Ao5 y193.length co5]) (ok := (fun k_ => (w.heap.size ≤ k_))) (okp := (fun k_ => (w.heap.size ≤ k_))) ?hr ?hp (fun _ hk => hk) ((show ∀ k_, w3.heap.size ≤ k_ → (fun k_ => (w.heap.size ≤ k_)) k_ from fun k_ hk => (Nat.le_trans (below_size (by with_reducible exact HB.out)) hk)) _ (Nat.le_refl _)) (Below.refl _ _) (Nat.le_refl _) (by simp) ?_; (case hd => rfl); (case hg => rfl); (case hr => first | (go_simp; done) | (go_simp; rfl)); (case hp => exact (Reps.one (show Kd.FK (Kd.slice 21 (Kd.int .i32)) _ _ y193 [.slice Ao5 y193.length co5] from (Kd.FK_slice_mk (Kd.R_reads' (Kd.R_mono (ok' := (fun k_ => (w.heap.size ≤ k_))) (HO195.out) (fun k_ hk => hk.1))).2.1 (Kd.R_F (Kd.R_mono (ok' := (fun k_ => (w.heap.size ≤ k_))) (HO195.out) (fun k_ hk => hk.1))))) (Reps.none _ _))); intro v197 w6 ho7 hb hg_ hnew_; clear hg_ hnew_; (first | rw [← Ny196.out] at ho7 | (simp only [Int.reduceToNat] at ho7; rw [← Ny196.out] at ho7)); have n0_ := Aside0.mk (Kd.N_lower ho7 (below_size (by with_reducible exact HB.out))); have n1_ := Aside0.mk (below_step (by with_reducible exact HB.out) hb); clear HB; clear HO195; have HO198 := n0_; have HB := n1_; clear n0_ n1_; clear hb ho7) | ((with_reducible refine gate_dst (N := 11) rfl ?_); refine Kd.R_lit (Kd.int .i32) _ 21 ?hg (N := 11) ?hd (xs := ([2] : List Int)) (inner := [.int .i32 2]) (ok := fun _ => True) (okp := fun _ => True) ?hr ?hp (fun _ hk => hk) trivial (Below.refl _ _) (Nat.le_refl _) (by simp) ?_; (case hd => rfl); (case hg => rfl); (case hr => first | (go_simp; done) | (go_simp; rfl)); (case hp => exact (Reps.one (show Kd.M (Kd.int .i32) _ _ _ 2 [.int .i32 2] from rfl) (Reps.none _ _))); intro v200 w8 ho9 hb hg_ hnew_; clear hg_ hnew_; (first | rw [← Ny199.out] at ho9 | (simp only [Int.reduceToNat] at ho9; rw [← Ny199.out] at ho9)); have n0_ := Aside0.mk (Kd.N_elder' (by exact HO198.out) (Kd.R_base ho9) hb); have n1_ := Aside0.mk (Kd.R_lower (Kd.R_newM (M := fun k_ => (w.heap.size ≤ k_)) ho9 (below_size (by with_reducible exact HB.out)) (fun k_ h_ => h_)) (below_size (by with_reducible exact HB.out))); have n2_ := Aside0.mk (below_step (by with_reducible exact HB.out) hb); clear HO198; clear HB; have HO198 := n0_; have HO201 := n1_; have HB := n2_; clear n0_ n1_ n2_; clear hb ho9; obtain ⟨Ao10, co10, eo10⟩ := Kd.R_slice HO201.out; subst eo10) | ((with_reducible refine gate_dst (N := 12) rfl ?_); refine Kd.N_lit (Kd.slice 21 (Kd.int .i32)) _ 92 ?hg (N' := 12) ?hd (xs := ([y199] : List (List Int))) (inner := [.slice Ao10 y199.length co10]) (ok := (fun k_ => (w.heap.size ≤ k_) ∧ some k_ ≠ (v197 : Value).ownBlock)) (okp := (fun k_ => (w.heap.size ≤ k_) ∧ some k_ ≠ (v197 : Value).ownBlock)) ?hr ?hp (fun _ hk => hk) ((show ∀ k_, w8.heap.size ≤ k_ → (fun k_ => (w.heap.size ≤ k_) ∧ some k_ ≠ (v197 : Value).ownBlock) k_ from fun k_ hk => ⟨(Nat.le_trans (below_size (by with_reducible exact HB.out)) hk), Kd.fresh' (Kd.N_lt (by exact HO198.out)) k_ hk⟩) _ (Nat.le_refl _)) (Below.refl _ _) (Nat.le_refl _) (by simp) ?_; (case hd => rfl); (case hg => rfl); (case hr => first | (go_simp; done) | (go_simp; rfl)); (case hp => exact (Reps.one (show Kd.FK (Kd.slice 21 (Kd.int .i32)) _ _ y199 [.slice Ao10 y199.length co10] from (Kd.FK_slice_mk (Kd.R_reads' (Kd.R_mono (ok' := (fun k_ => (w.heap.size ≤ k_) ∧ some k_ ≠ (v197 : Value).ownBlock)) (Kd.R_apart' (HO201.out) (Kd.N_typed HO198.out) (by decide)) (fun k_ hk => ⟨hk.1.1, hk.2⟩))).2.1 (Kd.R_F (Kd.R_mono (ok' := (fun k_ => (w.heap.size ≤ k_) ∧ some k_ ≠ (v197 : Value).ownBlock)) (Kd.R_apart' (HO201.out) (Kd.N_typed HO198.out) (by decide)) (fun k_ hk => ⟨hk.1.1, hk.2⟩))))) (Reps.none _ _))); intro v203 w11 ho12 hb hg_ hnew_; clear hg_ hnew_; (first | rw [← Ny202.out] at ho12 | (simp only [Int.reduceToNat] at ho12; rw [← Ny202.out] at ho12)); have n0_ := Aside0.mk (Kd.N_elder' (by exact HO198.out) (Kd.N_base ho12) hb); have n1_ := Aside0.mk (Kd.N_lower ho12 (below_size (by with_reducible exact HB.out))); have n2_ := Aside0.mk (below_step (by with_reducible exact HB.out) hb); clear HO198; clear HB; clear HO201; have HO198 := n0_; have HO204 := n1_; have HB := n2_; clear n0_ n1_ n2_; clear hb ho12; obtain ⟨Ao13, co13, eo13⟩ := Kd.N_slice HO198.out; subst eo13; obtain ⟨Ao14, co14, eo14⟩ := Kd.N_slice HO204.out; subst eo14) | ((with_reducible refine gate_callee (f := 48) rfl ?_); refine goesL_ (some 13) rfl rfl Try.func48 (by kernel_rfl) rfl #[.agg #[.int .i64 2, .int .i64 2, .int .i64 1, .int .i64 1, .int .i64 0, .int .i64 0, .int .i64 (Go.bits .and .i64 a0 1023)], .slice Ao13 y196.length co13, .slice Ao14 y202.length co14] rfl (by (try simp only [List.map_toArray, List.map_cons, List.map_nil]); first | done | rfl | (simp only [List.length_drop, List.length_take]; rfl)) ?_; (with_reducible refine (page_Quantize.calls k 2 2 1 1 0 0 (Go.bits .and .i64 a0 1023) _ _ y196 _ _ y202 t205 t208 _ ?side1 ?side2 ?side3 ?side4 A2.out).mono ?_); (case side1 => repeat (first | exact (Kd.N_reads' HO198.out).2.2 | (with_reducible refine Kd.C_alloc ?_ _) | (with_reducible refine Kd.C_drewN ?_ _) | (with_reducible refine Kd.C_drew ?_))); (case side2 => exact (Kd.N_reads' HO198.out).2.1); (case side3 => repeat (first | exact (Kd.N_reads' HO204.out).2.2 | (with_reducible refine Kd.C_alloc ?_ _) | (with_reducible refine Kd.C_drewN ?_ _) | (with_reducible refine Kd.C_drew ?_))); (case side4 => exact (Kd.N_reads' HO204.out).2.1); rintro e w15 ⟨v206, rfl, ho0, hb⟩; refine ⟨_, rfl, ?_⟩; have n0_ := Aside0.mk (Kd.N_elder' (by exact HO198.out) (Kd.R_base ho0) hb); have n1_ := Aside0.mk (Kd.N_elder' (by exact HO204.out) (Kd.R_base ho0) hb); have n2_ := Aside0.mk (Kd.N_lower (Kd.N_mono (ok' := fun k_ => (w.heap.size ≤ k_) ∧ some k_ ≠ (.slice Ao13 y196.length co13 : Value).ownBlock ∧ some k_ ≠ (.slice Ao14 y202.length co14 : Value).ownBlock) (Kd.R_N (Kd.R_bound ho0)) (fun k_ hk_ => ⟨(Nat.le_trans (below_size (by with_reducible exact HB.out)) hk_.2.1), (Kd.fresh' (Kd.N_lt (by exact HO198.out)) k_ hk_.2.1), (Kd.fresh' (Kd.N_lt (by exact HO204.out)) k_ hk_.2.1)⟩)) (below_size (by with_reducible exact HB.out))); have n3_ := Aside0.mk (below_step (by with_reducible exact HB.out) hb); clear HO198; clear HO204; clear HB; have HO198 := n0_; have HO204 := n1_; have HO207 := n2_; have HB := n3_; clear n0_ n1_ n2_ n3_; (try clear hb); (try clear hb2); (try clear hk); (try clear hi); (try clear ho0)))
 go_ret
 exact ⟨_, by first | rfl | (simp [errW_none, errW_some] <;> rfl) | (simp [*, errW_none, errW_some] <;> rfl), by exact Kd.N_mono HO207.out (fun _ hk => hk.1), by with_reducible exact HB.out⟩

-- NOT PRINTED: function 27 (pool_Pool_Drop)

-- NOT PRINTED: function 35 (block_Table_Clear)

-- NOT PRINTED: function 36 (block_Table_Len)

-- NOT PRINTED: function 24 (pool_Pool_Get)

-- NOT PRINTED: function 37 (block_Table_At)

-- NOT PRINTED: function 38 (block_New)

-- NOT PRINTED: function 49 (block_Table_Rows)

end Go.Proofs.Ytoofkemhikigoaa.PBlockPlays
