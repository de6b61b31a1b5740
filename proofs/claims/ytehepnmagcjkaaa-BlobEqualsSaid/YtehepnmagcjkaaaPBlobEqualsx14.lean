-- Written by a program of this session (wip/tools/mkprint.py over the kit's print).
import Derived.Test.YtehepnmagcjkaaaPBlobEqualsx0
import Derived.Test.YtehepnmagcjkaaaPBlobEqualsx1
namespace Go.Proofs.Ytehepnmagcjkaaa.PBlobEquals
open Go.RowKit Go.Proofs.YtehepnmagcjkaaaW.PrintWords Go.Proofs.YtehepnmagcjkaaaW.PrintLast Go.Proofs.YtehepnmagcjkaaaW.PrintMore
attribute [local go_sem] max2_int min2_int max_two min_two max_three min_three max_four min_four   -- for this text's walks alone
set_option linter.unusedVariables false
set_option linter.unusedSimpArgs false

attribute [local go_sem high] eqA56
/-! ### credenzaref18_Same: function 37 -/
mutual
def credenzaref18_Same.j0 : Nat → Bool → Int → Int → Int → Int → Int → Int → Int → List Int → List (S111) → Int → Int → Int → Int → Int → Int → Int → List Int → List (S111) → Option (Bool)
 | 0, _, _, _, _, _, _, _, _, _, _, _, _, _, _, _, _, _, _, _ => none
 | k + 1, x39, x157000, x157001, x157002, x157003, x157004, x157005, x157006, x157007, x157008, x158000, x158001, x158002, x158003, x158004, x158005, x158006, x158007, x158008 => if x39 = true then (some false) else (credenzaref18_Same.l0 k 0 x157000 x157001 x157002 x157003 x157004 x157005 x157006 x157007 x157008 x158000 x158001 x158002 x158003 x158004 x158005 x158006 x158007 x158008)
def credenzaref18_Same.l0 : Nat → Int → Int → Int → Int → Int → Int → Int → Int → List Int → List (S111) → Int → Int → Int → Int → Int → Int → Int → List Int → List (S111) → Option (Bool)
 | 0, _, _, _, _, _, _, _, _, _, _, _, _, _, _, _, _, _, _, _ => none
 | k + 1, x5, x157000, x157001, x157002, x157003, x157004, x157005, x157006, x157007, x157008, x158000, x158001, x158002, x158003, x158004, x158005, x158006, x158007, x158008 => if x5 < (x157007.length : Int) then (if 0 ≤ x5 then (if x5 < (x158007.length : Int) then (if (rd x157007 x5) = (rd x158007 x5) then (credenzaref18_Same.l0 k (wrap64 (x5 + 1)) x157000 x157001 x157002 x157003 x157004 x157005 x157006 x157007 x157008 x158000 x158001 x158002 x158003 x158004 x158005 x158006 x158007 x158008) else (some false)) else (none)) else (none)) else (credenzaref18_Same.l1 k 0 x157000 x157001 x157002 x157003 x157004 x157005 x157006 x157007 x157008 x158000 x158001 x158002 x158003 x158004 x158005 x158006 x158007 x158008)
def credenzaref18_Same.l1 : Nat → Int → Int → Int → Int → Int → Int → Int → Int → List Int → List (S111) → Int → Int → Int → Int → Int → Int → Int → List Int → List (S111) → Option (Bool)
 | 0, _, _, _, _, _, _, _, _, _, _, _, _, _, _, _, _, _, _, _ => none
 | k + 1, x6, x157000, x157001, x157002, x157003, x157004, x157005, x157006, x157007, x157008, x158000, x158001, x158002, x158003, x158004, x158005, x158006, x158007, x158008 => if x6 < (x157008.length : Int) then (if 0 ≤ x6 then (if x6 < (x158008.length : Int) then (if ((rd_T111 x157008 x6).f0) = ((rd_T111 x158008 x6).f0) then (if ((rd_T111 x157008 x6).f1) = ((rd_T111 x158008 x6).f1) then (credenzaref18_Same.j3 k x6 ((((rd_T111 x157008 x6).f2).length : Int) != (((rd_T111 x158008 x6).f2).length : Int)) x157000 x157001 x157002 x157003 x157004 x157005 x157006 x157007 x157008 x158000 x158001 x158002 x158003 x158004 x158005 x158006 x158007 x158008 ((rd_T111 x157008 x6).f0) ((rd_T111 x157008 x6).f1) ((rd_T111 x157008 x6).f2) ((rd_T111 x158008 x6).f0) ((rd_T111 x158008 x6).f1) ((rd_T111 x158008 x6).f2)) else (credenzaref18_Same.j3 k x6 true x157000 x157001 x157002 x157003 x157004 x157005 x157006 x157007 x157008 x158000 x158001 x158002 x158003 x158004 x158005 x158006 x158007 x158008 ((rd_T111 x157008 x6).f0) ((rd_T111 x157008 x6).f1) ((rd_T111 x157008 x6).f2) ((rd_T111 x158008 x6).f0) ((rd_T111 x158008 x6).f1) ((rd_T111 x158008 x6).f2))) else (credenzaref18_Same.j3 k x6 true x157000 x157001 x157002 x157003 x157004 x157005 x157006 x157007 x157008 x158000 x158001 x158002 x158003 x158004 x158005 x158006 x158007 x158008 ((rd_T111 x157008 x6).f0) ((rd_T111 x157008 x6).f1) ((rd_T111 x157008 x6).f2) ((rd_T111 x158008 x6).f0) ((rd_T111 x158008 x6).f1) ((rd_T111 x158008 x6).f2))) else (none)) else (none)) else (some true)
def credenzaref18_Same.j3 : Nat → Int → Bool → Int → Int → Int → Int → Int → Int → Int → List Int → List (S111) → Int → Int → Int → Int → Int → Int → Int → List Int → List (S111) → Int → Int → List Int → Int → Int → List Int → Option (Bool)
 | 0, _, _, _, _, _, _, _, _, _, _, _, _, _, _, _, _, _, _, _, _, _, _, _, _, _, _ => none
 | k + 1, x6, x95, x157000, x157001, x157002, x157003, x157004, x157005, x157006, x157007, x157008, x158000, x158001, x158002, x158003, x158004, x158005, x158006, x158007, x158008, x163000, x163001, x163002, x164000, x164001, x164002 => if x95 = true then (some false) else (credenzaref18_Same.l2 k x6 0 x157000 x157001 x157002 x157003 x157004 x157005 x157006 x157007 x157008 x158000 x158001 x158002 x158003 x158004 x158005 x158006 x158007 x158008 x163000 x163001 x163002 x164000 x164001 x164002)
def credenzaref18_Same.l2 : Nat → Int → Int → Int → Int → Int → Int → Int → Int → Int → List Int → List (S111) → Int → Int → Int → Int → Int → Int → Int → List Int → List (S111) → Int → Int → List Int → Int → Int → List Int → Option (Bool)
 | 0, _, _, _, _, _, _, _, _, _, _, _, _, _, _, _, _, _, _, _, _, _, _, _, _, _, _ => none
 | k + 1, x6, x9, x157000, x157001, x157002, x157003, x157004, x157005, x157006, x157007, x157008, x158000, x158001, x158002, x158003, x158004, x158005, x158006, x158007, x158008, x163000, x163001, x163002, x164000, x164001, x164002 => if x9 < (x163002.length : Int) then (if 0 ≤ x9 then (if x9 < (x164002.length : Int) then (if (rd x163002 x9) = (rd x164002 x9) then (credenzaref18_Same.l2 k x6 (wrap64 (x9 + 1)) x157000 x157001 x157002 x157003 x157004 x157005 x157006 x157007 x157008 x158000 x158001 x158002 x158003 x158004 x158005 x158006 x158007 x158008 x163000 x163001 x163002 x164000 x164001 x164002) else (some false)) else (none)) else (none)) else (credenzaref18_Same.l1 k (wrap64 (x6 + 1)) x157000 x157001 x157002 x157003 x157004 x157005 x157006 x157007 x157008 x158000 x158001 x158002 x158003 x158004 x158005 x158006 x158007 x158008)
end
def credenzaref18_Same.f (k : Nat) (a0_0 : Int) (a0_1 : Int) (a0_2 : Int) (a0_3 : Int) (a0_4 : Int) (a0_5 : Int) (a0_6 : Int) (l0_7 : List Int) (l0_8 : List (S111)) (a1_0 : Int) (a1_1 : Int) (a1_2 : Int) (a1_3 : Int) (a1_4 : Int) (a1_5 : Int) (a1_6 : Int) (l1_7 : List Int) (l1_8 : List (S111)) : Option (Bool) := if (!(a0_0 == a1_0) || (!(a0_1 == a1_1) || (!(a0_2 == a1_2) || (!(a0_3 == a1_3) || (!(a0_4 == a1_4) || (!(a0_5 == a1_5))))))) = true then (credenzaref18_Same.j0 k true a0_0 a0_1 a0_2 a0_3 a0_4 a0_5 a0_6 l0_7 l0_8 a1_0 a1_1 a1_2 a1_3 a1_4 a1_5 a1_6 l1_7 l1_8) else (if a0_6 = a1_6 then (if (l0_7.length : Int) = (l1_7.length : Int) then (credenzaref18_Same.j0 k ((l0_8.length : Int) != (l1_8.length : Int)) a0_0 a0_1 a0_2 a0_3 a0_4 a0_5 a0_6 l0_7 l0_8 a1_0 a1_1 a1_2 a1_3 a1_4 a1_5 a1_6 l1_7 l1_8) else (credenzaref18_Same.j0 k true a0_0 a0_1 a0_2 a0_3 a0_4 a0_5 a0_6 l0_7 l0_8 a1_0 a1_1 a1_2 a1_3 a1_4 a1_5 a1_6 l1_7 l1_8)) else (credenzaref18_Same.j0 k true a0_0 a0_1 a0_2 a0_3 a0_4 a0_5 a0_6 l0_7 l0_8 a1_0 a1_1 a1_2 a1_3 a1_4 a1_5 a1_6 l1_7 l1_8))
theorem credenzaref18_Same.mono_l : ∀ k, (∀ y0 y1 y2 y3 y4 y5 y6 y7 y8 y9 y10 y11 y12 y13 y14 y15 y16 y17 y18, LeO (credenzaref18_Same.j0 k y0 y1 y2 y3 y4 y5 y6 y7 y8 y9 y10 y11 y12 y13 y14 y15 y16 y17 y18) (credenzaref18_Same.j0 (k + 1) y0 y1 y2 y3 y4 y5 y6 y7 y8 y9 y10 y11 y12 y13 y14 y15 y16 y17 y18)) ∧ (∀ y0 y1 y2 y3 y4 y5 y6 y7 y8 y9 y10 y11 y12 y13 y14 y15 y16 y17 y18, LeO (credenzaref18_Same.l0 k y0 y1 y2 y3 y4 y5 y6 y7 y8 y9 y10 y11 y12 y13 y14 y15 y16 y17 y18) (credenzaref18_Same.l0 (k + 1) y0 y1 y2 y3 y4 y5 y6 y7 y8 y9 y10 y11 y12 y13 y14 y15 y16 y17 y18)) ∧ (∀ y0 y1 y2 y3 y4 y5 y6 y7 y8 y9 y10 y11 y12 y13 y14 y15 y16 y17 y18, LeO (credenzaref18_Same.l1 k y0 y1 y2 y3 y4 y5 y6 y7 y8 y9 y10 y11 y12 y13 y14 y15 y16 y17 y18) (credenzaref18_Same.l1 (k + 1) y0 y1 y2 y3 y4 y5 y6 y7 y8 y9 y10 y11 y12 y13 y14 y15 y16 y17 y18)) ∧ (∀ y0 y1 y2 y3 y4 y5 y6 y7 y8 y9 y10 y11 y12 y13 y14 y15 y16 y17 y18 y19 y20 y21 y22 y23 y24 y25, LeO (credenzaref18_Same.j3 k y0 y1 y2 y3 y4 y5 y6 y7 y8 y9 y10 y11 y12 y13 y14 y15 y16 y17 y18 y19 y20 y21 y22 y23 y24 y25) (credenzaref18_Same.j3 (k + 1) y0 y1 y2 y3 y4 y5 y6 y7 y8 y9 y10 y11 y12 y13 y14 y15 y16 y17 y18 y19 y20 y21 y22 y23 y24 y25)) ∧ (∀ y0 y1 y2 y3 y4 y5 y6 y7 y8 y9 y10 y11 y12 y13 y14 y15 y16 y17 y18 y19 y20 y21 y22 y23 y24 y25, LeO (credenzaref18_Same.l2 k y0 y1 y2 y3 y4 y5 y6 y7 y8 y9 y10 y11 y12 y13 y14 y15 y16 y17 y18 y19 y20 y21 y22 y23 y24 y25) (credenzaref18_Same.l2 (k + 1) y0 y1 y2 y3 y4 y5 y6 y7 y8 y9 y10 y11 y12 y13 y14 y15 y16 y17 y18 y19 y20 y21 y22 y23 y24 y25))
 | 0 => ⟨fun _ _ _ _ _ _ _ _ _ _ _ _ _ _ _ _ _ _ _ r h => by simp [credenzaref18_Same.j0] at h, fun _ _ _ _ _ _ _ _ _ _ _ _ _ _ _ _ _ _ _ r h => by simp [credenzaref18_Same.l0] at h, fun _ _ _ _ _ _ _ _ _ _ _ _ _ _ _ _ _ _ _ r h => by simp [credenzaref18_Same.l1] at h, fun _ _ _ _ _ _ _ _ _ _ _ _ _ _ _ _ _ _ _ _ _ _ _ _ _ _ r h => by simp [credenzaref18_Same.j3] at h, fun _ _ _ _ _ _ _ _ _ _ _ _ _ _ _ _ _ _ _ _ _ _ _ _ _ _ r h => by simp [credenzaref18_Same.l2] at h⟩
 | k + 1 => by
  obtain ⟨ih0, ih1, ih2, ih3, ih4⟩ := credenzaref18_Same.mono_l k
  refine ⟨?_, ?_, ?_, ?_, ?_⟩
  ·
   intro y0 y1 y2 y3 y4 y5 y6 y7 y8 y9 y10 y11 y12 y13 y14 y15 y16 y17 y18
   unfold credenzaref18_Same.j0
   repeat' first
   | (with_reducible exact ih0 _ _ _ _ _ _ _ _ _ _ _ _ _ _ _ _ _ _ _)
   | (with_reducible exact ih1 _ _ _ _ _ _ _ _ _ _ _ _ _ _ _ _ _ _ _)
   | (with_reducible exact ih2 _ _ _ _ _ _ _ _ _ _ _ _ _ _ _ _ _ _ _)
   | (with_reducible exact ih3 _ _ _ _ _ _ _ _ _ _ _ _ _ _ _ _ _ _ _ _ _ _ _ _ _ _)
   | (with_reducible exact ih4 _ _ _ _ _ _ _ _ _ _ _ _ _ _ _ _ _ _ _ _ _ _ _ _ _ _)
   | (with_reducible exact LeO.refl _)
   | (with_reducible exact LeO.none _)
   | (with_reducible refine LeO.ite ?_ ?_)
   | (with_reducible refine LeO.bind ?_ (fun _ => ?_))
   | exact ih0 _ _ _ _ _ _ _ _ _ _ _ _ _ _ _ _ _ _ _
   | exact ih1 _ _ _ _ _ _ _ _ _ _ _ _ _ _ _ _ _ _ _
   | exact ih2 _ _ _ _ _ _ _ _ _ _ _ _ _ _ _ _ _ _ _
   | exact ih3 _ _ _ _ _ _ _ _ _ _ _ _ _ _ _ _ _ _ _ _ _ _ _ _ _ _
   | exact ih4 _ _ _ _ _ _ _ _ _ _ _ _ _ _ _ _ _ _ _ _ _ _ _ _ _ _
   | exact LeO.none _
   | refine LeO.ite ?_ ?_
   | refine LeO.bind ?_ (fun _ => ?_)
  ·
   intro y0 y1 y2 y3 y4 y5 y6 y7 y8 y9 y10 y11 y12 y13 y14 y15 y16 y17 y18
   unfold credenzaref18_Same.l0
   repeat' first
   | (with_reducible exact ih0 _ _ _ _ _ _ _ _ _ _ _ _ _ _ _ _ _ _ _)
   | (with_reducible exact ih1 _ _ _ _ _ _ _ _ _ _ _ _ _ _ _ _ _ _ _)
   | (with_reducible exact ih2 _ _ _ _ _ _ _ _ _ _ _ _ _ _ _ _ _ _ _)
   | (with_reducible exact ih3 _ _ _ _ _ _ _ _ _ _ _ _ _ _ _ _ _ _ _ _ _ _ _ _ _ _)
   | (with_reducible exact ih4 _ _ _ _ _ _ _ _ _ _ _ _ _ _ _ _ _ _ _ _ _ _ _ _ _ _)
   | (with_reducible exact LeO.refl _)
   | (with_reducible exact LeO.none _)
   | (with_reducible refine LeO.ite ?_ ?_)
   | (with_reducible refine LeO.bind ?_ (fun _ => ?_))
   | exact ih0 _ _ _ _ _ _ _ _ _ _ _ _ _ _ _ _ _ _ _
   | exact ih1 _ _ _ _ _ _ _ _ _ _ _ _ _ _ _ _ _ _ _
   | exact ih2 _ _ _ _ _ _ _ _ _ _ _ _ _ _ _ _ _ _ _
   | exact ih3 _ _ _ _ _ _ _ _ _ _ _ _ _ _ _ _ _ _ _ _ _ _ _ _ _ _
   | exact ih4 _ _ _ _ _ _ _ _ _ _ _ _ _ _ _ _ _ _ _ _ _ _ _ _ _ _
   | exact LeO.none _
   | refine LeO.ite ?_ ?_
   | refine LeO.bind ?_ (fun _ => ?_)
  ·
   intro y0 y1 y2 y3 y4 y5 y6 y7 y8 y9 y10 y11 y12 y13 y14 y15 y16 y17 y18
   unfold credenzaref18_Same.l1
   repeat' first
   | (with_reducible exact ih0 _ _ _ _ _ _ _ _ _ _ _ _ _ _ _ _ _ _ _)
   | (with_reducible exact ih1 _ _ _ _ _ _ _ _ _ _ _ _ _ _ _ _ _ _ _)
   | (with_reducible exact ih2 _ _ _ _ _ _ _ _ _ _ _ _ _ _ _ _ _ _ _)
   | (with_reducible exact ih3 _ _ _ _ _ _ _ _ _ _ _ _ _ _ _ _ _ _ _ _ _ _ _ _ _ _)
   | (with_reducible exact ih4 _ _ _ _ _ _ _ _ _ _ _ _ _ _ _ _ _ _ _ _ _ _ _ _ _ _)
   | (with_reducible exact LeO.refl _)
   | (with_reducible exact LeO.none _)
   | (with_reducible refine LeO.ite ?_ ?_)
   | (with_reducible refine LeO.bind ?_ (fun _ => ?_))
   | exact ih0 _ _ _ _ _ _ _ _ _ _ _ _ _ _ _ _ _ _ _
   | exact ih1 _ _ _ _ _ _ _ _ _ _ _ _ _ _ _ _ _ _ _
   | exact ih2 _ _ _ _ _ _ _ _ _ _ _ _ _ _ _ _ _ _ _
   | exact ih3 _ _ _ _ _ _ _ _ _ _ _ _ _ _ _ _ _ _ _ _ _ _ _ _ _ _
   | exact ih4 _ _ _ _ _ _ _ _ _ _ _ _ _ _ _ _ _ _ _ _ _ _ _ _ _ _
   | exact LeO.none _
   | refine LeO.ite ?_ ?_
   | refine LeO.bind ?_ (fun _ => ?_)
  ·
   intro y0 y1 y2 y3 y4 y5 y6 y7 y8 y9 y10 y11 y12 y13 y14 y15 y16 y17 y18 y19 y20 y21 y22 y23 y24 y25
   unfold credenzaref18_Same.j3
   repeat' first
   | (with_reducible exact ih0 _ _ _ _ _ _ _ _ _ _ _ _ _ _ _ _ _ _ _)
   | (with_reducible exact ih1 _ _ _ _ _ _ _ _ _ _ _ _ _ _ _ _ _ _ _)
   | (with_reducible exact ih2 _ _ _ _ _ _ _ _ _ _ _ _ _ _ _ _ _ _ _)
   | (with_reducible exact ih3 _ _ _ _ _ _ _ _ _ _ _ _ _ _ _ _ _ _ _ _ _ _ _ _ _ _)
   | (with_reducible exact ih4 _ _ _ _ _ _ _ _ _ _ _ _ _ _ _ _ _ _ _ _ _ _ _ _ _ _)
   | (with_reducible exact LeO.refl _)
   | (with_reducible exact LeO.none _)
   | (with_reducible refine LeO.ite ?_ ?_)
   | (with_reducible refine LeO.bind ?_ (fun _ => ?_))
   | exact ih0 _ _ _ _ _ _ _ _ _ _ _ _ _ _ _ _ _ _ _
   | exact ih1 _ _ _ _ _ _ _ _ _ _ _ _ _ _ _ _ _ _ _
   | exact ih2 _ _ _ _ _ _ _ _ _ _ _ _ _ _ _ _ _ _ _
   | exact ih3 _ _ _ _ _ _ _ _ _ _ _ _ _ _ _ _ _ _ _ _ _ _ _ _ _ _
   | exact ih4 _ _ _ _ _ _ _ _ _ _ _ _ _ _ _ _ _ _ _ _ _ _ _ _ _ _
   | exact LeO.none _
   | refine LeO.ite ?_ ?_
   | refine LeO.bind ?_ (fun _ => ?_)
  ·
   intro y0 y1 y2 y3 y4 y5 y6 y7 y8 y9 y10 y11 y12 y13 y14 y15 y16 y17 y18 y19 y20 y21 y22 y23 y24 y25
   unfold credenzaref18_Same.l2
   repeat' first
   | (with_reducible exact ih0 _ _ _ _ _ _ _ _ _ _ _ _ _ _ _ _ _ _ _)
   | (with_reducible exact ih1 _ _ _ _ _ _ _ _ _ _ _ _ _ _ _ _ _ _ _)
   | (with_reducible exact ih2 _ _ _ _ _ _ _ _ _ _ _ _ _ _ _ _ _ _ _)
   | (with_reducible exact ih3 _ _ _ _ _ _ _ _ _ _ _ _ _ _ _ _ _ _ _ _ _ _ _ _ _ _)
   | (with_reducible exact ih4 _ _ _ _ _ _ _ _ _ _ _ _ _ _ _ _ _ _ _ _ _ _ _ _ _ _)
   | (with_reducible exact LeO.refl _)
   | (with_reducible exact LeO.none _)
   | (with_reducible refine LeO.ite ?_ ?_)
   | (with_reducible refine LeO.bind ?_ (fun _ => ?_))
   | exact ih0 _ _ _ _ _ _ _ _ _ _ _ _ _ _ _ _ _ _ _
   | exact ih1 _ _ _ _ _ _ _ _ _ _ _ _ _ _ _ _ _ _ _
   | exact ih2 _ _ _ _ _ _ _ _ _ _ _ _ _ _ _ _ _ _ _
   | exact ih3 _ _ _ _ _ _ _ _ _ _ _ _ _ _ _ _ _ _ _ _ _ _ _ _ _ _
   | exact ih4 _ _ _ _ _ _ _ _ _ _ _ _ _ _ _ _ _ _ _ _ _ _ _ _ _ _
   | exact LeO.none _
   | refine LeO.ite ?_ ?_
   | refine LeO.bind ?_ (fun _ => ?_)
theorem credenzaref18_Same.mono : ∀ a0 a1 a2 a3 a4 a5 a6 a7 a8 a9 a10 a11 a12 a13 a14 a15 a16 a17 k, LeO (credenzaref18_Same.f k a0 a1 a2 a3 a4 a5 a6 a7 a8 a9 a10 a11 a12 a13 a14 a15 a16 a17) (credenzaref18_Same.f (k + 1) a0 a1 a2 a3 a4 a5 a6 a7 a8 a9 a10 a11 a12 a13 a14 a15 a16 a17) := by
 intro a0 a1 a2 a3 a4 a5 a6 a7 a8 a9 a10 a11 a12 a13 a14 a15 a16 a17 k
 obtain ⟨ih0, ih1, ih2, ih3, ih4⟩ := credenzaref18_Same.mono_l k
 unfold credenzaref18_Same.f
 repeat' first
   | (with_reducible exact ih0 _ _ _ _ _ _ _ _ _ _ _ _ _ _ _ _ _ _ _)
   | (with_reducible exact ih1 _ _ _ _ _ _ _ _ _ _ _ _ _ _ _ _ _ _ _)
   | (with_reducible exact ih2 _ _ _ _ _ _ _ _ _ _ _ _ _ _ _ _ _ _ _)
   | (with_reducible exact ih3 _ _ _ _ _ _ _ _ _ _ _ _ _ _ _ _ _ _ _ _ _ _ _ _ _ _)
   | (with_reducible exact ih4 _ _ _ _ _ _ _ _ _ _ _ _ _ _ _ _ _ _ _ _ _ _ _ _ _ _)
   | (with_reducible exact LeO.refl _)
   | (with_reducible exact LeO.none _)
   | (with_reducible refine LeO.ite ?_ ?_)
   | (with_reducible refine LeO.bind ?_ (fun _ => ?_))
   | exact ih0 _ _ _ _ _ _ _ _ _ _ _ _ _ _ _ _ _ _ _
   | exact ih1 _ _ _ _ _ _ _ _ _ _ _ _ _ _ _ _ _ _ _
   | exact ih2 _ _ _ _ _ _ _ _ _ _ _ _ _ _ _ _ _ _ _
   | exact ih3 _ _ _ _ _ _ _ _ _ _ _ _ _ _ _ _ _ _ _ _ _ _ _ _ _ _
   | exact ih4 _ _ _ _ _ _ _ _ _ _ _ _ _ _ _ _ _ _ _ _ _ _ _ _ _ _
   | exact LeO.none _
   | refine LeO.ite ?_ ?_
   | refine LeO.bind ?_ (fun _ => ?_)
def credenzaref18_Same.T6 : Bool × List (List Nat × List Nat) := (true, [([], []), ([0], [0]), ([], []), ([1, 2], [1, 2]), ([3], [3]), ([], []), ([5], [5]), ([], []), ([6, 7], [6, 7]), ([8], [8]), ([4, 9], [4, 9])])
def credenzaref18_Same.B6 : List Nat := [0, 1, 0, 7, 15, 0, 32, 0, 224, 480, 1023]
theorem credenzaref18_Same.tab6 : rtab .any (opsOf Try.f37 6) = credenzaref18_Same.T6 := by kernel_rfl
theorem credenzaref18_Same.bits6 : waitsOk credenzaref18_Same.T6.2 credenzaref18_Same.B6 = true := by kernel_rfl
def credenzaref18_Same.T11 : Bool × List (List Nat × List Nat) := (true, [([], []), ([0], [0]), ([], []), ([1, 2], [1, 2]), ([3], [3]), ([], []), ([5], [5]), ([], []), ([6, 7], [6, 7]), ([8], [8]), ([], []), ([], []), ([10, 4, 0, 1, 2, 3, 4, 10, 11], [4, 10]), ([11, 9, 12, 0, 1, 2, 3, 4, 5, 6, 7, 8, 9, 10, 11, 12], [9, 11])])
def credenzaref18_Same.B11 : List Nat := [0, 1, 0, 7, 15, 0, 32, 0, 224, 480, 0, 0, 3103, 8191]
theorem credenzaref18_Same.tab11 : rtab .any (opsOf Try.f37 11) = credenzaref18_Same.T11 := by kernel_rfl
theorem credenzaref18_Same.bits11 : waitsOk credenzaref18_Same.T11.2 credenzaref18_Same.B11 = true := by kernel_rfl
def credenzaref18_Same.T17 : Bool × List (List Nat × List Nat) := (true, [([], []), ([0], [0]), ([], []), ([1, 2], [1, 2]), ([3], [3]), ([], []), ([5], [5]), ([], []), ([6, 7], [6, 7]), ([8], [8]), ([4, 9], [4, 9])])
def credenzaref18_Same.B17 : List Nat := [0, 1, 0, 7, 15, 0, 32, 0, 224, 480, 1023]
theorem credenzaref18_Same.tab17 : rtab .any (opsOf Try.f37 17) = credenzaref18_Same.T17 := by kernel_rfl
theorem credenzaref18_Same.bits17 : waitsOk credenzaref18_Same.T17.2 credenzaref18_Same.B17 = true := by kernel_rfl
set_option maxHeartbeats 8000000 in
set_option maxRecDepth 100000 in
theorem credenzaref18_Same.calls (k : Nat) (a0_0 : Int) (a0_1 : Int) (a0_2 : Int) (a0_3 : Int) (a0_4 : Int) (a0_5 : Int) (a0_6 : Int) (A0_7 : Option Addr) (c0_7 : Nat) (l0_7 : List Int) (A0_8 : Option Addr) (c0_8 : Nat) (l0_8 : List (S111)) (a1_0 : Int) (a1_1 : Int) (a1_2 : Int) (a1_3 : Int) (a1_4 : Int) (a1_5 : Int) (a1_6 : Int) (A1_7 : Option Addr) (c1_7 : Nat) (l1_7 : List Int) (A1_8 : Option Addr) (c1_8 : Nat) (l1_8 : List (S111)) (r : Bool) (w : World) (hr0_7 : Kd.C (Kd.int .i32) w A0_7 l0_7.length l0_7) (hc0_7 : l0_7.length ≤ c0_7) (hr0_8 : Kd.C k111 w A0_8 l0_8.length l0_8) (hc0_8 : l0_8.length ≤ c0_8) (hr1_7 : Kd.C (Kd.int .i32) w A1_7 l1_7.length l1_7) (hc1_7 : l1_7.length ≤ c1_7) (hr1_8 : Kd.C k111 w A1_8 l1_8.length l1_8) (hc1_8 : l1_8.length ≤ c1_8) (h : credenzaref18_Same.f k a0_0 a0_1 a0_2 a0_3 a0_4 a0_5 a0_6 l0_7 l0_8 a1_0 a1_1 a1_2 a1_3 a1_4 a1_5 a1_6 l1_7 l1_8 = some r) :
  Calls Try.prog 37 #[.agg #[.int .i64 a0_0, .int .i64 a0_1, .int .i64 a0_2, .int .i64 a0_3, .int .i64 a0_4, .int .i64 a0_5, .int .i64 a0_6, .slice A0_7 l0_7.length c0_7, .slice A0_8 l0_8.length c0_8], .agg #[.int .i64 a1_0, .int .i64 a1_1, .int .i64 a1_2, .int .i64 a1_3, .int .i64 a1_4, .int .i64 a1_5, .int .i64 a1_6, .slice A1_7 l1_7.length c1_7, .slice A1_8 l1_8.length c1_8]] w fun e w' => e = .returned (.bool r) ∧ Below w.heap.size w w' := by
 have hu73 := Try.underlying73
 have hu56 := Try.underlying56
 have hu111 := Try.underlying111
 have HR0_7 := Aside0.mk hr0_7
 have HC0_7 := Aside0.mk hc0_7
 clear hr0_7 hc0_7
 have HR0_8 := Aside0.mk hr0_8
 have HC0_8 := Aside0.mk hc0_8
 clear hr0_8 hc0_8
 have HR1_7 := Aside0.mk hr1_7
 have HC1_7 := Aside0.mk hc1_7
 clear hr1_7 hc1_7
 have HR1_8 := Aside0.mk hr1_8
 have HC1_8 := Aside0.mk hc1_8
 clear hr1_8 hc1_8
 have HB := Aside0.mk (Below.refl w.heap.size w)
 have H : (if (!(a0_0 == a1_0) || (!(a0_1 == a1_1) || (!(a0_2 == a1_2) || (!(a0_3 == a1_3) || (!(a0_4 == a1_4) || (!(a0_5 == a1_5))))))) = true then (credenzaref18_Same.j0 k true a0_0 a0_1 a0_2 a0_3 a0_4 a0_5 a0_6 l0_7 l0_8 a1_0 a1_1 a1_2 a1_3 a1_4 a1_5 a1_6 l1_7 l1_8) else (if a0_6 = a1_6 then (if (l0_7.length : Int) = (l1_7.length : Int) then (credenzaref18_Same.j0 k ((l0_8.length : Int) != (l1_8.length : Int)) a0_0 a0_1 a0_2 a0_3 a0_4 a0_5 a0_6 l0_7 l0_8 a1_0 a1_1 a1_2 a1_3 a1_4 a1_5 a1_6 l1_7 l1_8) else (credenzaref18_Same.j0 k true a0_0 a0_1 a0_2 a0_3 a0_4 a0_5 a0_6 l0_7 l0_8 a1_0 a1_1 a1_2 a1_3 a1_4 a1_5 a1_6 l1_7 l1_8)) else (credenzaref18_Same.j0 k true a0_0 a0_1 a0_2 a0_3 a0_4 a0_5 a0_6 l0_7 l0_8 a1_0 a1_1 a1_2 a1_3 a1_4 a1_5 a1_6 l1_7 l1_8))) = some r := h
 clear h
 have HC3 := Aside0.mk H
 clear H
 go_enter Try.func37, Try.ntmps37
 go_upto_region 1 with (first | ((with_reducible refine gate_dst (N := 2) rfl ?_); (try (refine gate_guard (by rfl) ?_; dsimp only)); refine box_event ?hg (N := 2) ?hd (cs := #[.int .i64 a0_0, .int .i64 a0_1, .int .i64 a0_2, .int .i64 a0_3, .int .i64 a0_4, .int .i64 a0_5, .int .i64 a0_6, .slice A0_7 l0_7.length c0_7, .slice A0_8 l0_8.length c0_8]) (t := 73) ?hr ?_; (case hd => rfl); (case hg => rfl); (case hr => first | (go_simp; done) | (go_simp; rfl)); intro gb156 hg w4 hbox hb; have n0_ := Aside0.mk (below_step (by with_reducible exact HB.out) hb); have n1_ := Aside0.mk (hbox); have n2_ := Aside0.mk ((by rw [hg]; exact (below_size (by with_reducible exact HB.out)) : w.heap.size ≤ gb156)); have n3_ := Aside0.mk ((by rw [hg]; exact (below_size (by with_reducible exact HB.out)) : w.heap.size ≤ gb156)); clear HB; have HB := n0_; have BK156 := n1_; have GW156 := n2_; have GE156 := n3_; clear n0_ n1_ n2_ n3_; clear hb hbox hg) | ((with_reducible refine gate_dst (N := 3) rfl ?_); (try (refine gate_guard (by rfl) ?_; dsimp only)); refine box_event ?hg (N := 3) ?hd (cs := #[.int .i64 a1_0, .int .i64 a1_1, .int .i64 a1_2, .int .i64 a1_3, .int .i64 a1_4, .int .i64 a1_5, .int .i64 a1_6, .slice A1_7 l1_7.length c1_7, .slice A1_8 l1_8.length c1_8]) (t := 73) ?hr ?_; (case hd => rfl); (case hg => rfl); (case hr => first | (go_simp; done) | (go_simp; rfl)); intro gb157 hg w5 hbox hb; have n0_ := Aside0.mk (blk_below (g := gb156) (o := .cells #[.int .i64 a0_0, .int .i64 a0_1, .int .i64 a0_2, .int .i64 a0_3, .int .i64 a0_4, .int .i64 a0_5, .int .i64 a0_6, .slice A0_7 l0_7.length c0_7, .slice A0_8 l0_8.length c0_8] 73 (0, 0)) (by exact BK156.out) hb); have n1_ := Aside0.mk (below_step (by with_reducible exact HB.out) hb); have n2_ := Aside0.mk (hbox); have n3_ := Aside0.mk ((by rw [hg]; exact (below_size (by with_reducible exact HB.out)) : w.heap.size ≤ gb157)); have n4_ := Aside0.mk ((by rw [hg]; exact (below_size (by with_reducible exact HB.out)) : w.heap.size ≤ gb157)); have n5_ := Aside0.mk ((by rw [hg]; exact Nat.ne_of_lt (blk_lt (g := gb156) (o := .cells #[.int .i64 a0_0, .int .i64 a0_1, .int .i64 a0_2, .int .i64 a0_3, .int .i64 a0_4, .int .i64 a0_5, .int .i64 a0_6, .slice A0_7 l0_7.length c0_7, .slice A0_8 l0_8.length c0_8] 73 (0, 0)) (by exact BK156.out)) : gb156 ≠ gb157)); have n6_ := Aside0.mk ((by rw [hg]; exact Nat.ne_of_gt (blk_lt (g := gb156) (o := .cells #[.int .i64 a0_0, .int .i64 a0_1, .int .i64 a0_2, .int .i64 a0_3, .int .i64 a0_4, .int .i64 a0_5, .int .i64 a0_6, .slice A0_7 l0_7.length c0_7, .slice A0_8 l0_8.length c0_8] 73 (0, 0)) (by exact BK156.out)) : gb157 ≠ gb156)); clear BK156; clear HB; have BK156 := n0_; have HB := n1_; have BK157 := n2_; have GW157 := n3_; have GE157 := n4_; have NB156_157 := n5_; have NB157_156 := n6_; clear n0_ n1_ n2_ n3_ n4_ n5_ n6_; clear hb hbox hg))
 (try simp only [Act.put, List.setIfInBounds_toArray, List.set_cons_zero, List.set_cons_succ])
 go_cut [39] (fun v39 wc => ∃ (kq : Nat) (x39_2 : Bool), v39 = .bool x39_2 ∧ Aside0 (credenzaref18_Same.j0 kq x39_2 a0_0 a0_1 a0_2 a0_3 a0_4 a0_5 a0_6 l0_7 l0_8 a1_0 a1_1 a1_2 a1_3 a1_4 a1_5 a1_6 l1_7 l1_8 = some r) ∧ Aside0 (kq ≤ k) ∧ Aside0 (wc.heap[gb156]? = some (.cells #[.int .i64 a0_0, .int .i64 a0_1, .int .i64 a0_2, .int .i64 a0_3, .int .i64 a0_4, .int .i64 a0_5, .int .i64 a0_6, (.slice A0_7 l0_7.length c0_7), (.slice A0_8 l0_8.length c0_8)] 73 (0, 0))) ∧ Aside0 (wc.heap[gb157]? = some (.cells #[.int .i64 a1_0, .int .i64 a1_1, .int .i64 a1_2, .int .i64 a1_3, .int .i64 a1_4, .int .i64 a1_5, .int .i64 a1_6, (.slice A1_7 l1_7.length c1_7), (.slice A1_8 l1_8.length c1_8)] 73 (0, 0))) ∧ Aside0 (Below w.heap.size w wc))
 case first =>
  have H := HC3.out
  clear HC3
  by_cases c6 : (!(a0_0 == a1_0) || (!(a0_1 == a1_1) || (!(a0_2 == a1_2) || (!(a0_3 == a1_3) || (!(a0_4 == a1_4) || (!(a0_5 == a1_5))))))) = true
  ·
   rw [if_pos c6] at H
   have c6b0 : (!(a0_0 == a1_0) || (!(a0_1 == a1_1) || (!(a0_2 == a1_2) || (!(a0_3 == a1_3) || (!(a0_4 == a1_4) || (!(a0_5 == a1_5))))))) = true := c6
   clear c6
   (first | rw [c6b0] | (simp only [i64_w, i32_w]; rw [c6b0]) | skip)
   have H' := Aside0.mk H
   clear H
   have hnb7 := NB156_157.out
   have hnc7 := NB157_156.out
   have hcz8_0 : w5.cell? ⟨gb156, 0, none⟩ = some (.int .i64 a0_0) := (blk_cell BK156.out 0).trans rfl
   have hcz8_1 : w5.cell? ⟨gb156, 1, none⟩ = some (.int .i64 a0_1) := (blk_cell BK156.out 1).trans rfl
   have hcz8_2 : w5.cell? ⟨gb156, 2, none⟩ = some (.int .i64 a0_2) := (blk_cell BK156.out 2).trans rfl
   have hcz8_3 : w5.cell? ⟨gb156, 3, none⟩ = some (.int .i64 a0_3) := (blk_cell BK156.out 3).trans rfl
   have hcz8_4 : w5.cell? ⟨gb156, 4, none⟩ = some (.int .i64 a0_4) := (blk_cell BK156.out 4).trans rfl
   have hcz8_5 : w5.cell? ⟨gb156, 5, none⟩ = some (.int .i64 a0_5) := (blk_cell BK156.out 5).trans rfl
   have hcz8_6 : w5.cell? ⟨gb156, 6, none⟩ = some (.int .i64 a0_6) := (blk_cell BK156.out 6).trans rfl
   have hcz8_7 : w5.cell? ⟨gb156, 7, none⟩ = some (.slice A0_7 l0_7.length c0_7) := (blk_cell BK156.out 7).trans rfl
   have hcz8_8 : w5.cell? ⟨gb156, 8, none⟩ = some (.slice A0_8 l0_8.length c0_8) := (blk_cell BK156.out 8).trans rfl
   have hfz8_0 := blk_frozen BK156.out 0
   have hfz8_1 := blk_frozen BK156.out 1
   have hfz8_2 := blk_frozen BK156.out 2
   have hfz8_3 := blk_frozen BK156.out 3
   have hfz8_4 := blk_frozen BK156.out 4
   have hfz8_5 := blk_frozen BK156.out 5
   have hfz8_6 := blk_frozen BK156.out 6
   have hfz8_7 := blk_frozen BK156.out 7
   have hfz8_8 := blk_frozen BK156.out 8
   have hcz9_0 : w5.cell? ⟨gb157, 0, none⟩ = some (.int .i64 a1_0) := (blk_cell BK157.out 0).trans rfl
   have hcz9_1 : w5.cell? ⟨gb157, 1, none⟩ = some (.int .i64 a1_1) := (blk_cell BK157.out 1).trans rfl
   have hcz9_2 : w5.cell? ⟨gb157, 2, none⟩ = some (.int .i64 a1_2) := (blk_cell BK157.out 2).trans rfl
   have hcz9_3 : w5.cell? ⟨gb157, 3, none⟩ = some (.int .i64 a1_3) := (blk_cell BK157.out 3).trans rfl
   have hcz9_4 : w5.cell? ⟨gb157, 4, none⟩ = some (.int .i64 a1_4) := (blk_cell BK157.out 4).trans rfl
   have hcz9_5 : w5.cell? ⟨gb157, 5, none⟩ = some (.int .i64 a1_5) := (blk_cell BK157.out 5).trans rfl
   have hcz9_6 : w5.cell? ⟨gb157, 6, none⟩ = some (.int .i64 a1_6) := (blk_cell BK157.out 6).trans rfl
   have hcz9_7 : w5.cell? ⟨gb157, 7, none⟩ = some (.slice A1_7 l1_7.length c1_7) := (blk_cell BK157.out 7).trans rfl
   have hcz9_8 : w5.cell? ⟨gb157, 8, none⟩ = some (.slice A1_8 l1_8.length c1_8) := (blk_cell BK157.out 8).trans rfl
   have hfz9_0 := blk_frozen BK157.out 0
   have hfz9_1 := blk_frozen BK157.out 1
   have hfz9_2 := blk_frozen BK157.out 2
   have hfz9_3 := blk_frozen BK157.out 3
   have hfz9_4 := blk_frozen BK157.out 4
   have hfz9_5 := blk_frozen BK157.out 5
   have hfz9_6 := blk_frozen BK157.out 6
   have hfz9_7 := blk_frozen BK157.out 7
   have hfz9_8 := blk_frozen BK157.out 8
   go_wp2
   go_meet
   case rel => exact ⟨_, (true), (by first | rfl | (simp; done) | (simp [*]; done)), H', ⟨by first | omega | exact Nat.le_refl _⟩, ⟨by exact BK156.out⟩, ⟨by exact BK157.out⟩, ⟨by with_reducible exact HB.out⟩⟩
  ·
   rw [if_neg c6] at H
   have c6b0 : (!(a0_0 == a1_0) || (!(a0_1 == a1_1) || (!(a0_2 == a1_2) || (!(a0_3 == a1_3) || (!(a0_4 == a1_4) || (!(a0_5 == a1_5))))))) = false := by simpa using c6
   clear c6
   (first | rw [c6b0] | (simp only [i64_w, i32_w]; rw [c6b0]) | skip)
   by_cases c10 : a0_6 = a1_6
   ·
    rw [if_pos c10] at H
    have c10b0 : (a0_6 == a1_6) = true := beq_iff_eq.mpr c10
    have c10b1 : (a0_6 != a1_6) = false := bne_eq_false_iff_eq.mpr c10
    clear c10
    by_cases c11 : (l0_7.length : Int) = (l1_7.length : Int)
    ·
     rw [if_pos c11] at H
     have c11b0 : ((l0_7.length : Int) == (l1_7.length : Int)) = true := beq_iff_eq.mpr c11
     have c11b1 : ((l0_7.length : Int) != (l1_7.length : Int)) = false := bne_eq_false_iff_eq.mpr c11
     have c11b2 : (l0_7.length == l1_7.length) = true := by first | simpa using c11 | (simp at c11 ⊢; omega)
     clear c11
     have H' := Aside0.mk H
     clear H
     have hnb12 := NB156_157.out
     have hnc12 := NB157_156.out
     have hcz13_0 : w5.cell? ⟨gb156, 0, none⟩ = some (.int .i64 a0_0) := (blk_cell BK156.out 0).trans rfl
     have hcz13_1 : w5.cell? ⟨gb156, 1, none⟩ = some (.int .i64 a0_1) := (blk_cell BK156.out 1).trans rfl
     have hcz13_2 : w5.cell? ⟨gb156, 2, none⟩ = some (.int .i64 a0_2) := (blk_cell BK156.out 2).trans rfl
     have hcz13_3 : w5.cell? ⟨gb156, 3, none⟩ = some (.int .i64 a0_3) := (blk_cell BK156.out 3).trans rfl
     have hcz13_4 : w5.cell? ⟨gb156, 4, none⟩ = some (.int .i64 a0_4) := (blk_cell BK156.out 4).trans rfl
     have hcz13_5 : w5.cell? ⟨gb156, 5, none⟩ = some (.int .i64 a0_5) := (blk_cell BK156.out 5).trans rfl
     have hcz13_6 : w5.cell? ⟨gb156, 6, none⟩ = some (.int .i64 a0_6) := (blk_cell BK156.out 6).trans rfl
     have hcz13_7 : w5.cell? ⟨gb156, 7, none⟩ = some (.slice A0_7 l0_7.length c0_7) := (blk_cell BK156.out 7).trans rfl
     have hcz13_8 : w5.cell? ⟨gb156, 8, none⟩ = some (.slice A0_8 l0_8.length c0_8) := (blk_cell BK156.out 8).trans rfl
     have hfz13_0 := blk_frozen BK156.out 0
     have hfz13_1 := blk_frozen BK156.out 1
     have hfz13_2 := blk_frozen BK156.out 2
     have hfz13_3 := blk_frozen BK156.out 3
     have hfz13_4 := blk_frozen BK156.out 4
     have hfz13_5 := blk_frozen BK156.out 5
     have hfz13_6 := blk_frozen BK156.out 6
     have hfz13_7 := blk_frozen BK156.out 7
     have hfz13_8 := blk_frozen BK156.out 8
     have hcz14_0 : w5.cell? ⟨gb157, 0, none⟩ = some (.int .i64 a1_0) := (blk_cell BK157.out 0).trans rfl
     have hcz14_1 : w5.cell? ⟨gb157, 1, none⟩ = some (.int .i64 a1_1) := (blk_cell BK157.out 1).trans rfl
     have hcz14_2 : w5.cell? ⟨gb157, 2, none⟩ = some (.int .i64 a1_2) := (blk_cell BK157.out 2).trans rfl
     have hcz14_3 : w5.cell? ⟨gb157, 3, none⟩ = some (.int .i64 a1_3) := (blk_cell BK157.out 3).trans rfl
     have hcz14_4 : w5.cell? ⟨gb157, 4, none⟩ = some (.int .i64 a1_4) := (blk_cell BK157.out 4).trans rfl
     have hcz14_5 : w5.cell? ⟨gb157, 5, none⟩ = some (.int .i64 a1_5) := (blk_cell BK157.out 5).trans rfl
     have hcz14_6 : w5.cell? ⟨gb157, 6, none⟩ = some (.int .i64 a1_6) := (blk_cell BK157.out 6).trans rfl
     have hcz14_7 : w5.cell? ⟨gb157, 7, none⟩ = some (.slice A1_7 l1_7.length c1_7) := (blk_cell BK157.out 7).trans rfl
     have hcz14_8 : w5.cell? ⟨gb157, 8, none⟩ = some (.slice A1_8 l1_8.length c1_8) := (blk_cell BK157.out 8).trans rfl
     have hfz14_0 := blk_frozen BK157.out 0
     have hfz14_1 := blk_frozen BK157.out 1
     have hfz14_2 := blk_frozen BK157.out 2
     have hfz14_3 := blk_frozen BK157.out 3
     have hfz14_4 := blk_frozen BK157.out 4
     have hfz14_5 := blk_frozen BK157.out 5
     have hfz14_6 := blk_frozen BK157.out 6
     have hfz14_7 := blk_frozen BK157.out 7
     have hfz14_8 := blk_frozen BK157.out 8
     go_wp2
     go_meet
     case rel => exact ⟨_, (((l0_8.length : Int) != (l1_8.length : Int))), (by first | rfl | (simp; done) | (simp [*]; done)), H', ⟨by first | omega | exact Nat.le_refl _⟩, ⟨by exact BK156.out⟩, ⟨by exact BK157.out⟩, ⟨by with_reducible exact HB.out⟩⟩
    ·
     rw [if_neg c11] at H
     have c11b0 : ((l0_7.length : Int) == (l1_7.length : Int)) = false := beq_eq_false_iff_ne.mpr c11
     have c11b1 : ((l0_7.length : Int) != (l1_7.length : Int)) = true := bne_iff_ne.mpr c11
     have c11b2 : (l0_7.length == l1_7.length) = false := by first | simpa using c11 | (simp at c11 ⊢; omega)
     have H' := Aside0.mk H
     clear H
     have hnb15 := NB156_157.out
     have hnc15 := NB157_156.out
     have hcz16_0 : w5.cell? ⟨gb156, 0, none⟩ = some (.int .i64 a0_0) := (blk_cell BK156.out 0).trans rfl
     have hcz16_1 : w5.cell? ⟨gb156, 1, none⟩ = some (.int .i64 a0_1) := (blk_cell BK156.out 1).trans rfl
     have hcz16_2 : w5.cell? ⟨gb156, 2, none⟩ = some (.int .i64 a0_2) := (blk_cell BK156.out 2).trans rfl
     have hcz16_3 : w5.cell? ⟨gb156, 3, none⟩ = some (.int .i64 a0_3) := (blk_cell BK156.out 3).trans rfl
     have hcz16_4 : w5.cell? ⟨gb156, 4, none⟩ = some (.int .i64 a0_4) := (blk_cell BK156.out 4).trans rfl
     have hcz16_5 : w5.cell? ⟨gb156, 5, none⟩ = some (.int .i64 a0_5) := (blk_cell BK156.out 5).trans rfl
     have hcz16_6 : w5.cell? ⟨gb156, 6, none⟩ = some (.int .i64 a0_6) := (blk_cell BK156.out 6).trans rfl
     have hcz16_7 : w5.cell? ⟨gb156, 7, none⟩ = some (.slice A0_7 l0_7.length c0_7) := (blk_cell BK156.out 7).trans rfl
     have hcz16_8 : w5.cell? ⟨gb156, 8, none⟩ = some (.slice A0_8 l0_8.length c0_8) := (blk_cell BK156.out 8).trans rfl
     have hfz16_0 := blk_frozen BK156.out 0
     have hfz16_1 := blk_frozen BK156.out 1
     have hfz16_2 := blk_frozen BK156.out 2
     have hfz16_3 := blk_frozen BK156.out 3
     have hfz16_4 := blk_frozen BK156.out 4
     have hfz16_5 := blk_frozen BK156.out 5
     have hfz16_6 := blk_frozen BK156.out 6
     have hfz16_7 := blk_frozen BK156.out 7
     have hfz16_8 := blk_frozen BK156.out 8
     have hcz17_0 : w5.cell? ⟨gb157, 0, none⟩ = some (.int .i64 a1_0) := (blk_cell BK157.out 0).trans rfl
     have hcz17_1 : w5.cell? ⟨gb157, 1, none⟩ = some (.int .i64 a1_1) := (blk_cell BK157.out 1).trans rfl
     have hcz17_2 : w5.cell? ⟨gb157, 2, none⟩ = some (.int .i64 a1_2) := (blk_cell BK157.out 2).trans rfl
     have hcz17_3 : w5.cell? ⟨gb157, 3, none⟩ = some (.int .i64 a1_3) := (blk_cell BK157.out 3).trans rfl
     have hcz17_4 : w5.cell? ⟨gb157, 4, none⟩ = some (.int .i64 a1_4) := (blk_cell BK157.out 4).trans rfl
     have hcz17_5 : w5.cell? ⟨gb157, 5, none⟩ = some (.int .i64 a1_5) := (blk_cell BK157.out 5).trans rfl
     have hcz17_6 : w5.cell? ⟨gb157, 6, none⟩ = some (.int .i64 a1_6) := (blk_cell BK157.out 6).trans rfl
     have hcz17_7 : w5.cell? ⟨gb157, 7, none⟩ = some (.slice A1_7 l1_7.length c1_7) := (blk_cell BK157.out 7).trans rfl
     have hcz17_8 : w5.cell? ⟨gb157, 8, none⟩ = some (.slice A1_8 l1_8.length c1_8) := (blk_cell BK157.out 8).trans rfl
     have hfz17_0 := blk_frozen BK157.out 0
     have hfz17_1 := blk_frozen BK157.out 1
     have hfz17_2 := blk_frozen BK157.out 2
     have hfz17_3 := blk_frozen BK157.out 3
     have hfz17_4 := blk_frozen BK157.out 4
     have hfz17_5 := blk_frozen BK157.out 5
     have hfz17_6 := blk_frozen BK157.out 6
     have hfz17_7 := blk_frozen BK157.out 7
     have hfz17_8 := blk_frozen BK157.out 8
     go_wp2
     go_meet
     case rel => exact ⟨_, (true), (by first | rfl | (simp; done) | (simp [*]; done)), H', ⟨by first | omega | exact Nat.le_refl _⟩, ⟨by exact BK156.out⟩, ⟨by exact BK157.out⟩, ⟨by with_reducible exact HB.out⟩⟩
   ·
    rw [if_neg c10] at H
    have c10b0 : (a0_6 == a1_6) = false := beq_eq_false_iff_ne.mpr c10
    have c10b1 : (a0_6 != a1_6) = true := bne_iff_ne.mpr c10
    have H' := Aside0.mk H
    clear H
    have hnb18 := NB156_157.out
    have hnc18 := NB157_156.out
    have hcz19_0 : w5.cell? ⟨gb156, 0, none⟩ = some (.int .i64 a0_0) := (blk_cell BK156.out 0).trans rfl
    have hcz19_1 : w5.cell? ⟨gb156, 1, none⟩ = some (.int .i64 a0_1) := (blk_cell BK156.out 1).trans rfl
    have hcz19_2 : w5.cell? ⟨gb156, 2, none⟩ = some (.int .i64 a0_2) := (blk_cell BK156.out 2).trans rfl
    have hcz19_3 : w5.cell? ⟨gb156, 3, none⟩ = some (.int .i64 a0_3) := (blk_cell BK156.out 3).trans rfl
    have hcz19_4 : w5.cell? ⟨gb156, 4, none⟩ = some (.int .i64 a0_4) := (blk_cell BK156.out 4).trans rfl
    have hcz19_5 : w5.cell? ⟨gb156, 5, none⟩ = some (.int .i64 a0_5) := (blk_cell BK156.out 5).trans rfl
    have hcz19_6 : w5.cell? ⟨gb156, 6, none⟩ = some (.int .i64 a0_6) := (blk_cell BK156.out 6).trans rfl
    have hcz19_7 : w5.cell? ⟨gb156, 7, none⟩ = some (.slice A0_7 l0_7.length c0_7) := (blk_cell BK156.out 7).trans rfl
    have hcz19_8 : w5.cell? ⟨gb156, 8, none⟩ = some (.slice A0_8 l0_8.length c0_8) := (blk_cell BK156.out 8).trans rfl
    have hfz19_0 := blk_frozen BK156.out 0
    have hfz19_1 := blk_frozen BK156.out 1
    have hfz19_2 := blk_frozen BK156.out 2
    have hfz19_3 := blk_frozen BK156.out 3
    have hfz19_4 := blk_frozen BK156.out 4
    have hfz19_5 := blk_frozen BK156.out 5
    have hfz19_6 := blk_frozen BK156.out 6
    have hfz19_7 := blk_frozen BK156.out 7
    have hfz19_8 := blk_frozen BK156.out 8
    have hcz20_0 : w5.cell? ⟨gb157, 0, none⟩ = some (.int .i64 a1_0) := (blk_cell BK157.out 0).trans rfl
    have hcz20_1 : w5.cell? ⟨gb157, 1, none⟩ = some (.int .i64 a1_1) := (blk_cell BK157.out 1).trans rfl
    have hcz20_2 : w5.cell? ⟨gb157, 2, none⟩ = some (.int .i64 a1_2) := (blk_cell BK157.out 2).trans rfl
    have hcz20_3 : w5.cell? ⟨gb157, 3, none⟩ = some (.int .i64 a1_3) := (blk_cell BK157.out 3).trans rfl
    have hcz20_4 : w5.cell? ⟨gb157, 4, none⟩ = some (.int .i64 a1_4) := (blk_cell BK157.out 4).trans rfl
    have hcz20_5 : w5.cell? ⟨gb157, 5, none⟩ = some (.int .i64 a1_5) := (blk_cell BK157.out 5).trans rfl
    have hcz20_6 : w5.cell? ⟨gb157, 6, none⟩ = some (.int .i64 a1_6) := (blk_cell BK157.out 6).trans rfl
    have hcz20_7 : w5.cell? ⟨gb157, 7, none⟩ = some (.slice A1_7 l1_7.length c1_7) := (blk_cell BK157.out 7).trans rfl
    have hcz20_8 : w5.cell? ⟨gb157, 8, none⟩ = some (.slice A1_8 l1_8.length c1_8) := (blk_cell BK157.out 8).trans rfl
    have hfz20_0 := blk_frozen BK157.out 0
    have hfz20_1 := blk_frozen BK157.out 1
    have hfz20_2 := blk_frozen BK157.out 2
    have hfz20_3 := blk_frozen BK157.out 3
    have hfz20_4 := blk_frozen BK157.out 4
    have hfz20_5 := blk_frozen BK157.out 5
    have hfz20_6 := blk_frozen BK157.out 6
    have hfz20_7 := blk_frozen BK157.out 7
    have hfz20_8 := blk_frozen BK157.out 8
    go_wp2
    go_meet
    case rel => exact ⟨_, (true), (by first | rfl | (simp; done) | (simp [*]; done)), H', ⟨by first | omega | exact Nat.le_refl _⟩, ⟨by exact BK156.out⟩, ⟨by exact BK157.out⟩, ⟨by with_reducible exact HB.out⟩⟩
 case rest =>
  clear HC3
  try clear c1
  try clear p2
  try clear c3
  try clear c6
  try clear c6b0
  try clear c7
  try clear c10
  try clear c10b0
  try clear c10b1
  try clear c11
  try clear c11b0
  try clear c11b1
  try clear c11b2
  try clear c12
  try clear c15
  try clear c18
  try clear hcz13_0
  try clear hcz13_1
  try clear hcz13_2
  try clear hcz13_3
  try clear hcz13_4
  try clear hcz13_5
  try clear hcz13_6
  try clear hcz13_7
  try clear hcz13_8
  try clear hcz14_0
  try clear hcz14_1
  try clear hcz14_2
  try clear hcz14_3
  try clear hcz14_4
  try clear hcz14_5
  try clear hcz14_6
  try clear hcz14_7
  try clear hcz14_8
  try clear hcz16_0
  try clear hcz16_1
  try clear hcz16_2
  try clear hcz16_3
  try clear hcz16_4
  try clear hcz16_5
  try clear hcz16_6
  try clear hcz16_7
  try clear hcz16_8
  try clear hcz17_0
  try clear hcz17_1
  try clear hcz17_2
  try clear hcz17_3
  try clear hcz17_4
  try clear hcz17_5
  try clear hcz17_6
  try clear hcz17_7
  try clear hcz17_8
  try clear hcz19_0
  try clear hcz19_1
  try clear hcz19_2
  try clear hcz19_3
  try clear hcz19_4
  try clear hcz19_5
  try clear hcz19_6
  try clear hcz19_7
  try clear hcz19_8
  try clear hcz20_0
  try clear hcz20_1
  try clear hcz20_2
  try clear hcz20_3
  try clear hcz20_4
  try clear hcz20_5
  try clear hcz20_6
  try clear hcz20_7
  try clear hcz20_8
  try clear hcz8_0
  try clear hcz8_1
  try clear hcz8_2
  try clear hcz8_3
  try clear hcz8_4
  try clear hcz8_5
  try clear hcz8_6
  try clear hcz8_7
  try clear hcz8_8
  try clear hcz9_0
  try clear hcz9_1
  try clear hcz9_2
  try clear hcz9_3
  try clear hcz9_4
  try clear hcz9_5
  try clear hcz9_6
  try clear hcz9_7
  try clear hcz9_8
  try clear hfz13_0
  try clear hfz13_1
  try clear hfz13_2
  try clear hfz13_3
  try clear hfz13_4
  try clear hfz13_5
  try clear hfz13_6
  try clear hfz13_7
  try clear hfz13_8
  try clear hfz14_0
  try clear hfz14_1
  try clear hfz14_2
  try clear hfz14_3
  try clear hfz14_4
  try clear hfz14_5
  try clear hfz14_6
  try clear hfz14_7
  try clear hfz14_8
  try clear hfz16_0
  try clear hfz16_1
  try clear hfz16_2
  try clear hfz16_3
  try clear hfz16_4
  try clear hfz16_5
  try clear hfz16_6
  try clear hfz16_7
  try clear hfz16_8
  try clear hfz17_0
  try clear hfz17_1
  try clear hfz17_2
  try clear hfz17_3
  try clear hfz17_4
  try clear hfz17_5
  try clear hfz17_6
  try clear hfz17_7
  try clear hfz17_8
  try clear hfz19_0
  try clear hfz19_1
  try clear hfz19_2
  try clear hfz19_3
  try clear hfz19_4
  try clear hfz19_5
  try clear hfz19_6
  try clear hfz19_7
  try clear hfz19_8
  try clear hfz20_0
  try clear hfz20_1
  try clear hfz20_2
  try clear hfz20_3
  try clear hfz20_4
  try clear hfz20_5
  try clear hfz20_6
  try clear hfz20_7
  try clear hfz20_8
  try clear hfz8_0
  try clear hfz8_1
  try clear hfz8_2
  try clear hfz8_3
  try clear hfz8_4
  try clear hfz8_5
  try clear hfz8_6
  try clear hfz8_7
  try clear hfz8_8
  try clear hfz9_0
  try clear hfz9_1
  try clear hfz9_2
  try clear hfz9_3
  try clear hfz9_4
  try clear hfz9_5
  try clear hfz9_6
  try clear hfz9_7
  try clear hfz9_8
  obtain ⟨kq, x39_2, rfl, HA, HJ2, BK156, BK157, HB⟩ := hcut
  cases kq with
  | zero => exact absurd HA.out (by simp [credenzaref18_Same.j0])
  | succ kj2 =>
   have H := HA.out
   clear HA
   simp only [credenzaref18_Same.j0] at H
   by_cases c21 : x39_2 = true
   ·
    subst c21
    have H1 : (some false) = some r := by rw [if_pos rfl] at H; exact H
    clear H
    have H := H1
    clear H1
    obtain rfl := Option.some.inj H
    go_wp2
    go_ret
    exact ⟨by first | rfl | (simp [errW_none, errW_some] <;> rfl) | (simp [*, errW_none, errW_some] <;> rfl), by with_reducible exact HB.out⟩
   ·
    replace c21 := Bool.eq_false_iff.mpr c21
    subst c21
    have H1 : (credenzaref18_Same.l0 kj2 0 a0_0 a0_1 a0_2 a0_3 a0_4 a0_5 a0_6 l0_7 l0_8 a1_0 a1_1 a1_2 a1_3 a1_4 a1_5 a1_6 l1_7 l1_8) = some r := by rw [if_neg (show ¬ (false = true) by decide)] at H; exact H
    clear H
    have H := H1
    clear H1
    have H' := Aside0.mk H
    clear H
    go_wp2
    go_loopg [5] kj2 (fun kq v5 w' => ∃ (x5_2 : Int), v5 = .int .i64 x5_2 ∧ Aside0 (credenzaref18_Same.l0 kq x5_2 a0_0 a0_1 a0_2 a0_3 a0_4 a0_5 a0_6 l0_7 l0_8 a1_0 a1_1 a1_2 a1_3 a1_4 a1_5 a1_6 l1_7 l1_8 = some r) ∧ Aside0 (kq ≤ kj2) ∧ Aside0 (w'.heap[gb156]? = some (.cells #[.int .i64 a0_0, .int .i64 a0_1, .int .i64 a0_2, .int .i64 a0_3, .int .i64 a0_4, .int .i64 a0_5, .int .i64 a0_6, (.slice A0_7 l0_7.length c0_7), (.slice A0_8 l0_8.length c0_8)] 73 (0, 0))) ∧ Aside0 (w'.heap[gb157]? = some (.cells #[.int .i64 a1_0, .int .i64 a1_1, .int .i64 a1_2, .int .i64 a1_3, .int .i64 a1_4, .int .i64 a1_5, .int .i64 a1_6, (.slice A1_7 l1_7.length c1_7), (.slice A1_8 l1_8.length c1_8)] 73 (0, 0))) ∧ Aside0 (Below w.heap.size w w'))
    case atStart => exact ⟨(0), (by first | rfl | (simp; done) | (simp [*]; done)), H', ⟨Nat.le_refl _⟩, ⟨by exact BK156.out⟩, ⟨by exact BK157.out⟩, ⟨by with_reducible exact HB.out⟩⟩
    case round =>
     clear H'
     try clear c1
     try clear c2
     try clear p2
     try clear c3
     try clear c6
     try clear c6b0
     try clear c7
     try clear c10
     try clear c10b0
     try clear c10b1
     try clear c11
     try clear c11b0
     try clear c11b1
     try clear c11b2
     try clear c12
     try clear c15
     try clear c18
     try clear c21
     try clear hcz13_0
     try clear hcz13_1
     try clear hcz13_2
     try clear hcz13_3
     try clear hcz13_4
     try clear hcz13_5
     try clear hcz13_6
     try clear hcz13_7
     try clear hcz13_8
     try clear hcz14_0
     try clear hcz14_1
     try clear hcz14_2
     try clear hcz14_3
     try clear hcz14_4
     try clear hcz14_5
     try clear hcz14_6
     try clear hcz14_7
     try clear hcz14_8
     try clear hcz16_0
     try clear hcz16_1
     try clear hcz16_2
     try clear hcz16_3
     try clear hcz16_4
     try clear hcz16_5
     try clear hcz16_6
     try clear hcz16_7
     try clear hcz16_8
     try clear hcz17_0
     try clear hcz17_1
     try clear hcz17_2
     try clear hcz17_3
     try clear hcz17_4
     try clear hcz17_5
     try clear hcz17_6
     try clear hcz17_7
     try clear hcz17_8
     try clear hcz19_0
     try clear hcz19_1
     try clear hcz19_2
     try clear hcz19_3
     try clear hcz19_4
     try clear hcz19_5
     try clear hcz19_6
     try clear hcz19_7
     try clear hcz19_8
     try clear hcz20_0
     try clear hcz20_1
     try clear hcz20_2
     try clear hcz20_3
     try clear hcz20_4
     try clear hcz20_5
     try clear hcz20_6
     try clear hcz20_7
     try clear hcz20_8
     try clear hcz8_0
     try clear hcz8_1
     try clear hcz8_2
     try clear hcz8_3
     try clear hcz8_4
     try clear hcz8_5
     try clear hcz8_6
     try clear hcz8_7
     try clear hcz8_8
     try clear hcz9_0
     try clear hcz9_1
     try clear hcz9_2
     try clear hcz9_3
     try clear hcz9_4
     try clear hcz9_5
     try clear hcz9_6
     try clear hcz9_7
     try clear hcz9_8
     try clear hfz13_0
     try clear hfz13_1
     try clear hfz13_2
     try clear hfz13_3
     try clear hfz13_4
     try clear hfz13_5
     try clear hfz13_6
     try clear hfz13_7
     try clear hfz13_8
     try clear hfz14_0
     try clear hfz14_1
     try clear hfz14_2
     try clear hfz14_3
     try clear hfz14_4
     try clear hfz14_5
     try clear hfz14_6
     try clear hfz14_7
     try clear hfz14_8
     try clear hfz16_0
     try clear hfz16_1
     try clear hfz16_2
     try clear hfz16_3
     try clear hfz16_4
     try clear hfz16_5
     try clear hfz16_6
     try clear hfz16_7
     try clear hfz16_8
     try clear hfz17_0
     try clear hfz17_1
     try clear hfz17_2
     try clear hfz17_3
     try clear hfz17_4
     try clear hfz17_5
     try clear hfz17_6
     try clear hfz17_7
     try clear hfz17_8
     try clear hfz19_0
     try clear hfz19_1
     try clear hfz19_2
     try clear hfz19_3
     try clear hfz19_4
     try clear hfz19_5
     try clear hfz19_6
     try clear hfz19_7
     try clear hfz19_8
     try clear hfz20_0
     try clear hfz20_1
     try clear hfz20_2
     try clear hfz20_3
     try clear hfz20_4
     try clear hfz20_5
     try clear hfz20_6
     try clear hfz20_7
     try clear hfz20_8
     try clear hfz8_0
     try clear hfz8_1
     try clear hfz8_2
     try clear hfz8_3
     try clear hfz8_4
     try clear hfz8_5
     try clear hfz8_6
     try clear hfz8_7
     try clear hfz8_8
     try clear hfz9_0
     try clear hfz9_1
     try clear hfz9_2
     try clear hfz9_3
     try clear hfz9_4
     try clear hfz9_5
     try clear hfz9_6
     try clear hfz9_7
     try clear hfz9_8
     try clear p2
     obtain ⟨x5_2, rfl, HA, HK2, BK156, BK157, HB⟩ := hrel
     cases gk with
     | zero => exact absurd HA.out (by simp [credenzaref18_Same.l0])
     | succ k2 =>
      have H := HA.out
      clear HA
      simp only [credenzaref18_Same.l0] at H
      by_cases c22 : x5_2 < (l0_7.length : Int)
      ·
       rw [if_pos c22] at H
       have c22b0 : decide (x5_2 < (l0_7.length : Int)) = true := decide_eq_true c22
       clear c22
       by_cases c23 : 0 ≤ x5_2
       case neg => (rw [if_neg c23] at H; exact absurd H (by simp))
       rw [if_pos c23] at H
       have c23b0 : decide (0 ≤ x5_2) = true := decide_eq_true c23
       clear c23
       by_cases c24 : x5_2 < (l1_7.length : Int)
       case neg => (rw [if_neg c24] at H; exact absurd H (by simp))
       rw [if_pos c24] at H
       have c24b0 : decide (x5_2 < (l1_7.length : Int)) = true := decide_eq_true c24
       clear c24
       by_cases c25 : (rd l0_7 x5_2) = (rd l1_7 x5_2)
       ·
        rw [if_pos c25] at H
        have c25b0 : ((rd l0_7 x5_2) == (rd l1_7 x5_2)) = true := beq_iff_eq.mpr c25
        have c25b1 : ((rd l0_7 x5_2) != (rd l1_7 x5_2)) = false := bne_eq_false_iff_eq.mpr c25
        clear c25
        have H' := Aside0.mk H
        clear H
        have hnb26 := NB156_157.out
        have hnc26 := NB157_156.out
        have hcz27_0 : wr.cell? ⟨gb156, 0, none⟩ = some (.int .i64 a0_0) := (blk_cell BK156.out 0).trans rfl
        have hcz27_1 : wr.cell? ⟨gb156, 1, none⟩ = some (.int .i64 a0_1) := (blk_cell BK156.out 1).trans rfl
        have hcz27_2 : wr.cell? ⟨gb156, 2, none⟩ = some (.int .i64 a0_2) := (blk_cell BK156.out 2).trans rfl
        have hcz27_3 : wr.cell? ⟨gb156, 3, none⟩ = some (.int .i64 a0_3) := (blk_cell BK156.out 3).trans rfl
        have hcz27_4 : wr.cell? ⟨gb156, 4, none⟩ = some (.int .i64 a0_4) := (blk_cell BK156.out 4).trans rfl
        have hcz27_5 : wr.cell? ⟨gb156, 5, none⟩ = some (.int .i64 a0_5) := (blk_cell BK156.out 5).trans rfl
        have hcz27_6 : wr.cell? ⟨gb156, 6, none⟩ = some (.int .i64 a0_6) := (blk_cell BK156.out 6).trans rfl
        have hcz27_7 : wr.cell? ⟨gb156, 7, none⟩ = some (.slice A0_7 l0_7.length c0_7) := (blk_cell BK156.out 7).trans rfl
        have hcz27_8 : wr.cell? ⟨gb156, 8, none⟩ = some (.slice A0_8 l0_8.length c0_8) := (blk_cell BK156.out 8).trans rfl
        have hfz27_0 := blk_frozen BK156.out 0
        have hfz27_1 := blk_frozen BK156.out 1
        have hfz27_2 := blk_frozen BK156.out 2
        have hfz27_3 := blk_frozen BK156.out 3
        have hfz27_4 := blk_frozen BK156.out 4
        have hfz27_5 := blk_frozen BK156.out 5
        have hfz27_6 := blk_frozen BK156.out 6
        have hfz27_7 := blk_frozen BK156.out 7
        have hfz27_8 := blk_frozen BK156.out 8
        try go_wp2
        have n0_ := Aside0.mk (blk_drew BK156.out)
        have n1_ := Aside0.mk (blk_drew BK157.out)
        have n2_ := Aside0.mk (below_drew1 HB.out)
        clear BK156
        clear BK157
        clear HB
        have BK156 := n0_
        have BK157 := n1_
        have HB := n2_
        clear n0_ n1_ n2_
        have p158 : 0 ≤ (x5_2 : Int) := of_decide_eq_true (by first | (with_reducible assumption) | assumption)
        have q158 : x5_2 < (l0_7.length : Int) := of_decide_eq_true (by first | (with_reducible assumption) | assumption)
        obtain ⟨ad158, e158, hx158_0⟩ := Kd.at_int HR0_7.out x5_2 p158 q158
        have hw158_0 := hx158_0
        cases e158
        replace hx158_0 := (HB.out.cell (World.block_lt_of_cell? w _ hx158_0)).trans hx158_0
        replace p158 := eq_true p158
        replace q158 := eq_true q158
        have p159 : 0 ≤ (x5_2 : Int) := of_decide_eq_true (by first | (with_reducible assumption) | assumption)
        have q159 : x5_2 < (l1_7.length : Int) := of_decide_eq_true (by first | (with_reducible assumption) | assumption)
        obtain ⟨ad159, e159, hx159_0⟩ := Kd.at_int HR1_7.out x5_2 p159 q159
        have hw159_0 := hx159_0
        cases e159
        replace hx159_0 := (HB.out.cell (World.block_lt_of_cell? w _ hx159_0)).trans hx159_0
        replace p159 := eq_true p159
        replace q159 := eq_true q159
        refine start_ (n := 11) (S := fun w' => w'.cell? ⟨gb156, 0, none⟩ = some (.int .i64 a0_0) ∧ w'.cell? ⟨gb156, 1, none⟩ = some (.int .i64 a0_1) ∧ w'.cell? ⟨gb156, 2, none⟩ = some (.int .i64 a0_2) ∧ w'.cell? ⟨gb156, 3, none⟩ = some (.int .i64 a0_3) ∧ w'.cell? ⟨gb156, 4, none⟩ = some (.int .i64 a0_4) ∧ w'.cell? ⟨gb156, 5, none⟩ = some (.int .i64 a0_5) ∧ w'.cell? ⟨gb156, 6, none⟩ = some (.int .i64 a0_6) ∧ w'.cell? ⟨gb156, 7, none⟩ = some (.slice (some ad158) l0_7.length c0_7) ∧ w'.cell? ⟨gb156, 8, none⟩ = some (.slice A0_8 l0_8.length c0_8) ∧ w'.cell? ⟨gb157, 0, none⟩ = some (.int .i64 a1_0) ∧ w'.cell? ⟨gb157, 1, none⟩ = some (.int .i64 a1_1) ∧ w'.cell? ⟨gb157, 2, none⟩ = some (.int .i64 a1_2) ∧ w'.cell? ⟨gb157, 3, none⟩ = some (.int .i64 a1_3) ∧ w'.cell? ⟨gb157, 4, none⟩ = some (.int .i64 a1_4) ∧ w'.cell? ⟨gb157, 5, none⟩ = some (.int .i64 a1_5) ∧ w'.cell? ⟨gb157, 6, none⟩ = some (.int .i64 a1_6) ∧ w'.cell? ⟨gb157, 7, none⟩ = some (.slice (some ad159) l1_7.length c1_7) ∧ w'.cell? ⟨gb157, 8, none⟩ = some (.slice A1_8 l1_8.length c1_8) ∧ w'.cell? (ad158.add (x5_2).toNat) = some (.int .i32 (rd l0_7 x5_2)) ∧ w'.cell? (ad159.add (x5_2).toNat) = some (.int .i32 (rd l1_7 x5_2))) (ds := []) #[false, false, false, false, false, false, false, false, false, false, false] (by kernel_rfl) rfl rfl ⟨(blk_cell BK156.out 0).trans rfl, (blk_cell BK156.out 1).trans rfl, (blk_cell BK156.out 2).trans rfl, (blk_cell BK156.out 3).trans rfl, (blk_cell BK156.out 4).trans rfl, (blk_cell BK156.out 5).trans rfl, (blk_cell BK156.out 6).trans rfl, (blk_cell BK156.out 7).trans rfl, (blk_cell BK156.out 8).trans rfl, (blk_cell BK157.out 0).trans rfl, (blk_cell BK157.out 1).trans rfl, (blk_cell BK157.out 2).trans rfl, (blk_cell BK157.out 3).trans rfl, (blk_cell BK157.out 4).trans rfl, (blk_cell BK157.out 5).trans rfl, (blk_cell BK157.out 6).trans rfl, (blk_cell BK157.out 7).trans rfl, (blk_cell BK157.out 8).trans rfl, ((HB.out.cell (World.block_lt_of_cell? w _ hw158_0)).trans hw158_0), ((HB.out.cell (World.block_lt_of_cell? w _ hw159_0)).trans hw159_0)⟩ (fun hHeld => ?_); refine with_tabW credenzaref18_Same.tab6 credenzaref18_Same.bits6 (fun HT_ HW_ => ?_)
        generalize wr.drew = w28 at BK156 BK157 HB hx158_0 hx159_0 hHeld ⊢
        refine pure_ (i := 0) (N := some 47) (v := ?_) (a' := ?_) #[true, false, false, false, false, false, false, false, false, false, false] rfl rfl (any_of HT_.out (by kernel_rfl)) (fun _ _ _ h => h) (Or.inl ⟨by rfl, ?_⟩) ?_ ?_
        rotate_left
        ·
         intro w'
         go_simp
         with_reducible rfl
        rotate_left
        ·
         simp only [Act.put, List.setIfInBounds_toArray, List.set_cons_zero, List.set_cons_succ, i64_w, i32_w, IntKind.wrap_u32]
         rfl
        refine pure_ (i := 2) (N := some 49) (v := ?_) (a' := ?_) #[true, false, true, false, false, false, false, false, false, false, false] rfl rfl (any_of HT_.out (by kernel_rfl)) (fun _ _ _ h => h) (Or.inl ⟨by rfl, ?_⟩) ?_ ?_
        rotate_left
        ·
         intro w'
         go_simp
         with_reducible rfl
        rotate_left
        ·
         simp only [Act.put, List.setIfInBounds_toArray, List.set_cons_zero, List.set_cons_succ, i64_w, i32_w, IntKind.wrap_u32]
         rfl
        refine pure_ (i := 5) (N := some 52) (v := ?_) (a' := ?_) #[true, false, true, false, false, true, false, false, false, false, false] rfl rfl (any_of HT_.out (by kernel_rfl)) (fun _ _ _ h => h) (Or.inl ⟨by rfl, ?_⟩) ?_ ?_
        rotate_left
        ·
         intro w'
         go_simp
         with_reducible rfl
        rotate_left
        ·
         simp only [Act.put, List.setIfInBounds_toArray, List.set_cons_zero, List.set_cons_succ, i64_w, i32_w, IntKind.wrap_u32]
         rfl
        refine pure_ (i := 7) (N := some 54) (v := ?_) (a' := ?_) #[true, false, true, false, false, true, false, true, false, false, false] rfl rfl (any_of HT_.out (by kernel_rfl)) (fun _ _ _ h => h) (Or.inl ⟨by rfl, ?_⟩) ?_ ?_
        rotate_left
        ·
         intro w'
         go_simp
         with_reducible rfl
        rotate_left
        ·
         simp only [Act.put, List.setIfInBounds_toArray, List.set_cons_zero, List.set_cons_succ, i64_w, i32_w, IntKind.wrap_u32]
         rfl
        refine take_ (i := 1) (N := some 48) (v := ?_) (a' := ?_) #[true, true, true, false, false, true, false, true, false, false, false] rfl rfl (take_ofW HT_.out HW_.out (by kernel_rfl)) (fun _ _ _ h => h) (Or.inl ⟨by rfl, ?_⟩) hHeld ?_ ?_
        rotate_left
        ·
         rintro w' ⟨s0, s1, s2, s3, s4, s5, s6, s7, s8, s9, s10, s11, s12, s13, s14, s15, s16, s17, s18, s19⟩
         go_simp
         with_reducible rfl
        rotate_left
        ·
         simp only [Act.put, List.setIfInBounds_toArray, List.set_cons_zero, List.set_cons_succ, i64_w, i32_w, IntKind.wrap_u32]
         rfl
        refine pure_ (i := 3) (N := some 50) (v := ?_) (a' := ?_) #[true, true, true, true, false, true, false, true, false, false, false] rfl rfl (any_of HT_.out (by kernel_rfl)) (fun _ _ _ h => h) (Or.inl ⟨by rfl, ?_⟩) ?_ ?_
        rotate_left
        ·
         intro w'
         go_simp
         with_reducible rfl
        rotate_left
        ·
         simp only [Act.put, List.setIfInBounds_toArray, List.set_cons_zero, List.set_cons_succ, i64_w, i32_w, IntKind.wrap_u32]
         rfl
        refine take_ (i := 4) (N := some 51) (v := ?_) (a' := ?_) #[true, true, true, true, true, true, false, true, false, false, false] rfl rfl (take_ofW HT_.out HW_.out (by kernel_rfl)) (fun _ _ _ h => h) (Or.inl ⟨by rfl, ?_⟩) hHeld ?_ ?_
        rotate_left
        ·
         rintro w' ⟨s0, s1, s2, s3, s4, s5, s6, s7, s8, s9, s10, s11, s12, s13, s14, s15, s16, s17, s18, s19⟩
         go_simp
         with_reducible rfl
        rotate_left
        ·
         simp only [Act.put, List.setIfInBounds_toArray, List.set_cons_zero, List.set_cons_succ, i64_w, i32_w, IntKind.wrap_u32]
         rfl
        refine take_ (i := 6) (N := some 53) (v := ?_) (a' := ?_) #[true, true, true, true, true, true, true, true, false, false, false] rfl rfl (take_ofW HT_.out HW_.out (by kernel_rfl)) (fun _ _ _ h => h) (Or.inl ⟨by rfl, ?_⟩) hHeld ?_ ?_
        rotate_left
        ·
         rintro w' ⟨s0, s1, s2, s3, s4, s5, s6, s7, s8, s9, s10, s11, s12, s13, s14, s15, s16, s17, s18, s19⟩
         go_simp
         with_reducible rfl
        rotate_left
        ·
         simp only [Act.put, List.setIfInBounds_toArray, List.set_cons_zero, List.set_cons_succ, i64_w, i32_w, IntKind.wrap_u32]
         rfl
        refine pure_ (i := 8) (N := some 55) (v := ?_) (a' := ?_) #[true, true, true, true, true, true, true, true, true, false, false] rfl rfl (any_of HT_.out (by kernel_rfl)) (fun _ _ _ h => h) (Or.inl ⟨by rfl, ?_⟩) ?_ ?_
        rotate_left
        ·
         intro w'
         go_simp
         with_reducible rfl
        rotate_left
        ·
         simp only [Act.put, List.setIfInBounds_toArray, List.set_cons_zero, List.set_cons_succ, i64_w, i32_w, IntKind.wrap_u32]
         rfl
        refine take_ (i := 9) (N := some 56) (v := ?_) (a' := ?_) #[true, true, true, true, true, true, true, true, true, true, false] rfl rfl (take_ofW HT_.out HW_.out (by kernel_rfl)) (fun _ _ _ h => h) (Or.inl ⟨by rfl, ?_⟩) hHeld ?_ ?_
        rotate_left
        ·
         rintro w' ⟨s0, s1, s2, s3, s4, s5, s6, s7, s8, s9, s10, s11, s12, s13, s14, s15, s16, s17, s18, s19⟩
         go_simp
         with_reducible rfl
        rotate_left
        ·
         simp only [Act.put, List.setIfInBounds_toArray, List.set_cons_zero, List.set_cons_succ, i64_w, i32_w, IntKind.wrap_u32]
         rfl
        refine pure_ (i := 10) (N := some 57) (v := ?_) (a' := ?_) #[true, true, true, true, true, true, true, true, true, true, true] rfl rfl (any_of HT_.out (by kernel_rfl)) (fun _ _ _ h => h) (Or.inl ⟨by rfl, ?_⟩) ?_ ?_
        rotate_left
        ·
         intro w'
         go_simp
         with_reducible rfl
        rotate_left
        ·
         simp only [Act.put, List.setIfInBounds_toArray, List.set_cons_zero, List.set_cons_succ, i64_w, i32_w, IntKind.wrap_u32]
         rfl
        refine done_ (done_of HT_.out (by kernel_rfl)) ?_
        try go_wp2
        go_roundg k2
        case measure => have := HJ2.out; have := HK2.out; omega
        case rel => exact ⟨(wrap64 (x5_2 + 1)), (by first | rfl | (simp; done) | (simp [*]; done)), H', ⟨by have := HJ2.out; have := HK2.out; omega⟩, ⟨by exact BK156.out⟩, ⟨by exact BK157.out⟩, ⟨by with_reducible exact HB.out⟩⟩
       ·
        rw [if_neg c25] at H
        have c25b0 : ((rd l0_7 x5_2) == (rd l1_7 x5_2)) = false := beq_eq_false_iff_ne.mpr c25
        have c25b1 : ((rd l0_7 x5_2) != (rd l1_7 x5_2)) = true := bne_iff_ne.mpr c25
        obtain rfl := Option.some.inj H
        have hnb29 := NB156_157.out
        have hnc29 := NB157_156.out
        have hcz30_0 : wr.cell? ⟨gb156, 0, none⟩ = some (.int .i64 a0_0) := (blk_cell BK156.out 0).trans rfl
        have hcz30_1 : wr.cell? ⟨gb156, 1, none⟩ = some (.int .i64 a0_1) := (blk_cell BK156.out 1).trans rfl
        have hcz30_2 : wr.cell? ⟨gb156, 2, none⟩ = some (.int .i64 a0_2) := (blk_cell BK156.out 2).trans rfl
        have hcz30_3 : wr.cell? ⟨gb156, 3, none⟩ = some (.int .i64 a0_3) := (blk_cell BK156.out 3).trans rfl
        have hcz30_4 : wr.cell? ⟨gb156, 4, none⟩ = some (.int .i64 a0_4) := (blk_cell BK156.out 4).trans rfl
        have hcz30_5 : wr.cell? ⟨gb156, 5, none⟩ = some (.int .i64 a0_5) := (blk_cell BK156.out 5).trans rfl
        have hcz30_6 : wr.cell? ⟨gb156, 6, none⟩ = some (.int .i64 a0_6) := (blk_cell BK156.out 6).trans rfl
        have hcz30_7 : wr.cell? ⟨gb156, 7, none⟩ = some (.slice A0_7 l0_7.length c0_7) := (blk_cell BK156.out 7).trans rfl
        have hcz30_8 : wr.cell? ⟨gb156, 8, none⟩ = some (.slice A0_8 l0_8.length c0_8) := (blk_cell BK156.out 8).trans rfl
        have hfz30_0 := blk_frozen BK156.out 0
        have hfz30_1 := blk_frozen BK156.out 1
        have hfz30_2 := blk_frozen BK156.out 2
        have hfz30_3 := blk_frozen BK156.out 3
        have hfz30_4 := blk_frozen BK156.out 4
        have hfz30_5 := blk_frozen BK156.out 5
        have hfz30_6 := blk_frozen BK156.out 6
        have hfz30_7 := blk_frozen BK156.out 7
        have hfz30_8 := blk_frozen BK156.out 8
        try go_wp2
        have n0_ := Aside0.mk (blk_drew BK156.out)
        have n1_ := Aside0.mk (blk_drew BK157.out)
        have n2_ := Aside0.mk (below_drew1 HB.out)
        clear BK156
        clear BK157
        clear HB
        have BK156 := n0_
        have BK157 := n1_
        have HB := n2_
        clear n0_ n1_ n2_
        have p158 : 0 ≤ (x5_2 : Int) := of_decide_eq_true (by first | (with_reducible assumption) | assumption)
        have q158 : x5_2 < (l0_7.length : Int) := of_decide_eq_true (by first | (with_reducible assumption) | assumption)
        obtain ⟨ad158, e158, hx158_0⟩ := Kd.at_int HR0_7.out x5_2 p158 q158
        have hw158_0 := hx158_0
        cases e158
        replace hx158_0 := (HB.out.cell (World.block_lt_of_cell? w _ hx158_0)).trans hx158_0
        replace p158 := eq_true p158
        replace q158 := eq_true q158
        have p159 : 0 ≤ (x5_2 : Int) := of_decide_eq_true (by first | (with_reducible assumption) | assumption)
        have q159 : x5_2 < (l1_7.length : Int) := of_decide_eq_true (by first | (with_reducible assumption) | assumption)
        obtain ⟨ad159, e159, hx159_0⟩ := Kd.at_int HR1_7.out x5_2 p159 q159
        have hw159_0 := hx159_0
        cases e159
        replace hx159_0 := (HB.out.cell (World.block_lt_of_cell? w _ hx159_0)).trans hx159_0
        replace p159 := eq_true p159
        replace q159 := eq_true q159
        refine start_ (n := 11) (S := fun w' => w'.cell? ⟨gb156, 0, none⟩ = some (.int .i64 a0_0) ∧ w'.cell? ⟨gb156, 1, none⟩ = some (.int .i64 a0_1) ∧ w'.cell? ⟨gb156, 2, none⟩ = some (.int .i64 a0_2) ∧ w'.cell? ⟨gb156, 3, none⟩ = some (.int .i64 a0_3) ∧ w'.cell? ⟨gb156, 4, none⟩ = some (.int .i64 a0_4) ∧ w'.cell? ⟨gb156, 5, none⟩ = some (.int .i64 a0_5) ∧ w'.cell? ⟨gb156, 6, none⟩ = some (.int .i64 a0_6) ∧ w'.cell? ⟨gb156, 7, none⟩ = some (.slice (some ad158) l0_7.length c0_7) ∧ w'.cell? ⟨gb156, 8, none⟩ = some (.slice A0_8 l0_8.length c0_8) ∧ w'.cell? ⟨gb157, 0, none⟩ = some (.int .i64 a1_0) ∧ w'.cell? ⟨gb157, 1, none⟩ = some (.int .i64 a1_1) ∧ w'.cell? ⟨gb157, 2, none⟩ = some (.int .i64 a1_2) ∧ w'.cell? ⟨gb157, 3, none⟩ = some (.int .i64 a1_3) ∧ w'.cell? ⟨gb157, 4, none⟩ = some (.int .i64 a1_4) ∧ w'.cell? ⟨gb157, 5, none⟩ = some (.int .i64 a1_5) ∧ w'.cell? ⟨gb157, 6, none⟩ = some (.int .i64 a1_6) ∧ w'.cell? ⟨gb157, 7, none⟩ = some (.slice (some ad159) l1_7.length c1_7) ∧ w'.cell? ⟨gb157, 8, none⟩ = some (.slice A1_8 l1_8.length c1_8) ∧ w'.cell? (ad158.add (x5_2).toNat) = some (.int .i32 (rd l0_7 x5_2)) ∧ w'.cell? (ad159.add (x5_2).toNat) = some (.int .i32 (rd l1_7 x5_2))) (ds := []) #[false, false, false, false, false, false, false, false, false, false, false] (by kernel_rfl) rfl rfl ⟨(blk_cell BK156.out 0).trans rfl, (blk_cell BK156.out 1).trans rfl, (blk_cell BK156.out 2).trans rfl, (blk_cell BK156.out 3).trans rfl, (blk_cell BK156.out 4).trans rfl, (blk_cell BK156.out 5).trans rfl, (blk_cell BK156.out 6).trans rfl, (blk_cell BK156.out 7).trans rfl, (blk_cell BK156.out 8).trans rfl, (blk_cell BK157.out 0).trans rfl, (blk_cell BK157.out 1).trans rfl, (blk_cell BK157.out 2).trans rfl, (blk_cell BK157.out 3).trans rfl, (blk_cell BK157.out 4).trans rfl, (blk_cell BK157.out 5).trans rfl, (blk_cell BK157.out 6).trans rfl, (blk_cell BK157.out 7).trans rfl, (blk_cell BK157.out 8).trans rfl, ((HB.out.cell (World.block_lt_of_cell? w _ hw158_0)).trans hw158_0), ((HB.out.cell (World.block_lt_of_cell? w _ hw159_0)).trans hw159_0)⟩ (fun hHeld => ?_); refine with_tabW credenzaref18_Same.tab6 credenzaref18_Same.bits6 (fun HT_ HW_ => ?_)
        generalize wr.drew = w31 at BK156 BK157 HB hx158_0 hx159_0 hHeld ⊢
        refine pure_ (i := 0) (N := some 47) (v := ?_) (a' := ?_) #[true, false, false, false, false, false, false, false, false, false, false] rfl rfl (any_of HT_.out (by kernel_rfl)) (fun _ _ _ h => h) (Or.inl ⟨by rfl, ?_⟩) ?_ ?_
        rotate_left
        ·
         intro w'
         go_simp
         with_reducible rfl
        rotate_left
        ·
         simp only [Act.put, List.setIfInBounds_toArray, List.set_cons_zero, List.set_cons_succ, i64_w, i32_w, IntKind.wrap_u32]
         rfl
        refine pure_ (i := 2) (N := some 49) (v := ?_) (a' := ?_) #[true, false, true, false, false, false, false, false, false, false, false] rfl rfl (any_of HT_.out (by kernel_rfl)) (fun _ _ _ h => h) (Or.inl ⟨by rfl, ?_⟩) ?_ ?_
        rotate_left
        ·
         intro w'
         go_simp
         with_reducible rfl
        rotate_left
        ·
         simp only [Act.put, List.setIfInBounds_toArray, List.set_cons_zero, List.set_cons_succ, i64_w, i32_w, IntKind.wrap_u32]
         rfl
        refine pure_ (i := 5) (N := some 52) (v := ?_) (a' := ?_) #[true, false, true, false, false, true, false, false, false, false, false] rfl rfl (any_of HT_.out (by kernel_rfl)) (fun _ _ _ h => h) (Or.inl ⟨by rfl, ?_⟩) ?_ ?_
        rotate_left
        ·
         intro w'
         go_simp
         with_reducible rfl
        rotate_left
        ·
         simp only [Act.put, List.setIfInBounds_toArray, List.set_cons_zero, List.set_cons_succ, i64_w, i32_w, IntKind.wrap_u32]
         rfl
        refine pure_ (i := 7) (N := some 54) (v := ?_) (a' := ?_) #[true, false, true, false, false, true, false, true, false, false, false] rfl rfl (any_of HT_.out (by kernel_rfl)) (fun _ _ _ h => h) (Or.inl ⟨by rfl, ?_⟩) ?_ ?_
        rotate_left
        ·
         intro w'
         go_simp
         with_reducible rfl
        rotate_left
        ·
         simp only [Act.put, List.setIfInBounds_toArray, List.set_cons_zero, List.set_cons_succ, i64_w, i32_w, IntKind.wrap_u32]
         rfl
        refine take_ (i := 1) (N := some 48) (v := ?_) (a' := ?_) #[true, true, true, false, false, true, false, true, false, false, false] rfl rfl (take_ofW HT_.out HW_.out (by kernel_rfl)) (fun _ _ _ h => h) (Or.inl ⟨by rfl, ?_⟩) hHeld ?_ ?_
        rotate_left
        ·
         rintro w' ⟨s0, s1, s2, s3, s4, s5, s6, s7, s8, s9, s10, s11, s12, s13, s14, s15, s16, s17, s18, s19⟩
         go_simp
         with_reducible rfl
        rotate_left
        ·
         simp only [Act.put, List.setIfInBounds_toArray, List.set_cons_zero, List.set_cons_succ, i64_w, i32_w, IntKind.wrap_u32]
         rfl
        refine pure_ (i := 3) (N := some 50) (v := ?_) (a' := ?_) #[true, true, true, true, false, true, false, true, false, false, false] rfl rfl (any_of HT_.out (by kernel_rfl)) (fun _ _ _ h => h) (Or.inl ⟨by rfl, ?_⟩) ?_ ?_
        rotate_left
        ·
         intro w'
         go_simp
         with_reducible rfl
        rotate_left
        ·
         simp only [Act.put, List.setIfInBounds_toArray, List.set_cons_zero, List.set_cons_succ, i64_w, i32_w, IntKind.wrap_u32]
         rfl
        refine take_ (i := 4) (N := some 51) (v := ?_) (a' := ?_) #[true, true, true, true, true, true, false, true, false, false, false] rfl rfl (take_ofW HT_.out HW_.out (by kernel_rfl)) (fun _ _ _ h => h) (Or.inl ⟨by rfl, ?_⟩) hHeld ?_ ?_
        rotate_left
        ·
         rintro w' ⟨s0, s1, s2, s3, s4, s5, s6, s7, s8, s9, s10, s11, s12, s13, s14, s15, s16, s17, s18, s19⟩
         go_simp
         with_reducible rfl
        rotate_left
        ·
         simp only [Act.put, List.setIfInBounds_toArray, List.set_cons_zero, List.set_cons_succ, i64_w, i32_w, IntKind.wrap_u32]
         rfl
        refine take_ (i := 6) (N := some 53) (v := ?_) (a' := ?_) #[true, true, true, true, true, true, true, true, false, false, false] rfl rfl (take_ofW HT_.out HW_.out (by kernel_rfl)) (fun _ _ _ h => h) (Or.inl ⟨by rfl, ?_⟩) hHeld ?_ ?_
        rotate_left
        ·
         rintro w' ⟨s0, s1, s2, s3, s4, s5, s6, s7, s8, s9, s10, s11, s12, s13, s14, s15, s16, s17, s18, s19⟩
         go_simp
         with_reducible rfl
        rotate_left
        ·
         simp only [Act.put, List.setIfInBounds_toArray, List.set_cons_zero, List.set_cons_succ, i64_w, i32_w, IntKind.wrap_u32]
         rfl
        refine pure_ (i := 8) (N := some 55) (v := ?_) (a' := ?_) #[true, true, true, true, true, true, true, true, true, false, false] rfl rfl (any_of HT_.out (by kernel_rfl)) (fun _ _ _ h => h) (Or.inl ⟨by rfl, ?_⟩) ?_ ?_
        rotate_left
        ·
         intro w'
         go_simp
         with_reducible rfl
        rotate_left
        ·
         simp only [Act.put, List.setIfInBounds_toArray, List.set_cons_zero, List.set_cons_succ, i64_w, i32_w, IntKind.wrap_u32]
         rfl
        refine take_ (i := 9) (N := some 56) (v := ?_) (a' := ?_) #[true, true, true, true, true, true, true, true, true, true, false] rfl rfl (take_ofW HT_.out HW_.out (by kernel_rfl)) (fun _ _ _ h => h) (Or.inl ⟨by rfl, ?_⟩) hHeld ?_ ?_
        rotate_left
        ·
         rintro w' ⟨s0, s1, s2, s3, s4, s5, s6, s7, s8, s9, s10, s11, s12, s13, s14, s15, s16, s17, s18, s19⟩
         go_simp
         with_reducible rfl
        rotate_left
        ·
         simp only [Act.put, List.setIfInBounds_toArray, List.set_cons_zero, List.set_cons_succ, i64_w, i32_w, IntKind.wrap_u32]
         rfl
        refine pure_ (i := 10) (N := some 57) (v := ?_) (a' := ?_) #[true, true, true, true, true, true, true, true, true, true, true] rfl rfl (any_of HT_.out (by kernel_rfl)) (fun _ _ _ h => h) (Or.inl ⟨by rfl, ?_⟩) ?_ ?_
        rotate_left
        ·
         intro w'
         go_simp
         with_reducible rfl
        rotate_left
        ·
         simp only [Act.put, List.setIfInBounds_toArray, List.set_cons_zero, List.set_cons_succ, i64_w, i32_w, IntKind.wrap_u32]
         rfl
        refine done_ (done_of HT_.out (by kernel_rfl)) ?_
        try go_wp2
        go_ret
        exact ⟨by first | rfl | (simp [errW_none, errW_some] <;> rfl) | (simp [*, errW_none, errW_some] <;> rfl), by with_reducible exact HB.out⟩
      ·
       rw [if_neg c22] at H
       have c22b0 : decide (x5_2 < (l0_7.length : Int)) = false := decide_eq_false c22
       clear c22
       have H' := Aside0.mk H
       clear H
       have hnb32 := NB156_157.out
       have hnc32 := NB157_156.out
       have hcz33_0 : wr.cell? ⟨gb156, 0, none⟩ = some (.int .i64 a0_0) := (blk_cell BK156.out 0).trans rfl
       have hcz33_1 : wr.cell? ⟨gb156, 1, none⟩ = some (.int .i64 a0_1) := (blk_cell BK156.out 1).trans rfl
       have hcz33_2 : wr.cell? ⟨gb156, 2, none⟩ = some (.int .i64 a0_2) := (blk_cell BK156.out 2).trans rfl
       have hcz33_3 : wr.cell? ⟨gb156, 3, none⟩ = some (.int .i64 a0_3) := (blk_cell BK156.out 3).trans rfl
       have hcz33_4 : wr.cell? ⟨gb156, 4, none⟩ = some (.int .i64 a0_4) := (blk_cell BK156.out 4).trans rfl
       have hcz33_5 : wr.cell? ⟨gb156, 5, none⟩ = some (.int .i64 a0_5) := (blk_cell BK156.out 5).trans rfl
       have hcz33_6 : wr.cell? ⟨gb156, 6, none⟩ = some (.int .i64 a0_6) := (blk_cell BK156.out 6).trans rfl
       have hcz33_7 : wr.cell? ⟨gb156, 7, none⟩ = some (.slice A0_7 l0_7.length c0_7) := (blk_cell BK156.out 7).trans rfl
       have hcz33_8 : wr.cell? ⟨gb156, 8, none⟩ = some (.slice A0_8 l0_8.length c0_8) := (blk_cell BK156.out 8).trans rfl
       have hfz33_0 := blk_frozen BK156.out 0
       have hfz33_1 := blk_frozen BK156.out 1
       have hfz33_2 := blk_frozen BK156.out 2
       have hfz33_3 := blk_frozen BK156.out 3
       have hfz33_4 := blk_frozen BK156.out 4
       have hfz33_5 := blk_frozen BK156.out 5
       have hfz33_6 := blk_frozen BK156.out 6
       have hfz33_7 := blk_frozen BK156.out 7
       have hfz33_8 := blk_frozen BK156.out 8
       go_wp2
       go_loopg [6] k2 (fun kq v6 w' => ∃ (x6_3 : Int), v6 = .int .i64 x6_3 ∧ Aside0 (credenzaref18_Same.l1 kq x6_3 a0_0 a0_1 a0_2 a0_3 a0_4 a0_5 a0_6 l0_7 l0_8 a1_0 a1_1 a1_2 a1_3 a1_4 a1_5 a1_6 l1_7 l1_8 = some r) ∧ Aside0 (kq ≤ k2) ∧ Aside0 (w'.heap[gb156]? = some (.cells #[.int .i64 a0_0, .int .i64 a0_1, .int .i64 a0_2, .int .i64 a0_3, .int .i64 a0_4, .int .i64 a0_5, .int .i64 a0_6, (.slice A0_7 l0_7.length c0_7), (.slice A0_8 l0_8.length c0_8)] 73 (0, 0))) ∧ Aside0 (w'.heap[gb157]? = some (.cells #[.int .i64 a1_0, .int .i64 a1_1, .int .i64 a1_2, .int .i64 a1_3, .int .i64 a1_4, .int .i64 a1_5, .int .i64 a1_6, (.slice A1_7 l1_7.length c1_7), (.slice A1_8 l1_8.length c1_8)] 73 (0, 0))) ∧ Aside0 (Below w.heap.size w w'))
       case atStart => exact ⟨(0), (by first | rfl | (simp; done) | (simp [*]; done)), H', ⟨Nat.le_refl _⟩, ⟨by exact BK156.out⟩, ⟨by exact BK157.out⟩, ⟨by with_reducible exact HB.out⟩⟩
       case round =>
        clear H'
        try clear c1
        try clear p1
        try clear q1
        try clear hx1
        try clear c2
        try clear p2
        try clear c3
        try clear c6
        try clear c6b0
        try clear p6
        try clear c7
        try clear c10
        try clear c10b0
        try clear c10b1
        try clear c11
        try clear c11b0
        try clear c11b1
        try clear c11b2
        try clear c12
        try clear c15
        try clear p15
        try clear q15
        try clear hx15
        try clear c18
        try clear c21
        try clear c22
        try clear c22b0
        try clear c23
        try clear c23b0
        try clear c24
        try clear c24b0
        try clear c25
        try clear c25b0
        try clear c25b1
        try clear c26
        try clear c29
        try clear c32
        try clear hcz13_0
        try clear hcz13_1
        try clear hcz13_2
        try clear hcz13_3
        try clear hcz13_4
        try clear hcz13_5
        try clear hcz13_6
        try clear hcz13_7
        try clear hcz13_8
        try clear hcz14_0
        try clear hcz14_1
        try clear hcz14_2
        try clear hcz14_3
        try clear hcz14_4
        try clear hcz14_5
        try clear hcz14_6
        try clear hcz14_7
        try clear hcz14_8
        try clear hcz16_0
        try clear hcz16_1
        try clear hcz16_2
        try clear hcz16_3
        try clear hcz16_4
        try clear hcz16_5
        try clear hcz16_6
        try clear hcz16_7
        try clear hcz16_8
        try clear hcz17_0
        try clear hcz17_1
        try clear hcz17_2
        try clear hcz17_3
        try clear hcz17_4
        try clear hcz17_5
        try clear hcz17_6
        try clear hcz17_7
        try clear hcz17_8
        try clear hcz19_0
        try clear hcz19_1
        try clear hcz19_2
        try clear hcz19_3
        try clear hcz19_4
        try clear hcz19_5
        try clear hcz19_6
        try clear hcz19_7
        try clear hcz19_8
        try clear hcz20_0
        try clear hcz20_1
        try clear hcz20_2
        try clear hcz20_3
        try clear hcz20_4
        try clear hcz20_5
        try clear hcz20_6
        try clear hcz20_7
        try clear hcz20_8
        try clear hcz27_0
        try clear hcz27_1
        try clear hcz27_2
        try clear hcz27_3
        try clear hcz27_4
        try clear hcz27_5
        try clear hcz27_6
        try clear hcz27_7
        try clear hcz27_8
        try clear hcz30_0
        try clear hcz30_1
        try clear hcz30_2
        try clear hcz30_3
        try clear hcz30_4
        try clear hcz30_5
        try clear hcz30_6
        try clear hcz30_7
        try clear hcz30_8
        try clear hcz33_0
        try clear hcz33_1
        try clear hcz33_2
        try clear hcz33_3
        try clear hcz33_4
        try clear hcz33_5
        try clear hcz33_6
        try clear hcz33_7
        try clear hcz33_8
        try clear hcz8_0
        try clear hcz8_1
        try clear hcz8_2
        try clear hcz8_3
        try clear hcz8_4
        try clear hcz8_5
        try clear hcz8_6
        try clear hcz8_7
        try clear hcz8_8
        try clear hcz9_0
        try clear hcz9_1
        try clear hcz9_2
        try clear hcz9_3
        try clear hcz9_4
        try clear hcz9_5
        try clear hcz9_6
        try clear hcz9_7
        try clear hcz9_8
        try clear hfz13_0
        try clear hfz13_1
        try clear hfz13_2
        try clear hfz13_3
        try clear hfz13_4
        try clear hfz13_5
        try clear hfz13_6
        try clear hfz13_7
        try clear hfz13_8
        try clear hfz14_0
        try clear hfz14_1
        try clear hfz14_2
        try clear hfz14_3
        try clear hfz14_4
        try clear hfz14_5
        try clear hfz14_6
        try clear hfz14_7
        try clear hfz14_8
        try clear hfz16_0
        try clear hfz16_1
        try clear hfz16_2
        try clear hfz16_3
        try clear hfz16_4
        try clear hfz16_5
        try clear hfz16_6
        try clear hfz16_7
        try clear hfz16_8
        try clear hfz17_0
        try clear hfz17_1
        try clear hfz17_2
        try clear hfz17_3
        try clear hfz17_4
        try clear hfz17_5
        try clear hfz17_6
        try clear hfz17_7
        try clear hfz17_8
        try clear hfz19_0
        try clear hfz19_1
        try clear hfz19_2
        try clear hfz19_3
        try clear hfz19_4
        try clear hfz19_5
        try clear hfz19_6
        try clear hfz19_7
        try clear hfz19_8
        try clear hfz20_0
        try clear hfz20_1
        try clear hfz20_2
        try clear hfz20_3
        try clear hfz20_4
        try clear hfz20_5
        try clear hfz20_6
        try clear hfz20_7
        try clear hfz20_8
        try clear hfz27_0
        try clear hfz27_1
        try clear hfz27_2
        try clear hfz27_3
        try clear hfz27_4
        try clear hfz27_5
        try clear hfz27_6
        try clear hfz27_7
        try clear hfz27_8
        try clear hfz30_0
        try clear hfz30_1
        try clear hfz30_2
        try clear hfz30_3
        try clear hfz30_4
        try clear hfz30_5
        try clear hfz30_6
        try clear hfz30_7
        try clear hfz30_8
        try clear hfz33_0
        try clear hfz33_1
        try clear hfz33_2
        try clear hfz33_3
        try clear hfz33_4
        try clear hfz33_5
        try clear hfz33_6
        try clear hfz33_7
        try clear hfz33_8
        try clear hfz8_0
        try clear hfz8_1
        try clear hfz8_2
        try clear hfz8_3
        try clear hfz8_4
        try clear hfz8_5
        try clear hfz8_6
        try clear hfz8_7
        try clear hfz8_8
        try clear hfz9_0
        try clear hfz9_1
        try clear hfz9_2
        try clear hfz9_3
        try clear hfz9_4
        try clear hfz9_5
        try clear hfz9_6
        try clear hfz9_7
        try clear hfz9_8
        try clear hx158_0
        try clear hx159_0
        try clear p158
        try clear p159
        try clear p2
        try clear q158
        try clear q159
        obtain ⟨x6_3, rfl, HA, HK3, BK156, BK157, HB⟩ := hrel
        cases gk with
        | zero => exact absurd HA.out (by simp [credenzaref18_Same.l1])
        | succ k3 =>
         have H := HA.out
         clear HA
         simp only [credenzaref18_Same.l1] at H
         by_cases c34 : x6_3 < (l0_8.length : Int)
         ·
          rw [if_pos c34] at H
          have c34b0 : decide (x6_3 < (l0_8.length : Int)) = true := decide_eq_true c34
          clear c34
          by_cases c35 : 0 ≤ x6_3
          case neg => (rw [if_neg c35] at H; exact absurd H (by simp))
          rw [if_pos c35] at H
          have c35b0 : decide (0 ≤ x6_3) = true := decide_eq_true c35
          clear c35
          by_cases c36 : x6_3 < (l1_8.length : Int)
          case neg => (rw [if_neg c36] at H; exact absurd H (by simp))
          rw [if_pos c36] at H
          have c36b0 : decide (x6_3 < (l1_8.length : Int)) = true := decide_eq_true c36
          clear c36
          have HC37 := Aside0.mk H
          clear H
          have hnb38 := NB156_157.out
          have hnc38 := NB157_156.out
          have hcz39_0 : wr.cell? ⟨gb156, 0, none⟩ = some (.int .i64 a0_0) := (blk_cell BK156.out 0).trans rfl
          have hcz39_1 : wr.cell? ⟨gb156, 1, none⟩ = some (.int .i64 a0_1) := (blk_cell BK156.out 1).trans rfl
          have hcz39_2 : wr.cell? ⟨gb156, 2, none⟩ = some (.int .i64 a0_2) := (blk_cell BK156.out 2).trans rfl
          have hcz39_3 : wr.cell? ⟨gb156, 3, none⟩ = some (.int .i64 a0_3) := (blk_cell BK156.out 3).trans rfl
          have hcz39_4 : wr.cell? ⟨gb156, 4, none⟩ = some (.int .i64 a0_4) := (blk_cell BK156.out 4).trans rfl
          have hcz39_5 : wr.cell? ⟨gb156, 5, none⟩ = some (.int .i64 a0_5) := (blk_cell BK156.out 5).trans rfl
          have hcz39_6 : wr.cell? ⟨gb156, 6, none⟩ = some (.int .i64 a0_6) := (blk_cell BK156.out 6).trans rfl
          have hcz39_7 : wr.cell? ⟨gb156, 7, none⟩ = some (.slice A0_7 l0_7.length c0_7) := (blk_cell BK156.out 7).trans rfl
          have hcz39_8 : wr.cell? ⟨gb156, 8, none⟩ = some (.slice A0_8 l0_8.length c0_8) := (blk_cell BK156.out 8).trans rfl
          have hfz39_0 := blk_frozen BK156.out 0
          have hfz39_1 := blk_frozen BK156.out 1
          have hfz39_2 := blk_frozen BK156.out 2
          have hfz39_3 := blk_frozen BK156.out 3
          have hfz39_4 := blk_frozen BK156.out 4
          have hfz39_5 := blk_frozen BK156.out 5
          have hfz39_6 := blk_frozen BK156.out 6
          have hfz39_7 := blk_frozen BK156.out 7
          have hfz39_8 := blk_frozen BK156.out 8
          try go_wp2
          have n0_ := Aside0.mk (blk_drew BK156.out)
          have n1_ := Aside0.mk (blk_drew BK157.out)
          have n2_ := Aside0.mk (below_drew1 HB.out)
          clear BK156
          clear BK157
          clear HB
          have BK156 := n0_
          have BK157 := n1_
          have HB := n2_
          clear n0_ n1_ n2_
          have p160 : 0 ≤ (x6_3 : Int) := of_decide_eq_true (by first | (with_reducible assumption) | assumption)
          have q160 : x6_3 < (l0_8.length : Int) := of_decide_eq_true (by first | (with_reducible assumption) | assumption)
          obtain ⟨ad160, A160_2, c160_2, e160, hx160_0, hx160_1, hx160_2, hl160_2, hi160_2⟩ := at_T111 HR0_8.out x6_3 p160 q160
          have hw160_2 := hx160_2
          have hw160_1 := hx160_1
          have hw160_0 := hx160_0
          cases e160
          replace hx160_0 := (HB.out.cell (World.block_lt_of_cell? w _ hx160_0)).trans hx160_0
          replace hx160_1 := (HB.out.cell (World.block_lt_of_cell? w _ hx160_1)).trans hx160_1
          replace hx160_2 := (HB.out.cell (World.block_lt_of_cell? w _ hx160_2)).trans hx160_2
          have HR160_2 := Aside0.mk hi160_2
          have HC160_2 := Aside0.mk hl160_2
          clear hi160_2 hl160_2
          replace p160 := eq_true p160
          replace q160 := eq_true q160
          have p161 : 0 ≤ (x6_3 : Int) := of_decide_eq_true (by first | (with_reducible assumption) | assumption)
          have q161 : x6_3 < (l1_8.length : Int) := of_decide_eq_true (by first | (with_reducible assumption) | assumption)
          obtain ⟨ad161, A161_2, c161_2, e161, hx161_0, hx161_1, hx161_2, hl161_2, hi161_2⟩ := at_T111 HR1_8.out x6_3 p161 q161
          have hw161_2 := hx161_2
          have hw161_1 := hx161_1
          have hw161_0 := hx161_0
          cases e161
          replace hx161_0 := (HB.out.cell (World.block_lt_of_cell? w _ hx161_0)).trans hx161_0
          replace hx161_1 := (HB.out.cell (World.block_lt_of_cell? w _ hx161_1)).trans hx161_1
          replace hx161_2 := (HB.out.cell (World.block_lt_of_cell? w _ hx161_2)).trans hx161_2
          have HR161_2 := Aside0.mk hi161_2
          have HC161_2 := Aside0.mk hl161_2
          clear hi161_2 hl161_2
          replace p161 := eq_true p161
          replace q161 := eq_true q161
          refine start_ (n := 14) (S := fun w' => w'.cell? ⟨gb156, 0, none⟩ = some (.int .i64 a0_0) ∧ w'.cell? ⟨gb156, 1, none⟩ = some (.int .i64 a0_1) ∧ w'.cell? ⟨gb156, 2, none⟩ = some (.int .i64 a0_2) ∧ w'.cell? ⟨gb156, 3, none⟩ = some (.int .i64 a0_3) ∧ w'.cell? ⟨gb156, 4, none⟩ = some (.int .i64 a0_4) ∧ w'.cell? ⟨gb156, 5, none⟩ = some (.int .i64 a0_5) ∧ w'.cell? ⟨gb156, 6, none⟩ = some (.int .i64 a0_6) ∧ w'.cell? ⟨gb156, 7, none⟩ = some (.slice A0_7 l0_7.length c0_7) ∧ w'.cell? ⟨gb156, 8, none⟩ = some (.slice (some ad160) l0_8.length c0_8) ∧ w'.cell? ⟨gb157, 0, none⟩ = some (.int .i64 a1_0) ∧ w'.cell? ⟨gb157, 1, none⟩ = some (.int .i64 a1_1) ∧ w'.cell? ⟨gb157, 2, none⟩ = some (.int .i64 a1_2) ∧ w'.cell? ⟨gb157, 3, none⟩ = some (.int .i64 a1_3) ∧ w'.cell? ⟨gb157, 4, none⟩ = some (.int .i64 a1_4) ∧ w'.cell? ⟨gb157, 5, none⟩ = some (.int .i64 a1_5) ∧ w'.cell? ⟨gb157, 6, none⟩ = some (.int .i64 a1_6) ∧ w'.cell? ⟨gb157, 7, none⟩ = some (.slice A1_7 l1_7.length c1_7) ∧ w'.cell? ⟨gb157, 8, none⟩ = some (.slice (some ad161) l1_8.length c1_8) ∧ w'.cell? (ad160.add ((x6_3).toNat * 3)) = some (.int .i64 ((rd_T111 l0_8 x6_3).f0)) ∧ w'.cell? ⟨(ad160.add ((x6_3).toNat * 3)).block, (ad160.add ((x6_3).toNat * 3)).off + 1, none⟩ = some (.int .i64 ((rd_T111 l0_8 x6_3).f1)) ∧ w'.cell? ⟨(ad160.add ((x6_3).toNat * 3)).block, (ad160.add ((x6_3).toNat * 3)).off + 2, none⟩ = some (.slice A160_2 ((rd_T111 l0_8 x6_3).f2).length c160_2) ∧ w'.cell? (ad161.add ((x6_3).toNat * 3)) = some (.int .i64 ((rd_T111 l1_8 x6_3).f0)) ∧ w'.cell? ⟨(ad161.add ((x6_3).toNat * 3)).block, (ad161.add ((x6_3).toNat * 3)).off + 1, none⟩ = some (.int .i64 ((rd_T111 l1_8 x6_3).f1)) ∧ w'.cell? ⟨(ad161.add ((x6_3).toNat * 3)).block, (ad161.add ((x6_3).toNat * 3)).off + 2, none⟩ = some (.slice A161_2 ((rd_T111 l1_8 x6_3).f2).length c161_2)) (ds := []) #[false, false, false, false, false, false, false, false, false, false, false, false, false, false] (by kernel_rfl) rfl rfl ⟨(blk_cell BK156.out 0).trans rfl, (blk_cell BK156.out 1).trans rfl, (blk_cell BK156.out 2).trans rfl, (blk_cell BK156.out 3).trans rfl, (blk_cell BK156.out 4).trans rfl, (blk_cell BK156.out 5).trans rfl, (blk_cell BK156.out 6).trans rfl, (blk_cell BK156.out 7).trans rfl, (blk_cell BK156.out 8).trans rfl, (blk_cell BK157.out 0).trans rfl, (blk_cell BK157.out 1).trans rfl, (blk_cell BK157.out 2).trans rfl, (blk_cell BK157.out 3).trans rfl, (blk_cell BK157.out 4).trans rfl, (blk_cell BK157.out 5).trans rfl, (blk_cell BK157.out 6).trans rfl, (blk_cell BK157.out 7).trans rfl, (blk_cell BK157.out 8).trans rfl, ((HB.out.cell (World.block_lt_of_cell? w _ hw160_0)).trans hw160_0), ((HB.out.cell (World.block_lt_of_cell? w _ hw160_1)).trans hw160_1), ((HB.out.cell (World.block_lt_of_cell? w _ hw160_2)).trans hw160_2), ((HB.out.cell (World.block_lt_of_cell? w _ hw161_0)).trans hw161_0), ((HB.out.cell (World.block_lt_of_cell? w _ hw161_1)).trans hw161_1), ((HB.out.cell (World.block_lt_of_cell? w _ hw161_2)).trans hw161_2)⟩ (fun hHeld => ?_); refine with_tabW credenzaref18_Same.tab11 credenzaref18_Same.bits11 (fun HT_ HW_ => ?_)
          generalize wr.drew = w40 at BK156 BK157 HB HR160_2 HR161_2 hx160_0 hx160_1 hx160_2 hx161_0 hx161_1 hx161_2 hHeld ⊢
          refine pure_ (i := 0) (N := some 65) (v := ?_) (a' := ?_) #[true, false, false, false, false, false, false, false, false, false, false, false, false, false] rfl rfl (any_of HT_.out (by kernel_rfl)) (fun _ _ _ h => h) (Or.inl ⟨by rfl, ?_⟩) ?_ ?_
          rotate_left
          ·
           intro w'
           go_simp
           with_reducible rfl
          rotate_left
          ·
           simp only [Act.put, List.setIfInBounds_toArray, List.set_cons_zero, List.set_cons_succ, i64_w, i32_w, IntKind.wrap_u32]
           rfl
          refine pure_ (i := 2) (N := some 67) (v := ?_) (a' := ?_) #[true, false, true, false, false, false, false, false, false, false, false, false, false, false] rfl rfl (any_of HT_.out (by kernel_rfl)) (fun _ _ _ h => h) (Or.inl ⟨by rfl, ?_⟩) ?_ ?_
          rotate_left
          ·
           intro w'
           go_simp
           with_reducible rfl
          rotate_left
          ·
           simp only [Act.put, List.setIfInBounds_toArray, List.set_cons_zero, List.set_cons_succ, i64_w, i32_w, IntKind.wrap_u32]
           rfl
          refine pure_ (i := 5) (N := some 70) (v := ?_) (a' := ?_) #[true, false, true, false, false, true, false, false, false, false, false, false, false, false] rfl rfl (any_of HT_.out (by kernel_rfl)) (fun _ _ _ h => h) (Or.inl ⟨by rfl, ?_⟩) ?_ ?_
          rotate_left
          ·
           intro w'
           go_simp
           with_reducible rfl
          rotate_left
          ·
           simp only [Act.put, List.setIfInBounds_toArray, List.set_cons_zero, List.set_cons_succ, i64_w, i32_w, IntKind.wrap_u32]
           rfl
          refine pure_ (i := 7) (N := some 72) (v := ?_) (a' := ?_) #[true, false, true, false, false, true, false, true, false, false, false, false, false, false] rfl rfl (any_of HT_.out (by kernel_rfl)) (fun _ _ _ h => h) (Or.inl ⟨by rfl, ?_⟩) ?_ ?_
          rotate_left
          ·
           intro w'
           go_simp
           with_reducible rfl
          rotate_left
          ·
           simp only [Act.put, List.setIfInBounds_toArray, List.set_cons_zero, List.set_cons_succ, i64_w, i32_w, IntKind.wrap_u32]
           rfl
          refine take_ (i := 1) (N := some 66) (v := ?_) (a' := ?_) #[true, true, true, false, false, true, false, true, false, false, false, false, false, false] rfl rfl (take_ofW HT_.out HW_.out (by kernel_rfl)) (fun _ _ _ h => h) (Or.inl ⟨by rfl, ?_⟩) hHeld ?_ ?_
          rotate_left
          ·
           rintro w' ⟨s0, s1, s2, s3, s4, s5, s6, s7, s8, s9, s10, s11, s12, s13, s14, s15, s16, s17, s18, s19, s20, s21, s22, s23⟩
           go_simp
           with_reducible rfl
          rotate_left
          ·
           simp only [Act.put, List.setIfInBounds_toArray, List.set_cons_zero, List.set_cons_succ, i64_w, i32_w, IntKind.wrap_u32]
           rfl
          refine pure_ (i := 3) (N := some 68) (v := ?_) (a' := ?_) #[true, true, true, true, false, true, false, true, false, false, false, false, false, false] rfl rfl (any_of HT_.out (by kernel_rfl)) (fun _ _ _ h => h) (Or.inl ⟨by rfl, ?_⟩) ?_ ?_
          rotate_left
          ·
           intro w'
           go_simp
           with_reducible rfl
          rotate_left
          ·
           simp only [Act.put, List.setIfInBounds_toArray, List.set_cons_zero, List.set_cons_succ, i64_w, i32_w, IntKind.wrap_u32]
           rfl
          refine take_ (i := 4) (N := some 69) (v := ?_) (a' := ?_) #[true, true, true, true, true, true, false, true, false, false, false, false, false, false] rfl rfl (take_ofW HT_.out HW_.out (by kernel_rfl)) (fun _ _ _ h => h) (Or.inl ⟨by rfl, ?_⟩) hHeld ?_ ?_
          rotate_left
          ·
           rintro w' ⟨s0, s1, s2, s3, s4, s5, s6, s7, s8, s9, s10, s11, s12, s13, s14, s15, s16, s17, s18, s19, s20, s21, s22, s23⟩
           go_simp
           with_reducible rfl
          rotate_left
          ·
           simp only [Act.put, List.setIfInBounds_toArray, List.set_cons_zero, List.set_cons_succ, i64_w, i32_w, IntKind.wrap_u32]
           rfl
          refine take_ (i := 6) (N := some 71) (v := ?_) (a' := ?_) #[true, true, true, true, true, true, true, true, false, false, false, false, false, false] rfl rfl (take_ofW HT_.out HW_.out (by kernel_rfl)) (fun _ _ _ h => h) (Or.inl ⟨by rfl, ?_⟩) hHeld ?_ ?_
          rotate_left
          ·
           rintro w' ⟨s0, s1, s2, s3, s4, s5, s6, s7, s8, s9, s10, s11, s12, s13, s14, s15, s16, s17, s18, s19, s20, s21, s22, s23⟩
           go_simp
           with_reducible rfl
          rotate_left
          ·
           simp only [Act.put, List.setIfInBounds_toArray, List.set_cons_zero, List.set_cons_succ, i64_w, i32_w, IntKind.wrap_u32]
           rfl
          refine pure_ (i := 8) (N := some 73) (v := ?_) (a' := ?_) #[true, true, true, true, true, true, true, true, true, false, false, false, false, false] rfl rfl (any_of HT_.out (by kernel_rfl)) (fun _ _ _ h => h) (Or.inl ⟨by rfl, ?_⟩) ?_ ?_
          rotate_left
          ·
           intro w'
           go_simp
           with_reducible rfl
          rotate_left
          ·
           simp only [Act.put, List.setIfInBounds_toArray, List.set_cons_zero, List.set_cons_succ, i64_w, i32_w, IntKind.wrap_u32]
           rfl
          refine take_ (i := 9) (N := some 74) (v := ?_) (a' := ?_) #[true, true, true, true, true, true, true, true, true, true, false, false, false, false] rfl rfl (take_ofW HT_.out HW_.out (by kernel_rfl)) (fun _ _ _ h => h) (Or.inl ⟨by rfl, ?_⟩) hHeld ?_ ?_
          rotate_left
          ·
           rintro w' ⟨s0, s1, s2, s3, s4, s5, s6, s7, s8, s9, s10, s11, s12, s13, s14, s15, s16, s17, s18, s19, s20, s21, s22, s23⟩
           go_simp
           with_reducible rfl
          rotate_left
          ·
           simp only [Act.put, List.setIfInBounds_toArray, List.set_cons_zero, List.set_cons_succ, i64_w, i32_w, IntKind.wrap_u32]
           rfl
          refine join_ (σ := Nat × Nat) 2 #[true, true, true, true, true, true, true, true, true, true, true, true, false, false] (fun s_ => [(7, .pointer (some ⟨s_.1, 0, none⟩)), (8, .pointer (some ⟨s_.2, 0, none⟩))]) (fun s_ w' => (w'.cell? ⟨gb156, 0, none⟩ = some (.int .i64 a0_0) ∧ w'.cell? ⟨gb156, 1, none⟩ = some (.int .i64 a0_1) ∧ w'.cell? ⟨gb156, 2, none⟩ = some (.int .i64 a0_2) ∧ w'.cell? ⟨gb156, 3, none⟩ = some (.int .i64 a0_3) ∧ w'.cell? ⟨gb156, 4, none⟩ = some (.int .i64 a0_4) ∧ w'.cell? ⟨gb156, 5, none⟩ = some (.int .i64 a0_5) ∧ w'.cell? ⟨gb156, 6, none⟩ = some (.int .i64 a0_6) ∧ w'.cell? ⟨gb156, 7, none⟩ = some (.slice A0_7 l0_7.length c0_7) ∧ w'.cell? ⟨gb156, 8, none⟩ = some (.slice (some ad160) l0_8.length c0_8) ∧ w'.cell? ⟨gb157, 0, none⟩ = some (.int .i64 a1_0) ∧ w'.cell? ⟨gb157, 1, none⟩ = some (.int .i64 a1_1) ∧ w'.cell? ⟨gb157, 2, none⟩ = some (.int .i64 a1_2) ∧ w'.cell? ⟨gb157, 3, none⟩ = some (.int .i64 a1_3) ∧ w'.cell? ⟨gb157, 4, none⟩ = some (.int .i64 a1_4) ∧ w'.cell? ⟨gb157, 5, none⟩ = some (.int .i64 a1_5) ∧ w'.cell? ⟨gb157, 6, none⟩ = some (.int .i64 a1_6) ∧ w'.cell? ⟨gb157, 7, none⟩ = some (.slice A1_7 l1_7.length c1_7) ∧ w'.cell? ⟨gb157, 8, none⟩ = some (.slice (some ad161) l1_8.length c1_8) ∧ w'.cell? (ad160.add ((x6_3).toNat * 3)) = some (.int .i64 ((rd_T111 l0_8 x6_3).f0)) ∧ w'.cell? ⟨(ad160.add ((x6_3).toNat * 3)).block, (ad160.add ((x6_3).toNat * 3)).off + 1, none⟩ = some (.int .i64 ((rd_T111 l0_8 x6_3).f1)) ∧ w'.cell? ⟨(ad160.add ((x6_3).toNat * 3)).block, (ad160.add ((x6_3).toNat * 3)).off + 2, none⟩ = some (.slice A160_2 ((rd_T111 l0_8 x6_3).f2).length c160_2) ∧ w'.cell? (ad161.add ((x6_3).toNat * 3)) = some (.int .i64 ((rd_T111 l1_8 x6_3).f0)) ∧ w'.cell? ⟨(ad161.add ((x6_3).toNat * 3)).block, (ad161.add ((x6_3).toNat * 3)).off + 1, none⟩ = some (.int .i64 ((rd_T111 l1_8 x6_3).f1)) ∧ w'.cell? ⟨(ad161.add ((x6_3).toNat * 3)).block, (ad161.add ((x6_3).toNat * 3)).off + 2, none⟩ = some (.slice A161_2 ((rd_T111 l1_8 x6_3).f2).length c161_2)) ∧ (w'.heap[gb156]? = some (.cells #[.int .i64 a0_0, .int .i64 a0_1, .int .i64 a0_2, .int .i64 a0_3, .int .i64 a0_4, .int .i64 a0_5, .int .i64 a0_6, .slice A0_7 l0_7.length c0_7, .slice (some ad160) l0_8.length c0_8] 73 (0, 0))) ∧ (w'.heap[gb157]? = some (.cells #[.int .i64 a1_0, .int .i64 a1_1, .int .i64 a1_2, .int .i64 a1_3, .int .i64 a1_4, .int .i64 a1_5, .int .i64 a1_6, .slice A1_7 l1_7.length c1_7, .slice (some ad161) l1_8.length c1_8] 73 (0, 0))) ∧ (w'.heap[s_.1]? = some (.cells #[.int .i64 0, .int .i64 0, .slice none 0 0] 111 (0, 0))) ∧ (w'.heap[s_.2]? = some (.cells #[.int .i64 0, .int .i64 0, .slice none 0 0] 111 (0, 0))) ∧ (w.heap.size ≤ s_.1) ∧ (w.heap.size ≤ s_.1) ∧ (gb156 ≠ s_.1) ∧ (s_.1 ≠ gb156) ∧ (gb157 ≠ s_.1) ∧ (s_.1 ≠ gb157) ∧ (s_.2 ≠ s_.1) ∧ (s_.1 ≠ s_.2) ∧ (w.heap.size ≤ s_.2) ∧ (w.heap.size ≤ s_.2) ∧ (gb156 ≠ s_.2) ∧ (s_.2 ≠ gb156) ∧ (gb157 ≠ s_.2) ∧ (s_.2 ≠ gb157) ∧ (Below w.heap.size w w')) ?_ ?_
          rotate_left
          ·
           intro hCont
           refine two_ (i := 10) (j := 11) (Ni := some 7) (Nj := some 8) #[true, true, true, true, true, true, true, true, true, true, true, false, false, false] #[true, true, true, true, true, true, true, true, true, true, false, true, false, false] rfl rfl rfl rfl (two_of HT_.out (by kernel_rfl)) (by decide) (by decide) (fun K hK => ?_) (fun K hK => ?_)
           ·
            skip
            refine box_step ?hg (N := 7) ?hd (cs := #[.int .i64 0, .int .i64 0, .slice none 0 0]) (t := 111) ?hr ?_; (case hd => rfl); (case hg => rfl); (case hr => first | (go_simp; done) | (go_simp; rfl))
            intro gb162 hg w41 hbox hb
            have n0_ := Aside0.mk (blk_below (g := gb156) (o := .cells #[.int .i64 a0_0, .int .i64 a0_1, .int .i64 a0_2, .int .i64 a0_3, .int .i64 a0_4, .int .i64 a0_5, .int .i64 a0_6, .slice A0_7 l0_7.length c0_7, .slice (some ad160) l0_8.length c0_8] 73 (0, 0)) (by (with_reducible repeat (first | refine blk_drewN ?_ _ | refine blk_drew ?_ | refine blk_alloc ?_ _)); exact BK156.out) hb)
            have n1_ := Aside0.mk (blk_below (g := gb157) (o := .cells #[.int .i64 a1_0, .int .i64 a1_1, .int .i64 a1_2, .int .i64 a1_3, .int .i64 a1_4, .int .i64 a1_5, .int .i64 a1_6, .slice A1_7 l1_7.length c1_7, .slice (some ad161) l1_8.length c1_8] 73 (0, 0)) (by (with_reducible repeat (first | refine blk_drewN ?_ _ | refine blk_drew ?_ | refine blk_alloc ?_ _)); exact BK157.out) hb)
            have n2_ := Aside0.mk (below_step (by repeat (first | (with_reducible first | exact HB.out | apply below_alloc | apply pw_below_drewN | apply below_drew1 | refine below_set ?_ GE156.out | refine below_set ?_ GE157.out) | exact HB.out)) hb)
            have n3_ := Aside0.mk (hbox)
            have n4_ := Aside0.mk ((by rw [hg]; exact (below_size (by repeat (first | (with_reducible first | exact HB.out | apply below_alloc | apply pw_below_drewN | apply below_drew1 | refine below_set ?_ GE156.out | refine below_set ?_ GE157.out) | exact HB.out))) : w.heap.size ≤ gb162))
            have n5_ := Aside0.mk ((by rw [hg]; exact (below_size (by repeat (first | (with_reducible first | exact HB.out | apply below_alloc | apply pw_below_drewN | apply below_drew1 | refine below_set ?_ GE156.out | refine below_set ?_ GE157.out) | exact HB.out))) : w.heap.size ≤ gb162))
            have n6_ := Aside0.mk ((by rw [hg]; exact Nat.ne_of_lt (blk_lt (g := gb156) (o := .cells #[.int .i64 a0_0, .int .i64 a0_1, .int .i64 a0_2, .int .i64 a0_3, .int .i64 a0_4, .int .i64 a0_5, .int .i64 a0_6, .slice A0_7 l0_7.length c0_7, .slice (some ad160) l0_8.length c0_8] 73 (0, 0)) (by (with_reducible repeat (first | refine blk_drewN ?_ _ | refine blk_drew ?_ | refine blk_alloc ?_ _)); exact BK156.out)) : gb156 ≠ gb162))
            have n7_ := Aside0.mk ((by rw [hg]; exact Nat.ne_of_gt (blk_lt (g := gb156) (o := .cells #[.int .i64 a0_0, .int .i64 a0_1, .int .i64 a0_2, .int .i64 a0_3, .int .i64 a0_4, .int .i64 a0_5, .int .i64 a0_6, .slice A0_7 l0_7.length c0_7, .slice (some ad160) l0_8.length c0_8] 73 (0, 0)) (by (with_reducible repeat (first | refine blk_drewN ?_ _ | refine blk_drew ?_ | refine blk_alloc ?_ _)); exact BK156.out)) : gb162 ≠ gb156))
            have n8_ := Aside0.mk ((by rw [hg]; exact Nat.ne_of_lt (blk_lt (g := gb157) (o := .cells #[.int .i64 a1_0, .int .i64 a1_1, .int .i64 a1_2, .int .i64 a1_3, .int .i64 a1_4, .int .i64 a1_5, .int .i64 a1_6, .slice A1_7 l1_7.length c1_7, .slice (some ad161) l1_8.length c1_8] 73 (0, 0)) (by (with_reducible repeat (first | refine blk_drewN ?_ _ | refine blk_drew ?_ | refine blk_alloc ?_ _)); exact BK157.out)) : gb157 ≠ gb162))
            have n9_ := Aside0.mk ((by rw [hg]; exact Nat.ne_of_gt (blk_lt (g := gb157) (o := .cells #[.int .i64 a1_0, .int .i64 a1_1, .int .i64 a1_2, .int .i64 a1_3, .int .i64 a1_4, .int .i64 a1_5, .int .i64 a1_6, .slice A1_7 l1_7.length c1_7, .slice (some ad161) l1_8.length c1_8] 73 (0, 0)) (by (with_reducible repeat (first | refine blk_drewN ?_ _ | refine blk_drew ?_ | refine blk_alloc ?_ _)); exact BK157.out)) : gb162 ≠ gb157))
            clear BK156
            clear BK157
            clear HB
            have BK156 := n0_
            have BK157 := n1_
            have HB := n2_
            have BK162 := n3_
            have GW162 := n4_
            have GE162 := n5_
            have NB156_162 := n6_
            have NB162_156 := n7_
            have NB157_162 := n8_
            have NB162_157 := n9_
            clear n0_ n1_ n2_ n3_ n4_ n5_ n6_ n7_ n8_ n9_
            clear hb hbox hg
            refine hK.out _ _ ⟨(blk_cell BK156.out 0).trans rfl, (blk_cell BK156.out 1).trans rfl, (blk_cell BK156.out 2).trans rfl, (blk_cell BK156.out 3).trans rfl, (blk_cell BK156.out 4).trans rfl, (blk_cell BK156.out 5).trans rfl, (blk_cell BK156.out 6).trans rfl, (blk_cell BK156.out 7).trans rfl, (blk_cell BK156.out 8).trans rfl, (blk_cell BK157.out 0).trans rfl, (blk_cell BK157.out 1).trans rfl, (blk_cell BK157.out 2).trans rfl, (blk_cell BK157.out 3).trans rfl, (blk_cell BK157.out 4).trans rfl, (blk_cell BK157.out 5).trans rfl, (blk_cell BK157.out 6).trans rfl, (blk_cell BK157.out 7).trans rfl, (blk_cell BK157.out 8).trans rfl, ((HB.out.cell (World.block_lt_of_cell? w _ hw160_0)).trans hw160_0), ((HB.out.cell (World.block_lt_of_cell? w _ hw160_1)).trans hw160_1), ((HB.out.cell (World.block_lt_of_cell? w _ hw160_2)).trans hw160_2), ((HB.out.cell (World.block_lt_of_cell? w _ hw161_0)).trans hw161_0), ((HB.out.cell (World.block_lt_of_cell? w _ hw161_1)).trans hw161_1), ((HB.out.cell (World.block_lt_of_cell? w _ hw161_2)).trans hw161_2)⟩ (fun hHeld => ?_)
            clear hK K
            refine norm_ (a' := ?_) ?_ ?_
            rotate_left
            ·
             show Act.put _ (some 7) _ = _
             simp only [Act.put, List.setIfInBounds_toArray, List.set_cons_zero, List.set_cons_succ, i64_w, i32_w, IntKind.wrap_u32]
             rfl
            refine one_ (i := 11) (N := some 8) #[true, true, true, true, true, true, true, true, true, true, true, true, false, false] rfl rfl (one_of HT_.out (by kernel_rfl)) (by decide) (fun K hK => ?_)
            refine box_step ?hg (N := 8) ?hd (cs := #[.int .i64 0, .int .i64 0, .slice none 0 0]) (t := 111) ?hr ?_; (case hd => rfl); (case hg => rfl); (case hr => first | (go_simp; done) | (go_simp; rfl))
            intro gb163 hg w42 hbox hb
            have n0_ := Aside0.mk (blk_below (g := gb156) (o := .cells #[.int .i64 a0_0, .int .i64 a0_1, .int .i64 a0_2, .int .i64 a0_3, .int .i64 a0_4, .int .i64 a0_5, .int .i64 a0_6, .slice A0_7 l0_7.length c0_7, .slice (some ad160) l0_8.length c0_8] 73 (0, 0)) (by (with_reducible repeat (first | refine blk_drewN ?_ _ | refine blk_drew ?_ | refine blk_alloc ?_ _)); exact BK156.out) hb)
            have n1_ := Aside0.mk (blk_below (g := gb157) (o := .cells #[.int .i64 a1_0, .int .i64 a1_1, .int .i64 a1_2, .int .i64 a1_3, .int .i64 a1_4, .int .i64 a1_5, .int .i64 a1_6, .slice A1_7 l1_7.length c1_7, .slice (some ad161) l1_8.length c1_8] 73 (0, 0)) (by (with_reducible repeat (first | refine blk_drewN ?_ _ | refine blk_drew ?_ | refine blk_alloc ?_ _)); exact BK157.out) hb)
            have n2_ := Aside0.mk (blk_below (g := gb162) (o := .cells #[.int .i64 0, .int .i64 0, .slice none 0 0] 111 (0, 0)) (by (with_reducible repeat (first | refine blk_drewN ?_ _ | refine blk_drew ?_ | refine blk_alloc ?_ _)); exact BK162.out) hb)
            have n3_ := Aside0.mk (below_step (by repeat (first | (with_reducible first | exact HB.out | apply below_alloc | apply pw_below_drewN | apply below_drew1 | refine below_set ?_ GE156.out | refine below_set ?_ GE157.out | refine below_set ?_ GE162.out) | exact HB.out)) hb)
            have n4_ := Aside0.mk (hbox)
            have n5_ := Aside0.mk ((by rw [hg]; exact (below_size (by repeat (first | (with_reducible first | exact HB.out | apply below_alloc | apply pw_below_drewN | apply below_drew1 | refine below_set ?_ GE156.out | refine below_set ?_ GE157.out | refine below_set ?_ GE162.out) | exact HB.out))) : w.heap.size ≤ gb163))
            have n6_ := Aside0.mk ((by rw [hg]; exact (below_size (by repeat (first | (with_reducible first | exact HB.out | apply below_alloc | apply pw_below_drewN | apply below_drew1 | refine below_set ?_ GE156.out | refine below_set ?_ GE157.out | refine below_set ?_ GE162.out) | exact HB.out))) : w.heap.size ≤ gb163))
            have n7_ := Aside0.mk ((by rw [hg]; exact Nat.ne_of_lt (blk_lt (g := gb156) (o := .cells #[.int .i64 a0_0, .int .i64 a0_1, .int .i64 a0_2, .int .i64 a0_3, .int .i64 a0_4, .int .i64 a0_5, .int .i64 a0_6, .slice A0_7 l0_7.length c0_7, .slice (some ad160) l0_8.length c0_8] 73 (0, 0)) (by (with_reducible repeat (first | refine blk_drewN ?_ _ | refine blk_drew ?_ | refine blk_alloc ?_ _)); exact BK156.out)) : gb156 ≠ gb163))
            have n8_ := Aside0.mk ((by rw [hg]; exact Nat.ne_of_gt (blk_lt (g := gb156) (o := .cells #[.int .i64 a0_0, .int .i64 a0_1, .int .i64 a0_2, .int .i64 a0_3, .int .i64 a0_4, .int .i64 a0_5, .int .i64 a0_6, .slice A0_7 l0_7.length c0_7, .slice (some ad160) l0_8.length c0_8] 73 (0, 0)) (by (with_reducible repeat (first | refine blk_drewN ?_ _ | refine blk_drew ?_ | refine blk_alloc ?_ _)); exact BK156.out)) : gb163 ≠ gb156))
            have n9_ := Aside0.mk ((by rw [hg]; exact Nat.ne_of_lt (blk_lt (g := gb157) (o := .cells #[.int .i64 a1_0, .int .i64 a1_1, .int .i64 a1_2, .int .i64 a1_3, .int .i64 a1_4, .int .i64 a1_5, .int .i64 a1_6, .slice A1_7 l1_7.length c1_7, .slice (some ad161) l1_8.length c1_8] 73 (0, 0)) (by (with_reducible repeat (first | refine blk_drewN ?_ _ | refine blk_drew ?_ | refine blk_alloc ?_ _)); exact BK157.out)) : gb157 ≠ gb163))
            have n10_ := Aside0.mk ((by rw [hg]; exact Nat.ne_of_gt (blk_lt (g := gb157) (o := .cells #[.int .i64 a1_0, .int .i64 a1_1, .int .i64 a1_2, .int .i64 a1_3, .int .i64 a1_4, .int .i64 a1_5, .int .i64 a1_6, .slice A1_7 l1_7.length c1_7, .slice (some ad161) l1_8.length c1_8] 73 (0, 0)) (by (with_reducible repeat (first | refine blk_drewN ?_ _ | refine blk_drew ?_ | refine blk_alloc ?_ _)); exact BK157.out)) : gb163 ≠ gb157))
            have n11_ := Aside0.mk ((by rw [hg]; exact Nat.ne_of_lt (blk_lt (g := gb162) (o := .cells #[.int .i64 0, .int .i64 0, .slice none 0 0] 111 (0, 0)) (by (with_reducible repeat (first | refine blk_drewN ?_ _ | refine blk_drew ?_ | refine blk_alloc ?_ _)); exact BK162.out)) : gb162 ≠ gb163))
            have n12_ := Aside0.mk ((by rw [hg]; exact Nat.ne_of_gt (blk_lt (g := gb162) (o := .cells #[.int .i64 0, .int .i64 0, .slice none 0 0] 111 (0, 0)) (by (with_reducible repeat (first | refine blk_drewN ?_ _ | refine blk_drew ?_ | refine blk_alloc ?_ _)); exact BK162.out)) : gb163 ≠ gb162))
            clear BK156
            clear BK157
            clear BK162
            clear HB
            have BK156 := n0_
            have BK157 := n1_
            have BK162 := n2_
            have HB := n3_
            have BK163 := n4_
            have GW163 := n5_
            have GE163 := n6_
            have NB156_163 := n7_
            have NB163_156 := n8_
            have NB157_163 := n9_
            have NB163_157 := n10_
            have NB162_163 := n11_
            have NB163_162 := n12_
            clear n0_ n1_ n2_ n3_ n4_ n5_ n6_ n7_ n8_ n9_ n10_ n11_ n12_
            clear hb hbox hg
            refine hK.out _ _ ⟨(blk_cell BK156.out 0).trans rfl, (blk_cell BK156.out 1).trans rfl, (blk_cell BK156.out 2).trans rfl, (blk_cell BK156.out 3).trans rfl, (blk_cell BK156.out 4).trans rfl, (blk_cell BK156.out 5).trans rfl, (blk_cell BK156.out 6).trans rfl, (blk_cell BK156.out 7).trans rfl, (blk_cell BK156.out 8).trans rfl, (blk_cell BK157.out 0).trans rfl, (blk_cell BK157.out 1).trans rfl, (blk_cell BK157.out 2).trans rfl, (blk_cell BK157.out 3).trans rfl, (blk_cell BK157.out 4).trans rfl, (blk_cell BK157.out 5).trans rfl, (blk_cell BK157.out 6).trans rfl, (blk_cell BK157.out 7).trans rfl, (blk_cell BK157.out 8).trans rfl, ((HB.out.cell (World.block_lt_of_cell? w _ hw160_0)).trans hw160_0), ((HB.out.cell (World.block_lt_of_cell? w _ hw160_1)).trans hw160_1), ((HB.out.cell (World.block_lt_of_cell? w _ hw160_2)).trans hw160_2), ((HB.out.cell (World.block_lt_of_cell? w _ hw161_0)).trans hw161_0), ((HB.out.cell (World.block_lt_of_cell? w _ hw161_1)).trans hw161_1), ((HB.out.cell (World.block_lt_of_cell? w _ hw161_2)).trans hw161_2)⟩ (fun hHeld => ?_)
            clear hK K
            refine norm_ (a' := ?_) ?_ ?_
            rotate_left
            ·
             show Act.put _ (some 8) _ = _
             simp only [Act.put, List.setIfInBounds_toArray, List.set_cons_zero, List.set_cons_succ, i64_w, i32_w, IntKind.wrap_u32]
             rfl
            exact norm_ (by simp only [putAll, Act.put, List.setIfInBounds_toArray, List.set_cons_zero, List.set_cons_succ]) (hCont (gb162, gb163) _ ⟨hHeld, (by (with_reducible repeat (first | refine blk_drewN ?_ _ | refine blk_drew ?_ | refine blk_alloc ?_ _)); exact BK156.out), (by (with_reducible repeat (first | refine blk_drewN ?_ _ | refine blk_drew ?_ | refine blk_alloc ?_ _)); exact BK157.out), (by (with_reducible repeat (first | refine blk_drewN ?_ _ | refine blk_drew ?_ | refine blk_alloc ?_ _)); exact BK162.out), (by (with_reducible repeat (first | refine blk_drewN ?_ _ | refine blk_drew ?_ | refine blk_alloc ?_ _)); exact BK163.out), GW162.out, GE162.out, NB156_162.out, NB162_156.out, NB157_162.out, NB162_157.out, NB163_162.out, NB162_163.out, GW163.out, GE163.out, NB156_163.out, NB163_156.out, NB157_163.out, NB163_157.out, (by repeat (first | (with_reducible first | exact HB.out | apply below_alloc | apply pw_below_drewN | apply below_drew1 | refine below_set ?_ GE156.out | refine below_set ?_ GE157.out | refine below_set ?_ GE162.out | refine below_set ?_ GE163.out) | exact HB.out))⟩)
           ·
            skip
            refine box_step ?hg (N := 8) ?hd (cs := #[.int .i64 0, .int .i64 0, .slice none 0 0]) (t := 111) ?hr ?_; (case hd => rfl); (case hg => rfl); (case hr => first | (go_simp; done) | (go_simp; rfl))
            intro gb163 hg w41 hbox hb
            have n0_ := Aside0.mk (blk_below (g := gb156) (o := .cells #[.int .i64 a0_0, .int .i64 a0_1, .int .i64 a0_2, .int .i64 a0_3, .int .i64 a0_4, .int .i64 a0_5, .int .i64 a0_6, .slice A0_7 l0_7.length c0_7, .slice (some ad160) l0_8.length c0_8] 73 (0, 0)) (by (with_reducible repeat (first | refine blk_drewN ?_ _ | refine blk_drew ?_ | refine blk_alloc ?_ _)); exact BK156.out) hb)
            have n1_ := Aside0.mk (blk_below (g := gb157) (o := .cells #[.int .i64 a1_0, .int .i64 a1_1, .int .i64 a1_2, .int .i64 a1_3, .int .i64 a1_4, .int .i64 a1_5, .int .i64 a1_6, .slice A1_7 l1_7.length c1_7, .slice (some ad161) l1_8.length c1_8] 73 (0, 0)) (by (with_reducible repeat (first | refine blk_drewN ?_ _ | refine blk_drew ?_ | refine blk_alloc ?_ _)); exact BK157.out) hb)
            have n2_ := Aside0.mk (below_step (by repeat (first | (with_reducible first | exact HB.out | apply below_alloc | apply pw_below_drewN | apply below_drew1 | refine below_set ?_ GE156.out | refine below_set ?_ GE157.out) | exact HB.out)) hb)
            have n3_ := Aside0.mk (hbox)
            have n4_ := Aside0.mk ((by rw [hg]; exact (below_size (by repeat (first | (with_reducible first | exact HB.out | apply below_alloc | apply pw_below_drewN | apply below_drew1 | refine below_set ?_ GE156.out | refine below_set ?_ GE157.out) | exact HB.out))) : w.heap.size ≤ gb163))
            have n5_ := Aside0.mk ((by rw [hg]; exact (below_size (by repeat (first | (with_reducible first | exact HB.out | apply below_alloc | apply pw_below_drewN | apply below_drew1 | refine below_set ?_ GE156.out | refine below_set ?_ GE157.out) | exact HB.out))) : w.heap.size ≤ gb163))
            have n6_ := Aside0.mk ((by rw [hg]; exact Nat.ne_of_lt (blk_lt (g := gb156) (o := .cells #[.int .i64 a0_0, .int .i64 a0_1, .int .i64 a0_2, .int .i64 a0_3, .int .i64 a0_4, .int .i64 a0_5, .int .i64 a0_6, .slice A0_7 l0_7.length c0_7, .slice (some ad160) l0_8.length c0_8] 73 (0, 0)) (by (with_reducible repeat (first | refine blk_drewN ?_ _ | refine blk_drew ?_ | refine blk_alloc ?_ _)); exact BK156.out)) : gb156 ≠ gb163))
            have n7_ := Aside0.mk ((by rw [hg]; exact Nat.ne_of_gt (blk_lt (g := gb156) (o := .cells #[.int .i64 a0_0, .int .i64 a0_1, .int .i64 a0_2, .int .i64 a0_3, .int .i64 a0_4, .int .i64 a0_5, .int .i64 a0_6, .slice A0_7 l0_7.length c0_7, .slice (some ad160) l0_8.length c0_8] 73 (0, 0)) (by (with_reducible repeat (first | refine blk_drewN ?_ _ | refine blk_drew ?_ | refine blk_alloc ?_ _)); exact BK156.out)) : gb163 ≠ gb156))
            have n8_ := Aside0.mk ((by rw [hg]; exact Nat.ne_of_lt (blk_lt (g := gb157) (o := .cells #[.int .i64 a1_0, .int .i64 a1_1, .int .i64 a1_2, .int .i64 a1_3, .int .i64 a1_4, .int .i64 a1_5, .int .i64 a1_6, .slice A1_7 l1_7.length c1_7, .slice (some ad161) l1_8.length c1_8] 73 (0, 0)) (by (with_reducible repeat (first | refine blk_drewN ?_ _ | refine blk_drew ?_ | refine blk_alloc ?_ _)); exact BK157.out)) : gb157 ≠ gb163))
            have n9_ := Aside0.mk ((by rw [hg]; exact Nat.ne_of_gt (blk_lt (g := gb157) (o := .cells #[.int .i64 a1_0, .int .i64 a1_1, .int .i64 a1_2, .int .i64 a1_3, .int .i64 a1_4, .int .i64 a1_5, .int .i64 a1_6, .slice A1_7 l1_7.length c1_7, .slice (some ad161) l1_8.length c1_8] 73 (0, 0)) (by (with_reducible repeat (first | refine blk_drewN ?_ _ | refine blk_drew ?_ | refine blk_alloc ?_ _)); exact BK157.out)) : gb163 ≠ gb157))
            clear BK156
            clear BK157
            clear HB
            have BK156 := n0_
            have BK157 := n1_
            have HB := n2_
            have BK163 := n3_
            have GW163 := n4_
            have GE163 := n5_
            have NB156_163 := n6_
            have NB163_156 := n7_
            have NB157_163 := n8_
            have NB163_157 := n9_
            clear n0_ n1_ n2_ n3_ n4_ n5_ n6_ n7_ n8_ n9_
            clear hb hbox hg
            refine hK.out _ _ ⟨(blk_cell BK156.out 0).trans rfl, (blk_cell BK156.out 1).trans rfl, (blk_cell BK156.out 2).trans rfl, (blk_cell BK156.out 3).trans rfl, (blk_cell BK156.out 4).trans rfl, (blk_cell BK156.out 5).trans rfl, (blk_cell BK156.out 6).trans rfl, (blk_cell BK156.out 7).trans rfl, (blk_cell BK156.out 8).trans rfl, (blk_cell BK157.out 0).trans rfl, (blk_cell BK157.out 1).trans rfl, (blk_cell BK157.out 2).trans rfl, (blk_cell BK157.out 3).trans rfl, (blk_cell BK157.out 4).trans rfl, (blk_cell BK157.out 5).trans rfl, (blk_cell BK157.out 6).trans rfl, (blk_cell BK157.out 7).trans rfl, (blk_cell BK157.out 8).trans rfl, ((HB.out.cell (World.block_lt_of_cell? w _ hw160_0)).trans hw160_0), ((HB.out.cell (World.block_lt_of_cell? w _ hw160_1)).trans hw160_1), ((HB.out.cell (World.block_lt_of_cell? w _ hw160_2)).trans hw160_2), ((HB.out.cell (World.block_lt_of_cell? w _ hw161_0)).trans hw161_0), ((HB.out.cell (World.block_lt_of_cell? w _ hw161_1)).trans hw161_1), ((HB.out.cell (World.block_lt_of_cell? w _ hw161_2)).trans hw161_2)⟩ (fun hHeld => ?_)
            clear hK K
            refine norm_ (a' := ?_) ?_ ?_
            rotate_left
            ·
             show Act.put _ (some 8) _ = _
             simp only [Act.put, List.setIfInBounds_toArray, List.set_cons_zero, List.set_cons_succ, i64_w, i32_w, IntKind.wrap_u32]
             rfl
            refine one_ (i := 10) (N := some 7) #[true, true, true, true, true, true, true, true, true, true, true, true, false, false] rfl rfl (one_of HT_.out (by kernel_rfl)) (by decide) (fun K hK => ?_)
            refine box_step ?hg (N := 7) ?hd (cs := #[.int .i64 0, .int .i64 0, .slice none 0 0]) (t := 111) ?hr ?_; (case hd => rfl); (case hg => rfl); (case hr => first | (go_simp; done) | (go_simp; rfl))
            intro gb162 hg w42 hbox hb
            have n0_ := Aside0.mk (blk_below (g := gb156) (o := .cells #[.int .i64 a0_0, .int .i64 a0_1, .int .i64 a0_2, .int .i64 a0_3, .int .i64 a0_4, .int .i64 a0_5, .int .i64 a0_6, .slice A0_7 l0_7.length c0_7, .slice (some ad160) l0_8.length c0_8] 73 (0, 0)) (by (with_reducible repeat (first | refine blk_drewN ?_ _ | refine blk_drew ?_ | refine blk_alloc ?_ _)); exact BK156.out) hb)
            have n1_ := Aside0.mk (blk_below (g := gb157) (o := .cells #[.int .i64 a1_0, .int .i64 a1_1, .int .i64 a1_2, .int .i64 a1_3, .int .i64 a1_4, .int .i64 a1_5, .int .i64 a1_6, .slice A1_7 l1_7.length c1_7, .slice (some ad161) l1_8.length c1_8] 73 (0, 0)) (by (with_reducible repeat (first | refine blk_drewN ?_ _ | refine blk_drew ?_ | refine blk_alloc ?_ _)); exact BK157.out) hb)
            have n2_ := Aside0.mk (blk_below (g := gb163) (o := .cells #[.int .i64 0, .int .i64 0, .slice none 0 0] 111 (0, 0)) (by (with_reducible repeat (first | refine blk_drewN ?_ _ | refine blk_drew ?_ | refine blk_alloc ?_ _)); exact BK163.out) hb)
            have n3_ := Aside0.mk (below_step (by repeat (first | (with_reducible first | exact HB.out | apply below_alloc | apply pw_below_drewN | apply below_drew1 | refine below_set ?_ GE156.out | refine below_set ?_ GE157.out | refine below_set ?_ GE163.out) | exact HB.out)) hb)
            have n4_ := Aside0.mk (hbox)
            have n5_ := Aside0.mk ((by rw [hg]; exact (below_size (by repeat (first | (with_reducible first | exact HB.out | apply below_alloc | apply pw_below_drewN | apply below_drew1 | refine below_set ?_ GE156.out | refine below_set ?_ GE157.out | refine below_set ?_ GE163.out) | exact HB.out))) : w.heap.size ≤ gb162))
            have n6_ := Aside0.mk ((by rw [hg]; exact (below_size (by repeat (first | (with_reducible first | exact HB.out | apply below_alloc | apply pw_below_drewN | apply below_drew1 | refine below_set ?_ GE156.out | refine below_set ?_ GE157.out | refine below_set ?_ GE163.out) | exact HB.out))) : w.heap.size ≤ gb162))
            have n7_ := Aside0.mk ((by rw [hg]; exact Nat.ne_of_lt (blk_lt (g := gb156) (o := .cells #[.int .i64 a0_0, .int .i64 a0_1, .int .i64 a0_2, .int .i64 a0_3, .int .i64 a0_4, .int .i64 a0_5, .int .i64 a0_6, .slice A0_7 l0_7.length c0_7, .slice (some ad160) l0_8.length c0_8] 73 (0, 0)) (by (with_reducible repeat (first | refine blk_drewN ?_ _ | refine blk_drew ?_ | refine blk_alloc ?_ _)); exact BK156.out)) : gb156 ≠ gb162))
            have n8_ := Aside0.mk ((by rw [hg]; exact Nat.ne_of_gt (blk_lt (g := gb156) (o := .cells #[.int .i64 a0_0, .int .i64 a0_1, .int .i64 a0_2, .int .i64 a0_3, .int .i64 a0_4, .int .i64 a0_5, .int .i64 a0_6, .slice A0_7 l0_7.length c0_7, .slice (some ad160) l0_8.length c0_8] 73 (0, 0)) (by (with_reducible repeat (first | refine blk_drewN ?_ _ | refine blk_drew ?_ | refine blk_alloc ?_ _)); exact BK156.out)) : gb162 ≠ gb156))
            have n9_ := Aside0.mk ((by rw [hg]; exact Nat.ne_of_lt (blk_lt (g := gb157) (o := .cells #[.int .i64 a1_0, .int .i64 a1_1, .int .i64 a1_2, .int .i64 a1_3, .int .i64 a1_4, .int .i64 a1_5, .int .i64 a1_6, .slice A1_7 l1_7.length c1_7, .slice (some ad161) l1_8.length c1_8] 73 (0, 0)) (by (with_reducible repeat (first | refine blk_drewN ?_ _ | refine blk_drew ?_ | refine blk_alloc ?_ _)); exact BK157.out)) : gb157 ≠ gb162))
            have n10_ := Aside0.mk ((by rw [hg]; exact Nat.ne_of_gt (blk_lt (g := gb157) (o := .cells #[.int .i64 a1_0, .int .i64 a1_1, .int .i64 a1_2, .int .i64 a1_3, .int .i64 a1_4, .int .i64 a1_5, .int .i64 a1_6, .slice A1_7 l1_7.length c1_7, .slice (some ad161) l1_8.length c1_8] 73 (0, 0)) (by (with_reducible repeat (first | refine blk_drewN ?_ _ | refine blk_drew ?_ | refine blk_alloc ?_ _)); exact BK157.out)) : gb162 ≠ gb157))
            have n11_ := Aside0.mk ((by rw [hg]; exact Nat.ne_of_lt (blk_lt (g := gb163) (o := .cells #[.int .i64 0, .int .i64 0, .slice none 0 0] 111 (0, 0)) (by (with_reducible repeat (first | refine blk_drewN ?_ _ | refine blk_drew ?_ | refine blk_alloc ?_ _)); exact BK163.out)) : gb163 ≠ gb162))
            have n12_ := Aside0.mk ((by rw [hg]; exact Nat.ne_of_gt (blk_lt (g := gb163) (o := .cells #[.int .i64 0, .int .i64 0, .slice none 0 0] 111 (0, 0)) (by (with_reducible repeat (first | refine blk_drewN ?_ _ | refine blk_drew ?_ | refine blk_alloc ?_ _)); exact BK163.out)) : gb162 ≠ gb163))
            clear BK156
            clear BK157
            clear BK163
            clear HB
            have BK156 := n0_
            have BK157 := n1_
            have BK163 := n2_
            have HB := n3_
            have BK162 := n4_
            have GW162 := n5_
            have GE162 := n6_
            have NB156_162 := n7_
            have NB162_156 := n8_
            have NB157_162 := n9_
            have NB162_157 := n10_
            have NB163_162 := n11_
            have NB162_163 := n12_
            clear n0_ n1_ n2_ n3_ n4_ n5_ n6_ n7_ n8_ n9_ n10_ n11_ n12_
            clear hb hbox hg
            refine hK.out _ _ ⟨(blk_cell BK156.out 0).trans rfl, (blk_cell BK156.out 1).trans rfl, (blk_cell BK156.out 2).trans rfl, (blk_cell BK156.out 3).trans rfl, (blk_cell BK156.out 4).trans rfl, (blk_cell BK156.out 5).trans rfl, (blk_cell BK156.out 6).trans rfl, (blk_cell BK156.out 7).trans rfl, (blk_cell BK156.out 8).trans rfl, (blk_cell BK157.out 0).trans rfl, (blk_cell BK157.out 1).trans rfl, (blk_cell BK157.out 2).trans rfl, (blk_cell BK157.out 3).trans rfl, (blk_cell BK157.out 4).trans rfl, (blk_cell BK157.out 5).trans rfl, (blk_cell BK157.out 6).trans rfl, (blk_cell BK157.out 7).trans rfl, (blk_cell BK157.out 8).trans rfl, ((HB.out.cell (World.block_lt_of_cell? w _ hw160_0)).trans hw160_0), ((HB.out.cell (World.block_lt_of_cell? w _ hw160_1)).trans hw160_1), ((HB.out.cell (World.block_lt_of_cell? w _ hw160_2)).trans hw160_2), ((HB.out.cell (World.block_lt_of_cell? w _ hw161_0)).trans hw161_0), ((HB.out.cell (World.block_lt_of_cell? w _ hw161_1)).trans hw161_1), ((HB.out.cell (World.block_lt_of_cell? w _ hw161_2)).trans hw161_2)⟩ (fun hHeld => ?_)
            clear hK K
            refine norm_ (a' := ?_) ?_ ?_
            rotate_left
            ·
             show Act.put _ (some 7) _ = _
             simp only [Act.put, List.setIfInBounds_toArray, List.set_cons_zero, List.set_cons_succ, i64_w, i32_w, IntKind.wrap_u32]
             rfl
            exact norm_ (by simp only [putAll, Act.put, List.setIfInBounds_toArray, List.set_cons_zero, List.set_cons_succ]) (hCont (gb162, gb163) _ ⟨hHeld, (by (with_reducible repeat (first | refine blk_drewN ?_ _ | refine blk_drew ?_ | refine blk_alloc ?_ _)); exact BK156.out), (by (with_reducible repeat (first | refine blk_drewN ?_ _ | refine blk_drew ?_ | refine blk_alloc ?_ _)); exact BK157.out), (by (with_reducible repeat (first | refine blk_drewN ?_ _ | refine blk_drew ?_ | refine blk_alloc ?_ _)); exact BK162.out), (by (with_reducible repeat (first | refine blk_drewN ?_ _ | refine blk_drew ?_ | refine blk_alloc ?_ _)); exact BK163.out), GW162.out, GE162.out, NB156_162.out, NB162_156.out, NB157_162.out, NB162_157.out, NB163_162.out, NB162_163.out, GW163.out, GE163.out, NB156_163.out, NB163_156.out, NB157_163.out, NB163_157.out, (by repeat (first | (with_reducible first | exact HB.out | apply below_alloc | apply pw_below_drewN | apply below_drew1 | refine below_set ?_ GE156.out | refine below_set ?_ GE157.out | refine below_set ?_ GE163.out | refine below_set ?_ GE162.out) | exact HB.out))⟩)
          rintro ⟨gb162, gb163⟩ w43 ⟨hS_, h0_, h1_, h2_, h3_, h4_, h5_, h6_, h7_, h8_, h9_, h10_, h11_, h12_, h13_, h14_, h15_, h16_, h17_, h18_⟩
          have n0_ : Aside0 (w43.heap[gb156]? = some (.cells #[.int .i64 a0_0, .int .i64 a0_1, .int .i64 a0_2, .int .i64 a0_3, .int .i64 a0_4, .int .i64 a0_5, .int .i64 a0_6, .slice A0_7 l0_7.length c0_7, .slice (some ad160) l0_8.length c0_8] 73 (0, 0))) := ⟨h0_⟩
          have n1_ : Aside0 (w43.heap[gb157]? = some (.cells #[.int .i64 a1_0, .int .i64 a1_1, .int .i64 a1_2, .int .i64 a1_3, .int .i64 a1_4, .int .i64 a1_5, .int .i64 a1_6, .slice A1_7 l1_7.length c1_7, .slice (some ad161) l1_8.length c1_8] 73 (0, 0))) := ⟨h1_⟩
          have n2_ : Aside0 (w43.heap[gb162]? = some (.cells #[.int .i64 0, .int .i64 0, .slice none 0 0] 111 (0, 0))) := ⟨h2_⟩
          have n3_ : Aside0 (w43.heap[gb163]? = some (.cells #[.int .i64 0, .int .i64 0, .slice none 0 0] 111 (0, 0))) := ⟨h3_⟩
          have n4_ : Aside0 (w.heap.size ≤ gb162) := ⟨h4_⟩
          have n5_ : Aside0 (w.heap.size ≤ gb162) := ⟨h5_⟩
          have n6_ : Aside0 (gb156 ≠ gb162) := ⟨h6_⟩
          have n7_ : Aside0 (gb162 ≠ gb156) := ⟨h7_⟩
          have n8_ : Aside0 (gb157 ≠ gb162) := ⟨h8_⟩
          have n9_ : Aside0 (gb162 ≠ gb157) := ⟨h9_⟩
          have n10_ : Aside0 (gb163 ≠ gb162) := ⟨h10_⟩
          have n11_ : Aside0 (gb162 ≠ gb163) := ⟨h11_⟩
          have n12_ : Aside0 (w.heap.size ≤ gb163) := ⟨h12_⟩
          have n13_ : Aside0 (w.heap.size ≤ gb163) := ⟨h13_⟩
          have n14_ : Aside0 (gb156 ≠ gb163) := ⟨h14_⟩
          have n15_ : Aside0 (gb163 ≠ gb156) := ⟨h15_⟩
          have n16_ : Aside0 (gb157 ≠ gb163) := ⟨h16_⟩
          have n17_ : Aside0 (gb163 ≠ gb157) := ⟨h17_⟩
          have n18_ : Aside0 (Below w.heap.size w w43) := ⟨h18_⟩
          clear BK156
          clear BK157
          clear HB
          clear h0_ h1_ h2_ h3_ h4_ h5_ h6_ h7_ h8_ h9_ h10_ h11_ h12_ h13_ h14_ h15_ h16_ h17_ h18_
          have BK156 := n0_
          have BK157 := n1_
          have BK162 := n2_
          have BK163 := n3_
          have GW162 := n4_
          have GE162 := n5_
          have NB156_162 := n6_
          have NB162_156 := n7_
          have NB157_162 := n8_
          have NB162_157 := n9_
          have NB163_162 := n10_
          have NB162_163 := n11_
          have GW163 := n12_
          have GE163 := n13_
          have NB156_163 := n14_
          have NB163_156 := n15_
          have NB157_163 := n16_
          have NB163_157 := n17_
          have HB := n18_
          clear n0_ n1_ n2_ n3_ n4_ n5_ n6_ n7_ n8_ n9_ n10_ n11_ n12_ n13_ n14_ n15_ n16_ n17_ n18_
          have hHeld : w43.cell? ⟨gb156, 0, none⟩ = some (.int .i64 a0_0) ∧ w43.cell? ⟨gb156, 1, none⟩ = some (.int .i64 a0_1) ∧ w43.cell? ⟨gb156, 2, none⟩ = some (.int .i64 a0_2) ∧ w43.cell? ⟨gb156, 3, none⟩ = some (.int .i64 a0_3) ∧ w43.cell? ⟨gb156, 4, none⟩ = some (.int .i64 a0_4) ∧ w43.cell? ⟨gb156, 5, none⟩ = some (.int .i64 a0_5) ∧ w43.cell? ⟨gb156, 6, none⟩ = some (.int .i64 a0_6) ∧ w43.cell? ⟨gb156, 7, none⟩ = some (.slice A0_7 l0_7.length c0_7) ∧ w43.cell? ⟨gb156, 8, none⟩ = some (.slice (some ad160) l0_8.length c0_8) ∧ w43.cell? ⟨gb157, 0, none⟩ = some (.int .i64 a1_0) ∧ w43.cell? ⟨gb157, 1, none⟩ = some (.int .i64 a1_1) ∧ w43.cell? ⟨gb157, 2, none⟩ = some (.int .i64 a1_2) ∧ w43.cell? ⟨gb157, 3, none⟩ = some (.int .i64 a1_3) ∧ w43.cell? ⟨gb157, 4, none⟩ = some (.int .i64 a1_4) ∧ w43.cell? ⟨gb157, 5, none⟩ = some (.int .i64 a1_5) ∧ w43.cell? ⟨gb157, 6, none⟩ = some (.int .i64 a1_6) ∧ w43.cell? ⟨gb157, 7, none⟩ = some (.slice A1_7 l1_7.length c1_7) ∧ w43.cell? ⟨gb157, 8, none⟩ = some (.slice (some ad161) l1_8.length c1_8) ∧ w43.cell? (ad160.add ((x6_3).toNat * 3)) = some (.int .i64 ((rd_T111 l0_8 x6_3).f0)) ∧ w43.cell? ⟨(ad160.add ((x6_3).toNat * 3)).block, (ad160.add ((x6_3).toNat * 3)).off + 1, none⟩ = some (.int .i64 ((rd_T111 l0_8 x6_3).f1)) ∧ w43.cell? ⟨(ad160.add ((x6_3).toNat * 3)).block, (ad160.add ((x6_3).toNat * 3)).off + 2, none⟩ = some (.slice A160_2 ((rd_T111 l0_8 x6_3).f2).length c160_2) ∧ w43.cell? (ad161.add ((x6_3).toNat * 3)) = some (.int .i64 ((rd_T111 l1_8 x6_3).f0)) ∧ w43.cell? ⟨(ad161.add ((x6_3).toNat * 3)).block, (ad161.add ((x6_3).toNat * 3)).off + 1, none⟩ = some (.int .i64 ((rd_T111 l1_8 x6_3).f1)) ∧ w43.cell? ⟨(ad161.add ((x6_3).toNat * 3)).block, (ad161.add ((x6_3).toNat * 3)).off + 2, none⟩ = some (.slice A161_2 ((rd_T111 l1_8 x6_3).f2).length c161_2) := hS_
          refine norm_ (a' := ?_) ?_ ?_
          rotate_left
          ·
           simp only [putAll, Act.put, List.setIfInBounds_toArray, List.set_cons_zero, List.set_cons_succ]
           rfl
          refine one_ (i := 12) (N := none) #[true, true, true, true, true, true, true, true, true, true, true, true, true, false] rfl rfl (one_of HT_.out (by kernel_rfl)) (by decide) (fun K hK => ?_)
          have hs44 : w43.cell? ⟨gb162, 0, none⟩ = some (.int .i64 0) := (blk_cell BK162.out 0).trans rfl
          have hfs44 := blk_frozen BK162.out 0
          have hns44_0 := NB156_162.out
          have hns44_1 := NB157_162.out
          have hns44_3 := NB163_162.out
          have hms44_0 := NB162_156.out
          have hms44_1 := NB162_157.out
          have hms44_3 := NB162_163.out
          have hs45 : w43.cell? ⟨gb162, 1, none⟩ = some (.int .i64 0) := (blk_cell BK162.out 1).trans rfl
          have hfs45 := blk_frozen BK162.out 1
          have hns45_0 := NB156_162.out
          have hns45_1 := NB157_162.out
          have hns45_3 := NB163_162.out
          have hms45_0 := NB162_156.out
          have hms45_1 := NB162_157.out
          have hms45_3 := NB162_163.out
          have hs46 : w43.cell? ⟨gb162, 2, none⟩ = some (.slice none 0 0) := (blk_cell BK162.out 2).trans rfl
          have hfs46 := blk_frozen BK162.out 2
          have hns46_0 := NB156_162.out
          have hns46_1 := NB157_162.out
          have hns46_3 := NB163_162.out
          have hms46_0 := NB162_156.out
          have hms46_1 := NB162_157.out
          have hms46_3 := NB162_163.out
          refine skip_ (w1 := ?_) (by rfl) rfl ?_ ?_
          rotate_left
          ·
           go_simp
           rfl
          refine hK.out _ _ ⟨((cell_far (p := ⟨gb162, _, none⟩) NB156_162.out _).trans (((cell_far (p := ⟨gb162, _, none⟩) NB156_162.out _).trans (((cell_far (p := ⟨gb162, _, none⟩) NB156_162.out _).trans (hHeld.1)))))), ((cell_far (p := ⟨gb162, _, none⟩) NB156_162.out _).trans (((cell_far (p := ⟨gb162, _, none⟩) NB156_162.out _).trans (((cell_far (p := ⟨gb162, _, none⟩) NB156_162.out _).trans (hHeld.2.1)))))), ((cell_far (p := ⟨gb162, _, none⟩) NB156_162.out _).trans (((cell_far (p := ⟨gb162, _, none⟩) NB156_162.out _).trans (((cell_far (p := ⟨gb162, _, none⟩) NB156_162.out _).trans (hHeld.2.2.1)))))), ((cell_far (p := ⟨gb162, _, none⟩) NB156_162.out _).trans (((cell_far (p := ⟨gb162, _, none⟩) NB156_162.out _).trans (((cell_far (p := ⟨gb162, _, none⟩) NB156_162.out _).trans (hHeld.2.2.2.1)))))), ((cell_far (p := ⟨gb162, _, none⟩) NB156_162.out _).trans (((cell_far (p := ⟨gb162, _, none⟩) NB156_162.out _).trans (((cell_far (p := ⟨gb162, _, none⟩) NB156_162.out _).trans (hHeld.2.2.2.2.1)))))), ((cell_far (p := ⟨gb162, _, none⟩) NB156_162.out _).trans (((cell_far (p := ⟨gb162, _, none⟩) NB156_162.out _).trans (((cell_far (p := ⟨gb162, _, none⟩) NB156_162.out _).trans (hHeld.2.2.2.2.2.1)))))), ((cell_far (p := ⟨gb162, _, none⟩) NB156_162.out _).trans (((cell_far (p := ⟨gb162, _, none⟩) NB156_162.out _).trans (((cell_far (p := ⟨gb162, _, none⟩) NB156_162.out _).trans (hHeld.2.2.2.2.2.2.1)))))), ((cell_far (p := ⟨gb162, _, none⟩) NB156_162.out _).trans (((cell_far (p := ⟨gb162, _, none⟩) NB156_162.out _).trans (((cell_far (p := ⟨gb162, _, none⟩) NB156_162.out _).trans (hHeld.2.2.2.2.2.2.2.1)))))), ((cell_far (p := ⟨gb162, _, none⟩) NB156_162.out _).trans (((cell_far (p := ⟨gb162, _, none⟩) NB156_162.out _).trans (((cell_far (p := ⟨gb162, _, none⟩) NB156_162.out _).trans (hHeld.2.2.2.2.2.2.2.2.1)))))), ((cell_far (p := ⟨gb162, _, none⟩) NB157_162.out _).trans (((cell_far (p := ⟨gb162, _, none⟩) NB157_162.out _).trans (((cell_far (p := ⟨gb162, _, none⟩) NB157_162.out _).trans (hHeld.2.2.2.2.2.2.2.2.2.1)))))), ((cell_far (p := ⟨gb162, _, none⟩) NB157_162.out _).trans (((cell_far (p := ⟨gb162, _, none⟩) NB157_162.out _).trans (((cell_far (p := ⟨gb162, _, none⟩) NB157_162.out _).trans (hHeld.2.2.2.2.2.2.2.2.2.2.1)))))), ((cell_far (p := ⟨gb162, _, none⟩) NB157_162.out _).trans (((cell_far (p := ⟨gb162, _, none⟩) NB157_162.out _).trans (((cell_far (p := ⟨gb162, _, none⟩) NB157_162.out _).trans (hHeld.2.2.2.2.2.2.2.2.2.2.2.1)))))), ((cell_far (p := ⟨gb162, _, none⟩) NB157_162.out _).trans (((cell_far (p := ⟨gb162, _, none⟩) NB157_162.out _).trans (((cell_far (p := ⟨gb162, _, none⟩) NB157_162.out _).trans (hHeld.2.2.2.2.2.2.2.2.2.2.2.2.1)))))), ((cell_far (p := ⟨gb162, _, none⟩) NB157_162.out _).trans (((cell_far (p := ⟨gb162, _, none⟩) NB157_162.out _).trans (((cell_far (p := ⟨gb162, _, none⟩) NB157_162.out _).trans (hHeld.2.2.2.2.2.2.2.2.2.2.2.2.2.1)))))), ((cell_far (p := ⟨gb162, _, none⟩) NB157_162.out _).trans (((cell_far (p := ⟨gb162, _, none⟩) NB157_162.out _).trans (((cell_far (p := ⟨gb162, _, none⟩) NB157_162.out _).trans (hHeld.2.2.2.2.2.2.2.2.2.2.2.2.2.2.1)))))), ((cell_far (p := ⟨gb162, _, none⟩) NB157_162.out _).trans (((cell_far (p := ⟨gb162, _, none⟩) NB157_162.out _).trans (((cell_far (p := ⟨gb162, _, none⟩) NB157_162.out _).trans (hHeld.2.2.2.2.2.2.2.2.2.2.2.2.2.2.2.1)))))), ((cell_far (p := ⟨gb162, _, none⟩) NB157_162.out _).trans (((cell_far (p := ⟨gb162, _, none⟩) NB157_162.out _).trans (((cell_far (p := ⟨gb162, _, none⟩) NB157_162.out _).trans (hHeld.2.2.2.2.2.2.2.2.2.2.2.2.2.2.2.2.1)))))), ((cell_far (p := ⟨gb162, _, none⟩) NB157_162.out _).trans (((cell_far (p := ⟨gb162, _, none⟩) NB157_162.out _).trans (((cell_far (p := ⟨gb162, _, none⟩) NB157_162.out _).trans (hHeld.2.2.2.2.2.2.2.2.2.2.2.2.2.2.2.2.2.1)))))), ((cell_far (p := ⟨gb162, _, none⟩) (by first | exact Nat.ne_of_lt (Nat.lt_of_lt_of_le (by have := World.block_lt_of_cell? _ _ hw160_0; first | rwa [add_block] at this | exact this) GW162.out) | (rw [add_block]; exact Nat.ne_of_lt (Nat.lt_of_lt_of_le (by have := World.block_lt_of_cell? _ _ hw160_0; first | rwa [add_block] at this | exact this) GW162.out)) | (show (Addr.add _ _).block ≠ _; rw [add_block]; exact Nat.ne_of_lt (Nat.lt_of_lt_of_le (by have := World.block_lt_of_cell? _ _ hw160_0; first | rwa [add_block] at this | exact this) GW162.out)) | (dsimp only; exact Nat.ne_of_lt (Nat.lt_of_lt_of_le (by have := World.block_lt_of_cell? _ _ hw160_0; first | rwa [add_block] at this | exact this) GW162.out))) _).trans (((cell_far (p := ⟨gb162, _, none⟩) (by first | exact Nat.ne_of_lt (Nat.lt_of_lt_of_le (by have := World.block_lt_of_cell? _ _ hw160_0; first | rwa [add_block] at this | exact this) GW162.out) | (rw [add_block]; exact Nat.ne_of_lt (Nat.lt_of_lt_of_le (by have := World.block_lt_of_cell? _ _ hw160_0; first | rwa [add_block] at this | exact this) GW162.out)) | (show (Addr.add _ _).block ≠ _; rw [add_block]; exact Nat.ne_of_lt (Nat.lt_of_lt_of_le (by have := World.block_lt_of_cell? _ _ hw160_0; first | rwa [add_block] at this | exact this) GW162.out)) | (dsimp only; exact Nat.ne_of_lt (Nat.lt_of_lt_of_le (by have := World.block_lt_of_cell? _ _ hw160_0; first | rwa [add_block] at this | exact this) GW162.out))) _).trans (((cell_far (p := ⟨gb162, _, none⟩) (by first | exact Nat.ne_of_lt (Nat.lt_of_lt_of_le (by have := World.block_lt_of_cell? _ _ hw160_0; first | rwa [add_block] at this | exact this) GW162.out) | (rw [add_block]; exact Nat.ne_of_lt (Nat.lt_of_lt_of_le (by have := World.block_lt_of_cell? _ _ hw160_0; first | rwa [add_block] at this | exact this) GW162.out)) | (show (Addr.add _ _).block ≠ _; rw [add_block]; exact Nat.ne_of_lt (Nat.lt_of_lt_of_le (by have := World.block_lt_of_cell? _ _ hw160_0; first | rwa [add_block] at this | exact this) GW162.out)) | (dsimp only; exact Nat.ne_of_lt (Nat.lt_of_lt_of_le (by have := World.block_lt_of_cell? _ _ hw160_0; first | rwa [add_block] at this | exact this) GW162.out))) _).trans (hHeld.2.2.2.2.2.2.2.2.2.2.2.2.2.2.2.2.2.2.1)))))), ((cell_far (p := ⟨gb162, _, none⟩) (by first | exact Nat.ne_of_lt (Nat.lt_of_lt_of_le (by have := World.block_lt_of_cell? _ _ hw160_1; first | rwa [add_block] at this | exact this) GW162.out) | (rw [add_block]; exact Nat.ne_of_lt (Nat.lt_of_lt_of_le (by have := World.block_lt_of_cell? _ _ hw160_1; first | rwa [add_block] at this | exact this) GW162.out)) | (show (Addr.add _ _).block ≠ _; rw [add_block]; exact Nat.ne_of_lt (Nat.lt_of_lt_of_le (by have := World.block_lt_of_cell? _ _ hw160_1; first | rwa [add_block] at this | exact this) GW162.out)) | (dsimp only; exact Nat.ne_of_lt (Nat.lt_of_lt_of_le (by have := World.block_lt_of_cell? _ _ hw160_1; first | rwa [add_block] at this | exact this) GW162.out))) _).trans (((cell_far (p := ⟨gb162, _, none⟩) (by first | exact Nat.ne_of_lt (Nat.lt_of_lt_of_le (by have := World.block_lt_of_cell? _ _ hw160_1; first | rwa [add_block] at this | exact this) GW162.out) | (rw [add_block]; exact Nat.ne_of_lt (Nat.lt_of_lt_of_le (by have := World.block_lt_of_cell? _ _ hw160_1; first | rwa [add_block] at this | exact this) GW162.out)) | (show (Addr.add _ _).block ≠ _; rw [add_block]; exact Nat.ne_of_lt (Nat.lt_of_lt_of_le (by have := World.block_lt_of_cell? _ _ hw160_1; first | rwa [add_block] at this | exact this) GW162.out)) | (dsimp only; exact Nat.ne_of_lt (Nat.lt_of_lt_of_le (by have := World.block_lt_of_cell? _ _ hw160_1; first | rwa [add_block] at this | exact this) GW162.out))) _).trans (((cell_far (p := ⟨gb162, _, none⟩) (by first | exact Nat.ne_of_lt (Nat.lt_of_lt_of_le (by have := World.block_lt_of_cell? _ _ hw160_1; first | rwa [add_block] at this | exact this) GW162.out) | (rw [add_block]; exact Nat.ne_of_lt (Nat.lt_of_lt_of_le (by have := World.block_lt_of_cell? _ _ hw160_1; first | rwa [add_block] at this | exact this) GW162.out)) | (show (Addr.add _ _).block ≠ _; rw [add_block]; exact Nat.ne_of_lt (Nat.lt_of_lt_of_le (by have := World.block_lt_of_cell? _ _ hw160_1; first | rwa [add_block] at this | exact this) GW162.out)) | (dsimp only; exact Nat.ne_of_lt (Nat.lt_of_lt_of_le (by have := World.block_lt_of_cell? _ _ hw160_1; first | rwa [add_block] at this | exact this) GW162.out))) _).trans (hHeld.2.2.2.2.2.2.2.2.2.2.2.2.2.2.2.2.2.2.2.1)))))), ((cell_far (p := ⟨gb162, _, none⟩) (by first | exact Nat.ne_of_lt (Nat.lt_of_lt_of_le (by have := World.block_lt_of_cell? _ _ hw160_2; first | rwa [add_block] at this | exact this) GW162.out) | (rw [add_block]; exact Nat.ne_of_lt (Nat.lt_of_lt_of_le (by have := World.block_lt_of_cell? _ _ hw160_2; first | rwa [add_block] at this | exact this) GW162.out)) | (show (Addr.add _ _).block ≠ _; rw [add_block]; exact Nat.ne_of_lt (Nat.lt_of_lt_of_le (by have := World.block_lt_of_cell? _ _ hw160_2; first | rwa [add_block] at this | exact this) GW162.out)) | (dsimp only; exact Nat.ne_of_lt (Nat.lt_of_lt_of_le (by have := World.block_lt_of_cell? _ _ hw160_2; first | rwa [add_block] at this | exact this) GW162.out))) _).trans (((cell_far (p := ⟨gb162, _, none⟩) (by first | exact Nat.ne_of_lt (Nat.lt_of_lt_of_le (by have := World.block_lt_of_cell? _ _ hw160_2; first | rwa [add_block] at this | exact this) GW162.out) | (rw [add_block]; exact Nat.ne_of_lt (Nat.lt_of_lt_of_le (by have := World.block_lt_of_cell? _ _ hw160_2; first | rwa [add_block] at this | exact this) GW162.out)) | (show (Addr.add _ _).block ≠ _; rw [add_block]; exact Nat.ne_of_lt (Nat.lt_of_lt_of_le (by have := World.block_lt_of_cell? _ _ hw160_2; first | rwa [add_block] at this | exact this) GW162.out)) | (dsimp only; exact Nat.ne_of_lt (Nat.lt_of_lt_of_le (by have := World.block_lt_of_cell? _ _ hw160_2; first | rwa [add_block] at this | exact this) GW162.out))) _).trans (((cell_far (p := ⟨gb162, _, none⟩) (by first | exact Nat.ne_of_lt (Nat.lt_of_lt_of_le (by have := World.block_lt_of_cell? _ _ hw160_2; first | rwa [add_block] at this | exact this) GW162.out) | (rw [add_block]; exact Nat.ne_of_lt (Nat.lt_of_lt_of_le (by have := World.block_lt_of_cell? _ _ hw160_2; first | rwa [add_block] at this | exact this) GW162.out)) | (show (Addr.add _ _).block ≠ _; rw [add_block]; exact Nat.ne_of_lt (Nat.lt_of_lt_of_le (by have := World.block_lt_of_cell? _ _ hw160_2; first | rwa [add_block] at this | exact this) GW162.out)) | (dsimp only; exact Nat.ne_of_lt (Nat.lt_of_lt_of_le (by have := World.block_lt_of_cell? _ _ hw160_2; first | rwa [add_block] at this | exact this) GW162.out))) _).trans (hHeld.2.2.2.2.2.2.2.2.2.2.2.2.2.2.2.2.2.2.2.2.1)))))), ((cell_far (p := ⟨gb162, _, none⟩) (by first | exact Nat.ne_of_lt (Nat.lt_of_lt_of_le (by have := World.block_lt_of_cell? _ _ hw161_0; first | rwa [add_block] at this | exact this) GW162.out) | (rw [add_block]; exact Nat.ne_of_lt (Nat.lt_of_lt_of_le (by have := World.block_lt_of_cell? _ _ hw161_0; first | rwa [add_block] at this | exact this) GW162.out)) | (show (Addr.add _ _).block ≠ _; rw [add_block]; exact Nat.ne_of_lt (Nat.lt_of_lt_of_le (by have := World.block_lt_of_cell? _ _ hw161_0; first | rwa [add_block] at this | exact this) GW162.out)) | (dsimp only; exact Nat.ne_of_lt (Nat.lt_of_lt_of_le (by have := World.block_lt_of_cell? _ _ hw161_0; first | rwa [add_block] at this | exact this) GW162.out))) _).trans (((cell_far (p := ⟨gb162, _, none⟩) (by first | exact Nat.ne_of_lt (Nat.lt_of_lt_of_le (by have := World.block_lt_of_cell? _ _ hw161_0; first | rwa [add_block] at this | exact this) GW162.out) | (rw [add_block]; exact Nat.ne_of_lt (Nat.lt_of_lt_of_le (by have := World.block_lt_of_cell? _ _ hw161_0; first | rwa [add_block] at this | exact this) GW162.out)) | (show (Addr.add _ _).block ≠ _; rw [add_block]; exact Nat.ne_of_lt (Nat.lt_of_lt_of_le (by have := World.block_lt_of_cell? _ _ hw161_0; first | rwa [add_block] at this | exact this) GW162.out)) | (dsimp only; exact Nat.ne_of_lt (Nat.lt_of_lt_of_le (by have := World.block_lt_of_cell? _ _ hw161_0; first | rwa [add_block] at this | exact this) GW162.out))) _).trans (((cell_far (p := ⟨gb162, _, none⟩) (by first | exact Nat.ne_of_lt (Nat.lt_of_lt_of_le (by have := World.block_lt_of_cell? _ _ hw161_0; first | rwa [add_block] at this | exact this) GW162.out) | (rw [add_block]; exact Nat.ne_of_lt (Nat.lt_of_lt_of_le (by have := World.block_lt_of_cell? _ _ hw161_0; first | rwa [add_block] at this | exact this) GW162.out)) | (show (Addr.add _ _).block ≠ _; rw [add_block]; exact Nat.ne_of_lt (Nat.lt_of_lt_of_le (by have := World.block_lt_of_cell? _ _ hw161_0; first | rwa [add_block] at this | exact this) GW162.out)) | (dsimp only; exact Nat.ne_of_lt (Nat.lt_of_lt_of_le (by have := World.block_lt_of_cell? _ _ hw161_0; first | rwa [add_block] at this | exact this) GW162.out))) _).trans (hHeld.2.2.2.2.2.2.2.2.2.2.2.2.2.2.2.2.2.2.2.2.2.1)))))), ((cell_far (p := ⟨gb162, _, none⟩) (by first | exact Nat.ne_of_lt (Nat.lt_of_lt_of_le (by have := World.block_lt_of_cell? _ _ hw161_1; first | rwa [add_block] at this | exact this) GW162.out) | (rw [add_block]; exact Nat.ne_of_lt (Nat.lt_of_lt_of_le (by have := World.block_lt_of_cell? _ _ hw161_1; first | rwa [add_block] at this | exact this) GW162.out)) | (show (Addr.add _ _).block ≠ _; rw [add_block]; exact Nat.ne_of_lt (Nat.lt_of_lt_of_le (by have := World.block_lt_of_cell? _ _ hw161_1; first | rwa [add_block] at this | exact this) GW162.out)) | (dsimp only; exact Nat.ne_of_lt (Nat.lt_of_lt_of_le (by have := World.block_lt_of_cell? _ _ hw161_1; first | rwa [add_block] at this | exact this) GW162.out))) _).trans (((cell_far (p := ⟨gb162, _, none⟩) (by first | exact Nat.ne_of_lt (Nat.lt_of_lt_of_le (by have := World.block_lt_of_cell? _ _ hw161_1; first | rwa [add_block] at this | exact this) GW162.out) | (rw [add_block]; exact Nat.ne_of_lt (Nat.lt_of_lt_of_le (by have := World.block_lt_of_cell? _ _ hw161_1; first | rwa [add_block] at this | exact this) GW162.out)) | (show (Addr.add _ _).block ≠ _; rw [add_block]; exact Nat.ne_of_lt (Nat.lt_of_lt_of_le (by have := World.block_lt_of_cell? _ _ hw161_1; first | rwa [add_block] at this | exact this) GW162.out)) | (dsimp only; exact Nat.ne_of_lt (Nat.lt_of_lt_of_le (by have := World.block_lt_of_cell? _ _ hw161_1; first | rwa [add_block] at this | exact this) GW162.out))) _).trans (((cell_far (p := ⟨gb162, _, none⟩) (by first | exact Nat.ne_of_lt (Nat.lt_of_lt_of_le (by have := World.block_lt_of_cell? _ _ hw161_1; first | rwa [add_block] at this | exact this) GW162.out) | (rw [add_block]; exact Nat.ne_of_lt (Nat.lt_of_lt_of_le (by have := World.block_lt_of_cell? _ _ hw161_1; first | rwa [add_block] at this | exact this) GW162.out)) | (show (Addr.add _ _).block ≠ _; rw [add_block]; exact Nat.ne_of_lt (Nat.lt_of_lt_of_le (by have := World.block_lt_of_cell? _ _ hw161_1; first | rwa [add_block] at this | exact this) GW162.out)) | (dsimp only; exact Nat.ne_of_lt (Nat.lt_of_lt_of_le (by have := World.block_lt_of_cell? _ _ hw161_1; first | rwa [add_block] at this | exact this) GW162.out))) _).trans (hHeld.2.2.2.2.2.2.2.2.2.2.2.2.2.2.2.2.2.2.2.2.2.2.1)))))), ((cell_far (p := ⟨gb162, _, none⟩) (by first | exact Nat.ne_of_lt (Nat.lt_of_lt_of_le (by have := World.block_lt_of_cell? _ _ hw161_2; first | rwa [add_block] at this | exact this) GW162.out) | (rw [add_block]; exact Nat.ne_of_lt (Nat.lt_of_lt_of_le (by have := World.block_lt_of_cell? _ _ hw161_2; first | rwa [add_block] at this | exact this) GW162.out)) | (show (Addr.add _ _).block ≠ _; rw [add_block]; exact Nat.ne_of_lt (Nat.lt_of_lt_of_le (by have := World.block_lt_of_cell? _ _ hw161_2; first | rwa [add_block] at this | exact this) GW162.out)) | (dsimp only; exact Nat.ne_of_lt (Nat.lt_of_lt_of_le (by have := World.block_lt_of_cell? _ _ hw161_2; first | rwa [add_block] at this | exact this) GW162.out))) _).trans (((cell_far (p := ⟨gb162, _, none⟩) (by first | exact Nat.ne_of_lt (Nat.lt_of_lt_of_le (by have := World.block_lt_of_cell? _ _ hw161_2; first | rwa [add_block] at this | exact this) GW162.out) | (rw [add_block]; exact Nat.ne_of_lt (Nat.lt_of_lt_of_le (by have := World.block_lt_of_cell? _ _ hw161_2; first | rwa [add_block] at this | exact this) GW162.out)) | (show (Addr.add _ _).block ≠ _; rw [add_block]; exact Nat.ne_of_lt (Nat.lt_of_lt_of_le (by have := World.block_lt_of_cell? _ _ hw161_2; first | rwa [add_block] at this | exact this) GW162.out)) | (dsimp only; exact Nat.ne_of_lt (Nat.lt_of_lt_of_le (by have := World.block_lt_of_cell? _ _ hw161_2; first | rwa [add_block] at this | exact this) GW162.out))) _).trans (((cell_far (p := ⟨gb162, _, none⟩) (by first | exact Nat.ne_of_lt (Nat.lt_of_lt_of_le (by have := World.block_lt_of_cell? _ _ hw161_2; first | rwa [add_block] at this | exact this) GW162.out) | (rw [add_block]; exact Nat.ne_of_lt (Nat.lt_of_lt_of_le (by have := World.block_lt_of_cell? _ _ hw161_2; first | rwa [add_block] at this | exact this) GW162.out)) | (show (Addr.add _ _).block ≠ _; rw [add_block]; exact Nat.ne_of_lt (Nat.lt_of_lt_of_le (by have := World.block_lt_of_cell? _ _ hw161_2; first | rwa [add_block] at this | exact this) GW162.out)) | (dsimp only; exact Nat.ne_of_lt (Nat.lt_of_lt_of_le (by have := World.block_lt_of_cell? _ _ hw161_2; first | rwa [add_block] at this | exact this) GW162.out))) _).trans (hHeld.2.2.2.2.2.2.2.2.2.2.2.2.2.2.2.2.2.2.2.2.2.2.2))))))⟩ (fun hHeld => ?_)
          clear hK K
          refine one_ (i := 13) (N := none) #[true, true, true, true, true, true, true, true, true, true, true, true, true, true] rfl rfl (one_of HT_.out (by kernel_rfl)) (by decide) (fun K hK => ?_)
          have hs47 : w43.cell? ⟨gb163, 0, none⟩ = some (.int .i64 0) := (blk_cell BK163.out 0).trans rfl
          have hfs47 := blk_frozen BK163.out 0
          have hns47_0 := NB156_163.out
          have hns47_1 := NB157_163.out
          have hns47_2 := NB162_163.out
          have hms47_0 := NB163_156.out
          have hms47_1 := NB163_157.out
          have hms47_2 := NB163_162.out
          have hs48 : w43.cell? ⟨gb163, 1, none⟩ = some (.int .i64 0) := (blk_cell BK163.out 1).trans rfl
          have hfs48 := blk_frozen BK163.out 1
          have hns48_0 := NB156_163.out
          have hns48_1 := NB157_163.out
          have hns48_2 := NB162_163.out
          have hms48_0 := NB163_156.out
          have hms48_1 := NB163_157.out
          have hms48_2 := NB163_162.out
          have hs49 : w43.cell? ⟨gb163, 2, none⟩ = some (.slice none 0 0) := (blk_cell BK163.out 2).trans rfl
          have hfs49 := blk_frozen BK163.out 2
          have hns49_0 := NB156_163.out
          have hns49_1 := NB157_163.out
          have hns49_2 := NB162_163.out
          have hms49_0 := NB163_156.out
          have hms49_1 := NB163_157.out
          have hms49_2 := NB163_162.out
          refine skip_ (w1 := ?_) (by rfl) rfl ?_ ?_
          rotate_left
          ·
           go_simp
           rfl
          refine hK.out _ _ ⟨((cell_far (p := ⟨gb163, _, none⟩) NB156_163.out _).trans (((cell_far (p := ⟨gb163, _, none⟩) NB156_163.out _).trans (((cell_far (p := ⟨gb163, _, none⟩) NB156_163.out _).trans (hHeld.1)))))), ((cell_far (p := ⟨gb163, _, none⟩) NB156_163.out _).trans (((cell_far (p := ⟨gb163, _, none⟩) NB156_163.out _).trans (((cell_far (p := ⟨gb163, _, none⟩) NB156_163.out _).trans (hHeld.2.1)))))), ((cell_far (p := ⟨gb163, _, none⟩) NB156_163.out _).trans (((cell_far (p := ⟨gb163, _, none⟩) NB156_163.out _).trans (((cell_far (p := ⟨gb163, _, none⟩) NB156_163.out _).trans (hHeld.2.2.1)))))), ((cell_far (p := ⟨gb163, _, none⟩) NB156_163.out _).trans (((cell_far (p := ⟨gb163, _, none⟩) NB156_163.out _).trans (((cell_far (p := ⟨gb163, _, none⟩) NB156_163.out _).trans (hHeld.2.2.2.1)))))), ((cell_far (p := ⟨gb163, _, none⟩) NB156_163.out _).trans (((cell_far (p := ⟨gb163, _, none⟩) NB156_163.out _).trans (((cell_far (p := ⟨gb163, _, none⟩) NB156_163.out _).trans (hHeld.2.2.2.2.1)))))), ((cell_far (p := ⟨gb163, _, none⟩) NB156_163.out _).trans (((cell_far (p := ⟨gb163, _, none⟩) NB156_163.out _).trans (((cell_far (p := ⟨gb163, _, none⟩) NB156_163.out _).trans (hHeld.2.2.2.2.2.1)))))), ((cell_far (p := ⟨gb163, _, none⟩) NB156_163.out _).trans (((cell_far (p := ⟨gb163, _, none⟩) NB156_163.out _).trans (((cell_far (p := ⟨gb163, _, none⟩) NB156_163.out _).trans (hHeld.2.2.2.2.2.2.1)))))), ((cell_far (p := ⟨gb163, _, none⟩) NB156_163.out _).trans (((cell_far (p := ⟨gb163, _, none⟩) NB156_163.out _).trans (((cell_far (p := ⟨gb163, _, none⟩) NB156_163.out _).trans (hHeld.2.2.2.2.2.2.2.1)))))), ((cell_far (p := ⟨gb163, _, none⟩) NB156_163.out _).trans (((cell_far (p := ⟨gb163, _, none⟩) NB156_163.out _).trans (((cell_far (p := ⟨gb163, _, none⟩) NB156_163.out _).trans (hHeld.2.2.2.2.2.2.2.2.1)))))), ((cell_far (p := ⟨gb163, _, none⟩) NB157_163.out _).trans (((cell_far (p := ⟨gb163, _, none⟩) NB157_163.out _).trans (((cell_far (p := ⟨gb163, _, none⟩) NB157_163.out _).trans (hHeld.2.2.2.2.2.2.2.2.2.1)))))), ((cell_far (p := ⟨gb163, _, none⟩) NB157_163.out _).trans (((cell_far (p := ⟨gb163, _, none⟩) NB157_163.out _).trans (((cell_far (p := ⟨gb163, _, none⟩) NB157_163.out _).trans (hHeld.2.2.2.2.2.2.2.2.2.2.1)))))), ((cell_far (p := ⟨gb163, _, none⟩) NB157_163.out _).trans (((cell_far (p := ⟨gb163, _, none⟩) NB157_163.out _).trans (((cell_far (p := ⟨gb163, _, none⟩) NB157_163.out _).trans (hHeld.2.2.2.2.2.2.2.2.2.2.2.1)))))), ((cell_far (p := ⟨gb163, _, none⟩) NB157_163.out _).trans (((cell_far (p := ⟨gb163, _, none⟩) NB157_163.out _).trans (((cell_far (p := ⟨gb163, _, none⟩) NB157_163.out _).trans (hHeld.2.2.2.2.2.2.2.2.2.2.2.2.1)))))), ((cell_far (p := ⟨gb163, _, none⟩) NB157_163.out _).trans (((cell_far (p := ⟨gb163, _, none⟩) NB157_163.out _).trans (((cell_far (p := ⟨gb163, _, none⟩) NB157_163.out _).trans (hHeld.2.2.2.2.2.2.2.2.2.2.2.2.2.1)))))), ((cell_far (p := ⟨gb163, _, none⟩) NB157_163.out _).trans (((cell_far (p := ⟨gb163, _, none⟩) NB157_163.out _).trans (((cell_far (p := ⟨gb163, _, none⟩) NB157_163.out _).trans (hHeld.2.2.2.2.2.2.2.2.2.2.2.2.2.2.1)))))), ((cell_far (p := ⟨gb163, _, none⟩) NB157_163.out _).trans (((cell_far (p := ⟨gb163, _, none⟩) NB157_163.out _).trans (((cell_far (p := ⟨gb163, _, none⟩) NB157_163.out _).trans (hHeld.2.2.2.2.2.2.2.2.2.2.2.2.2.2.2.1)))))), ((cell_far (p := ⟨gb163, _, none⟩) NB157_163.out _).trans (((cell_far (p := ⟨gb163, _, none⟩) NB157_163.out _).trans (((cell_far (p := ⟨gb163, _, none⟩) NB157_163.out _).trans (hHeld.2.2.2.2.2.2.2.2.2.2.2.2.2.2.2.2.1)))))), ((cell_far (p := ⟨gb163, _, none⟩) NB157_163.out _).trans (((cell_far (p := ⟨gb163, _, none⟩) NB157_163.out _).trans (((cell_far (p := ⟨gb163, _, none⟩) NB157_163.out _).trans (hHeld.2.2.2.2.2.2.2.2.2.2.2.2.2.2.2.2.2.1)))))), ((cell_far (p := ⟨gb163, _, none⟩) (by first | exact Nat.ne_of_lt (Nat.lt_of_lt_of_le (by have := World.block_lt_of_cell? _ _ hw160_0; first | rwa [add_block] at this | exact this) GW163.out) | (rw [add_block]; exact Nat.ne_of_lt (Nat.lt_of_lt_of_le (by have := World.block_lt_of_cell? _ _ hw160_0; first | rwa [add_block] at this | exact this) GW163.out)) | (show (Addr.add _ _).block ≠ _; rw [add_block]; exact Nat.ne_of_lt (Nat.lt_of_lt_of_le (by have := World.block_lt_of_cell? _ _ hw160_0; first | rwa [add_block] at this | exact this) GW163.out)) | (dsimp only; exact Nat.ne_of_lt (Nat.lt_of_lt_of_le (by have := World.block_lt_of_cell? _ _ hw160_0; first | rwa [add_block] at this | exact this) GW163.out))) _).trans (((cell_far (p := ⟨gb163, _, none⟩) (by first | exact Nat.ne_of_lt (Nat.lt_of_lt_of_le (by have := World.block_lt_of_cell? _ _ hw160_0; first | rwa [add_block] at this | exact this) GW163.out) | (rw [add_block]; exact Nat.ne_of_lt (Nat.lt_of_lt_of_le (by have := World.block_lt_of_cell? _ _ hw160_0; first | rwa [add_block] at this | exact this) GW163.out)) | (show (Addr.add _ _).block ≠ _; rw [add_block]; exact Nat.ne_of_lt (Nat.lt_of_lt_of_le (by have := World.block_lt_of_cell? _ _ hw160_0; first | rwa [add_block] at this | exact this) GW163.out)) | (dsimp only; exact Nat.ne_of_lt (Nat.lt_of_lt_of_le (by have := World.block_lt_of_cell? _ _ hw160_0; first | rwa [add_block] at this | exact this) GW163.out))) _).trans (((cell_far (p := ⟨gb163, _, none⟩) (by first | exact Nat.ne_of_lt (Nat.lt_of_lt_of_le (by have := World.block_lt_of_cell? _ _ hw160_0; first | rwa [add_block] at this | exact this) GW163.out) | (rw [add_block]; exact Nat.ne_of_lt (Nat.lt_of_lt_of_le (by have := World.block_lt_of_cell? _ _ hw160_0; first | rwa [add_block] at this | exact this) GW163.out)) | (show (Addr.add _ _).block ≠ _; rw [add_block]; exact Nat.ne_of_lt (Nat.lt_of_lt_of_le (by have := World.block_lt_of_cell? _ _ hw160_0; first | rwa [add_block] at this | exact this) GW163.out)) | (dsimp only; exact Nat.ne_of_lt (Nat.lt_of_lt_of_le (by have := World.block_lt_of_cell? _ _ hw160_0; first | rwa [add_block] at this | exact this) GW163.out))) _).trans (hHeld.2.2.2.2.2.2.2.2.2.2.2.2.2.2.2.2.2.2.1)))))), ((cell_far (p := ⟨gb163, _, none⟩) (by first | exact Nat.ne_of_lt (Nat.lt_of_lt_of_le (by have := World.block_lt_of_cell? _ _ hw160_1; first | rwa [add_block] at this | exact this) GW163.out) | (rw [add_block]; exact Nat.ne_of_lt (Nat.lt_of_lt_of_le (by have := World.block_lt_of_cell? _ _ hw160_1; first | rwa [add_block] at this | exact this) GW163.out)) | (show (Addr.add _ _).block ≠ _; rw [add_block]; exact Nat.ne_of_lt (Nat.lt_of_lt_of_le (by have := World.block_lt_of_cell? _ _ hw160_1; first | rwa [add_block] at this | exact this) GW163.out)) | (dsimp only; exact Nat.ne_of_lt (Nat.lt_of_lt_of_le (by have := World.block_lt_of_cell? _ _ hw160_1; first | rwa [add_block] at this | exact this) GW163.out))) _).trans (((cell_far (p := ⟨gb163, _, none⟩) (by first | exact Nat.ne_of_lt (Nat.lt_of_lt_of_le (by have := World.block_lt_of_cell? _ _ hw160_1; first | rwa [add_block] at this | exact this) GW163.out) | (rw [add_block]; exact Nat.ne_of_lt (Nat.lt_of_lt_of_le (by have := World.block_lt_of_cell? _ _ hw160_1; first | rwa [add_block] at this | exact this) GW163.out)) | (show (Addr.add _ _).block ≠ _; rw [add_block]; exact Nat.ne_of_lt (Nat.lt_of_lt_of_le (by have := World.block_lt_of_cell? _ _ hw160_1; first | rwa [add_block] at this | exact this) GW163.out)) | (dsimp only; exact Nat.ne_of_lt (Nat.lt_of_lt_of_le (by have := World.block_lt_of_cell? _ _ hw160_1; first | rwa [add_block] at this | exact this) GW163.out))) _).trans (((cell_far (p := ⟨gb163, _, none⟩) (by first | exact Nat.ne_of_lt (Nat.lt_of_lt_of_le (by have := World.block_lt_of_cell? _ _ hw160_1; first | rwa [add_block] at this | exact this) GW163.out) | (rw [add_block]; exact Nat.ne_of_lt (Nat.lt_of_lt_of_le (by have := World.block_lt_of_cell? _ _ hw160_1; first | rwa [add_block] at this | exact this) GW163.out)) | (show (Addr.add _ _).block ≠ _; rw [add_block]; exact Nat.ne_of_lt (Nat.lt_of_lt_of_le (by have := World.block_lt_of_cell? _ _ hw160_1; first | rwa [add_block] at this | exact this) GW163.out)) | (dsimp only; exact Nat.ne_of_lt (Nat.lt_of_lt_of_le (by have := World.block_lt_of_cell? _ _ hw160_1; first | rwa [add_block] at this | exact this) GW163.out))) _).trans (hHeld.2.2.2.2.2.2.2.2.2.2.2.2.2.2.2.2.2.2.2.1)))))), ((cell_far (p := ⟨gb163, _, none⟩) (by first | exact Nat.ne_of_lt (Nat.lt_of_lt_of_le (by have := World.block_lt_of_cell? _ _ hw160_2; first | rwa [add_block] at this | exact this) GW163.out) | (rw [add_block]; exact Nat.ne_of_lt (Nat.lt_of_lt_of_le (by have := World.block_lt_of_cell? _ _ hw160_2; first | rwa [add_block] at this | exact this) GW163.out)) | (show (Addr.add _ _).block ≠ _; rw [add_block]; exact Nat.ne_of_lt (Nat.lt_of_lt_of_le (by have := World.block_lt_of_cell? _ _ hw160_2; first | rwa [add_block] at this | exact this) GW163.out)) | (dsimp only; exact Nat.ne_of_lt (Nat.lt_of_lt_of_le (by have := World.block_lt_of_cell? _ _ hw160_2; first | rwa [add_block] at this | exact this) GW163.out))) _).trans (((cell_far (p := ⟨gb163, _, none⟩) (by first | exact Nat.ne_of_lt (Nat.lt_of_lt_of_le (by have := World.block_lt_of_cell? _ _ hw160_2; first | rwa [add_block] at this | exact this) GW163.out) | (rw [add_block]; exact Nat.ne_of_lt (Nat.lt_of_lt_of_le (by have := World.block_lt_of_cell? _ _ hw160_2; first | rwa [add_block] at this | exact this) GW163.out)) | (show (Addr.add _ _).block ≠ _; rw [add_block]; exact Nat.ne_of_lt (Nat.lt_of_lt_of_le (by have := World.block_lt_of_cell? _ _ hw160_2; first | rwa [add_block] at this | exact this) GW163.out)) | (dsimp only; exact Nat.ne_of_lt (Nat.lt_of_lt_of_le (by have := World.block_lt_of_cell? _ _ hw160_2; first | rwa [add_block] at this | exact this) GW163.out))) _).trans (((cell_far (p := ⟨gb163, _, none⟩) (by first | exact Nat.ne_of_lt (Nat.lt_of_lt_of_le (by have := World.block_lt_of_cell? _ _ hw160_2; first | rwa [add_block] at this | exact this) GW163.out) | (rw [add_block]; exact Nat.ne_of_lt (Nat.lt_of_lt_of_le (by have := World.block_lt_of_cell? _ _ hw160_2; first | rwa [add_block] at this | exact this) GW163.out)) | (show (Addr.add _ _).block ≠ _; rw [add_block]; exact Nat.ne_of_lt (Nat.lt_of_lt_of_le (by have := World.block_lt_of_cell? _ _ hw160_2; first | rwa [add_block] at this | exact this) GW163.out)) | (dsimp only; exact Nat.ne_of_lt (Nat.lt_of_lt_of_le (by have := World.block_lt_of_cell? _ _ hw160_2; first | rwa [add_block] at this | exact this) GW163.out))) _).trans (hHeld.2.2.2.2.2.2.2.2.2.2.2.2.2.2.2.2.2.2.2.2.1)))))), ((cell_far (p := ⟨gb163, _, none⟩) (by first | exact Nat.ne_of_lt (Nat.lt_of_lt_of_le (by have := World.block_lt_of_cell? _ _ hw161_0; first | rwa [add_block] at this | exact this) GW163.out) | (rw [add_block]; exact Nat.ne_of_lt (Nat.lt_of_lt_of_le (by have := World.block_lt_of_cell? _ _ hw161_0; first | rwa [add_block] at this | exact this) GW163.out)) | (show (Addr.add _ _).block ≠ _; rw [add_block]; exact Nat.ne_of_lt (Nat.lt_of_lt_of_le (by have := World.block_lt_of_cell? _ _ hw161_0; first | rwa [add_block] at this | exact this) GW163.out)) | (dsimp only; exact Nat.ne_of_lt (Nat.lt_of_lt_of_le (by have := World.block_lt_of_cell? _ _ hw161_0; first | rwa [add_block] at this | exact this) GW163.out))) _).trans (((cell_far (p := ⟨gb163, _, none⟩) (by first | exact Nat.ne_of_lt (Nat.lt_of_lt_of_le (by have := World.block_lt_of_cell? _ _ hw161_0; first | rwa [add_block] at this | exact this) GW163.out) | (rw [add_block]; exact Nat.ne_of_lt (Nat.lt_of_lt_of_le (by have := World.block_lt_of_cell? _ _ hw161_0; first | rwa [add_block] at this | exact this) GW163.out)) | (show (Addr.add _ _).block ≠ _; rw [add_block]; exact Nat.ne_of_lt (Nat.lt_of_lt_of_le (by have := World.block_lt_of_cell? _ _ hw161_0; first | rwa [add_block] at this | exact this) GW163.out)) | (dsimp only; exact Nat.ne_of_lt (Nat.lt_of_lt_of_le (by have := World.block_lt_of_cell? _ _ hw161_0; first | rwa [add_block] at this | exact this) GW163.out))) _).trans (((cell_far (p := ⟨gb163, _, none⟩) (by first | exact Nat.ne_of_lt (Nat.lt_of_lt_of_le (by have := World.block_lt_of_cell? _ _ hw161_0; first | rwa [add_block] at this | exact this) GW163.out) | (rw [add_block]; exact Nat.ne_of_lt (Nat.lt_of_lt_of_le (by have := World.block_lt_of_cell? _ _ hw161_0; first | rwa [add_block] at this | exact this) GW163.out)) | (show (Addr.add _ _).block ≠ _; rw [add_block]; exact Nat.ne_of_lt (Nat.lt_of_lt_of_le (by have := World.block_lt_of_cell? _ _ hw161_0; first | rwa [add_block] at this | exact this) GW163.out)) | (dsimp only; exact Nat.ne_of_lt (Nat.lt_of_lt_of_le (by have := World.block_lt_of_cell? _ _ hw161_0; first | rwa [add_block] at this | exact this) GW163.out))) _).trans (hHeld.2.2.2.2.2.2.2.2.2.2.2.2.2.2.2.2.2.2.2.2.2.1)))))), ((cell_far (p := ⟨gb163, _, none⟩) (by first | exact Nat.ne_of_lt (Nat.lt_of_lt_of_le (by have := World.block_lt_of_cell? _ _ hw161_1; first | rwa [add_block] at this | exact this) GW163.out) | (rw [add_block]; exact Nat.ne_of_lt (Nat.lt_of_lt_of_le (by have := World.block_lt_of_cell? _ _ hw161_1; first | rwa [add_block] at this | exact this) GW163.out)) | (show (Addr.add _ _).block ≠ _; rw [add_block]; exact Nat.ne_of_lt (Nat.lt_of_lt_of_le (by have := World.block_lt_of_cell? _ _ hw161_1; first | rwa [add_block] at this | exact this) GW163.out)) | (dsimp only; exact Nat.ne_of_lt (Nat.lt_of_lt_of_le (by have := World.block_lt_of_cell? _ _ hw161_1; first | rwa [add_block] at this | exact this) GW163.out))) _).trans (((cell_far (p := ⟨gb163, _, none⟩) (by first | exact Nat.ne_of_lt (Nat.lt_of_lt_of_le (by have := World.block_lt_of_cell? _ _ hw161_1; first | rwa [add_block] at this | exact this) GW163.out) | (rw [add_block]; exact Nat.ne_of_lt (Nat.lt_of_lt_of_le (by have := World.block_lt_of_cell? _ _ hw161_1; first | rwa [add_block] at this | exact this) GW163.out)) | (show (Addr.add _ _).block ≠ _; rw [add_block]; exact Nat.ne_of_lt (Nat.lt_of_lt_of_le (by have := World.block_lt_of_cell? _ _ hw161_1; first | rwa [add_block] at this | exact this) GW163.out)) | (dsimp only; exact Nat.ne_of_lt (Nat.lt_of_lt_of_le (by have := World.block_lt_of_cell? _ _ hw161_1; first | rwa [add_block] at this | exact this) GW163.out))) _).trans (((cell_far (p := ⟨gb163, _, none⟩) (by first | exact Nat.ne_of_lt (Nat.lt_of_lt_of_le (by have := World.block_lt_of_cell? _ _ hw161_1; first | rwa [add_block] at this | exact this) GW163.out) | (rw [add_block]; exact Nat.ne_of_lt (Nat.lt_of_lt_of_le (by have := World.block_lt_of_cell? _ _ hw161_1; first | rwa [add_block] at this | exact this) GW163.out)) | (show (Addr.add _ _).block ≠ _; rw [add_block]; exact Nat.ne_of_lt (Nat.lt_of_lt_of_le (by have := World.block_lt_of_cell? _ _ hw161_1; first | rwa [add_block] at this | exact this) GW163.out)) | (dsimp only; exact Nat.ne_of_lt (Nat.lt_of_lt_of_le (by have := World.block_lt_of_cell? _ _ hw161_1; first | rwa [add_block] at this | exact this) GW163.out))) _).trans (hHeld.2.2.2.2.2.2.2.2.2.2.2.2.2.2.2.2.2.2.2.2.2.2.1)))))), ((cell_far (p := ⟨gb163, _, none⟩) (by first | exact Nat.ne_of_lt (Nat.lt_of_lt_of_le (by have := World.block_lt_of_cell? _ _ hw161_2; first | rwa [add_block] at this | exact this) GW163.out) | (rw [add_block]; exact Nat.ne_of_lt (Nat.lt_of_lt_of_le (by have := World.block_lt_of_cell? _ _ hw161_2; first | rwa [add_block] at this | exact this) GW163.out)) | (show (Addr.add _ _).block ≠ _; rw [add_block]; exact Nat.ne_of_lt (Nat.lt_of_lt_of_le (by have := World.block_lt_of_cell? _ _ hw161_2; first | rwa [add_block] at this | exact this) GW163.out)) | (dsimp only; exact Nat.ne_of_lt (Nat.lt_of_lt_of_le (by have := World.block_lt_of_cell? _ _ hw161_2; first | rwa [add_block] at this | exact this) GW163.out))) _).trans (((cell_far (p := ⟨gb163, _, none⟩) (by first | exact Nat.ne_of_lt (Nat.lt_of_lt_of_le (by have := World.block_lt_of_cell? _ _ hw161_2; first | rwa [add_block] at this | exact this) GW163.out) | (rw [add_block]; exact Nat.ne_of_lt (Nat.lt_of_lt_of_le (by have := World.block_lt_of_cell? _ _ hw161_2; first | rwa [add_block] at this | exact this) GW163.out)) | (show (Addr.add _ _).block ≠ _; rw [add_block]; exact Nat.ne_of_lt (Nat.lt_of_lt_of_le (by have := World.block_lt_of_cell? _ _ hw161_2; first | rwa [add_block] at this | exact this) GW163.out)) | (dsimp only; exact Nat.ne_of_lt (Nat.lt_of_lt_of_le (by have := World.block_lt_of_cell? _ _ hw161_2; first | rwa [add_block] at this | exact this) GW163.out))) _).trans (((cell_far (p := ⟨gb163, _, none⟩) (by first | exact Nat.ne_of_lt (Nat.lt_of_lt_of_le (by have := World.block_lt_of_cell? _ _ hw161_2; first | rwa [add_block] at this | exact this) GW163.out) | (rw [add_block]; exact Nat.ne_of_lt (Nat.lt_of_lt_of_le (by have := World.block_lt_of_cell? _ _ hw161_2; first | rwa [add_block] at this | exact this) GW163.out)) | (show (Addr.add _ _).block ≠ _; rw [add_block]; exact Nat.ne_of_lt (Nat.lt_of_lt_of_le (by have := World.block_lt_of_cell? _ _ hw161_2; first | rwa [add_block] at this | exact this) GW163.out)) | (dsimp only; exact Nat.ne_of_lt (Nat.lt_of_lt_of_le (by have := World.block_lt_of_cell? _ _ hw161_2; first | rwa [add_block] at this | exact this) GW163.out))) _).trans (hHeld.2.2.2.2.2.2.2.2.2.2.2.2.2.2.2.2.2.2.2.2.2.2.2))))))⟩ (fun hHeld => ?_)
          clear hK K
          refine done_ (done_of HT_.out (by kernel_rfl)) ?_
          go_upto_region 12 with (fail)
          go_cut [95] (fun v95 wc => ∃ (kq : Nat) (x95_36 : Bool), v95 = .bool x95_36 ∧ Aside0 (credenzaref18_Same.j3 kq x6_3 x95_36 a0_0 a0_1 a0_2 a0_3 a0_4 a0_5 a0_6 l0_7 l0_8 a1_0 a1_1 a1_2 a1_3 a1_4 a1_5 a1_6 l1_7 l1_8 ((rd_T111 l0_8 x6_3).f0) ((rd_T111 l0_8 x6_3).f1) ((rd_T111 l0_8 x6_3).f2) ((rd_T111 l1_8 x6_3).f0) ((rd_T111 l1_8 x6_3).f1) ((rd_T111 l1_8 x6_3).f2) = some r) ∧ Aside0 (kq ≤ k3) ∧ Aside0 (wc.heap[gb156]? = some (.cells #[.int .i64 a0_0, .int .i64 a0_1, .int .i64 a0_2, .int .i64 a0_3, .int .i64 a0_4, .int .i64 a0_5, .int .i64 a0_6, (.slice A0_7 l0_7.length c0_7), (.slice (some ad160) l0_8.length c0_8)] 73 (0, 0))) ∧ Aside0 (wc.heap[gb157]? = some (.cells #[.int .i64 a1_0, .int .i64 a1_1, .int .i64 a1_2, .int .i64 a1_3, .int .i64 a1_4, .int .i64 a1_5, .int .i64 a1_6, (.slice A1_7 l1_7.length c1_7), (.slice (some ad161) l1_8.length c1_8)] 73 (0, 0))) ∧ Aside0 (wc.heap[gb162]? = some (.cells #[.int .i64 ((rd_T111 l0_8 x6_3).f0), .int .i64 ((rd_T111 l0_8 x6_3).f1), (.slice A160_2 ((rd_T111 l0_8 x6_3).f2).length c160_2)] 111 (0, 0))) ∧ Aside0 (wc.heap[gb163]? = some (.cells #[.int .i64 ((rd_T111 l1_8 x6_3).f0), .int .i64 ((rd_T111 l1_8 x6_3).f1), (.slice A161_2 ((rd_T111 l1_8 x6_3).f2).length c161_2)] 111 (0, 0))) ∧ Aside0 (Below w.heap.size w wc))
          case first =>
           have H := HC37.out
           clear HC37
           by_cases c50 : ((rd_T111 l0_8 x6_3).f0) = ((rd_T111 l1_8 x6_3).f0)
           ·
            rw [if_pos c50] at H
            have c50b0 : (((rd_T111 l0_8 x6_3).f0) == ((rd_T111 l1_8 x6_3).f0)) = true := beq_iff_eq.mpr c50
            have c50b1 : (((rd_T111 l0_8 x6_3).f0) != ((rd_T111 l1_8 x6_3).f0)) = false := bne_eq_false_iff_eq.mpr c50
            clear c50
            (first | rw [c50b0] | (simp only [i64_w, i32_w]; rw [c50b0]) | skip)
            by_cases c51 : ((rd_T111 l0_8 x6_3).f1) = ((rd_T111 l1_8 x6_3).f1)
            ·
             rw [if_pos c51] at H
             have c51b0 : (((rd_T111 l0_8 x6_3).f1) == ((rd_T111 l1_8 x6_3).f1)) = true := beq_iff_eq.mpr c51
             have c51b1 : (((rd_T111 l0_8 x6_3).f1) != ((rd_T111 l1_8 x6_3).f1)) = false := bne_eq_false_iff_eq.mpr c51
             clear c51
             have H' := Aside0.mk H
             clear H
             have hnb52 := NB162_156.out
             have hnc52 := NB156_162.out
             have hnb53 := NB162_157.out
             have hnc53 := NB157_162.out
             have hnb54 := NB162_163.out
             have hnc54 := NB163_162.out
             have hcz55_0 : w43.cell? ⟨gb162, 0, none⟩ = some (.int .i64 0) := (blk_cell BK162.out 0).trans rfl
             have hcz55_1 : w43.cell? ⟨gb162, 1, none⟩ = some (.int .i64 0) := (blk_cell BK162.out 1).trans rfl
             have hcz55_2 : w43.cell? ⟨gb162, 2, none⟩ = some (.slice none 0 0) := (blk_cell BK162.out 2).trans rfl
             have hfz55_0 := blk_frozen BK162.out 0
             have hfz55_1 := blk_frozen BK162.out 1
             have hfz55_2 := blk_frozen BK162.out 2
             have hnb56 := NB163_156.out
             have hnc56 := NB156_163.out
             have hnb57 := NB163_157.out
             have hnc57 := NB157_163.out
             have hcz58_0 : w43.cell? ⟨gb163, 0, none⟩ = some (.int .i64 0) := (blk_cell BK163.out 0).trans rfl
             have hcz58_1 : w43.cell? ⟨gb163, 1, none⟩ = some (.int .i64 0) := (blk_cell BK163.out 1).trans rfl
             have hcz58_2 : w43.cell? ⟨gb163, 2, none⟩ = some (.slice none 0 0) := (blk_cell BK163.out 2).trans rfl
             have hfz58_0 := blk_frozen BK163.out 0
             have hfz58_1 := blk_frozen BK163.out 1
             have hfz58_2 := blk_frozen BK163.out 2
             go_wp2
             go_meet
             case rel => exact ⟨_, (((((rd_T111 l0_8 x6_3).f2).length : Int) != (((rd_T111 l1_8 x6_3).f2).length : Int))), (by first | rfl | (simp; done) | (simp [*]; done)), H', ⟨by have := HJ2.out; have := HK2.out; have := HK3.out; first | omega | exact Nat.le_refl _⟩, ⟨by (with_reducible repeat (first | refine blk_drewN ?_ _ | refine blk_drew ?_ | refine blk_alloc ?_ _)); refine blk_far ?_ NB156_163.out _; (with_reducible repeat (first | refine blk_drewN ?_ _ | refine blk_drew ?_ | refine blk_alloc ?_ _)); refine blk_far ?_ NB156_163.out _; (with_reducible repeat (first | refine blk_drewN ?_ _ | refine blk_drew ?_ | refine blk_alloc ?_ _)); refine blk_far ?_ NB156_163.out _; (with_reducible repeat (first | refine blk_drewN ?_ _ | refine blk_drew ?_ | refine blk_alloc ?_ _)); refine blk_far ?_ NB156_162.out _; (with_reducible repeat (first | refine blk_drewN ?_ _ | refine blk_drew ?_ | refine blk_alloc ?_ _)); refine blk_far ?_ NB156_162.out _; (with_reducible repeat (first | refine blk_drewN ?_ _ | refine blk_drew ?_ | refine blk_alloc ?_ _)); refine blk_far ?_ NB156_162.out _; (with_reducible repeat (first | refine blk_drewN ?_ _ | refine blk_drew ?_ | refine blk_alloc ?_ _)); exact BK156.out⟩, ⟨by (with_reducible repeat (first | refine blk_drewN ?_ _ | refine blk_drew ?_ | refine blk_alloc ?_ _)); refine blk_far ?_ NB157_163.out _; (with_reducible repeat (first | refine blk_drewN ?_ _ | refine blk_drew ?_ | refine blk_alloc ?_ _)); refine blk_far ?_ NB157_163.out _; (with_reducible repeat (first | refine blk_drewN ?_ _ | refine blk_drew ?_ | refine blk_alloc ?_ _)); refine blk_far ?_ NB157_163.out _; (with_reducible repeat (first | refine blk_drewN ?_ _ | refine blk_drew ?_ | refine blk_alloc ?_ _)); refine blk_far ?_ NB157_162.out _; (with_reducible repeat (first | refine blk_drewN ?_ _ | refine blk_drew ?_ | refine blk_alloc ?_ _)); refine blk_far ?_ NB157_162.out _; (with_reducible repeat (first | refine blk_drewN ?_ _ | refine blk_drew ?_ | refine blk_alloc ?_ _)); refine blk_far ?_ NB157_162.out _; (with_reducible repeat (first | refine blk_drewN ?_ _ | refine blk_drew ?_ | refine blk_alloc ?_ _)); exact BK157.out⟩, ⟨by (with_reducible repeat (first | refine blk_drewN ?_ _ | refine blk_drew ?_ | refine blk_alloc ?_ _)); refine blk_far ?_ NB162_163.out _; (with_reducible repeat (first | refine blk_drewN ?_ _ | refine blk_drew ?_ | refine blk_alloc ?_ _)); refine blk_far ?_ NB162_163.out _; (with_reducible repeat (first | refine blk_drewN ?_ _ | refine blk_drew ?_ | refine blk_alloc ?_ _)); refine blk_far ?_ NB162_163.out _; (with_reducible repeat (first | refine blk_drewN ?_ _ | refine blk_drew ?_ | refine blk_alloc ?_ _)); refine blk_put (cs := #[.int .i64 ((rd_T111 l0_8 x6_3).f0), .int .i64 ((rd_T111 l0_8 x6_3).f1), .slice none 0 0]) ?_ 2 _ rfl; (with_reducible repeat (first | refine blk_drewN ?_ _ | refine blk_drew ?_ | refine blk_alloc ?_ _)); refine blk_put (cs := #[.int .i64 ((rd_T111 l0_8 x6_3).f0), .int .i64 0, .slice none 0 0]) ?_ 1 _ rfl; (with_reducible repeat (first | refine blk_drewN ?_ _ | refine blk_drew ?_ | refine blk_alloc ?_ _)); refine blk_put (cs := #[.int .i64 0, .int .i64 0, .slice none 0 0]) ?_ 0 _ rfl; (with_reducible repeat (first | refine blk_drewN ?_ _ | refine blk_drew ?_ | refine blk_alloc ?_ _)); exact BK162.out⟩, ⟨by (with_reducible repeat (first | refine blk_drewN ?_ _ | refine blk_drew ?_ | refine blk_alloc ?_ _)); refine blk_put (cs := #[.int .i64 ((rd_T111 l1_8 x6_3).f0), .int .i64 ((rd_T111 l1_8 x6_3).f1), .slice none 0 0]) ?_ 2 _ rfl; (with_reducible repeat (first | refine blk_drewN ?_ _ | refine blk_drew ?_ | refine blk_alloc ?_ _)); refine blk_put (cs := #[.int .i64 ((rd_T111 l1_8 x6_3).f0), .int .i64 0, .slice none 0 0]) ?_ 1 _ rfl; (with_reducible repeat (first | refine blk_drewN ?_ _ | refine blk_drew ?_ | refine blk_alloc ?_ _)); refine blk_put (cs := #[.int .i64 0, .int .i64 0, .slice none 0 0]) ?_ 0 _ rfl; (with_reducible repeat (first | refine blk_drewN ?_ _ | refine blk_drew ?_ | refine blk_alloc ?_ _)); refine blk_far ?_ NB163_162.out _; (with_reducible repeat (first | refine blk_drewN ?_ _ | refine blk_drew ?_ | refine blk_alloc ?_ _)); refine blk_far ?_ NB163_162.out _; (with_reducible repeat (first | refine blk_drewN ?_ _ | refine blk_drew ?_ | refine blk_alloc ?_ _)); refine blk_far ?_ NB163_162.out _; (with_reducible repeat (first | refine blk_drewN ?_ _ | refine blk_drew ?_ | refine blk_alloc ?_ _)); exact BK163.out⟩, ⟨by repeat (first | (with_reducible first | exact HB.out | apply below_alloc | apply pw_below_drewN | apply below_drew1 | refine below_set ?_ GE156.out | refine below_set ?_ GE157.out | refine below_set ?_ GE162.out | refine below_set ?_ GE163.out) | exact HB.out)⟩⟩
            ·
             rw [if_neg c51] at H
             have c51b0 : (((rd_T111 l0_8 x6_3).f1) == ((rd_T111 l1_8 x6_3).f1)) = false := beq_eq_false_iff_ne.mpr c51
             have c51b1 : (((rd_T111 l0_8 x6_3).f1) != ((rd_T111 l1_8 x6_3).f1)) = true := bne_iff_ne.mpr c51
             have H' := Aside0.mk H
             clear H
             have hnb59 := NB162_156.out
             have hnc59 := NB156_162.out
             have hnb60 := NB162_157.out
             have hnc60 := NB157_162.out
             have hnb61 := NB162_163.out
             have hnc61 := NB163_162.out
             have hcz62_0 : w43.cell? ⟨gb162, 0, none⟩ = some (.int .i64 0) := (blk_cell BK162.out 0).trans rfl
             have hcz62_1 : w43.cell? ⟨gb162, 1, none⟩ = some (.int .i64 0) := (blk_cell BK162.out 1).trans rfl
             have hcz62_2 : w43.cell? ⟨gb162, 2, none⟩ = some (.slice none 0 0) := (blk_cell BK162.out 2).trans rfl
             have hfz62_0 := blk_frozen BK162.out 0
             have hfz62_1 := blk_frozen BK162.out 1
             have hfz62_2 := blk_frozen BK162.out 2
             have hnb63 := NB163_156.out
             have hnc63 := NB156_163.out
             have hnb64 := NB163_157.out
             have hnc64 := NB157_163.out
             have hcz65_0 : w43.cell? ⟨gb163, 0, none⟩ = some (.int .i64 0) := (blk_cell BK163.out 0).trans rfl
             have hcz65_1 : w43.cell? ⟨gb163, 1, none⟩ = some (.int .i64 0) := (blk_cell BK163.out 1).trans rfl
             have hcz65_2 : w43.cell? ⟨gb163, 2, none⟩ = some (.slice none 0 0) := (blk_cell BK163.out 2).trans rfl
             have hfz65_0 := blk_frozen BK163.out 0
             have hfz65_1 := blk_frozen BK163.out 1
             have hfz65_2 := blk_frozen BK163.out 2
             go_wp2
             go_meet
             case rel => exact ⟨_, (true), (by first | rfl | (simp; done) | (simp [*]; done)), H', ⟨by have := HJ2.out; have := HK2.out; have := HK3.out; first | omega | exact Nat.le_refl _⟩, ⟨by (with_reducible repeat (first | refine blk_drewN ?_ _ | refine blk_drew ?_ | refine blk_alloc ?_ _)); refine blk_far ?_ NB156_163.out _; (with_reducible repeat (first | refine blk_drewN ?_ _ | refine blk_drew ?_ | refine blk_alloc ?_ _)); refine blk_far ?_ NB156_163.out _; (with_reducible repeat (first | refine blk_drewN ?_ _ | refine blk_drew ?_ | refine blk_alloc ?_ _)); refine blk_far ?_ NB156_163.out _; (with_reducible repeat (first | refine blk_drewN ?_ _ | refine blk_drew ?_ | refine blk_alloc ?_ _)); refine blk_far ?_ NB156_162.out _; (with_reducible repeat (first | refine blk_drewN ?_ _ | refine blk_drew ?_ | refine blk_alloc ?_ _)); refine blk_far ?_ NB156_162.out _; (with_reducible repeat (first | refine blk_drewN ?_ _ | refine blk_drew ?_ | refine blk_alloc ?_ _)); refine blk_far ?_ NB156_162.out _; (with_reducible repeat (first | refine blk_drewN ?_ _ | refine blk_drew ?_ | refine blk_alloc ?_ _)); exact BK156.out⟩, ⟨by (with_reducible repeat (first | refine blk_drewN ?_ _ | refine blk_drew ?_ | refine blk_alloc ?_ _)); refine blk_far ?_ NB157_163.out _; (with_reducible repeat (first | refine blk_drewN ?_ _ | refine blk_drew ?_ | refine blk_alloc ?_ _)); refine blk_far ?_ NB157_163.out _; (with_reducible repeat (first | refine blk_drewN ?_ _ | refine blk_drew ?_ | refine blk_alloc ?_ _)); refine blk_far ?_ NB157_163.out _; (with_reducible repeat (first | refine blk_drewN ?_ _ | refine blk_drew ?_ | refine blk_alloc ?_ _)); refine blk_far ?_ NB157_162.out _; (with_reducible repeat (first | refine blk_drewN ?_ _ | refine blk_drew ?_ | refine blk_alloc ?_ _)); refine blk_far ?_ NB157_162.out _; (with_reducible repeat (first | refine blk_drewN ?_ _ | refine blk_drew ?_ | refine blk_alloc ?_ _)); refine blk_far ?_ NB157_162.out _; (with_reducible repeat (first | refine blk_drewN ?_ _ | refine blk_drew ?_ | refine blk_alloc ?_ _)); exact BK157.out⟩, ⟨by (with_reducible repeat (first | refine blk_drewN ?_ _ | refine blk_drew ?_ | refine blk_alloc ?_ _)); refine blk_far ?_ NB162_163.out _; (with_reducible repeat (first | refine blk_drewN ?_ _ | refine blk_drew ?_ | refine blk_alloc ?_ _)); refine blk_far ?_ NB162_163.out _; (with_reducible repeat (first | refine blk_drewN ?_ _ | refine blk_drew ?_ | refine blk_alloc ?_ _)); refine blk_far ?_ NB162_163.out _; (with_reducible repeat (first | refine blk_drewN ?_ _ | refine blk_drew ?_ | refine blk_alloc ?_ _)); refine blk_put (cs := #[.int .i64 ((rd_T111 l0_8 x6_3).f0), .int .i64 ((rd_T111 l0_8 x6_3).f1), .slice none 0 0]) ?_ 2 _ rfl; (with_reducible repeat (first | refine blk_drewN ?_ _ | refine blk_drew ?_ | refine blk_alloc ?_ _)); refine blk_put (cs := #[.int .i64 ((rd_T111 l0_8 x6_3).f0), .int .i64 0, .slice none 0 0]) ?_ 1 _ rfl; (with_reducible repeat (first | refine blk_drewN ?_ _ | refine blk_drew ?_ | refine blk_alloc ?_ _)); refine blk_put (cs := #[.int .i64 0, .int .i64 0, .slice none 0 0]) ?_ 0 _ rfl; (with_reducible repeat (first | refine blk_drewN ?_ _ | refine blk_drew ?_ | refine blk_alloc ?_ _)); exact BK162.out⟩, ⟨by (with_reducible repeat (first | refine blk_drewN ?_ _ | refine blk_drew ?_ | refine blk_alloc ?_ _)); refine blk_put (cs := #[.int .i64 ((rd_T111 l1_8 x6_3).f0), .int .i64 ((rd_T111 l1_8 x6_3).f1), .slice none 0 0]) ?_ 2 _ rfl; (with_reducible repeat (first | refine blk_drewN ?_ _ | refine blk_drew ?_ | refine blk_alloc ?_ _)); refine blk_put (cs := #[.int .i64 ((rd_T111 l1_8 x6_3).f0), .int .i64 0, .slice none 0 0]) ?_ 1 _ rfl; (with_reducible repeat (first | refine blk_drewN ?_ _ | refine blk_drew ?_ | refine blk_alloc ?_ _)); refine blk_put (cs := #[.int .i64 0, .int .i64 0, .slice none 0 0]) ?_ 0 _ rfl; (with_reducible repeat (first | refine blk_drewN ?_ _ | refine blk_drew ?_ | refine blk_alloc ?_ _)); refine blk_far ?_ NB163_162.out _; (with_reducible repeat (first | refine blk_drewN ?_ _ | refine blk_drew ?_ | refine blk_alloc ?_ _)); refine blk_far ?_ NB163_162.out _; (with_reducible repeat (first | refine blk_drewN ?_ _ | refine blk_drew ?_ | refine blk_alloc ?_ _)); refine blk_far ?_ NB163_162.out _; (with_reducible repeat (first | refine blk_drewN ?_ _ | refine blk_drew ?_ | refine blk_alloc ?_ _)); exact BK163.out⟩, ⟨by repeat (first | (with_reducible first | exact HB.out | apply below_alloc | apply pw_below_drewN | apply below_drew1 | refine below_set ?_ GE156.out | refine below_set ?_ GE157.out | refine below_set ?_ GE162.out | refine below_set ?_ GE163.out) | exact HB.out)⟩⟩
           ·
            rw [if_neg c50] at H
            have c50b0 : (((rd_T111 l0_8 x6_3).f0) == ((rd_T111 l1_8 x6_3).f0)) = false := beq_eq_false_iff_ne.mpr c50
            have c50b1 : (((rd_T111 l0_8 x6_3).f0) != ((rd_T111 l1_8 x6_3).f0)) = true := bne_iff_ne.mpr c50
            (first | rw [c50b0] | (simp only [i64_w, i32_w]; rw [c50b0]) | skip)
            have H' := Aside0.mk H
            clear H
            have hnb66 := NB162_156.out
            have hnc66 := NB156_162.out
            have hnb67 := NB162_157.out
            have hnc67 := NB157_162.out
            have hnb68 := NB162_163.out
            have hnc68 := NB163_162.out
            have hcz69_0 : w43.cell? ⟨gb162, 0, none⟩ = some (.int .i64 0) := (blk_cell BK162.out 0).trans rfl
            have hcz69_1 : w43.cell? ⟨gb162, 1, none⟩ = some (.int .i64 0) := (blk_cell BK162.out 1).trans rfl
            have hcz69_2 : w43.cell? ⟨gb162, 2, none⟩ = some (.slice none 0 0) := (blk_cell BK162.out 2).trans rfl
            have hfz69_0 := blk_frozen BK162.out 0
            have hfz69_1 := blk_frozen BK162.out 1
            have hfz69_2 := blk_frozen BK162.out 2
            have hnb70 := NB163_156.out
            have hnc70 := NB156_163.out
            have hnb71 := NB163_157.out
            have hnc71 := NB157_163.out
            have hcz72_0 : w43.cell? ⟨gb163, 0, none⟩ = some (.int .i64 0) := (blk_cell BK163.out 0).trans rfl
            have hcz72_1 : w43.cell? ⟨gb163, 1, none⟩ = some (.int .i64 0) := (blk_cell BK163.out 1).trans rfl
            have hcz72_2 : w43.cell? ⟨gb163, 2, none⟩ = some (.slice none 0 0) := (blk_cell BK163.out 2).trans rfl
            have hfz72_0 := blk_frozen BK163.out 0
            have hfz72_1 := blk_frozen BK163.out 1
            have hfz72_2 := blk_frozen BK163.out 2
            go_wp2
            go_meet
            case rel => exact ⟨_, (true), (by first | rfl | (simp; done) | (simp [*]; done)), H', ⟨by have := HJ2.out; have := HK2.out; have := HK3.out; first | omega | exact Nat.le_refl _⟩, ⟨by (with_reducible repeat (first | refine blk_drewN ?_ _ | refine blk_drew ?_ | refine blk_alloc ?_ _)); refine blk_far ?_ NB156_163.out _; (with_reducible repeat (first | refine blk_drewN ?_ _ | refine blk_drew ?_ | refine blk_alloc ?_ _)); refine blk_far ?_ NB156_163.out _; (with_reducible repeat (first | refine blk_drewN ?_ _ | refine blk_drew ?_ | refine blk_alloc ?_ _)); refine blk_far ?_ NB156_163.out _; (with_reducible repeat (first | refine blk_drewN ?_ _ | refine blk_drew ?_ | refine blk_alloc ?_ _)); refine blk_far ?_ NB156_162.out _; (with_reducible repeat (first | refine blk_drewN ?_ _ | refine blk_drew ?_ | refine blk_alloc ?_ _)); refine blk_far ?_ NB156_162.out _; (with_reducible repeat (first | refine blk_drewN ?_ _ | refine blk_drew ?_ | refine blk_alloc ?_ _)); refine blk_far ?_ NB156_162.out _; (with_reducible repeat (first | refine blk_drewN ?_ _ | refine blk_drew ?_ | refine blk_alloc ?_ _)); exact BK156.out⟩, ⟨by (with_reducible repeat (first | refine blk_drewN ?_ _ | refine blk_drew ?_ | refine blk_alloc ?_ _)); refine blk_far ?_ NB157_163.out _; (with_reducible repeat (first | refine blk_drewN ?_ _ | refine blk_drew ?_ | refine blk_alloc ?_ _)); refine blk_far ?_ NB157_163.out _; (with_reducible repeat (first | refine blk_drewN ?_ _ | refine blk_drew ?_ | refine blk_alloc ?_ _)); refine blk_far ?_ NB157_163.out _; (with_reducible repeat (first | refine blk_drewN ?_ _ | refine blk_drew ?_ | refine blk_alloc ?_ _)); refine blk_far ?_ NB157_162.out _; (with_reducible repeat (first | refine blk_drewN ?_ _ | refine blk_drew ?_ | refine blk_alloc ?_ _)); refine blk_far ?_ NB157_162.out _; (with_reducible repeat (first | refine blk_drewN ?_ _ | refine blk_drew ?_ | refine blk_alloc ?_ _)); refine blk_far ?_ NB157_162.out _; (with_reducible repeat (first | refine blk_drewN ?_ _ | refine blk_drew ?_ | refine blk_alloc ?_ _)); exact BK157.out⟩, ⟨by (with_reducible repeat (first | refine blk_drewN ?_ _ | refine blk_drew ?_ | refine blk_alloc ?_ _)); refine blk_far ?_ NB162_163.out _; (with_reducible repeat (first | refine blk_drewN ?_ _ | refine blk_drew ?_ | refine blk_alloc ?_ _)); refine blk_far ?_ NB162_163.out _; (with_reducible repeat (first | refine blk_drewN ?_ _ | refine blk_drew ?_ | refine blk_alloc ?_ _)); refine blk_far ?_ NB162_163.out _; (with_reducible repeat (first | refine blk_drewN ?_ _ | refine blk_drew ?_ | refine blk_alloc ?_ _)); refine blk_put (cs := #[.int .i64 ((rd_T111 l0_8 x6_3).f0), .int .i64 ((rd_T111 l0_8 x6_3).f1), .slice none 0 0]) ?_ 2 _ rfl; (with_reducible repeat (first | refine blk_drewN ?_ _ | refine blk_drew ?_ | refine blk_alloc ?_ _)); refine blk_put (cs := #[.int .i64 ((rd_T111 l0_8 x6_3).f0), .int .i64 0, .slice none 0 0]) ?_ 1 _ rfl; (with_reducible repeat (first | refine blk_drewN ?_ _ | refine blk_drew ?_ | refine blk_alloc ?_ _)); refine blk_put (cs := #[.int .i64 0, .int .i64 0, .slice none 0 0]) ?_ 0 _ rfl; (with_reducible repeat (first | refine blk_drewN ?_ _ | refine blk_drew ?_ | refine blk_alloc ?_ _)); exact BK162.out⟩, ⟨by (with_reducible repeat (first | refine blk_drewN ?_ _ | refine blk_drew ?_ | refine blk_alloc ?_ _)); refine blk_put (cs := #[.int .i64 ((rd_T111 l1_8 x6_3).f0), .int .i64 ((rd_T111 l1_8 x6_3).f1), .slice none 0 0]) ?_ 2 _ rfl; (with_reducible repeat (first | refine blk_drewN ?_ _ | refine blk_drew ?_ | refine blk_alloc ?_ _)); refine blk_put (cs := #[.int .i64 ((rd_T111 l1_8 x6_3).f0), .int .i64 0, .slice none 0 0]) ?_ 1 _ rfl; (with_reducible repeat (first | refine blk_drewN ?_ _ | refine blk_drew ?_ | refine blk_alloc ?_ _)); refine blk_put (cs := #[.int .i64 0, .int .i64 0, .slice none 0 0]) ?_ 0 _ rfl; (with_reducible repeat (first | refine blk_drewN ?_ _ | refine blk_drew ?_ | refine blk_alloc ?_ _)); refine blk_far ?_ NB163_162.out _; (with_reducible repeat (first | refine blk_drewN ?_ _ | refine blk_drew ?_ | refine blk_alloc ?_ _)); refine blk_far ?_ NB163_162.out _; (with_reducible repeat (first | refine blk_drewN ?_ _ | refine blk_drew ?_ | refine blk_alloc ?_ _)); refine blk_far ?_ NB163_162.out _; (with_reducible repeat (first | refine blk_drewN ?_ _ | refine blk_drew ?_ | refine blk_alloc ?_ _)); exact BK163.out⟩, ⟨by repeat (first | (with_reducible first | exact HB.out | apply below_alloc | apply pw_below_drewN | apply below_drew1 | refine below_set ?_ GE156.out | refine below_set ?_ GE157.out | refine below_set ?_ GE162.out | refine below_set ?_ GE163.out) | exact HB.out)⟩⟩
          case rest =>
           clear HC37
           try clear c1
           try clear p1
           try clear q1
           try clear hx1
           try clear p2
           try clear c3
           try clear c5
           try clear c6
           try clear c7
           try clear p15
           try clear q15
           try clear hx15
           try clear c16
           try clear p16
           try clear q16
           try clear hx16
           try clear c34
           try clear c34b0
           try clear c35
           try clear c35b0
           try clear c36
           try clear c36b0
           try clear c38
           try clear c50
           try clear c50b0
           try clear c50b1
           try clear c51
           try clear c51b0
           try clear c51b1
           try clear c52
           try clear c53
           try clear c54
           try clear c56
           try clear c57
           try clear c59
           try clear c60
           try clear c61
           try clear c63
           try clear c64
           try clear c66
           try clear c67
           try clear c68
           try clear c70
           try clear c71
           try clear hcz39_0
           try clear hcz39_1
           try clear hcz39_2
           try clear hcz39_3
           try clear hcz39_4
           try clear hcz39_5
           try clear hcz39_6
           try clear hcz39_7
           try clear hcz39_8
           try clear hcz55_0
           try clear hcz55_1
           try clear hcz55_2
           try clear hcz58_0
           try clear hcz58_1
           try clear hcz58_2
           try clear hcz62_0
           try clear hcz62_1
           try clear hcz62_2
           try clear hcz65_0
           try clear hcz65_1
           try clear hcz65_2
           try clear hcz69_0
           try clear hcz69_1
           try clear hcz69_2
           try clear hcz72_0
           try clear hcz72_1
           try clear hcz72_2
           try clear hfz20_5
           try clear hfz20_6
           try clear hfz20_7
           try clear hfz20_8
           try clear hfz27_0
           try clear hfz27_1
           try clear hfz27_2
           try clear hfz27_3
           try clear hfz27_4
           try clear hfz27_5
           try clear hfz27_6
           try clear hfz27_7
           try clear hfz27_8
           try clear hfz30_0
           try clear hfz30_1
           try clear hfz30_2
           try clear hfz30_3
           try clear hfz30_4
           try clear hfz30_5
           try clear hfz30_6
           try clear hfz30_7
           try clear hfz30_8
           try clear hfz33_0
           try clear hfz33_1
           try clear hfz33_2
           try clear hfz33_3
           try clear hfz33_4
           try clear hfz33_5
           try clear hfz33_6
           try clear hfz33_7
           try clear hfz33_8
           try clear hfz39_0
           try clear hfz39_1
           try clear hfz39_2
           try clear hfz39_3
           try clear hfz39_4
           try clear hfz39_5
           try clear hfz39_6
           try clear hfz39_7
           try clear hfz39_8
           try clear hfz55_0
           try clear hfz55_1
           try clear hfz55_2
           try clear hfz58_0
           try clear hfz58_1
           try clear hfz58_2
           try clear hfz62_0
           try clear hfz62_1
           try clear hfz62_2
           try clear hfz65_0
           try clear hfz65_1
           try clear hfz65_2
           try clear hfz69_0
           try clear hfz69_1
           try clear hfz69_2
           try clear hfz72_0
           try clear hfz72_1
           try clear hfz72_2
           try clear hfz8_0
           try clear hfz8_1
           try clear hfz8_2
           try clear hfz8_3
           try clear hfz8_4
           try clear hfz8_5
           try clear hfz8_6
           try clear hfz8_7
           try clear hfz8_8
           try clear hfz9_0
           try clear hfz9_1
           try clear hfz9_2
           try clear hfz9_3
           try clear hfz9_4
           try clear hfz9_5
           try clear hfz9_6
           try clear hfz9_7
           try clear hfz9_8
           try clear hx158_0
           try clear hx159_0
           try clear hx160_0
           try clear hx160_1
           try clear hx160_2
           try clear hx161_0
           try clear hx161_1
           try clear hx161_2
           try clear p158
           try clear p159
           try clear p160
           try clear p161
           try clear p2
           try clear q158
           try clear q159
           try clear q160
           try clear q161
           obtain ⟨kq, x95_36, rfl, HA, HJ36, BK156, BK157, BK162, BK163, HB⟩ := hcut
           cases kq with
           | zero => exact absurd HA.out (by simp [credenzaref18_Same.j3])
           | succ kj36 =>
            have H := HA.out
            clear HA
            simp only [credenzaref18_Same.j3] at H
            by_cases c73 : x95_36 = true
            ·
             subst c73
             have H1 : (some false) = some r := by rw [if_pos rfl] at H; exact H
             clear H
             have H := H1
             clear H1
             obtain rfl := Option.some.inj H
             go_wp2
             go_ret
             exact ⟨by first | rfl | (simp [errW_none, errW_some] <;> rfl) | (simp [*, errW_none, errW_some] <;> rfl), by with_reducible exact HB.out⟩
            ·
             replace c73 := Bool.eq_false_iff.mpr c73
             subst c73
             have H1 : (credenzaref18_Same.l2 kj36 x6_3 0 a0_0 a0_1 a0_2 a0_3 a0_4 a0_5 a0_6 l0_7 l0_8 a1_0 a1_1 a1_2 a1_3 a1_4 a1_5 a1_6 l1_7 l1_8 ((rd_T111 l0_8 x6_3).f0) ((rd_T111 l0_8 x6_3).f1) ((rd_T111 l0_8 x6_3).f2) ((rd_T111 l1_8 x6_3).f0) ((rd_T111 l1_8 x6_3).f1) ((rd_T111 l1_8 x6_3).f2)) = some r := by rw [if_neg (show ¬ (false = true) by decide)] at H; exact H
             clear H
             have H := H1
             clear H1
             have H' := Aside0.mk H
             clear H
             go_wp2
             go_loopg [9] kj36 (fun kq v9 w' => ∃ (x9_5 : Int), v9 = .int .i64 x9_5 ∧ Aside0 (credenzaref18_Same.l2 kq x6_3 x9_5 a0_0 a0_1 a0_2 a0_3 a0_4 a0_5 a0_6 l0_7 l0_8 a1_0 a1_1 a1_2 a1_3 a1_4 a1_5 a1_6 l1_7 l1_8 ((rd_T111 l0_8 x6_3).f0) ((rd_T111 l0_8 x6_3).f1) ((rd_T111 l0_8 x6_3).f2) ((rd_T111 l1_8 x6_3).f0) ((rd_T111 l1_8 x6_3).f1) ((rd_T111 l1_8 x6_3).f2) = some r) ∧ Aside0 (kq ≤ kj36) ∧ Aside0 (w'.heap[gb156]? = some (.cells #[.int .i64 a0_0, .int .i64 a0_1, .int .i64 a0_2, .int .i64 a0_3, .int .i64 a0_4, .int .i64 a0_5, .int .i64 a0_6, (.slice A0_7 l0_7.length c0_7), (.slice (some ad160) l0_8.length c0_8)] 73 (0, 0))) ∧ Aside0 (w'.heap[gb157]? = some (.cells #[.int .i64 a1_0, .int .i64 a1_1, .int .i64 a1_2, .int .i64 a1_3, .int .i64 a1_4, .int .i64 a1_5, .int .i64 a1_6, (.slice A1_7 l1_7.length c1_7), (.slice (some ad161) l1_8.length c1_8)] 73 (0, 0))) ∧ Aside0 (w'.heap[gb162]? = some (.cells #[.int .i64 ((rd_T111 l0_8 x6_3).f0), .int .i64 ((rd_T111 l0_8 x6_3).f1), (.slice A160_2 ((rd_T111 l0_8 x6_3).f2).length c160_2)] 111 (0, 0))) ∧ Aside0 (w'.heap[gb163]? = some (.cells #[.int .i64 ((rd_T111 l1_8 x6_3).f0), .int .i64 ((rd_T111 l1_8 x6_3).f1), (.slice A161_2 ((rd_T111 l1_8 x6_3).f2).length c161_2)] 111 (0, 0))) ∧ Aside0 (Below w.heap.size w w'))
             case atStart => exact ⟨(0), (by first | rfl | (simp; done) | (simp [*]; done)), H', ⟨Nat.le_refl _⟩, ⟨by exact BK156.out⟩, ⟨by exact BK157.out⟩, ⟨by exact BK162.out⟩, ⟨by exact BK163.out⟩, ⟨by with_reducible exact HB.out⟩⟩
             case round =>
              clear H'
              try clear c1
              try clear p1
              try clear q1
              try clear hx1
              try clear p2
              try clear c3
              try clear c5
              try clear c6
              try clear c7
              try clear p15
              try clear q15
              try clear hx15
              try clear c16
              try clear p16
              try clear q16
              try clear hx16
              try clear c34
              try clear c34b0
              try clear c35
              try clear c35b0
              try clear c36
              try clear c36b0
              try clear c38
              try clear c50
              try clear c50b0
              try clear c50b1
              try clear c51
              try clear c51b0
              try clear c51b1
              try clear c52
              try clear c53
              try clear c54
              try clear c56
              try clear c57
              try clear c59
              try clear c60
              try clear c61
              try clear c63
              try clear c64
              try clear c66
              try clear c67
              try clear c68
              try clear c70
              try clear c71
              try clear c73
              try clear hcz39_0
              try clear hcz39_1
              try clear hcz39_2
              try clear hcz39_3
              try clear hcz39_4
              try clear hcz39_5
              try clear hcz39_6
              try clear hcz39_7
              try clear hcz39_8
              try clear hcz55_0
              try clear hcz55_1
              try clear hcz55_2
              try clear hcz58_0
              try clear hcz58_1
              try clear hcz58_2
              try clear hcz62_0
              try clear hcz62_1
              try clear hcz62_2
              try clear hcz65_0
              try clear hcz65_1
              try clear hcz65_2
              try clear hcz69_0
              try clear hcz69_1
              try clear hcz69_2
              try clear hcz72_0
              try clear hcz72_1
              try clear hcz72_2
              try clear hfz20_5
              try clear hfz20_6
              try clear hfz20_7
              try clear hfz20_8
              try clear hfz27_0
              try clear hfz27_1
              try clear hfz27_2
              try clear hfz27_3
              try clear hfz27_4
              try clear hfz27_5
              try clear hfz27_6
              try clear hfz27_7
              try clear hfz27_8
              try clear hfz30_0
              try clear hfz30_1
              try clear hfz30_2
              try clear hfz30_3
              try clear hfz30_4
              try clear hfz30_5
              try clear hfz30_6
              try clear hfz30_7
              try clear hfz30_8
              try clear hfz33_0
              try clear hfz33_1
              try clear hfz33_2
              try clear hfz33_3
              try clear hfz33_4
              try clear hfz33_5
              try clear hfz33_6
              try clear hfz33_7
              try clear hfz33_8
              try clear hfz39_0
              try clear hfz39_1
              try clear hfz39_2
              try clear hfz39_3
              try clear hfz39_4
              try clear hfz39_5
              try clear hfz39_6
              try clear hfz39_7
              try clear hfz39_8
              try clear hfz55_0
              try clear hfz55_1
              try clear hfz55_2
              try clear hfz58_0
              try clear hfz58_1
              try clear hfz58_2
              try clear hfz62_0
              try clear hfz62_1
              try clear hfz62_2
              try clear hfz65_0
              try clear hfz65_1
              try clear hfz65_2
              try clear hfz69_0
              try clear hfz69_1
              try clear hfz69_2
              try clear hfz72_0
              try clear hfz72_1
              try clear hfz72_2
              try clear hfz8_0
              try clear hfz8_1
              try clear hfz8_2
              try clear hfz8_3
              try clear hfz8_4
              try clear hfz8_5
              try clear hfz8_6
              try clear hfz8_7
              try clear hfz8_8
              try clear hfz9_0
              try clear hfz9_1
              try clear hfz9_2
              try clear hfz9_3
              try clear hfz9_4
              try clear hfz9_5
              try clear hfz9_6
              try clear hfz9_7
              try clear hfz9_8
              try clear hx158_0
              try clear hx159_0
              try clear hx160_0
              try clear hx160_1
              try clear hx160_2
              try clear hx161_0
              try clear hx161_1
              try clear hx161_2
              try clear p1
              try clear p15
              try clear p158
              try clear p159
              try clear p16
              try clear p160
              try clear p161
              try clear p2
              try clear q1
              try clear q15
              try clear q158
              try clear q159
              try clear q16
              try clear q160
              try clear q161
              obtain ⟨x9_5, rfl, HA, HK5, BK156, BK157, BK162, BK163, HB⟩ := hrel
              cases gk with
              | zero => exact absurd HA.out (by simp [credenzaref18_Same.l2])
              | succ k5 =>
               have H := HA.out
               clear HA
               simp only [credenzaref18_Same.l2] at H
               by_cases c74 : x9_5 < (((rd_T111 l0_8 x6_3).f2).length : Int)
               ·
                rw [if_pos c74] at H
                have c74b0 : decide (x9_5 < (((rd_T111 l0_8 x6_3).f2).length : Int)) = true := decide_eq_true c74
                clear c74
                by_cases c75 : 0 ≤ x9_5
                case neg => (rw [if_neg c75] at H; exact absurd H (by simp))
                rw [if_pos c75] at H
                have c75b0 : decide (0 ≤ x9_5) = true := decide_eq_true c75
                clear c75
                by_cases c76 : x9_5 < (((rd_T111 l1_8 x6_3).f2).length : Int)
                case neg => (rw [if_neg c76] at H; exact absurd H (by simp))
                rw [if_pos c76] at H
                have c76b0 : decide (x9_5 < (((rd_T111 l1_8 x6_3).f2).length : Int)) = true := decide_eq_true c76
                clear c76
                by_cases c77 : (rd ((rd_T111 l0_8 x6_3).f2) x9_5) = (rd ((rd_T111 l1_8 x6_3).f2) x9_5)
                ·
                 rw [if_pos c77] at H
                 have c77b0 : ((rd ((rd_T111 l0_8 x6_3).f2) x9_5) == (rd ((rd_T111 l1_8 x6_3).f2) x9_5)) = true := beq_iff_eq.mpr c77
                 have c77b1 : ((rd ((rd_T111 l0_8 x6_3).f2) x9_5) != (rd ((rd_T111 l1_8 x6_3).f2) x9_5)) = false := bne_eq_false_iff_eq.mpr c77
                 clear c77
                 have H' := Aside0.mk H
                 clear H
                 have hnb78 := NB162_156.out
                 have hnc78 := NB156_162.out
                 have hnb79 := NB162_157.out
                 have hnc79 := NB157_162.out
                 have hnb80 := NB162_163.out
                 have hnc80 := NB163_162.out
                 have hcz81_0 : wr.cell? ⟨gb162, 0, none⟩ = some (.int .i64 ((rd_T111 l0_8 x6_3).f0)) := (blk_cell BK162.out 0).trans rfl
                 have hcz81_1 : wr.cell? ⟨gb162, 1, none⟩ = some (.int .i64 ((rd_T111 l0_8 x6_3).f1)) := (blk_cell BK162.out 1).trans rfl
                 have hcz81_2 : wr.cell? ⟨gb162, 2, none⟩ = some (.slice A160_2 ((rd_T111 l0_8 x6_3).f2).length c160_2) := (blk_cell BK162.out 2).trans rfl
                 have hfz81_0 := blk_frozen BK162.out 0
                 have hfz81_1 := blk_frozen BK162.out 1
                 have hfz81_2 := blk_frozen BK162.out 2
                 try go_wp2
                 have n0_ := Aside0.mk (blk_drew BK156.out)
                 have n1_ := Aside0.mk (blk_drew BK157.out)
                 have n2_ := Aside0.mk (blk_drew BK162.out)
                 have n3_ := Aside0.mk (blk_drew BK163.out)
                 have n4_ := Aside0.mk (below_drew1 HB.out)
                 clear BK156
                 clear BK157
                 clear BK162
                 clear BK163
                 clear HB
                 have BK156 := n0_
                 have BK157 := n1_
                 have BK162 := n2_
                 have BK163 := n3_
                 have HB := n4_
                 clear n0_ n1_ n2_ n3_ n4_
                 have p164 : 0 ≤ (x9_5 : Int) := of_decide_eq_true (by first | (with_reducible assumption) | assumption)
                 have q164 : x9_5 < (((rd_T111 l0_8 x6_3).f2).length : Int) := of_decide_eq_true (by first | (with_reducible assumption) | assumption)
                 obtain ⟨ad164, e164, hx164_0⟩ := Kd.at_int HR160_2.out x9_5 p164 q164
                 have hw164_0 := hx164_0
                 cases e164
                 replace hx164_0 := (HB.out.cell (World.block_lt_of_cell? w _ hx164_0)).trans hx164_0
                 replace p164 := eq_true p164
                 replace q164 := eq_true q164
                 have p165 : 0 ≤ (x9_5 : Int) := of_decide_eq_true (by first | (with_reducible assumption) | assumption)
                 have q165 : x9_5 < (((rd_T111 l1_8 x6_3).f2).length : Int) := of_decide_eq_true (by first | (with_reducible assumption) | assumption)
                 obtain ⟨ad165, e165, hx165_0⟩ := Kd.at_int HR161_2.out x9_5 p165 q165
                 have hw165_0 := hx165_0
                 cases e165
                 replace hx165_0 := (HB.out.cell (World.block_lt_of_cell? w _ hx165_0)).trans hx165_0
                 replace p165 := eq_true p165
                 replace q165 := eq_true q165
                 refine start_ (n := 11) (S := fun w' => w'.cell? ⟨gb162, 0, none⟩ = some (.int .i64 ((rd_T111 l0_8 x6_3).f0)) ∧ w'.cell? ⟨gb162, 1, none⟩ = some (.int .i64 ((rd_T111 l0_8 x6_3).f1)) ∧ w'.cell? ⟨gb162, 2, none⟩ = some (.slice (some ad164) ((rd_T111 l0_8 x6_3).f2).length c160_2) ∧ w'.cell? ⟨gb163, 0, none⟩ = some (.int .i64 ((rd_T111 l1_8 x6_3).f0)) ∧ w'.cell? ⟨gb163, 1, none⟩ = some (.int .i64 ((rd_T111 l1_8 x6_3).f1)) ∧ w'.cell? ⟨gb163, 2, none⟩ = some (.slice (some ad165) ((rd_T111 l1_8 x6_3).f2).length c161_2) ∧ w'.cell? (ad164.add (x9_5).toNat) = some (.int .i32 (rd ((rd_T111 l0_8 x6_3).f2) x9_5)) ∧ w'.cell? (ad165.add (x9_5).toNat) = some (.int .i32 (rd ((rd_T111 l1_8 x6_3).f2) x9_5))) (ds := []) #[false, false, false, false, false, false, false, false, false, false, false] (by kernel_rfl) rfl rfl ⟨(blk_cell BK162.out 0).trans rfl, (blk_cell BK162.out 1).trans rfl, (blk_cell BK162.out 2).trans rfl, (blk_cell BK163.out 0).trans rfl, (blk_cell BK163.out 1).trans rfl, (blk_cell BK163.out 2).trans rfl, ((HB.out.cell (World.block_lt_of_cell? w _ hw164_0)).trans hw164_0), ((HB.out.cell (World.block_lt_of_cell? w _ hw165_0)).trans hw165_0)⟩ (fun hHeld => ?_); refine with_tabW credenzaref18_Same.tab17 credenzaref18_Same.bits17 (fun HT_ HW_ => ?_)
                 generalize wr.drew = w82 at BK156 BK157 BK162 BK163 HB hx164_0 hx165_0 hHeld ⊢
                 refine pure_ (i := 0) (N := some 103) (v := ?_) (a' := ?_) #[true, false, false, false, false, false, false, false, false, false, false] rfl rfl (any_of HT_.out (by kernel_rfl)) (fun _ _ _ h => h) (Or.inl ⟨by rfl, ?_⟩) ?_ ?_
                 rotate_left
                 ·
                  intro w'
                  go_simp
                  with_reducible rfl
                 rotate_left
                 ·
                  simp only [Act.put, List.setIfInBounds_toArray, List.set_cons_zero, List.set_cons_succ, i64_w, i32_w, IntKind.wrap_u32]
                  rfl
                 refine pure_ (i := 2) (N := some 105) (v := ?_) (a' := ?_) #[true, false, true, false, false, false, false, false, false, false, false] rfl rfl (any_of HT_.out (by kernel_rfl)) (fun _ _ _ h => h) (Or.inl ⟨by rfl, ?_⟩) ?_ ?_
                 rotate_left
                 ·
                  intro w'
                  go_simp
                  with_reducible rfl
                 rotate_left
                 ·
                  simp only [Act.put, List.setIfInBounds_toArray, List.set_cons_zero, List.set_cons_succ, i64_w, i32_w, IntKind.wrap_u32]
                  rfl
                 refine pure_ (i := 5) (N := some 108) (v := ?_) (a' := ?_) #[true, false, true, false, false, true, false, false, false, false, false] rfl rfl (any_of HT_.out (by kernel_rfl)) (fun _ _ _ h => h) (Or.inl ⟨by rfl, ?_⟩) ?_ ?_
                 rotate_left
                 ·
                  intro w'
                  go_simp
                  with_reducible rfl
                 rotate_left
                 ·
                  simp only [Act.put, List.setIfInBounds_toArray, List.set_cons_zero, List.set_cons_succ, i64_w, i32_w, IntKind.wrap_u32]
                  rfl
                 refine pure_ (i := 7) (N := some 110) (v := ?_) (a' := ?_) #[true, false, true, false, false, true, false, true, false, false, false] rfl rfl (any_of HT_.out (by kernel_rfl)) (fun _ _ _ h => h) (Or.inl ⟨by rfl, ?_⟩) ?_ ?_
                 rotate_left
                 ·
                  intro w'
                  go_simp
                  with_reducible rfl
                 rotate_left
                 ·
                  simp only [Act.put, List.setIfInBounds_toArray, List.set_cons_zero, List.set_cons_succ, i64_w, i32_w, IntKind.wrap_u32]
                  rfl
                 refine take_ (i := 1) (N := some 104) (v := ?_) (a' := ?_) #[true, true, true, false, false, true, false, true, false, false, false] rfl rfl (take_ofW HT_.out HW_.out (by kernel_rfl)) (fun _ _ _ h => h) (Or.inl ⟨by rfl, ?_⟩) hHeld ?_ ?_
                 rotate_left
                 ·
                  rintro w' ⟨s0, s1, s2, s3, s4, s5, s6, s7⟩
                  go_simp
                  with_reducible rfl
                 rotate_left
                 ·
                  simp only [Act.put, List.setIfInBounds_toArray, List.set_cons_zero, List.set_cons_succ, i64_w, i32_w, IntKind.wrap_u32]
                  rfl
                 refine pure_ (i := 3) (N := some 106) (v := ?_) (a' := ?_) #[true, true, true, true, false, true, false, true, false, false, false] rfl rfl (any_of HT_.out (by kernel_rfl)) (fun _ _ _ h => h) (Or.inl ⟨by rfl, ?_⟩) ?_ ?_
                 rotate_left
                 ·
                  intro w'
                  go_simp
                  with_reducible rfl
                 rotate_left
                 ·
                  simp only [Act.put, List.setIfInBounds_toArray, List.set_cons_zero, List.set_cons_succ, i64_w, i32_w, IntKind.wrap_u32]
                  rfl
                 refine take_ (i := 4) (N := some 107) (v := ?_) (a' := ?_) #[true, true, true, true, true, true, false, true, false, false, false] rfl rfl (take_ofW HT_.out HW_.out (by kernel_rfl)) (fun _ _ _ h => h) (Or.inl ⟨by rfl, ?_⟩) hHeld ?_ ?_
                 rotate_left
                 ·
                  rintro w' ⟨s0, s1, s2, s3, s4, s5, s6, s7⟩
                  go_simp
                  with_reducible rfl
                 rotate_left
                 ·
                  simp only [Act.put, List.setIfInBounds_toArray, List.set_cons_zero, List.set_cons_succ, i64_w, i32_w, IntKind.wrap_u32]
                  rfl
                 refine take_ (i := 6) (N := some 109) (v := ?_) (a' := ?_) #[true, true, true, true, true, true, true, true, false, false, false] rfl rfl (take_ofW HT_.out HW_.out (by kernel_rfl)) (fun _ _ _ h => h) (Or.inl ⟨by rfl, ?_⟩) hHeld ?_ ?_
                 rotate_left
                 ·
                  rintro w' ⟨s0, s1, s2, s3, s4, s5, s6, s7⟩
                  go_simp
                  with_reducible rfl
                 rotate_left
                 ·
                  simp only [Act.put, List.setIfInBounds_toArray, List.set_cons_zero, List.set_cons_succ, i64_w, i32_w, IntKind.wrap_u32]
                  rfl
                 refine pure_ (i := 8) (N := some 111) (v := ?_) (a' := ?_) #[true, true, true, true, true, true, true, true, true, false, false] rfl rfl (any_of HT_.out (by kernel_rfl)) (fun _ _ _ h => h) (Or.inl ⟨by rfl, ?_⟩) ?_ ?_
                 rotate_left
                 ·
                  intro w'
                  go_simp
                  with_reducible rfl
                 rotate_left
                 ·
                  simp only [Act.put, List.setIfInBounds_toArray, List.set_cons_zero, List.set_cons_succ, i64_w, i32_w, IntKind.wrap_u32]
                  rfl
                 refine take_ (i := 9) (N := some 112) (v := ?_) (a' := ?_) #[true, true, true, true, true, true, true, true, true, true, false] rfl rfl (take_ofW HT_.out HW_.out (by kernel_rfl)) (fun _ _ _ h => h) (Or.inl ⟨by rfl, ?_⟩) hHeld ?_ ?_
                 rotate_left
                 ·
                  rintro w' ⟨s0, s1, s2, s3, s4, s5, s6, s7⟩
                  go_simp
                  with_reducible rfl
                 rotate_left
                 ·
                  simp only [Act.put, List.setIfInBounds_toArray, List.set_cons_zero, List.set_cons_succ, i64_w, i32_w, IntKind.wrap_u32]
                  rfl
                 refine pure_ (i := 10) (N := some 113) (v := ?_) (a' := ?_) #[true, true, true, true, true, true, true, true, true, true, true] rfl rfl (any_of HT_.out (by kernel_rfl)) (fun _ _ _ h => h) (Or.inl ⟨by rfl, ?_⟩) ?_ ?_
                 rotate_left
                 ·
                  intro w'
                  go_simp
                  with_reducible rfl
                 rotate_left
                 ·
                  simp only [Act.put, List.setIfInBounds_toArray, List.set_cons_zero, List.set_cons_succ, i64_w, i32_w, IntKind.wrap_u32]
                  rfl
                 refine done_ (done_of HT_.out (by kernel_rfl)) ?_
                 try go_wp2
                 go_roundg k5
                 case measure => have := HJ2.out; have := HK2.out; have := HK3.out; have := HJ36.out; have := HK5.out; omega
                 case rel => exact ⟨(wrap64 (x9_5 + 1)), (by first | rfl | (simp; done) | (simp [*]; done)), H', ⟨by have := HJ2.out; have := HK2.out; have := HK3.out; have := HJ36.out; have := HK5.out; omega⟩, ⟨by exact BK156.out⟩, ⟨by exact BK157.out⟩, ⟨by exact BK162.out⟩, ⟨by exact BK163.out⟩, ⟨by with_reducible exact HB.out⟩⟩
                ·
                 rw [if_neg c77] at H
                 have c77b0 : ((rd ((rd_T111 l0_8 x6_3).f2) x9_5) == (rd ((rd_T111 l1_8 x6_3).f2) x9_5)) = false := beq_eq_false_iff_ne.mpr c77
                 have c77b1 : ((rd ((rd_T111 l0_8 x6_3).f2) x9_5) != (rd ((rd_T111 l1_8 x6_3).f2) x9_5)) = true := bne_iff_ne.mpr c77
                 obtain rfl := Option.some.inj H
                 have hnb83 := NB162_156.out
                 have hnc83 := NB156_162.out
                 have hnb84 := NB162_157.out
                 have hnc84 := NB157_162.out
                 have hnb85 := NB162_163.out
                 have hnc85 := NB163_162.out
                 have hcz86_0 : wr.cell? ⟨gb162, 0, none⟩ = some (.int .i64 ((rd_T111 l0_8 x6_3).f0)) := (blk_cell BK162.out 0).trans rfl
                 have hcz86_1 : wr.cell? ⟨gb162, 1, none⟩ = some (.int .i64 ((rd_T111 l0_8 x6_3).f1)) := (blk_cell BK162.out 1).trans rfl
                 have hcz86_2 : wr.cell? ⟨gb162, 2, none⟩ = some (.slice A160_2 ((rd_T111 l0_8 x6_3).f2).length c160_2) := (blk_cell BK162.out 2).trans rfl
                 have hfz86_0 := blk_frozen BK162.out 0
                 have hfz86_1 := blk_frozen BK162.out 1
                 have hfz86_2 := blk_frozen BK162.out 2
                 try go_wp2
                 have n0_ := Aside0.mk (blk_drew BK156.out)
                 have n1_ := Aside0.mk (blk_drew BK157.out)
                 have n2_ := Aside0.mk (blk_drew BK162.out)
                 have n3_ := Aside0.mk (blk_drew BK163.out)
                 have n4_ := Aside0.mk (below_drew1 HB.out)
                 clear BK156
                 clear BK157
                 clear BK162
                 clear BK163
                 clear HB
                 have BK156 := n0_
                 have BK157 := n1_
                 have BK162 := n2_
                 have BK163 := n3_
                 have HB := n4_
                 clear n0_ n1_ n2_ n3_ n4_
                 have p164 : 0 ≤ (x9_5 : Int) := of_decide_eq_true (by first | (with_reducible assumption) | assumption)
                 have q164 : x9_5 < (((rd_T111 l0_8 x6_3).f2).length : Int) := of_decide_eq_true (by first | (with_reducible assumption) | assumption)
                 obtain ⟨ad164, e164, hx164_0⟩ := Kd.at_int HR160_2.out x9_5 p164 q164
                 have hw164_0 := hx164_0
                 cases e164
                 replace hx164_0 := (HB.out.cell (World.block_lt_of_cell? w _ hx164_0)).trans hx164_0
                 replace p164 := eq_true p164
                 replace q164 := eq_true q164
                 have p165 : 0 ≤ (x9_5 : Int) := of_decide_eq_true (by first | (with_reducible assumption) | assumption)
                 have q165 : x9_5 < (((rd_T111 l1_8 x6_3).f2).length : Int) := of_decide_eq_true (by first | (with_reducible assumption) | assumption)
                 obtain ⟨ad165, e165, hx165_0⟩ := Kd.at_int HR161_2.out x9_5 p165 q165
                 have hw165_0 := hx165_0
                 cases e165
                 replace hx165_0 := (HB.out.cell (World.block_lt_of_cell? w _ hx165_0)).trans hx165_0
                 replace p165 := eq_true p165
                 replace q165 := eq_true q165
                 refine start_ (n := 11) (S := fun w' => w'.cell? ⟨gb162, 0, none⟩ = some (.int .i64 ((rd_T111 l0_8 x6_3).f0)) ∧ w'.cell? ⟨gb162, 1, none⟩ = some (.int .i64 ((rd_T111 l0_8 x6_3).f1)) ∧ w'.cell? ⟨gb162, 2, none⟩ = some (.slice (some ad164) ((rd_T111 l0_8 x6_3).f2).length c160_2) ∧ w'.cell? ⟨gb163, 0, none⟩ = some (.int .i64 ((rd_T111 l1_8 x6_3).f0)) ∧ w'.cell? ⟨gb163, 1, none⟩ = some (.int .i64 ((rd_T111 l1_8 x6_3).f1)) ∧ w'.cell? ⟨gb163, 2, none⟩ = some (.slice (some ad165) ((rd_T111 l1_8 x6_3).f2).length c161_2) ∧ w'.cell? (ad164.add (x9_5).toNat) = some (.int .i32 (rd ((rd_T111 l0_8 x6_3).f2) x9_5)) ∧ w'.cell? (ad165.add (x9_5).toNat) = some (.int .i32 (rd ((rd_T111 l1_8 x6_3).f2) x9_5))) (ds := []) #[false, false, false, false, false, false, false, false, false, false, false] (by kernel_rfl) rfl rfl ⟨(blk_cell BK162.out 0).trans rfl, (blk_cell BK162.out 1).trans rfl, (blk_cell BK162.out 2).trans rfl, (blk_cell BK163.out 0).trans rfl, (blk_cell BK163.out 1).trans rfl, (blk_cell BK163.out 2).trans rfl, ((HB.out.cell (World.block_lt_of_cell? w _ hw164_0)).trans hw164_0), ((HB.out.cell (World.block_lt_of_cell? w _ hw165_0)).trans hw165_0)⟩ (fun hHeld => ?_); refine with_tabW credenzaref18_Same.tab17 credenzaref18_Same.bits17 (fun HT_ HW_ => ?_)
                 generalize wr.drew = w87 at BK156 BK157 BK162 BK163 HB hx164_0 hx165_0 hHeld ⊢
                 refine pure_ (i := 0) (N := some 103) (v := ?_) (a' := ?_) #[true, false, false, false, false, false, false, false, false, false, false] rfl rfl (any_of HT_.out (by kernel_rfl)) (fun _ _ _ h => h) (Or.inl ⟨by rfl, ?_⟩) ?_ ?_
                 rotate_left
                 ·
                  intro w'
                  go_simp
                  with_reducible rfl
                 rotate_left
                 ·
                  simp only [Act.put, List.setIfInBounds_toArray, List.set_cons_zero, List.set_cons_succ, i64_w, i32_w, IntKind.wrap_u32]
                  rfl
                 refine pure_ (i := 2) (N := some 105) (v := ?_) (a' := ?_) #[true, false, true, false, false, false, false, false, false, false, false] rfl rfl (any_of HT_.out (by kernel_rfl)) (fun _ _ _ h => h) (Or.inl ⟨by rfl, ?_⟩) ?_ ?_
                 rotate_left
                 ·
                  intro w'
                  go_simp
                  with_reducible rfl
                 rotate_left
                 ·
                  simp only [Act.put, List.setIfInBounds_toArray, List.set_cons_zero, List.set_cons_succ, i64_w, i32_w, IntKind.wrap_u32]
                  rfl
                 refine pure_ (i := 5) (N := some 108) (v := ?_) (a' := ?_) #[true, false, true, false, false, true, false, false, false, false, false] rfl rfl (any_of HT_.out (by kernel_rfl)) (fun _ _ _ h => h) (Or.inl ⟨by rfl, ?_⟩) ?_ ?_
                 rotate_left
                 ·
                  intro w'
                  go_simp
                  with_reducible rfl
                 rotate_left
                 ·
                  simp only [Act.put, List.setIfInBounds_toArray, List.set_cons_zero, List.set_cons_succ, i64_w, i32_w, IntKind.wrap_u32]
                  rfl
                 refine pure_ (i := 7) (N := some 110) (v := ?_) (a' := ?_) #[true, false, true, false, false, true, false, true, false, false, false] rfl rfl (any_of HT_.out (by kernel_rfl)) (fun _ _ _ h => h) (Or.inl ⟨by rfl, ?_⟩) ?_ ?_
                 rotate_left
                 ·
                  intro w'
                  go_simp
                  with_reducible rfl
                 rotate_left
                 ·
                  simp only [Act.put, List.setIfInBounds_toArray, List.set_cons_zero, List.set_cons_succ, i64_w, i32_w, IntKind.wrap_u32]
                  rfl
                 refine take_ (i := 1) (N := some 104) (v := ?_) (a' := ?_) #[true, true, true, false, false, true, false, true, false, false, false] rfl rfl (take_ofW HT_.out HW_.out (by kernel_rfl)) (fun _ _ _ h => h) (Or.inl ⟨by rfl, ?_⟩) hHeld ?_ ?_
                 rotate_left
                 ·
                  rintro w' ⟨s0, s1, s2, s3, s4, s5, s6, s7⟩
                  go_simp
                  with_reducible rfl
                 rotate_left
                 ·
                  simp only [Act.put, List.setIfInBounds_toArray, List.set_cons_zero, List.set_cons_succ, i64_w, i32_w, IntKind.wrap_u32]
                  rfl
                 refine pure_ (i := 3) (N := some 106) (v := ?_) (a' := ?_) #[true, true, true, true, false, true, false, true, false, false, false] rfl rfl (any_of HT_.out (by kernel_rfl)) (fun _ _ _ h => h) (Or.inl ⟨by rfl, ?_⟩) ?_ ?_
                 rotate_left
                 ·
                  intro w'
                  go_simp
                  with_reducible rfl
                 rotate_left
                 ·
                  simp only [Act.put, List.setIfInBounds_toArray, List.set_cons_zero, List.set_cons_succ, i64_w, i32_w, IntKind.wrap_u32]
                  rfl
                 refine take_ (i := 4) (N := some 107) (v := ?_) (a' := ?_) #[true, true, true, true, true, true, false, true, false, false, false] rfl rfl (take_ofW HT_.out HW_.out (by kernel_rfl)) (fun _ _ _ h => h) (Or.inl ⟨by rfl, ?_⟩) hHeld ?_ ?_
                 rotate_left
                 ·
                  rintro w' ⟨s0, s1, s2, s3, s4, s5, s6, s7⟩
                  go_simp
                  with_reducible rfl
                 rotate_left
                 ·
                  simp only [Act.put, List.setIfInBounds_toArray, List.set_cons_zero, List.set_cons_succ, i64_w, i32_w, IntKind.wrap_u32]
                  rfl
                 refine take_ (i := 6) (N := some 109) (v := ?_) (a' := ?_) #[true, true, true, true, true, true, true, true, false, false, false] rfl rfl (take_ofW HT_.out HW_.out (by kernel_rfl)) (fun _ _ _ h => h) (Or.inl ⟨by rfl, ?_⟩) hHeld ?_ ?_
                 rotate_left
                 ·
                  rintro w' ⟨s0, s1, s2, s3, s4, s5, s6, s7⟩
                  go_simp
                  with_reducible rfl
                 rotate_left
                 ·
                  simp only [Act.put, List.setIfInBounds_toArray, List.set_cons_zero, List.set_cons_succ, i64_w, i32_w, IntKind.wrap_u32]
                  rfl
                 refine pure_ (i := 8) (N := some 111) (v := ?_) (a' := ?_) #[true, true, true, true, true, true, true, true, true, false, false] rfl rfl (any_of HT_.out (by kernel_rfl)) (fun _ _ _ h => h) (Or.inl ⟨by rfl, ?_⟩) ?_ ?_
                 rotate_left
                 ·
                  intro w'
                  go_simp
                  with_reducible rfl
                 rotate_left
                 ·
                  simp only [Act.put, List.setIfInBounds_toArray, List.set_cons_zero, List.set_cons_succ, i64_w, i32_w, IntKind.wrap_u32]
                  rfl
                 refine take_ (i := 9) (N := some 112) (v := ?_) (a' := ?_) #[true, true, true, true, true, true, true, true, true, true, false] rfl rfl (take_ofW HT_.out HW_.out (by kernel_rfl)) (fun _ _ _ h => h) (Or.inl ⟨by rfl, ?_⟩) hHeld ?_ ?_
                 rotate_left
                 ·
                  rintro w' ⟨s0, s1, s2, s3, s4, s5, s6, s7⟩
                  go_simp
                  with_reducible rfl
                 rotate_left
                 ·
                  simp only [Act.put, List.setIfInBounds_toArray, List.set_cons_zero, List.set_cons_succ, i64_w, i32_w, IntKind.wrap_u32]
                  rfl
                 refine pure_ (i := 10) (N := some 113) (v := ?_) (a' := ?_) #[true, true, true, true, true, true, true, true, true, true, true] rfl rfl (any_of HT_.out (by kernel_rfl)) (fun _ _ _ h => h) (Or.inl ⟨by rfl, ?_⟩) ?_ ?_
                 rotate_left
                 ·
                  intro w'
                  go_simp
                  with_reducible rfl
                 rotate_left
                 ·
                  simp only [Act.put, List.setIfInBounds_toArray, List.set_cons_zero, List.set_cons_succ, i64_w, i32_w, IntKind.wrap_u32]
                  rfl
                 refine done_ (done_of HT_.out (by kernel_rfl)) ?_
                 try go_wp2
                 go_ret
                 exact ⟨by first | rfl | (simp [errW_none, errW_some] <;> rfl) | (simp [*, errW_none, errW_some] <;> rfl), by with_reducible exact HB.out⟩
               ·
                rw [if_neg c74] at H
                have c74b0 : decide (x9_5 < (((rd_T111 l0_8 x6_3).f2).length : Int)) = false := decide_eq_false c74
                clear c74
                have H' := Aside0.mk H
                clear H
                have hnb88 := NB162_156.out
                have hnc88 := NB156_162.out
                have hnb89 := NB162_157.out
                have hnc89 := NB157_162.out
                have hnb90 := NB162_163.out
                have hnc90 := NB163_162.out
                have hcz91_0 : wr.cell? ⟨gb162, 0, none⟩ = some (.int .i64 ((rd_T111 l0_8 x6_3).f0)) := (blk_cell BK162.out 0).trans rfl
                have hcz91_1 : wr.cell? ⟨gb162, 1, none⟩ = some (.int .i64 ((rd_T111 l0_8 x6_3).f1)) := (blk_cell BK162.out 1).trans rfl
                have hcz91_2 : wr.cell? ⟨gb162, 2, none⟩ = some (.slice A160_2 ((rd_T111 l0_8 x6_3).f2).length c160_2) := (blk_cell BK162.out 2).trans rfl
                have hfz91_0 := blk_frozen BK162.out 0
                have hfz91_1 := blk_frozen BK162.out 1
                have hfz91_2 := blk_frozen BK162.out 2
                go_wp2
                go_roundg k5
                case measure => have := HJ2.out; have := HK2.out; have := HK3.out; have := HJ36.out; have := HK5.out; omega
                case rel => exact ⟨(wrap64 (x6_3 + 1)), (by first | rfl | (simp; done) | (simp [*]; done)), H', ⟨by have := HJ2.out; have := HK2.out; have := HK3.out; have := HJ36.out; have := HK5.out; omega⟩, ⟨by exact BK156.out⟩, ⟨by exact BK157.out⟩, ⟨by with_reducible exact HB.out⟩⟩
         ·
          rw [if_neg c34] at H
          have c34b0 : decide (x6_3 < (l0_8.length : Int)) = false := decide_eq_false c34
          clear c34
          obtain rfl := Option.some.inj H
          have hnb92 := NB156_157.out
          have hnc92 := NB157_156.out
          have hcz93_0 : wr.cell? ⟨gb156, 0, none⟩ = some (.int .i64 a0_0) := (blk_cell BK156.out 0).trans rfl
          have hcz93_1 : wr.cell? ⟨gb156, 1, none⟩ = some (.int .i64 a0_1) := (blk_cell BK156.out 1).trans rfl
          have hcz93_2 : wr.cell? ⟨gb156, 2, none⟩ = some (.int .i64 a0_2) := (blk_cell BK156.out 2).trans rfl
          have hcz93_3 : wr.cell? ⟨gb156, 3, none⟩ = some (.int .i64 a0_3) := (blk_cell BK156.out 3).trans rfl
          have hcz93_4 : wr.cell? ⟨gb156, 4, none⟩ = some (.int .i64 a0_4) := (blk_cell BK156.out 4).trans rfl
          have hcz93_5 : wr.cell? ⟨gb156, 5, none⟩ = some (.int .i64 a0_5) := (blk_cell BK156.out 5).trans rfl
          have hcz93_6 : wr.cell? ⟨gb156, 6, none⟩ = some (.int .i64 a0_6) := (blk_cell BK156.out 6).trans rfl
          have hcz93_7 : wr.cell? ⟨gb156, 7, none⟩ = some (.slice A0_7 l0_7.length c0_7) := (blk_cell BK156.out 7).trans rfl
          have hcz93_8 : wr.cell? ⟨gb156, 8, none⟩ = some (.slice A0_8 l0_8.length c0_8) := (blk_cell BK156.out 8).trans rfl
          have hfz93_0 := blk_frozen BK156.out 0
          have hfz93_1 := blk_frozen BK156.out 1
          have hfz93_2 := blk_frozen BK156.out 2
          have hfz93_3 := blk_frozen BK156.out 3
          have hfz93_4 := blk_frozen BK156.out 4
          have hfz93_5 := blk_frozen BK156.out 5
          have hfz93_6 := blk_frozen BK156.out 6
          have hfz93_7 := blk_frozen BK156.out 7
          have hfz93_8 := blk_frozen BK156.out 8
          go_wp2
          go_ret
          exact ⟨by first | rfl | (simp [errW_none, errW_some] <;> rfl) | (simp [*, errW_none, errW_some] <;> rfl), by with_reducible exact HB.out⟩

end Go.Proofs.Ytehepnmagcjkaaa.PBlobEquals
