-- Written by a program of this session (wip/tools/mkprint.py over the kit's print).
import Derived.Test.YtekenaclmplocaaPPageNearx0
import Derived.Test.YtekenaclmplocaaPPageNearx2
import Derived.Test.YtekenaclmplocaaPPageNearx6
import Derived.Test.YtekenaclmplocaaPPageNearx11
import Derived.Test.YtekenaclmplocaaPPageNearx13
import Derived.Test.YtekenaclmplocaaPPageNearx14
namespace Go.Proofs.Ytekenaclmplocaa.PPageNear
open Go.RowKit Go.Proofs.YtekenaclmplocaaW.PrintWords Go.Proofs.YtekenaclmplocaaW.PrintLast Go.Proofs.YtekenaclmplocaaW.PrintMore
attribute [local go_sem] max2_int min2_int max_two min_two max_three min_three max_four min_four   -- for this text's walks alone
set_option linter.unusedVariables false
set_option linter.unusedSimpArgs false

/-! ### credenzalaw08_PageNear: function 4 -/
mutual
def credenzalaw08_PageNear.j0 : Nat → Bool → Int → Int → Int → Int → Int → Int → Int → List (List Int) → List (List Int) → Option (Bool)
 | 0, _, _, _, _, _, _, _, _, _, _ => none
 | k + 1, x31, x473000, x473001, x473002, x473003, x473004, x473005, x473006, x473007, x473008 => if x31 = true then ((credenzalaw08_awake.f k).bind fun t483 => (some t483)) else ((page_Quantize.f k x473000 x473001 x473002 x473003 x473004 x473005 x473006 x473007 x473008).bind fun bt484 => (if bt484.2 = 0 then (credenzalaw08_PageNear.j1 k bt484.1 ((bt484.1.length : Int) == 0) x473000 x473001 x473002 x473003 x473004 x473005 x473006 x473007 x473008) else (credenzalaw08_PageNear.j1 k bt484.1 true x473000 x473001 x473002 x473003 x473004 x473005 x473006 x473007 x473008)))
def credenzalaw08_PageNear.j1 : Nat → List (S75) → Bool → Int → Int → Int → Int → Int → Int → Int → List (List Int) → List (List Int) → Option (Bool)
 | 0, _, _, _, _, _, _, _, _, _, _, _ => none
 | k + 1, x3, x48, x473000, x473001, x473002, x473003, x473004, x473005, x473006, x473007, x473008 => if x48 = true then (none) else ((page_Page_KeyGroups.f k x3).bind fun t488 => ((page_Page_ValueGroups.f k x3).bind fun t491 => (if (t488.length : Int) = x473003 then (credenzalaw08_PageNear.j2 k x3 t488 t491 ((t491.length : Int) != x473002) x473000 x473001 x473002 x473003 x473004 x473005 x473006 x473007 x473008) else (credenzalaw08_PageNear.j2 k x3 t488 t491 true x473000 x473001 x473002 x473003 x473004 x473005 x473006 x473007 x473008))))
def credenzalaw08_PageNear.j2 : Nat → List (S75) → List (S47) → List (S47) → Bool → Int → Int → Int → Int → Int → Int → Int → List (List Int) → List (List Int) → Option (Bool)
 | 0, _, _, _, _, _, _, _, _, _, _, _, _, _ => none
 | k + 1, x3, x5, x6, x66, x473000, x473001, x473002, x473003, x473004, x473005, x473006, x473007, x473008 => if x66 = true then (none) else (credenzalaw08_PageNear.l0 k x3 x5 x6 x473002 0 x473000 x473001 x473002 x473003 x473004 x473005 x473006 x473007 x473008)
def credenzalaw08_PageNear.l0 : Nat → List (S75) → List (S47) → List (S47) → Int → Int → Int → Int → Int → Int → Int → Int → Int → List (List Int) → List (List Int) → Option (Bool)
 | 0, _, _, _, _, _, _, _, _, _, _, _, _, _, _ => none
 | k + 1, x3, x5, x6, x69, x70, x473000, x473001, x473002, x473003, x473004, x473005, x473006, x473007, x473008 => if x70 < x69 then (credenzalaw08_PageNear.l1 k x3 x5 x6 x70 x69 x70 x473003 0 x473000 x473001 x473002 x473003 x473004 x473005 x473006 x473007 x473008) else ((credenzalaw08_awake.f k).bind fun t494 => (some t494))
def credenzalaw08_PageNear.l1 : Nat → List (S75) → List (S47) → List (S47) → Int → Int → Int → Int → Int → Int → Int → Int → Int → Int → Int → Int → List (List Int) → List (List Int) → Option (Bool)
 | 0, _, _, _, _, _, _, _, _, _, _, _, _, _, _, _, _, _ => none
 | k + 1, x3, x5, x6, x7, x69, x70, x75, x76, x473000, x473001, x473002, x473003, x473004, x473005, x473006, x473007, x473008 => if x76 < x75 then ((page_Page_Key.f x3 x7 x76).bind fun t495 => (if 0 ≤ x7 then (if x7 < (x473007.length : Int) then (if 0 ≤ x76 then (if x76 < ((rd_L1 x473007 x7).length : Int) then ((page_Page_Value.f x3 x7 x76).bind fun t498 => (if x7 < (x473008.length : Int) then (if x76 < ((rd_L1 x473008 x7).length : Int) then (if x76 < (x5.length : Int) then (if (wrap64 (2 * (wrap64 ((wrap64 (t495)) - (wrap64 (rd (rd_L1 x473007 x7) x76)))))) > (wrap64 ((rd_T47 x5 x76).f1)) then (none) else (if (wrap64 (-(wrap64 (2 * (wrap64 ((wrap64 (t495)) - (wrap64 (rd (rd_L1 x473007 x7) x76)))))))) > (wrap64 ((rd_T47 x5 x76).f1)) then (none) else (if x7 < (x6.length : Int) then (if (wrap64 (2 * (wrap64 ((wrap64 (t498)) - (wrap64 (rd (rd_L1 x473008 x7) x76)))))) > (wrap64 ((rd_T47 x6 x7).f1)) then (none) else (if (wrap64 (-(wrap64 (2 * (wrap64 ((wrap64 (t498)) - (wrap64 (rd (rd_L1 x473008 x7) x76)))))))) > (wrap64 ((rd_T47 x6 x7).f1)) then (none) else (credenzalaw08_PageNear.l1 k x3 x5 x6 x7 x69 x70 x75 (wrap64 (x76 + 1)) x473000 x473001 x473002 x473003 x473004 x473005 x473006 x473007 x473008))) else (none)))) else (none)) else (none)) else (none))) else (none)) else (none)) else (none)) else (none))) else (credenzalaw08_PageNear.l0 k x3 x5 x6 x69 (wrap64 (x70 + 1)) x473000 x473001 x473002 x473003 x473004 x473005 x473006 x473007 x473008)
end
def credenzalaw08_PageNear.f (k : Nat) (a0_0 : Int) (a0_1 : Int) (a0_2 : Int) (a0_3 : Int) (a0_4 : Int) (a0_5 : Int) (a0_6 : Int) (l0_7 : List (List Int)) (l0_8 : List (List Int)) : Option (Bool) := (credenzalaw08_head.f a0_0 a0_1 a0_2 a0_3 a0_4 a0_5 a0_6).bind fun bt473 => ((credenzaref08_Right.f bt473.1 bt473.2.1 bt473.2.2.1 bt473.2.2.2.1 bt473.2.2.2.2.1 bt473.2.2.2.2.2.1 bt473.2.2.2.2.2.2).bind fun t480 => (if t480 = true then ((credenzalaw08_shaped.f k a0_0 a0_1 a0_2 a0_3 a0_4 a0_5 a0_6 l0_7).bind fun t481 => (if t481 = true then ((credenzalaw08_shaped.f k a0_0 a0_1 a0_2 a0_3 a0_4 a0_5 a0_6 l0_8).bind fun t482 => (credenzalaw08_PageNear.j0 k (!t482) a0_0 a0_1 a0_2 a0_3 a0_4 a0_5 a0_6 l0_7 l0_8)) else (credenzalaw08_PageNear.j0 k true a0_0 a0_1 a0_2 a0_3 a0_4 a0_5 a0_6 l0_7 l0_8))) else (credenzalaw08_PageNear.j0 k true a0_0 a0_1 a0_2 a0_3 a0_4 a0_5 a0_6 l0_7 l0_8)))
theorem credenzalaw08_PageNear.mono_l : ∀ k, (∀ y0 y1 y2 y3 y4 y5 y6 y7 y8 y9, LeO (credenzalaw08_PageNear.j0 k y0 y1 y2 y3 y4 y5 y6 y7 y8 y9) (credenzalaw08_PageNear.j0 (k + 1) y0 y1 y2 y3 y4 y5 y6 y7 y8 y9)) ∧ (∀ y0 y1 y2 y3 y4 y5 y6 y7 y8 y9 y10, LeO (credenzalaw08_PageNear.j1 k y0 y1 y2 y3 y4 y5 y6 y7 y8 y9 y10) (credenzalaw08_PageNear.j1 (k + 1) y0 y1 y2 y3 y4 y5 y6 y7 y8 y9 y10)) ∧ (∀ y0 y1 y2 y3 y4 y5 y6 y7 y8 y9 y10 y11 y12, LeO (credenzalaw08_PageNear.j2 k y0 y1 y2 y3 y4 y5 y6 y7 y8 y9 y10 y11 y12) (credenzalaw08_PageNear.j2 (k + 1) y0 y1 y2 y3 y4 y5 y6 y7 y8 y9 y10 y11 y12)) ∧ (∀ y0 y1 y2 y3 y4 y5 y6 y7 y8 y9 y10 y11 y12 y13, LeO (credenzalaw08_PageNear.l0 k y0 y1 y2 y3 y4 y5 y6 y7 y8 y9 y10 y11 y12 y13) (credenzalaw08_PageNear.l0 (k + 1) y0 y1 y2 y3 y4 y5 y6 y7 y8 y9 y10 y11 y12 y13)) ∧ (∀ y0 y1 y2 y3 y4 y5 y6 y7 y8 y9 y10 y11 y12 y13 y14 y15 y16, LeO (credenzalaw08_PageNear.l1 k y0 y1 y2 y3 y4 y5 y6 y7 y8 y9 y10 y11 y12 y13 y14 y15 y16) (credenzalaw08_PageNear.l1 (k + 1) y0 y1 y2 y3 y4 y5 y6 y7 y8 y9 y10 y11 y12 y13 y14 y15 y16))
 | 0 => ⟨fun _ _ _ _ _ _ _ _ _ _ r h => by simp [credenzalaw08_PageNear.j0] at h, fun _ _ _ _ _ _ _ _ _ _ _ r h => by simp [credenzalaw08_PageNear.j1] at h, fun _ _ _ _ _ _ _ _ _ _ _ _ _ r h => by simp [credenzalaw08_PageNear.j2] at h, fun _ _ _ _ _ _ _ _ _ _ _ _ _ _ r h => by simp [credenzalaw08_PageNear.l0] at h, fun _ _ _ _ _ _ _ _ _ _ _ _ _ _ _ _ _ r h => by simp [credenzalaw08_PageNear.l1] at h⟩
 | k + 1 => by
  obtain ⟨ih0, ih1, ih2, ih3, ih4⟩ := credenzalaw08_PageNear.mono_l k
  refine ⟨?_, ?_, ?_, ?_, ?_⟩
  ·
   intro y0 y1 y2 y3 y4 y5 y6 y7 y8 y9
   unfold credenzalaw08_PageNear.j0
   repeat' first
   | (with_reducible exact ih0 _ _ _ _ _ _ _ _ _ _)
   | (with_reducible exact ih1 _ _ _ _ _ _ _ _ _ _ _)
   | (with_reducible exact ih2 _ _ _ _ _ _ _ _ _ _ _ _ _)
   | (with_reducible exact ih3 _ _ _ _ _ _ _ _ _ _ _ _ _ _)
   | (with_reducible exact ih4 _ _ _ _ _ _ _ _ _ _ _ _ _ _ _ _ _)
   | (with_reducible exact credenzalaw08_awake.mono _)
   | (with_reducible exact credenzalaw08_shaped.mono _ _ _ _ _ _ _ _ _)
   | (with_reducible exact page_Page_KeyGroups.mono _ _)
   | (with_reducible exact page_Page_ValueGroups.mono _ _)
   | (with_reducible exact page_Quantize.mono _ _ _ _ _ _ _ _ _ _)
   | (with_reducible exact LeO.refl _)
   | (with_reducible exact LeO.none _)
   | (with_reducible refine LeO.ite ?_ ?_)
   | (with_reducible refine LeO.bind ?_ (fun _ => ?_))
   | exact ih0 _ _ _ _ _ _ _ _ _ _
   | exact ih1 _ _ _ _ _ _ _ _ _ _ _
   | exact ih2 _ _ _ _ _ _ _ _ _ _ _ _ _
   | exact ih3 _ _ _ _ _ _ _ _ _ _ _ _ _ _
   | exact ih4 _ _ _ _ _ _ _ _ _ _ _ _ _ _ _ _ _
   | exact credenzalaw08_awake.mono _
   | exact credenzalaw08_shaped.mono _ _ _ _ _ _ _ _ _
   | exact page_Page_KeyGroups.mono _ _
   | exact page_Page_ValueGroups.mono _ _
   | exact page_Quantize.mono _ _ _ _ _ _ _ _ _ _
   | exact LeO.none _
   | refine LeO.ite ?_ ?_
   | refine LeO.bind ?_ (fun _ => ?_)
  ·
   intro y0 y1 y2 y3 y4 y5 y6 y7 y8 y9 y10
   unfold credenzalaw08_PageNear.j1
   repeat' first
   | (with_reducible exact ih0 _ _ _ _ _ _ _ _ _ _)
   | (with_reducible exact ih1 _ _ _ _ _ _ _ _ _ _ _)
   | (with_reducible exact ih2 _ _ _ _ _ _ _ _ _ _ _ _ _)
   | (with_reducible exact ih3 _ _ _ _ _ _ _ _ _ _ _ _ _ _)
   | (with_reducible exact ih4 _ _ _ _ _ _ _ _ _ _ _ _ _ _ _ _ _)
   | (with_reducible exact credenzalaw08_awake.mono _)
   | (with_reducible exact credenzalaw08_shaped.mono _ _ _ _ _ _ _ _ _)
   | (with_reducible exact page_Page_KeyGroups.mono _ _)
   | (with_reducible exact page_Page_ValueGroups.mono _ _)
   | (with_reducible exact page_Quantize.mono _ _ _ _ _ _ _ _ _ _)
   | (with_reducible exact LeO.refl _)
   | (with_reducible exact LeO.none _)
   | (with_reducible refine LeO.ite ?_ ?_)
   | (with_reducible refine LeO.bind ?_ (fun _ => ?_))
   | exact ih0 _ _ _ _ _ _ _ _ _ _
   | exact ih1 _ _ _ _ _ _ _ _ _ _ _
   | exact ih2 _ _ _ _ _ _ _ _ _ _ _ _ _
   | exact ih3 _ _ _ _ _ _ _ _ _ _ _ _ _ _
   | exact ih4 _ _ _ _ _ _ _ _ _ _ _ _ _ _ _ _ _
   | exact credenzalaw08_awake.mono _
   | exact credenzalaw08_shaped.mono _ _ _ _ _ _ _ _ _
   | exact page_Page_KeyGroups.mono _ _
   | exact page_Page_ValueGroups.mono _ _
   | exact page_Quantize.mono _ _ _ _ _ _ _ _ _ _
   | exact LeO.none _
   | refine LeO.ite ?_ ?_
   | refine LeO.bind ?_ (fun _ => ?_)
  ·
   intro y0 y1 y2 y3 y4 y5 y6 y7 y8 y9 y10 y11 y12
   unfold credenzalaw08_PageNear.j2
   repeat' first
   | (with_reducible exact ih0 _ _ _ _ _ _ _ _ _ _)
   | (with_reducible exact ih1 _ _ _ _ _ _ _ _ _ _ _)
   | (with_reducible exact ih2 _ _ _ _ _ _ _ _ _ _ _ _ _)
   | (with_reducible exact ih3 _ _ _ _ _ _ _ _ _ _ _ _ _ _)
   | (with_reducible exact ih4 _ _ _ _ _ _ _ _ _ _ _ _ _ _ _ _ _)
   | (with_reducible exact credenzalaw08_awake.mono _)
   | (with_reducible exact credenzalaw08_shaped.mono _ _ _ _ _ _ _ _ _)
   | (with_reducible exact page_Page_KeyGroups.mono _ _)
   | (with_reducible exact page_Page_ValueGroups.mono _ _)
   | (with_reducible exact page_Quantize.mono _ _ _ _ _ _ _ _ _ _)
   | (with_reducible exact LeO.refl _)
   | (with_reducible exact LeO.none _)
   | (with_reducible refine LeO.ite ?_ ?_)
   | (with_reducible refine LeO.bind ?_ (fun _ => ?_))
   | exact ih0 _ _ _ _ _ _ _ _ _ _
   | exact ih1 _ _ _ _ _ _ _ _ _ _ _
   | exact ih2 _ _ _ _ _ _ _ _ _ _ _ _ _
   | exact ih3 _ _ _ _ _ _ _ _ _ _ _ _ _ _
   | exact ih4 _ _ _ _ _ _ _ _ _ _ _ _ _ _ _ _ _
   | exact credenzalaw08_awake.mono _
   | exact credenzalaw08_shaped.mono _ _ _ _ _ _ _ _ _
   | exact page_Page_KeyGroups.mono _ _
   | exact page_Page_ValueGroups.mono _ _
   | exact page_Quantize.mono _ _ _ _ _ _ _ _ _ _
   | exact LeO.none _
   | refine LeO.ite ?_ ?_
   | refine LeO.bind ?_ (fun _ => ?_)
  ·
   intro y0 y1 y2 y3 y4 y5 y6 y7 y8 y9 y10 y11 y12 y13
   unfold credenzalaw08_PageNear.l0
   repeat' first
   | (with_reducible exact ih0 _ _ _ _ _ _ _ _ _ _)
   | (with_reducible exact ih1 _ _ _ _ _ _ _ _ _ _ _)
   | (with_reducible exact ih2 _ _ _ _ _ _ _ _ _ _ _ _ _)
   | (with_reducible exact ih3 _ _ _ _ _ _ _ _ _ _ _ _ _ _)
   | (with_reducible exact ih4 _ _ _ _ _ _ _ _ _ _ _ _ _ _ _ _ _)
   | (with_reducible exact credenzalaw08_awake.mono _)
   | (with_reducible exact credenzalaw08_shaped.mono _ _ _ _ _ _ _ _ _)
   | (with_reducible exact page_Page_KeyGroups.mono _ _)
   | (with_reducible exact page_Page_ValueGroups.mono _ _)
   | (with_reducible exact page_Quantize.mono _ _ _ _ _ _ _ _ _ _)
   | (with_reducible exact LeO.refl _)
   | (with_reducible exact LeO.none _)
   | (with_reducible refine LeO.ite ?_ ?_)
   | (with_reducible refine LeO.bind ?_ (fun _ => ?_))
   | exact ih0 _ _ _ _ _ _ _ _ _ _
   | exact ih1 _ _ _ _ _ _ _ _ _ _ _
   | exact ih2 _ _ _ _ _ _ _ _ _ _ _ _ _
   | exact ih3 _ _ _ _ _ _ _ _ _ _ _ _ _ _
   | exact ih4 _ _ _ _ _ _ _ _ _ _ _ _ _ _ _ _ _
   | exact credenzalaw08_awake.mono _
   | exact credenzalaw08_shaped.mono _ _ _ _ _ _ _ _ _
   | exact page_Page_KeyGroups.mono _ _
   | exact page_Page_ValueGroups.mono _ _
   | exact page_Quantize.mono _ _ _ _ _ _ _ _ _ _
   | exact LeO.none _
   | refine LeO.ite ?_ ?_
   | refine LeO.bind ?_ (fun _ => ?_)
  ·
   intro y0 y1 y2 y3 y4 y5 y6 y7 y8 y9 y10 y11 y12 y13 y14 y15 y16
   unfold credenzalaw08_PageNear.l1
   repeat' first
   | (with_reducible exact ih0 _ _ _ _ _ _ _ _ _ _)
   | (with_reducible exact ih1 _ _ _ _ _ _ _ _ _ _ _)
   | (with_reducible exact ih2 _ _ _ _ _ _ _ _ _ _ _ _ _)
   | (with_reducible exact ih3 _ _ _ _ _ _ _ _ _ _ _ _ _ _)
   | (with_reducible exact ih4 _ _ _ _ _ _ _ _ _ _ _ _ _ _ _ _ _)
   | (with_reducible exact credenzalaw08_awake.mono _)
   | (with_reducible exact credenzalaw08_shaped.mono _ _ _ _ _ _ _ _ _)
   | (with_reducible exact page_Page_KeyGroups.mono _ _)
   | (with_reducible exact page_Page_ValueGroups.mono _ _)
   | (with_reducible exact page_Quantize.mono _ _ _ _ _ _ _ _ _ _)
   | (with_reducible exact LeO.refl _)
   | (with_reducible exact LeO.none _)
   | (with_reducible refine LeO.ite ?_ ?_)
   | (with_reducible refine LeO.bind ?_ (fun _ => ?_))
   | exact ih0 _ _ _ _ _ _ _ _ _ _
   | exact ih1 _ _ _ _ _ _ _ _ _ _ _
   | exact ih2 _ _ _ _ _ _ _ _ _ _ _ _ _
   | exact ih3 _ _ _ _ _ _ _ _ _ _ _ _ _ _
   | exact ih4 _ _ _ _ _ _ _ _ _ _ _ _ _ _ _ _ _
   | exact credenzalaw08_awake.mono _
   | exact credenzalaw08_shaped.mono _ _ _ _ _ _ _ _ _
   | exact page_Page_KeyGroups.mono _ _
   | exact page_Page_ValueGroups.mono _ _
   | exact page_Quantize.mono _ _ _ _ _ _ _ _ _ _
   | exact LeO.none _
   | refine LeO.ite ?_ ?_
   | refine LeO.bind ?_ (fun _ => ?_)
theorem credenzalaw08_PageNear.mono : ∀ a0 a1 a2 a3 a4 a5 a6 a7 a8 k, LeO (credenzalaw08_PageNear.f k a0 a1 a2 a3 a4 a5 a6 a7 a8) (credenzalaw08_PageNear.f (k + 1) a0 a1 a2 a3 a4 a5 a6 a7 a8) := by
 intro a0 a1 a2 a3 a4 a5 a6 a7 a8 k
 obtain ⟨ih0, ih1, ih2, ih3, ih4⟩ := credenzalaw08_PageNear.mono_l k
 unfold credenzalaw08_PageNear.f
 repeat' first
   | (with_reducible exact ih0 _ _ _ _ _ _ _ _ _ _)
   | (with_reducible exact ih1 _ _ _ _ _ _ _ _ _ _ _)
   | (with_reducible exact ih2 _ _ _ _ _ _ _ _ _ _ _ _ _)
   | (with_reducible exact ih3 _ _ _ _ _ _ _ _ _ _ _ _ _ _)
   | (with_reducible exact ih4 _ _ _ _ _ _ _ _ _ _ _ _ _ _ _ _ _)
   | (with_reducible exact credenzalaw08_awake.mono _)
   | (with_reducible exact credenzalaw08_shaped.mono _ _ _ _ _ _ _ _ _)
   | (with_reducible exact page_Page_KeyGroups.mono _ _)
   | (with_reducible exact page_Page_ValueGroups.mono _ _)
   | (with_reducible exact page_Quantize.mono _ _ _ _ _ _ _ _ _ _)
   | (with_reducible exact LeO.refl _)
   | (with_reducible exact LeO.none _)
   | (with_reducible refine LeO.ite ?_ ?_)
   | (with_reducible refine LeO.bind ?_ (fun _ => ?_))
   | exact ih0 _ _ _ _ _ _ _ _ _ _
   | exact ih1 _ _ _ _ _ _ _ _ _ _ _
   | exact ih2 _ _ _ _ _ _ _ _ _ _ _ _ _
   | exact ih3 _ _ _ _ _ _ _ _ _ _ _ _ _ _
   | exact ih4 _ _ _ _ _ _ _ _ _ _ _ _ _ _ _ _ _
   | exact credenzalaw08_awake.mono _
   | exact credenzalaw08_shaped.mono _ _ _ _ _ _ _ _ _
   | exact page_Page_KeyGroups.mono _ _
   | exact page_Page_ValueGroups.mono _ _
   | exact page_Quantize.mono _ _ _ _ _ _ _ _ _ _
   | exact LeO.none _
   | refine LeO.ite ?_ ?_
   | refine LeO.bind ?_ (fun _ => ?_)
def credenzalaw08_PageNear.T15 : Bool × List (List Nat × List Nat) := (true, [([], []), ([], []), ([], []), ([0, 1, 2], [0, 1, 2]), ([3], [3]), ([], []), ([5], [5]), ([], []), ([6, 7], [6, 7]), ([8], [8]), ([], []), ([9, 10], [9, 10]), ([11], [11]), ([12], [12]), ([4, 13], [4, 13]), ([14], [14]), ([15, 3, 0, 1, 2, 3, 4, 5, 6, 7, 8, 9, 10, 11, 12, 13, 14, 15], [15])])
def credenzalaw08_PageNear.B15 : List Nat := [0, 0, 0, 7, 15, 0, 32, 0, 224, 480, 0, 2016, 4064, 8160, 16383, 32767, 65535]
theorem credenzalaw08_PageNear.tab15 : rtab .any (opsOf Try.f4 15) = credenzalaw08_PageNear.T15 := by kernel_rfl
theorem credenzalaw08_PageNear.bits15 : waitsOk credenzalaw08_PageNear.T15.2 credenzalaw08_PageNear.B15 = true := by kernel_rfl
def credenzalaw08_PageNear.T16 : Bool × List (List Nat × List Nat) := (true, [([], []), ([], []), ([], []), ([0, 1, 2], [0, 1, 2]), ([3], [3]), ([], []), ([5], [5]), ([], []), ([6, 7], [6, 7]), ([8], [8]), ([], []), ([9, 10], [9, 10]), ([11], [11]), ([12], [12]), ([4, 13], [4, 13]), ([14], [14]), ([15, 3, 0, 1, 2, 3, 4, 5, 6, 7, 8, 9, 10, 11, 12, 13, 14, 15], [15])])
def credenzalaw08_PageNear.B16 : List Nat := [0, 0, 0, 7, 15, 0, 32, 0, 224, 480, 0, 2016, 4064, 8160, 16383, 32767, 65535]
theorem credenzalaw08_PageNear.tab16 : rtab .any (opsOf Try.f4 16) = credenzalaw08_PageNear.T16 := by kernel_rfl
theorem credenzalaw08_PageNear.bits16 : waitsOk credenzalaw08_PageNear.T16.2 credenzalaw08_PageNear.B16 = true := by kernel_rfl
set_option maxHeartbeats 8000000 in
set_option maxRecDepth 100000 in
theorem credenzalaw08_PageNear.calls (k : Nat) (a0_0 : Int) (a0_1 : Int) (a0_2 : Int) (a0_3 : Int) (a0_4 : Int) (a0_5 : Int) (a0_6 : Int) (A0_7 : Option Addr) (c0_7 : Nat) (l0_7 : List (List Int)) (A0_8 : Option Addr) (c0_8 : Nat) (l0_8 : List (List Int)) (r : Bool) (w : World) (hr0_7 : Kd.C (Kd.slice 21 (Kd.int .i32)) w A0_7 l0_7.length l0_7) (hc0_7 : l0_7.length ≤ c0_7) (hr0_8 : Kd.C (Kd.slice 21 (Kd.int .i32)) w A0_8 l0_8.length l0_8) (hc0_8 : l0_8.length ≤ c0_8) (h : credenzalaw08_PageNear.f k a0_0 a0_1 a0_2 a0_3 a0_4 a0_5 a0_6 l0_7 l0_8 = some r) :
  Calls Try.prog 4 #[.agg #[.int .i64 a0_0, .int .i64 a0_1, .int .i64 a0_2, .int .i64 a0_3, .int .i64 a0_4, .int .i64 a0_5, .int .i64 a0_6, .slice A0_7 l0_7.length c0_7, .slice A0_8 l0_8.length c0_8]] w fun e w' => e = .returned (.bool r) ∧ Below w.heap.size w w' := by
 have hu26 := Try.underlying26
 have hu23 := Try.underlying23
 have HR0_7 := Aside0.mk hr0_7
 have HC0_7 := Aside0.mk hc0_7
 clear hr0_7 hc0_7
 have HR0_8 := Aside0.mk hr0_8
 have HC0_8 := Aside0.mk hc0_8
 clear hr0_8 hc0_8
 have HB := Aside0.mk (Below.refl w.heap.size w)
 have H : ((credenzalaw08_head.f a0_0 a0_1 a0_2 a0_3 a0_4 a0_5 a0_6).bind fun bt473 => ((credenzaref08_Right.f bt473.1 bt473.2.1 bt473.2.2.1 bt473.2.2.2.1 bt473.2.2.2.2.1 bt473.2.2.2.2.2.1 bt473.2.2.2.2.2.2).bind fun t480 => (if t480 = true then ((credenzalaw08_shaped.f k a0_0 a0_1 a0_2 a0_3 a0_4 a0_5 a0_6 l0_7).bind fun t481 => (if t481 = true then ((credenzalaw08_shaped.f k a0_0 a0_1 a0_2 a0_3 a0_4 a0_5 a0_6 l0_8).bind fun t482 => (credenzalaw08_PageNear.j0 k (!t482) a0_0 a0_1 a0_2 a0_3 a0_4 a0_5 a0_6 l0_7 l0_8)) else (credenzalaw08_PageNear.j0 k true a0_0 a0_1 a0_2 a0_3 a0_4 a0_5 a0_6 l0_7 l0_8))) else (credenzalaw08_PageNear.j0 k true a0_0 a0_1 a0_2 a0_3 a0_4 a0_5 a0_6 l0_7 l0_8)))) = some r := h
 clear h
 have HC2 := Aside0.mk H
 clear H
 go_enter Try.func4, Try.ntmps4
 go_upto_region 1 with (first | ((with_reducible refine gate_dst (N := 1) rfl ?_); (try (refine gate_guard (by rfl) ?_; dsimp only)); refine box_event ?hg (N := 1) ?hd (cs := #[.int .i64 a0_0, .int .i64 a0_1, .int .i64 a0_2, .int .i64 a0_3, .int .i64 a0_4, .int .i64 a0_5, .int .i64 a0_6, .slice A0_7 l0_7.length c0_7, .slice A0_8 l0_8.length c0_8]) (t := 26) ?hr ?_; (case hd => rfl); (case hg => rfl); (case hr => first | (go_simp; done) | (go_simp; rfl)); intro gb472 hg w3 hbox hb; have n0_ := Aside0.mk (below_step (by with_reducible exact HB.out) hb); have n1_ := Aside0.mk (hbox); have n2_ := Aside0.mk ((by rw [hg]; exact (below_size (by with_reducible exact HB.out)) : w.heap.size ≤ gb472)); have n3_ := Aside0.mk ((by rw [hg]; exact (below_size (by with_reducible exact HB.out)) : w.heap.size ≤ gb472)); clear HB; have HB := n0_; have BK472 := n1_; have GW472 := n2_; have GE472 := n3_; clear n0_ n1_ n2_ n3_; clear hb hbox hg))
 (try simp only [Act.put, List.setIfInBounds_toArray, List.set_cons_zero, List.set_cons_succ])
 go_cut [31] (fun v31 wc => ∃ (kq : Nat) (x31_1 : Bool), v31 = .bool x31_1 ∧ Aside0 (credenzalaw08_PageNear.j0 kq x31_1 a0_0 a0_1 a0_2 a0_3 a0_4 a0_5 a0_6 l0_7 l0_8 = some r) ∧ Aside0 (kq ≤ k) ∧ Aside0 (wc.heap[gb472]? = some (.cells #[.int .i64 a0_0, .int .i64 a0_1, .int .i64 a0_2, .int .i64 a0_3, .int .i64 a0_4, .int .i64 a0_5, .int .i64 a0_6, (.slice A0_7 l0_7.length c0_7), (.slice A0_8 l0_8.length c0_8)] 26 (0, 0))) ∧ Aside0 (Below w.heap.size w wc))
 case first =>
  have H := HC2.out
  clear HC2
  replace H := Option.bind_eq_some_iff.mp H
  obtain ⟨⟨t473, t474, t475, t476, t477, t478, t479⟩, A40, H⟩ := H
  replace H : ((credenzaref08_Right.f t473 t474 t475 t476 t477 t478 t479).bind fun t480 => (if t480 = true then ((credenzalaw08_shaped.f k a0_0 a0_1 a0_2 a0_3 a0_4 a0_5 a0_6 l0_7).bind fun t481 => (if t481 = true then ((credenzalaw08_shaped.f k a0_0 a0_1 a0_2 a0_3 a0_4 a0_5 a0_6 l0_8).bind fun t482 => (credenzalaw08_PageNear.j0 k (!t482) a0_0 a0_1 a0_2 a0_3 a0_4 a0_5 a0_6 l0_7 l0_8)) else (credenzalaw08_PageNear.j0 k true a0_0 a0_1 a0_2 a0_3 a0_4 a0_5 a0_6 l0_7 l0_8))) else (credenzalaw08_PageNear.j0 k true a0_0 a0_1 a0_2 a0_3 a0_4 a0_5 a0_6 l0_7 l0_8))) = some r := H
  have A4 := Aside0.mk A40
  clear A40
  replace H := Option.bind_eq_some_iff.mp H
  obtain ⟨t480, A50, H⟩ := H
  replace H : (if t480 = true then ((credenzalaw08_shaped.f k a0_0 a0_1 a0_2 a0_3 a0_4 a0_5 a0_6 l0_7).bind fun t481 => (if t481 = true then ((credenzalaw08_shaped.f k a0_0 a0_1 a0_2 a0_3 a0_4 a0_5 a0_6 l0_8).bind fun t482 => (credenzalaw08_PageNear.j0 k (!t482) a0_0 a0_1 a0_2 a0_3 a0_4 a0_5 a0_6 l0_7 l0_8)) else (credenzalaw08_PageNear.j0 k true a0_0 a0_1 a0_2 a0_3 a0_4 a0_5 a0_6 l0_7 l0_8))) else (credenzalaw08_PageNear.j0 k true a0_0 a0_1 a0_2 a0_3 a0_4 a0_5 a0_6 l0_7 l0_8)) = some r := H
  have A5 := Aside0.mk A50
  clear A50
  by_cases c6 : t480 = true
  ·
   subst c6
   have H1 : ((credenzalaw08_shaped.f k a0_0 a0_1 a0_2 a0_3 a0_4 a0_5 a0_6 l0_7).bind fun t481 => (if t481 = true then ((credenzalaw08_shaped.f k a0_0 a0_1 a0_2 a0_3 a0_4 a0_5 a0_6 l0_8).bind fun t482 => (credenzalaw08_PageNear.j0 k (!t482) a0_0 a0_1 a0_2 a0_3 a0_4 a0_5 a0_6 l0_7 l0_8)) else (credenzalaw08_PageNear.j0 k true a0_0 a0_1 a0_2 a0_3 a0_4 a0_5 a0_6 l0_7 l0_8))) = some r := by rw [if_pos rfl] at H; exact H
   clear H
   have H := H1
   clear H1
   replace H := Option.bind_eq_some_iff.mp H
   obtain ⟨t481, A70, H⟩ := H
   replace H : (if t481 = true then ((credenzalaw08_shaped.f k a0_0 a0_1 a0_2 a0_3 a0_4 a0_5 a0_6 l0_8).bind fun t482 => (credenzalaw08_PageNear.j0 k (!t482) a0_0 a0_1 a0_2 a0_3 a0_4 a0_5 a0_6 l0_7 l0_8)) else (credenzalaw08_PageNear.j0 k true a0_0 a0_1 a0_2 a0_3 a0_4 a0_5 a0_6 l0_7 l0_8)) = some r := H
   have A7 := Aside0.mk A70
   clear A70
   by_cases c8 : t481 = true
   ·
    subst c8
    have H1 : ((credenzalaw08_shaped.f k a0_0 a0_1 a0_2 a0_3 a0_4 a0_5 a0_6 l0_8).bind fun t482 => (credenzalaw08_PageNear.j0 k (!t482) a0_0 a0_1 a0_2 a0_3 a0_4 a0_5 a0_6 l0_7 l0_8)) = some r := by rw [if_pos rfl] at H; exact H
    clear H
    have H := H1
    clear H1
    replace H := Option.bind_eq_some_iff.mp H
    obtain ⟨t482, A90, H⟩ := H
    replace H : (credenzalaw08_PageNear.j0 k (!t482) a0_0 a0_1 a0_2 a0_3 a0_4 a0_5 a0_6 l0_7 l0_8) = some r := H
    have A9 := Aside0.mk A90
    clear A90
    have H' := Aside0.mk H
    clear H
    have hz10 := bx9 BK472.out
    go_wp2_with (first | ((with_reducible refine gate_callee (f := 10) rfl ?_); refine goesL_ (some 13) rfl rfl Try.func10 (by kernel_rfl) rfl #[.agg #[.int .i64 a0_0, .int .i64 a0_1, .int .i64 a0_2, .int .i64 a0_3, .int .i64 a0_4, .int .i64 a0_5, .int .i64 a0_6]] rfl (by (try simp only [List.map_toArray, List.map_cons, List.map_nil]); first | done | rfl | (simp only [List.length_drop, List.length_take]; rfl)) ?_; (with_reducible refine (credenzalaw08_head.calls a0_0 a0_1 a0_2 a0_3 a0_4 a0_5 a0_6 t473 t474 t475 t476 t477 t478 t479 _ A4.out).mono ?_); rintro e w11 ⟨rfl, hb⟩; refine ⟨_, rfl, ?_⟩; replace BK472 := Aside0.mk (blk_below (g := gb472) (o := .cells #[.int .i64 a0_0, .int .i64 a0_1, .int .i64 a0_2, .int .i64 a0_3, .int .i64 a0_4, .int .i64 a0_5, .int .i64 a0_6, .slice A0_7 l0_7.length c0_7, .slice A0_8 l0_8.length c0_8] 26 (0, 0)) (by exact BK472.out) hb); replace HB := Aside0.mk (below_step (by with_reducible exact HB.out) hb); clear hb) | ((with_reducible refine gate_callee (f := 9) rfl ?_); refine goesL_ (some 14) rfl rfl Try.func9 (by kernel_rfl) rfl #[.agg #[.int .i64 t473, .int .i64 t474, .int .i64 t475, .int .i64 t476, .int .i64 t477, .int .i64 t478, .int .i64 t479]] rfl (by (try simp only [List.map_toArray, List.map_cons, List.map_nil]); first | done | rfl | (simp only [List.length_drop, List.length_take]; rfl)) ?_; (with_reducible refine (credenzaref08_Right.calls t473 t474 t475 t476 t477 t478 t479 true _ A5.out).mono ?_); rintro e w12 ⟨rfl, hb⟩; refine ⟨_, rfl, ?_⟩; replace BK472 := Aside0.mk (blk_below (g := gb472) (o := .cells #[.int .i64 a0_0, .int .i64 a0_1, .int .i64 a0_2, .int .i64 a0_3, .int .i64 a0_4, .int .i64 a0_5, .int .i64 a0_6, .slice A0_7 l0_7.length c0_7, .slice A0_8 l0_8.length c0_8] 26 (0, 0)) (by exact BK472.out) hb); replace HB := Aside0.mk (below_step (by with_reducible exact HB.out) hb); clear hb; have hz13 := bx9 BK472.out) | (go_at_call 11; (with_reducible refine (credenzalaw08_shaped.calls k a0_0 a0_1 a0_2 a0_3 a0_4 a0_5 a0_6 _ _ l0_7 true _ ?side1 ?side2 A7.out).mono ?_); (case side1 => with_reducible exact (Kd.C_below HR0_7.out HB.out)); (case side2 => exact HC0_7.out); rintro e w14 ⟨rfl, hb⟩; replace BK472 := Aside0.mk (blk_below (g := gb472) (o := .cells #[.int .i64 a0_0, .int .i64 a0_1, .int .i64 a0_2, .int .i64 a0_3, .int .i64 a0_4, .int .i64 a0_5, .int .i64 a0_6, .slice A0_7 l0_7.length c0_7, .slice A0_8 l0_8.length c0_8] 26 (0, 0)) (by exact BK472.out) hb); replace HB := Aside0.mk (below_step (by with_reducible exact HB.out) hb); clear hb; have hz15 := bx9 BK472.out) | (go_at_call 11; (with_reducible refine (credenzalaw08_shaped.calls k a0_0 a0_1 a0_2 a0_3 a0_4 a0_5 a0_6 _ _ l0_8 t482 _ ?side1 ?side2 A9.out).mono ?_); (case side1 => with_reducible exact (Kd.C_below HR0_8.out HB.out)); (case side2 => exact HC0_8.out); rintro e w16 ⟨rfl, hb⟩; replace BK472 := Aside0.mk (blk_below (g := gb472) (o := .cells #[.int .i64 a0_0, .int .i64 a0_1, .int .i64 a0_2, .int .i64 a0_3, .int .i64 a0_4, .int .i64 a0_5, .int .i64 a0_6, .slice A0_7 l0_7.length c0_7, .slice A0_8 l0_8.length c0_8] 26 (0, 0)) (by exact BK472.out) hb); replace HB := Aside0.mk (below_step (by with_reducible exact HB.out) hb); clear hb))
    go_meet
    case rel => exact ⟨_, (!t482), (by first | rfl | (simp; done) | (simp [*]; done)), H', ⟨by first | omega | exact Nat.le_refl _⟩, ⟨by exact BK472.out⟩, ⟨by with_reducible exact HB.out⟩⟩
   ·
    replace c8 := Bool.eq_false_iff.mpr c8
    subst c8
    have H1 : (credenzalaw08_PageNear.j0 k true a0_0 a0_1 a0_2 a0_3 a0_4 a0_5 a0_6 l0_7 l0_8) = some r := by rw [if_neg (show ¬ (false = true) by decide)] at H; exact H
    clear H
    have H := H1
    clear H1
    have H' := Aside0.mk H
    clear H
    have hz17 := bx9 BK472.out
    go_wp2_with (first | ((with_reducible refine gate_callee (f := 10) rfl ?_); refine goesL_ (some 13) rfl rfl Try.func10 (by kernel_rfl) rfl #[.agg #[.int .i64 a0_0, .int .i64 a0_1, .int .i64 a0_2, .int .i64 a0_3, .int .i64 a0_4, .int .i64 a0_5, .int .i64 a0_6]] rfl (by (try simp only [List.map_toArray, List.map_cons, List.map_nil]); first | done | rfl | (simp only [List.length_drop, List.length_take]; rfl)) ?_; (with_reducible refine (credenzalaw08_head.calls a0_0 a0_1 a0_2 a0_3 a0_4 a0_5 a0_6 t473 t474 t475 t476 t477 t478 t479 _ A4.out).mono ?_); rintro e w18 ⟨rfl, hb⟩; refine ⟨_, rfl, ?_⟩; replace BK472 := Aside0.mk (blk_below (g := gb472) (o := .cells #[.int .i64 a0_0, .int .i64 a0_1, .int .i64 a0_2, .int .i64 a0_3, .int .i64 a0_4, .int .i64 a0_5, .int .i64 a0_6, .slice A0_7 l0_7.length c0_7, .slice A0_8 l0_8.length c0_8] 26 (0, 0)) (by exact BK472.out) hb); replace HB := Aside0.mk (below_step (by with_reducible exact HB.out) hb); clear hb) | ((with_reducible refine gate_callee (f := 9) rfl ?_); refine goesL_ (some 14) rfl rfl Try.func9 (by kernel_rfl) rfl #[.agg #[.int .i64 t473, .int .i64 t474, .int .i64 t475, .int .i64 t476, .int .i64 t477, .int .i64 t478, .int .i64 t479]] rfl (by (try simp only [List.map_toArray, List.map_cons, List.map_nil]); first | done | rfl | (simp only [List.length_drop, List.length_take]; rfl)) ?_; (with_reducible refine (credenzaref08_Right.calls t473 t474 t475 t476 t477 t478 t479 true _ A5.out).mono ?_); rintro e w19 ⟨rfl, hb⟩; refine ⟨_, rfl, ?_⟩; replace BK472 := Aside0.mk (blk_below (g := gb472) (o := .cells #[.int .i64 a0_0, .int .i64 a0_1, .int .i64 a0_2, .int .i64 a0_3, .int .i64 a0_4, .int .i64 a0_5, .int .i64 a0_6, .slice A0_7 l0_7.length c0_7, .slice A0_8 l0_8.length c0_8] 26 (0, 0)) (by exact BK472.out) hb); replace HB := Aside0.mk (below_step (by with_reducible exact HB.out) hb); clear hb; have hz20 := bx9 BK472.out) | (go_at_call 11; (with_reducible refine (credenzalaw08_shaped.calls k a0_0 a0_1 a0_2 a0_3 a0_4 a0_5 a0_6 _ _ l0_7 false _ ?side1 ?side2 A7.out).mono ?_); (case side1 => with_reducible exact (Kd.C_below HR0_7.out HB.out)); (case side2 => exact HC0_7.out); rintro e w21 ⟨rfl, hb⟩; replace BK472 := Aside0.mk (blk_below (g := gb472) (o := .cells #[.int .i64 a0_0, .int .i64 a0_1, .int .i64 a0_2, .int .i64 a0_3, .int .i64 a0_4, .int .i64 a0_5, .int .i64 a0_6, .slice A0_7 l0_7.length c0_7, .slice A0_8 l0_8.length c0_8] 26 (0, 0)) (by exact BK472.out) hb); replace HB := Aside0.mk (below_step (by with_reducible exact HB.out) hb); clear hb))
    go_meet
    case rel => exact ⟨_, (true), (by first | rfl | (simp; done) | (simp [*]; done)), H', ⟨by first | omega | exact Nat.le_refl _⟩, ⟨by exact BK472.out⟩, ⟨by with_reducible exact HB.out⟩⟩
  ·
   replace c6 := Bool.eq_false_iff.mpr c6
   subst c6
   have H1 : (credenzalaw08_PageNear.j0 k true a0_0 a0_1 a0_2 a0_3 a0_4 a0_5 a0_6 l0_7 l0_8) = some r := by rw [if_neg (show ¬ (false = true) by decide)] at H; exact H
   clear H
   have H := H1
   clear H1
   have H' := Aside0.mk H
   clear H
   have hz22 := bx9 BK472.out
   go_wp2_with (first | ((with_reducible refine gate_callee (f := 10) rfl ?_); refine goesL_ (some 13) rfl rfl Try.func10 (by kernel_rfl) rfl #[.agg #[.int .i64 a0_0, .int .i64 a0_1, .int .i64 a0_2, .int .i64 a0_3, .int .i64 a0_4, .int .i64 a0_5, .int .i64 a0_6]] rfl (by (try simp only [List.map_toArray, List.map_cons, List.map_nil]); first | done | rfl | (simp only [List.length_drop, List.length_take]; rfl)) ?_; (with_reducible refine (credenzalaw08_head.calls a0_0 a0_1 a0_2 a0_3 a0_4 a0_5 a0_6 t473 t474 t475 t476 t477 t478 t479 _ A4.out).mono ?_); rintro e w23 ⟨rfl, hb⟩; refine ⟨_, rfl, ?_⟩; replace BK472 := Aside0.mk (blk_below (g := gb472) (o := .cells #[.int .i64 a0_0, .int .i64 a0_1, .int .i64 a0_2, .int .i64 a0_3, .int .i64 a0_4, .int .i64 a0_5, .int .i64 a0_6, .slice A0_7 l0_7.length c0_7, .slice A0_8 l0_8.length c0_8] 26 (0, 0)) (by exact BK472.out) hb); replace HB := Aside0.mk (below_step (by with_reducible exact HB.out) hb); clear hb) | ((with_reducible refine gate_callee (f := 9) rfl ?_); refine goesL_ (some 14) rfl rfl Try.func9 (by kernel_rfl) rfl #[.agg #[.int .i64 t473, .int .i64 t474, .int .i64 t475, .int .i64 t476, .int .i64 t477, .int .i64 t478, .int .i64 t479]] rfl (by (try simp only [List.map_toArray, List.map_cons, List.map_nil]); first | done | rfl | (simp only [List.length_drop, List.length_take]; rfl)) ?_; (with_reducible refine (credenzaref08_Right.calls t473 t474 t475 t476 t477 t478 t479 false _ A5.out).mono ?_); rintro e w24 ⟨rfl, hb⟩; refine ⟨_, rfl, ?_⟩; replace BK472 := Aside0.mk (blk_below (g := gb472) (o := .cells #[.int .i64 a0_0, .int .i64 a0_1, .int .i64 a0_2, .int .i64 a0_3, .int .i64 a0_4, .int .i64 a0_5, .int .i64 a0_6, .slice A0_7 l0_7.length c0_7, .slice A0_8 l0_8.length c0_8] 26 (0, 0)) (by exact BK472.out) hb); replace HB := Aside0.mk (below_step (by with_reducible exact HB.out) hb); clear hb))
   go_meet
   case rel => exact ⟨_, (true), (by first | rfl | (simp; done) | (simp [*]; done)), H', ⟨by first | omega | exact Nat.le_refl _⟩, ⟨by exact BK472.out⟩, ⟨by with_reducible exact HB.out⟩⟩
 case rest =>
  clear HC2
  try clear c1
  try clear p2
  try clear c4
  try clear c6
  try clear c8
  try clear c9
  try clear c10
  try clear hz10
  try clear hz13
  try clear hz15
  try clear hz17
  try clear hz20
  try clear hz22
  obtain ⟨kq, x31_1, rfl, HA, HJ1, BK472, HB⟩ := hcut
  cases kq with
  | zero => exact absurd HA.out (by simp [credenzalaw08_PageNear.j0])
  | succ kj1 =>
   have H := HA.out
   clear HA
   simp only [credenzalaw08_PageNear.j0] at H
   by_cases c25 : x31_1 = true
   ·
    subst c25
    have H1 : ((credenzalaw08_awake.f kj1).bind fun t483 => (some t483)) = some r := by rw [if_pos rfl] at H; exact H
    clear H
    have H := H1
    clear H1
    replace H := Option.bind_eq_some_iff.mp H
    obtain ⟨t483, A260, H⟩ := H
    replace H : (some t483) = some r := H
    have A26 := Aside0.mk A260
    clear A260
    obtain rfl := Option.some.inj H
    go_wp2_with (first | ((with_reducible refine gate_callee (f := 12) rfl ?_); refine goesL_ (some 32) rfl rfl Try.func12 (by kernel_rfl) rfl #[] rfl (by (try simp only [List.map_toArray, List.map_cons, List.map_nil]); first | done | rfl | (simp only [List.length_drop, List.length_take]; rfl)) ?_; (with_reducible refine (credenzalaw08_awake.calls kj1  t483 _ A26.out).mono ?_); rintro e w27 ⟨rfl, hb⟩; refine ⟨_, rfl, ?_⟩; replace BK472 := Aside0.mk (blk_below (g := gb472) (o := .cells #[.int .i64 a0_0, .int .i64 a0_1, .int .i64 a0_2, .int .i64 a0_3, .int .i64 a0_4, .int .i64 a0_5, .int .i64 a0_6, .slice A0_7 l0_7.length c0_7, .slice A0_8 l0_8.length c0_8] 26 (0, 0)) (by exact BK472.out) hb); replace HB := Aside0.mk (below_step (by with_reducible exact HB.out) hb); clear hb))
    go_ret
    exact ⟨by first | rfl | (simp [errW_none, errW_some] <;> rfl) | (simp [*, errW_none, errW_some] <;> rfl), by with_reducible exact HB.out⟩
   ·
    replace c25 := Bool.eq_false_iff.mpr c25
    subst c25
    have H1 : ((page_Quantize.f kj1 a0_0 a0_1 a0_2 a0_3 a0_4 a0_5 a0_6 l0_7 l0_8).bind fun bt484 => (if bt484.2 = 0 then (credenzalaw08_PageNear.j1 kj1 bt484.1 ((bt484.1.length : Int) == 0) a0_0 a0_1 a0_2 a0_3 a0_4 a0_5 a0_6 l0_7 l0_8) else (credenzalaw08_PageNear.j1 kj1 bt484.1 true a0_0 a0_1 a0_2 a0_3 a0_4 a0_5 a0_6 l0_7 l0_8))) = some r := by rw [if_neg (show ¬ (false = true) by decide)] at H; exact H
    clear H
    have H := H1
    clear H1
    replace H := Option.bind_eq_some_iff.mp H
    obtain ⟨⟨t484, t487⟩, A280, H⟩ := H
    replace H : (if t487 = 0 then (credenzalaw08_PageNear.j1 kj1 t484 ((t484.length : Int) == 0) a0_0 a0_1 a0_2 a0_3 a0_4 a0_5 a0_6 l0_7 l0_8) else (credenzalaw08_PageNear.j1 kj1 t484 true a0_0 a0_1 a0_2 a0_3 a0_4 a0_5 a0_6 l0_7 l0_8)) = some r := H
    have A28 := Aside0.mk A280
    clear A280
    have HC29 := Aside0.mk H
    clear H
    have hz30 := bx9 BK472.out
    go_upto_region 4 with (first | ((with_reducible refine gate_callee (f := 13) rfl ?_); refine goesL_ (some 40) rfl rfl Try.func13 (by kernel_rfl) rfl #[.agg #[.int .i64 a0_0, .int .i64 a0_1, .int .i64 a0_2, .int .i64 a0_3, .int .i64 a0_4, .int .i64 a0_5, .int .i64 a0_6], .slice A0_7 l0_7.length c0_7, .slice A0_8 l0_8.length c0_8] rfl (by (try simp only [List.map_toArray, List.map_cons, List.map_nil]); first | done | rfl | (simp only [List.length_drop, List.length_take]; rfl)) ?_; (with_reducible refine (page_Quantize.calls kj1 a0_0 a0_1 a0_2 a0_3 a0_4 a0_5 a0_6 _ _ l0_7 _ _ l0_8 t484 t487 _ ?side1 ?side2 ?side3 ?side4 A28.out).mono ?_); (case side1 => with_reducible exact (Kd.C_below HR0_7.out HB.out)); (case side2 => exact HC0_7.out); (case side3 => with_reducible exact (Kd.C_below HR0_8.out HB.out)); (case side4 => exact HC0_8.out); rintro e w31 ⟨v485, rfl, ho0, hb⟩; refine ⟨_, rfl, ?_⟩; have n0_ := Aside0.mk (Kd.R_lower ho0 (below_size (by with_reducible exact HB.out))); have n1_ := Aside0.mk (blk_below (g := gb472) (o := .cells #[.int .i64 a0_0, .int .i64 a0_1, .int .i64 a0_2, .int .i64 a0_3, .int .i64 a0_4, .int .i64 a0_5, .int .i64 a0_6, .slice A0_7 l0_7.length c0_7, .slice A0_8 l0_8.length c0_8] 26 (0, 0)) (by exact BK472.out) hb); have n2_ := Aside0.mk (below_step (by with_reducible exact HB.out) hb); clear BK472; clear HB; have HO486 := n0_; have BK472 := n1_; have HB := n2_; clear n0_ n1_ n2_; (try clear hb); (try clear hb2); (try clear hk); (try clear hi); (try clear ho0)))
    (try simp only [Act.put, List.setIfInBounds_toArray, List.set_cons_zero, List.set_cons_succ])
    go_cut [48] (fun v48 wc => ∃ (kq : Nat) (x48_28 : Bool), v48 = .bool x48_28 ∧ Aside0 (credenzalaw08_PageNear.j1 kq t484 x48_28 a0_0 a0_1 a0_2 a0_3 a0_4 a0_5 a0_6 l0_7 l0_8 = some r) ∧ Aside0 (kq ≤ kj1) ∧ Aside0 (Kd.R k75 75 wc w.heap.size (fun _ => True) v485 t484) ∧ Aside0 (wc.heap[gb472]? = some (.cells #[.int .i64 a0_0, .int .i64 a0_1, .int .i64 a0_2, .int .i64 a0_3, .int .i64 a0_4, .int .i64 a0_5, .int .i64 a0_6, (.slice A0_7 l0_7.length c0_7), (.slice A0_8 l0_8.length c0_8)] 26 (0, 0))) ∧ Aside0 (Below w.heap.size w wc))
    case first =>
     have H := HC29.out
     clear HC29
     by_cases c32 : t487 = 0
     ·
      rw [if_pos c32] at H
      have c32b0 : (t487 == 0) = true := beq_iff_eq.mpr c32
      have c32b1 : (t487 != 0) = false := bne_eq_false_iff_eq.mpr c32
      clear c32
      (first | rw [c32b0] | (simp only [i64_w, i32_w]; rw [c32b0]) | skip)
      have H' := Aside0.mk H
      clear H
      obtain ⟨Ao33, co33, eo33⟩ := Kd.R_slice HO486.out
      subst eo33
      have np34 : isNilP (.slice Ao33 t484.length co33) = ((t484.length : Int) == 0) := isNilP_C (Kd.R_reads' HO486.out).2.2
      have np34n : notNilP (.slice Ao33 t484.length co33) = ((t484.length : Int) != 0) := notNilP_C (Kd.R_reads' HO486.out).2.2
      go_wp2
      go_meet
      case rel => exact ⟨_, (((t484.length : Int) == 0)), (by first | rfl | (simp; done) | (simp [*]; done)), H', ⟨by have := HJ1.out; first | omega | exact Nat.le_refl _⟩, ⟨by exact HO486.out⟩, ⟨by exact BK472.out⟩, ⟨by with_reducible exact HB.out⟩⟩
     ·
      rw [if_neg c32] at H
      have c32b0 : (t487 == 0) = false := beq_eq_false_iff_ne.mpr c32
      have c32b1 : (t487 != 0) = true := bne_iff_ne.mpr c32
      (first | rw [c32b0] | (simp only [i64_w, i32_w]; rw [c32b0]) | skip)
      have H' := Aside0.mk H
      clear H
      go_wp2
      go_meet
      case rel => exact ⟨_, (true), (by first | rfl | (simp; done) | (simp [*]; done)), H', ⟨by have := HJ1.out; first | omega | exact Nat.le_refl _⟩, ⟨by exact HO486.out⟩, ⟨by exact BK472.out⟩, ⟨by with_reducible exact HB.out⟩⟩
    case rest =>
     clear HC29
     try clear c1
     try clear c2
     try clear p2
     try clear c3
     try clear p3
     try clear c4
     try clear c6
     try clear c8
     try clear c9
     try clear c10
     try clear c12
     try clear c13
     try clear c25
     try clear c32
     try clear c32b0
     try clear c32b1
     try clear p34
     try clear hz10
     try clear hz13
     try clear hz15
     try clear hz17
     try clear hz20
     try clear hz22
     try clear hz30
     try clear p2
     obtain ⟨kq, x48_28, rfl, HA, HJ28, HO_3, BK472, HB⟩ := hcut
     cases kq with
     | zero => exact absurd HA.out (by simp [credenzalaw08_PageNear.j1])
     | succ kj28 =>
      have H := HA.out
      clear HA
      simp only [credenzalaw08_PageNear.j1] at H
      by_cases c35 : x48_28 = true
      ·
       subst c35
       have H1 : (none) = some r := by rw [if_pos rfl] at H; exact H
       clear H
       have H := H1
       clear H1
       exact absurd H (by simp)
      ·
       replace c35 := Bool.eq_false_iff.mpr c35
       subst c35
       have H1 : ((page_Page_KeyGroups.f kj28 t484).bind fun t488 => ((page_Page_ValueGroups.f kj28 t484).bind fun t491 => (if (t488.length : Int) = a0_3 then (credenzalaw08_PageNear.j2 kj28 t484 t488 t491 ((t491.length : Int) != a0_2) a0_0 a0_1 a0_2 a0_3 a0_4 a0_5 a0_6 l0_7 l0_8) else (credenzalaw08_PageNear.j2 kj28 t484 t488 t491 true a0_0 a0_1 a0_2 a0_3 a0_4 a0_5 a0_6 l0_7 l0_8)))) = some r := by rw [if_neg (show ¬ (false = true) by decide)] at H; exact H
       clear H
       have H := H1
       clear H1
       replace H := Option.bind_eq_some_iff.mp H
       obtain ⟨t488, A360, H⟩ := H
       replace H : ((page_Page_ValueGroups.f kj28 t484).bind fun t491 => (if (t488.length : Int) = a0_3 then (credenzalaw08_PageNear.j2 kj28 t484 t488 t491 ((t491.length : Int) != a0_2) a0_0 a0_1 a0_2 a0_3 a0_4 a0_5 a0_6 l0_7 l0_8) else (credenzalaw08_PageNear.j2 kj28 t484 t488 t491 true a0_0 a0_1 a0_2 a0_3 a0_4 a0_5 a0_6 l0_7 l0_8))) = some r := H
       have A36 := Aside0.mk A360
       clear A360
       replace H := Option.bind_eq_some_iff.mp H
       obtain ⟨t491, A370, H⟩ := H
       replace H : (if (t488.length : Int) = a0_3 then (credenzalaw08_PageNear.j2 kj28 t484 t488 t491 ((t491.length : Int) != a0_2) a0_0 a0_1 a0_2 a0_3 a0_4 a0_5 a0_6 l0_7 l0_8) else (credenzalaw08_PageNear.j2 kj28 t484 t488 t491 true a0_0 a0_1 a0_2 a0_3 a0_4 a0_5 a0_6 l0_7 l0_8)) = some r := H
       have A37 := Aside0.mk A370
       clear A370
       have HC38 := Aside0.mk H
       clear H
       obtain ⟨Ao39, co39, eo39⟩ := Kd.R_slice HO_3.out
       subst eo39
       go_upto_region 7 with (first | ((with_reducible refine gate_callee (f := 16) rfl ?_); refine goesL_ (some 50) rfl rfl Try.func16 (by kernel_rfl) rfl #[asPtr (.slice Ao39 t484.length co39)] rfl (by (try simp only [List.map_toArray, List.map_cons, List.map_nil]); first | done | rfl | (simp only [List.length_drop, List.length_take]; rfl)) ?_; (with_reducible refine (page_Page_KeyGroups.calls kj28 _ _ t484 t488 _ ?side1 ?side2 A36.out).mono ?_); (case side1 => with_reducible exact (Kd.R_reads' HO_3.out).2.2); (case side2 => exact (Kd.R_reads' HO_3.out).2.1); rintro e w40 ⟨v489, rfl, ho0, hb⟩; refine ⟨_, rfl, ?_⟩; have n0_ := Aside0.mk (Kd.R_below (by exact HO_3.out) hb); have n1_ := Aside0.mk (Kd.S_lower ho0 (below_size (by with_reducible exact HB.out))); have n2_ := Aside0.mk (blk_below (g := gb472) (o := .cells #[.int .i64 a0_0, .int .i64 a0_1, .int .i64 a0_2, .int .i64 a0_3, .int .i64 a0_4, .int .i64 a0_5, .int .i64 a0_6, .slice A0_7 l0_7.length c0_7, .slice A0_8 l0_8.length c0_8] 26 (0, 0)) (by exact BK472.out) hb); have n3_ := Aside0.mk (below_step (by with_reducible exact HB.out) hb); clear HO_3; clear BK472; clear HB; have HO_3 := n0_; have HO490 := n1_; have BK472 := n2_; have HB := n3_; clear n0_ n1_ n2_ n3_; (try clear hb); (try clear hb2); (try clear hk); (try clear hi); (try clear ho0)) | ((with_reducible refine gate_callee (f := 17) rfl ?_); refine goesL_ (some 52) rfl rfl Try.func17 (by kernel_rfl) rfl #[asPtr (.slice Ao39 t484.length co39)] rfl (by (try simp only [List.map_toArray, List.map_cons, List.map_nil]); first | done | rfl | (simp only [List.length_drop, List.length_take]; rfl)) ?_; (with_reducible refine (page_Page_ValueGroups.calls kj28 _ _ t484 t491 _ ?side1 ?side2 A37.out).mono ?_); (case side1 => with_reducible exact (Kd.R_reads' HO_3.out).2.2); (case side2 => exact (Kd.R_reads' HO_3.out).2.1); rintro e w41 ⟨v492, rfl, ho0, hb⟩; refine ⟨_, rfl, ?_⟩; have n0_ := Aside0.mk (Kd.R_below (by exact HO_3.out) hb); have n1_ := Aside0.mk (Kd.S_elder' (by exact HO490.out) (Kd.S_base ho0) hb); have n2_ := Aside0.mk (Kd.S_lower (Kd.S_new' ho0 (Kd.S_lt (by exact HO490.out))) (below_size (by with_reducible exact HB.out))); have n3_ := Aside0.mk (blk_below (g := gb472) (o := .cells #[.int .i64 a0_0, .int .i64 a0_1, .int .i64 a0_2, .int .i64 a0_3, .int .i64 a0_4, .int .i64 a0_5, .int .i64 a0_6, .slice A0_7 l0_7.length c0_7, .slice A0_8 l0_8.length c0_8] 26 (0, 0)) (by exact BK472.out) hb); have n4_ := Aside0.mk (below_step (by with_reducible exact HB.out) hb); clear HO_3; clear HO490; clear BK472; clear HB; have HO_3 := n0_; have HO490 := n1_; have HO493 := n2_; have BK472 := n3_; have HB := n4_; clear n0_ n1_ n2_ n3_ n4_; (try clear hb); (try clear hb2); (try clear hk); (try clear hi); (try clear ho0)))
       (try simp only [Act.put, List.setIfInBounds_toArray, List.set_cons_zero, List.set_cons_succ])
       go_cut [66] (fun v66 wc => ∃ (kq : Nat) (x66_37 : Bool), v66 = .bool x66_37 ∧ Aside0 (credenzalaw08_PageNear.j2 kq t484 t488 t491 x66_37 a0_0 a0_1 a0_2 a0_3 a0_4 a0_5 a0_6 l0_7 l0_8 = some r) ∧ Aside0 (kq ≤ kj28) ∧ Aside0 (Kd.R k75 75 wc w.heap.size (fun _ => True) (.slice Ao39 t484.length co39) t484) ∧ Aside0 (Kd.S k47 47 wc w.heap.size (fun k_ => some k_ ≠ (v492 : Value).ownBlock) v489 t488) ∧ Aside0 (Kd.S k47 47 wc w.heap.size (fun k_ => some k_ ≠ (v489 : Value).ownBlock) v492 t491) ∧ Aside0 (wc.heap[gb472]? = some (.cells #[.int .i64 a0_0, .int .i64 a0_1, .int .i64 a0_2, .int .i64 a0_3, .int .i64 a0_4, .int .i64 a0_5, .int .i64 a0_6, (.slice A0_7 l0_7.length c0_7), (.slice A0_8 l0_8.length c0_8)] 26 (0, 0))) ∧ Aside0 (Below w.heap.size w wc))
       case first =>
        have H := HC38.out
        clear HC38
        by_cases c42 : (t488.length : Int) = a0_3
        ·
         rw [if_pos c42] at H
         have c42b0 : ((t488.length : Int) == a0_3) = true := beq_iff_eq.mpr c42
         have c42b1 : ((t488.length : Int) != a0_3) = false := bne_eq_false_iff_eq.mpr c42
         clear c42
         (first | rw [c42b0] | (simp only [i64_w, i32_w]; rw [c42b0]) | skip)
         have H' := Aside0.mk H
         clear H
         obtain ⟨Ao43, co43, eo43⟩ := Kd.S_slice HO490.out
         subst eo43
         have hz44 := bx9 BK472.out
         obtain ⟨Ao45, co45, eo45⟩ := Kd.S_slice HO493.out
         subst eo45
         go_wp2
         go_meet
         case rel => exact ⟨_, (((t491.length : Int) != a0_2)), (by first | rfl | (simp; done) | (simp [*]; done)), H', ⟨by have := HJ1.out; have := HJ28.out; first | omega | exact Nat.le_refl _⟩, ⟨by exact HO_3.out⟩, ⟨by exact Kd.S_mono HO490.out (fun _ hk => hk.2)⟩, ⟨by exact Kd.S_mono HO493.out (fun _ hk => hk.2)⟩, ⟨by exact BK472.out⟩, ⟨by with_reducible exact HB.out⟩⟩
        ·
         rw [if_neg c42] at H
         have c42b0 : ((t488.length : Int) == a0_3) = false := beq_eq_false_iff_ne.mpr c42
         have c42b1 : ((t488.length : Int) != a0_3) = true := bne_iff_ne.mpr c42
         (first | rw [c42b0] | (simp only [i64_w, i32_w]; rw [c42b0]) | skip)
         have H' := Aside0.mk H
         clear H
         obtain ⟨Ao46, co46, eo46⟩ := Kd.S_slice HO490.out
         subst eo46
         have hz47 := bx9 BK472.out
         go_wp2
         go_meet
         case rel => exact ⟨_, (true), (by first | rfl | (simp; done) | (simp [*]; done)), H', ⟨by have := HJ1.out; have := HJ28.out; first | omega | exact Nat.le_refl _⟩, ⟨by exact HO_3.out⟩, ⟨by exact Kd.S_mono HO490.out (fun _ hk => hk.2)⟩, ⟨by exact Kd.S_mono HO493.out (fun _ hk => hk.2)⟩, ⟨by exact BK472.out⟩, ⟨by with_reducible exact HB.out⟩⟩
       case rest =>
        clear HC38
        try clear c1
        try clear c2
        try clear p2
        try clear c3
        try clear p3
        try clear c4
        try clear c6
        try clear c8
        try clear c9
        try clear c10
        try clear c12
        try clear c13
        try clear c16
        try clear c17
        try clear c25
        try clear c32
        try clear c32b0
        try clear c32b1
        try clear p34
        try clear c35
        try clear c42
        try clear c42b0
        try clear c42b1
        try clear hz10
        try clear hz13
        try clear hz15
        try clear hz17
        try clear hz20
        try clear hz22
        try clear hz30
        try clear hz44
        try clear hz47
        try clear p2
        try clear p3
        try clear p34
        obtain ⟨kq, x66_37, rfl, HA, HJ37, HO_3, HO_5, HO_6, BK472, HB⟩ := hcut
        cases kq with
        | zero => exact absurd HA.out (by simp [credenzalaw08_PageNear.j2])
        | succ kj37 =>
         have H := HA.out
         clear HA
         simp only [credenzalaw08_PageNear.j2] at H
         by_cases c48 : x66_37 = true
         ·
          subst c48
          have H1 : (none) = some r := by rw [if_pos rfl] at H; exact H
          clear H
          have H := H1
          clear H1
          exact absurd H (by simp)
         ·
          replace c48 := Bool.eq_false_iff.mpr c48
          subst c48
          have H1 : (credenzalaw08_PageNear.l0 kj37 t484 t488 t491 a0_2 0 a0_0 a0_1 a0_2 a0_3 a0_4 a0_5 a0_6 l0_7 l0_8) = some r := by rw [if_neg (show ¬ (false = true) by decide)] at H; exact H
          clear H
          have H := H1
          clear H1
          have H' := Aside0.mk H
          clear H
          have hz49 := bx9 BK472.out
          go_wp2
          go_loopg [70] kj37 (fun kq v70 w' => ∃ (x70_4 : Int), v70 = .int .i64 x70_4 ∧ Aside0 (credenzalaw08_PageNear.l0 kq t484 t488 t491 a0_2 x70_4 a0_0 a0_1 a0_2 a0_3 a0_4 a0_5 a0_6 l0_7 l0_8 = some r) ∧ Aside0 (kq ≤ kj37) ∧ Aside0 (Kd.R k75 75 w' w.heap.size (fun _ => True) (.slice Ao39 t484.length co39) t484) ∧ Aside0 (Kd.S k47 47 w' w.heap.size (fun k_ => some k_ ≠ (v492 : Value).ownBlock) v489 t488) ∧ Aside0 (Kd.S k47 47 w' w.heap.size (fun k_ => some k_ ≠ (v489 : Value).ownBlock) v492 t491) ∧ Aside0 (w'.heap[gb472]? = some (.cells #[.int .i64 a0_0, .int .i64 a0_1, .int .i64 a0_2, .int .i64 a0_3, .int .i64 a0_4, .int .i64 a0_5, .int .i64 a0_6, (.slice A0_7 l0_7.length c0_7), (.slice A0_8 l0_8.length c0_8)] 26 (0, 0))) ∧ Aside0 (Below w.heap.size w w'))
          case atStart => exact ⟨(0), (by first | rfl | (simp; done) | (simp [*]; done)), H', ⟨Nat.le_refl _⟩, ⟨by exact HO_3.out⟩, ⟨by exact HO_5.out⟩, ⟨by exact HO_6.out⟩, ⟨by exact BK472.out⟩, ⟨by with_reducible exact HB.out⟩⟩
          case round =>
           clear H'
           try clear c1
           try clear c2
           try clear p2
           try clear c3
           try clear p3
           try clear c4
           try clear c6
           try clear c8
           try clear c9
           try clear c10
           try clear c12
           try clear c13
           try clear c16
           try clear c17
           try clear c25
           try clear c32
           try clear c32b0
           try clear c32b1
           try clear p34
           try clear c35
           try clear c42
           try clear c42b0
           try clear c42b1
           try clear c48
           try clear hz10
           try clear hz13
           try clear hz15
           try clear hz17
           try clear hz20
           try clear hz22
           try clear hz30
           try clear hz44
           try clear hz47
           try clear hz49
           try clear p2
           try clear p3
           try clear p34
           obtain ⟨x70_4, rfl, HA, HK4, HO_3, HO_5, HO_6, BK472, HB⟩ := hrel
           cases gk with
           | zero => exact absurd HA.out (by simp [credenzalaw08_PageNear.l0])
           | succ k4 =>
            have H := HA.out
            clear HA
            simp only [credenzalaw08_PageNear.l0] at H
            by_cases c50 : x70_4 < a0_2
            ·
             rw [if_pos c50] at H
             have c50b0 : decide (x70_4 < a0_2) = true := decide_eq_true c50
             clear c50
             have H' := Aside0.mk H
             clear H
             have hz51 := bx9 BK472.out
             go_wp2
             go_loopg [76] k4 (fun kq v76 w' => ∃ (x76_5 : Int), v76 = .int .i64 x76_5 ∧ Aside0 (credenzalaw08_PageNear.l1 kq t484 t488 t491 x70_4 a0_2 x70_4 a0_3 x76_5 a0_0 a0_1 a0_2 a0_3 a0_4 a0_5 a0_6 l0_7 l0_8 = some r) ∧ Aside0 (kq ≤ k4) ∧ Aside0 (Kd.R k75 75 w' w.heap.size (fun _ => True) (.slice Ao39 t484.length co39) t484) ∧ Aside0 (Kd.S k47 47 w' w.heap.size (fun k_ => some k_ ≠ (v492 : Value).ownBlock) v489 t488) ∧ Aside0 (Kd.S k47 47 w' w.heap.size (fun k_ => some k_ ≠ (v489 : Value).ownBlock) v492 t491) ∧ Aside0 (w'.heap[gb472]? = some (.cells #[.int .i64 a0_0, .int .i64 a0_1, .int .i64 a0_2, .int .i64 a0_3, .int .i64 a0_4, .int .i64 a0_5, .int .i64 a0_6, (.slice A0_7 l0_7.length c0_7), (.slice A0_8 l0_8.length c0_8)] 26 (0, 0))) ∧ Aside0 (Below w.heap.size w w'))
             case atStart => exact ⟨(0), (by first | rfl | (simp; done) | (simp [*]; done)), H', ⟨Nat.le_refl _⟩, ⟨by exact HO_3.out⟩, ⟨by exact HO_5.out⟩, ⟨by exact HO_6.out⟩, ⟨by exact BK472.out⟩, ⟨by with_reducible exact HB.out⟩⟩
             case round =>
              clear H'
              try clear c1
              try clear c2
              try clear p2
              try clear c3
              try clear p3
              try clear c4
              try clear c5
              try clear c6
              try clear c8
              try clear c9
              try clear c10
              try clear c12
              try clear c13
              try clear c16
              try clear c17
              try clear c25
              try clear c32
              try clear c32b0
              try clear c32b1
              try clear p34
              try clear c35
              try clear c42
              try clear c42b0
              try clear c42b1
              try clear c48
              try clear c50
              try clear c50b0
              try clear hz10
              try clear hz13
              try clear hz15
              try clear hz17
              try clear hz20
              try clear hz22
              try clear hz30
              try clear hz44
              try clear hz47
              try clear hz49
              try clear hz51
              try clear p2
              try clear p3
              try clear p34
              obtain ⟨x76_5, rfl, HA, HK5, HO_3, HO_5, HO_6, BK472, HB⟩ := hrel
              cases gk with
              | zero => exact absurd HA.out (by simp [credenzalaw08_PageNear.l1])
              | succ k5 =>
               have H := HA.out
               clear HA
               simp only [credenzalaw08_PageNear.l1] at H
               by_cases c52 : x76_5 < a0_3
               ·
                rw [if_pos c52] at H
                have c52b0 : decide (x76_5 < a0_3) = true := decide_eq_true c52
                clear c52
                replace H := Option.bind_eq_some_iff.mp H
                obtain ⟨t495, A530, H⟩ := H
                replace H : (if 0 ≤ x70_4 then (if x70_4 < (l0_7.length : Int) then (if 0 ≤ x76_5 then (if x76_5 < ((rd_L1 l0_7 x70_4).length : Int) then ((page_Page_Value.f t484 x70_4 x76_5).bind fun t498 => (if x70_4 < (l0_8.length : Int) then (if x76_5 < ((rd_L1 l0_8 x70_4).length : Int) then (if x76_5 < (t488.length : Int) then (if (wrap64 (2 * (wrap64 ((wrap64 (t495)) - (wrap64 (rd (rd_L1 l0_7 x70_4) x76_5)))))) > (wrap64 ((rd_T47 t488 x76_5).f1)) then (none) else (if (wrap64 (-(wrap64 (2 * (wrap64 ((wrap64 (t495)) - (wrap64 (rd (rd_L1 l0_7 x70_4) x76_5)))))))) > (wrap64 ((rd_T47 t488 x76_5).f1)) then (none) else (if x70_4 < (t491.length : Int) then (if (wrap64 (2 * (wrap64 ((wrap64 (t498)) - (wrap64 (rd (rd_L1 l0_8 x70_4) x76_5)))))) > (wrap64 ((rd_T47 t491 x70_4).f1)) then (none) else (if (wrap64 (-(wrap64 (2 * (wrap64 ((wrap64 (t498)) - (wrap64 (rd (rd_L1 l0_8 x70_4) x76_5)))))))) > (wrap64 ((rd_T47 t491 x70_4).f1)) then (none) else (credenzalaw08_PageNear.l1 k5 t484 t488 t491 x70_4 a0_2 x70_4 a0_3 (wrap64 (x76_5 + 1)) a0_0 a0_1 a0_2 a0_3 a0_4 a0_5 a0_6 l0_7 l0_8))) else (none)))) else (none)) else (none)) else (none))) else (none)) else (none)) else (none)) else (none)) = some r := H
                have A53 := Aside0.mk A530
                clear A530
                by_cases c54 : 0 ≤ x70_4
                case neg => (rw [if_neg c54] at H; exact absurd H (by simp))
                rw [if_pos c54] at H
                have c54b0 : decide (0 ≤ x70_4) = true := decide_eq_true c54
                clear c54
                by_cases c55 : x70_4 < (l0_7.length : Int)
                case neg => (rw [if_neg c55] at H; exact absurd H (by simp))
                rw [if_pos c55] at H
                have c55b0 : decide (x70_4 < (l0_7.length : Int)) = true := decide_eq_true c55
                clear c55
                by_cases c56 : 0 ≤ x76_5
                case neg => (rw [if_neg c56] at H; exact absurd H (by simp))
                rw [if_pos c56] at H
                have c56b0 : decide (0 ≤ x76_5) = true := decide_eq_true c56
                clear c56
                by_cases c57 : x76_5 < ((rd_L1 l0_7 x70_4).length : Int)
                case neg => (rw [if_neg c57] at H; exact absurd H (by simp))
                rw [if_pos c57] at H
                have c57b0 : decide (x76_5 < ((rd_L1 l0_7 x70_4).length : Int)) = true := decide_eq_true c57
                clear c57
                replace H := Option.bind_eq_some_iff.mp H
                obtain ⟨t498, A580, H⟩ := H
                replace H : (if x70_4 < (l0_8.length : Int) then (if x76_5 < ((rd_L1 l0_8 x70_4).length : Int) then (if x76_5 < (t488.length : Int) then (if (wrap64 (2 * (wrap64 ((wrap64 (t495)) - (wrap64 (rd (rd_L1 l0_7 x70_4) x76_5)))))) > (wrap64 ((rd_T47 t488 x76_5).f1)) then (none) else (if (wrap64 (-(wrap64 (2 * (wrap64 ((wrap64 (t495)) - (wrap64 (rd (rd_L1 l0_7 x70_4) x76_5)))))))) > (wrap64 ((rd_T47 t488 x76_5).f1)) then (none) else (if x70_4 < (t491.length : Int) then (if (wrap64 (2 * (wrap64 ((wrap64 (t498)) - (wrap64 (rd (rd_L1 l0_8 x70_4) x76_5)))))) > (wrap64 ((rd_T47 t491 x70_4).f1)) then (none) else (if (wrap64 (-(wrap64 (2 * (wrap64 ((wrap64 (t498)) - (wrap64 (rd (rd_L1 l0_8 x70_4) x76_5)))))))) > (wrap64 ((rd_T47 t491 x70_4).f1)) then (none) else (credenzalaw08_PageNear.l1 k5 t484 t488 t491 x70_4 a0_2 x70_4 a0_3 (wrap64 (x76_5 + 1)) a0_0 a0_1 a0_2 a0_3 a0_4 a0_5 a0_6 l0_7 l0_8))) else (none)))) else (none)) else (none)) else (none)) = some r := H
                have A58 := Aside0.mk A580
                clear A580
                by_cases c59 : x70_4 < (l0_8.length : Int)
                case neg => (rw [if_neg c59] at H; exact absurd H (by simp))
                rw [if_pos c59] at H
                have c59b0 : decide (x70_4 < (l0_8.length : Int)) = true := decide_eq_true c59
                clear c59
                by_cases c60 : x76_5 < ((rd_L1 l0_8 x70_4).length : Int)
                case neg => (rw [if_neg c60] at H; exact absurd H (by simp))
                rw [if_pos c60] at H
                have c60b0 : decide (x76_5 < ((rd_L1 l0_8 x70_4).length : Int)) = true := decide_eq_true c60
                clear c60
                by_cases c61 : x76_5 < (t488.length : Int)
                case neg => (rw [if_neg c61] at H; exact absurd H (by simp))
                rw [if_pos c61] at H
                have c61b0 : decide (x76_5 < (t488.length : Int)) = true := decide_eq_true c61
                clear c61
                by_cases c62 : (wrap64 (2 * (wrap64 ((wrap64 (t495)) - (wrap64 (rd (rd_L1 l0_7 x70_4) x76_5)))))) > (wrap64 ((rd_T47 t488 x76_5).f1))
                case pos => (rw [if_pos c62] at H; exact absurd H (by simp))
                rw [if_neg c62] at H
                have c62b0 : decide ((wrap64 ((rd_T47 t488 x76_5).f1)) < (wrap64 (2 * (wrap64 ((wrap64 (t495)) - (wrap64 (rd (rd_L1 l0_7 x70_4) x76_5))))))) = false := decide_eq_false c62
                clear c62
                by_cases c63 : (wrap64 (-(wrap64 (2 * (wrap64 ((wrap64 (t495)) - (wrap64 (rd (rd_L1 l0_7 x70_4) x76_5)))))))) > (wrap64 ((rd_T47 t488 x76_5).f1))
                case pos => (rw [if_pos c63] at H; exact absurd H (by simp))
                rw [if_neg c63] at H
                have c63b0 : decide ((wrap64 ((rd_T47 t488 x76_5).f1)) < (wrap64 (-(wrap64 (2 * (wrap64 ((wrap64 (t495)) - (wrap64 (rd (rd_L1 l0_7 x70_4) x76_5))))))))) = false := decide_eq_false c63
                clear c63
                by_cases c64 : x70_4 < (t491.length : Int)
                case neg => (rw [if_neg c64] at H; exact absurd H (by simp))
                rw [if_pos c64] at H
                have c64b0 : decide (x70_4 < (t491.length : Int)) = true := decide_eq_true c64
                clear c64
                by_cases c65 : (wrap64 (2 * (wrap64 ((wrap64 (t498)) - (wrap64 (rd (rd_L1 l0_8 x70_4) x76_5)))))) > (wrap64 ((rd_T47 t491 x70_4).f1))
                case pos => (rw [if_pos c65] at H; exact absurd H (by simp))
                rw [if_neg c65] at H
                have c65b0 : decide ((wrap64 ((rd_T47 t491 x70_4).f1)) < (wrap64 (2 * (wrap64 ((wrap64 (t498)) - (wrap64 (rd (rd_L1 l0_8 x70_4) x76_5))))))) = false := decide_eq_false c65
                clear c65
                by_cases c66 : (wrap64 (-(wrap64 (2 * (wrap64 ((wrap64 (t498)) - (wrap64 (rd (rd_L1 l0_8 x70_4) x76_5)))))))) > (wrap64 ((rd_T47 t491 x70_4).f1))
                case pos => (rw [if_pos c66] at H; exact absurd H (by simp))
                rw [if_neg c66] at H
                have c66b0 : decide ((wrap64 ((rd_T47 t491 x70_4).f1)) < (wrap64 (-(wrap64 (2 * (wrap64 ((wrap64 (t498)) - (wrap64 (rd (rd_L1 l0_8 x70_4) x76_5))))))))) = false := decide_eq_false c66
                clear c66
                have H' := Aside0.mk H
                clear H
                try go_wp2
                replace HO_3 := Aside0.mk (Kd.R_drew HO_3.out)
                replace HO_5 := Aside0.mk (Kd.S_drew HO_5.out)
                replace HO_6 := Aside0.mk (Kd.S_drew HO_6.out)
                replace BK472 := Aside0.mk (blk_drew BK472.out)
                replace HB := Aside0.mk (below_drew1 HB.out)
                have p496 : 0 ≤ (x70_4 : Int) := of_decide_eq_true (by first | (with_reducible assumption) | assumption)
                have q496 : x70_4 < (l0_7.length : Int) := of_decide_eq_true (by first | (with_reducible assumption) | assumption)
                obtain ⟨ad496, A496_0, c496_0, e496, hx496_0, hl496_0, hi496_0⟩ := at_L1 HR0_7.out x70_4 p496 q496
                have hw496_0 := hx496_0
                cases e496
                replace hx496_0 := (HB.out.cell (World.block_lt_of_cell? w _ hx496_0)).trans hx496_0
                have HR496_0 := Aside0.mk hi496_0
                have HC496_0 := Aside0.mk hl496_0
                clear hi496_0 hl496_0
                replace p496 := eq_true p496
                replace q496 := eq_true q496
                have p497 : 0 ≤ (x76_5 : Int) := of_decide_eq_true (by first | (with_reducible assumption) | assumption)
                have q497 : x76_5 < ((rd_L1 l0_7 x70_4).length : Int) := of_decide_eq_true (by first | (with_reducible assumption) | assumption)
                obtain ⟨ad497, e497, hx497_0⟩ := Kd.at_int HR496_0.out x76_5 p497 q497
                have hw497_0 := hx497_0
                cases e497
                replace hx497_0 := (HB.out.cell (World.block_lt_of_cell? w _ hx497_0)).trans hx497_0
                replace p497 := eq_true p497
                replace q497 := eq_true q497
                refine start_ (n := 17) (S := fun w' => w'.cell? ⟨gb472, 0, none⟩ = some (.int .i64 a0_0) ∧ w'.cell? ⟨gb472, 1, none⟩ = some (.int .i64 a0_1) ∧ w'.cell? ⟨gb472, 2, none⟩ = some (.int .i64 a0_2) ∧ w'.cell? ⟨gb472, 3, none⟩ = some (.int .i64 a0_3) ∧ w'.cell? ⟨gb472, 4, none⟩ = some (.int .i64 a0_4) ∧ w'.cell? ⟨gb472, 5, none⟩ = some (.int .i64 a0_5) ∧ w'.cell? ⟨gb472, 6, none⟩ = some (.int .i64 a0_6) ∧ w'.cell? ⟨gb472, 7, none⟩ = some (.slice (some ad496) l0_7.length c0_7) ∧ w'.cell? ⟨gb472, 8, none⟩ = some (.slice A0_8 l0_8.length c0_8) ∧ w'.cell? (ad496.add (x70_4).toNat) = some (.slice (some ad497) (rd_L1 l0_7 x70_4).length c496_0) ∧ w'.cell? (ad497.add (x76_5).toNat) = some (.int .i32 (rd (rd_L1 l0_7 x70_4) x76_5))) (ds := []) #[false, false, false, false, false, false, false, false, false, false, false, false, false, false, false, false, false] (by kernel_rfl) rfl rfl ⟨(blk_cell BK472.out 0).trans rfl, (blk_cell BK472.out 1).trans rfl, (blk_cell BK472.out 2).trans rfl, (blk_cell BK472.out 3).trans rfl, (blk_cell BK472.out 4).trans rfl, (blk_cell BK472.out 5).trans rfl, (blk_cell BK472.out 6).trans rfl, (blk_cell BK472.out 7).trans rfl, (blk_cell BK472.out 8).trans rfl, ((HB.out.cell (World.block_lt_of_cell? w _ hw496_0)).trans hw496_0), ((HB.out.cell (World.block_lt_of_cell? w _ hw497_0)).trans hw497_0)⟩ (fun hHeld => ?_); refine with_tabW credenzalaw08_PageNear.tab15 credenzalaw08_PageNear.bits15 (fun HT_ HW_ => ?_)
                generalize wr.drew = w67 at HO_3 HO_5 HO_6 BK472 HB HR496_0 hx496_0 hx497_0 hHeld ⊢
                refine pure_ (i := 0) (N := some 79) (v := ?_) (a' := ?_) #[true, false, false, false, false, false, false, false, false, false, false, false, false, false, false, false, false] rfl rfl (any_of HT_.out (by kernel_rfl)) (fun _ _ _ h => h) (Or.inl ⟨by rfl, ?_⟩) ?_ ?_
                rotate_left
                ·
                 intro w'
                 go_simp
                 with_reducible rfl
                rotate_left
                ·
                 simp only [Act.put, List.setIfInBounds_toArray, List.set_cons_zero, List.set_cons_succ, i64_w, i32_w, IntKind.wrap_u32]
                 rfl
                refine pure_ (i := 1) (N := some 80) (v := ?_) (a' := ?_) #[true, true, false, false, false, false, false, false, false, false, false, false, false, false, false, false, false] rfl rfl (any_of HT_.out (by kernel_rfl)) (fun _ _ _ h => h) (Or.inl ⟨by rfl, ?_⟩) ?_ ?_
                rotate_left
                ·
                 intro w'
                 go_simp
                 with_reducible rfl
                rotate_left
                ·
                 simp only [Act.put, List.setIfInBounds_toArray, List.set_cons_zero, List.set_cons_succ, i64_w, i32_w, IntKind.wrap_u32]
                 rfl
                refine pure_ (i := 2) (N := some 81) (v := ?_) (a' := ?_) #[true, true, true, false, false, false, false, false, false, false, false, false, false, false, false, false, false] rfl rfl (any_of HT_.out (by kernel_rfl)) (fun _ _ _ h => h) (Or.inl ⟨by rfl, ?_⟩) ?_ ?_
                rotate_left
                ·
                 intro w'
                 go_simp
                 with_reducible rfl
                rotate_left
                ·
                 simp only [Act.put, List.setIfInBounds_toArray, List.set_cons_zero, List.set_cons_succ, i64_w, i32_w, IntKind.wrap_u32]
                 rfl
                refine pure_ (i := 5) (N := some 84) (v := ?_) (a' := ?_) #[true, true, true, false, false, true, false, false, false, false, false, false, false, false, false, false, false] rfl rfl (any_of HT_.out (by kernel_rfl)) (fun _ _ _ h => h) (Or.inl ⟨by rfl, ?_⟩) ?_ ?_
                rotate_left
                ·
                 intro w'
                 go_simp
                 with_reducible rfl
                rotate_left
                ·
                 simp only [Act.put, List.setIfInBounds_toArray, List.set_cons_zero, List.set_cons_succ, i64_w, i32_w, IntKind.wrap_u32]
                 rfl
                refine pure_ (i := 7) (N := some 86) (v := ?_) (a' := ?_) #[true, true, true, false, false, true, false, true, false, false, false, false, false, false, false, false, false] rfl rfl (any_of HT_.out (by kernel_rfl)) (fun _ _ _ h => h) (Or.inl ⟨by rfl, ?_⟩) ?_ ?_
                rotate_left
                ·
                 intro w'
                 go_simp
                 with_reducible rfl
                rotate_left
                ·
                 simp only [Act.put, List.setIfInBounds_toArray, List.set_cons_zero, List.set_cons_succ, i64_w, i32_w, IntKind.wrap_u32]
                 rfl
                refine pure_ (i := 10) (N := some 89) (v := ?_) (a' := ?_) #[true, true, true, false, false, true, false, true, false, false, true, false, false, false, false, false, false] rfl rfl (any_of HT_.out (by kernel_rfl)) (fun _ _ _ h => h) (Or.inl ⟨by rfl, ?_⟩) ?_ ?_
                rotate_left
                ·
                 intro w'
                 go_simp
                 with_reducible rfl
                rotate_left
                ·
                 simp only [Act.put, List.setIfInBounds_toArray, List.set_cons_zero, List.set_cons_succ, i64_w, i32_w, IntKind.wrap_u32]
                 rfl
                refine take_ (i := 6) (N := some 85) (v := ?_) (a' := ?_) #[true, true, true, false, false, true, true, true, false, false, true, false, false, false, false, false, false] rfl rfl (take_ofW HT_.out HW_.out (by kernel_rfl)) (fun _ _ _ h => h) (Or.inl ⟨by rfl, ?_⟩) hHeld ?_ ?_
                rotate_left
                ·
                 rintro w' ⟨s0, s1, s2, s3, s4, s5, s6, s7, s8, s9, s10⟩
                 go_simp
                 with_reducible rfl
                rotate_left
                ·
                 simp only [Act.put, List.setIfInBounds_toArray, List.set_cons_zero, List.set_cons_succ, i64_w, i32_w, IntKind.wrap_u32]
                 rfl
                refine pure_ (i := 8) (N := some 87) (v := ?_) (a' := ?_) #[true, true, true, false, false, true, true, true, true, false, true, false, false, false, false, false, false] rfl rfl (any_of HT_.out (by kernel_rfl)) (fun _ _ _ h => h) (Or.inl ⟨by rfl, ?_⟩) ?_ ?_
                rotate_left
                ·
                 intro w'
                 go_simp
                 with_reducible rfl
                rotate_left
                ·
                 simp only [Act.put, List.setIfInBounds_toArray, List.set_cons_zero, List.set_cons_succ, i64_w, i32_w, IntKind.wrap_u32]
                 rfl
                refine take_ (i := 9) (N := some 88) (v := ?_) (a' := ?_) #[true, true, true, false, false, true, true, true, true, true, true, false, false, false, false, false, false] rfl rfl (take_ofW HT_.out HW_.out (by kernel_rfl)) (fun _ _ _ h => h) (Or.inl ⟨by rfl, ?_⟩) hHeld ?_ ?_
                rotate_left
                ·
                 rintro w' ⟨s0, s1, s2, s3, s4, s5, s6, s7, s8, s9, s10⟩
                 go_simp
                 with_reducible rfl
                rotate_left
                ·
                 simp only [Act.put, List.setIfInBounds_toArray, List.set_cons_zero, List.set_cons_succ, i64_w, i32_w, IntKind.wrap_u32]
                 rfl
                refine pure_ (i := 11) (N := some 90) (v := ?_) (a' := ?_) #[true, true, true, false, false, true, true, true, true, true, true, true, false, false, false, false, false] rfl rfl (any_of HT_.out (by kernel_rfl)) (fun _ _ _ h => h) (Or.inl ⟨by rfl, ?_⟩) ?_ ?_
                rotate_left
                ·
                 intro w'
                 go_simp
                 with_reducible rfl
                rotate_left
                ·
                 simp only [Act.put, List.setIfInBounds_toArray, List.set_cons_zero, List.set_cons_succ, i64_w, i32_w, IntKind.wrap_u32]
                 rfl
                refine take_ (i := 12) (N := some 91) (v := ?_) (a' := ?_) #[true, true, true, false, false, true, true, true, true, true, true, true, true, false, false, false, false] rfl rfl (take_ofW HT_.out HW_.out (by kernel_rfl)) (fun _ _ _ h => h) (Or.inl ⟨by rfl, ?_⟩) hHeld ?_ ?_
                rotate_left
                ·
                 rintro w' ⟨s0, s1, s2, s3, s4, s5, s6, s7, s8, s9, s10⟩
                 go_simp
                 with_reducible rfl
                rotate_left
                ·
                 simp only [Act.put, List.setIfInBounds_toArray, List.set_cons_zero, List.set_cons_succ, i64_w, i32_w, IntKind.wrap_u32]
                 rfl
                refine pure_ (i := 13) (N := some 92) (v := ?_) (a' := ?_) #[true, true, true, false, false, true, true, true, true, true, true, true, true, true, false, false, false] rfl rfl (any_of HT_.out (by kernel_rfl)) (fun _ _ _ h => h) (Or.inl ⟨by rfl, ?_⟩) ?_ ?_
                rotate_left
                ·
                 intro w'
                 go_simp
                 with_reducible rfl
                rotate_left
                ·
                 simp only [Act.put, List.setIfInBounds_toArray, List.set_cons_zero, List.set_cons_succ, i64_w, i32_w, IntKind.wrap_u32]
                 rfl
                refine one_ (i := 3) (N := some 82) #[true, true, true, true, false, true, true, true, true, true, true, true, true, true, false, false, false] rfl rfl (one_of HT_.out (by kernel_rfl)) (by decide) (fun K hK => ?_)
                refine goes_ Try.func18 (by kernel_rfl) rfl #[asPtr (.slice Ao39 t484.length co39), .int .i64 x70_4, .int .i64 x76_5] (by rfl) rfl rfl (by (try simp only [List.map_toArray, List.map_cons, List.map_nil]); first | done | rfl | (simp only [List.length_drop, List.length_take]; rfl)) ?_
                with_reducible refine (page_Page_Key.calls _ _ t484 x70_4 x76_5 t495 _ ?side1 ?side2 A53.out).mono ?_
                (case side1 => with_reducible exact (Kd.R_reads' HO_3.out).2.2)
                (case side2 => exact (Kd.R_reads' HO_3.out).2.1)
                rintro e w68 ⟨rfl, hb⟩
                refine ⟨_, rfl, ?_⟩
                replace HO_3 := Aside0.mk (Kd.R_below (by (with_reducible repeat (first | apply Kd.R_alloc | apply Kd.R_drewN | apply Kd.R_drew)); exact HO_3.out) hb)
                replace HO_5 := Aside0.mk (Kd.S_below (by (with_reducible repeat (first | apply Kd.S_alloc | apply Kd.S_drewN | apply Kd.S_drew)); exact HO_5.out) hb)
                replace HO_6 := Aside0.mk (Kd.S_below (by (with_reducible repeat (first | apply Kd.S_alloc | apply Kd.S_drewN | apply Kd.S_drew)); exact HO_6.out) hb)
                replace BK472 := Aside0.mk (blk_below (g := gb472) (o := .cells #[.int .i64 a0_0, .int .i64 a0_1, .int .i64 a0_2, .int .i64 a0_3, .int .i64 a0_4, .int .i64 a0_5, .int .i64 a0_6, .slice (some ad496) l0_7.length c0_7, .slice A0_8 l0_8.length c0_8] 26 (0, 0)) (by (with_reducible repeat (first | refine blk_drewN ?_ _ | refine blk_drew ?_ | refine blk_alloc ?_ _)); exact BK472.out) hb)
                replace HB := Aside0.mk (below_step (by repeat (first | (with_reducible first | exact HB.out | apply below_alloc | apply pw_below_drewN | apply below_drew1 | refine below_set ?_ GE472.out) | exact HB.out)) hb)
                (try clear hb)
                (try clear hb2)
                (try clear hk)
                (try clear hi)
                refine hK.out _ _ ⟨(blk_cell BK472.out 0).trans rfl, (blk_cell BK472.out 1).trans rfl, (blk_cell BK472.out 2).trans rfl, (blk_cell BK472.out 3).trans rfl, (blk_cell BK472.out 4).trans rfl, (blk_cell BK472.out 5).trans rfl, (blk_cell BK472.out 6).trans rfl, (blk_cell BK472.out 7).trans rfl, (blk_cell BK472.out 8).trans rfl, ((HB.out.cell (World.block_lt_of_cell? w _ hw496_0)).trans hw496_0), ((HB.out.cell (World.block_lt_of_cell? w _ hw497_0)).trans hw497_0)⟩ (fun hHeld => ?_)
                clear hK K
                refine norm_ (a' := ?_) ?_ ?_
                rotate_left
                ·
                 show Act.put _ (some 82) _ = _
                 simp only [Act.put, List.setIfInBounds_toArray, List.set_cons_zero, List.set_cons_succ, i64_w, i32_w, IntKind.wrap_u32]
                 rfl
                refine pure_ (i := 4) (N := some 83) (v := ?_) (a' := ?_) #[true, true, true, true, true, true, true, true, true, true, true, true, true, true, false, false, false] rfl rfl (any_of HT_.out (by kernel_rfl)) (fun _ _ _ h => h) (Or.inl ⟨by rfl, ?_⟩) ?_ ?_
                rotate_left
                ·
                 intro w'
                 go_simp
                 with_reducible rfl
                rotate_left
                ·
                 simp only [Act.put, List.setIfInBounds_toArray, List.set_cons_zero, List.set_cons_succ, i64_w, i32_w, IntKind.wrap_u32]
                 rfl
                refine pure_ (i := 14) (N := some 93) (v := ?_) (a' := ?_) #[true, true, true, true, true, true, true, true, true, true, true, true, true, true, true, false, false] rfl rfl (any_of HT_.out (by kernel_rfl)) (fun _ _ _ h => h) (Or.inl ⟨by rfl, ?_⟩) ?_ ?_
                rotate_left
                ·
                 intro w'
                 go_simp
                 with_reducible rfl
                rotate_left
                ·
                 simp only [Act.put, List.setIfInBounds_toArray, List.set_cons_zero, List.set_cons_succ, i64_w, i32_w, IntKind.wrap_u32]
                 rfl
                refine pure_ (i := 15) (N := some 94) (v := ?_) (a' := ?_) #[true, true, true, true, true, true, true, true, true, true, true, true, true, true, true, true, false] rfl rfl (any_of HT_.out (by kernel_rfl)) (fun _ _ _ h => h) (Or.inl ⟨by rfl, ?_⟩) ?_ ?_
                rotate_left
                ·
                 intro w'
                 go_simp
                 with_reducible rfl
                rotate_left
                ·
                 simp only [Act.put, List.setIfInBounds_toArray, List.set_cons_zero, List.set_cons_succ, i64_w, i32_w, IntKind.wrap_u32]
                 rfl
                refine pure_ (i := 16) (N := some 9) (v := ?_) (a' := ?_) #[true, true, true, true, true, true, true, true, true, true, true, true, true, true, true, true, true] rfl rfl (any_of HT_.out (by kernel_rfl)) (fun _ _ _ h => h) (Or.inl ⟨by rfl, ?_⟩) ?_ ?_
                rotate_left
                ·
                 intro w'
                 go_simp
                 with_reducible rfl
                rotate_left
                ·
                 simp only [Act.put, List.setIfInBounds_toArray, List.set_cons_zero, List.set_cons_succ, i64_w, i32_w, IntKind.wrap_u32]
                 rfl
                refine done_ (done_of HT_.out (by kernel_rfl)) ?_
                try go_wp2
                replace HO_3 := Aside0.mk (Kd.R_drew HO_3.out)
                replace HO_5 := Aside0.mk (Kd.S_drew HO_5.out)
                replace HO_6 := Aside0.mk (Kd.S_drew HO_6.out)
                replace BK472 := Aside0.mk (blk_drew BK472.out)
                replace HB := Aside0.mk (below_drew1 HB.out)
                have p499 : 0 ≤ (x70_4 : Int) := of_decide_eq_true (by first | (with_reducible assumption) | assumption)
                have q499 : x70_4 < (l0_8.length : Int) := of_decide_eq_true (by first | (with_reducible assumption) | assumption)
                obtain ⟨ad499, A499_0, c499_0, e499, hx499_0, hl499_0, hi499_0⟩ := at_L1 HR0_8.out x70_4 p499 q499
                have hw499_0 := hx499_0
                cases e499
                replace hx499_0 := (HB.out.cell (World.block_lt_of_cell? w _ hx499_0)).trans hx499_0
                have HR499_0 := Aside0.mk hi499_0
                have HC499_0 := Aside0.mk hl499_0
                clear hi499_0 hl499_0
                replace p499 := eq_true p499
                replace q499 := eq_true q499
                have p500 : 0 ≤ (x76_5 : Int) := of_decide_eq_true (by first | (with_reducible assumption) | assumption)
                have q500 : x76_5 < ((rd_L1 l0_8 x70_4).length : Int) := of_decide_eq_true (by first | (with_reducible assumption) | assumption)
                obtain ⟨ad500, e500, hx500_0⟩ := Kd.at_int HR499_0.out x76_5 p500 q500
                have hw500_0 := hx500_0
                cases e500
                replace hx500_0 := (HB.out.cell (World.block_lt_of_cell? w _ hx500_0)).trans hx500_0
                replace p500 := eq_true p500
                replace q500 := eq_true q500
                refine start_ (n := 17) (S := fun w' => w'.cell? ⟨gb472, 0, none⟩ = some (.int .i64 a0_0) ∧ w'.cell? ⟨gb472, 1, none⟩ = some (.int .i64 a0_1) ∧ w'.cell? ⟨gb472, 2, none⟩ = some (.int .i64 a0_2) ∧ w'.cell? ⟨gb472, 3, none⟩ = some (.int .i64 a0_3) ∧ w'.cell? ⟨gb472, 4, none⟩ = some (.int .i64 a0_4) ∧ w'.cell? ⟨gb472, 5, none⟩ = some (.int .i64 a0_5) ∧ w'.cell? ⟨gb472, 6, none⟩ = some (.int .i64 a0_6) ∧ w'.cell? ⟨gb472, 7, none⟩ = some (.slice (some ad496) l0_7.length c0_7) ∧ w'.cell? ⟨gb472, 8, none⟩ = some (.slice (some ad499) l0_8.length c0_8) ∧ w'.cell? (ad499.add (x70_4).toNat) = some (.slice (some ad500) (rd_L1 l0_8 x70_4).length c499_0) ∧ w'.cell? (ad500.add (x76_5).toNat) = some (.int .i32 (rd (rd_L1 l0_8 x70_4) x76_5))) (ds := []) #[false, false, false, false, false, false, false, false, false, false, false, false, false, false, false, false, false] (by kernel_rfl) rfl rfl ⟨(blk_cell BK472.out 0).trans rfl, (blk_cell BK472.out 1).trans rfl, (blk_cell BK472.out 2).trans rfl, (blk_cell BK472.out 3).trans rfl, (blk_cell BK472.out 4).trans rfl, (blk_cell BK472.out 5).trans rfl, (blk_cell BK472.out 6).trans rfl, (blk_cell BK472.out 7).trans rfl, (blk_cell BK472.out 8).trans rfl, ((HB.out.cell (World.block_lt_of_cell? w _ hw499_0)).trans hw499_0), ((HB.out.cell (World.block_lt_of_cell? w _ hw500_0)).trans hw500_0)⟩ (fun hHeld => ?_); refine with_tabW credenzalaw08_PageNear.tab16 credenzalaw08_PageNear.bits16 (fun HT_ HW_ => ?_)
                generalize w68.drew = w69 at HO_3 HO_5 HO_6 BK472 HB HR499_0 hx499_0 hx500_0 hHeld ⊢
                refine pure_ (i := 0) (N := some 95) (v := ?_) (a' := ?_) #[true, false, false, false, false, false, false, false, false, false, false, false, false, false, false, false, false] rfl rfl (any_of HT_.out (by kernel_rfl)) (fun _ _ _ h => h) (Or.inl ⟨by rfl, ?_⟩) ?_ ?_
                rotate_left
                ·
                 intro w'
                 go_simp
                 with_reducible rfl
                rotate_left
                ·
                 simp only [Act.put, List.setIfInBounds_toArray, List.set_cons_zero, List.set_cons_succ, i64_w, i32_w, IntKind.wrap_u32]
                 rfl
                refine pure_ (i := 1) (N := some 96) (v := ?_) (a' := ?_) #[true, true, false, false, false, false, false, false, false, false, false, false, false, false, false, false, false] rfl rfl (any_of HT_.out (by kernel_rfl)) (fun _ _ _ h => h) (Or.inl ⟨by rfl, ?_⟩) ?_ ?_
                rotate_left
                ·
                 intro w'
                 go_simp
                 with_reducible rfl
                rotate_left
                ·
                 simp only [Act.put, List.setIfInBounds_toArray, List.set_cons_zero, List.set_cons_succ, i64_w, i32_w, IntKind.wrap_u32]
                 rfl
                refine pure_ (i := 2) (N := some 97) (v := ?_) (a' := ?_) #[true, true, true, false, false, false, false, false, false, false, false, false, false, false, false, false, false] rfl rfl (any_of HT_.out (by kernel_rfl)) (fun _ _ _ h => h) (Or.inl ⟨by rfl, ?_⟩) ?_ ?_
                rotate_left
                ·
                 intro w'
                 go_simp
                 with_reducible rfl
                rotate_left
                ·
                 simp only [Act.put, List.setIfInBounds_toArray, List.set_cons_zero, List.set_cons_succ, i64_w, i32_w, IntKind.wrap_u32]
                 rfl
                refine pure_ (i := 5) (N := some 100) (v := ?_) (a' := ?_) #[true, true, true, false, false, true, false, false, false, false, false, false, false, false, false, false, false] rfl rfl (any_of HT_.out (by kernel_rfl)) (fun _ _ _ h => h) (Or.inl ⟨by rfl, ?_⟩) ?_ ?_
                rotate_left
                ·
                 intro w'
                 go_simp
                 with_reducible rfl
                rotate_left
                ·
                 simp only [Act.put, List.setIfInBounds_toArray, List.set_cons_zero, List.set_cons_succ, i64_w, i32_w, IntKind.wrap_u32]
                 rfl
                refine pure_ (i := 7) (N := some 102) (v := ?_) (a' := ?_) #[true, true, true, false, false, true, false, true, false, false, false, false, false, false, false, false, false] rfl rfl (any_of HT_.out (by kernel_rfl)) (fun _ _ _ h => h) (Or.inl ⟨by rfl, ?_⟩) ?_ ?_
                rotate_left
                ·
                 intro w'
                 go_simp
                 with_reducible rfl
                rotate_left
                ·
                 simp only [Act.put, List.setIfInBounds_toArray, List.set_cons_zero, List.set_cons_succ, i64_w, i32_w, IntKind.wrap_u32]
                 rfl
                refine pure_ (i := 10) (N := some 105) (v := ?_) (a' := ?_) #[true, true, true, false, false, true, false, true, false, false, true, false, false, false, false, false, false] rfl rfl (any_of HT_.out (by kernel_rfl)) (fun _ _ _ h => h) (Or.inl ⟨by rfl, ?_⟩) ?_ ?_
                rotate_left
                ·
                 intro w'
                 go_simp
                 with_reducible rfl
                rotate_left
                ·
                 simp only [Act.put, List.setIfInBounds_toArray, List.set_cons_zero, List.set_cons_succ, i64_w, i32_w, IntKind.wrap_u32]
                 rfl
                refine take_ (i := 6) (N := some 101) (v := ?_) (a' := ?_) #[true, true, true, false, false, true, true, true, false, false, true, false, false, false, false, false, false] rfl rfl (take_ofW HT_.out HW_.out (by kernel_rfl)) (fun _ _ _ h => h) (Or.inl ⟨by rfl, ?_⟩) hHeld ?_ ?_
                rotate_left
                ·
                 rintro w' ⟨s0, s1, s2, s3, s4, s5, s6, s7, s8, s9, s10⟩
                 go_simp
                 with_reducible rfl
                rotate_left
                ·
                 simp only [Act.put, List.setIfInBounds_toArray, List.set_cons_zero, List.set_cons_succ, i64_w, i32_w, IntKind.wrap_u32]
                 rfl
                refine pure_ (i := 8) (N := some 103) (v := ?_) (a' := ?_) #[true, true, true, false, false, true, true, true, true, false, true, false, false, false, false, false, false] rfl rfl (any_of HT_.out (by kernel_rfl)) (fun _ _ _ h => h) (Or.inl ⟨by rfl, ?_⟩) ?_ ?_
                rotate_left
                ·
                 intro w'
                 go_simp
                 with_reducible rfl
                rotate_left
                ·
                 simp only [Act.put, List.setIfInBounds_toArray, List.set_cons_zero, List.set_cons_succ, i64_w, i32_w, IntKind.wrap_u32]
                 rfl
                refine take_ (i := 9) (N := some 104) (v := ?_) (a' := ?_) #[true, true, true, false, false, true, true, true, true, true, true, false, false, false, false, false, false] rfl rfl (take_ofW HT_.out HW_.out (by kernel_rfl)) (fun _ _ _ h => h) (Or.inl ⟨by rfl, ?_⟩) hHeld ?_ ?_
                rotate_left
                ·
                 rintro w' ⟨s0, s1, s2, s3, s4, s5, s6, s7, s8, s9, s10⟩
                 go_simp
                 with_reducible rfl
                rotate_left
                ·
                 simp only [Act.put, List.setIfInBounds_toArray, List.set_cons_zero, List.set_cons_succ, i64_w, i32_w, IntKind.wrap_u32]
                 rfl
                refine pure_ (i := 11) (N := some 106) (v := ?_) (a' := ?_) #[true, true, true, false, false, true, true, true, true, true, true, true, false, false, false, false, false] rfl rfl (any_of HT_.out (by kernel_rfl)) (fun _ _ _ h => h) (Or.inl ⟨by rfl, ?_⟩) ?_ ?_
                rotate_left
                ·
                 intro w'
                 go_simp
                 with_reducible rfl
                rotate_left
                ·
                 simp only [Act.put, List.setIfInBounds_toArray, List.set_cons_zero, List.set_cons_succ, i64_w, i32_w, IntKind.wrap_u32]
                 rfl
                refine take_ (i := 12) (N := some 107) (v := ?_) (a' := ?_) #[true, true, true, false, false, true, true, true, true, true, true, true, true, false, false, false, false] rfl rfl (take_ofW HT_.out HW_.out (by kernel_rfl)) (fun _ _ _ h => h) (Or.inl ⟨by rfl, ?_⟩) hHeld ?_ ?_
                rotate_left
                ·
                 rintro w' ⟨s0, s1, s2, s3, s4, s5, s6, s7, s8, s9, s10⟩
                 go_simp
                 with_reducible rfl
                rotate_left
                ·
                 simp only [Act.put, List.setIfInBounds_toArray, List.set_cons_zero, List.set_cons_succ, i64_w, i32_w, IntKind.wrap_u32]
                 rfl
                refine pure_ (i := 13) (N := some 108) (v := ?_) (a' := ?_) #[true, true, true, false, false, true, true, true, true, true, true, true, true, true, false, false, false] rfl rfl (any_of HT_.out (by kernel_rfl)) (fun _ _ _ h => h) (Or.inl ⟨by rfl, ?_⟩) ?_ ?_
                rotate_left
                ·
                 intro w'
                 go_simp
                 with_reducible rfl
                rotate_left
                ·
                 simp only [Act.put, List.setIfInBounds_toArray, List.set_cons_zero, List.set_cons_succ, i64_w, i32_w, IntKind.wrap_u32]
                 rfl
                refine one_ (i := 3) (N := some 98) #[true, true, true, true, false, true, true, true, true, true, true, true, true, true, false, false, false] rfl rfl (one_of HT_.out (by kernel_rfl)) (by decide) (fun K hK => ?_)
                refine goes_ Try.func19 (by kernel_rfl) rfl #[asPtr (.slice Ao39 t484.length co39), .int .i64 x70_4, .int .i64 x76_5] (by rfl) rfl rfl (by (try simp only [List.map_toArray, List.map_cons, List.map_nil]); first | done | rfl | (simp only [List.length_drop, List.length_take]; rfl)) ?_
                with_reducible refine (page_Page_Value.calls _ _ t484 x70_4 x76_5 t498 _ ?side1 ?side2 A58.out).mono ?_
                (case side1 => with_reducible exact (Kd.R_reads' HO_3.out).2.2)
                (case side2 => exact (Kd.R_reads' HO_3.out).2.1)
                rintro e w70 ⟨rfl, hb⟩
                refine ⟨_, rfl, ?_⟩
                replace HO_3 := Aside0.mk (Kd.R_below (by (with_reducible repeat (first | apply Kd.R_alloc | apply Kd.R_drewN | apply Kd.R_drew)); exact HO_3.out) hb)
                replace HO_5 := Aside0.mk (Kd.S_below (by (with_reducible repeat (first | apply Kd.S_alloc | apply Kd.S_drewN | apply Kd.S_drew)); exact HO_5.out) hb)
                replace HO_6 := Aside0.mk (Kd.S_below (by (with_reducible repeat (first | apply Kd.S_alloc | apply Kd.S_drewN | apply Kd.S_drew)); exact HO_6.out) hb)
                replace BK472 := Aside0.mk (blk_below (g := gb472) (o := .cells #[.int .i64 a0_0, .int .i64 a0_1, .int .i64 a0_2, .int .i64 a0_3, .int .i64 a0_4, .int .i64 a0_5, .int .i64 a0_6, .slice (some ad496) l0_7.length c0_7, .slice (some ad499) l0_8.length c0_8] 26 (0, 0)) (by (with_reducible repeat (first | refine blk_drewN ?_ _ | refine blk_drew ?_ | refine blk_alloc ?_ _)); exact BK472.out) hb)
                replace HB := Aside0.mk (below_step (by repeat (first | (with_reducible first | exact HB.out | apply below_alloc | apply pw_below_drewN | apply below_drew1 | refine below_set ?_ GE472.out) | exact HB.out)) hb)
                (try clear hb)
                (try clear hb2)
                (try clear hk)
                (try clear hi)
                refine hK.out _ _ ⟨(blk_cell BK472.out 0).trans rfl, (blk_cell BK472.out 1).trans rfl, (blk_cell BK472.out 2).trans rfl, (blk_cell BK472.out 3).trans rfl, (blk_cell BK472.out 4).trans rfl, (blk_cell BK472.out 5).trans rfl, (blk_cell BK472.out 6).trans rfl, (blk_cell BK472.out 7).trans rfl, (blk_cell BK472.out 8).trans rfl, ((HB.out.cell (World.block_lt_of_cell? w _ hw499_0)).trans hw499_0), ((HB.out.cell (World.block_lt_of_cell? w _ hw500_0)).trans hw500_0)⟩ (fun hHeld => ?_)
                clear hK K
                refine norm_ (a' := ?_) ?_ ?_
                rotate_left
                ·
                 show Act.put _ (some 98) _ = _
                 simp only [Act.put, List.setIfInBounds_toArray, List.set_cons_zero, List.set_cons_succ, i64_w, i32_w, IntKind.wrap_u32]
                 rfl
                refine pure_ (i := 4) (N := some 99) (v := ?_) (a' := ?_) #[true, true, true, true, true, true, true, true, true, true, true, true, true, true, false, false, false] rfl rfl (any_of HT_.out (by kernel_rfl)) (fun _ _ _ h => h) (Or.inl ⟨by rfl, ?_⟩) ?_ ?_
                rotate_left
                ·
                 intro w'
                 go_simp
                 with_reducible rfl
                rotate_left
                ·
                 simp only [Act.put, List.setIfInBounds_toArray, List.set_cons_zero, List.set_cons_succ, i64_w, i32_w, IntKind.wrap_u32]
                 rfl
                refine pure_ (i := 14) (N := some 109) (v := ?_) (a' := ?_) #[true, true, true, true, true, true, true, true, true, true, true, true, true, true, true, false, false] rfl rfl (any_of HT_.out (by kernel_rfl)) (fun _ _ _ h => h) (Or.inl ⟨by rfl, ?_⟩) ?_ ?_
                rotate_left
                ·
                 intro w'
                 go_simp
                 with_reducible rfl
                rotate_left
                ·
                 simp only [Act.put, List.setIfInBounds_toArray, List.set_cons_zero, List.set_cons_succ, i64_w, i32_w, IntKind.wrap_u32]
                 rfl
                refine pure_ (i := 15) (N := some 110) (v := ?_) (a' := ?_) #[true, true, true, true, true, true, true, true, true, true, true, true, true, true, true, true, false] rfl rfl (any_of HT_.out (by kernel_rfl)) (fun _ _ _ h => h) (Or.inl ⟨by rfl, ?_⟩) ?_ ?_
                rotate_left
                ·
                 intro w'
                 go_simp
                 with_reducible rfl
                rotate_left
                ·
                 simp only [Act.put, List.setIfInBounds_toArray, List.set_cons_zero, List.set_cons_succ, i64_w, i32_w, IntKind.wrap_u32]
                 rfl
                refine pure_ (i := 16) (N := some 10) (v := ?_) (a' := ?_) #[true, true, true, true, true, true, true, true, true, true, true, true, true, true, true, true, true] rfl rfl (any_of HT_.out (by kernel_rfl)) (fun _ _ _ h => h) (Or.inl ⟨by rfl, ?_⟩) ?_ ?_
                rotate_left
                ·
                 intro w'
                 go_simp
                 with_reducible rfl
                rotate_left
                ·
                 simp only [Act.put, List.setIfInBounds_toArray, List.set_cons_zero, List.set_cons_succ, i64_w, i32_w, IntKind.wrap_u32]
                 rfl
                refine done_ (done_of HT_.out (by kernel_rfl)) ?_
                obtain ⟨Ao71, co71, eo71⟩ := Kd.S_slice HO_5.out
                subst eo71
                have p501 : 0 ≤ (x76_5 : Int) := of_decide_eq_true (by first | (with_reducible assumption) | assumption)
                have q501 : x76_5 < (t488.length : Int) := of_decide_eq_true (by first | (with_reducible assumption) | assumption)
                obtain ⟨ad501, A501_2, c501_2, e501, hx501_0, hx501_1, hx501_2, hl501_2, hi501_2⟩ := at_T47 (Kd.S_reads' HO_5.out).2.2 x76_5 p501 q501
                cases e501
                obtain ⟨ce501, hce501, hMe501, hcc501⟩ := Kd.S_get HO_5.out z47 x76_5 p501 (by first | exact q501 | exact of_decide_eq_true (by first | (with_reducible assumption) | assumption) | (have e_ := (Kd.S_reads' HO_5.out).1; omega))
                obtain ⟨ve501_2, rfl, ge501_2⟩ := k47_openM hMe501
                have hv501_2 := hcc501 2 _ rfl
                rw [add_field _ _ 2 (by omega)] at hv501_2
                replace hv501_2 := Option.some.inj (hv501_2.symm.trans hx501_2)
                rw [hv501_2] at ge501_2
                have HL501_2 := Aside0.mk (show Kd.R (Kd.int .i64) 3 _ _ _ _ ((rd_T47 t488 x76_5).f2) from ge501_2)
                clear hv501_2 ge501_2
                clear hcc501 hce501
                have HR501_2 := Aside0.mk hi501_2
                have HC501_2 := Aside0.mk hl501_2
                clear hi501_2 hl501_2
                replace p501 := eq_true p501
                replace q501 := eq_true q501
                have p502 : 0 ≤ (x76_5 : Int) := of_decide_eq_true (by first | (with_reducible assumption) | assumption)
                have q502 : x76_5 < (t488.length : Int) := of_decide_eq_true (by first | (with_reducible assumption) | assumption)
                obtain ⟨ad502, A502_2, c502_2, e502, hx502_0, hx502_1, hx502_2, hl502_2, hi502_2⟩ := at_T47 (Kd.S_reads' HO_5.out).2.2 x76_5 p502 q502
                obtain rfl : ad501 = ad502 := (by injection e502)
                obtain ⟨ce502, hce502, hMe502, hcc502⟩ := Kd.S_get HO_5.out z47 x76_5 p502 (by first | exact q502 | exact of_decide_eq_true (by first | (with_reducible assumption) | assumption) | (have e_ := (Kd.S_reads' HO_5.out).1; omega))
                obtain ⟨ve502_2, rfl, ge502_2⟩ := k47_openM hMe502
                have hv502_2 := hcc502 2 _ rfl
                rw [add_field _ _ 2 (by omega)] at hv502_2
                replace hv502_2 := Option.some.inj (hv502_2.symm.trans hx502_2)
                rw [hv502_2] at ge502_2
                have HL502_2 := Aside0.mk (show Kd.R (Kd.int .i64) 3 _ _ _ _ ((rd_T47 t488 x76_5).f2) from ge502_2)
                clear hv502_2 ge502_2
                clear hcc502 hce502
                have HR502_2 := Aside0.mk hi502_2
                have HC502_2 := Aside0.mk hl502_2
                clear hi502_2 hl502_2
                replace p502 := eq_true p502
                replace q502 := eq_true q502
                have ea_ := Option.some.inj (hx501_2.symm.trans hx502_2)
                injection ea_ with ea_ en_ ec_
                subst ea_
                subst ec_
                clear en_
                obtain ⟨Ao72, co72, eo72⟩ := Kd.S_slice HO_6.out
                subst eo72
                have p503 : 0 ≤ (x70_4 : Int) := of_decide_eq_true (by first | (with_reducible assumption) | assumption)
                have q503 : x70_4 < (t491.length : Int) := of_decide_eq_true (by first | (with_reducible assumption) | assumption)
                obtain ⟨ad503, A503_2, c503_2, e503, hx503_0, hx503_1, hx503_2, hl503_2, hi503_2⟩ := at_T47 (Kd.S_reads' HO_6.out).2.2 x70_4 p503 q503
                cases e503
                obtain ⟨ce503, hce503, hMe503, hcc503⟩ := Kd.S_get HO_6.out z47 x70_4 p503 (by first | exact q503 | exact of_decide_eq_true (by first | (with_reducible assumption) | assumption) | (have e_ := (Kd.S_reads' HO_6.out).1; omega))
                obtain ⟨ve503_2, rfl, ge503_2⟩ := k47_openM hMe503
                have hv503_2 := hcc503 2 _ rfl
                rw [add_field _ _ 2 (by omega)] at hv503_2
                replace hv503_2 := Option.some.inj (hv503_2.symm.trans hx503_2)
                rw [hv503_2] at ge503_2
                have HL503_2 := Aside0.mk (show Kd.R (Kd.int .i64) 3 _ _ _ _ ((rd_T47 t491 x70_4).f2) from ge503_2)
                clear hv503_2 ge503_2
                clear hcc503 hce503
                have HR503_2 := Aside0.mk hi503_2
                have HC503_2 := Aside0.mk hl503_2
                clear hi503_2 hl503_2
                replace p503 := eq_true p503
                replace q503 := eq_true q503
                have p504 : 0 ≤ (x70_4 : Int) := of_decide_eq_true (by first | (with_reducible assumption) | assumption)
                have q504 : x70_4 < (t491.length : Int) := of_decide_eq_true (by first | (with_reducible assumption) | assumption)
                obtain ⟨ad504, A504_2, c504_2, e504, hx504_0, hx504_1, hx504_2, hl504_2, hi504_2⟩ := at_T47 (Kd.S_reads' HO_6.out).2.2 x70_4 p504 q504
                obtain rfl : ad503 = ad504 := (by injection e504)
                obtain ⟨ce504, hce504, hMe504, hcc504⟩ := Kd.S_get HO_6.out z47 x70_4 p504 (by first | exact q504 | exact of_decide_eq_true (by first | (with_reducible assumption) | assumption) | (have e_ := (Kd.S_reads' HO_6.out).1; omega))
                obtain ⟨ve504_2, rfl, ge504_2⟩ := k47_openM hMe504
                have hv504_2 := hcc504 2 _ rfl
                rw [add_field _ _ 2 (by omega)] at hv504_2
                replace hv504_2 := Option.some.inj (hv504_2.symm.trans hx504_2)
                rw [hv504_2] at ge504_2
                have HL504_2 := Aside0.mk (show Kd.R (Kd.int .i64) 3 _ _ _ _ ((rd_T47 t491 x70_4).f2) from ge504_2)
                clear hv504_2 ge504_2
                clear hcc504 hce504
                have HR504_2 := Aside0.mk hi504_2
                have HC504_2 := Aside0.mk hl504_2
                clear hi504_2 hl504_2
                replace p504 := eq_true p504
                replace q504 := eq_true q504
                have ea_ := Option.some.inj (hx503_2.symm.trans hx504_2)
                injection ea_ with ea_ en_ ec_
                subst ea_
                subst ec_
                clear en_
                try go_wp2
                go_roundg k5
                case measure => have := HJ1.out; have := HJ28.out; have := HJ37.out; have := HK4.out; have := HK5.out; omega
                case rel => exact ⟨(wrap64 (x76_5 + 1)), (by first | rfl | (simp; done) | (simp [*]; done)), H', ⟨by have := HJ1.out; have := HJ28.out; have := HJ37.out; have := HK4.out; have := HK5.out; omega⟩, ⟨by exact HO_3.out⟩, ⟨by exact HO_5.out⟩, ⟨by exact HO_6.out⟩, ⟨by exact BK472.out⟩, ⟨by with_reducible exact HB.out⟩⟩
               ·
                rw [if_neg c52] at H
                have c52b0 : decide (x76_5 < a0_3) = false := decide_eq_false c52
                clear c52
                have H' := Aside0.mk H
                clear H
                go_wp2
                go_roundg k5
                case measure => have := HJ1.out; have := HJ28.out; have := HJ37.out; have := HK4.out; have := HK5.out; omega
                case rel => exact ⟨(wrap64 (x70_4 + 1)), (by first | rfl | (simp; done) | (simp [*]; done)), H', ⟨by have := HJ1.out; have := HJ28.out; have := HJ37.out; have := HK4.out; have := HK5.out; omega⟩, ⟨by exact HO_3.out⟩, ⟨by exact HO_5.out⟩, ⟨by exact HO_6.out⟩, ⟨by exact BK472.out⟩, ⟨by with_reducible exact HB.out⟩⟩
            ·
             rw [if_neg c50] at H
             have c50b0 : decide (x70_4 < a0_2) = false := decide_eq_false c50
             clear c50
             replace H := Option.bind_eq_some_iff.mp H
             obtain ⟨t494, A730, H⟩ := H
             replace H : (some t494) = some r := H
             have A73 := Aside0.mk A730
             clear A730
             obtain rfl := Option.some.inj H
             go_wp2_with (first | ((with_reducible refine gate_callee (f := 12) rfl ?_); refine goesL_ (some 153) rfl rfl Try.func12 (by kernel_rfl) rfl #[] rfl (by (try simp only [List.map_toArray, List.map_cons, List.map_nil]); first | done | rfl | (simp only [List.length_drop, List.length_take]; rfl)) ?_; (with_reducible refine (credenzalaw08_awake.calls k4  t494 _ A73.out).mono ?_); rintro e w74 ⟨rfl, hb⟩; refine ⟨_, rfl, ?_⟩; replace HO_3 := Aside0.mk (Kd.R_below (by exact HO_3.out) hb); replace HO_5 := Aside0.mk (Kd.S_below (by exact HO_5.out) hb); replace HO_6 := Aside0.mk (Kd.S_below (by exact HO_6.out) hb); replace BK472 := Aside0.mk (blk_below (g := gb472) (o := .cells #[.int .i64 a0_0, .int .i64 a0_1, .int .i64 a0_2, .int .i64 a0_3, .int .i64 a0_4, .int .i64 a0_5, .int .i64 a0_6, .slice A0_7 l0_7.length c0_7, .slice A0_8 l0_8.length c0_8] 26 (0, 0)) (by exact BK472.out) hb); replace HB := Aside0.mk (below_step (by with_reducible exact HB.out) hb); clear hb))
             go_ret
             exact ⟨by first | rfl | (simp [errW_none, errW_some] <;> rfl) | (simp [*, errW_none, errW_some] <;> rfl), by with_reducible exact HB.out⟩

/-- THE ONE PURE STATEMENT of credenzalaw08_PageNear: yours. -/
def credenzalaw08_PageNear.Pure : Prop := ∀ (a0_0 : Int) (a0_1 : Int) (a0_2 : Int) (a0_3 : Int) (a0_4 : Int) (a0_5 : Int) (a0_6 : Int) (l0_7 : List (List Int)) (l0_8 : List (List Int)), (Lit.int .i64 a0_0).wf = true → (Lit.int .i64 a0_1).wf = true → (Lit.int .i64 a0_2).wf = true → (Lit.int .i64 a0_3).wf = true → (Lit.int .i64 a0_4).wf = true → (Lit.int .i64 a0_5).wf = true → (Lit.int .i64 a0_6).wf = true → l0_7.length ≤ maxLen → (∀ z ∈ l0_7, (z.length ≤ maxLen ∧ ∀ z1 ∈ z, (Lit.int .i32 z1).wf = true)) → l0_8.length ≤ maxLen → (∀ z ∈ l0_8, (z.length ≤ maxLen ∧ ∀ z1 ∈ z, (Lit.int .i32 z1).wf = true)) → ∃ k, credenzalaw08_PageNear.f k a0_0 a0_1 a0_2 a0_3 a0_4 a0_5 a0_6 l0_7 l0_8 = some true
theorem credenzalaw08_PageNear.walk (P : credenzalaw08_PageNear.Pure) (a0_0 : Int) (a0_1 : Int) (a0_2 : Int) (a0_3 : Int) (a0_4 : Int) (a0_5 : Int) (a0_6 : Int) (A0_7 : Option Addr) (c0_7 : Nat) (l0_7 : List (List Int)) (A0_8 : Option Addr) (c0_8 : Nat) (l0_8 : List (List Int)) (w : World) (w0_0 : (Lit.int .i64 a0_0).wf = true) (w0_1 : (Lit.int .i64 a0_1).wf = true) (w0_2 : (Lit.int .i64 a0_2).wf = true) (w0_3 : (Lit.int .i64 a0_3).wf = true) (w0_4 : (Lit.int .i64 a0_4).wf = true) (w0_5 : (Lit.int .i64 a0_5).wf = true) (w0_6 : (Lit.int .i64 a0_6).wf = true) (hr0_7 : Kd.C (Kd.slice 21 (Kd.int .i32)) w A0_7 l0_7.length l0_7) (hc0_7 : l0_7.length ≤ c0_7) (hm0_7 : l0_7.length ≤ maxLen) (hq0_7 : ∀ z ∈ l0_7, (z.length ≤ maxLen ∧ ∀ z1 ∈ z, (Lit.int .i32 z1).wf = true)) (hr0_8 : Kd.C (Kd.slice 21 (Kd.int .i32)) w A0_8 l0_8.length l0_8) (hc0_8 : l0_8.length ≤ c0_8) (hm0_8 : l0_8.length ≤ maxLen) (hq0_8 : ∀ z ∈ l0_8, (z.length ≤ maxLen ∧ ∀ z1 ∈ z, (Lit.int .i32 z1).wf = true)) :
  Calls Try.prog 4 #[.agg #[.int .i64 a0_0, .int .i64 a0_1, .int .i64 a0_2, .int .i64 a0_3, .int .i64 a0_4, .int .i64 a0_5, .int .i64 a0_6, .slice A0_7 l0_7.length c0_7, .slice A0_8 l0_8.length c0_8]] w fun e w' => e = .returned (.bool true) ∧ Below w.heap.size w w' := by
 obtain ⟨k, h⟩ := P a0_0 a0_1 a0_2 a0_3 a0_4 a0_5 a0_6 l0_7 l0_8 w0_0 w0_1 w0_2 w0_3 w0_4 w0_5 w0_6 hm0_7 hq0_7 hm0_8 hq0_8
 refine (credenzalaw08_PageNear.calls k a0_0 a0_1 a0_2 a0_3 a0_4 a0_5 a0_6 _ _ l0_7 _ _ l0_8 true w hr0_7 hc0_7 hr0_8 hc0_8 h).mono ?_
 rintro e w' ⟨rfl, hd⟩
 exact ⟨rfl, hd⟩

end Go.Proofs.Ytekenaclmplocaa.PPageNear
