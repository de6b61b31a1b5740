-- Written by a program of this session (wip/tools/mkprint.py over the kit's print).
import Derived.Test.YtehepnmagcjkaaaPAskParsesx0
import Derived.Test.YtehepnmagcjkaaaPAskParsesx7
import Derived.Test.YtehepnmagcjkaaaPAskParsesx8
namespace Go.Proofs.Ytehepnmagcjkaaa.PAskParses
open Go.RowKit Go.Proofs.YtehepnmagcjkaaaW.PrintWords Go.Proofs.YtehepnmagcjkaaaW.PrintLast Go.Proofs.YtehepnmagcjkaaaW.PrintMore
attribute [local go_sem] max2_int min2_int max_two min_two max_three min_three max_four min_four   -- for this text's walks alone
set_option linter.unusedVariables false
set_option linter.unusedSimpArgs false

/-! ### credenzaref22_Parse: function 21 -/
mutual
def credenzaref22_Parse.j0 : Nat → ByteArray → Bool → Int → Int → Int → Int → Int → Int → Int → Int → Option (Int × Int × List Int × Int × Int × Int × Int × Int × Int × Int)
 | 0, _, _, _, _, _, _, _, _, _, _ => none
 | k + 1, x0, x23, x273000, x273001, x273003, x273004, x273005, x273006, x273007, x273008 => if x23 = true then (some (0, 0, ([] : List Int), 0, 0, 0, 0, 0, 0, 29)) else (if x273000 = 1 then (credenzaref22_Parse.j1 k x0 23 x273000 x273001 x273003 x273004 x273005 x273006 x273007 x273008) else (credenzaref22_Parse.j1 k x0 2 x273000 x273001 x273003 x273004 x273005 x273006 x273007 x273008))
def credenzaref22_Parse.j1 : Nat → ByteArray → Int → Int → Int → Int → Int → Int → Int → Int → Int → Option (Int × Int × List Int × Int × Int × Int × Int × Int × Int × Int)
 | 0, _, _, _, _, _, _, _, _, _, _ => none
 | k + 1, x0, x5, x273000, x273001, x273003, x273004, x273005, x273006, x273007, x273008 => if x273000 = 2 then (credenzaref22_Parse.j2 k x0 5 x273000 x273001 x273003 x273004 x273005 x273006 x273007 x273008) else (credenzaref22_Parse.j2 k x0 x5 x273000 x273001 x273003 x273004 x273005 x273006 x273007 x273008)
def credenzaref22_Parse.j2 : Nat → ByteArray → Int → Int → Int → Int → Int → Int → Int → Int → Int → Option (Int × Int × List Int × Int × Int × Int × Int × Int × Int × Int)
 | 0, _, _, _, _, _, _, _, _, _, _ => none
 | k + 1, x0, x5, x273000, x273001, x273003, x273004, x273005, x273006, x273007, x273008 => if (x0.size : Int) < x5 then (some (0, 0, ([] : List Int), 0, 0, 0, 0, 0, 0, 16)) else (if x273000 > 2 then (if 1 < (x0.size : Int) then (credenzaref22_Parse.j3 k x0 x5 x273000 x273001 x273003 x273004 x273005 x273006 x273007 (wrap64 (bt x0 1))) else (none)) else ((credenzaref22_number.f k x0 1 4).bind fun t273 => (credenzaref22_Parse.j3 k x0 x5 x273000 ((t273) % 4294967296) x273003 x273004 x273005 x273006 x273007 x273008)))
def credenzaref22_Parse.j3 : Nat → ByteArray → Int → Int → Int → Int → Int → Int → Int → Int → Int → Option (Int × Int × List Int × Int × Int × Int × Int × Int × Int × Int)
 | 0, _, _, _, _, _, _, _, _, _, _ => none
 | k + 1, x0, x5, x273000, x273001, x273003, x273004, x273005, x273006, x273007, x273008 => if x273000 = 1 then ((credenzaref22_number.f k x0 21 2).bind fun t274 => (if t274 > 1024 then (some (0, 0, ([] : List Int), 0, 0, 0, 0, 0, 0, 12)) else (if (x0.size : Int) < (wrap64 (x5 + t274)) then (some (0, 0, ([] : List Int), 0, 0, 0, 0, 0, 0, 16)) else ((credenzaref22_number.f k x0 5 2).bind fun t275 => ((credenzaref22_number.f k x0 7 1).bind fun t276 => (if 8 ≤ 12 then (if 12 ≤ (x0.size : Int) then ((credenzaref06_Signed.f k (x0.extract 8 12)).bind fun t277 => ((credenzaref22_number.f k x0 12 1).bind fun t278 => (if 13 ≤ 21 then (if 21 ≤ (x0.size : Int) then ((credenzaref06_Number.f k (x0.extract 13 21)).bind fun t279 => (credenzaref22_Parse.l0 k x0 x5 t274 0 x273000 x273001 ([] : List Int) t275 (wrap64 (t276 - 1)) t277 t278 t279 x273008)) else (none)) else (none)))) else (none)) else (none))))))) else (credenzaref22_Parse.j5 k x0 x5 x273000 x273001 ([] : List Int) x273003 x273004 x273005 x273006 x273007 x273008)
def credenzaref22_Parse.j5 : Nat → ByteArray → Int → Int → Int → List Int → Int → Int → Int → Int → Int → Int → Option (Int × Int × List Int × Int × Int × Int × Int × Int × Int × Int)
 | 0, _, _, _, _, _, _, _, _, _, _, _ => none
 | k + 1, x0, x5, x273000, x273001, x273002, x273003, x273004, x273005, x273006, x273007, x273008 => if (x0.size : Int) > x5 then (some (0, 0, ([] : List Int), 0, 0, 0, 0, 0, 0, 17)) else ((credenzaref22_Ranged.f k x273000 x273001 x273002 x273003 x273004 x273005 x273006 x273007 x273008).bind fun t283 => (if t283 = true then (some (x273000, x273001, x273002, x273003, x273004, x273005, x273006, x273007, x273008, 0)) else (some (0, 0, ([] : List Int), 0, 0, 0, 0, 0, 0, 11))))
def credenzaref22_Parse.l0 : Nat → ByteArray → Int → Int → Int → Int → Int → List Int → Int → Int → Int → Int → Int → Int → Option (Int × Int × List Int × Int × Int × Int × Int × Int × Int × Int)
 | 0, _, _, _, _, _, _, _, _, _, _, _, _, _ => none
 | k + 1, x0, x5, x6, x7, x273000, x273001, x273002, x273003, x273004, x273005, x273006, x273007, x273008 => if x7 < x6 then (if 0 ≤ (wrap64 (x5 + x7)) then (if (wrap64 (x5 + x7)) < (x0.size : Int) then (if x273002.length < 17592186044416 then (credenzaref22_Parse.l0 k x0 x5 x6 (wrap64 (x7 + 1)) x273000 x273001 (x273002 ++ [wrap64 (bt x0 (wrap64 (x5 + x7)))]) x273003 x273004 x273005 x273006 x273007 x273008) else (none)) else (none)) else (none)) else (credenzaref22_Parse.j5 k x0 (wrap64 (x5 + x6)) x273000 x273001 x273002 x273003 x273004 x273005 x273006 x273007 x273008)
end
def credenzaref22_Parse.f (k : Nat) (a0 : ByteArray) : Option (Int × Int × List Int × Int × Int × Int × Int × Int × Int × Int) := if (a0.size : Int) = 0 then (some (0, 0, ([] : List Int), 0, 0, 0, 0, 0, 0, 16)) else (if 0 < (a0.size : Int) then (if (wrap64 (bt a0 0)) < 1 then (credenzaref22_Parse.j0 k a0 true (wrap64 (bt a0 0)) 0 0 0 0 0 0 0) else (credenzaref22_Parse.j0 k a0 (decide ((wrap64 (bt a0 0)) > 4)) (wrap64 (bt a0 0)) 0 0 0 0 0 0 0)) else (none))
theorem credenzaref22_Parse.mono_l : ∀ k, (∀ y0 y1 y2 y3 y4 y5 y6 y7 y8 y9, LeO (credenzaref22_Parse.j0 k y0 y1 y2 y3 y4 y5 y6 y7 y8 y9) (credenzaref22_Parse.j0 (k + 1) y0 y1 y2 y3 y4 y5 y6 y7 y8 y9)) ∧ (∀ y0 y1 y2 y3 y4 y5 y6 y7 y8 y9, LeO (credenzaref22_Parse.j1 k y0 y1 y2 y3 y4 y5 y6 y7 y8 y9) (credenzaref22_Parse.j1 (k + 1) y0 y1 y2 y3 y4 y5 y6 y7 y8 y9)) ∧ (∀ y0 y1 y2 y3 y4 y5 y6 y7 y8 y9, LeO (credenzaref22_Parse.j2 k y0 y1 y2 y3 y4 y5 y6 y7 y8 y9) (credenzaref22_Parse.j2 (k + 1) y0 y1 y2 y3 y4 y5 y6 y7 y8 y9)) ∧ (∀ y0 y1 y2 y3 y4 y5 y6 y7 y8 y9, LeO (credenzaref22_Parse.j3 k y0 y1 y2 y3 y4 y5 y6 y7 y8 y9) (credenzaref22_Parse.j3 (k + 1) y0 y1 y2 y3 y4 y5 y6 y7 y8 y9)) ∧ (∀ y0 y1 y2 y3 y4 y5 y6 y7 y8 y9 y10, LeO (credenzaref22_Parse.j5 k y0 y1 y2 y3 y4 y5 y6 y7 y8 y9 y10) (credenzaref22_Parse.j5 (k + 1) y0 y1 y2 y3 y4 y5 y6 y7 y8 y9 y10)) ∧ (∀ y0 y1 y2 y3 y4 y5 y6 y7 y8 y9 y10 y11 y12, LeO (credenzaref22_Parse.l0 k y0 y1 y2 y3 y4 y5 y6 y7 y8 y9 y10 y11 y12) (credenzaref22_Parse.l0 (k + 1) y0 y1 y2 y3 y4 y5 y6 y7 y8 y9 y10 y11 y12))
 | 0 => ⟨fun _ _ _ _ _ _ _ _ _ _ r h => by simp [credenzaref22_Parse.j0] at h, fun _ _ _ _ _ _ _ _ _ _ r h => by simp [credenzaref22_Parse.j1] at h, fun _ _ _ _ _ _ _ _ _ _ r h => by simp [credenzaref22_Parse.j2] at h, fun _ _ _ _ _ _ _ _ _ _ r h => by simp [credenzaref22_Parse.j3] at h, fun _ _ _ _ _ _ _ _ _ _ _ r h => by simp [credenzaref22_Parse.j5] at h, fun _ _ _ _ _ _ _ _ _ _ _ _ _ r h => by simp [credenzaref22_Parse.l0] at h⟩
 | k + 1 => by
  obtain ⟨ih0, ih1, ih2, ih3, ih4, ih5⟩ := credenzaref22_Parse.mono_l k
  refine ⟨?_, ?_, ?_, ?_, ?_, ?_⟩
  ·
   intro y0 y1 y2 y3 y4 y5 y6 y7 y8 y9
   unfold credenzaref22_Parse.j0
   repeat' first
   | (with_reducible exact ih0 _ _ _ _ _ _ _ _ _ _)
   | (with_reducible exact ih1 _ _ _ _ _ _ _ _ _ _)
   | (with_reducible exact ih2 _ _ _ _ _ _ _ _ _ _)
   | (with_reducible exact ih3 _ _ _ _ _ _ _ _ _ _)
   | (with_reducible exact ih4 _ _ _ _ _ _ _ _ _ _ _)
   | (with_reducible exact ih5 _ _ _ _ _ _ _ _ _ _ _ _ _)
   | (with_reducible exact credenzaref06_Number.mono _ _)
   | (with_reducible exact credenzaref06_Signed.mono _ _)
   | (with_reducible exact credenzaref22_Ranged.mono _ _ _ _ _ _ _ _ _ _)
   | (with_reducible exact credenzaref22_number.mono _ _ _ _)
   | (with_reducible exact LeO.refl _)
   | (with_reducible exact LeO.none _)
   | (with_reducible refine LeO.ite ?_ ?_)
   | (with_reducible refine LeO.bind ?_ (fun _ => ?_))
   | exact ih0 _ _ _ _ _ _ _ _ _ _
   | exact ih1 _ _ _ _ _ _ _ _ _ _
   | exact ih2 _ _ _ _ _ _ _ _ _ _
   | exact ih3 _ _ _ _ _ _ _ _ _ _
   | exact ih4 _ _ _ _ _ _ _ _ _ _ _
   | exact ih5 _ _ _ _ _ _ _ _ _ _ _ _ _
   | exact credenzaref06_Number.mono _ _
   | exact credenzaref06_Signed.mono _ _
   | exact credenzaref22_Ranged.mono _ _ _ _ _ _ _ _ _ _
   | exact credenzaref22_number.mono _ _ _ _
   | exact LeO.none _
   | refine LeO.ite ?_ ?_
   | refine LeO.bind ?_ (fun _ => ?_)
  ·
   intro y0 y1 y2 y3 y4 y5 y6 y7 y8 y9
   unfold credenzaref22_Parse.j1
   repeat' first
   | (with_reducible exact ih0 _ _ _ _ _ _ _ _ _ _)
   | (with_reducible exact ih1 _ _ _ _ _ _ _ _ _ _)
   | (with_reducible exact ih2 _ _ _ _ _ _ _ _ _ _)
   | (with_reducible exact ih3 _ _ _ _ _ _ _ _ _ _)
   | (with_reducible exact ih4 _ _ _ _ _ _ _ _ _ _ _)
   | (with_reducible exact ih5 _ _ _ _ _ _ _ _ _ _ _ _ _)
   | (with_reducible exact credenzaref06_Number.mono _ _)
   | (with_reducible exact credenzaref06_Signed.mono _ _)
   | (with_reducible exact credenzaref22_Ranged.mono _ _ _ _ _ _ _ _ _ _)
   | (with_reducible exact credenzaref22_number.mono _ _ _ _)
   | (with_reducible exact LeO.refl _)
   | (with_reducible exact LeO.none _)
   | (with_reducible refine LeO.ite ?_ ?_)
   | (with_reducible refine LeO.bind ?_ (fun _ => ?_))
   | exact ih0 _ _ _ _ _ _ _ _ _ _
   | exact ih1 _ _ _ _ _ _ _ _ _ _
   | exact ih2 _ _ _ _ _ _ _ _ _ _
   | exact ih3 _ _ _ _ _ _ _ _ _ _
   | exact ih4 _ _ _ _ _ _ _ _ _ _ _
   | exact ih5 _ _ _ _ _ _ _ _ _ _ _ _ _
   | exact credenzaref06_Number.mono _ _
   | exact credenzaref06_Signed.mono _ _
   | exact credenzaref22_Ranged.mono _ _ _ _ _ _ _ _ _ _
   | exact credenzaref22_number.mono _ _ _ _
   | exact LeO.none _
   | refine LeO.ite ?_ ?_
   | refine LeO.bind ?_ (fun _ => ?_)
  ·
   intro y0 y1 y2 y3 y4 y5 y6 y7 y8 y9
   unfold credenzaref22_Parse.j2
   repeat' first
   | (with_reducible exact ih0 _ _ _ _ _ _ _ _ _ _)
   | (with_reducible exact ih1 _ _ _ _ _ _ _ _ _ _)
   | (with_reducible exact ih2 _ _ _ _ _ _ _ _ _ _)
   | (with_reducible exact ih3 _ _ _ _ _ _ _ _ _ _)
   | (with_reducible exact ih4 _ _ _ _ _ _ _ _ _ _ _)
   | (with_reducible exact ih5 _ _ _ _ _ _ _ _ _ _ _ _ _)
   | (with_reducible exact credenzaref06_Number.mono _ _)
   | (with_reducible exact credenzaref06_Signed.mono _ _)
   | (with_reducible exact credenzaref22_Ranged.mono _ _ _ _ _ _ _ _ _ _)
   | (with_reducible exact credenzaref22_number.mono _ _ _ _)
   | (with_reducible exact LeO.refl _)
   | (with_reducible exact LeO.none _)
   | (with_reducible refine LeO.ite ?_ ?_)
   | (with_reducible refine LeO.bind ?_ (fun _ => ?_))
   | exact ih0 _ _ _ _ _ _ _ _ _ _
   | exact ih1 _ _ _ _ _ _ _ _ _ _
   | exact ih2 _ _ _ _ _ _ _ _ _ _
   | exact ih3 _ _ _ _ _ _ _ _ _ _
   | exact ih4 _ _ _ _ _ _ _ _ _ _ _
   | exact ih5 _ _ _ _ _ _ _ _ _ _ _ _ _
   | exact credenzaref06_Number.mono _ _
   | exact credenzaref06_Signed.mono _ _
   | exact credenzaref22_Ranged.mono _ _ _ _ _ _ _ _ _ _
   | exact credenzaref22_number.mono _ _ _ _
   | exact LeO.none _
   | refine LeO.ite ?_ ?_
   | refine LeO.bind ?_ (fun _ => ?_)
  ·
   intro y0 y1 y2 y3 y4 y5 y6 y7 y8 y9
   unfold credenzaref22_Parse.j3
   repeat' first
   | (with_reducible exact ih0 _ _ _ _ _ _ _ _ _ _)
   | (with_reducible exact ih1 _ _ _ _ _ _ _ _ _ _)
   | (with_reducible exact ih2 _ _ _ _ _ _ _ _ _ _)
   | (with_reducible exact ih3 _ _ _ _ _ _ _ _ _ _)
   | (with_reducible exact ih4 _ _ _ _ _ _ _ _ _ _ _)
   | (with_reducible exact ih5 _ _ _ _ _ _ _ _ _ _ _ _ _)
   | (with_reducible exact credenzaref06_Number.mono _ _)
   | (with_reducible exact credenzaref06_Signed.mono _ _)
   | (with_reducible exact credenzaref22_Ranged.mono _ _ _ _ _ _ _ _ _ _)
   | (with_reducible exact credenzaref22_number.mono _ _ _ _)
   | (with_reducible exact LeO.refl _)
   | (with_reducible exact LeO.none _)
   | (with_reducible refine LeO.ite ?_ ?_)
   | (with_reducible refine LeO.bind ?_ (fun _ => ?_))
   | exact ih0 _ _ _ _ _ _ _ _ _ _
   | exact ih1 _ _ _ _ _ _ _ _ _ _
   | exact ih2 _ _ _ _ _ _ _ _ _ _
   | exact ih3 _ _ _ _ _ _ _ _ _ _
   | exact ih4 _ _ _ _ _ _ _ _ _ _ _
   | exact ih5 _ _ _ _ _ _ _ _ _ _ _ _ _
   | exact credenzaref06_Number.mono _ _
   | exact credenzaref06_Signed.mono _ _
   | exact credenzaref22_Ranged.mono _ _ _ _ _ _ _ _ _ _
   | exact credenzaref22_number.mono _ _ _ _
   | exact LeO.none _
   | refine LeO.ite ?_ ?_
   | refine LeO.bind ?_ (fun _ => ?_)
  ·
   intro y0 y1 y2 y3 y4 y5 y6 y7 y8 y9 y10
   unfold credenzaref22_Parse.j5
   repeat' first
   | (with_reducible exact ih0 _ _ _ _ _ _ _ _ _ _)
   | (with_reducible exact ih1 _ _ _ _ _ _ _ _ _ _)
   | (with_reducible exact ih2 _ _ _ _ _ _ _ _ _ _)
   | (with_reducible exact ih3 _ _ _ _ _ _ _ _ _ _)
   | (with_reducible exact ih4 _ _ _ _ _ _ _ _ _ _ _)
   | (with_reducible exact ih5 _ _ _ _ _ _ _ _ _ _ _ _ _)
   | (with_reducible exact credenzaref06_Number.mono _ _)
   | (with_reducible exact credenzaref06_Signed.mono _ _)
   | (with_reducible exact credenzaref22_Ranged.mono _ _ _ _ _ _ _ _ _ _)
   | (with_reducible exact credenzaref22_number.mono _ _ _ _)
   | (with_reducible exact LeO.refl _)
   | (with_reducible exact LeO.none _)
   | (with_reducible refine LeO.ite ?_ ?_)
   | (with_reducible refine LeO.bind ?_ (fun _ => ?_))
   | exact ih0 _ _ _ _ _ _ _ _ _ _
   | exact ih1 _ _ _ _ _ _ _ _ _ _
   | exact ih2 _ _ _ _ _ _ _ _ _ _
   | exact ih3 _ _ _ _ _ _ _ _ _ _
   | exact ih4 _ _ _ _ _ _ _ _ _ _ _
   | exact ih5 _ _ _ _ _ _ _ _ _ _ _ _ _
   | exact credenzaref06_Number.mono _ _
   | exact credenzaref06_Signed.mono _ _
   | exact credenzaref22_Ranged.mono _ _ _ _ _ _ _ _ _ _
   | exact credenzaref22_number.mono _ _ _ _
   | exact LeO.none _
   | refine LeO.ite ?_ ?_
   | refine LeO.bind ?_ (fun _ => ?_)
  ·
   intro y0 y1 y2 y3 y4 y5 y6 y7 y8 y9 y10 y11 y12
   unfold credenzaref22_Parse.l0
   repeat' first
   | (with_reducible exact ih0 _ _ _ _ _ _ _ _ _ _)
   | (with_reducible exact ih1 _ _ _ _ _ _ _ _ _ _)
   | (with_reducible exact ih2 _ _ _ _ _ _ _ _ _ _)
   | (with_reducible exact ih3 _ _ _ _ _ _ _ _ _ _)
   | (with_reducible exact ih4 _ _ _ _ _ _ _ _ _ _ _)
   | (with_reducible exact ih5 _ _ _ _ _ _ _ _ _ _ _ _ _)
   | (with_reducible exact credenzaref06_Number.mono _ _)
   | (with_reducible exact credenzaref06_Signed.mono _ _)
   | (with_reducible exact credenzaref22_Ranged.mono _ _ _ _ _ _ _ _ _ _)
   | (with_reducible exact credenzaref22_number.mono _ _ _ _)
   | (with_reducible exact LeO.refl _)
   | (with_reducible exact LeO.none _)
   | (with_reducible refine LeO.ite ?_ ?_)
   | (with_reducible refine LeO.bind ?_ (fun _ => ?_))
   | exact ih0 _ _ _ _ _ _ _ _ _ _
   | exact ih1 _ _ _ _ _ _ _ _ _ _
   | exact ih2 _ _ _ _ _ _ _ _ _ _
   | exact ih3 _ _ _ _ _ _ _ _ _ _
   | exact ih4 _ _ _ _ _ _ _ _ _ _ _
   | exact ih5 _ _ _ _ _ _ _ _ _ _ _ _ _
   | exact credenzaref06_Number.mono _ _
   | exact credenzaref06_Signed.mono _ _
   | exact credenzaref22_Ranged.mono _ _ _ _ _ _ _ _ _ _
   | exact credenzaref22_number.mono _ _ _ _
   | exact LeO.none _
   | refine LeO.ite ?_ ?_
   | refine LeO.bind ?_ (fun _ => ?_)
theorem credenzaref22_Parse.mono : ∀ a0 k, LeO (credenzaref22_Parse.f k a0) (credenzaref22_Parse.f (k + 1) a0) := by
 intro a0 k
 obtain ⟨ih0, ih1, ih2, ih3, ih4, ih5⟩ := credenzaref22_Parse.mono_l k
 unfold credenzaref22_Parse.f
 repeat' first
   | (with_reducible exact ih0 _ _ _ _ _ _ _ _ _ _)
   | (with_reducible exact ih1 _ _ _ _ _ _ _ _ _ _)
   | (with_reducible exact ih2 _ _ _ _ _ _ _ _ _ _)
   | (with_reducible exact ih3 _ _ _ _ _ _ _ _ _ _)
   | (with_reducible exact ih4 _ _ _ _ _ _ _ _ _ _ _)
   | (with_reducible exact ih5 _ _ _ _ _ _ _ _ _ _ _ _ _)
   | (with_reducible exact credenzaref06_Number.mono _ _)
   | (with_reducible exact credenzaref06_Signed.mono _ _)
   | (with_reducible exact credenzaref22_Ranged.mono _ _ _ _ _ _ _ _ _ _)
   | (with_reducible exact credenzaref22_number.mono _ _ _ _)
   | (with_reducible exact LeO.refl _)
   | (with_reducible exact LeO.none _)
   | (with_reducible refine LeO.ite ?_ ?_)
   | (with_reducible refine LeO.bind ?_ (fun _ => ?_))
   | exact ih0 _ _ _ _ _ _ _ _ _ _
   | exact ih1 _ _ _ _ _ _ _ _ _ _
   | exact ih2 _ _ _ _ _ _ _ _ _ _
   | exact ih3 _ _ _ _ _ _ _ _ _ _
   | exact ih4 _ _ _ _ _ _ _ _ _ _ _
   | exact ih5 _ _ _ _ _ _ _ _ _ _ _ _ _
   | exact credenzaref06_Number.mono _ _
   | exact credenzaref06_Signed.mono _ _
   | exact credenzaref22_Ranged.mono _ _ _ _ _ _ _ _ _ _
   | exact credenzaref22_number.mono _ _ _ _
   | exact LeO.none _
   | refine LeO.ite ?_ ?_
   | refine LeO.bind ?_ (fun _ => ?_)
def credenzaref22_Parse.T22 : Bool × List (List Nat × List Nat) := (true, [([], []), ([0], [0]), ([], []), ([2, 1], [2]), ([3], [3]), ([], []), ([5], [5]), ([6, 3], [6]), ([], []), ([8, 7], [8]), ([], []), ([10], [10]), ([11, 9], [11]), ([1, 4, 7, 9, 12], [1, 4, 7, 9, 12]), ([0, 1, 2, 3, 4, 5, 6, 7, 8, 9, 10, 11, 12, 13], []), ([14, 13, 12, 0, 1, 2, 3, 4, 5, 6, 7, 8, 9, 10, 11, 12, 13], [13, 14])])
def credenzaref22_Parse.B22 : List Nat := [0, 1, 0, 7, 15, 0, 32, 111, 0, 495, 0, 1024, 4079, 8191, 16383, 32767]
theorem credenzaref22_Parse.tab22 : rtab .any (opsOf Try.f21 22) = credenzaref22_Parse.T22 := by kernel_rfl
theorem credenzaref22_Parse.bits22 : waitsOk credenzaref22_Parse.T22.2 credenzaref22_Parse.B22 = true := by kernel_rfl
def credenzaref22_Parse.T26 : Bool × List (List Nat × List Nat) := (true, [([], []), ([0], [0]), ([1], [1]), ([], []), ([], []), ([], []), ([4, 5], [4, 5]), ([3, 6], [3, 6]), ([7], [7]), ([8], [8]), ([2, 9], [2, 9]), ([0, 1, 2, 3, 4, 5, 6, 7, 8, 9, 10], []), ([11, 0, 1, 2, 3, 4, 5, 6, 7, 8, 9, 10], [11]), ([12, 10, 10, 0, 1, 2, 3, 4, 5, 6, 7, 8, 9, 10], [10, 12])])
def credenzaref22_Parse.B26 : List Nat := [0, 1, 3, 0, 0, 0, 48, 120, 248, 504, 1023, 2047, 4095, 8191]
theorem credenzaref22_Parse.tab26 : rtab .any (opsOf Try.f21 26) = credenzaref22_Parse.T26 := by kernel_rfl
theorem credenzaref22_Parse.bits26 : waitsOk credenzaref22_Parse.T26.2 credenzaref22_Parse.B26 = true := by kernel_rfl
set_option maxHeartbeats 8000000 in
set_option maxRecDepth 100000 in
theorem credenzaref22_Parse.calls (k : Nat) (a0 : ByteArray) (r1 : Int) (r2 : Int) (r3 : List Int) (r4 : Int) (r5 : Int) (r6 : Int) (r7 : Int) (r8 : Int) (r9 : Int) (r10 : Int) (w : World) (h : credenzaref22_Parse.f k a0 = some (r1, r2, r3, r4, r5, r6, r7, r8, r9, r10)) :
  Calls Try.prog 21 #[.string a0] w fun e w' => ∃ v2_ : Value, e = .returned (.tuple #[.agg #[.int .i64 r1, .int .u32 r2, v2_, .int .i64 r4, .int .i64 r5, .int .i32 r6, .int .i64 r7, .int .u64 r8, .int .i64 r9], .int .i64 r10]) ∧ Kd.R (Kd.int .i64) 3 w' w.heap.size (fun _ => True) v2_ r3 ∧ Below w.heap.size w w' := by
 have hu40 := Try.underlying40
 have hu38 := Try.underlying38
 have HB := Aside0.mk (Below.refl w.heap.size w)
 have H : (if (a0.size : Int) = 0 then (some (0, 0, ([] : List Int), 0, 0, 0, 0, 0, 0, 16)) else (if 0 < (a0.size : Int) then (if (wrap64 (bt a0 0)) < 1 then (credenzaref22_Parse.j0 k a0 true (wrap64 (bt a0 0)) 0 0 0 0 0 0 0) else (credenzaref22_Parse.j0 k a0 (decide ((wrap64 (bt a0 0)) > 4)) (wrap64 (bt a0 0)) 0 0 0 0 0 0 0)) else (none))) = some (r1, r2, r3, r4, r5, r6, r7, r8, r9, r10) := h
 clear h
 by_cases c2 : (a0.size : Int) = 0
 ·
  rw [if_pos c2] at H
  have c2b0 : ((a0.size : Int) == 0) = true := beq_iff_eq.mpr c2
  have c2b1 : ((a0.size : Int) != 0) = false := bne_eq_false_iff_eq.mpr c2
  clear c2
  simp only [Option.some.injEq, Prod.mk.injEq] at H
  obtain ⟨rfl, rfl, rfl, rfl, rfl, rfl, rfl, rfl, rfl, rfl⟩ := H
  go_enter Try.func21, Try.ntmps21
  go_wp2_with (first | ((with_reducible refine gate_dst (N := 2) rfl ?_); refine box_event ?hg (N := 2) ?hd (cs := #[.int .i64 0, .int .u32 0, .slice none 0 0, .int .i64 0, .int .i64 0, .int .i32 0, .int .i64 0, .int .u64 0, .int .i64 0]) (t := 40) ?hr ?_; (case hd => rfl); (case hg => rfl); (case hr => first | (go_simp; done) | (go_simp; rfl)); intro gb271 hg w3 hbox hb; have n0_ := Aside0.mk (below_step (by repeat (first | (with_reducible first | exact HB.out | apply below_alloc | apply pw_below_drewN | apply below_drew1) | exact HB.out)) hb); have n1_ := Aside0.mk (hbox); have n2_ := Aside0.mk ((by rw [hg]; exact (below_size (by repeat (first | (with_reducible first | exact HB.out | apply below_alloc | apply pw_below_drewN | apply below_drew1) | exact HB.out))) : w.heap.size ≤ gb271)); have n3_ := Aside0.mk ((by rw [hg]; exact (below_size (by repeat (first | (with_reducible first | exact HB.out | apply below_alloc | apply pw_below_drewN | apply below_drew1) | exact HB.out))) : w.heap.size ≤ gb271)); clear HB; have HB := n0_; have BK271 := n1_; have GW271 := n2_; have GE271 := n3_; clear n0_ n1_ n2_ n3_; clear hb hbox hg; have hcz4_0 : w3.cell? ⟨gb271, 0, none⟩ = some (.int .i64 0) := (blk_cell BK271.out 0).trans rfl; have hcz4_1 : w3.cell? ⟨gb271, 1, none⟩ = some (.int .u32 0) := (blk_cell BK271.out 1).trans rfl; have hcz4_2 : w3.cell? ⟨gb271, 2, none⟩ = some (.slice none 0 0) := (blk_cell BK271.out 2).trans rfl; have hcz4_3 : w3.cell? ⟨gb271, 3, none⟩ = some (.int .i64 0) := (blk_cell BK271.out 3).trans rfl; have hcz4_4 : w3.cell? ⟨gb271, 4, none⟩ = some (.int .i64 0) := (blk_cell BK271.out 4).trans rfl; have hcz4_5 : w3.cell? ⟨gb271, 5, none⟩ = some (.int .i32 0) := (blk_cell BK271.out 5).trans rfl; have hcz4_6 : w3.cell? ⟨gb271, 6, none⟩ = some (.int .i64 0) := (blk_cell BK271.out 6).trans rfl; have hcz4_7 : w3.cell? ⟨gb271, 7, none⟩ = some (.int .u64 0) := (blk_cell BK271.out 7).trans rfl; have hcz4_8 : w3.cell? ⟨gb271, 8, none⟩ = some (.int .i64 0) := (blk_cell BK271.out 8).trans rfl; have hfz4_0 := blk_frozen BK271.out 0; have hfz4_1 := blk_frozen BK271.out 1; have hfz4_2 := blk_frozen BK271.out 2; have hfz4_3 := blk_frozen BK271.out 3; have hfz4_4 := blk_frozen BK271.out 4; have hfz4_5 := blk_frozen BK271.out 5; have hfz4_6 := blk_frozen BK271.out 6; have hfz4_7 := blk_frozen BK271.out 7; have hfz4_8 := blk_frozen BK271.out 8))
  refine bodyPost_ret (results_ct rfl _ _ gb271 40 #[.int .i64 0, .int .u32 0, .slice none 0 0, .int .i64 0, .int .i64 0, .int .i32 0, .int .i64 0, .int .u64 0, .int .i64 0] (0, 0) _ rfl (by (with_reducible repeat (first | refine blk_drewN ?_ _ | refine blk_drew ?_ | refine blk_alloc ?_ _)); refine blk_put (cs := #[.int .i64 0, .int .u32 0, .slice none 0 0, .int .i64 0, .int .i64 0, .int .i32 0, .int .i64 0, .int .u64 0, .int .i64 0]) ?_ 8 _ rfl; (with_reducible repeat (first | refine blk_drewN ?_ _ | refine blk_drew ?_ | refine blk_alloc ?_ _)); refine blk_put (cs := #[.int .i64 0, .int .u32 0, .slice none 0 0, .int .i64 0, .int .i64 0, .int .i32 0, .int .i64 0, .int .u64 0, .int .i64 0]) ?_ 7 _ rfl; (with_reducible repeat (first | refine blk_drewN ?_ _ | refine blk_drew ?_ | refine blk_alloc ?_ _)); refine blk_put (cs := #[.int .i64 0, .int .u32 0, .slice none 0 0, .int .i64 0, .int .i64 0, .int .i32 0, .int .i64 0, .int .u64 0, .int .i64 0]) ?_ 6 _ rfl; (with_reducible repeat (first | refine blk_drewN ?_ _ | refine blk_drew ?_ | refine blk_alloc ?_ _)); refine blk_put (cs := #[.int .i64 0, .int .u32 0, .slice none 0 0, .int .i64 0, .int .i64 0, .int .i32 0, .int .i64 0, .int .u64 0, .int .i64 0]) ?_ 5 _ rfl; (with_reducible repeat (first | refine blk_drewN ?_ _ | refine blk_drew ?_ | refine blk_alloc ?_ _)); refine blk_put (cs := #[.int .i64 0, .int .u32 0, .slice none 0 0, .int .i64 0, .int .i64 0, .int .i32 0, .int .i64 0, .int .u64 0, .int .i64 0]) ?_ 4 _ rfl; (with_reducible repeat (first | refine blk_drewN ?_ _ | refine blk_drew ?_ | refine blk_alloc ?_ _)); refine blk_put (cs := #[.int .i64 0, .int .u32 0, .slice none 0 0, .int .i64 0, .int .i64 0, .int .i32 0, .int .i64 0, .int .u64 0, .int .i64 0]) ?_ 3 _ rfl; (with_reducible repeat (first | refine blk_drewN ?_ _ | refine blk_drew ?_ | refine blk_alloc ?_ _)); refine blk_put (cs := #[.int .i64 0, .int .u32 0, .slice none 0 0, .int .i64 0, .int .i64 0, .int .i32 0, .int .i64 0, .int .u64 0, .int .i64 0]) ?_ 2 _ rfl; (with_reducible repeat (first | refine blk_drewN ?_ _ | refine blk_drew ?_ | refine blk_alloc ?_ _)); refine blk_put (cs := #[.int .i64 0, .int .u32 0, .slice none 0 0, .int .i64 0, .int .i64 0, .int .i32 0, .int .i64 0, .int .u64 0, .int .i64 0]) ?_ 1 _ rfl; (with_reducible repeat (first | refine blk_drewN ?_ _ | refine blk_drew ?_ | refine blk_alloc ?_ _)); refine blk_put (cs := #[.int .i64 0, .int .u32 0, .slice none 0 0, .int .i64 0, .int .i64 0, .int .i32 0, .int .i64 0, .int .u64 0, .int .i64 0]) ?_ 0 _ rfl; (with_reducible repeat (first | refine blk_drewN ?_ _ | refine blk_drew ?_ | refine blk_alloc ?_ _)); exact BK271.out) Try.underlying40 rfl (by kernel_rfl)) rfl ?_
  exact ⟨_, by first | rfl | (simp [errW_none, errW_some] <;> rfl) | (simp [*, errW_none, errW_some] <;> rfl), by first | exact Kd.R_nil _ _ _ _ _ | exact Kd.N_nil _ _ _ _ _ | exact Kd.V_nil _ _ _ _ _ | exact Kd.Q_nil _ _ _ _ _ | exact Kd.S_nil _ _ _ _ _, by repeat (first | (with_reducible first | exact HB.out | apply below_alloc | apply pw_below_drewN | apply below_drew1 | refine below_set ?_ GE271.out) | exact HB.out)⟩
 ·
  rw [if_neg c2] at H
  have c2b0 : ((a0.size : Int) == 0) = false := beq_eq_false_iff_ne.mpr c2
  have c2b1 : ((a0.size : Int) != 0) = true := bne_iff_ne.mpr c2
  by_cases c5 : 0 < (a0.size : Int)
  ·
   rw [if_pos c5] at H
   have c5b0 : decide (0 < (a0.size : Int)) = true := decide_eq_true c5
   have c5b1 : decide (0 < a0.size) = true := decide_eq_true (by omega)
   clear c5
   have HC7 := Aside0.mk H
   clear H
   go_enter Try.func21, Try.ntmps21
   go_upto_region 4 with (first | ((with_reducible refine gate_dst (N := 2) rfl ?_); refine box_event ?hg (N := 2) ?hd (cs := #[.int .i64 0, .int .u32 0, .slice none 0 0, .int .i64 0, .int .i64 0, .int .i32 0, .int .i64 0, .int .u64 0, .int .i64 0]) (t := 40) ?hr ?_; (case hd => rfl); (case hg => rfl); (case hr => first | (go_simp; done) | (go_simp; rfl)); intro gb271 hg w8 hbox hb; have n0_ := Aside0.mk (below_step (by repeat (first | (with_reducible first | exact HB.out | apply below_alloc | apply pw_below_drewN | apply below_drew1) | exact HB.out)) hb); have n1_ := Aside0.mk (hbox); have n2_ := Aside0.mk ((by rw [hg]; exact (below_size (by repeat (first | (with_reducible first | exact HB.out | apply below_alloc | apply pw_below_drewN | apply below_drew1) | exact HB.out))) : w.heap.size ≤ gb271)); have n3_ := Aside0.mk ((by rw [hg]; exact (below_size (by repeat (first | (with_reducible first | exact HB.out | apply below_alloc | apply pw_below_drewN | apply below_drew1) | exact HB.out))) : w.heap.size ≤ gb271)); clear HB; have HB := n0_; have BK271 := n1_; have GW271 := n2_; have GE271 := n3_; clear n0_ n1_ n2_ n3_; clear hb hbox hg; have p6 : 0 ≤ (0 : Int) := (by omega); have q6 : 0 < a0.size := (by have : (0 : Int) < (a0.size : Int) := of_decide_eq_true (by first | (with_reducible assumption) | assumption); omega); have hx6 : ∀ h : 0 < a0.size, ((a0[0]'h).toNat : Int) = bt a0 0 := bt_at a0 0; clear p6; have qi6 : (0 < (a0.size : Int)) = True := eq_true (of_decide_eq_true (by first | (with_reducible assumption) | assumption)); replace q6 := eq_true q6) | ((with_reducible refine gate_dst (N := 4) rfl ?_); refine box_event ?hg (N := 4) ?hd (cs := #[.int .i64 0, .int .u32 0, .slice none 0 0, .int .i64 0, .int .i64 0, .int .i32 0, .int .i64 0, .int .u64 0, .int .i64 0]) (t := 40) ?hr ?_; (case hd => rfl); (case hg => rfl); (case hr => first | (go_simp; done) | (go_simp; rfl)); intro gb272 hg w9 hbox hb; have n0_ := Aside0.mk (blk_below (g := gb271) (o := .cells #[.int .i64 0, .int .u32 0, .slice none 0 0, .int .i64 0, .int .i64 0, .int .i32 0, .int .i64 0, .int .u64 0, .int .i64 0] 40 (0, 0)) (by (with_reducible repeat (first | refine blk_drewN ?_ _ | refine blk_drew ?_ | refine blk_alloc ?_ _)); exact BK271.out) hb); have n1_ := Aside0.mk (below_step (by repeat (first | (with_reducible first | exact HB.out | apply below_alloc | apply pw_below_drewN | apply below_drew1 | refine below_set ?_ GE271.out) | exact HB.out)) hb); have n2_ := Aside0.mk (hbox); have n3_ := Aside0.mk ((by rw [hg]; exact (below_size (by repeat (first | (with_reducible first | exact HB.out | apply below_alloc | apply pw_below_drewN | apply below_drew1 | refine below_set ?_ GE271.out) | exact HB.out))) : w.heap.size ≤ gb272)); have n4_ := Aside0.mk ((by rw [hg]; exact (below_size (by repeat (first | (with_reducible first | exact HB.out | apply below_alloc | apply pw_below_drewN | apply below_drew1 | refine below_set ?_ GE271.out) | exact HB.out))) : w.heap.size ≤ gb272)); have n5_ := Aside0.mk ((by rw [hg]; exact Nat.ne_of_lt (blk_lt (g := gb271) (o := .cells #[.int .i64 0, .int .u32 0, .slice none 0 0, .int .i64 0, .int .i64 0, .int .i32 0, .int .i64 0, .int .u64 0, .int .i64 0] 40 (0, 0)) (by (with_reducible repeat (first | refine blk_drewN ?_ _ | refine blk_drew ?_ | refine blk_alloc ?_ _)); exact BK271.out)) : gb271 ≠ gb272)); have n6_ := Aside0.mk ((by rw [hg]; exact Nat.ne_of_gt (blk_lt (g := gb271) (o := .cells #[.int .i64 0, .int .u32 0, .slice none 0 0, .int .i64 0, .int .i64 0, .int .i32 0, .int .i64 0, .int .u64 0, .int .i64 0] 40 (0, 0)) (by (with_reducible repeat (first | refine blk_drewN ?_ _ | refine blk_drew ?_ | refine blk_alloc ?_ _)); exact BK271.out)) : gb272 ≠ gb271)); clear BK271; clear HB; have BK271 := n0_; have HB := n1_; have BK272 := n2_; have GW272 := n3_; have GE272 := n4_; have NB271_272 := n5_; have NB272_271 := n6_; clear n0_ n1_ n2_ n3_ n4_ n5_ n6_; clear hb hbox hg; have hnb10 := NB272_271.out; have hnc10 := NB271_272.out; have hcz11_0 : w9.cell? ⟨gb272, 0, none⟩ = some (.int .i64 0) := (blk_cell BK272.out 0).trans rfl; have hcz11_1 : w9.cell? ⟨gb272, 1, none⟩ = some (.int .u32 0) := (blk_cell BK272.out 1).trans rfl; have hcz11_2 : w9.cell? ⟨gb272, 2, none⟩ = some (.slice none 0 0) := (blk_cell BK272.out 2).trans rfl; have hcz11_3 : w9.cell? ⟨gb272, 3, none⟩ = some (.int .i64 0) := (blk_cell BK272.out 3).trans rfl; have hcz11_4 : w9.cell? ⟨gb272, 4, none⟩ = some (.int .i64 0) := (blk_cell BK272.out 4).trans rfl; have hcz11_5 : w9.cell? ⟨gb272, 5, none⟩ = some (.int .i32 0) := (blk_cell BK272.out 5).trans rfl; have hcz11_6 : w9.cell? ⟨gb272, 6, none⟩ = some (.int .i64 0) := (blk_cell BK272.out 6).trans rfl; have hcz11_7 : w9.cell? ⟨gb272, 7, none⟩ = some (.int .u64 0) := (blk_cell BK272.out 7).trans rfl; have hcz11_8 : w9.cell? ⟨gb272, 8, none⟩ = some (.int .i64 0) := (blk_cell BK272.out 8).trans rfl; have hfz11_0 := blk_frozen BK272.out 0; have hfz11_1 := blk_frozen BK272.out 1; have hfz11_2 := blk_frozen BK272.out 2; have hfz11_3 := blk_frozen BK272.out 3; have hfz11_4 := blk_frozen BK272.out 4; have hfz11_5 := blk_frozen BK272.out 5; have hfz11_6 := blk_frozen BK272.out 6; have hfz11_7 := blk_frozen BK272.out 7; have hfz11_8 := blk_frozen BK272.out 8))
   (try simp only [Act.put, List.setIfInBounds_toArray, List.set_cons_zero, List.set_cons_succ])
   go_cut [23] (fun v23 wc => ∃ (kq : Nat) (x23_6 : Bool), v23 = .bool x23_6 ∧ Aside0 (credenzaref22_Parse.j0 kq a0 x23_6 (wrap64 (bt a0 0)) 0 0 0 0 0 0 0 = some (r1, r2, r3, r4, r5, r6, r7, r8, r9, r10)) ∧ Aside0 (kq ≤ k) ∧ Aside0 (wc.heap[gb271]? = some (.cells #[.int .i64 0, .int .u32 0, (.slice none 0 0), .int .i64 0, .int .i64 0, .int .i32 0, .int .i64 0, .int .u64 0, .int .i64 0] 40 (0, 0))) ∧ Aside0 (wc.heap[gb272]? = some (.cells #[.int .i64 (wrap64 (bt a0 0)), .int .u32 0, (.slice none 0 0), .int .i64 0, .int .i64 0, .int .i32 0, .int .i64 0, .int .u64 0, .int .i64 0] 40 (0, 0))) ∧ Aside0 (Below w.heap.size w wc))
   case first =>
    have H := HC7.out
    clear HC7
    by_cases c12 : (wrap64 (bt a0 0)) < 1
    ·
     rw [if_pos c12] at H
     have c12b0 : decide ((wrap64 (bt a0 0)) < 1) = true := decide_eq_true c12
     clear c12
     (first | rw [c12b0] | (simp only [i64_w, i32_w]; rw [c12b0]) | skip)
     have H' := Aside0.mk H
     clear H
     have hnb13 := NB272_271.out
     have hnc13 := NB271_272.out
     have hcz14_0 : w9.cell? ⟨gb272, 0, none⟩ = some (.int .i64 0) := (blk_cell BK272.out 0).trans rfl
     have hcz14_1 : w9.cell? ⟨gb272, 1, none⟩ = some (.int .u32 0) := (blk_cell BK272.out 1).trans rfl
     have hcz14_2 : w9.cell? ⟨gb272, 2, none⟩ = some (.slice none 0 0) := (blk_cell BK272.out 2).trans rfl
     have hcz14_3 : w9.cell? ⟨gb272, 3, none⟩ = some (.int .i64 0) := (blk_cell BK272.out 3).trans rfl
     have hcz14_4 : w9.cell? ⟨gb272, 4, none⟩ = some (.int .i64 0) := (blk_cell BK272.out 4).trans rfl
     have hcz14_5 : w9.cell? ⟨gb272, 5, none⟩ = some (.int .i32 0) := (blk_cell BK272.out 5).trans rfl
     have hcz14_6 : w9.cell? ⟨gb272, 6, none⟩ = some (.int .i64 0) := (blk_cell BK272.out 6).trans rfl
     have hcz14_7 : w9.cell? ⟨gb272, 7, none⟩ = some (.int .u64 0) := (blk_cell BK272.out 7).trans rfl
     have hcz14_8 : w9.cell? ⟨gb272, 8, none⟩ = some (.int .i64 0) := (blk_cell BK272.out 8).trans rfl
     have hfz14_0 := blk_frozen BK272.out 0
     have hfz14_1 := blk_frozen BK272.out 1
     have hfz14_2 := blk_frozen BK272.out 2
     have hfz14_3 := blk_frozen BK272.out 3
     have hfz14_4 := blk_frozen BK272.out 4
     have hfz14_5 := blk_frozen BK272.out 5
     have hfz14_6 := blk_frozen BK272.out 6
     have hfz14_7 := blk_frozen BK272.out 7
     have hfz14_8 := blk_frozen BK272.out 8
     go_wp2
     go_meet
     case rel => exact ⟨_, (true), (by first | rfl | (simp; done) | (simp [*]; done)), H', ⟨by first | omega | exact Nat.le_refl _⟩, ⟨by (with_reducible repeat (first | refine blk_drewN ?_ _ | refine blk_drew ?_ | refine blk_alloc ?_ _)); refine blk_far ?_ NB271_272.out _; (with_reducible repeat (first | refine blk_drewN ?_ _ | refine blk_drew ?_ | refine blk_alloc ?_ _)); refine blk_far ?_ NB271_272.out _; (with_reducible repeat (first | refine blk_drewN ?_ _ | refine blk_drew ?_ | refine blk_alloc ?_ _)); refine blk_far ?_ NB271_272.out _; (with_reducible repeat (first | refine blk_drewN ?_ _ | refine blk_drew ?_ | refine blk_alloc ?_ _)); refine blk_far ?_ NB271_272.out _; (with_reducible repeat (first | refine blk_drewN ?_ _ | refine blk_drew ?_ | refine blk_alloc ?_ _)); refine blk_far ?_ NB271_272.out _; (with_reducible repeat (first | refine blk_drewN ?_ _ | refine blk_drew ?_ | refine blk_alloc ?_ _)); refine blk_far ?_ NB271_272.out _; (with_reducible repeat (first | refine blk_drewN ?_ _ | refine blk_drew ?_ | refine blk_alloc ?_ _)); refine blk_far ?_ NB271_272.out _; (with_reducible repeat (first | refine blk_drewN ?_ _ | refine blk_drew ?_ | refine blk_alloc ?_ _)); refine blk_far ?_ NB271_272.out _; (with_reducible repeat (first | refine blk_drewN ?_ _ | refine blk_drew ?_ | refine blk_alloc ?_ _)); refine blk_far ?_ NB271_272.out _; (with_reducible repeat (first | refine blk_drewN ?_ _ | refine blk_drew ?_ | refine blk_alloc ?_ _)); exact BK271.out⟩, ⟨by (with_reducible repeat (first | refine blk_drewN ?_ _ | refine blk_drew ?_ | refine blk_alloc ?_ _)); refine blk_put (cs := #[.int .i64 (wrap64 (bt a0 0)), .int .u32 0, .slice none 0 0, .int .i64 0, .int .i64 0, .int .i32 0, .int .i64 0, .int .u64 0, .int .i64 0]) ?_ 8 _ rfl; (with_reducible repeat (first | refine blk_drewN ?_ _ | refine blk_drew ?_ | refine blk_alloc ?_ _)); refine blk_put (cs := #[.int .i64 (wrap64 (bt a0 0)), .int .u32 0, .slice none 0 0, .int .i64 0, .int .i64 0, .int .i32 0, .int .i64 0, .int .u64 0, .int .i64 0]) ?_ 7 _ rfl; (with_reducible repeat (first | refine blk_drewN ?_ _ | refine blk_drew ?_ | refine blk_alloc ?_ _)); refine blk_put (cs := #[.int .i64 (wrap64 (bt a0 0)), .int .u32 0, .slice none 0 0, .int .i64 0, .int .i64 0, .int .i32 0, .int .i64 0, .int .u64 0, .int .i64 0]) ?_ 6 _ rfl; (with_reducible repeat (first | refine blk_drewN ?_ _ | refine blk_drew ?_ | refine blk_alloc ?_ _)); refine blk_put (cs := #[.int .i64 (wrap64 (bt a0 0)), .int .u32 0, .slice none 0 0, .int .i64 0, .int .i64 0, .int .i32 0, .int .i64 0, .int .u64 0, .int .i64 0]) ?_ 5 _ rfl; (with_reducible repeat (first | refine blk_drewN ?_ _ | refine blk_drew ?_ | refine blk_alloc ?_ _)); refine blk_put (cs := #[.int .i64 (wrap64 (bt a0 0)), .int .u32 0, .slice none 0 0, .int .i64 0, .int .i64 0, .int .i32 0, .int .i64 0, .int .u64 0, .int .i64 0]) ?_ 4 _ rfl; (with_reducible repeat (first | refine blk_drewN ?_ _ | refine blk_drew ?_ | refine blk_alloc ?_ _)); refine blk_put (cs := #[.int .i64 (wrap64 (bt a0 0)), .int .u32 0, .slice none 0 0, .int .i64 0, .int .i64 0, .int .i32 0, .int .i64 0, .int .u64 0, .int .i64 0]) ?_ 3 _ rfl; (with_reducible repeat (first | refine blk_drewN ?_ _ | refine blk_drew ?_ | refine blk_alloc ?_ _)); refine blk_put (cs := #[.int .i64 (wrap64 (bt a0 0)), .int .u32 0, .slice none 0 0, .int .i64 0, .int .i64 0, .int .i32 0, .int .i64 0, .int .u64 0, .int .i64 0]) ?_ 2 _ rfl; (with_reducible repeat (first | refine blk_drewN ?_ _ | refine blk_drew ?_ | refine blk_alloc ?_ _)); refine blk_put (cs := #[.int .i64 (wrap64 (bt a0 0)), .int .u32 0, .slice none 0 0, .int .i64 0, .int .i64 0, .int .i32 0, .int .i64 0, .int .u64 0, .int .i64 0]) ?_ 1 _ rfl; (with_reducible repeat (first | refine blk_drewN ?_ _ | refine blk_drew ?_ | refine blk_alloc ?_ _)); refine blk_put (cs := #[.int .i64 0, .int .u32 0, .slice none 0 0, .int .i64 0, .int .i64 0, .int .i32 0, .int .i64 0, .int .u64 0, .int .i64 0]) ?_ 0 _ rfl; (with_reducible repeat (first | refine blk_drewN ?_ _ | refine blk_drew ?_ | refine blk_alloc ?_ _)); exact BK272.out⟩, ⟨by repeat (first | (with_reducible first | exact HB.out | apply below_alloc | apply pw_below_drewN | apply below_drew1 | refine below_set ?_ GE271.out | refine below_set ?_ GE272.out) | exact HB.out)⟩⟩
    ·
     rw [if_neg c12] at H
     have c12b0 : decide ((wrap64 (bt a0 0)) < 1) = false := decide_eq_false c12
     clear c12
     (first | rw [c12b0] | (simp only [i64_w, i32_w]; rw [c12b0]) | skip)
     have H' := Aside0.mk H
     clear H
     have hnb15 := NB272_271.out
     have hnc15 := NB271_272.out
     have hcz16_0 : w9.cell? ⟨gb272, 0, none⟩ = some (.int .i64 0) := (blk_cell BK272.out 0).trans rfl
     have hcz16_1 : w9.cell? ⟨gb272, 1, none⟩ = some (.int .u32 0) := (blk_cell BK272.out 1).trans rfl
     have hcz16_2 : w9.cell? ⟨gb272, 2, none⟩ = some (.slice none 0 0) := (blk_cell BK272.out 2).trans rfl
     have hcz16_3 : w9.cell? ⟨gb272, 3, none⟩ = some (.int .i64 0) := (blk_cell BK272.out 3).trans rfl
     have hcz16_4 : w9.cell? ⟨gb272, 4, none⟩ = some (.int .i64 0) := (blk_cell BK272.out 4).trans rfl
     have hcz16_5 : w9.cell? ⟨gb272, 5, none⟩ = some (.int .i32 0) := (blk_cell BK272.out 5).trans rfl
     have hcz16_6 : w9.cell? ⟨gb272, 6, none⟩ = some (.int .i64 0) := (blk_cell BK272.out 6).trans rfl
     have hcz16_7 : w9.cell? ⟨gb272, 7, none⟩ = some (.int .u64 0) := (blk_cell BK272.out 7).trans rfl
     have hcz16_8 : w9.cell? ⟨gb272, 8, none⟩ = some (.int .i64 0) := (blk_cell BK272.out 8).trans rfl
     have hfz16_0 := blk_frozen BK272.out 0
     have hfz16_1 := blk_frozen BK272.out 1
     have hfz16_2 := blk_frozen BK272.out 2
     have hfz16_3 := blk_frozen BK272.out 3
     have hfz16_4 := blk_frozen BK272.out 4
     have hfz16_5 := blk_frozen BK272.out 5
     have hfz16_6 := blk_frozen BK272.out 6
     have hfz16_7 := blk_frozen BK272.out 7
     have hfz16_8 := blk_frozen BK272.out 8
     go_wp2
     go_meet
     case rel => exact ⟨_, (decide ((wrap64 (bt a0 0)) > 4)), (by first | rfl | (simp; done) | (simp [*]; done)), H', ⟨by first | omega | exact Nat.le_refl _⟩, ⟨by (with_reducible repeat (first | refine blk_drewN ?_ _ | refine blk_drew ?_ | refine blk_alloc ?_ _)); refine blk_far ?_ NB271_272.out _; (with_reducible repeat (first | refine blk_drewN ?_ _ | refine blk_drew ?_ | refine blk_alloc ?_ _)); refine blk_far ?_ NB271_272.out _; (with_reducible repeat (first | refine blk_drewN ?_ _ | refine blk_drew ?_ | refine blk_alloc ?_ _)); refine blk_far ?_ NB271_272.out _; (with_reducible repeat (first | refine blk_drewN ?_ _ | refine blk_drew ?_ | refine blk_alloc ?_ _)); refine blk_far ?_ NB271_272.out _; (with_reducible repeat (first | refine blk_drewN ?_ _ | refine blk_drew ?_ | refine blk_alloc ?_ _)); refine blk_far ?_ NB271_272.out _; (with_reducible repeat (first | refine blk_drewN ?_ _ | refine blk_drew ?_ | refine blk_alloc ?_ _)); refine blk_far ?_ NB271_272.out _; (with_reducible repeat (first | refine blk_drewN ?_ _ | refine blk_drew ?_ | refine blk_alloc ?_ _)); refine blk_far ?_ NB271_272.out _; (with_reducible repeat (first | refine blk_drewN ?_ _ | refine blk_drew ?_ | refine blk_alloc ?_ _)); refine blk_far ?_ NB271_272.out _; (with_reducible repeat (first | refine blk_drewN ?_ _ | refine blk_drew ?_ | refine blk_alloc ?_ _)); refine blk_far ?_ NB271_272.out _; (with_reducible repeat (first | refine blk_drewN ?_ _ | refine blk_drew ?_ | refine blk_alloc ?_ _)); exact BK271.out⟩, ⟨by (with_reducible repeat (first | refine blk_drewN ?_ _ | refine blk_drew ?_ | refine blk_alloc ?_ _)); refine blk_put (cs := #[.int .i64 (wrap64 (bt a0 0)), .int .u32 0, .slice none 0 0, .int .i64 0, .int .i64 0, .int .i32 0, .int .i64 0, .int .u64 0, .int .i64 0]) ?_ 8 _ rfl; (with_reducible repeat (first | refine blk_drewN ?_ _ | refine blk_drew ?_ | refine blk_alloc ?_ _)); refine blk_put (cs := #[.int .i64 (wrap64 (bt a0 0)), .int .u32 0, .slice none 0 0, .int .i64 0, .int .i64 0, .int .i32 0, .int .i64 0, .int .u64 0, .int .i64 0]) ?_ 7 _ rfl; (with_reducible repeat (first | refine blk_drewN ?_ _ | refine blk_drew ?_ | refine blk_alloc ?_ _)); refine blk_put (cs := #[.int .i64 (wrap64 (bt a0 0)), .int .u32 0, .slice none 0 0, .int .i64 0, .int .i64 0, .int .i32 0, .int .i64 0, .int .u64 0, .int .i64 0]) ?_ 6 _ rfl; (with_reducible repeat (first | refine blk_drewN ?_ _ | refine blk_drew ?_ | refine blk_alloc ?_ _)); refine blk_put (cs := #[.int .i64 (wrap64 (bt a0 0)), .int .u32 0, .slice none 0 0, .int .i64 0, .int .i64 0, .int .i32 0, .int .i64 0, .int .u64 0, .int .i64 0]) ?_ 5 _ rfl; (with_reducible repeat (first | refine blk_drewN ?_ _ | refine blk_drew ?_ | refine blk_alloc ?_ _)); refine blk_put (cs := #[.int .i64 (wrap64 (bt a0 0)), .int .u32 0, .slice none 0 0, .int .i64 0, .int .i64 0, .int .i32 0, .int .i64 0, .int .u64 0, .int .i64 0]) ?_ 4 _ rfl; (with_reducible repeat (first | refine blk_drewN ?_ _ | refine blk_drew ?_ | refine blk_alloc ?_ _)); refine blk_put (cs := #[.int .i64 (wrap64 (bt a0 0)), .int .u32 0, .slice none 0 0, .int .i64 0, .int .i64 0, .int .i32 0, .int .i64 0, .int .u64 0, .int .i64 0]) ?_ 3 _ rfl; (with_reducible repeat (first | refine blk_drewN ?_ _ | refine blk_drew ?_ | refine blk_alloc ?_ _)); refine blk_put (cs := #[.int .i64 (wrap64 (bt a0 0)), .int .u32 0, .slice none 0 0, .int .i64 0, .int .i64 0, .int .i32 0, .int .i64 0, .int .u64 0, .int .i64 0]) ?_ 2 _ rfl; (with_reducible repeat (first | refine blk_drewN ?_ _ | refine blk_drew ?_ | refine blk_alloc ?_ _)); refine blk_put (cs := #[.int .i64 (wrap64 (bt a0 0)), .int .u32 0, .slice none 0 0, .int .i64 0, .int .i64 0, .int .i32 0, .int .i64 0, .int .u64 0, .int .i64 0]) ?_ 1 _ rfl; (with_reducible repeat (first | refine blk_drewN ?_ _ | refine blk_drew ?_ | refine blk_alloc ?_ _)); refine blk_put (cs := #[.int .i64 0, .int .u32 0, .slice none 0 0, .int .i64 0, .int .i64 0, .int .i32 0, .int .i64 0, .int .u64 0, .int .i64 0]) ?_ 0 _ rfl; (with_reducible repeat (first | refine blk_drewN ?_ _ | refine blk_drew ?_ | refine blk_alloc ?_ _)); exact BK272.out⟩, ⟨by repeat (first | (with_reducible first | exact HB.out | apply below_alloc | apply pw_below_drewN | apply below_drew1 | refine below_set ?_ GE271.out | refine below_set ?_ GE272.out) | exact HB.out)⟩⟩
   case rest =>
    clear HC7
    try clear c1
    try clear c2
    try clear c2b0
    try clear c2b1
    try clear p2
    try clear c5
    try clear c5b0
    try clear c5b1
    try clear p6
    try clear q6
    try clear hx6
    try clear qi6
    try clear c10
    try clear c12
    try clear c12b0
    try clear c13
    try clear c15
    try clear hcz11_0
    try clear hcz11_1
    try clear hcz11_2
    try clear hcz11_3
    try clear hcz11_4
    try clear hcz11_5
    try clear hcz11_6
    try clear hcz11_7
    try clear hcz11_8
    try clear hcz14_0
    try clear hcz14_1
    try clear hcz14_2
    try clear hcz14_3
    try clear hcz14_4
    try clear hcz14_5
    try clear hcz14_6
    try clear hcz14_7
    try clear hcz14_8
    try clear hcz16_0
    try clear hcz16_1
    try clear hcz16_2
    try clear hcz16_3
    try clear hcz16_4
    try clear hcz16_5
    try clear hcz16_6
    try clear hcz16_7
    try clear hcz16_8
    try clear hcz4_0
    try clear hcz4_1
    try clear hcz4_2
    try clear hcz4_3
    try clear hcz4_4
    try clear hcz4_5
    try clear hcz4_6
    try clear hcz4_7
    try clear hcz4_8
    try clear hfz11_0
    try clear hfz11_1
    try clear hfz11_2
    try clear hfz11_3
    try clear hfz11_4
    try clear hfz11_5
    try clear hfz11_6
    try clear hfz11_7
    try clear hfz11_8
    try clear hfz14_0
    try clear hfz14_1
    try clear hfz14_2
    try clear hfz14_3
    try clear hfz14_4
    try clear hfz14_5
    try clear hfz14_6
    try clear hfz14_7
    try clear hfz14_8
    try clear hfz16_0
    try clear hfz16_1
    try clear hfz16_2
    try clear hfz16_3
    try clear hfz16_4
    try clear hfz16_5
    try clear hfz16_6
    try clear hfz16_7
    try clear hfz16_8
    try clear hfz4_0
    try clear hfz4_1
    try clear hfz4_2
    try clear hfz4_3
    try clear hfz4_4
    try clear hfz4_5
    try clear hfz4_6
    try clear hfz4_7
    try clear hfz4_8
    try clear p6
    try clear q6
    obtain ⟨kq, x23_6, rfl, HA, HJ6, BK271, BK272, HB⟩ := hcut
    cases kq with
    | zero => exact absurd HA.out (by simp [credenzaref22_Parse.j0])
    | succ kj6 =>
     have H := HA.out
     clear HA
     simp only [credenzaref22_Parse.j0] at H
     by_cases c17 : x23_6 = true
     ·
      subst c17
      have H1 : (some (0, 0, ([] : List Int), 0, 0, 0, 0, 0, 0, 29)) = some (r1, r2, r3, r4, r5, r6, r7, r8, r9, r10) := by rw [if_pos rfl] at H; exact H
      clear H
      have H := H1
      clear H1
      simp only [Option.some.injEq, Prod.mk.injEq] at H
      obtain ⟨rfl, rfl, rfl, rfl, rfl, rfl, rfl, rfl, rfl, rfl⟩ := H
      have hnb18 := NB271_272.out
      have hnc18 := NB272_271.out
      have hcz19_0 : wc.cell? ⟨gb271, 0, none⟩ = some (.int .i64 0) := (blk_cell BK271.out 0).trans rfl
      have hcz19_1 : wc.cell? ⟨gb271, 1, none⟩ = some (.int .u32 0) := (blk_cell BK271.out 1).trans rfl
      have hcz19_2 : wc.cell? ⟨gb271, 2, none⟩ = some (.slice none 0 0) := (blk_cell BK271.out 2).trans rfl
      have hcz19_3 : wc.cell? ⟨gb271, 3, none⟩ = some (.int .i64 0) := (blk_cell BK271.out 3).trans rfl
      have hcz19_4 : wc.cell? ⟨gb271, 4, none⟩ = some (.int .i64 0) := (blk_cell BK271.out 4).trans rfl
      have hcz19_5 : wc.cell? ⟨gb271, 5, none⟩ = some (.int .i32 0) := (blk_cell BK271.out 5).trans rfl
      have hcz19_6 : wc.cell? ⟨gb271, 6, none⟩ = some (.int .i64 0) := (blk_cell BK271.out 6).trans rfl
      have hcz19_7 : wc.cell? ⟨gb271, 7, none⟩ = some (.int .u64 0) := (blk_cell BK271.out 7).trans rfl
      have hcz19_8 : wc.cell? ⟨gb271, 8, none⟩ = some (.int .i64 0) := (blk_cell BK271.out 8).trans rfl
      have hfz19_0 := blk_frozen BK271.out 0
      have hfz19_1 := blk_frozen BK271.out 1
      have hfz19_2 := blk_frozen BK271.out 2
      have hfz19_3 := blk_frozen BK271.out 3
      have hfz19_4 := blk_frozen BK271.out 4
      have hfz19_5 := blk_frozen BK271.out 5
      have hfz19_6 := blk_frozen BK271.out 6
      have hfz19_7 := blk_frozen BK271.out 7
      have hfz19_8 := blk_frozen BK271.out 8
      go_wp2
      refine bodyPost_ret (results_ct rfl _ _ gb271 40 #[.int .i64 0, .int .u32 0, .slice none 0 0, .int .i64 0, .int .i64 0, .int .i32 0, .int .i64 0, .int .u64 0, .int .i64 0] (0, 0) _ rfl (by (with_reducible repeat (first | refine blk_drewN ?_ _ | refine blk_drew ?_ | refine blk_alloc ?_ _)); refine blk_put (cs := #[.int .i64 0, .int .u32 0, .slice none 0 0, .int .i64 0, .int .i64 0, .int .i32 0, .int .i64 0, .int .u64 0, .int .i64 0]) ?_ 8 _ rfl; (with_reducible repeat (first | refine blk_drewN ?_ _ | refine blk_drew ?_ | refine blk_alloc ?_ _)); refine blk_put (cs := #[.int .i64 0, .int .u32 0, .slice none 0 0, .int .i64 0, .int .i64 0, .int .i32 0, .int .i64 0, .int .u64 0, .int .i64 0]) ?_ 7 _ rfl; (with_reducible repeat (first | refine blk_drewN ?_ _ | refine blk_drew ?_ | refine blk_alloc ?_ _)); refine blk_put (cs := #[.int .i64 0, .int .u32 0, .slice none 0 0, .int .i64 0, .int .i64 0, .int .i32 0, .int .i64 0, .int .u64 0, .int .i64 0]) ?_ 6 _ rfl; (with_reducible repeat (first | refine blk_drewN ?_ _ | refine blk_drew ?_ | refine blk_alloc ?_ _)); refine blk_put (cs := #[.int .i64 0, .int .u32 0, .slice none 0 0, .int .i64 0, .int .i64 0, .int .i32 0, .int .i64 0, .int .u64 0, .int .i64 0]) ?_ 5 _ rfl; (with_reducible repeat (first | refine blk_drewN ?_ _ | refine blk_drew ?_ | refine blk_alloc ?_ _)); refine blk_put (cs := #[.int .i64 0, .int .u32 0, .slice none 0 0, .int .i64 0, .int .i64 0, .int .i32 0, .int .i64 0, .int .u64 0, .int .i64 0]) ?_ 4 _ rfl; (with_reducible repeat (first | refine blk_drewN ?_ _ | refine blk_drew ?_ | refine blk_alloc ?_ _)); refine blk_put (cs := #[.int .i64 0, .int .u32 0, .slice none 0 0, .int .i64 0, .int .i64 0, .int .i32 0, .int .i64 0, .int .u64 0, .int .i64 0]) ?_ 3 _ rfl; (with_reducible repeat (first | refine blk_drewN ?_ _ | refine blk_drew ?_ | refine blk_alloc ?_ _)); refine blk_put (cs := #[.int .i64 0, .int .u32 0, .slice none 0 0, .int .i64 0, .int .i64 0, .int .i32 0, .int .i64 0, .int .u64 0, .int .i64 0]) ?_ 2 _ rfl; (with_reducible repeat (first | refine blk_drewN ?_ _ | refine blk_drew ?_ | refine blk_alloc ?_ _)); refine blk_put (cs := #[.int .i64 0, .int .u32 0, .slice none 0 0, .int .i64 0, .int .i64 0, .int .i32 0, .int .i64 0, .int .u64 0, .int .i64 0]) ?_ 1 _ rfl; (with_reducible repeat (first | refine blk_drewN ?_ _ | refine blk_drew ?_ | refine blk_alloc ?_ _)); refine blk_put (cs := #[.int .i64 0, .int .u32 0, .slice none 0 0, .int .i64 0, .int .i64 0, .int .i32 0, .int .i64 0, .int .u64 0, .int .i64 0]) ?_ 0 _ rfl; (with_reducible repeat (first | refine blk_drewN ?_ _ | refine blk_drew ?_ | refine blk_alloc ?_ _)); exact BK271.out) Try.underlying40 rfl (by kernel_rfl)) rfl ?_
      exact ⟨_, by first | rfl | (simp [errW_none, errW_some] <;> rfl) | (simp [*, errW_none, errW_some] <;> rfl), by first | exact Kd.R_nil _ _ _ _ _ | exact Kd.N_nil _ _ _ _ _ | exact Kd.V_nil _ _ _ _ _ | exact Kd.Q_nil _ _ _ _ _ | exact Kd.S_nil _ _ _ _ _, by repeat (first | (with_reducible first | exact HB.out | apply below_alloc | apply pw_below_drewN | apply below_drew1 | refine below_set ?_ GE271.out | refine below_set ?_ GE272.out) | exact HB.out)⟩
     ·
      replace c17 := Bool.eq_false_iff.mpr c17
      subst c17
      have H1 : (if (wrap64 (bt a0 0)) = 1 then (credenzaref22_Parse.j1 kj6 a0 23 (wrap64 (bt a0 0)) 0 0 0 0 0 0 0) else (credenzaref22_Parse.j1 kj6 a0 2 (wrap64 (bt a0 0)) 0 0 0 0 0 0 0)) = some (r1, r2, r3, r4, r5, r6, r7, r8, r9, r10) := by rw [if_neg (show ¬ (false = true) by decide)] at H; exact H
      clear H
      have H := H1
      clear H1
      have HC20 := Aside0.mk H
      clear H
      have hnb21 := NB272_271.out
      have hnc21 := NB271_272.out
      have hcz22_0 : wc.cell? ⟨gb272, 0, none⟩ = some (.int .i64 (wrap64 (bt a0 0))) := (blk_cell BK272.out 0).trans rfl
      have hcz22_1 : wc.cell? ⟨gb272, 1, none⟩ = some (.int .u32 0) := (blk_cell BK272.out 1).trans rfl
      have hcz22_2 : wc.cell? ⟨gb272, 2, none⟩ = some (.slice none 0 0) := (blk_cell BK272.out 2).trans rfl
      have hcz22_3 : wc.cell? ⟨gb272, 3, none⟩ = some (.int .i64 0) := (blk_cell BK272.out 3).trans rfl
      have hcz22_4 : wc.cell? ⟨gb272, 4, none⟩ = some (.int .i64 0) := (blk_cell BK272.out 4).trans rfl
      have hcz22_5 : wc.cell? ⟨gb272, 5, none⟩ = some (.int .i32 0) := (blk_cell BK272.out 5).trans rfl
      have hcz22_6 : wc.cell? ⟨gb272, 6, none⟩ = some (.int .i64 0) := (blk_cell BK272.out 6).trans rfl
      have hcz22_7 : wc.cell? ⟨gb272, 7, none⟩ = some (.int .u64 0) := (blk_cell BK272.out 7).trans rfl
      have hcz22_8 : wc.cell? ⟨gb272, 8, none⟩ = some (.int .i64 0) := (blk_cell BK272.out 8).trans rfl
      have hfz22_0 := blk_frozen BK272.out 0
      have hfz22_1 := blk_frozen BK272.out 1
      have hfz22_2 := blk_frozen BK272.out 2
      have hfz22_3 := blk_frozen BK272.out 3
      have hfz22_4 := blk_frozen BK272.out 4
      have hfz22_5 := blk_frozen BK272.out 5
      have hfz22_6 := blk_frozen BK272.out 6
      have hfz22_7 := blk_frozen BK272.out 7
      have hfz22_8 := blk_frozen BK272.out 8
      go_upto_if 27 with (fail)
      go_cut [5] (fun v5 wc => ∃ (kq : Nat) (x5_19 : Int), v5 = .int .i64 x5_19 ∧ Aside0 (credenzaref22_Parse.j1 kq a0 x5_19 (wrap64 (bt a0 0)) 0 0 0 0 0 0 0 = some (r1, r2, r3, r4, r5, r6, r7, r8, r9, r10)) ∧ Aside0 (kq ≤ kj6) ∧ Aside0 (wc.heap[gb271]? = some (.cells #[.int .i64 0, .int .u32 0, (.slice none 0 0), .int .i64 0, .int .i64 0, .int .i32 0, .int .i64 0, .int .u64 0, .int .i64 0] 40 (0, 0))) ∧ Aside0 (wc.heap[gb272]? = some (.cells #[.int .i64 (wrap64 (bt a0 0)), .int .u32 0, (.slice none 0 0), .int .i64 0, .int .i64 0, .int .i32 0, .int .i64 0, .int .u64 0, .int .i64 0] 40 (0, 0))) ∧ Aside0 (Below w.heap.size w wc))
      case first =>
       have H := HC20.out
       clear HC20
       by_cases c23 : (wrap64 (bt a0 0)) = 1
       ·
        rw [if_pos c23] at H
        have c23b0 : ((wrap64 (bt a0 0)) == 1) = true := beq_iff_eq.mpr c23
        have c23b1 : ((wrap64 (bt a0 0)) != 1) = false := bne_eq_false_iff_eq.mpr c23
        clear c23
        (first | rw [c23b0] | (simp only [i64_w, i32_w]; rw [c23b0]) | skip)
        have H' := Aside0.mk H
        clear H
        go_wp2
        go_meet
        case rel => exact ⟨_, (23), (by first | rfl | (simp; done) | (simp [*]; done)), H', ⟨by have := HJ6.out; first | omega | exact Nat.le_refl _⟩, ⟨by (with_reducible repeat (first | refine blk_drewN ?_ _ | refine blk_drew ?_ | refine blk_alloc ?_ _)); exact BK271.out⟩, ⟨by (with_reducible repeat (first | refine blk_drewN ?_ _ | refine blk_drew ?_ | refine blk_alloc ?_ _)); exact BK272.out⟩, ⟨by repeat (first | (with_reducible first | exact HB.out | apply below_alloc | apply pw_below_drewN | apply below_drew1 | refine below_set ?_ GE271.out | refine below_set ?_ GE272.out) | exact HB.out)⟩⟩
       ·
        rw [if_neg c23] at H
        have c23b0 : ((wrap64 (bt a0 0)) == 1) = false := beq_eq_false_iff_ne.mpr c23
        have c23b1 : ((wrap64 (bt a0 0)) != 1) = true := bne_iff_ne.mpr c23
        (first | rw [c23b0] | (simp only [i64_w, i32_w]; rw [c23b0]) | skip)
        have H' := Aside0.mk H
        clear H
        go_wp2
        go_meet
        case rel => exact ⟨_, (2), (by first | rfl | (simp; done) | (simp [*]; done)), H', ⟨by have := HJ6.out; first | omega | exact Nat.le_refl _⟩, ⟨by (with_reducible repeat (first | refine blk_drewN ?_ _ | refine blk_drew ?_ | refine blk_alloc ?_ _)); exact BK271.out⟩, ⟨by (with_reducible repeat (first | refine blk_drewN ?_ _ | refine blk_drew ?_ | refine blk_alloc ?_ _)); exact BK272.out⟩, ⟨by repeat (first | (with_reducible first | exact HB.out | apply below_alloc | apply pw_below_drewN | apply below_drew1 | refine below_set ?_ GE271.out | refine below_set ?_ GE272.out) | exact HB.out)⟩⟩
      case rest =>
       clear HC20
       try clear c1
       try clear c2
       try clear c2b0
       try clear c2b1
       try clear p2
       try clear c5
       try clear c5b0
       try clear c5b1
       try clear p6
       try clear q6
       try clear hx6
       try clear qi6
       try clear c10
       try clear c12
       try clear c12b0
       try clear c13
       try clear c15
       try clear c17
       try clear c18
       try clear c21
       try clear c23
       try clear c23b0
       try clear c23b1
       try clear hcz11_0
       try clear hcz11_1
       try clear hcz11_2
       try clear hcz11_3
       try clear hcz11_4
       try clear hcz11_5
       try clear hcz11_6
       try clear hcz11_7
       try clear hcz11_8
       try clear hcz14_0
       try clear hcz14_1
       try clear hcz14_2
       try clear hcz14_3
       try clear hcz14_4
       try clear hcz14_5
       try clear hcz14_6
       try clear hcz14_7
       try clear hcz14_8
       try clear hcz16_0
       try clear hcz16_1
       try clear hcz16_2
       try clear hcz16_3
       try clear hcz16_4
       try clear hcz16_5
       try clear hcz16_6
       try clear hcz16_7
       try clear hcz16_8
       try clear hcz19_0
       try clear hcz19_1
       try clear hcz19_2
       try clear hcz19_3
       try clear hcz19_4
       try clear hcz19_5
       try clear hcz19_6
       try clear hcz19_7
       try clear hcz19_8
       try clear hcz22_0
       try clear hcz22_1
       try clear hcz22_2
       try clear hcz22_3
       try clear hcz22_4
       try clear hcz22_5
       try clear hcz22_6
       try clear hcz22_7
       try clear hcz22_8
       try clear hcz4_0
       try clear hcz4_1
       try clear hcz4_2
       try clear hcz4_3
       try clear hcz4_4
       try clear hcz4_5
       try clear hcz4_6
       try clear hcz4_7
       try clear hcz4_8
       try clear hfz11_0
       try clear hfz11_1
       try clear hfz11_2
       try clear hfz11_3
       try clear hfz11_4
       try clear hfz11_5
       try clear hfz11_6
       try clear hfz11_7
       try clear hfz11_8
       try clear hfz14_0
       try clear hfz14_1
       try clear hfz14_2
       try clear hfz14_3
       try clear hfz14_4
       try clear hfz14_5
       try clear hfz14_6
       try clear hfz14_7
       try clear hfz14_8
       try clear hfz16_0
       try clear hfz16_1
       try clear hfz16_2
       try clear hfz16_3
       try clear hfz16_4
       try clear hfz16_5
       try clear hfz16_6
       try clear hfz16_7
       try clear hfz16_8
       try clear hfz19_0
       try clear hfz19_1
       try clear hfz19_2
       try clear hfz19_3
       try clear hfz19_4
       try clear hfz19_5
       try clear hfz19_6
       try clear hfz19_7
       try clear hfz19_8
       try clear hfz22_0
       try clear hfz22_1
       try clear hfz22_2
       try clear hfz22_3
       try clear hfz22_4
       try clear hfz22_5
       try clear hfz22_6
       try clear hfz22_7
       try clear hfz22_8
       try clear hfz4_0
       try clear hfz4_1
       try clear hfz4_2
       try clear hfz4_3
       try clear hfz4_4
       try clear hfz4_5
       try clear hfz4_6
       try clear hfz4_7
       try clear hfz4_8
       try clear p2
       try clear p6
       try clear q6
       obtain ⟨kq, x5_19, rfl, HA, HJ19, BK271, BK272, HB⟩ := hcut
       cases kq with
       | zero => exact absurd HA.out (by simp [credenzaref22_Parse.j1])
       | succ kj19 =>
        have H := HA.out
        clear HA
        simp only [credenzaref22_Parse.j1] at H
        have HC24 := Aside0.mk H
        clear H
        have hnb25 := NB272_271.out
        have hnc25 := NB271_272.out
        have hcz26_0 : wc.cell? ⟨gb272, 0, none⟩ = some (.int .i64 (wrap64 (bt a0 0))) := (blk_cell BK272.out 0).trans rfl
        have hcz26_1 : wc.cell? ⟨gb272, 1, none⟩ = some (.int .u32 0) := (blk_cell BK272.out 1).trans rfl
        have hcz26_2 : wc.cell? ⟨gb272, 2, none⟩ = some (.slice none 0 0) := (blk_cell BK272.out 2).trans rfl
        have hcz26_3 : wc.cell? ⟨gb272, 3, none⟩ = some (.int .i64 0) := (blk_cell BK272.out 3).trans rfl
        have hcz26_4 : wc.cell? ⟨gb272, 4, none⟩ = some (.int .i64 0) := (blk_cell BK272.out 4).trans rfl
        have hcz26_5 : wc.cell? ⟨gb272, 5, none⟩ = some (.int .i32 0) := (blk_cell BK272.out 5).trans rfl
        have hcz26_6 : wc.cell? ⟨gb272, 6, none⟩ = some (.int .i64 0) := (blk_cell BK272.out 6).trans rfl
        have hcz26_7 : wc.cell? ⟨gb272, 7, none⟩ = some (.int .u64 0) := (blk_cell BK272.out 7).trans rfl
        have hcz26_8 : wc.cell? ⟨gb272, 8, none⟩ = some (.int .i64 0) := (blk_cell BK272.out 8).trans rfl
        have hfz26_0 := blk_frozen BK272.out 0
        have hfz26_1 := blk_frozen BK272.out 1
        have hfz26_2 := blk_frozen BK272.out 2
        have hfz26_3 := blk_frozen BK272.out 3
        have hfz26_4 := blk_frozen BK272.out 4
        have hfz26_5 := blk_frozen BK272.out 5
        have hfz26_6 := blk_frozen BK272.out 6
        have hfz26_7 := blk_frozen BK272.out 7
        have hfz26_8 := blk_frozen BK272.out 8
        go_upto_if 30 with (fail)
        go_cut [5] (fun v5 wc => ∃ (kq : Nat) (x5_23 : Int), v5 = .int .i64 x5_23 ∧ Aside0 (credenzaref22_Parse.j2 kq a0 x5_23 (wrap64 (bt a0 0)) 0 0 0 0 0 0 0 = some (r1, r2, r3, r4, r5, r6, r7, r8, r9, r10)) ∧ Aside0 (kq ≤ kj19) ∧ Aside0 (wc.heap[gb271]? = some (.cells #[.int .i64 0, .int .u32 0, (.slice none 0 0), .int .i64 0, .int .i64 0, .int .i32 0, .int .i64 0, .int .u64 0, .int .i64 0] 40 (0, 0))) ∧ Aside0 (wc.heap[gb272]? = some (.cells #[.int .i64 (wrap64 (bt a0 0)), .int .u32 0, (.slice none 0 0), .int .i64 0, .int .i64 0, .int .i32 0, .int .i64 0, .int .u64 0, .int .i64 0] 40 (0, 0))) ∧ Aside0 (Below w.heap.size w wc))
        case first =>
         have H := HC24.out
         clear HC24
         by_cases c27 : (wrap64 (bt a0 0)) = 2
         ·
          rw [if_pos c27] at H
          have c27b0 : ((wrap64 (bt a0 0)) == 2) = true := beq_iff_eq.mpr c27
          have c27b1 : ((wrap64 (bt a0 0)) != 2) = false := bne_eq_false_iff_eq.mpr c27
          clear c27
          (first | rw [c27b0] | (simp only [i64_w, i32_w]; rw [c27b0]) | skip)
          have H' := Aside0.mk H
          clear H
          go_wp2
          go_meet
          case rel => exact ⟨_, (5), (by first | rfl | (simp; done) | (simp [*]; done)), H', ⟨by have := HJ6.out; have := HJ19.out; first | omega | exact Nat.le_refl _⟩, ⟨by (with_reducible repeat (first | refine blk_drewN ?_ _ | refine blk_drew ?_ | refine blk_alloc ?_ _)); exact BK271.out⟩, ⟨by (with_reducible repeat (first | refine blk_drewN ?_ _ | refine blk_drew ?_ | refine blk_alloc ?_ _)); exact BK272.out⟩, ⟨by repeat (first | (with_reducible first | exact HB.out | apply below_alloc | apply pw_below_drewN | apply below_drew1 | refine below_set ?_ GE271.out | refine below_set ?_ GE272.out) | exact HB.out)⟩⟩
         ·
          rw [if_neg c27] at H
          have c27b0 : ((wrap64 (bt a0 0)) == 2) = false := beq_eq_false_iff_ne.mpr c27
          have c27b1 : ((wrap64 (bt a0 0)) != 2) = true := bne_iff_ne.mpr c27
          (first | rw [c27b0] | (simp only [i64_w, i32_w]; rw [c27b0]) | skip)
          have H' := Aside0.mk H
          clear H
          go_wp2
          go_meet
          case rel => exact ⟨_, (x5_19), (by first | rfl | (simp; done) | (simp [*]; done)), H', ⟨by have := HJ6.out; have := HJ19.out; first | omega | exact Nat.le_refl _⟩, ⟨by (with_reducible repeat (first | refine blk_drewN ?_ _ | refine blk_drew ?_ | refine blk_alloc ?_ _)); exact BK271.out⟩, ⟨by (with_reducible repeat (first | refine blk_drewN ?_ _ | refine blk_drew ?_ | refine blk_alloc ?_ _)); exact BK272.out⟩, ⟨by repeat (first | (with_reducible first | exact HB.out | apply below_alloc | apply pw_below_drewN | apply below_drew1 | refine below_set ?_ GE271.out | refine below_set ?_ GE272.out) | exact HB.out)⟩⟩
        case rest =>
         clear HC24
         try clear c1
         try clear c2
         try clear c2b0
         try clear c2b1
         try clear p2
         try clear c5
         try clear c5b0
         try clear c5b1
         try clear p6
         try clear q6
         try clear hx6
         try clear qi6
         try clear c10
         try clear c12
         try clear c12b0
         try clear c13
         try clear c15
         try clear c17
         try clear c18
         try clear c21
         try clear c23
         try clear c23b0
         try clear c23b1
         try clear c25
         try clear c27
         try clear c27b0
         try clear c27b1
         try clear hcz11_0
         try clear hcz11_1
         try clear hcz11_2
         try clear hcz11_3
         try clear hcz11_4
         try clear hcz11_5
         try clear hcz11_6
         try clear hcz11_7
         try clear hcz11_8
         try clear hcz14_0
         try clear hcz14_1
         try clear hcz14_2
         try clear hcz14_3
         try clear hcz14_4
         try clear hcz14_5
         try clear hcz14_6
         try clear hcz14_7
         try clear hcz14_8
         try clear hcz16_0
         try clear hcz16_1
         try clear hcz16_2
         try clear hcz16_3
         try clear hcz16_4
         try clear hcz16_5
         try clear hcz16_6
         try clear hcz16_7
         try clear hcz16_8
         try clear hcz19_0
         try clear hcz19_1
         try clear hcz19_2
         try clear hcz19_3
         try clear hcz19_4
         try clear hcz19_5
         try clear hcz19_6
         try clear hcz19_7
         try clear hcz19_8
         try clear hcz22_0
         try clear hcz22_1
         try clear hcz22_2
         try clear hcz22_3
         try clear hcz22_4
         try clear hcz22_5
         try clear hcz22_6
         try clear hcz22_7
         try clear hcz22_8
         try clear hcz26_0
         try clear hcz26_1
         try clear hcz26_2
         try clear hcz26_3
         try clear hcz26_4
         try clear hcz26_5
         try clear hcz26_6
         try clear hcz26_7
         try clear hcz26_8
         try clear hcz4_0
         try clear hcz4_1
         try clear hcz4_2
         try clear hcz4_3
         try clear hcz4_4
         try clear hcz4_5
         try clear hcz4_6
         try clear hcz4_7
         try clear hcz4_8
         try clear hfz11_0
         try clear hfz11_1
         try clear hfz11_2
         try clear hfz11_3
         try clear hfz11_4
         try clear hfz11_5
         try clear hfz11_6
         try clear hfz11_7
         try clear hfz11_8
         try clear hfz14_0
         try clear hfz14_1
         try clear hfz14_2
         try clear hfz14_3
         try clear hfz14_4
         try clear hfz14_5
         try clear hfz14_6
         try clear hfz14_7
         try clear hfz14_8
         try clear hfz16_0
         try clear hfz16_1
         try clear hfz16_2
         try clear hfz16_3
         try clear hfz16_4
         try clear hfz16_5
         try clear hfz16_6
         try clear hfz16_7
         try clear hfz16_8
         try clear hfz19_0
         try clear hfz19_1
         try clear hfz19_2
         try clear hfz19_3
         try clear hfz19_4
         try clear hfz19_5
         try clear hfz19_6
         try clear hfz19_7
         try clear hfz19_8
         try clear hfz22_0
         try clear hfz22_1
         try clear hfz22_2
         try clear hfz22_3
         try clear hfz22_4
         try clear hfz22_5
         try clear hfz22_6
         try clear hfz22_7
         try clear hfz22_8
         try clear hfz26_0
         try clear hfz26_1
         try clear hfz26_2
         try clear hfz26_3
         try clear hfz26_4
         try clear hfz26_5
         try clear hfz26_6
         try clear hfz26_7
         try clear hfz26_8
         try clear hfz4_0
         try clear hfz4_1
         try clear hfz4_2
         try clear hfz4_3
         try clear hfz4_4
         try clear hfz4_5
         try clear hfz4_6
         try clear hfz4_7
         try clear hfz4_8
         try clear p2
         try clear p6
         try clear q6
         obtain ⟨kq, x5_23, rfl, HA, HJ23, BK271, BK272, HB⟩ := hcut
         cases kq with
         | zero => exact absurd HA.out (by simp [credenzaref22_Parse.j2])
         | succ kj23 =>
          have H := HA.out
          clear HA
          simp only [credenzaref22_Parse.j2] at H
          by_cases c28 : (a0.size : Int) < x5_23
          ·
           rw [if_pos c28] at H
           have c28b0 : decide ((a0.size : Int) < x5_23) = true := decide_eq_true c28
           clear c28
           simp only [Option.some.injEq, Prod.mk.injEq] at H
           obtain ⟨rfl, rfl, rfl, rfl, rfl, rfl, rfl, rfl, rfl, rfl⟩ := H
           have hnb29 := NB271_272.out
           have hnc29 := NB272_271.out
           have hcz30_0 : wc.cell? ⟨gb271, 0, none⟩ = some (.int .i64 0) := (blk_cell BK271.out 0).trans rfl
           have hcz30_1 : wc.cell? ⟨gb271, 1, none⟩ = some (.int .u32 0) := (blk_cell BK271.out 1).trans rfl
           have hcz30_2 : wc.cell? ⟨gb271, 2, none⟩ = some (.slice none 0 0) := (blk_cell BK271.out 2).trans rfl
           have hcz30_3 : wc.cell? ⟨gb271, 3, none⟩ = some (.int .i64 0) := (blk_cell BK271.out 3).trans rfl
           have hcz30_4 : wc.cell? ⟨gb271, 4, none⟩ = some (.int .i64 0) := (blk_cell BK271.out 4).trans rfl
           have hcz30_5 : wc.cell? ⟨gb271, 5, none⟩ = some (.int .i32 0) := (blk_cell BK271.out 5).trans rfl
           have hcz30_6 : wc.cell? ⟨gb271, 6, none⟩ = some (.int .i64 0) := (blk_cell BK271.out 6).trans rfl
           have hcz30_7 : wc.cell? ⟨gb271, 7, none⟩ = some (.int .u64 0) := (blk_cell BK271.out 7).trans rfl
           have hcz30_8 : wc.cell? ⟨gb271, 8, none⟩ = some (.int .i64 0) := (blk_cell BK271.out 8).trans rfl
           have hfz30_0 := blk_frozen BK271.out 0
           have hfz30_1 := blk_frozen BK271.out 1
           have hfz30_2 := blk_frozen BK271.out 2
           have hfz30_3 := blk_frozen BK271.out 3
           have hfz30_4 := blk_frozen BK271.out 4
           have hfz30_5 := blk_frozen BK271.out 5
           have hfz30_6 := blk_frozen BK271.out 6
           have hfz30_7 := blk_frozen BK271.out 7
           have hfz30_8 := blk_frozen BK271.out 8
           go_wp2
           refine bodyPost_ret (results_ct rfl _ _ gb271 40 #[.int .i64 0, .int .u32 0, .slice none 0 0, .int .i64 0, .int .i64 0, .int .i32 0, .int .i64 0, .int .u64 0, .int .i64 0] (0, 0) _ rfl (by (with_reducible repeat (first | refine blk_drewN ?_ _ | refine blk_drew ?_ | refine blk_alloc ?_ _)); refine blk_put (cs := #[.int .i64 0, .int .u32 0, .slice none 0 0, .int .i64 0, .int .i64 0, .int .i32 0, .int .i64 0, .int .u64 0, .int .i64 0]) ?_ 8 _ rfl; (with_reducible repeat (first | refine blk_drewN ?_ _ | refine blk_drew ?_ | refine blk_alloc ?_ _)); refine blk_put (cs := #[.int .i64 0, .int .u32 0, .slice none 0 0, .int .i64 0, .int .i64 0, .int .i32 0, .int .i64 0, .int .u64 0, .int .i64 0]) ?_ 7 _ rfl; (with_reducible repeat (first | refine blk_drewN ?_ _ | refine blk_drew ?_ | refine blk_alloc ?_ _)); refine blk_put (cs := #[.int .i64 0, .int .u32 0, .slice none 0 0, .int .i64 0, .int .i64 0, .int .i32 0, .int .i64 0, .int .u64 0, .int .i64 0]) ?_ 6 _ rfl; (with_reducible repeat (first | refine blk_drewN ?_ _ | refine blk_drew ?_ | refine blk_alloc ?_ _)); refine blk_put (cs := #[.int .i64 0, .int .u32 0, .slice none 0 0, .int .i64 0, .int .i64 0, .int .i32 0, .int .i64 0, .int .u64 0, .int .i64 0]) ?_ 5 _ rfl; (with_reducible repeat (first | refine blk_drewN ?_ _ | refine blk_drew ?_ | refine blk_alloc ?_ _)); refine blk_put (cs := #[.int .i64 0, .int .u32 0, .slice none 0 0, .int .i64 0, .int .i64 0, .int .i32 0, .int .i64 0, .int .u64 0, .int .i64 0]) ?_ 4 _ rfl; (with_reducible repeat (first | refine blk_drewN ?_ _ | refine blk_drew ?_ | refine blk_alloc ?_ _)); refine blk_put (cs := #[.int .i64 0, .int .u32 0, .slice none 0 0, .int .i64 0, .int .i64 0, .int .i32 0, .int .i64 0, .int .u64 0, .int .i64 0]) ?_ 3 _ rfl; (with_reducible repeat (first | refine blk_drewN ?_ _ | refine blk_drew ?_ | refine blk_alloc ?_ _)); refine blk_put (cs := #[.int .i64 0, .int .u32 0, .slice none 0 0, .int .i64 0, .int .i64 0, .int .i32 0, .int .i64 0, .int .u64 0, .int .i64 0]) ?_ 2 _ rfl; (with_reducible repeat (first | refine blk_drewN ?_ _ | refine blk_drew ?_ | refine blk_alloc ?_ _)); refine blk_put (cs := #[.int .i64 0, .int .u32 0, .slice none 0 0, .int .i64 0, .int .i64 0, .int .i32 0, .int .i64 0, .int .u64 0, .int .i64 0]) ?_ 1 _ rfl; (with_reducible repeat (first | refine blk_drewN ?_ _ | refine blk_drew ?_ | refine blk_alloc ?_ _)); refine blk_put (cs := #[.int .i64 0, .int .u32 0, .slice none 0 0, .int .i64 0, .int .i64 0, .int .i32 0, .int .i64 0, .int .u64 0, .int .i64 0]) ?_ 0 _ rfl; (with_reducible repeat (first | refine blk_drewN ?_ _ | refine blk_drew ?_ | refine blk_alloc ?_ _)); exact BK271.out) Try.underlying40 rfl (by kernel_rfl)) rfl ?_
           exact ⟨_, by first | rfl | (simp [errW_none, errW_some] <;> rfl) | (simp [*, errW_none, errW_some] <;> rfl), by first | exact Kd.R_nil _ _ _ _ _ | exact Kd.N_nil _ _ _ _ _ | exact Kd.V_nil _ _ _ _ _ | exact Kd.Q_nil _ _ _ _ _ | exact Kd.S_nil _ _ _ _ _, by repeat (first | (with_reducible first | exact HB.out | apply below_alloc | apply pw_below_drewN | apply below_drew1 | refine below_set ?_ GE271.out | refine below_set ?_ GE272.out) | exact HB.out)⟩
          ·
           rw [if_neg c28] at H
           have c28b0 : decide ((a0.size : Int) < x5_23) = false := decide_eq_false c28
           clear c28
           have HC31 := Aside0.mk H
           clear H
           have hnb32 := NB272_271.out
           have hnc32 := NB271_272.out
           have hcz33_0 : wc.cell? ⟨gb272, 0, none⟩ = some (.int .i64 (wrap64 (bt a0 0))) := (blk_cell BK272.out 0).trans rfl
           have hcz33_1 : wc.cell? ⟨gb272, 1, none⟩ = some (.int .u32 0) := (blk_cell BK272.out 1).trans rfl
           have hcz33_2 : wc.cell? ⟨gb272, 2, none⟩ = some (.slice none 0 0) := (blk_cell BK272.out 2).trans rfl
           have hcz33_3 : wc.cell? ⟨gb272, 3, none⟩ = some (.int .i64 0) := (blk_cell BK272.out 3).trans rfl
           have hcz33_4 : wc.cell? ⟨gb272, 4, none⟩ = some (.int .i64 0) := (blk_cell BK272.out 4).trans rfl
           have hcz33_5 : wc.cell? ⟨gb272, 5, none⟩ = some (.int .i32 0) := (blk_cell BK272.out 5).trans rfl
           have hcz33_6 : wc.cell? ⟨gb272, 6, none⟩ = some (.int .i64 0) := (blk_cell BK272.out 6).trans rfl
           have hcz33_7 : wc.cell? ⟨gb272, 7, none⟩ = some (.int .u64 0) := (blk_cell BK272.out 7).trans rfl
           have hcz33_8 : wc.cell? ⟨gb272, 8, none⟩ = some (.int .i64 0) := (blk_cell BK272.out 8).trans rfl
           have hfz33_0 := blk_frozen BK272.out 0
           have hfz33_1 := blk_frozen BK272.out 1
           have hfz33_2 := blk_frozen BK272.out 2
           have hfz33_3 := blk_frozen BK272.out 3
           have hfz33_4 := blk_frozen BK272.out 4
           have hfz33_5 := blk_frozen BK272.out 5
           have hfz33_6 := blk_frozen BK272.out 6
           have hfz33_7 := blk_frozen BK272.out 7
           have hfz33_8 := blk_frozen BK272.out 8
           go_upto_if 38 with (fail)
           go_cut [] (fun wc => ∃ (kq : Nat) (x273001_30 : Int) (x273008_30 : Int), Aside0 (credenzaref22_Parse.j3 kq a0 x5_23 (wrap64 (bt a0 0)) x273001_30 0 0 0 0 0 x273008_30 = some (r1, r2, r3, r4, r5, r6, r7, r8, r9, r10)) ∧ Aside0 (kq ≤ kj23) ∧ Aside0 (wc.heap[gb271]? = some (.cells #[.int .i64 0, .int .u32 0, (.slice none 0 0), .int .i64 0, .int .i64 0, .int .i32 0, .int .i64 0, .int .u64 0, .int .i64 0] 40 (0, 0))) ∧ Aside0 (wc.heap[gb272]? = some (.cells #[.int .i64 (wrap64 (bt a0 0)), .int .u32 x273001_30, (.slice none 0 0), .int .i64 0, .int .i64 0, .int .i32 0, .int .i64 0, .int .u64 0, .int .i64 x273008_30] 40 (0, 0))) ∧ Aside0 (Below w.heap.size w wc))
           case first =>
            have H := HC31.out
            clear HC31
            by_cases c34 : (wrap64 (bt a0 0)) > 2
            ·
             rw [if_pos c34] at H
             have c34b0 : decide (2 < (wrap64 (bt a0 0))) = true := decide_eq_true c34
             clear c34
             (first | rw [c34b0] | (simp only [i64_w, i32_w]; rw [c34b0]) | skip)
             by_cases c35 : 1 < (a0.size : Int)
             ·
              rw [if_pos c35] at H
              have c35b0 : decide (1 < (a0.size : Int)) = true := decide_eq_true c35
              have c35b1 : decide (1 < a0.size) = true := decide_eq_true (by omega)
              clear c35
              have H' := Aside0.mk H
              clear H
              have p36 : 0 ≤ (1 : Int) := (by omega)
              have q36 : 1 < a0.size := (by have : (1 : Int) < (a0.size : Int) := of_decide_eq_true (by first | (with_reducible assumption) | assumption); omega)
              have hx36 : ∀ h : 1 < a0.size, ((a0[1]'h).toNat : Int) = bt a0 1 := bt_at a0 1
              clear p36
              have qi36 : (1 < (a0.size : Int)) = True := eq_true (of_decide_eq_true (by first | (with_reducible assumption) | assumption))
              replace q36 := eq_true q36
              have hnb37 := NB272_271.out
              have hnc37 := NB271_272.out
              have hcz38_0 : wc.cell? ⟨gb272, 0, none⟩ = some (.int .i64 (wrap64 (bt a0 0))) := (blk_cell BK272.out 0).trans rfl
              have hcz38_1 : wc.cell? ⟨gb272, 1, none⟩ = some (.int .u32 0) := (blk_cell BK272.out 1).trans rfl
              have hcz38_2 : wc.cell? ⟨gb272, 2, none⟩ = some (.slice none 0 0) := (blk_cell BK272.out 2).trans rfl
              have hcz38_3 : wc.cell? ⟨gb272, 3, none⟩ = some (.int .i64 0) := (blk_cell BK272.out 3).trans rfl
              have hcz38_4 : wc.cell? ⟨gb272, 4, none⟩ = some (.int .i64 0) := (blk_cell BK272.out 4).trans rfl
              have hcz38_5 : wc.cell? ⟨gb272, 5, none⟩ = some (.int .i32 0) := (blk_cell BK272.out 5).trans rfl
              have hcz38_6 : wc.cell? ⟨gb272, 6, none⟩ = some (.int .i64 0) := (blk_cell BK272.out 6).trans rfl
              have hcz38_7 : wc.cell? ⟨gb272, 7, none⟩ = some (.int .u64 0) := (blk_cell BK272.out 7).trans rfl
              have hcz38_8 : wc.cell? ⟨gb272, 8, none⟩ = some (.int .i64 0) := (blk_cell BK272.out 8).trans rfl
              have hfz38_0 := blk_frozen BK272.out 0
              have hfz38_1 := blk_frozen BK272.out 1
              have hfz38_2 := blk_frozen BK272.out 2
              have hfz38_3 := blk_frozen BK272.out 3
              have hfz38_4 := blk_frozen BK272.out 4
              have hfz38_5 := blk_frozen BK272.out 5
              have hfz38_6 := blk_frozen BK272.out 6
              have hfz38_7 := blk_frozen BK272.out 7
              have hfz38_8 := blk_frozen BK272.out 8
              go_wp2
              go_meet
              case rel => exact ⟨_, (0), (wrap64 (bt a0 1)), H', ⟨by have := HJ6.out; have := HJ19.out; have := HJ23.out; first | omega | exact Nat.le_refl _⟩, ⟨by (with_reducible repeat (first | refine blk_drewN ?_ _ | refine blk_drew ?_ | refine blk_alloc ?_ _)); refine blk_far ?_ NB271_272.out _; (with_reducible repeat (first | refine blk_drewN ?_ _ | refine blk_drew ?_ | refine blk_alloc ?_ _)); exact BK271.out⟩, ⟨by (with_reducible repeat (first | refine blk_drewN ?_ _ | refine blk_drew ?_ | refine blk_alloc ?_ _)); refine blk_put (cs := #[.int .i64 (wrap64 (bt a0 0)), .int .u32 0, .slice none 0 0, .int .i64 0, .int .i64 0, .int .i32 0, .int .i64 0, .int .u64 0, .int .i64 0]) ?_ 8 _ rfl; (with_reducible repeat (first | refine blk_drewN ?_ _ | refine blk_drew ?_ | refine blk_alloc ?_ _)); exact BK272.out⟩, ⟨by repeat (first | (with_reducible first | exact HB.out | apply below_alloc | apply pw_below_drewN | apply below_drew1 | refine below_set ?_ GE271.out | refine below_set ?_ GE272.out) | exact HB.out)⟩⟩
             ·
              rw [if_neg c35] at H
              exact absurd H (by simp)
            ·
             rw [if_neg c34] at H
             have c34b0 : decide (2 < (wrap64 (bt a0 0))) = false := decide_eq_false c34
             clear c34
             (first | rw [c34b0] | (simp only [i64_w, i32_w]; rw [c34b0]) | skip)
             replace H := Option.bind_eq_some_iff.mp H
             obtain ⟨t273, A390, H⟩ := H
             replace H : (credenzaref22_Parse.j3 kj23 a0 x5_23 (wrap64 (bt a0 0)) ((t273) % 4294967296) 0 0 0 0 0 0) = some (r1, r2, r3, r4, r5, r6, r7, r8, r9, r10) := H
             have A39 := Aside0.mk A390
             clear A390
             have H' := Aside0.mk H
             clear H
             go_wp2_with (first | ((with_reducible refine gate_callee (f := 53) rfl ?_); refine goesL_ (some 44) rfl rfl Try.func53 (by kernel_rfl) rfl #[.string a0, .int .i64 1, .int .i64 4] rfl (by (try simp only [List.map_toArray, List.map_cons, List.map_nil]); first | done | rfl | (simp only [List.length_drop, List.length_take]; rfl)) ?_; (with_reducible refine (credenzaref22_number.calls kj23 a0 1 4 t273 _ A39.out).mono ?_); rintro e w' ⟨rfl, ⟨nd, rfl⟩⟩; refine ⟨_, rfl, ?_⟩; (try (rw [drewN_self wc]; generalize hq_ : World.drewN wc _ = wc; have n0_ : Aside0 (wc.heap[gb271]? = some (.cells #[.int .i64 0, .int .u32 0, .slice none 0 0, .int .i64 0, .int .i64 0, .int .i32 0, .int .i64 0, .int .u64 0, .int .i64 0] 40 (0, 0))) := ⟨by rw [← hq_]; exact (by (with_reducible repeat (first | refine blk_drewN ?_ _ | refine blk_drew ?_ | refine blk_alloc ?_ _)); exact BK271.out)⟩; have n1_ : Aside0 (wc.heap[gb272]? = some (.cells #[.int .i64 (wrap64 (bt a0 0)), .int .u32 0, .slice none 0 0, .int .i64 0, .int .i64 0, .int .i32 0, .int .i64 0, .int .u64 0, .int .i64 0] 40 (0, 0))) := ⟨by rw [← hq_]; exact (by (with_reducible repeat (first | refine blk_drewN ?_ _ | refine blk_drew ?_ | refine blk_alloc ?_ _)); exact BK272.out)⟩; have n2_ : Aside0 (Below w.heap.size w wc) := ⟨by rw [← hq_]; exact (by repeat (first | (with_reducible first | exact HB.out | apply below_alloc | apply pw_below_drewN | apply below_drew1 | refine below_set ?_ GE271.out | refine below_set ?_ GE272.out) | exact HB.out))⟩; clear BK271 BK272 HB hq_; have BK271 := n0_; have BK272 := n1_; have HB := n2_; clear n0_ n1_ n2_)); have hnb40 := NB272_271.out; have hnc40 := NB271_272.out; have hcz41_0 : wc.cell? ⟨gb272, 0, none⟩ = some (.int .i64 (wrap64 (bt a0 0))) := (blk_cell BK272.out 0).trans rfl; have hcz41_1 : wc.cell? ⟨gb272, 1, none⟩ = some (.int .u32 0) := (blk_cell BK272.out 1).trans rfl; have hcz41_2 : wc.cell? ⟨gb272, 2, none⟩ = some (.slice none 0 0) := (blk_cell BK272.out 2).trans rfl; have hcz41_3 : wc.cell? ⟨gb272, 3, none⟩ = some (.int .i64 0) := (blk_cell BK272.out 3).trans rfl; have hcz41_4 : wc.cell? ⟨gb272, 4, none⟩ = some (.int .i64 0) := (blk_cell BK272.out 4).trans rfl; have hcz41_5 : wc.cell? ⟨gb272, 5, none⟩ = some (.int .i32 0) := (blk_cell BK272.out 5).trans rfl; have hcz41_6 : wc.cell? ⟨gb272, 6, none⟩ = some (.int .i64 0) := (blk_cell BK272.out 6).trans rfl; have hcz41_7 : wc.cell? ⟨gb272, 7, none⟩ = some (.int .u64 0) := (blk_cell BK272.out 7).trans rfl; have hcz41_8 : wc.cell? ⟨gb272, 8, none⟩ = some (.int .i64 0) := (blk_cell BK272.out 8).trans rfl; have hfz41_0 := blk_frozen BK272.out 0; have hfz41_1 := blk_frozen BK272.out 1; have hfz41_2 := blk_frozen BK272.out 2; have hfz41_3 := blk_frozen BK272.out 3; have hfz41_4 := blk_frozen BK272.out 4; have hfz41_5 := blk_frozen BK272.out 5; have hfz41_6 := blk_frozen BK272.out 6; have hfz41_7 := blk_frozen BK272.out 7; have hfz41_8 := blk_frozen BK272.out 8))
             go_meet
             case rel => exact ⟨_, ((t273) % 4294967296), (0), H', ⟨by have := HJ6.out; have := HJ19.out; have := HJ23.out; first | omega | exact Nat.le_refl _⟩, ⟨by (with_reducible repeat (first | refine blk_drewN ?_ _ | refine blk_drew ?_ | refine blk_alloc ?_ _)); refine blk_far ?_ NB271_272.out _; (with_reducible repeat (first | refine blk_drewN ?_ _ | refine blk_drew ?_ | refine blk_alloc ?_ _)); exact BK271.out⟩, ⟨by (with_reducible repeat (first | refine blk_drewN ?_ _ | refine blk_drew ?_ | refine blk_alloc ?_ _)); refine blk_put (cs := #[.int .i64 (wrap64 (bt a0 0)), .int .u32 0, .slice none 0 0, .int .i64 0, .int .i64 0, .int .i32 0, .int .i64 0, .int .u64 0, .int .i64 0]) ?_ 1 _ rfl; (with_reducible repeat (first | refine blk_drewN ?_ _ | refine blk_drew ?_ | refine blk_alloc ?_ _)); exact BK272.out⟩, ⟨by repeat (first | (with_reducible first | exact HB.out | apply below_alloc | apply pw_below_drewN | apply below_drew1 | refine below_set ?_ GE271.out | refine below_set ?_ GE272.out) | exact HB.out)⟩⟩
           case rest =>
            clear HC31
            try clear c1
            try clear c2
            try clear c2b0
            try clear c2b1
            try clear p2
            try clear c3
            try clear p3
            try clear q3
            try clear hx3
            try clear qi3
            try clear c4
            try clear c5
            try clear c5b0
            try clear c5b1
            try clear p6
            try clear q6
            try clear hx6
            try clear qi6
            try clear c10
            try clear c12
            try clear c12b0
            try clear c13
            try clear c15
            try clear c17
            try clear c18
            try clear c21
            try clear c23
            try clear c23b0
            try clear c23b1
            try clear c25
            try clear c27
            try clear c27b0
            try clear c27b1
            try clear c28
            try clear c28b0
            try clear c29
            try clear c32
            try clear c34
            try clear c34b0
            try clear c35
            try clear c35b0
            try clear c35b1
            try clear p36
            try clear q36
            try clear hx36
            try clear qi36
            try clear c37
            try clear c40
            try clear hcz11_0
            try clear hcz11_1
            try clear hcz11_2
            try clear hcz11_3
            try clear hcz11_4
            try clear hcz11_5
            try clear hcz11_6
            try clear hcz11_7
            try clear hcz11_8
            try clear hcz14_0
            try clear hcz14_1
            try clear hcz14_2
            try clear hcz14_3
            try clear hcz14_4
            try clear hcz14_5
            try clear hcz14_6
            try clear hcz14_7
            try clear hcz14_8
            try clear hcz16_0
            try clear hcz16_1
            try clear hcz16_2
            try clear hcz16_3
            try clear hcz16_4
            try clear hcz16_5
            try clear hcz16_6
            try clear hcz16_7
            try clear hcz16_8
            try clear hcz19_0
            try clear hcz19_1
            try clear hcz19_2
            try clear hcz19_3
            try clear hcz19_4
            try clear hcz19_5
            try clear hcz19_6
            try clear hcz19_7
            try clear hcz19_8
            try clear hcz22_0
            try clear hcz22_1
            try clear hcz22_2
            try clear hcz22_3
            try clear hcz22_4
            try clear hcz22_5
            try clear hcz22_6
            try clear hcz22_7
            try clear hcz22_8
            try clear hcz26_0
            try clear hcz26_1
            try clear hcz26_2
            try clear hcz26_3
            try clear hcz26_4
            try clear hcz26_5
            try clear hcz26_6
            try clear hcz26_7
            try clear hcz26_8
            try clear hcz30_0
            try clear hcz30_1
            try clear hcz30_2
            try clear hcz30_3
            try clear hcz30_4
            try clear hcz30_5
            try clear hcz30_6
            try clear hcz30_7
            try clear hcz30_8
            try clear hcz33_0
            try clear hcz33_1
            try clear hcz33_2
            try clear hcz33_3
            try clear hcz33_4
            try clear hcz33_5
            try clear hcz33_6
            try clear hcz33_7
            try clear hcz33_8
            try clear hcz38_0
            try clear hcz38_1
            try clear hcz38_2
            try clear hcz38_3
            try clear hcz38_4
            try clear hcz38_5
            try clear hcz38_6
            try clear hcz38_7
            try clear hcz38_8
            try clear hcz41_0
            try clear hcz41_1
            try clear hcz41_2
            try clear hcz41_3
            try clear hcz41_4
            try clear hcz41_5
            try clear hcz41_6
            try clear hcz41_7
            try clear hcz41_8
            try clear hcz4_0
            try clear hcz4_1
            try clear hcz4_2
            try clear hcz4_3
            try clear hcz4_4
            try clear hcz4_5
            try clear hcz4_6
            try clear hcz4_7
            try clear hcz4_8
            try clear hfz11_0
            try clear hfz11_1
            try clear hfz11_2
            try clear hfz11_3
            try clear hfz11_4
            try clear hfz11_5
            try clear hfz11_6
            try clear hfz11_7
            try clear hfz11_8
            try clear hfz14_0
            try clear hfz14_1
            try clear hfz14_2
            try clear hfz14_3
            try clear hfz14_4
            try clear hfz14_5
            try clear hfz14_6
            try clear hfz14_7
            try clear hfz14_8
            try clear hfz16_0
            try clear hfz16_1
            try clear hfz16_2
            try clear hfz16_3
            try clear hfz16_4
            try clear hfz16_5
            try clear hfz16_6
            try clear hfz16_7
            try clear hfz16_8
            try clear hfz19_0
            try clear hfz19_1
            try clear hfz19_2
            try clear hfz19_3
            try clear hfz19_4
            try clear hfz19_5
            try clear hfz19_6
            try clear hfz19_7
            try clear hfz19_8
            try clear hfz22_0
            try clear hfz22_1
            try clear hfz22_2
            try clear hfz22_3
            try clear hfz22_4
            try clear hfz22_5
            try clear hfz22_6
            try clear hfz22_7
            try clear hfz22_8
            try clear hfz26_0
            try clear hfz26_1
            try clear hfz26_2
            try clear hfz26_3
            try clear hfz26_4
            try clear hfz26_5
            try clear hfz26_6
            try clear hfz26_7
            try clear hfz26_8
            try clear hfz30_0
            try clear hfz30_1
            try clear hfz30_2
            try clear hfz30_3
            try clear hfz30_4
            try clear hfz30_5
            try clear hfz30_6
            try clear hfz30_7
            try clear hfz30_8
            try clear hfz33_0
            try clear hfz33_1
            try clear hfz33_2
            try clear hfz33_3
            try clear hfz33_4
            try clear hfz33_5
            try clear hfz33_6
            try clear hfz33_7
            try clear hfz33_8
            try clear hfz38_0
            try clear hfz38_1
            try clear hfz38_2
            try clear hfz38_3
            try clear hfz38_4
            try clear hfz38_5
            try clear hfz38_6
            try clear hfz38_7
            try clear hfz38_8
            try clear hfz41_0
            try clear hfz41_1
            try clear hfz41_2
            try clear hfz41_3
            try clear hfz41_4
            try clear hfz41_5
            try clear hfz41_6
            try clear hfz41_7
            try clear hfz41_8
            try clear hfz4_0
            try clear hfz4_1
            try clear hfz4_2
            try clear hfz4_3
            try clear hfz4_4
            try clear hfz4_5
            try clear hfz4_6
            try clear hfz4_7
            try clear hfz4_8
            try clear p2
            try clear p36
            try clear p6
            try clear q36
            try clear q6
            obtain ⟨kq, x273001_30, x273008_30, HA, HJ30, BK271, BK272, HB⟩ := hcut
            cases kq with
            | zero => exact absurd HA.out (by simp [credenzaref22_Parse.j3])
            | succ kj30 =>
             have H := HA.out
             clear HA
             simp only [credenzaref22_Parse.j3] at H
             have HC42 := Aside0.mk H
             clear H
             have hnb43 := NB272_271.out
             have hnc43 := NB271_272.out
             have hcz44_0 : wc.cell? ⟨gb272, 0, none⟩ = some (.int .i64 (wrap64 (bt a0 0))) := (blk_cell BK272.out 0).trans rfl
             have hcz44_1 : wc.cell? ⟨gb272, 1, none⟩ = some (.int .u32 x273001_30) := (blk_cell BK272.out 1).trans rfl
             have hcz44_2 : wc.cell? ⟨gb272, 2, none⟩ = some (.slice none 0 0) := (blk_cell BK272.out 2).trans rfl
             have hcz44_3 : wc.cell? ⟨gb272, 3, none⟩ = some (.int .i64 0) := (blk_cell BK272.out 3).trans rfl
             have hcz44_4 : wc.cell? ⟨gb272, 4, none⟩ = some (.int .i64 0) := (blk_cell BK272.out 4).trans rfl
             have hcz44_5 : wc.cell? ⟨gb272, 5, none⟩ = some (.int .i32 0) := (blk_cell BK272.out 5).trans rfl
             have hcz44_6 : wc.cell? ⟨gb272, 6, none⟩ = some (.int .i64 0) := (blk_cell BK272.out 6).trans rfl
             have hcz44_7 : wc.cell? ⟨gb272, 7, none⟩ = some (.int .u64 0) := (blk_cell BK272.out 7).trans rfl
             have hcz44_8 : wc.cell? ⟨gb272, 8, none⟩ = some (.int .i64 x273008_30) := (blk_cell BK272.out 8).trans rfl
             have hfz44_0 := blk_frozen BK272.out 0
             have hfz44_1 := blk_frozen BK272.out 1
             have hfz44_2 := blk_frozen BK272.out 2
             have hfz44_3 := blk_frozen BK272.out 3
             have hfz44_4 := blk_frozen BK272.out 4
             have hfz44_5 := blk_frozen BK272.out 5
             have hfz44_6 := blk_frozen BK272.out 6
             have hfz44_7 := blk_frozen BK272.out 7
             have hfz44_8 := blk_frozen BK272.out 8
             go_upto_if 49 with (fail)
             go_cut [5] (fun v5 wc => ∃ (kq : Nat) (x5_41 : Int) (x272000_41 : Int) (x272001_41 : Int) (x272003_41 : Int) (x272004_41 : Int) (x272005_41 : Int) (x272006_41 : Int) (x272007_41 : Int) (x272008_41 : Int) (x273002_41 : List Int) (x273003_41 : Int) (x273004_41 : Int) (x273005_41 : Int) (x273006_41 : Int) (x273007_41 : Int) (u273002 : Value), v5 = .int .i64 x5_41 ∧ Aside0 (credenzaref22_Parse.j5 kq a0 x5_41 (wrap64 (bt a0 0)) x273001_30 x273002_41 x273003_41 x273004_41 x273005_41 x273006_41 x273007_41 x273008_30 = some (r1, r2, r3, r4, r5, r6, r7, r8, r9, r10)) ∧ Aside0 (kq ≤ kj30) ∧ Aside0 (Kd.R (Kd.int .i64) 3 wc w.heap.size (fun _ => True) u273002 x273002_41) ∧ Aside0 (wc.heap[gb271]? = some (.cells #[.int .i64 x272000_41, .int .u32 x272001_41, (.slice none 0 0), .int .i64 x272003_41, .int .i64 x272004_41, .int .i32 x272005_41, .int .i64 x272006_41, .int .u64 x272007_41, .int .i64 x272008_41] 40 (0, 0))) ∧ Aside0 (wc.heap[gb272]? = some (.cells #[.int .i64 (wrap64 (bt a0 0)), .int .u32 x273001_30, u273002, .int .i64 x273003_41, .int .i64 x273004_41, .int .i32 x273005_41, .int .i64 x273006_41, .int .u64 x273007_41, .int .i64 x273008_30] 40 (0, 0))) ∧ Aside0 (Below w.heap.size w wc))
             case first =>
              have H := HC42.out
              clear HC42
              by_cases c45 : (wrap64 (bt a0 0)) = 1
              ·
               rw [if_pos c45] at H
               have c45b0 : ((wrap64 (bt a0 0)) == 1) = true := beq_iff_eq.mpr c45
               have c45b1 : ((wrap64 (bt a0 0)) != 1) = false := bne_eq_false_iff_eq.mpr c45
               clear c45
               (first | rw [c45b0] | (simp only [i64_w, i32_w]; rw [c45b0]) | skip)
               replace H := Option.bind_eq_some_iff.mp H
               obtain ⟨t274, A460, H⟩ := H
               replace H : (if t274 > 1024 then (some (0, 0, ([] : List Int), 0, 0, 0, 0, 0, 0, 12)) else (if (a0.size : Int) < (wrap64 (x5_23 + t274)) then (some (0, 0, ([] : List Int), 0, 0, 0, 0, 0, 0, 16)) else ((credenzaref22_number.f kj30 a0 5 2).bind fun t275 => ((credenzaref22_number.f kj30 a0 7 1).bind fun t276 => (if 8 ≤ 12 then (if 12 ≤ (a0.size : Int) then ((credenzaref06_Signed.f kj30 (a0.extract 8 12)).bind fun t277 => ((credenzaref22_number.f kj30 a0 12 1).bind fun t278 => (if 13 ≤ 21 then (if 21 ≤ (a0.size : Int) then ((credenzaref06_Number.f kj30 (a0.extract 13 21)).bind fun t279 => (credenzaref22_Parse.l0 kj30 a0 x5_23 t274 0 (wrap64 (bt a0 0)) x273001_30 ([] : List Int) t275 (wrap64 (t276 - 1)) t277 t278 t279 x273008_30)) else (none)) else (none)))) else (none)) else (none)))))) = some (r1, r2, r3, r4, r5, r6, r7, r8, r9, r10) := H
               have A46 := Aside0.mk A460
               clear A460
               by_cases c47 : t274 > 1024
               ·
                rw [if_pos c47] at H
                have c47b0 : decide (1024 < t274) = true := decide_eq_true c47
                clear c47
                simp only [Option.some.injEq, Prod.mk.injEq] at H
                obtain ⟨rfl, rfl, rfl, rfl, rfl, rfl, rfl, rfl, rfl, rfl⟩ := H
                go_wp2_with (first | ((with_reducible refine gate_callee (f := 53) rfl ?_); refine goesL_ (some 51) rfl rfl Try.func53 (by kernel_rfl) rfl #[.string a0, .int .i64 21, .int .i64 2] rfl (by (try simp only [List.map_toArray, List.map_cons, List.map_nil]); first | done | rfl | (simp only [List.length_drop, List.length_take]; rfl)) ?_; (with_reducible refine (credenzaref22_number.calls kj30 a0 21 2 t274 _ A46.out).mono ?_); rintro e w' ⟨rfl, ⟨nd, rfl⟩⟩; refine ⟨_, rfl, ?_⟩; (try (rw [drewN_self wc]; generalize hq_ : World.drewN wc _ = wc; have n0_ : Aside0 (wc.heap[gb271]? = some (.cells #[.int .i64 0, .int .u32 0, .slice none 0 0, .int .i64 0, .int .i64 0, .int .i32 0, .int .i64 0, .int .u64 0, .int .i64 0] 40 (0, 0))) := ⟨by rw [← hq_]; exact (by (with_reducible repeat (first | refine blk_drewN ?_ _ | refine blk_drew ?_ | refine blk_alloc ?_ _)); exact BK271.out)⟩; have n1_ : Aside0 (wc.heap[gb272]? = some (.cells #[.int .i64 (wrap64 (bt a0 0)), .int .u32 x273001_30, .slice none 0 0, .int .i64 0, .int .i64 0, .int .i32 0, .int .i64 0, .int .u64 0, .int .i64 x273008_30] 40 (0, 0))) := ⟨by rw [← hq_]; exact (by (with_reducible repeat (first | refine blk_drewN ?_ _ | refine blk_drew ?_ | refine blk_alloc ?_ _)); exact BK272.out)⟩; have n2_ : Aside0 (Below w.heap.size w wc) := ⟨by rw [← hq_]; exact (by repeat (first | (with_reducible first | exact HB.out | apply below_alloc | apply pw_below_drewN | apply below_drew1 | refine below_set ?_ GE271.out | refine below_set ?_ GE272.out) | exact HB.out))⟩; clear BK271 BK272 HB hq_; have BK271 := n0_; have BK272 := n1_; have HB := n2_; clear n0_ n1_ n2_)); have hnb48 := NB271_272.out; have hnc48 := NB272_271.out; have hcz49_0 : wc.cell? ⟨gb271, 0, none⟩ = some (.int .i64 0) := (blk_cell BK271.out 0).trans rfl; have hcz49_1 : wc.cell? ⟨gb271, 1, none⟩ = some (.int .u32 0) := (blk_cell BK271.out 1).trans rfl; have hcz49_2 : wc.cell? ⟨gb271, 2, none⟩ = some (.slice none 0 0) := (blk_cell BK271.out 2).trans rfl; have hcz49_3 : wc.cell? ⟨gb271, 3, none⟩ = some (.int .i64 0) := (blk_cell BK271.out 3).trans rfl; have hcz49_4 : wc.cell? ⟨gb271, 4, none⟩ = some (.int .i64 0) := (blk_cell BK271.out 4).trans rfl; have hcz49_5 : wc.cell? ⟨gb271, 5, none⟩ = some (.int .i32 0) := (blk_cell BK271.out 5).trans rfl; have hcz49_6 : wc.cell? ⟨gb271, 6, none⟩ = some (.int .i64 0) := (blk_cell BK271.out 6).trans rfl; have hcz49_7 : wc.cell? ⟨gb271, 7, none⟩ = some (.int .u64 0) := (blk_cell BK271.out 7).trans rfl; have hcz49_8 : wc.cell? ⟨gb271, 8, none⟩ = some (.int .i64 0) := (blk_cell BK271.out 8).trans rfl; have hfz49_0 := blk_frozen BK271.out 0; have hfz49_1 := blk_frozen BK271.out 1; have hfz49_2 := blk_frozen BK271.out 2; have hfz49_3 := blk_frozen BK271.out 3; have hfz49_4 := blk_frozen BK271.out 4; have hfz49_5 := blk_frozen BK271.out 5; have hfz49_6 := blk_frozen BK271.out 6; have hfz49_7 := blk_frozen BK271.out 7; have hfz49_8 := blk_frozen BK271.out 8))
                refine bodyPost_ret (results_ct rfl _ _ gb271 40 #[.int .i64 0, .int .u32 0, .slice none 0 0, .int .i64 0, .int .i64 0, .int .i32 0, .int .i64 0, .int .u64 0, .int .i64 0] (0, 0) _ rfl (by (with_reducible repeat (first | refine blk_drewN ?_ _ | refine blk_drew ?_ | refine blk_alloc ?_ _)); refine blk_put (cs := #[.int .i64 0, .int .u32 0, .slice none 0 0, .int .i64 0, .int .i64 0, .int .i32 0, .int .i64 0, .int .u64 0, .int .i64 0]) ?_ 8 _ rfl; (with_reducible repeat (first | refine blk_drewN ?_ _ | refine blk_drew ?_ | refine blk_alloc ?_ _)); refine blk_put (cs := #[.int .i64 0, .int .u32 0, .slice none 0 0, .int .i64 0, .int .i64 0, .int .i32 0, .int .i64 0, .int .u64 0, .int .i64 0]) ?_ 7 _ rfl; (with_reducible repeat (first | refine blk_drewN ?_ _ | refine blk_drew ?_ | refine blk_alloc ?_ _)); refine blk_put (cs := #[.int .i64 0, .int .u32 0, .slice none 0 0, .int .i64 0, .int .i64 0, .int .i32 0, .int .i64 0, .int .u64 0, .int .i64 0]) ?_ 6 _ rfl; (with_reducible repeat (first | refine blk_drewN ?_ _ | refine blk_drew ?_ | refine blk_alloc ?_ _)); refine blk_put (cs := #[.int .i64 0, .int .u32 0, .slice none 0 0, .int .i64 0, .int .i64 0, .int .i32 0, .int .i64 0, .int .u64 0, .int .i64 0]) ?_ 5 _ rfl; (with_reducible repeat (first | refine blk_drewN ?_ _ | refine blk_drew ?_ | refine blk_alloc ?_ _)); refine blk_put (cs := #[.int .i64 0, .int .u32 0, .slice none 0 0, .int .i64 0, .int .i64 0, .int .i32 0, .int .i64 0, .int .u64 0, .int .i64 0]) ?_ 4 _ rfl; (with_reducible repeat (first | refine blk_drewN ?_ _ | refine blk_drew ?_ | refine blk_alloc ?_ _)); refine blk_put (cs := #[.int .i64 0, .int .u32 0, .slice none 0 0, .int .i64 0, .int .i64 0, .int .i32 0, .int .i64 0, .int .u64 0, .int .i64 0]) ?_ 3 _ rfl; (with_reducible repeat (first | refine blk_drewN ?_ _ | refine blk_drew ?_ | refine blk_alloc ?_ _)); refine blk_put (cs := #[.int .i64 0, .int .u32 0, .slice none 0 0, .int .i64 0, .int .i64 0, .int .i32 0, .int .i64 0, .int .u64 0, .int .i64 0]) ?_ 2 _ rfl; (with_reducible repeat (first | refine blk_drewN ?_ _ | refine blk_drew ?_ | refine blk_alloc ?_ _)); refine blk_put (cs := #[.int .i64 0, .int .u32 0, .slice none 0 0, .int .i64 0, .int .i64 0, .int .i32 0, .int .i64 0, .int .u64 0, .int .i64 0]) ?_ 1 _ rfl; (with_reducible repeat (first | refine blk_drewN ?_ _ | refine blk_drew ?_ | refine blk_alloc ?_ _)); refine blk_put (cs := #[.int .i64 0, .int .u32 0, .slice none 0 0, .int .i64 0, .int .i64 0, .int .i32 0, .int .i64 0, .int .u64 0, .int .i64 0]) ?_ 0 _ rfl; (with_reducible repeat (first | refine blk_drewN ?_ _ | refine blk_drew ?_ | refine blk_alloc ?_ _)); exact BK271.out) Try.underlying40 rfl (by kernel_rfl)) rfl ?_
                exact ⟨_, by first | rfl | (simp [errW_none, errW_some] <;> rfl) | (simp [*, errW_none, errW_some] <;> rfl), by first | exact Kd.R_nil _ _ _ _ _ | exact Kd.N_nil _ _ _ _ _ | exact Kd.V_nil _ _ _ _ _ | exact Kd.Q_nil _ _ _ _ _ | exact Kd.S_nil _ _ _ _ _, by repeat (first | (with_reducible first | exact HB.out | apply below_alloc | apply pw_below_drewN | apply below_drew1 | refine below_set ?_ GE271.out | refine below_set ?_ GE272.out) | exact HB.out)⟩
               ·
                rw [if_neg c47] at H
                have c47b0 : decide (1024 < t274) = false := decide_eq_false c47
                clear c47
                by_cases c50 : (a0.size : Int) < (wrap64 (x5_23 + t274))
                ·
                 rw [if_pos c50] at H
                 have c50b0 : decide ((a0.size : Int) < (wrap64 (x5_23 + t274))) = true := decide_eq_true c50
                 clear c50
                 simp only [Option.some.injEq, Prod.mk.injEq] at H
                 obtain ⟨rfl, rfl, rfl, rfl, rfl, rfl, rfl, rfl, rfl, rfl⟩ := H
                 go_wp2_with (first | ((with_reducible refine gate_callee (f := 53) rfl ?_); refine goesL_ (some 51) rfl rfl Try.func53 (by kernel_rfl) rfl #[.string a0, .int .i64 21, .int .i64 2] rfl (by (try simp only [List.map_toArray, List.map_cons, List.map_nil]); first | done | rfl | (simp only [List.length_drop, List.length_take]; rfl)) ?_; (with_reducible refine (credenzaref22_number.calls kj30 a0 21 2 t274 _ A46.out).mono ?_); rintro e w' ⟨rfl, ⟨nd, rfl⟩⟩; refine ⟨_, rfl, ?_⟩; (try (rw [drewN_self wc]; generalize hq_ : World.drewN wc _ = wc; have n0_ : Aside0 (wc.heap[gb271]? = some (.cells #[.int .i64 0, .int .u32 0, .slice none 0 0, .int .i64 0, .int .i64 0, .int .i32 0, .int .i64 0, .int .u64 0, .int .i64 0] 40 (0, 0))) := ⟨by rw [← hq_]; exact (by (with_reducible repeat (first | refine blk_drewN ?_ _ | refine blk_drew ?_ | refine blk_alloc ?_ _)); exact BK271.out)⟩; have n1_ : Aside0 (wc.heap[gb272]? = some (.cells #[.int .i64 (wrap64 (bt a0 0)), .int .u32 x273001_30, .slice none 0 0, .int .i64 0, .int .i64 0, .int .i32 0, .int .i64 0, .int .u64 0, .int .i64 x273008_30] 40 (0, 0))) := ⟨by rw [← hq_]; exact (by (with_reducible repeat (first | refine blk_drewN ?_ _ | refine blk_drew ?_ | refine blk_alloc ?_ _)); exact BK272.out)⟩; have n2_ : Aside0 (Below w.heap.size w wc) := ⟨by rw [← hq_]; exact (by repeat (first | (with_reducible first | exact HB.out | apply below_alloc | apply pw_below_drewN | apply below_drew1 | refine below_set ?_ GE271.out | refine below_set ?_ GE272.out) | exact HB.out))⟩; clear BK271 BK272 HB hq_; have BK271 := n0_; have BK272 := n1_; have HB := n2_; clear n0_ n1_ n2_)); have hnb51 := NB271_272.out; have hnc51 := NB272_271.out; have hcz52_0 : wc.cell? ⟨gb271, 0, none⟩ = some (.int .i64 0) := (blk_cell BK271.out 0).trans rfl; have hcz52_1 : wc.cell? ⟨gb271, 1, none⟩ = some (.int .u32 0) := (blk_cell BK271.out 1).trans rfl; have hcz52_2 : wc.cell? ⟨gb271, 2, none⟩ = some (.slice none 0 0) := (blk_cell BK271.out 2).trans rfl; have hcz52_3 : wc.cell? ⟨gb271, 3, none⟩ = some (.int .i64 0) := (blk_cell BK271.out 3).trans rfl; have hcz52_4 : wc.cell? ⟨gb271, 4, none⟩ = some (.int .i64 0) := (blk_cell BK271.out 4).trans rfl; have hcz52_5 : wc.cell? ⟨gb271, 5, none⟩ = some (.int .i32 0) := (blk_cell BK271.out 5).trans rfl; have hcz52_6 : wc.cell? ⟨gb271, 6, none⟩ = some (.int .i64 0) := (blk_cell BK271.out 6).trans rfl; have hcz52_7 : wc.cell? ⟨gb271, 7, none⟩ = some (.int .u64 0) := (blk_cell BK271.out 7).trans rfl; have hcz52_8 : wc.cell? ⟨gb271, 8, none⟩ = some (.int .i64 0) := (blk_cell BK271.out 8).trans rfl; have hfz52_0 := blk_frozen BK271.out 0; have hfz52_1 := blk_frozen BK271.out 1; have hfz52_2 := blk_frozen BK271.out 2; have hfz52_3 := blk_frozen BK271.out 3; have hfz52_4 := blk_frozen BK271.out 4; have hfz52_5 := blk_frozen BK271.out 5; have hfz52_6 := blk_frozen BK271.out 6; have hfz52_7 := blk_frozen BK271.out 7; have hfz52_8 := blk_frozen BK271.out 8))
                 refine bodyPost_ret (results_ct rfl _ _ gb271 40 #[.int .i64 0, .int .u32 0, .slice none 0 0, .int .i64 0, .int .i64 0, .int .i32 0, .int .i64 0, .int .u64 0, .int .i64 0] (0, 0) _ rfl (by (with_reducible repeat (first | refine blk_drewN ?_ _ | refine blk_drew ?_ | refine blk_alloc ?_ _)); refine blk_put (cs := #[.int .i64 0, .int .u32 0, .slice none 0 0, .int .i64 0, .int .i64 0, .int .i32 0, .int .i64 0, .int .u64 0, .int .i64 0]) ?_ 8 _ rfl; (with_reducible repeat (first | refine blk_drewN ?_ _ | refine blk_drew ?_ | refine blk_alloc ?_ _)); refine blk_put (cs := #[.int .i64 0, .int .u32 0, .slice none 0 0, .int .i64 0, .int .i64 0, .int .i32 0, .int .i64 0, .int .u64 0, .int .i64 0]) ?_ 7 _ rfl; (with_reducible repeat (first | refine blk_drewN ?_ _ | refine blk_drew ?_ | refine blk_alloc ?_ _)); refine blk_put (cs := #[.int .i64 0, .int .u32 0, .slice none 0 0, .int .i64 0, .int .i64 0, .int .i32 0, .int .i64 0, .int .u64 0, .int .i64 0]) ?_ 6 _ rfl; (with_reducible repeat (first | refine blk_drewN ?_ _ | refine blk_drew ?_ | refine blk_alloc ?_ _)); refine blk_put (cs := #[.int .i64 0, .int .u32 0, .slice none 0 0, .int .i64 0, .int .i64 0, .int .i32 0, .int .i64 0, .int .u64 0, .int .i64 0]) ?_ 5 _ rfl; (with_reducible repeat (first | refine blk_drewN ?_ _ | refine blk_drew ?_ | refine blk_alloc ?_ _)); refine blk_put (cs := #[.int .i64 0, .int .u32 0, .slice none 0 0, .int .i64 0, .int .i64 0, .int .i32 0, .int .i64 0, .int .u64 0, .int .i64 0]) ?_ 4 _ rfl; (with_reducible repeat (first | refine blk_drewN ?_ _ | refine blk_drew ?_ | refine blk_alloc ?_ _)); refine blk_put (cs := #[.int .i64 0, .int .u32 0, .slice none 0 0, .int .i64 0, .int .i64 0, .int .i32 0, .int .i64 0, .int .u64 0, .int .i64 0]) ?_ 3 _ rfl; (with_reducible repeat (first | refine blk_drewN ?_ _ | refine blk_drew ?_ | refine blk_alloc ?_ _)); refine blk_put (cs := #[.int .i64 0, .int .u32 0, .slice none 0 0, .int .i64 0, .int .i64 0, .int .i32 0, .int .i64 0, .int .u64 0, .int .i64 0]) ?_ 2 _ rfl; (with_reducible repeat (first | refine blk_drewN ?_ _ | refine blk_drew ?_ | refine blk_alloc ?_ _)); refine blk_put (cs := #[.int .i64 0, .int .u32 0, .slice none 0 0, .int .i64 0, .int .i64 0, .int .i32 0, .int .i64 0, .int .u64 0, .int .i64 0]) ?_ 1 _ rfl; (with_reducible repeat (first | refine blk_drewN ?_ _ | refine blk_drew ?_ | refine blk_alloc ?_ _)); refine blk_put (cs := #[.int .i64 0, .int .u32 0, .slice none 0 0, .int .i64 0, .int .i64 0, .int .i32 0, .int .i64 0, .int .u64 0, .int .i64 0]) ?_ 0 _ rfl; (with_reducible repeat (first | refine blk_drewN ?_ _ | refine blk_drew ?_ | refine blk_alloc ?_ _)); exact BK271.out) Try.underlying40 rfl (by kernel_rfl)) rfl ?_
                 exact ⟨_, by first | rfl | (simp [errW_none, errW_some] <;> rfl) | (simp [*, errW_none, errW_some] <;> rfl), by first | exact Kd.R_nil _ _ _ _ _ | exact Kd.N_nil _ _ _ _ _ | exact Kd.V_nil _ _ _ _ _ | exact Kd.Q_nil _ _ _ _ _ | exact Kd.S_nil _ _ _ _ _, by repeat (first | (with_reducible first | exact HB.out | apply below_alloc | apply pw_below_drewN | apply below_drew1 | refine below_set ?_ GE271.out | refine below_set ?_ GE272.out) | exact HB.out)⟩
                ·
                 rw [if_neg c50] at H
                 have c50b0 : decide ((a0.size : Int) < (wrap64 (x5_23 + t274))) = false := decide_eq_false c50
                 clear c50
                 replace H := Option.bind_eq_some_iff.mp H
                 obtain ⟨t275, A530, H⟩ := H
                 replace H : ((credenzaref22_number.f kj30 a0 7 1).bind fun t276 => (if 8 ≤ 12 then (if 12 ≤ (a0.size : Int) then ((credenzaref06_Signed.f kj30 (a0.extract 8 12)).bind fun t277 => ((credenzaref22_number.f kj30 a0 12 1).bind fun t278 => (if 13 ≤ 21 then (if 21 ≤ (a0.size : Int) then ((credenzaref06_Number.f kj30 (a0.extract 13 21)).bind fun t279 => (credenzaref22_Parse.l0 kj30 a0 x5_23 t274 0 (wrap64 (bt a0 0)) x273001_30 ([] : List Int) t275 (wrap64 (t276 - 1)) t277 t278 t279 x273008_30)) else (none)) else (none)))) else (none)) else (none))) = some (r1, r2, r3, r4, r5, r6, r7, r8, r9, r10) := H
                 have A53 := Aside0.mk A530
                 clear A530
                 replace H := Option.bind_eq_some_iff.mp H
                 obtain ⟨t276, A540, H⟩ := H
                 replace H : (if 8 ≤ 12 then (if 12 ≤ (a0.size : Int) then ((credenzaref06_Signed.f kj30 (a0.extract 8 12)).bind fun t277 => ((credenzaref22_number.f kj30 a0 12 1).bind fun t278 => (if 13 ≤ 21 then (if 21 ≤ (a0.size : Int) then ((credenzaref06_Number.f kj30 (a0.extract 13 21)).bind fun t279 => (credenzaref22_Parse.l0 kj30 a0 x5_23 t274 0 (wrap64 (bt a0 0)) x273001_30 ([] : List Int) t275 (wrap64 (t276 - 1)) t277 t278 t279 x273008_30)) else (none)) else (none)))) else (none)) else (none)) = some (r1, r2, r3, r4, r5, r6, r7, r8, r9, r10) := H
                 have A54 := Aside0.mk A540
                 clear A540
                 by_cases c55 : 8 ≤ 12
                 ·
                  rw [if_pos c55] at H
                  have c55b0 := eq_true c55
                  have c55b1 : decide (8 ≤ 12) = true := decide_eq_true c55
                  clear c55
                  by_cases c56 : 12 ≤ (a0.size : Int)
                  ·
                   rw [if_pos c56] at H
                   have c56b0 := eq_true c56
                   have c56b1 : decide (12 ≤ (a0.size : Int)) = true := decide_eq_true c56
                   clear c56
                   replace H := Option.bind_eq_some_iff.mp H
                   obtain ⟨t277, A570, H⟩ := H
                   replace H : ((credenzaref22_number.f kj30 a0 12 1).bind fun t278 => (if 13 ≤ 21 then (if 21 ≤ (a0.size : Int) then ((credenzaref06_Number.f kj30 (a0.extract 13 21)).bind fun t279 => (credenzaref22_Parse.l0 kj30 a0 x5_23 t274 0 (wrap64 (bt a0 0)) x273001_30 ([] : List Int) t275 (wrap64 (t276 - 1)) t277 t278 t279 x273008_30)) else (none)) else (none))) = some (r1, r2, r3, r4, r5, r6, r7, r8, r9, r10) := H
                   have A57 := Aside0.mk A570
                   clear A570
                   replace H := Option.bind_eq_some_iff.mp H
                   obtain ⟨t278, A580, H⟩ := H
                   replace H : (if 13 ≤ 21 then (if 21 ≤ (a0.size : Int) then ((credenzaref06_Number.f kj30 (a0.extract 13 21)).bind fun t279 => (credenzaref22_Parse.l0 kj30 a0 x5_23 t274 0 (wrap64 (bt a0 0)) x273001_30 ([] : List Int) t275 (wrap64 (t276 - 1)) t277 t278 t279 x273008_30)) else (none)) else (none)) = some (r1, r2, r3, r4, r5, r6, r7, r8, r9, r10) := H
                   have A58 := Aside0.mk A580
                   clear A580
                   by_cases c59 : 13 ≤ 21
                   ·
                    rw [if_pos c59] at H
                    have c59b0 := eq_true c59
                    have c59b1 : decide (13 ≤ 21) = true := decide_eq_true c59
                    clear c59
                    by_cases c60 : 21 ≤ (a0.size : Int)
                    ·
                     rw [if_pos c60] at H
                     have c60b0 := eq_true c60
                     have c60b1 : decide (21 ≤ (a0.size : Int)) = true := decide_eq_true c60
                     clear c60
                     replace H := Option.bind_eq_some_iff.mp H
                     obtain ⟨t279, A610, H⟩ := H
                     replace H : (credenzaref22_Parse.l0 kj30 a0 x5_23 t274 0 (wrap64 (bt a0 0)) x273001_30 ([] : List Int) t275 (wrap64 (t276 - 1)) t277 t278 t279 x273008_30) = some (r1, r2, r3, r4, r5, r6, r7, r8, r9, r10) := H
                     have A61 := Aside0.mk A610
                     clear A610
                     have H' := Aside0.mk H
                     clear H
                     try go_wp2_with (first | ((with_reducible refine gate_callee (f := 53) rfl ?_); refine goesL_ (some 51) rfl rfl Try.func53 (by kernel_rfl) rfl #[.string a0, .int .i64 21, .int .i64 2] rfl (by (try simp only [List.map_toArray, List.map_cons, List.map_nil]); first | done | rfl | (simp only [List.length_drop, List.length_take]; rfl)) ?_; (with_reducible refine (credenzaref22_number.calls kj30 a0 21 2 t274 _ A46.out).mono ?_); rintro e w' ⟨rfl, ⟨nd, rfl⟩⟩; refine ⟨_, rfl, ?_⟩; (try (rw [drewN_self wc]; generalize hq_ : World.drewN wc _ = wc; have n0_ : Aside0 (wc.heap[gb271]? = some (.cells #[.int .i64 0, .int .u32 0, .slice none 0 0, .int .i64 0, .int .i64 0, .int .i32 0, .int .i64 0, .int .u64 0, .int .i64 0] 40 (0, 0))) := ⟨by rw [← hq_]; exact (by (with_reducible repeat (first | refine blk_drewN ?_ _ | refine blk_drew ?_ | refine blk_alloc ?_ _)); exact BK271.out)⟩; have n1_ : Aside0 (wc.heap[gb272]? = some (.cells #[.int .i64 (wrap64 (bt a0 0)), .int .u32 x273001_30, .slice none 0 0, .int .i64 0, .int .i64 0, .int .i32 0, .int .i64 0, .int .u64 0, .int .i64 x273008_30] 40 (0, 0))) := ⟨by rw [← hq_]; exact (by (with_reducible repeat (first | refine blk_drewN ?_ _ | refine blk_drew ?_ | refine blk_alloc ?_ _)); exact BK272.out)⟩; have n2_ : Aside0 (Below w.heap.size w wc) := ⟨by rw [← hq_]; exact (by repeat (first | (with_reducible first | exact HB.out | apply below_alloc | apply pw_below_drewN | apply below_drew1 | refine below_set ?_ GE271.out | refine below_set ?_ GE272.out) | exact HB.out))⟩; clear BK271 BK272 HB hq_; have BK271 := n0_; have BK272 := n1_; have HB := n2_; clear n0_ n1_ n2_))))
                     have n0_ := Aside0.mk (blk_drew BK271.out)
                     have n1_ := Aside0.mk (blk_drew BK272.out)
                     have n2_ := Aside0.mk (below_drew1 HB.out)
                     clear BK271
                     clear BK272
                     clear HB
                     have BK271 := n0_
                     have BK272 := n1_
                     have HB := n2_
                     clear n0_ n1_ n2_
                     refine start_ (n := 16) (S := fun w' => True) (ds := []) #[false, false, false, false, false, false, false, false, false, false, false, false, false, false, false, false] (by kernel_rfl) rfl rfl trivial (fun hHeld => ?_); refine with_tabW credenzaref22_Parse.tab22 credenzaref22_Parse.bits22 (fun HT_ HW_ => ?_)
                     generalize wc.drew = w62 at BK271 BK272 HB hHeld ⊢
                     refine pure_ (i := 0) (N := some 62) (v := ?_) (a' := ?_) #[true, false, false, false, false, false, false, false, false, false, false, false, false, false, false, false] rfl rfl (any_of HT_.out (by kernel_rfl)) (fun _ _ _ h => h) (Or.inl ⟨by rfl, ?_⟩) ?_ ?_
                     rotate_left
                     ·
                      intro w'
                      go_simp
                      with_reducible rfl
                     rotate_left
                     ·
                      simp only [Act.put, List.setIfInBounds_toArray, List.set_cons_zero, List.set_cons_succ, i64_w, i32_w, IntKind.wrap_u32]
                      rfl
                     refine pure_ (i := 2) (N := some 64) (v := ?_) (a' := ?_) #[true, false, true, false, false, false, false, false, false, false, false, false, false, false, false, false] rfl rfl (any_of HT_.out (by kernel_rfl)) (fun _ _ _ h => h) (Or.inl ⟨by rfl, ?_⟩) ?_ ?_
                     rotate_left
                     ·
                      intro w'
                      go_simp
                      with_reducible rfl
                     rotate_left
                     ·
                      simp only [Act.put, List.setIfInBounds_toArray, List.set_cons_zero, List.set_cons_succ, i64_w, i32_w, IntKind.wrap_u32]
                      rfl
                     refine pure_ (i := 5) (N := some 67) (v := ?_) (a' := ?_) #[true, false, true, false, false, true, false, false, false, false, false, false, false, false, false, false] rfl rfl (any_of HT_.out (by kernel_rfl)) (fun _ _ _ h => h) (Or.inl ⟨by rfl, ?_⟩) ?_ ?_
                     rotate_left
                     ·
                      intro w'
                      go_simp
                      with_reducible rfl
                     rotate_left
                     ·
                      simp only [Act.put, List.setIfInBounds_toArray, List.set_cons_zero, List.set_cons_succ, i64_w, i32_w, IntKind.wrap_u32]
                      rfl
                     refine pure_ (i := 6) (N := some 68) (v := ?_) (a' := ?_) #[true, false, true, false, false, true, true, false, false, false, false, false, false, false, false, false] rfl rfl (any_of HT_.out (by kernel_rfl)) (fun _ _ _ h => h) (Or.inl ⟨by rfl, ?_⟩) ?_ ?_
                     rotate_left
                     ·
                      intro w'
                      go_simp
                      with_reducible rfl
                     rotate_left
                     ·
                      simp only [Act.put, List.setIfInBounds_toArray, List.set_cons_zero, List.set_cons_succ, i64_w, i32_w, IntKind.wrap_u32]
                      rfl
                     refine pure_ (i := 8) (N := some 70) (v := ?_) (a' := ?_) #[true, false, true, false, false, true, true, false, true, false, false, false, false, false, false, false] rfl rfl (any_of HT_.out (by kernel_rfl)) (fun _ _ _ h => h) (Or.inl ⟨by rfl, ?_⟩) ?_ ?_
                     rotate_left
                     ·
                      intro w'
                      go_simp
                      with_reducible rfl
                     rotate_left
                     ·
                      simp only [Act.put, List.setIfInBounds_toArray, List.set_cons_zero, List.set_cons_succ, i64_w, i32_w, IntKind.wrap_u32]
                      rfl
                     refine pure_ (i := 10) (N := some 72) (v := ?_) (a' := ?_) #[true, false, true, false, false, true, true, false, true, false, true, false, false, false, false, false] rfl rfl (any_of HT_.out (by kernel_rfl)) (fun _ _ _ h => h) (Or.inl ⟨by rfl, ?_⟩) ?_ ?_
                     rotate_left
                     ·
                      intro w'
                      go_simp
                      with_reducible rfl
                     rotate_left
                     ·
                      simp only [Act.put, List.setIfInBounds_toArray, List.set_cons_zero, List.set_cons_succ, i64_w, i32_w, IntKind.wrap_u32]
                      rfl
                     refine pure_ (i := 11) (N := some 73) (v := ?_) (a' := ?_) #[true, false, true, false, false, true, true, false, true, false, true, true, false, false, false, false] rfl rfl (any_of HT_.out (by kernel_rfl)) (fun _ _ _ h => h) (Or.inl ⟨by rfl, ?_⟩) ?_ ?_
                     rotate_left
                     ·
                      intro w'
                      go_simp
                      with_reducible rfl
                     rotate_left
                     ·
                      simp only [Act.put, List.setIfInBounds_toArray, List.set_cons_zero, List.set_cons_succ, i64_w, i32_w, IntKind.wrap_u32]
                      rfl
                     refine one_ (i := 1) (N := some 63) #[true, true, true, false, false, true, true, false, true, false, true, true, false, false, false, false] rfl rfl (one_of HT_.out (by kernel_rfl)) (by decide) (fun K hK => ?_)
                     refine goes_ Try.func53 (by kernel_rfl) rfl #[.string a0, .int .i64 5, .int .i64 2] (by rfl) rfl rfl (by (try simp only [List.map_toArray, List.map_cons, List.map_nil]); first | done | rfl | (simp only [List.length_drop, List.length_take]; rfl)) ?_
                     with_reducible refine (credenzaref22_number.calls kj30 a0 5 2 t275 _ A53.out).mono ?_
                     rintro e w' ⟨rfl, ⟨nd, rfl⟩⟩
                     refine ⟨_, rfl, ?_⟩
                     refine hK.out _ _ trivial (fun hHeld => ?_)
                     clear hK K
                     refine norm_ (a' := ?_) ?_ ?_
                     rotate_left
                     ·
                      show Act.put _ (some 63) _ = _
                      simp only [Act.put, List.setIfInBounds_toArray, List.set_cons_zero, List.set_cons_succ, i64_w, i32_w, IntKind.wrap_u32]
                      rfl
                     refine one_ (i := 3) (N := some 65) #[true, true, true, true, false, true, true, false, true, false, true, true, false, false, false, false] rfl rfl (one_of HT_.out (by kernel_rfl)) (by decide) (fun K hK => ?_)
                     refine goes_ Try.func53 (by kernel_rfl) rfl #[.string a0, .int .i64 7, .int .i64 1] (by rfl) rfl rfl (by (try simp only [List.map_toArray, List.map_cons, List.map_nil]); first | done | rfl | (simp only [List.length_drop, List.length_take]; rfl)) ?_
                     with_reducible refine (credenzaref22_number.calls kj30 a0 7 1 t276 _ A54.out).mono ?_
                     rintro e w' ⟨rfl, ⟨nd, rfl⟩⟩
                     refine ⟨_, rfl, ?_⟩
                     refine hK.out _ _ trivial (fun hHeld => ?_)
                     clear hK K
                     refine norm_ (a' := ?_) ?_ ?_
                     rotate_left
                     ·
                      show Act.put _ (some 65) _ = _
                      simp only [Act.put, List.setIfInBounds_toArray, List.set_cons_zero, List.set_cons_succ, i64_w, i32_w, IntKind.wrap_u32]
                      rfl
                     refine pure_ (i := 4) (N := some 66) (v := ?_) (a' := ?_) #[true, true, true, true, true, true, true, false, true, false, true, true, false, false, false, false] rfl rfl (any_of HT_.out (by kernel_rfl)) (fun _ _ _ h => h) (Or.inl ⟨by rfl, ?_⟩) ?_ ?_
                     rotate_left
                     ·
                      intro w'
                      go_simp
                      with_reducible rfl
                     rotate_left
                     ·
                      simp only [Act.put, List.setIfInBounds_toArray, List.set_cons_zero, List.set_cons_succ, i64_w, i32_w, IntKind.wrap_u32]
                      rfl
                     refine one_ (i := 7) (N := some 69) #[true, true, true, true, true, true, true, true, true, false, true, true, false, false, false, false] rfl rfl (one_of HT_.out (by kernel_rfl)) (by decide) (fun K hK => ?_)
                     refine goes_ Try.func54 (by kernel_rfl) rfl #[.string (a0.extract 8 12)] (by rfl) rfl rfl (by (try simp only [List.map_toArray, List.map_cons, List.map_nil]); first | done | rfl | (simp only [List.length_drop, List.length_take]; rfl)) ?_
                     with_reducible refine (credenzaref06_Signed.calls kj30 (a0.extract 8 12) t277 _ A57.out).mono ?_
                     rintro e w' ⟨rfl, ⟨nd, rfl⟩⟩
                     refine ⟨_, rfl, ?_⟩
                     refine hK.out _ _ trivial (fun hHeld => ?_)
                     clear hK K
                     refine norm_ (a' := ?_) ?_ ?_
                     rotate_left
                     ·
                      show Act.put _ (some 69) _ = _
                      simp only [Act.put, List.setIfInBounds_toArray, List.set_cons_zero, List.set_cons_succ, i64_w, i32_w, IntKind.wrap_u32]
                      rfl
                     refine one_ (i := 9) (N := some 71) #[true, true, true, true, true, true, true, true, true, true, true, true, false, false, false, false] rfl rfl (one_of HT_.out (by kernel_rfl)) (by decide) (fun K hK => ?_)
                     refine goes_ Try.func53 (by kernel_rfl) rfl #[.string a0, .int .i64 12, .int .i64 1] (by rfl) rfl rfl (by (try simp only [List.map_toArray, List.map_cons, List.map_nil]); first | done | rfl | (simp only [List.length_drop, List.length_take]; rfl)) ?_
                     with_reducible refine (credenzaref22_number.calls kj30 a0 12 1 t278 _ A58.out).mono ?_
                     rintro e w' ⟨rfl, ⟨nd, rfl⟩⟩
                     refine ⟨_, rfl, ?_⟩
                     refine hK.out _ _ trivial (fun hHeld => ?_)
                     clear hK K
                     refine norm_ (a' := ?_) ?_ ?_
                     rotate_left
                     ·
                      show Act.put _ (some 71) _ = _
                      simp only [Act.put, List.setIfInBounds_toArray, List.set_cons_zero, List.set_cons_succ, i64_w, i32_w, IntKind.wrap_u32]
                      rfl
                     refine one_ (i := 12) (N := some 74) #[true, true, true, true, true, true, true, true, true, true, true, true, true, false, false, false] rfl rfl (one_of HT_.out (by kernel_rfl)) (by decide) (fun K hK => ?_)
                     refine goes_ Try.func55 (by kernel_rfl) rfl #[.string (a0.extract 13 21)] (by rfl) rfl rfl (by (try simp only [List.map_toArray, List.map_cons, List.map_nil]); first | done | rfl | (simp only [List.length_drop, List.length_take]; rfl)) ?_
                     with_reducible refine (credenzaref06_Number.calls kj30 (a0.extract 13 21) t279 _ A61.out).mono ?_
                     rintro e w' ⟨rfl, ⟨nd, rfl⟩⟩
                     refine ⟨_, rfl, ?_⟩
                     refine hK.out _ _ trivial (fun hHeld => ?_)
                     clear hK K
                     refine norm_ (a' := ?_) ?_ ?_
                     rotate_left
                     ·
                      show Act.put _ (some 74) _ = _
                      simp only [Act.put, List.setIfInBounds_toArray, List.set_cons_zero, List.set_cons_succ, i64_w, i32_w, IntKind.wrap_u32]
                      rfl
                     refine pure_ (i := 13) (N := some 75) (v := ?_) (a' := ?_) #[true, true, true, true, true, true, true, true, true, true, true, true, true, true, false, false] rfl rfl (any_of HT_.out (by kernel_rfl)) (fun _ _ _ h => h) (Or.inl ⟨by rfl, ?_⟩) ?_ ?_
                     rotate_left
                     ·
                      intro w'
                      go_simp
                      with_reducible rfl
                     rotate_left
                     ·
                      simp only [Act.put, List.setIfInBounds_toArray, List.set_cons_zero, List.set_cons_succ, i64_w, i32_w, IntKind.wrap_u32]
                      rfl
                     refine pure_ (i := 14) (N := some 76) (v := ?_) (a' := ?_) #[true, true, true, true, true, true, true, true, true, true, true, true, true, true, true, false] rfl rfl (any_of HT_.out (by kernel_rfl)) (fun _ _ _ h => h) (Or.inl ⟨by rfl, ?_⟩) ?_ ?_
                     rotate_left
                     ·
                      intro w'
                      go_simp
                      with_reducible rfl
                     rotate_left
                     ·
                      simp only [Act.put, List.setIfInBounds_toArray, List.set_cons_zero, List.set_cons_succ, i64_w, i32_w, IntKind.wrap_u32]
                      rfl
                     refine one_ (i := 15) (N := none) #[true, true, true, true, true, true, true, true, true, true, true, true, true, true, true, true] rfl rfl (one_of HT_.out (by kernel_rfl)) (by decide) (fun K hK => ?_)
                     have hs63 : w62.cell? ⟨gb272, 2, none⟩ = some (.slice none 0 0) := (blk_cell BK272.out 2).trans rfl
                     have hfs63 := blk_frozen BK272.out 2
                     have hns63_0 := NB271_272.out
                     have hms63_0 := NB272_271.out
                     have hs64 : w62.cell? ⟨gb272, 3, none⟩ = some (.int .i64 0) := (blk_cell BK272.out 3).trans rfl
                     have hfs64 := blk_frozen BK272.out 3
                     have hns64_0 := NB271_272.out
                     have hms64_0 := NB272_271.out
                     have hs65 : w62.cell? ⟨gb272, 4, none⟩ = some (.int .i64 0) := (blk_cell BK272.out 4).trans rfl
                     have hfs65 := blk_frozen BK272.out 4
                     have hns65_0 := NB271_272.out
                     have hms65_0 := NB272_271.out
                     have hs66 : w62.cell? ⟨gb272, 5, none⟩ = some (.int .i32 0) := (blk_cell BK272.out 5).trans rfl
                     have hfs66 := blk_frozen BK272.out 5
                     have hns66_0 := NB271_272.out
                     have hms66_0 := NB272_271.out
                     have hs67 : w62.cell? ⟨gb272, 6, none⟩ = some (.int .i64 0) := (blk_cell BK272.out 6).trans rfl
                     have hfs67 := blk_frozen BK272.out 6
                     have hns67_0 := NB271_272.out
                     have hms67_0 := NB272_271.out
                     have hs68 : w62.cell? ⟨gb272, 7, none⟩ = some (.int .u64 0) := (blk_cell BK272.out 7).trans rfl
                     have hfs68 := blk_frozen BK272.out 7
                     have hns68_0 := NB271_272.out
                     have hms68_0 := NB272_271.out
                     refine skip_ (w1 := ?_) (by rfl) rfl ?_ ?_
                     rotate_left
                     ·
                      go_simp
                      rfl
                     refine hK.out _ _ trivial (fun hHeld => ?_)
                     clear hK K
                     refine done_ (done_of HT_.out (by kernel_rfl)) ?_
                     try go_wp2
                     go_loopg [7] kj30 (fun kq v7 w' => ∃ (x7_5 : Int) (x273002_5 : List Int) (u273002 : Value), v7 = .int .i64 x7_5 ∧ Aside0 (credenzaref22_Parse.l0 kq a0 x5_23 t274 x7_5 (wrap64 (bt a0 0)) x273001_30 x273002_5 t275 (wrap64 (t276 - 1)) t277 t278 t279 x273008_30 = some (r1, r2, r3, r4, r5, r6, r7, r8, r9, r10)) ∧ Aside0 (kq ≤ kj30) ∧ Aside0 (Kd.R (Kd.int .i64) 3 w' w.heap.size (fun _ => True) u273002 x273002_5) ∧ Aside0 (w'.heap[gb271]? = some (.cells #[.int .i64 0, .int .u32 0, (.slice none 0 0), .int .i64 0, .int .i64 0, .int .i32 0, .int .i64 0, .int .u64 0, .int .i64 0] 40 (0, 0))) ∧ Aside0 (w'.heap[gb272]? = some (.cells #[.int .i64 (wrap64 (bt a0 0)), .int .u32 x273001_30, u273002, .int .i64 t275, .int .i64 (wrap64 (t276 - 1)), .int .i32 t277, .int .i64 t278, .int .u64 t279, .int .i64 x273008_30] 40 (0, 0))) ∧ Aside0 (Below w.heap.size w w'))
                     case atStart => exact ⟨(0), (([] : List Int)), (.slice none 0 0), (by first | rfl | (simp; done) | (simp [*]; done)), H', ⟨Nat.le_refl _⟩, ⟨by first | exact Kd.R_nil _ _ _ _ _ | exact Kd.N_nil _ _ _ _ _ | exact Kd.V_nil _ _ _ _ _ | exact Kd.Q_nil _ _ _ _ _ | exact Kd.S_nil _ _ _ _ _⟩, ⟨by (with_reducible repeat (first | refine blk_drewN ?_ _ | refine blk_drew ?_ | refine blk_alloc ?_ _)); refine blk_far ?_ NB271_272.out _; (with_reducible repeat (first | refine blk_drewN ?_ _ | refine blk_drew ?_ | refine blk_alloc ?_ _)); refine blk_far ?_ NB271_272.out _; (with_reducible repeat (first | refine blk_drewN ?_ _ | refine blk_drew ?_ | refine blk_alloc ?_ _)); refine blk_far ?_ NB271_272.out _; (with_reducible repeat (first | refine blk_drewN ?_ _ | refine blk_drew ?_ | refine blk_alloc ?_ _)); refine blk_far ?_ NB271_272.out _; (with_reducible repeat (first | refine blk_drewN ?_ _ | refine blk_drew ?_ | refine blk_alloc ?_ _)); refine blk_far ?_ NB271_272.out _; (with_reducible repeat (first | refine blk_drewN ?_ _ | refine blk_drew ?_ | refine blk_alloc ?_ _)); refine blk_far ?_ NB271_272.out _; (with_reducible repeat (first | refine blk_drewN ?_ _ | refine blk_drew ?_ | refine blk_alloc ?_ _)); exact BK271.out⟩, ⟨by (with_reducible repeat (first | refine blk_drewN ?_ _ | refine blk_drew ?_ | refine blk_alloc ?_ _)); refine blk_put (cs := #[.int .i64 (wrap64 (bt a0 0)), .int .u32 x273001_30, .slice none 0 0, .int .i64 t275, .int .i64 (wrap64 (t276 - 1)), .int .i32 t277, .int .i64 t278, .int .u64 0, .int .i64 x273008_30]) ?_ 7 _ rfl; (with_reducible repeat (first | refine blk_drewN ?_ _ | refine blk_drew ?_ | refine blk_alloc ?_ _)); refine blk_put (cs := #[.int .i64 (wrap64 (bt a0 0)), .int .u32 x273001_30, .slice none 0 0, .int .i64 t275, .int .i64 (wrap64 (t276 - 1)), .int .i32 t277, .int .i64 0, .int .u64 0, .int .i64 x273008_30]) ?_ 6 _ rfl; (with_reducible repeat (first | refine blk_drewN ?_ _ | refine blk_drew ?_ | refine blk_alloc ?_ _)); refine blk_put (cs := #[.int .i64 (wrap64 (bt a0 0)), .int .u32 x273001_30, .slice none 0 0, .int .i64 t275, .int .i64 (wrap64 (t276 - 1)), .int .i32 0, .int .i64 0, .int .u64 0, .int .i64 x273008_30]) ?_ 5 _ rfl; (with_reducible repeat (first | refine blk_drewN ?_ _ | refine blk_drew ?_ | refine blk_alloc ?_ _)); refine blk_put (cs := #[.int .i64 (wrap64 (bt a0 0)), .int .u32 x273001_30, .slice none 0 0, .int .i64 t275, .int .i64 0, .int .i32 0, .int .i64 0, .int .u64 0, .int .i64 x273008_30]) ?_ 4 _ rfl; (with_reducible repeat (first | refine blk_drewN ?_ _ | refine blk_drew ?_ | refine blk_alloc ?_ _)); refine blk_put (cs := #[.int .i64 (wrap64 (bt a0 0)), .int .u32 x273001_30, .slice none 0 0, .int .i64 0, .int .i64 0, .int .i32 0, .int .i64 0, .int .u64 0, .int .i64 x273008_30]) ?_ 3 _ rfl; (with_reducible repeat (first | refine blk_drewN ?_ _ | refine blk_drew ?_ | refine blk_alloc ?_ _)); refine blk_put (cs := #[.int .i64 (wrap64 (bt a0 0)), .int .u32 x273001_30, .slice none 0 0, .int .i64 0, .int .i64 0, .int .i32 0, .int .i64 0, .int .u64 0, .int .i64 x273008_30]) ?_ 2 _ rfl; (with_reducible repeat (first | refine blk_drewN ?_ _ | refine blk_drew ?_ | refine blk_alloc ?_ _)); exact BK272.out⟩, ⟨by repeat (first | (with_reducible first | exact HB.out | apply below_alloc | apply pw_below_drewN | apply below_drew1 | refine below_set ?_ GE271.out | refine below_set ?_ GE272.out) | exact HB.out)⟩⟩
                     case round =>
                      clear H'
                      try clear c1
                      try clear c2
                      try clear c2b0
                      try clear c2b1
                      try clear p2
                      try clear c3
                      try clear p3
                      try clear q3
                      try clear hx3
                      try clear qi3
                      try clear c4
                      try clear c5
                      try clear c5b0
                      try clear c5b1
                      try clear c6
                      try clear p6
                      try clear q6
                      try clear hx6
                      try clear qi6
                      try clear c10
                      try clear c12
                      try clear c12b0
                      try clear c13
                      try clear c15
                      try clear c17
                      try clear c18
                      try clear c21
                      try clear c23
                      try clear c23b0
                      try clear c23b1
                      try clear c25
                      try clear c27
                      try clear c27b0
                      try clear c27b1
                      try clear c28
                      try clear c28b0
                      try clear c29
                      try clear c32
                      try clear c34
                      try clear c34b0
                      try clear c35
                      try clear c35b0
                      try clear c35b1
                      try clear p36
                      try clear q36
                      try clear hx36
                      try clear qi36
                      try clear c37
                      try clear c40
                      try clear c43
                      try clear c45
                      try clear c45b0
                      try clear c45b1
                      try clear c47
                      try clear c47b0
                      try clear c48
                      try clear c50
                      try clear c50b0
                      try clear c51
                      try clear c53
                      try clear c54
                      try clear c55
                      try clear c55b0
                      try clear c55b1
                      try clear c56
                      try clear c56b0
                      try clear c56b1
                      try clear c59
                      try clear c59b0
                      try clear c59b1
                      try clear c60
                      try clear c60b0
                      try clear c60b1
                      try clear p64
                      try clear hcz11_0
                      try clear hcz11_1
                      try clear hcz11_2
                      try clear hcz11_3
                      try clear hcz11_4
                      try clear hcz11_5
                      try clear hcz11_6
                      try clear hcz11_7
                      try clear hcz11_8
                      try clear hcz14_0
                      try clear hcz14_1
                      try clear hcz14_2
                      try clear hcz14_3
                      try clear hcz14_4
                      try clear hcz14_5
                      try clear hcz14_6
                      try clear hcz14_7
                      try clear hcz14_8
                      try clear hcz16_0
                      try clear hcz16_1
                      try clear hcz16_2
                      try clear hcz16_3
                      try clear hcz16_4
                      try clear hcz16_5
                      try clear hcz16_6
                      try clear hcz16_7
                      try clear hcz16_8
                      try clear hcz19_0
                      try clear hcz19_1
                      try clear hcz19_2
                      try clear hcz19_3
                      try clear hcz19_4
                      try clear hcz19_5
                      try clear hcz19_6
                      try clear hcz19_7
                      try clear hcz19_8
                      try clear hcz22_0
                      try clear hcz22_1
                      try clear hcz22_2
                      try clear hcz22_3
                      try clear hcz22_4
                      try clear hcz22_5
                      try clear hcz22_6
                      try clear hcz22_7
                      try clear hcz22_8
                      try clear hcz26_0
                      try clear hcz26_1
                      try clear hcz26_2
                      try clear hcz26_3
                      try clear hcz26_4
                      try clear hcz26_5
                      try clear hcz26_6
                      try clear hcz26_7
                      try clear hcz26_8
                      try clear hcz30_0
                      try clear hcz30_1
                      try clear hcz30_2
                      try clear hcz30_3
                      try clear hcz30_4
                      try clear hcz30_5
                      try clear hcz30_6
                      try clear hcz30_7
                      try clear hcz30_8
                      try clear hcz33_0
                      try clear hcz33_1
                      try clear hcz33_2
                      try clear hcz33_3
                      try clear hcz33_4
                      try clear hcz33_5
                      try clear hcz33_6
                      try clear hcz33_7
                      try clear hcz33_8
                      try clear hcz38_0
                      try clear hcz38_1
                      try clear hcz38_2
                      try clear hcz38_3
                      try clear hcz38_4
                      try clear hcz38_5
                      try clear hcz38_6
                      try clear hcz38_7
                      try clear hcz38_8
                      try clear hcz41_0
                      try clear hcz41_1
                      try clear hcz41_2
                      try clear hcz41_3
                      try clear hcz41_4
                      try clear hcz41_5
                      try clear hcz41_6
                      try clear hcz41_7
                      try clear hcz41_8
                      try clear hcz44_0
                      try clear hcz44_1
                      try clear hcz44_2
                      try clear hcz44_3
                      try clear hcz44_4
                      try clear hcz44_5
                      try clear hcz44_6
                      try clear hcz44_7
                      try clear hcz44_8
                      try clear hcz49_0
                      try clear hcz49_1
                      try clear hcz49_2
                      try clear hcz49_3
                      try clear hcz49_4
                      try clear hcz49_5
                      try clear hcz49_6
                      try clear hcz49_7
                      try clear hcz49_8
                      try clear hcz4_0
                      try clear hcz4_1
                      try clear hcz4_2
                      try clear hcz4_3
                      try clear hcz4_4
                      try clear hcz4_5
                      try clear hcz4_6
                      try clear hcz4_7
                      try clear hcz4_8
                      try clear hcz52_0
                      try clear hcz52_1
                      try clear hcz52_2
                      try clear hcz52_3
                      try clear hcz52_4
                      try clear hcz52_5
                      try clear hcz52_6
                      try clear hcz52_7
                      try clear hcz52_8
                      try clear hfz11_0
                      try clear hfz11_1
                      try clear hfz11_2
                      try clear hfz11_3
                      try clear hfz11_4
                      try clear hfz11_5
                      try clear hfz11_6
                      try clear hfz11_7
                      try clear hfz11_8
                      try clear hfz14_0
                      try clear hfz14_1
                      try clear hfz14_2
                      try clear hfz14_3
                      try clear hfz14_4
                      try clear hfz14_5
                      try clear hfz14_6
                      try clear hfz14_7
                      try clear hfz14_8
                      try clear hfz16_0
                      try clear hfz16_1
                      try clear hfz16_2
                      try clear hfz16_3
                      try clear hfz16_4
                      try clear hfz16_5
                      try clear hfz16_6
                      try clear hfz16_7
                      try clear hfz16_8
                      try clear hfz19_0
                      try clear hfz19_1
                      try clear hfz19_2
                      try clear hfz19_3
                      try clear hfz19_4
                      try clear hfz19_5
                      try clear hfz19_6
                      try clear hfz19_7
                      try clear hfz19_8
                      try clear hfz22_0
                      try clear hfz22_1
                      try clear hfz22_2
                      try clear hfz22_3
                      try clear hfz22_4
                      try clear hfz22_5
                      try clear hfz22_6
                      try clear hfz22_7
                      try clear hfz22_8
                      try clear hfz26_0
                      try clear hfz26_1
                      try clear hfz26_2
                      try clear hfz26_3
                      try clear hfz26_4
                      try clear hfz26_5
                      try clear hfz26_6
                      try clear hfz26_7
                      try clear hfz26_8
                      try clear hfz30_0
                      try clear hfz30_1
                      try clear hfz30_2
                      try clear hfz30_3
                      try clear hfz30_4
                      try clear hfz30_5
                      try clear hfz30_6
                      try clear hfz30_7
                      try clear hfz30_8
                      try clear hfz33_0
                      try clear hfz33_1
                      try clear hfz33_2
                      try clear hfz33_3
                      try clear hfz33_4
                      try clear hfz33_5
                      try clear hfz33_6
                      try clear hfz33_7
                      try clear hfz33_8
                      try clear hfz38_0
                      try clear hfz38_1
                      try clear hfz38_2
                      try clear hfz38_3
                      try clear hfz38_4
                      try clear hfz38_5
                      try clear hfz38_6
                      try clear hfz38_7
                      try clear hfz38_8
                      try clear hfz41_0
                      try clear hfz41_1
                      try clear hfz41_2
                      try clear hfz41_3
                      try clear hfz41_4
                      try clear hfz41_5
                      try clear hfz41_6
                      try clear hfz41_7
                      try clear hfz41_8
                      try clear hfz44_0
                      try clear hfz44_1
                      try clear hfz44_2
                      try clear hfz44_3
                      try clear hfz44_4
                      try clear hfz44_5
                      try clear hfz44_6
                      try clear hfz44_7
                      try clear hfz44_8
                      try clear hfz49_0
                      try clear hfz49_1
                      try clear hfz49_2
                      try clear hfz49_3
                      try clear hfz49_4
                      try clear hfz49_5
                      try clear hfz49_6
                      try clear hfz49_7
                      try clear hfz49_8
                      try clear hfz4_0
                      try clear hfz4_1
                      try clear hfz4_2
                      try clear hfz4_3
                      try clear hfz4_4
                      try clear hfz4_5
                      try clear hfz4_6
                      try clear hfz4_7
                      try clear hfz4_8
                      try clear hfz52_0
                      try clear hfz52_1
                      try clear hfz52_2
                      try clear hfz52_3
                      try clear hfz52_4
                      try clear hfz52_5
                      try clear hfz52_6
                      try clear hfz52_7
                      try clear hfz52_8
                      try clear p2
                      try clear p3
                      try clear p36
                      try clear p6
                      try clear q3
                      try clear q36
                      try clear q6
                      obtain ⟨x7_5, x273002_5, u273002, rfl, HA, HK5, HO_273002, BK271, BK272, HB⟩ := hrel
                      cases gk with
                      | zero => exact absurd HA.out (by simp [credenzaref22_Parse.l0])
                      | succ k5 =>
                       have H := HA.out
                       clear HA
                       simp only [credenzaref22_Parse.l0] at H
                       by_cases c69 : x7_5 < t274
                       ·
                        rw [if_pos c69] at H
                        have c69b0 : decide (x7_5 < t274) = true := decide_eq_true c69
                        clear c69
                        obtain ⟨ji70, hji70⟩ : ∃ j_ : Int, (wrap64 (x5_23 + x7_5)) = j_ := ⟨_, rfl⟩
                        replace H : (if 0 ≤ (ji70) then (if (ji70) < (a0.size : Int) then (if x273002_5.length < 17592186044416 then (credenzaref22_Parse.l0 k5 a0 x5_23 t274 (wrap64 (x7_5 + 1)) (wrap64 (bt a0 0)) x273001_30 (x273002_5 ++ [wrap64 (bt a0 (ji70))]) t275 (wrap64 (t276 - 1)) t277 t278 t279 x273008_30) else (none)) else (none)) else (none)) = some (r1, r2, r3, r4, r5, r6, r7, r8, r9, r10) := by first | (rw [hji70] at H; exact H) | (simp only [hji70] at H ⊢; exact H)
                        have hji70w : (IntKind.i64.wrap (x5_23 + x7_5)) = ji70 := (i64_w _).trans hji70
                        by_cases c71 : 0 ≤ (ji70)
                        ·
                         rw [if_pos c71] at H
                         have c71b0 : decide (0 ≤ (ji70)) = true := decide_eq_true c71
                         clear c71
                         by_cases c72 : (ji70) < (a0.size : Int)
                         ·
                          rw [if_pos c72] at H
                          have c72b0 : decide ((ji70) < (a0.size : Int)) = true := decide_eq_true c72
                          clear c72
                          by_cases c74 : x273002_5.length < 17592186044416
                          ·
                           rw [if_pos c74] at H
                           have LMc74 := Aside0.mk c74
                           clear c74
                           obtain ⟨y280, hy280⟩ : ∃ y_ : List Int, y_ = (x273002_5 ++ [wrap64 (bt a0 (ji70))]) := ⟨_, rfl⟩
                           replace H : (credenzaref22_Parse.l0 k5 a0 x5_23 t274 (wrap64 (x7_5 + 1)) (wrap64 (bt a0 0)) x273001_30 y280 t275 (wrap64 (t276 - 1)) t277 t278 t279 x273008_30) = some (r1, r2, r3, r4, r5, r6, r7, r8, r9, r10) := by first | (rw [hy280]; with_reducible exact H) | (have H2_ := (Option.bind_some _ _).symm.trans H; rw [hy280]; with_reducible exact H2_) | (have H2_ := (Option.bind_some _ _).symm.trans H; with_reducible exact H2_) | with_reducible exact H | (rw [hy280]; exact H) | exact H
                           have Ny280 := Aside0.mk hy280
                           clear hy280
                           have H' := Aside0.mk H
                           clear H
                           try go_wp2
                           have n0_ := Aside0.mk (Kd.R_drew HO_273002.out)
                           have n1_ := Aside0.mk (blk_drew BK271.out)
                           have n2_ := Aside0.mk (blk_drew BK272.out)
                           have n3_ := Aside0.mk (below_drew1 HB.out)
                           clear HO_273002
                           clear BK271
                           clear BK272
                           clear HB
                           have HO_273002 := n0_
                           have BK271 := n1_
                           have BK272 := n2_
                           have HB := n3_
                           clear n0_ n1_ n2_ n3_
                           have p73 : 0 ≤ ((ji70) : Int) := of_decide_eq_true (by first | (with_reducible assumption) | assumption)
                           have q73 : (ji70) < (a0.size : Int) := of_decide_eq_true (by first | (with_reducible assumption) | assumption)
                           have hx73 := bt_at a0 (ji70)
                           replace p73 := eq_true p73
                           replace q73 := eq_true q73
                           refine start_ (n := 14) (S := fun w' => w'.cell? ⟨gb272, 0, none⟩ = some (.int .i64 (wrap64 (bt a0 0))) ∧ w'.cell? ⟨gb272, 1, none⟩ = some (.int .u32 x273001_30) ∧ w'.cell? ⟨gb272, 2, none⟩ = some (u273002) ∧ w'.cell? ⟨gb272, 3, none⟩ = some (.int .i64 t275) ∧ w'.cell? ⟨gb272, 4, none⟩ = some (.int .i64 (wrap64 (t276 - 1))) ∧ w'.cell? ⟨gb272, 5, none⟩ = some (.int .i32 t277) ∧ w'.cell? ⟨gb272, 6, none⟩ = some (.int .i64 t278) ∧ w'.cell? ⟨gb272, 7, none⟩ = some (.int .u64 t279) ∧ w'.cell? ⟨gb272, 8, none⟩ = some (.int .i64 x273008_30)) (ds := [13]) #[false, false, false, false, false, false, false, false, false, false, false, false, false, false] (by kernel_rfl) rfl rfl ⟨(blk_cell BK272.out 0).trans rfl, (blk_cell BK272.out 1).trans rfl, (blk_cell BK272.out 2).trans rfl, (blk_cell BK272.out 3).trans rfl, (blk_cell BK272.out 4).trans rfl, (blk_cell BK272.out 5).trans rfl, (blk_cell BK272.out 6).trans rfl, (blk_cell BK272.out 7).trans rfl, (blk_cell BK272.out 8).trans rfl⟩ (fun hHeld => ?_); refine with_tabW credenzaref22_Parse.tab26 credenzaref22_Parse.bits26 (fun HT_ HW_ => ?_)
                           generalize wr.drew = w75 at HO_273002 BK271 BK272 HB hHeld ⊢
                           refine pure_ (i := 0) (N := some 82) (v := ?_) (a' := ?_) #[true, false, false, false, false, false, false, false, false, false, false, false, false, false] rfl rfl (any_of HT_.out (by kernel_rfl)) (fun _ _ _ h => h) (Or.inl ⟨by rfl, ?_⟩) ?_ ?_
                           rotate_left
                           ·
                            intro w'
                            go_simp
                            with_reducible rfl
                           rotate_left
                           ·
                            simp only [Act.put, List.setIfInBounds_toArray, List.set_cons_zero, List.set_cons_succ, i64_w, i32_w, IntKind.wrap_u32]
                            rfl
                           refine pure_ (i := 1) (N := some 83) (v := ?_) (a' := ?_) #[true, true, false, false, false, false, false, false, false, false, false, false, false, false] rfl rfl (any_of HT_.out (by kernel_rfl)) (fun _ _ _ h => h) (Or.inl ⟨by rfl, ?_⟩) ?_ ?_
                           rotate_left
                           ·
                            intro w'
                            go_simp
                            with_reducible rfl
                           rotate_left
                           ·
                            simp only [Act.put, List.setIfInBounds_toArray, List.set_cons_zero, List.set_cons_succ, i64_w, i32_w, IntKind.wrap_u32]
                            rfl
                           refine pure_ (i := 3) (N := some 85) (v := ?_) (a' := ?_) #[true, true, false, true, false, false, false, false, false, false, false, false, false, false] rfl rfl (any_of HT_.out (by kernel_rfl)) (fun _ _ _ h => h) (Or.inl ⟨by rfl, ?_⟩) ?_ ?_
                           rotate_left
                           ·
                            intro w'
                            go_simp
                            with_reducible rfl
                           rotate_left
                           ·
                            simp only [Act.put, List.setIfInBounds_toArray, List.set_cons_zero, List.set_cons_succ, i64_w, i32_w, IntKind.wrap_u32]
                            rfl
                           refine pure_ (i := 4) (N := some 86) (v := ?_) (a' := ?_) #[true, true, false, true, true, false, false, false, false, false, false, false, false, false] rfl rfl (any_of HT_.out (by kernel_rfl)) (fun _ _ _ h => h) (Or.inl ⟨by rfl, ?_⟩) ?_ ?_
                           rotate_left
                           ·
                            intro w'
                            go_simp
                            with_reducible rfl
                           rotate_left
                           ·
                            simp only [Act.put, List.setIfInBounds_toArray, List.set_cons_zero, List.set_cons_succ, i64_w, i32_w, IntKind.wrap_u32]
                            rfl
                           refine pure_ (i := 5) (N := some 87) (v := ?_) (a' := ?_) #[true, true, false, true, true, true, false, false, false, false, false, false, false, false] rfl rfl (any_of HT_.out (by kernel_rfl)) (fun _ _ _ h => h) (Or.inl ⟨by rfl, ?_⟩) ?_ ?_
                           rotate_left
                           ·
                            intro w'
                            go_simp
                            with_reducible rfl
                           rotate_left
                           ·
                            simp only [Act.put, List.setIfInBounds_toArray, List.set_cons_zero, List.set_cons_succ, i64_w, i32_w, IntKind.wrap_u32]
                            rfl
                           refine pure_ (i := 6) (N := some 88) (v := ?_) (a' := ?_) #[true, true, false, true, true, true, true, false, false, false, false, false, false, false] rfl rfl (any_of HT_.out (by kernel_rfl)) (fun _ _ _ h => h) (Or.inl ⟨by rfl, ?_⟩) ?_ ?_
                           rotate_left
                           ·
                            intro w'
                            go_simp
                            with_reducible rfl
                           rotate_left
                           ·
                            simp only [Act.put, List.setIfInBounds_toArray, List.set_cons_zero, List.set_cons_succ, i64_w, i32_w, IntKind.wrap_u32]
                            rfl
                           refine take_ (i := 2) (N := some 84) (v := ?_) (a' := ?_) #[true, true, true, true, true, true, true, false, false, false, false, false, false, false] rfl rfl (take_ofW HT_.out HW_.out (by kernel_rfl)) (fun _ _ _ h => h) (Or.inl ⟨by rfl, ?_⟩) hHeld ?_ ?_
                           rotate_left
                           ·
                            rintro w' ⟨s0, s1, s2, s3, s4, s5, s6, s7, s8⟩
                            go_simp
                            with_reducible rfl
                           rotate_left
                           ·
                            simp only [Act.put, List.setIfInBounds_toArray, List.set_cons_zero, List.set_cons_succ, i64_w, i32_w, IntKind.wrap_u32]
                            rfl
                           refine take_ (i := 7) (N := some 89) (v := ?_) (a' := ?_) #[true, true, true, true, true, true, true, true, false, false, false, false, false, false] rfl rfl (take_ofW HT_.out HW_.out (by kernel_rfl)) (fun _ _ _ h => h) (Or.inl ⟨by rfl, ?_⟩) hHeld ?_ ?_
                           rotate_left
                           ·
                            rintro w' ⟨s0, s1, s2, s3, s4, s5, s6, s7, s8⟩
                            go_simp
                            with_reducible rfl
                           rotate_left
                           ·
                            simp only [Act.put, List.setIfInBounds_toArray, List.set_cons_zero, List.set_cons_succ, i64_w, i32_w, IntKind.wrap_u32]
                            rfl
                           refine pure_ (i := 8) (N := some 90) (v := ?_) (a' := ?_) #[true, true, true, true, true, true, true, true, true, false, false, false, false, false] rfl rfl (any_of HT_.out (by kernel_rfl)) (fun _ _ _ h => h) (Or.inl ⟨by rfl, ?_⟩) ?_ ?_
                           rotate_left
                           ·
                            intro w'
                            go_simp
                            with_reducible rfl
                           rotate_left
                           ·
                            simp only [Act.put, List.setIfInBounds_toArray, List.set_cons_zero, List.set_cons_succ, i64_w, i32_w, IntKind.wrap_u32]
                            rfl
                           refine one_ (i := 9) (N := some 91) #[true, true, true, true, true, true, true, true, true, true, false, false, false, false] rfl rfl (one_of HT_.out (by kernel_rfl)) (by decide) (fun K hK => ?_)
                           refine value_ (w1 := ?_) (v := ?_) (by rfl) rfl ?_ ?_
                           rotate_left 2
                           ·
                            go_simp
                            constructor
                            ·
                             rfl
                            ·
                             rfl
                           refine hK.out _ _ ⟨(blk_cell (blk_alloc BK272.out _) 0).trans rfl, (blk_cell (blk_alloc BK272.out _) 1).trans rfl, (blk_cell (blk_alloc BK272.out _) 2).trans rfl, (blk_cell (blk_alloc BK272.out _) 3).trans rfl, (blk_cell (blk_alloc BK272.out _) 4).trans rfl, (blk_cell (blk_alloc BK272.out _) 5).trans rfl, (blk_cell (blk_alloc BK272.out _) 6).trans rfl, (blk_cell (blk_alloc BK272.out _) 7).trans rfl, (blk_cell (blk_alloc BK272.out _) 8).trans rfl⟩ (fun hHeld => ?_)
                           clear hK K
                           refine norm_ (a' := ?_) ?_ ?_
                           rotate_left
                           ·
                            show Act.put _ (some 91) _ = _
                            simp only [Act.put, List.setIfInBounds_toArray, List.set_cons_zero, List.set_cons_succ, i64_w, i32_w, IntKind.wrap_u32]
                            rfl
                           refine one_ (i := 10) (N := some 92) #[true, true, true, true, true, true, true, true, true, true, true, false, false, false] rfl rfl (one_of HT_.out (by kernel_rfl)) (by decide) (fun K hK => ?_)
                           refine Kd.R_append_step (Kd.int .i64) (w0 := w) w.heap.size (by rfl) (.tmp 84) (.tmp 91) 23 3 (.int .i64 0) 8 rfl Try.underlying23 info3 rfl (by decide) (by omega) u273002 x273002_5 (wrap64 (bt a0 (ji70))) [.int .i64 (wrap64 (bt a0 (ji70)))] (fun _ => True) (fun _ => False) rfl rfl ?aP (fun _ hk => hk.elim) ?aF ?aO ?aB ?aS ?aL ?_
                           (case aP => exact rfl)
                           (case aB => exact (by repeat (first | (with_reducible first | exact HB.out | apply below_alloc | apply pw_below_drewN | apply below_drew1 | refine below_set ?_ GE271.out | refine below_set ?_ GE272.out) | exact HB.out)))
                           (case aF => exact (fun _ _ => trivial))
                           (case aO => exact (by (with_reducible repeat (first | apply Kd.R_alloc | apply Kd.R_drewN | apply Kd.R_drew)); exact HO_273002.out))
                           (case aS => exact (below_size (by repeat (first | (with_reducible first | exact HB.out | apply below_alloc | apply pw_below_drewN | apply below_drew1 | refine below_set ?_ GE271.out | refine below_set ?_ GE272.out) | exact HB.out))))
                           (case aL => have := LMc74.out; omega)
                           intro v281 w76 ho hb hg hat
                           rw [← Ny280.out] at ho
                           have n0_ := Aside0.mk (blk_grown (g := gb271) (o := .cells #[.int .i64 0, .int .u32 0, .slice none 0 0, .int .i64 0, .int .i64 0, .int .i32 0, .int .i64 0, .int .u64 0, .int .i64 0] 40 (0, 0)) (by (with_reducible repeat (first | refine blk_drewN ?_ _ | refine blk_drew ?_ | refine blk_alloc ?_ _)); exact BK271.out) hg (Kd.R_ne HO_273002.out BK271.out (by decide)))
                           have n1_ := Aside0.mk (blk_grown (g := gb272) (o := .cells #[.int .i64 (wrap64 (bt a0 0)), .int .u32 x273001_30, u273002, .int .i64 t275, .int .i64 (wrap64 (t276 - 1)), .int .i32 t277, .int .i64 t278, .int .u64 t279, .int .i64 x273008_30] 40 (0, 0)) (by (with_reducible repeat (first | refine blk_drewN ?_ _ | refine blk_drew ?_ | refine blk_alloc ?_ _)); exact BK272.out) hg (Kd.R_ne HO_273002.out BK272.out (by decide)))
                           have n2_ := Aside0.mk (hb)
                           have n3_ := Aside0.mk (ho)
                           clear BK271
                           clear BK272
                           clear HB
                           clear HO_273002
                           have BK271 := n0_
                           have BK272 := n1_
                           have HB := n2_
                           have HO282 := n3_
                           clear n0_ n1_ n2_ n3_
                           clear ho hb hg hat
                           obtain ⟨Ao77, co77, eo77⟩ := Kd.R_slice HO282.out
                           (first | subst eo77 | (injection eo77 with f1_ f2_ f3_; have f4_ := f1_.symm; have f5_ := f3_.symm; clear f1_ f2_ f3_; subst f4_; subst f5_))
                           refine hK.out _ _ ⟨(blk_cell BK272.out 0).trans rfl, (blk_cell BK272.out 1).trans rfl, (blk_cell BK272.out 2).trans rfl, (blk_cell BK272.out 3).trans rfl, (blk_cell BK272.out 4).trans rfl, (blk_cell BK272.out 5).trans rfl, (blk_cell BK272.out 6).trans rfl, (blk_cell BK272.out 7).trans rfl, (blk_cell BK272.out 8).trans rfl⟩ (fun hHeld => ?_)
                           clear hK K
                           refine norm_ (a' := ?_) ?_ ?_
                           rotate_left
                           ·
                            show Act.put _ (some 92) _ = _
                            simp only [Act.put, List.setIfInBounds_toArray, List.set_cons_zero, List.set_cons_succ, i64_w, i32_w, IntKind.wrap_u32]
                            rfl
                           refine pure_ (i := 11) (N := some 93) (v := ?_) (a' := ?_) #[true, true, true, true, true, true, true, true, true, true, true, true, false, false] rfl rfl (any_of HT_.out (by kernel_rfl)) (fun _ _ _ h => h) (Or.inl ⟨by rfl, ?_⟩) ?_ ?_
                           rotate_left
                           ·
                            intro w'
                            go_simp
                            with_reducible rfl
                           rotate_left
                           ·
                            simp only [Act.put, List.setIfInBounds_toArray, List.set_cons_zero, List.set_cons_succ, i64_w, i32_w, IntKind.wrap_u32]
                            rfl
                           refine pure_ (i := 12) (N := some 94) (v := ?_) (a' := ?_) #[true, true, true, true, true, true, true, true, true, true, true, true, true, false] rfl rfl (any_of HT_.out (by kernel_rfl)) (fun _ _ _ h => h) (Or.inl ⟨by rfl, ?_⟩) ?_ ?_
                           rotate_left
                           ·
                            intro w'
                            go_simp
                            with_reducible rfl
                           rotate_left
                           ·
                            simp only [Act.put, List.setIfInBounds_toArray, List.set_cons_zero, List.set_cons_succ, i64_w, i32_w, IntKind.wrap_u32]
                            rfl
                           refine last_ (i := 13) (N := none) #[true, true, true, true, true, true, true, true, true, true, true, true, true, true] rfl rfl (one_of HT_.out (by kernel_rfl)) (by decide) (fun K hK => ?_)
                           have hs78 : w76.cell? ⟨gb272, 2, none⟩ = some (u273002) := (blk_cell BK272.out 2).trans rfl
                           have hfs78 := blk_frozen BK272.out 2
                           have hns78_0 := NB271_272.out
                           have hms78_0 := NB272_271.out
                           refine skip_ (w1 := ?_) (by rfl) rfl ?_ ?_
                           rotate_left
                           ·
                            go_simp
                            rfl
                           refine hK.out _ _ ?_
                           clear hK K
                           refine done_ (done_of HT_.out (by kernel_rfl)) ?_
                           try go_wp2
                           go_roundg k5
                           case measure => have := HJ6.out; have := HJ19.out; have := HJ23.out; have := HJ30.out; have := HK5.out; omega
                           case rel => exact ⟨(wrap64 (x7_5 + 1)), (y280), (.slice Ao77 y280.length co77), (by first | rfl | (simp; done) | (simp [*]; done)), H', ⟨by have := HJ6.out; have := HJ19.out; have := HJ23.out; have := HJ30.out; have := HK5.out; omega⟩, ⟨by (with_reducible repeat (first | apply Kd.R_alloc | apply Kd.R_drewN | apply Kd.R_drew)); exact Kd.R_mono (Kd.R_far (p := ⟨gb272, 2, none⟩) (Kd.R_types HO282.out BK272.out (by decide)) (fun _ hk => hk.2) (.slice Ao77 y280.length co77)) (fun _ hk => trivial)⟩, ⟨by (with_reducible repeat (first | refine blk_drewN ?_ _ | refine blk_drew ?_ | refine blk_alloc ?_ _)); refine blk_far ?_ NB271_272.out _; (with_reducible repeat (first | refine blk_drewN ?_ _ | refine blk_drew ?_ | refine blk_alloc ?_ _)); exact BK271.out⟩, ⟨by (with_reducible repeat (first | refine blk_drewN ?_ _ | refine blk_drew ?_ | refine blk_alloc ?_ _)); refine blk_put (cs := #[.int .i64 (wrap64 (bt a0 0)), .int .u32 x273001_30, u273002, .int .i64 t275, .int .i64 (wrap64 (t276 - 1)), .int .i32 t277, .int .i64 t278, .int .u64 t279, .int .i64 x273008_30]) ?_ 2 _ rfl; (with_reducible repeat (first | refine blk_drewN ?_ _ | refine blk_drew ?_ | refine blk_alloc ?_ _)); exact BK272.out⟩, ⟨by repeat (first | (with_reducible first | exact HB.out | apply below_alloc | apply pw_below_drewN | apply below_drew1 | refine below_set ?_ GE271.out | refine below_set ?_ GE272.out) | exact HB.out)⟩⟩
                          ·
                           rw [if_neg c74] at H
                           exact absurd H (by simp)
                         ·
                          rw [if_neg c72] at H
                          exact absurd H (by simp)
                        ·
                         rw [if_neg c71] at H
                         exact absurd H (by simp)
                       ·
                        rw [if_neg c69] at H
                        have c69b0 : decide (x7_5 < t274) = false := decide_eq_false c69
                        clear c69
                        have H' := Aside0.mk H
                        clear H
                        go_wp2
                        go_meet
                        case rel => exact ⟨_, (wrap64 (x5_23 + t274)), (0), (0), (0), (0), (0), (0), (0), (0), (x273002_5), (t275), ((wrap64 (t276 - 1))), (t277), (t278), (t279), (u273002), (by first | rfl | (simp; done) | (simp [*]; done)), H', ⟨by have := HJ6.out; have := HJ19.out; have := HJ23.out; have := HJ30.out; have := HK5.out; first | omega | exact Nat.le_refl _⟩, ⟨by (with_reducible repeat (first | apply Kd.R_alloc | apply Kd.R_drewN | apply Kd.R_drew)); exact HO_273002.out⟩, ⟨by (with_reducible repeat (first | refine blk_drewN ?_ _ | refine blk_drew ?_ | refine blk_alloc ?_ _)); exact BK271.out⟩, ⟨by (with_reducible repeat (first | refine blk_drewN ?_ _ | refine blk_drew ?_ | refine blk_alloc ?_ _)); exact BK272.out⟩, ⟨by repeat (first | (with_reducible first | exact HB.out | apply below_alloc | apply pw_below_drewN | apply below_drew1 | refine below_set ?_ GE271.out | refine below_set ?_ GE272.out) | exact HB.out)⟩⟩
                    ·
                     rw [if_neg c60] at H
                     exact absurd H (by simp)
                   ·
                    rw [if_neg c59] at H
                    exact absurd H (by simp)
                  ·
                   rw [if_neg c56] at H
                   exact absurd H (by simp)
                 ·
                  rw [if_neg c55] at H
                  exact absurd H (by simp)
              ·
               rw [if_neg c45] at H
               have c45b0 : ((wrap64 (bt a0 0)) == 1) = false := beq_eq_false_iff_ne.mpr c45
               have c45b1 : ((wrap64 (bt a0 0)) != 1) = true := bne_iff_ne.mpr c45
               (first | rw [c45b0] | (simp only [i64_w, i32_w]; rw [c45b0]) | skip)
               have H' := Aside0.mk H
               clear H
               go_wp2
               go_meet
               case rel => exact ⟨_, (x5_23), (0), (0), (0), (0), (0), (0), (0), (0), (([] : List Int)), (0), (0), (0), (0), (0), (.slice none 0 0), (by first | rfl | (simp; done) | (simp [*]; done)), H', ⟨by have := HJ6.out; have := HJ19.out; have := HJ23.out; have := HJ30.out; first | omega | exact Nat.le_refl _⟩, ⟨by first | exact Kd.R_nil _ _ _ _ _ | exact Kd.N_nil _ _ _ _ _ | exact Kd.V_nil _ _ _ _ _ | exact Kd.Q_nil _ _ _ _ _ | exact Kd.S_nil _ _ _ _ _⟩, ⟨by (with_reducible repeat (first | refine blk_drewN ?_ _ | refine blk_drew ?_ | refine blk_alloc ?_ _)); exact BK271.out⟩, ⟨by (with_reducible repeat (first | refine blk_drewN ?_ _ | refine blk_drew ?_ | refine blk_alloc ?_ _)); exact BK272.out⟩, ⟨by repeat (first | (with_reducible first | exact HB.out | apply below_alloc | apply pw_below_drewN | apply below_drew1 | refine below_set ?_ GE271.out | refine below_set ?_ GE272.out) | exact HB.out)⟩⟩
             case rest =>
              clear HC42
              try clear c1
              try clear c2
              try clear c2b0
              try clear c2b1
              try clear p2
              try clear c3
              try clear p3
              try clear q3
              try clear hx3
              try clear qi3
              try clear c4
              try clear c5
              try clear c5b0
              try clear c5b1
              try clear c6
              try clear p6
              try clear q6
              try clear hx6
              try clear qi6
              try clear c7
              try clear p7
              try clear q7
              try clear hx7
              try clear c10
              try clear c12
              try clear c12b0
              try clear c13
              try clear c15
              try clear c17
              try clear c18
              try clear c21
              try clear c23
              try clear c23b0
              try clear c23b1
              try clear c25
              try clear c27
              try clear c27b0
              try clear c27b1
              try clear c28
              try clear c28b0
              try clear c29
              try clear c32
              try clear c34
              try clear c34b0
              try clear c35
              try clear c35b0
              try clear c35b1
              try clear p36
              try clear q36
              try clear hx36
              try clear qi36
              try clear c37
              try clear c40
              try clear c43
              try clear c45
              try clear c45b0
              try clear c45b1
              try clear c47
              try clear c47b0
              try clear c48
              try clear c50
              try clear c50b0
              try clear c51
              try clear c53
              try clear c54
              try clear c55
              try clear c55b0
              try clear c55b1
              try clear c56
              try clear c56b0
              try clear c56b1
              try clear c59
              try clear c59b0
              try clear c59b1
              try clear c60
              try clear c60b0
              try clear c60b1
              try clear p64
              try clear c69
              try clear c69b0
              try clear c71
              try clear c71b0
              try clear c72
              try clear c72b0
              try clear p73
              try clear q73
              try clear hx73
              try clear c74
              try clear hcz11_0
              try clear hcz11_1
              try clear hcz11_2
              try clear hcz11_3
              try clear hcz11_4
              try clear hcz11_5
              try clear hcz11_6
              try clear hcz11_7
              try clear hcz11_8
              try clear hcz14_0
              try clear hcz14_1
              try clear hcz14_2
              try clear hcz14_3
              try clear hcz14_4
              try clear hcz14_5
              try clear hcz14_6
              try clear hcz14_7
              try clear hcz14_8
              try clear hcz16_0
              try clear hcz16_1
              try clear hcz16_2
              try clear hcz16_3
              try clear hcz16_4
              try clear hcz16_5
              try clear hcz16_6
              try clear hcz16_7
              try clear hcz16_8
              try clear hcz19_0
              try clear hcz19_1
              try clear hcz19_2
              try clear hcz19_3
              try clear hcz19_4
              try clear hcz19_5
              try clear hcz19_6
              try clear hcz19_7
              try clear hcz19_8
              try clear hcz22_0
              try clear hcz22_1
              try clear hcz22_2
              try clear hcz22_3
              try clear hcz22_4
              try clear hcz22_5
              try clear hcz22_6
              try clear hcz22_7
              try clear hcz22_8
              try clear hcz26_0
              try clear hcz26_1
              try clear hcz26_2
              try clear hcz26_3
              try clear hcz26_4
              try clear hcz26_5
              try clear hcz26_6
              try clear hcz26_7
              try clear hcz26_8
              try clear hcz30_0
              try clear hcz30_1
              try clear hcz30_2
              try clear hcz30_3
              try clear hcz30_4
              try clear hcz30_5
              try clear hcz30_6
              try clear hcz30_7
              try clear hcz30_8
              try clear hcz33_0
              try clear hcz33_1
              try clear hcz33_2
              try clear hcz33_3
              try clear hcz33_4
              try clear hcz33_5
              try clear hcz33_6
              try clear hcz33_7
              try clear hcz33_8
              try clear hcz38_0
              try clear hcz38_1
              try clear hcz38_2
              try clear hcz38_3
              try clear hcz38_4
              try clear hcz38_5
              try clear hcz38_6
              try clear hcz38_7
              try clear hcz38_8
              try clear hcz41_0
              try clear hcz41_1
              try clear hcz41_2
              try clear hcz41_3
              try clear hcz41_4
              try clear hcz41_5
              try clear hcz41_6
              try clear hcz41_7
              try clear hcz41_8
              try clear hcz44_0
              try clear hcz44_1
              try clear hcz44_2
              try clear hcz44_3
              try clear hcz44_4
              try clear hcz44_5
              try clear hcz44_6
              try clear hcz44_7
              try clear hcz44_8
              try clear hcz49_0
              try clear hcz49_1
              try clear hcz49_2
              try clear hcz49_3
              try clear hcz49_4
              try clear hcz49_5
              try clear hcz49_6
              try clear hcz49_7
              try clear hcz49_8
              try clear hcz4_0
              try clear hcz4_1
              try clear hcz4_2
              try clear hcz4_3
              try clear hcz4_4
              try clear hcz4_5
              try clear hcz4_6
              try clear hcz4_7
              try clear hcz4_8
              try clear hcz52_0
              try clear hcz52_1
              try clear hcz52_2
              try clear hcz52_3
              try clear hcz52_4
              try clear hcz52_5
              try clear hcz52_6
              try clear hcz52_7
              try clear hcz52_8
              try clear hfz11_0
              try clear hfz11_1
              try clear hfz11_2
              try clear hfz11_3
              try clear hfz11_4
              try clear hfz11_5
              try clear hfz11_6
              try clear hfz11_7
              try clear hfz11_8
              try clear hfz14_0
              try clear hfz14_1
              try clear hfz14_2
              try clear hfz14_3
              try clear hfz14_4
              try clear hfz14_5
              try clear hfz14_6
              try clear hfz14_7
              try clear hfz14_8
              try clear hfz16_0
              try clear hfz16_1
              try clear hfz16_2
              try clear hfz16_3
              try clear hfz16_4
              try clear hfz16_5
              try clear hfz16_6
              try clear hfz16_7
              try clear hfz16_8
              try clear hfz19_0
              try clear hfz19_1
              try clear hfz19_2
              try clear hfz19_3
              try clear hfz19_4
              try clear hfz19_5
              try clear hfz19_6
              try clear hfz19_7
              try clear hfz19_8
              try clear hfz22_0
              try clear hfz22_1
              try clear hfz22_2
              try clear hfz22_3
              try clear hfz22_4
              try clear hfz22_5
              try clear hfz22_6
              try clear hfz22_7
              try clear hfz22_8
              try clear hfz26_0
              try clear hfz26_1
              try clear hfz26_2
              try clear hfz26_3
              try clear hfz26_4
              try clear hfz26_5
              try clear hfz26_6
              try clear hfz26_7
              try clear hfz26_8
              try clear hfz30_0
              try clear hfz30_1
              try clear hfz30_2
              try clear hfz30_3
              try clear hfz30_4
              try clear hfz30_5
              try clear hfz30_6
              try clear hfz30_7
              try clear hfz30_8
              try clear hfz33_0
              try clear hfz33_1
              try clear hfz33_2
              try clear hfz33_3
              try clear hfz33_4
              try clear hfz33_5
              try clear hfz33_6
              try clear hfz33_7
              try clear hfz33_8
              try clear hfz38_0
              try clear hfz38_1
              try clear hfz38_2
              try clear hfz38_3
              try clear hfz38_4
              try clear hfz38_5
              try clear hfz38_6
              try clear hfz38_7
              try clear hfz38_8
              try clear hfz41_0
              try clear hfz41_1
              try clear hfz41_2
              try clear hfz41_3
              try clear hfz41_4
              try clear hfz41_5
              try clear hfz41_6
              try clear hfz41_7
              try clear hfz41_8
              try clear hfz44_0
              try clear hfz44_1
              try clear hfz44_2
              try clear hfz44_3
              try clear hfz44_4
              try clear hfz44_5
              try clear hfz44_6
              try clear hfz44_7
              try clear hfz44_8
              try clear hfz49_0
              try clear hfz49_1
              try clear hfz49_2
              try clear hfz49_3
              try clear hfz49_4
              try clear hfz49_5
              try clear hfz49_6
              try clear hfz49_7
              try clear hfz49_8
              try clear hfz4_0
              try clear hfz4_1
              try clear hfz4_2
              try clear hfz4_3
              try clear hfz4_4
              try clear hfz4_5
              try clear hfz4_6
              try clear hfz4_7
              try clear hfz4_8
              try clear hfz52_0
              try clear hfz52_1
              try clear hfz52_2
              try clear hfz52_3
              try clear hfz52_4
              try clear hfz52_5
              try clear hfz52_6
              try clear hfz52_7
              try clear hfz52_8
              try clear p2
              try clear p3
              try clear p36
              try clear p6
              try clear p64
              try clear p73
              try clear q3
              try clear q36
              try clear q6
              try clear q73
              obtain ⟨kq, x5_41, x272000_41, x272001_41, x272003_41, x272004_41, x272005_41, x272006_41, x272007_41, x272008_41, x273002_41, x273003_41, x273004_41, x273005_41, x273006_41, x273007_41, u273002, rfl, HA, HJ41, HO_273002, BK271, BK272, HB⟩ := hcut
              cases kq with
              | zero => exact absurd HA.out (by simp [credenzaref22_Parse.j5])
              | succ kj41 =>
               have H := HA.out
               clear HA
               simp only [credenzaref22_Parse.j5] at H
               by_cases c79 : (a0.size : Int) > x5_41
               ·
                rw [if_pos c79] at H
                have c79b0 : decide (x5_41 < (a0.size : Int)) = true := decide_eq_true c79
                clear c79
                simp only [Option.some.injEq, Prod.mk.injEq] at H
                obtain ⟨rfl, rfl, rfl, rfl, rfl, rfl, rfl, rfl, rfl, rfl⟩ := H
                have hnb80 := NB271_272.out
                have hnc80 := NB272_271.out
                have hcz81_0 : wc.cell? ⟨gb271, 0, none⟩ = some (.int .i64 x272000_41) := (blk_cell BK271.out 0).trans rfl
                have hcz81_1 : wc.cell? ⟨gb271, 1, none⟩ = some (.int .u32 x272001_41) := (blk_cell BK271.out 1).trans rfl
                have hcz81_2 : wc.cell? ⟨gb271, 2, none⟩ = some (.slice none 0 0) := (blk_cell BK271.out 2).trans rfl
                have hcz81_3 : wc.cell? ⟨gb271, 3, none⟩ = some (.int .i64 x272003_41) := (blk_cell BK271.out 3).trans rfl
                have hcz81_4 : wc.cell? ⟨gb271, 4, none⟩ = some (.int .i64 x272004_41) := (blk_cell BK271.out 4).trans rfl
                have hcz81_5 : wc.cell? ⟨gb271, 5, none⟩ = some (.int .i32 x272005_41) := (blk_cell BK271.out 5).trans rfl
                have hcz81_6 : wc.cell? ⟨gb271, 6, none⟩ = some (.int .i64 x272006_41) := (blk_cell BK271.out 6).trans rfl
                have hcz81_7 : wc.cell? ⟨gb271, 7, none⟩ = some (.int .u64 x272007_41) := (blk_cell BK271.out 7).trans rfl
                have hcz81_8 : wc.cell? ⟨gb271, 8, none⟩ = some (.int .i64 x272008_41) := (blk_cell BK271.out 8).trans rfl
                have hfz81_0 := blk_frozen BK271.out 0
                have hfz81_1 := blk_frozen BK271.out 1
                have hfz81_2 := blk_frozen BK271.out 2
                have hfz81_3 := blk_frozen BK271.out 3
                have hfz81_4 := blk_frozen BK271.out 4
                have hfz81_5 := blk_frozen BK271.out 5
                have hfz81_6 := blk_frozen BK271.out 6
                have hfz81_7 := blk_frozen BK271.out 7
                have hfz81_8 := blk_frozen BK271.out 8
                go_wp2
                refine bodyPost_ret (results_ct rfl _ _ gb271 40 #[.int .i64 0, .int .u32 0, .slice none 0 0, .int .i64 0, .int .i64 0, .int .i32 0, .int .i64 0, .int .u64 0, .int .i64 0] (0, 0) _ rfl (by (with_reducible repeat (first | refine blk_drewN ?_ _ | refine blk_drew ?_ | refine blk_alloc ?_ _)); refine blk_put (cs := #[.int .i64 0, .int .u32 0, .slice none 0 0, .int .i64 0, .int .i64 0, .int .i32 0, .int .i64 0, .int .u64 0, .int .i64 x272008_41]) ?_ 8 _ rfl; (with_reducible repeat (first | refine blk_drewN ?_ _ | refine blk_drew ?_ | refine blk_alloc ?_ _)); refine blk_put (cs := #[.int .i64 0, .int .u32 0, .slice none 0 0, .int .i64 0, .int .i64 0, .int .i32 0, .int .i64 0, .int .u64 x272007_41, .int .i64 x272008_41]) ?_ 7 _ rfl; (with_reducible repeat (first | refine blk_drewN ?_ _ | refine blk_drew ?_ | refine blk_alloc ?_ _)); refine blk_put (cs := #[.int .i64 0, .int .u32 0, .slice none 0 0, .int .i64 0, .int .i64 0, .int .i32 0, .int .i64 x272006_41, .int .u64 x272007_41, .int .i64 x272008_41]) ?_ 6 _ rfl; (with_reducible repeat (first | refine blk_drewN ?_ _ | refine blk_drew ?_ | refine blk_alloc ?_ _)); refine blk_put (cs := #[.int .i64 0, .int .u32 0, .slice none 0 0, .int .i64 0, .int .i64 0, .int .i32 x272005_41, .int .i64 x272006_41, .int .u64 x272007_41, .int .i64 x272008_41]) ?_ 5 _ rfl; (with_reducible repeat (first | refine blk_drewN ?_ _ | refine blk_drew ?_ | refine blk_alloc ?_ _)); refine blk_put (cs := #[.int .i64 0, .int .u32 0, .slice none 0 0, .int .i64 0, .int .i64 x272004_41, .int .i32 x272005_41, .int .i64 x272006_41, .int .u64 x272007_41, .int .i64 x272008_41]) ?_ 4 _ rfl; (with_reducible repeat (first | refine blk_drewN ?_ _ | refine blk_drew ?_ | refine blk_alloc ?_ _)); refine blk_put (cs := #[.int .i64 0, .int .u32 0, .slice none 0 0, .int .i64 x272003_41, .int .i64 x272004_41, .int .i32 x272005_41, .int .i64 x272006_41, .int .u64 x272007_41, .int .i64 x272008_41]) ?_ 3 _ rfl; (with_reducible repeat (first | refine blk_drewN ?_ _ | refine blk_drew ?_ | refine blk_alloc ?_ _)); refine blk_put (cs := #[.int .i64 0, .int .u32 0, .slice none 0 0, .int .i64 x272003_41, .int .i64 x272004_41, .int .i32 x272005_41, .int .i64 x272006_41, .int .u64 x272007_41, .int .i64 x272008_41]) ?_ 2 _ rfl; (with_reducible repeat (first | refine blk_drewN ?_ _ | refine blk_drew ?_ | refine blk_alloc ?_ _)); refine blk_put (cs := #[.int .i64 0, .int .u32 x272001_41, .slice none 0 0, .int .i64 x272003_41, .int .i64 x272004_41, .int .i32 x272005_41, .int .i64 x272006_41, .int .u64 x272007_41, .int .i64 x272008_41]) ?_ 1 _ rfl; (with_reducible repeat (first | refine blk_drewN ?_ _ | refine blk_drew ?_ | refine blk_alloc ?_ _)); refine blk_put (cs := #[.int .i64 x272000_41, .int .u32 x272001_41, .slice none 0 0, .int .i64 x272003_41, .int .i64 x272004_41, .int .i32 x272005_41, .int .i64 x272006_41, .int .u64 x272007_41, .int .i64 x272008_41]) ?_ 0 _ rfl; (with_reducible repeat (first | refine blk_drewN ?_ _ | refine blk_drew ?_ | refine blk_alloc ?_ _)); exact BK271.out) Try.underlying40 rfl (by kernel_rfl)) rfl ?_
                exact ⟨_, by first | rfl | (simp [errW_none, errW_some] <;> rfl) | (simp [*, errW_none, errW_some] <;> rfl), by first | exact Kd.R_nil _ _ _ _ _ | exact Kd.N_nil _ _ _ _ _ | exact Kd.V_nil _ _ _ _ _ | exact Kd.Q_nil _ _ _ _ _ | exact Kd.S_nil _ _ _ _ _, by repeat (first | (with_reducible first | exact HB.out | apply below_alloc | apply pw_below_drewN | apply below_drew1 | refine below_set ?_ GE271.out | refine below_set ?_ GE272.out) | exact HB.out)⟩
               ·
                rw [if_neg c79] at H
                have c79b0 : decide (x5_41 < (a0.size : Int)) = false := decide_eq_false c79
                clear c79
                replace H := Option.bind_eq_some_iff.mp H
                obtain ⟨t283, A820, H⟩ := H
                replace H : (if t283 = true then (some ((wrap64 (bt a0 0)), x273001_30, x273002_41, x273003_41, x273004_41, x273005_41, x273006_41, x273007_41, x273008_30, 0)) else (some (0, 0, ([] : List Int), 0, 0, 0, 0, 0, 0, 11))) = some (r1, r2, r3, r4, r5, r6, r7, r8, r9, r10) := H
                have A82 := Aside0.mk A820
                clear A820
                by_cases c83 : t283 = true
                ·
                 subst c83
                 have H1 : (some ((wrap64 (bt a0 0)), x273001_30, x273002_41, x273003_41, x273004_41, x273005_41, x273006_41, x273007_41, x273008_30, 0)) = some (r1, r2, r3, r4, r5, r6, r7, r8, r9, r10) := by rw [if_pos rfl] at H; exact H
                 clear H
                 have H := H1
                 clear H1
                 simp only [Option.some.injEq, Prod.mk.injEq] at H
                 obtain ⟨rfl, rfl, rfl, rfl, rfl, rfl, rfl, rfl, rfl, rfl⟩ := H
                 have hnb84 := NB272_271.out
                 have hnc84 := NB271_272.out
                 have hcz85_0 : wc.cell? ⟨gb272, 0, none⟩ = some (.int .i64 (wrap64 (bt a0 0))) := (blk_cell BK272.out 0).trans rfl
                 have hcz85_1 : wc.cell? ⟨gb272, 1, none⟩ = some (.int .u32 x273001_30) := (blk_cell BK272.out 1).trans rfl
                 have hcz85_2 : wc.cell? ⟨gb272, 2, none⟩ = some (u273002) := (blk_cell BK272.out 2).trans rfl
                 have hcz85_3 : wc.cell? ⟨gb272, 3, none⟩ = some (.int .i64 x273003_41) := (blk_cell BK272.out 3).trans rfl
                 have hcz85_4 : wc.cell? ⟨gb272, 4, none⟩ = some (.int .i64 x273004_41) := (blk_cell BK272.out 4).trans rfl
                 have hcz85_5 : wc.cell? ⟨gb272, 5, none⟩ = some (.int .i32 x273005_41) := (blk_cell BK272.out 5).trans rfl
                 have hcz85_6 : wc.cell? ⟨gb272, 6, none⟩ = some (.int .i64 x273006_41) := (blk_cell BK272.out 6).trans rfl
                 have hcz85_7 : wc.cell? ⟨gb272, 7, none⟩ = some (.int .u64 x273007_41) := (blk_cell BK272.out 7).trans rfl
                 have hcz85_8 : wc.cell? ⟨gb272, 8, none⟩ = some (.int .i64 x273008_30) := (blk_cell BK272.out 8).trans rfl
                 have hfz85_0 := blk_frozen BK272.out 0
                 have hfz85_1 := blk_frozen BK272.out 1
                 have hfz85_2 := blk_frozen BK272.out 2
                 have hfz85_3 := blk_frozen BK272.out 3
                 have hfz85_4 := blk_frozen BK272.out 4
                 have hfz85_5 := blk_frozen BK272.out 5
                 have hfz85_6 := blk_frozen BK272.out 6
                 have hfz85_7 := blk_frozen BK272.out 7
                 have hfz85_8 := blk_frozen BK272.out 8
                 obtain ⟨Ao86, co86, eo86⟩ := Kd.R_slice HO_273002.out
                 subst eo86
                 go_wp2_with (first | ((with_reducible refine gate_callee (f := 42) rfl ?_); refine goesL_ (some 104) rfl rfl Try.func42 (by kernel_rfl) rfl #[.agg #[.int .i64 (wrap64 (bt a0 0)), .int .u32 x273001_30, .slice Ao86 x273002_41.length co86, .int .i64 x273003_41, .int .i64 x273004_41, .int .i32 x273005_41, .int .i64 x273006_41, .int .u64 x273007_41, .int .i64 x273008_30]] rfl (by (try simp only [List.map_toArray, List.map_cons, List.map_nil]); first | done | rfl | (simp only [List.length_drop, List.length_take]; rfl)) ?_; (with_reducible refine (credenzaref22_Ranged.calls kj41 (wrap64 (bt a0 0)) x273001_30 _ _ x273002_41 x273003_41 x273004_41 x273005_41 x273006_41 x273007_41 x273008_30 true _ ?side1 ?side2 A82.out).mono ?_); (case side1 => repeat (first | exact (Kd.R_reads' HO_273002.out).2.2 | (with_reducible refine Kd.C_alloc ?_ _) | (with_reducible refine Kd.C_drewN ?_ _) | (with_reducible refine Kd.C_drew ?_))); (case side2 => exact (Kd.R_reads' HO_273002.out).2.1); rintro e w87 ⟨rfl, hb⟩; refine ⟨_, rfl, ?_⟩; have n0_ := Aside0.mk (Kd.R_below (by (with_reducible repeat (first | apply Kd.R_alloc | apply Kd.R_drewN | apply Kd.R_drew)); exact HO_273002.out) hb); have n1_ := Aside0.mk (blk_below (g := gb271) (o := .cells #[.int .i64 x272000_41, .int .u32 x272001_41, .slice none 0 0, .int .i64 x272003_41, .int .i64 x272004_41, .int .i32 x272005_41, .int .i64 x272006_41, .int .u64 x272007_41, .int .i64 x272008_41] 40 (0, 0)) (by (with_reducible repeat (first | refine blk_drewN ?_ _ | refine blk_drew ?_ | refine blk_alloc ?_ _)); exact BK271.out) hb); have n2_ := Aside0.mk (blk_below (g := gb272) (o := .cells #[.int .i64 (wrap64 (bt a0 0)), .int .u32 x273001_30, .slice Ao86 x273002_41.length co86, .int .i64 x273003_41, .int .i64 x273004_41, .int .i32 x273005_41, .int .i64 x273006_41, .int .u64 x273007_41, .int .i64 x273008_30] 40 (0, 0)) (by (with_reducible repeat (first | refine blk_drewN ?_ _ | refine blk_drew ?_ | refine blk_alloc ?_ _)); exact BK272.out) hb); have n3_ := Aside0.mk (below_step (by repeat (first | (with_reducible first | exact HB.out | apply below_alloc | apply pw_below_drewN | apply below_drew1 | refine below_set ?_ GE271.out | refine below_set ?_ GE272.out) | exact HB.out)) hb); clear HO_273002; clear BK271; clear BK272; clear HB; have HO_273002 := n0_; have BK271 := n1_; have BK272 := n2_; have HB := n3_; clear n0_ n1_ n2_ n3_; (try clear hb); (try clear hb2); (try clear hk); (try clear hi); have hcz88_0 : w87.cell? ⟨gb272, 0, none⟩ = some (.int .i64 (wrap64 (bt a0 0))) := (blk_cell BK272.out 0).trans rfl; have hcz88_1 : w87.cell? ⟨gb272, 1, none⟩ = some (.int .u32 x273001_30) := (blk_cell BK272.out 1).trans rfl; have hcz88_2 : w87.cell? ⟨gb272, 2, none⟩ = some (.slice Ao86 x273002_41.length co86) := (blk_cell BK272.out 2).trans rfl; have hcz88_3 : w87.cell? ⟨gb272, 3, none⟩ = some (.int .i64 x273003_41) := (blk_cell BK272.out 3).trans rfl; have hcz88_4 : w87.cell? ⟨gb272, 4, none⟩ = some (.int .i64 x273004_41) := (blk_cell BK272.out 4).trans rfl; have hcz88_5 : w87.cell? ⟨gb272, 5, none⟩ = some (.int .i32 x273005_41) := (blk_cell BK272.out 5).trans rfl; have hcz88_6 : w87.cell? ⟨gb272, 6, none⟩ = some (.int .i64 x273006_41) := (blk_cell BK272.out 6).trans rfl; have hcz88_7 : w87.cell? ⟨gb272, 7, none⟩ = some (.int .u64 x273007_41) := (blk_cell BK272.out 7).trans rfl; have hcz88_8 : w87.cell? ⟨gb272, 8, none⟩ = some (.int .i64 x273008_30) := (blk_cell BK272.out 8).trans rfl; have hfz88_0 := blk_frozen BK272.out 0; have hfz88_1 := blk_frozen BK272.out 1; have hfz88_2 := blk_frozen BK272.out 2; have hfz88_3 := blk_frozen BK272.out 3; have hfz88_4 := blk_frozen BK272.out 4; have hfz88_5 := blk_frozen BK272.out 5; have hfz88_6 := blk_frozen BK272.out 6; have hfz88_7 := blk_frozen BK272.out 7; have hfz88_8 := blk_frozen BK272.out 8; have hcz89_0 : w87.cell? ⟨gb271, 0, none⟩ = some (.int .i64 x272000_41) := (blk_cell BK271.out 0).trans rfl; have hcz89_1 : w87.cell? ⟨gb271, 1, none⟩ = some (.int .u32 x272001_41) := (blk_cell BK271.out 1).trans rfl; have hcz89_2 : w87.cell? ⟨gb271, 2, none⟩ = some (.slice none 0 0) := (blk_cell BK271.out 2).trans rfl; have hcz89_3 : w87.cell? ⟨gb271, 3, none⟩ = some (.int .i64 x272003_41) := (blk_cell BK271.out 3).trans rfl; have hcz89_4 : w87.cell? ⟨gb271, 4, none⟩ = some (.int .i64 x272004_41) := (blk_cell BK271.out 4).trans rfl; have hcz89_5 : w87.cell? ⟨gb271, 5, none⟩ = some (.int .i32 x272005_41) := (blk_cell BK271.out 5).trans rfl; have hcz89_6 : w87.cell? ⟨gb271, 6, none⟩ = some (.int .i64 x272006_41) := (blk_cell BK271.out 6).trans rfl; have hcz89_7 : w87.cell? ⟨gb271, 7, none⟩ = some (.int .u64 x272007_41) := (blk_cell BK271.out 7).trans rfl; have hcz89_8 : w87.cell? ⟨gb271, 8, none⟩ = some (.int .i64 x272008_41) := (blk_cell BK271.out 8).trans rfl; have hfz89_0 := blk_frozen BK271.out 0; have hfz89_1 := blk_frozen BK271.out 1; have hfz89_2 := blk_frozen BK271.out 2; have hfz89_3 := blk_frozen BK271.out 3; have hfz89_4 := blk_frozen BK271.out 4; have hfz89_5 := blk_frozen BK271.out 5; have hfz89_6 := blk_frozen BK271.out 6; have hfz89_7 := blk_frozen BK271.out 7; have hfz89_8 := blk_frozen BK271.out 8))
                 refine bodyPost_ret (results_ct rfl _ _ gb271 40 #[.int .i64 (wrap64 (bt a0 0)), .int .u32 x273001_30, .slice Ao86 x273002_41.length co86, .int .i64 x273003_41, .int .i64 x273004_41, .int .i32 x273005_41, .int .i64 x273006_41, .int .u64 x273007_41, .int .i64 x273008_30] (0, 0) _ rfl (by (with_reducible repeat (first | refine blk_drewN ?_ _ | refine blk_drew ?_ | refine blk_alloc ?_ _)); refine blk_put (cs := #[.int .i64 (wrap64 (bt a0 0)), .int .u32 x273001_30, .slice Ao86 x273002_41.length co86, .int .i64 x273003_41, .int .i64 x273004_41, .int .i32 x273005_41, .int .i64 x273006_41, .int .u64 x273007_41, .int .i64 x272008_41]) ?_ 8 _ rfl; (with_reducible repeat (first | refine blk_drewN ?_ _ | refine blk_drew ?_ | refine blk_alloc ?_ _)); refine blk_put (cs := #[.int .i64 (wrap64 (bt a0 0)), .int .u32 x273001_30, .slice Ao86 x273002_41.length co86, .int .i64 x273003_41, .int .i64 x273004_41, .int .i32 x273005_41, .int .i64 x273006_41, .int .u64 x272007_41, .int .i64 x272008_41]) ?_ 7 _ rfl; (with_reducible repeat (first | refine blk_drewN ?_ _ | refine blk_drew ?_ | refine blk_alloc ?_ _)); refine blk_put (cs := #[.int .i64 (wrap64 (bt a0 0)), .int .u32 x273001_30, .slice Ao86 x273002_41.length co86, .int .i64 x273003_41, .int .i64 x273004_41, .int .i32 x273005_41, .int .i64 x272006_41, .int .u64 x272007_41, .int .i64 x272008_41]) ?_ 6 _ rfl; (with_reducible repeat (first | refine blk_drewN ?_ _ | refine blk_drew ?_ | refine blk_alloc ?_ _)); refine blk_put (cs := #[.int .i64 (wrap64 (bt a0 0)), .int .u32 x273001_30, .slice Ao86 x273002_41.length co86, .int .i64 x273003_41, .int .i64 x273004_41, .int .i32 x272005_41, .int .i64 x272006_41, .int .u64 x272007_41, .int .i64 x272008_41]) ?_ 5 _ rfl; (with_reducible repeat (first | refine blk_drewN ?_ _ | refine blk_drew ?_ | refine blk_alloc ?_ _)); refine blk_put (cs := #[.int .i64 (wrap64 (bt a0 0)), .int .u32 x273001_30, .slice Ao86 x273002_41.length co86, .int .i64 x273003_41, .int .i64 x272004_41, .int .i32 x272005_41, .int .i64 x272006_41, .int .u64 x272007_41, .int .i64 x272008_41]) ?_ 4 _ rfl; (with_reducible repeat (first | refine blk_drewN ?_ _ | refine blk_drew ?_ | refine blk_alloc ?_ _)); refine blk_put (cs := #[.int .i64 (wrap64 (bt a0 0)), .int .u32 x273001_30, .slice Ao86 x273002_41.length co86, .int .i64 x272003_41, .int .i64 x272004_41, .int .i32 x272005_41, .int .i64 x272006_41, .int .u64 x272007_41, .int .i64 x272008_41]) ?_ 3 _ rfl; (with_reducible repeat (first | refine blk_drewN ?_ _ | refine blk_drew ?_ | refine blk_alloc ?_ _)); refine blk_put (cs := #[.int .i64 (wrap64 (bt a0 0)), .int .u32 x273001_30, .slice none 0 0, .int .i64 x272003_41, .int .i64 x272004_41, .int .i32 x272005_41, .int .i64 x272006_41, .int .u64 x272007_41, .int .i64 x272008_41]) ?_ 2 _ rfl; (with_reducible repeat (first | refine blk_drewN ?_ _ | refine blk_drew ?_ | refine blk_alloc ?_ _)); refine blk_put (cs := #[.int .i64 (wrap64 (bt a0 0)), .int .u32 x272001_41, .slice none 0 0, .int .i64 x272003_41, .int .i64 x272004_41, .int .i32 x272005_41, .int .i64 x272006_41, .int .u64 x272007_41, .int .i64 x272008_41]) ?_ 1 _ rfl; (with_reducible repeat (first | refine blk_drewN ?_ _ | refine blk_drew ?_ | refine blk_alloc ?_ _)); refine blk_put (cs := #[.int .i64 x272000_41, .int .u32 x272001_41, .slice none 0 0, .int .i64 x272003_41, .int .i64 x272004_41, .int .i32 x272005_41, .int .i64 x272006_41, .int .u64 x272007_41, .int .i64 x272008_41]) ?_ 0 _ rfl; (with_reducible repeat (first | refine blk_drewN ?_ _ | refine blk_drew ?_ | refine blk_alloc ?_ _)); exact BK271.out) Try.underlying40 rfl (by kernel_rfl)) rfl ?_
                 exact ⟨_, by first | rfl | (simp [errW_none, errW_some] <;> rfl) | (simp [*, errW_none, errW_some] <;> rfl), by (with_reducible repeat (first | apply Kd.R_alloc | apply Kd.R_drewN | apply Kd.R_drew)); exact Kd.R_mono (Kd.R_far (p := ⟨gb271, 8, none⟩) (Kd.R_far (p := ⟨gb271, 7, none⟩) (Kd.R_far (p := ⟨gb271, 6, none⟩) (Kd.R_far (p := ⟨gb271, 5, none⟩) (Kd.R_far (p := ⟨gb271, 4, none⟩) (Kd.R_far (p := ⟨gb271, 3, none⟩) (Kd.R_far (p := ⟨gb271, 2, none⟩) (Kd.R_far (p := ⟨gb271, 1, none⟩) (Kd.R_far (p := ⟨gb271, 0, none⟩) (Kd.R_types HO_273002.out BK271.out (by decide)) (fun _ hk => hk.2) (.int .i64 (wrap64 (bt a0 0)))) (fun _ hk => hk.2) (.int .u32 x273001_30)) (fun _ hk => hk.2) (.slice Ao86 x273002_41.length co86)) (fun _ hk => hk.2) (.int .i64 x273003_41)) (fun _ hk => hk.2) (.int .i64 x273004_41)) (fun _ hk => hk.2) (.int .i32 x273005_41)) (fun _ hk => hk.2) (.int .i64 x273006_41)) (fun _ hk => hk.2) (.int .u64 x273007_41)) (fun _ hk => hk.2) (.int .i64 x273008_30)) (fun _ hk => trivial), by repeat (first | (with_reducible first | exact HB.out | apply below_alloc | apply pw_below_drewN | apply below_drew1 | refine below_set ?_ GE271.out | refine below_set ?_ GE272.out) | exact HB.out)⟩
                ·
                 replace c83 := Bool.eq_false_iff.mpr c83
                 subst c83
                 have H1 : (some (0, 0, ([] : List Int), 0, 0, 0, 0, 0, 0, 11)) = some (r1, r2, r3, r4, r5, r6, r7, r8, r9, r10) := by rw [if_neg (show ¬ (false = true) by decide)] at H; exact H
                 clear H
                 have H := H1
                 clear H1
                 simp only [Option.some.injEq, Prod.mk.injEq] at H
                 obtain ⟨rfl, rfl, rfl, rfl, rfl, rfl, rfl, rfl, rfl, rfl⟩ := H
                 have hnb90 := NB272_271.out
                 have hnc90 := NB271_272.out
                 have hcz91_0 : wc.cell? ⟨gb272, 0, none⟩ = some (.int .i64 (wrap64 (bt a0 0))) := (blk_cell BK272.out 0).trans rfl
                 have hcz91_1 : wc.cell? ⟨gb272, 1, none⟩ = some (.int .u32 x273001_30) := (blk_cell BK272.out 1).trans rfl
                 have hcz91_2 : wc.cell? ⟨gb272, 2, none⟩ = some (u273002) := (blk_cell BK272.out 2).trans rfl
                 have hcz91_3 : wc.cell? ⟨gb272, 3, none⟩ = some (.int .i64 x273003_41) := (blk_cell BK272.out 3).trans rfl
                 have hcz91_4 : wc.cell? ⟨gb272, 4, none⟩ = some (.int .i64 x273004_41) := (blk_cell BK272.out 4).trans rfl
                 have hcz91_5 : wc.cell? ⟨gb272, 5, none⟩ = some (.int .i32 x273005_41) := (blk_cell BK272.out 5).trans rfl
                 have hcz91_6 : wc.cell? ⟨gb272, 6, none⟩ = some (.int .i64 x273006_41) := (blk_cell BK272.out 6).trans rfl
                 have hcz91_7 : wc.cell? ⟨gb272, 7, none⟩ = some (.int .u64 x273007_41) := (blk_cell BK272.out 7).trans rfl
                 have hcz91_8 : wc.cell? ⟨gb272, 8, none⟩ = some (.int .i64 x273008_30) := (blk_cell BK272.out 8).trans rfl
                 have hfz91_0 := blk_frozen BK272.out 0
                 have hfz91_1 := blk_frozen BK272.out 1
                 have hfz91_2 := blk_frozen BK272.out 2
                 have hfz91_3 := blk_frozen BK272.out 3
                 have hfz91_4 := blk_frozen BK272.out 4
                 have hfz91_5 := blk_frozen BK272.out 5
                 have hfz91_6 := blk_frozen BK272.out 6
                 have hfz91_7 := blk_frozen BK272.out 7
                 have hfz91_8 := blk_frozen BK272.out 8
                 obtain ⟨Ao92, co92, eo92⟩ := Kd.R_slice HO_273002.out
                 subst eo92
                 go_wp2_with (first | ((with_reducible refine gate_callee (f := 42) rfl ?_); refine goesL_ (some 104) rfl rfl Try.func42 (by kernel_rfl) rfl #[.agg #[.int .i64 (wrap64 (bt a0 0)), .int .u32 x273001_30, .slice Ao92 x273002_41.length co92, .int .i64 x273003_41, .int .i64 x273004_41, .int .i32 x273005_41, .int .i64 x273006_41, .int .u64 x273007_41, .int .i64 x273008_30]] rfl (by (try simp only [List.map_toArray, List.map_cons, List.map_nil]); first | done | rfl | (simp only [List.length_drop, List.length_take]; rfl)) ?_; (with_reducible refine (credenzaref22_Ranged.calls kj41 (wrap64 (bt a0 0)) x273001_30 _ _ x273002_41 x273003_41 x273004_41 x273005_41 x273006_41 x273007_41 x273008_30 false _ ?side1 ?side2 A82.out).mono ?_); (case side1 => repeat (first | exact (Kd.R_reads' HO_273002.out).2.2 | (with_reducible refine Kd.C_alloc ?_ _) | (with_reducible refine Kd.C_drewN ?_ _) | (with_reducible refine Kd.C_drew ?_))); (case side2 => exact (Kd.R_reads' HO_273002.out).2.1); rintro e w93 ⟨rfl, hb⟩; refine ⟨_, rfl, ?_⟩; have n0_ := Aside0.mk (Kd.R_below (by (with_reducible repeat (first | apply Kd.R_alloc | apply Kd.R_drewN | apply Kd.R_drew)); exact HO_273002.out) hb); have n1_ := Aside0.mk (blk_below (g := gb271) (o := .cells #[.int .i64 x272000_41, .int .u32 x272001_41, .slice none 0 0, .int .i64 x272003_41, .int .i64 x272004_41, .int .i32 x272005_41, .int .i64 x272006_41, .int .u64 x272007_41, .int .i64 x272008_41] 40 (0, 0)) (by (with_reducible repeat (first | refine blk_drewN ?_ _ | refine blk_drew ?_ | refine blk_alloc ?_ _)); exact BK271.out) hb); have n2_ := Aside0.mk (blk_below (g := gb272) (o := .cells #[.int .i64 (wrap64 (bt a0 0)), .int .u32 x273001_30, .slice Ao92 x273002_41.length co92, .int .i64 x273003_41, .int .i64 x273004_41, .int .i32 x273005_41, .int .i64 x273006_41, .int .u64 x273007_41, .int .i64 x273008_30] 40 (0, 0)) (by (with_reducible repeat (first | refine blk_drewN ?_ _ | refine blk_drew ?_ | refine blk_alloc ?_ _)); exact BK272.out) hb); have n3_ := Aside0.mk (below_step (by repeat (first | (with_reducible first | exact HB.out | apply below_alloc | apply pw_below_drewN | apply below_drew1 | refine below_set ?_ GE271.out | refine below_set ?_ GE272.out) | exact HB.out)) hb); clear HO_273002; clear BK271; clear BK272; clear HB; have HO_273002 := n0_; have BK271 := n1_; have BK272 := n2_; have HB := n3_; clear n0_ n1_ n2_ n3_; (try clear hb); (try clear hb2); (try clear hk); (try clear hi); have hcz94_0 : w93.cell? ⟨gb271, 0, none⟩ = some (.int .i64 x272000_41) := (blk_cell BK271.out 0).trans rfl; have hcz94_1 : w93.cell? ⟨gb271, 1, none⟩ = some (.int .u32 x272001_41) := (blk_cell BK271.out 1).trans rfl; have hcz94_2 : w93.cell? ⟨gb271, 2, none⟩ = some (.slice none 0 0) := (blk_cell BK271.out 2).trans rfl; have hcz94_3 : w93.cell? ⟨gb271, 3, none⟩ = some (.int .i64 x272003_41) := (blk_cell BK271.out 3).trans rfl; have hcz94_4 : w93.cell? ⟨gb271, 4, none⟩ = some (.int .i64 x272004_41) := (blk_cell BK271.out 4).trans rfl; have hcz94_5 : w93.cell? ⟨gb271, 5, none⟩ = some (.int .i32 x272005_41) := (blk_cell BK271.out 5).trans rfl; have hcz94_6 : w93.cell? ⟨gb271, 6, none⟩ = some (.int .i64 x272006_41) := (blk_cell BK271.out 6).trans rfl; have hcz94_7 : w93.cell? ⟨gb271, 7, none⟩ = some (.int .u64 x272007_41) := (blk_cell BK271.out 7).trans rfl; have hcz94_8 : w93.cell? ⟨gb271, 8, none⟩ = some (.int .i64 x272008_41) := (blk_cell BK271.out 8).trans rfl; have hfz94_0 := blk_frozen BK271.out 0; have hfz94_1 := blk_frozen BK271.out 1; have hfz94_2 := blk_frozen BK271.out 2; have hfz94_3 := blk_frozen BK271.out 3; have hfz94_4 := blk_frozen BK271.out 4; have hfz94_5 := blk_frozen BK271.out 5; have hfz94_6 := blk_frozen BK271.out 6; have hfz94_7 := blk_frozen BK271.out 7; have hfz94_8 := blk_frozen BK271.out 8))
                 refine bodyPost_ret (results_ct rfl _ _ gb271 40 #[.int .i64 0, .int .u32 0, .slice none 0 0, .int .i64 0, .int .i64 0, .int .i32 0, .int .i64 0, .int .u64 0, .int .i64 0] (0, 0) _ rfl (by (with_reducible repeat (first | refine blk_drewN ?_ _ | refine blk_drew ?_ | refine blk_alloc ?_ _)); refine blk_put (cs := #[.int .i64 0, .int .u32 0, .slice none 0 0, .int .i64 0, .int .i64 0, .int .i32 0, .int .i64 0, .int .u64 0, .int .i64 x272008_41]) ?_ 8 _ rfl; (with_reducible repeat (first | refine blk_drewN ?_ _ | refine blk_drew ?_ | refine blk_alloc ?_ _)); refine blk_put (cs := #[.int .i64 0, .int .u32 0, .slice none 0 0, .int .i64 0, .int .i64 0, .int .i32 0, .int .i64 0, .int .u64 x272007_41, .int .i64 x272008_41]) ?_ 7 _ rfl; (with_reducible repeat (first | refine blk_drewN ?_ _ | refine blk_drew ?_ | refine blk_alloc ?_ _)); refine blk_put (cs := #[.int .i64 0, .int .u32 0, .slice none 0 0, .int .i64 0, .int .i64 0, .int .i32 0, .int .i64 x272006_41, .int .u64 x272007_41, .int .i64 x272008_41]) ?_ 6 _ rfl; (with_reducible repeat (first | refine blk_drewN ?_ _ | refine blk_drew ?_ | refine blk_alloc ?_ _)); refine blk_put (cs := #[.int .i64 0, .int .u32 0, .slice none 0 0, .int .i64 0, .int .i64 0, .int .i32 x272005_41, .int .i64 x272006_41, .int .u64 x272007_41, .int .i64 x272008_41]) ?_ 5 _ rfl; (with_reducible repeat (first | refine blk_drewN ?_ _ | refine blk_drew ?_ | refine blk_alloc ?_ _)); refine blk_put (cs := #[.int .i64 0, .int .u32 0, .slice none 0 0, .int .i64 0, .int .i64 x272004_41, .int .i32 x272005_41, .int .i64 x272006_41, .int .u64 x272007_41, .int .i64 x272008_41]) ?_ 4 _ rfl; (with_reducible repeat (first | refine blk_drewN ?_ _ | refine blk_drew ?_ | refine blk_alloc ?_ _)); refine blk_put (cs := #[.int .i64 0, .int .u32 0, .slice none 0 0, .int .i64 x272003_41, .int .i64 x272004_41, .int .i32 x272005_41, .int .i64 x272006_41, .int .u64 x272007_41, .int .i64 x272008_41]) ?_ 3 _ rfl; (with_reducible repeat (first | refine blk_drewN ?_ _ | refine blk_drew ?_ | refine blk_alloc ?_ _)); refine blk_put (cs := #[.int .i64 0, .int .u32 0, .slice none 0 0, .int .i64 x272003_41, .int .i64 x272004_41, .int .i32 x272005_41, .int .i64 x272006_41, .int .u64 x272007_41, .int .i64 x272008_41]) ?_ 2 _ rfl; (with_reducible repeat (first | refine blk_drewN ?_ _ | refine blk_drew ?_ | refine blk_alloc ?_ _)); refine blk_put (cs := #[.int .i64 0, .int .u32 x272001_41, .slice none 0 0, .int .i64 x272003_41, .int .i64 x272004_41, .int .i32 x272005_41, .int .i64 x272006_41, .int .u64 x272007_41, .int .i64 x272008_41]) ?_ 1 _ rfl; (with_reducible repeat (first | refine blk_drewN ?_ _ | refine blk_drew ?_ | refine blk_alloc ?_ _)); refine blk_put (cs := #[.int .i64 x272000_41, .int .u32 x272001_41, .slice none 0 0, .int .i64 x272003_41, .int .i64 x272004_41, .int .i32 x272005_41, .int .i64 x272006_41, .int .u64 x272007_41, .int .i64 x272008_41]) ?_ 0 _ rfl; (with_reducible repeat (first | refine blk_drewN ?_ _ | refine blk_drew ?_ | refine blk_alloc ?_ _)); exact BK271.out) Try.underlying40 rfl (by kernel_rfl)) rfl ?_
                 exact ⟨_, by first | rfl | (simp [errW_none, errW_some] <;> rfl) | (simp [*, errW_none, errW_some] <;> rfl), by first | exact Kd.R_nil _ _ _ _ _ | exact Kd.N_nil _ _ _ _ _ | exact Kd.V_nil _ _ _ _ _ | exact Kd.Q_nil _ _ _ _ _ | exact Kd.S_nil _ _ _ _ _, by repeat (first | (with_reducible first | exact HB.out | apply below_alloc | apply pw_below_drewN | apply below_drew1 | refine below_set ?_ GE271.out | refine below_set ?_ GE272.out) | exact HB.out)⟩
  ·
   rw [if_neg c5] at H
   exact absurd H (by simp)

end Go.Proofs.Ytehepnmagcjkaaa.PAskParses
