-- Written by a program of this session (wip/tools/mkprint.py over the kit's print).
import Derived.Test.YtlkelicgbjjgiaaPSealReadsx0
import Derived.Test.YtlkelicgbjjgiaaPSealReadsx1
import Derived.Test.YtlkelicgbjjgiaaPSealReadsx2
namespace Go.Proofs.Ytlkelicgbjjgiaa.PSealReads
open Go.RowKit Go.Proofs.YtlkelicgbjjgiaaW.PrintWords Go.Proofs.YtlkelicgbjjgiaaW.PrintLast Go.Proofs.YtlkelicgbjjgiaaW.PrintMore
attribute [local go_sem] max2_int min2_int max_two min_two max_three min_three max_four min_four   -- for this text's walks alone
set_option linter.unusedVariables false
set_option linter.unusedSimpArgs false

/-! ### credenzalaw06_SealReads: function 12 -/
mutual
def credenzalaw06_SealReads.j0 : Nat → List Int → List (S67) → Bool → Option (Bool)
  | 0, _, _, _ => none
  | k + 1, x0, x1, x22 => if x22 = true then ((credenzalaw06_awake.f k).bind fun t190 => (some t190)) else ((some (([] : List Int) : List Int)).bind fun y191 => (if y191.length + x0.length < 140737488355328 then ((some (y191 ++ x0 : List Int)).bind fun y194 => ((seal_NewReader.f y194).bind fun bt197 => (credenzalaw06_SealReads.l0 k x0 x1 y194 (y194.length : Int) 0 bt197.1 bt197.2))) else (none)))
def credenzalaw06_SealReads.l0 : Nat → List Int → List (S67) → List Int → Int → Int → List Int → Bool → Option (Bool)
  | 0, _, _, _, _, _, _, _ => none
  | k + 1, x0, x1, x5, x32, x33, x200000, x200001 => if x33 < x32 then (if 0 ≤ x33 then (if x33 < (x5.length : Int) then (credenzalaw06_SealReads.l0 k x0 x1 (x5.set (x33 : Int).toNat (((rd x5 x33) + 1) % 256)) x32 (wrap64 (x33 + 1)) x200000 x200001) else (none)) else (none)) else (credenzalaw06_SealReads.l1 k (strOfNums x0) false x1 (x1.length : Int) 0 x200000 x200001)
def credenzalaw06_SealReads.l1 : Nat → ByteArray → Bool → List (S67) → Int → Int → List Int → Bool → Option (Bool)
  | 0, _, _, _, _, _, _, _ => none
  | k + 1, x8, x9, x45, x46, x47, x200000, x200001 => if x47 < x46 then (if 0 ≤ x47 then (if x47 < (x45.length : Int) then (if ((rd_T67 x45 x47).f0) = 1 then (credenzalaw06_SealReads.j3 k x8 x9 (mn (mx ((rd_T67 x45 x47).f1) 0) 8) x45 x46 x47 x200000 x200001 ((rd_T67 x45 x47).f0) ((rd_T67 x45 x47).f1)) else (if ((rd_T67 x45 x47).f0) = 2 then (credenzalaw06_SealReads.j3 k x8 x9 4 x45 x46 x47 x200000 x200001 ((rd_T67 x45 x47).f0) ((rd_T67 x45 x47).f1)) else (credenzalaw06_SealReads.j3 k x8 x9 (mx ((rd_T67 x45 x47).f1) 0) x45 x46 x47 x200000 x200001 ((rd_T67 x45 x47).f0) ((rd_T67 x45 x47).f1)))) else (none)) else (none)) else ((credenzalaw06_awake.f k).bind fun t202 => (some t202))
def credenzalaw06_SealReads.j3 : Nat → ByteArray → Bool → Int → List (S67) → Int → Int → List Int → Bool → Int → Int → Option (Bool)
  | 0, _, _, _, _, _, _, _, _, _, _ => none
  | k + 1, x8, x9, x12, x45, x46, x47, x200000, x200001, x205000, x205001 => if x12 > (x8.size : Int) then (credenzalaw06_SealReads.j4 k (⟨#[]⟩ : ByteArray) true (⟨#[]⟩ : ByteArray) x45 x46 x47 x200000 x200001 x205000 x205001) else (if 0 ≤ x12 then (if x12 ≤ (x8.size : Int) then (credenzalaw06_SealReads.j4 k (x8.extract (x12 : Int).toNat x8.size) x9 (x8.extract 0 (x12 : Int).toNat) x45 x46 x47 x200000 x200001 x205000 x205001) else (none)) else (none))
def credenzalaw06_SealReads.j4 : Nat → ByteArray → Bool → ByteArray → List (S67) → Int → Int → List Int → Bool → Int → Int → Option (Bool)
  | 0, _, _, _, _, _, _, _, _, _, _ => none
  | k + 1, x8, x9, x13, x45, x46, x47, x200000, x200001, x205000, x205001 => if x205000 = 1 then ((seal_Reader_Num.f k x200000 x200001 x205001).bind fun bt205 => ((credenzaref06_Number.f k x13).bind fun t208 => (credenzalaw06_SealReads.j5 k x8 x9 (bt205.1 == t208) x45 x46 x47 bt205.2.1 bt205.2.2))) else (if x205000 = 2 then ((seal_Reader_Signed.f k x200000 x200001).bind fun bt209 => ((credenzaref06_Signed.f k x13).bind fun t212 => (credenzalaw06_SealReads.j5 k x8 x9 (bt209.1 == t212) x45 x46 x47 bt209.2.1 bt209.2.2))) else ((seal_Reader_Take.f x200000 x200001 x205001).bind fun bt213 => (credenzalaw06_SealReads.j5 k x8 x9 ((strOfNums bt213.1).toList == x13.toList) x45 x46 x47 bt213.2.1 bt213.2.2)))
def credenzalaw06_SealReads.j5 : Nat → ByteArray → Bool → Bool → List (S67) → Int → Int → List Int → Bool → Option (Bool)
  | 0, _, _, _, _, _, _, _, _ => none
  | k + 1, x8, x9, x14, x45, x46, x47, x200000, x200001 => if x14 = true then ((seal_Reader_Left.f x200000 x200001).bind fun bt218 => (if bt218.1 = (x8.size : Int) then ((seal_Reader_Short.f bt218.2.1 bt218.2.2).bind fun bt221 => (if (bt221.1 != x9) = true then (some false) else (credenzalaw06_SealReads.l1 k x8 x9 x45 x46 (wrap64 (x47 + 1)) bt221.2.1 bt221.2.2))) else (some false))) else (some false)
end
def credenzalaw06_SealReads.f (k : Nat) (l0 : List Int) (l1 : List (S67)) : Option (Bool) := if (l0.length : Int) > 200 then (credenzalaw06_SealReads.j0 k l0 l1 true) else (credenzalaw06_SealReads.j0 k l0 l1 (decide ((l1.length : Int) > 40)))
theorem credenzalaw06_SealReads.mono_l : ∀ k, (∀ y0 y1 y2, LeO (credenzalaw06_SealReads.j0 k y0 y1 y2) (credenzalaw06_SealReads.j0 (k + 1) y0 y1 y2)) ∧ (∀ y0 y1 y2 y3 y4 y5 y6, LeO (credenzalaw06_SealReads.l0 k y0 y1 y2 y3 y4 y5 y6) (credenzalaw06_SealReads.l0 (k + 1) y0 y1 y2 y3 y4 y5 y6)) ∧ (∀ y0 y1 y2 y3 y4 y5 y6, LeO (credenzalaw06_SealReads.l1 k y0 y1 y2 y3 y4 y5 y6) (credenzalaw06_SealReads.l1 (k + 1) y0 y1 y2 y3 y4 y5 y6)) ∧ (∀ y0 y1 y2 y3 y4 y5 y6 y7 y8 y9, LeO (credenzalaw06_SealReads.j3 k y0 y1 y2 y3 y4 y5 y6 y7 y8 y9) (credenzalaw06_SealReads.j3 (k + 1) y0 y1 y2 y3 y4 y5 y6 y7 y8 y9)) ∧ (∀ y0 y1 y2 y3 y4 y5 y6 y7 y8 y9, LeO (credenzalaw06_SealReads.j4 k y0 y1 y2 y3 y4 y5 y6 y7 y8 y9) (credenzalaw06_SealReads.j4 (k + 1) y0 y1 y2 y3 y4 y5 y6 y7 y8 y9)) ∧ (∀ y0 y1 y2 y3 y4 y5 y6 y7, LeO (credenzalaw06_SealReads.j5 k y0 y1 y2 y3 y4 y5 y6 y7) (credenzalaw06_SealReads.j5 (k + 1) y0 y1 y2 y3 y4 y5 y6 y7))
  | 0 => ⟨fun _ _ _ r h => by simp [credenzalaw06_SealReads.j0] at h, fun _ _ _ _ _ _ _ r h => by simp [credenzalaw06_SealReads.l0] at h, fun _ _ _ _ _ _ _ r h => by simp [credenzalaw06_SealReads.l1] at h, fun _ _ _ _ _ _ _ _ _ _ r h => by simp [credenzalaw06_SealReads.j3] at h, fun _ _ _ _ _ _ _ _ _ _ r h => by simp [credenzalaw06_SealReads.j4] at h, fun _ _ _ _ _ _ _ _ r h => by simp [credenzalaw06_SealReads.j5] at h⟩
  | k + 1 => by
    obtain ⟨ih0, ih1, ih2, ih3, ih4, ih5⟩ := credenzalaw06_SealReads.mono_l k
    refine ⟨?_, ?_, ?_, ?_, ?_, ?_⟩
    · intro y0 y1 y2
      unfold credenzalaw06_SealReads.j0
      repeat' first
      | (with_reducible exact ih0 _ _ _)
      | (with_reducible exact ih1 _ _ _ _ _ _ _)
      | (with_reducible exact ih2 _ _ _ _ _ _ _)
      | (with_reducible exact ih3 _ _ _ _ _ _ _ _ _ _)
      | (with_reducible exact ih4 _ _ _ _ _ _ _ _ _ _)
      | (with_reducible exact ih5 _ _ _ _ _ _ _ _)
      | (with_reducible exact credenzalaw06_awake.mono _)
      | (with_reducible exact credenzaref06_Number.mono _ _)
      | (with_reducible exact credenzaref06_Signed.mono _ _)
      | (with_reducible exact seal_Reader_Num.mono _ _ _ _)
      | (with_reducible exact seal_Reader_Signed.mono _ _ _)
      | (with_reducible exact LeO.refl _)
      | (with_reducible exact LeO.none _)
      | (with_reducible refine LeO.ite ?_ ?_)
      | (with_reducible refine LeO.bind ?_ (fun _ => ?_))
      | exact ih0 _ _ _
      | exact ih1 _ _ _ _ _ _ _
      | exact ih2 _ _ _ _ _ _ _
      | exact ih3 _ _ _ _ _ _ _ _ _ _
      | exact ih4 _ _ _ _ _ _ _ _ _ _
      | exact ih5 _ _ _ _ _ _ _ _
      | exact credenzalaw06_awake.mono _
      | exact credenzaref06_Number.mono _ _
      | exact credenzaref06_Signed.mono _ _
      | exact seal_Reader_Num.mono _ _ _ _
      | exact seal_Reader_Signed.mono _ _ _
      | exact LeO.none _
      | refine LeO.ite ?_ ?_
      | refine LeO.bind ?_ (fun _ => ?_)
    · intro y0 y1 y2 y3 y4 y5 y6
      unfold credenzalaw06_SealReads.l0
      repeat' first
      | (with_reducible exact ih0 _ _ _)
      | (with_reducible exact ih1 _ _ _ _ _ _ _)
      | (with_reducible exact ih2 _ _ _ _ _ _ _)
      | (with_reducible exact ih3 _ _ _ _ _ _ _ _ _ _)
      | (with_reducible exact ih4 _ _ _ _ _ _ _ _ _ _)
      | (with_reducible exact ih5 _ _ _ _ _ _ _ _)
      | (with_reducible exact credenzalaw06_awake.mono _)
      | (with_reducible exact credenzaref06_Number.mono _ _)
      | (with_reducible exact credenzaref06_Signed.mono _ _)
      | (with_reducible exact seal_Reader_Num.mono _ _ _ _)
      | (with_reducible exact seal_Reader_Signed.mono _ _ _)
      | (with_reducible exact LeO.refl _)
      | (with_reducible exact LeO.none _)
      | (with_reducible refine LeO.ite ?_ ?_)
      | (with_reducible refine LeO.bind ?_ (fun _ => ?_))
      | exact ih0 _ _ _
      | exact ih1 _ _ _ _ _ _ _
      | exact ih2 _ _ _ _ _ _ _
      | exact ih3 _ _ _ _ _ _ _ _ _ _
      | exact ih4 _ _ _ _ _ _ _ _ _ _
      | exact ih5 _ _ _ _ _ _ _ _
      | exact credenzalaw06_awake.mono _
      | exact credenzaref06_Number.mono _ _
      | exact credenzaref06_Signed.mono _ _
      | exact seal_Reader_Num.mono _ _ _ _
      | exact seal_Reader_Signed.mono _ _ _
      | exact LeO.none _
      | refine LeO.ite ?_ ?_
      | refine LeO.bind ?_ (fun _ => ?_)
    · intro y0 y1 y2 y3 y4 y5 y6
      unfold credenzalaw06_SealReads.l1
      repeat' first
      | (with_reducible exact ih0 _ _ _)
      | (with_reducible exact ih1 _ _ _ _ _ _ _)
      | (with_reducible exact ih2 _ _ _ _ _ _ _)
      | (with_reducible exact ih3 _ _ _ _ _ _ _ _ _ _)
      | (with_reducible exact ih4 _ _ _ _ _ _ _ _ _ _)
      | (with_reducible exact ih5 _ _ _ _ _ _ _ _)
      | (with_reducible exact credenzalaw06_awake.mono _)
      | (with_reducible exact credenzaref06_Number.mono _ _)
      | (with_reducible exact credenzaref06_Signed.mono _ _)
      | (with_reducible exact seal_Reader_Num.mono _ _ _ _)
      | (with_reducible exact seal_Reader_Signed.mono _ _ _)
      | (with_reducible exact LeO.refl _)
      | (with_reducible exact LeO.none _)
      | (with_reducible refine LeO.ite ?_ ?_)
      | (with_reducible refine LeO.bind ?_ (fun _ => ?_))
      | exact ih0 _ _ _
      | exact ih1 _ _ _ _ _ _ _
      | exact ih2 _ _ _ _ _ _ _
      | exact ih3 _ _ _ _ _ _ _ _ _ _
      | exact ih4 _ _ _ _ _ _ _ _ _ _
      | exact ih5 _ _ _ _ _ _ _ _
      | exact credenzalaw06_awake.mono _
      | exact credenzaref06_Number.mono _ _
      | exact credenzaref06_Signed.mono _ _
      | exact seal_Reader_Num.mono _ _ _ _
      | exact seal_Reader_Signed.mono _ _ _
      | exact LeO.none _
      | refine LeO.ite ?_ ?_
      | refine LeO.bind ?_ (fun _ => ?_)
    · intro y0 y1 y2 y3 y4 y5 y6 y7 y8 y9
      unfold credenzalaw06_SealReads.j3
      repeat' first
      | (with_reducible exact ih0 _ _ _)
      | (with_reducible exact ih1 _ _ _ _ _ _ _)
      | (with_reducible exact ih2 _ _ _ _ _ _ _)
      | (with_reducible exact ih3 _ _ _ _ _ _ _ _ _ _)
      | (with_reducible exact ih4 _ _ _ _ _ _ _ _ _ _)
      | (with_reducible exact ih5 _ _ _ _ _ _ _ _)
      | (with_reducible exact credenzalaw06_awake.mono _)
      | (with_reducible exact credenzaref06_Number.mono _ _)
      | (with_reducible exact credenzaref06_Signed.mono _ _)
      | (with_reducible exact seal_Reader_Num.mono _ _ _ _)
      | (with_reducible exact seal_Reader_Signed.mono _ _ _)
      | (with_reducible exact LeO.refl _)
      | (with_reducible exact LeO.none _)
      | (with_reducible refine LeO.ite ?_ ?_)
      | (with_reducible refine LeO.bind ?_ (fun _ => ?_))
      | exact ih0 _ _ _
      | exact ih1 _ _ _ _ _ _ _
      | exact ih2 _ _ _ _ _ _ _
      | exact ih3 _ _ _ _ _ _ _ _ _ _
      | exact ih4 _ _ _ _ _ _ _ _ _ _
      | exact ih5 _ _ _ _ _ _ _ _
      | exact credenzalaw06_awake.mono _
      | exact credenzaref06_Number.mono _ _
      | exact credenzaref06_Signed.mono _ _
      | exact seal_Reader_Num.mono _ _ _ _
      | exact seal_Reader_Signed.mono _ _ _
      | exact LeO.none _
      | refine LeO.ite ?_ ?_
      | refine LeO.bind ?_ (fun _ => ?_)
    · intro y0 y1 y2 y3 y4 y5 y6 y7 y8 y9
      unfold credenzalaw06_SealReads.j4
      repeat' first
      | (with_reducible exact ih0 _ _ _)
      | (with_reducible exact ih1 _ _ _ _ _ _ _)
      | (with_reducible exact ih2 _ _ _ _ _ _ _)
      | (with_reducible exact ih3 _ _ _ _ _ _ _ _ _ _)
      | (with_reducible exact ih4 _ _ _ _ _ _ _ _ _ _)
      | (with_reducible exact ih5 _ _ _ _ _ _ _ _)
      | (with_reducible exact credenzalaw06_awake.mono _)
      | (with_reducible exact credenzaref06_Number.mono _ _)
      | (with_reducible exact credenzaref06_Signed.mono _ _)
      | (with_reducible exact seal_Reader_Num.mono _ _ _ _)
      | (with_reducible exact seal_Reader_Signed.mono _ _ _)
      | (with_reducible exact LeO.refl _)
      | (with_reducible exact LeO.none _)
      | (with_reducible refine LeO.ite ?_ ?_)
      | (with_reducible refine LeO.bind ?_ (fun _ => ?_))
      | exact ih0 _ _ _
      | exact ih1 _ _ _ _ _ _ _
      | exact ih2 _ _ _ _ _ _ _
      | exact ih3 _ _ _ _ _ _ _ _ _ _
      | exact ih4 _ _ _ _ _ _ _ _ _ _
      | exact ih5 _ _ _ _ _ _ _ _
      | exact credenzalaw06_awake.mono _
      | exact credenzaref06_Number.mono _ _
      | exact credenzaref06_Signed.mono _ _
      | exact seal_Reader_Num.mono _ _ _ _
      | exact seal_Reader_Signed.mono _ _ _
      | exact LeO.none _
      | refine LeO.ite ?_ ?_
      | refine LeO.bind ?_ (fun _ => ?_)
    · intro y0 y1 y2 y3 y4 y5 y6 y7
      unfold credenzalaw06_SealReads.j5
      repeat' first
      | (with_reducible exact ih0 _ _ _)
      | (with_reducible exact ih1 _ _ _ _ _ _ _)
      | (with_reducible exact ih2 _ _ _ _ _ _ _)
      | (with_reducible exact ih3 _ _ _ _ _ _ _ _ _ _)
      | (with_reducible exact ih4 _ _ _ _ _ _ _ _ _ _)
      | (with_reducible exact ih5 _ _ _ _ _ _ _ _)
      | (with_reducible exact credenzalaw06_awake.mono _)
      | (with_reducible exact credenzaref06_Number.mono _ _)
      | (with_reducible exact credenzaref06_Signed.mono _ _)
      | (with_reducible exact seal_Reader_Num.mono _ _ _ _)
      | (with_reducible exact seal_Reader_Signed.mono _ _ _)
      | (with_reducible exact LeO.refl _)
      | (with_reducible exact LeO.none _)
      | (with_reducible refine LeO.ite ?_ ?_)
      | (with_reducible refine LeO.bind ?_ (fun _ => ?_))
      | exact ih0 _ _ _
      | exact ih1 _ _ _ _ _ _ _
      | exact ih2 _ _ _ _ _ _ _
      | exact ih3 _ _ _ _ _ _ _ _ _ _
      | exact ih4 _ _ _ _ _ _ _ _ _ _
      | exact ih5 _ _ _ _ _ _ _ _
      | exact credenzalaw06_awake.mono _
      | exact credenzaref06_Number.mono _ _
      | exact credenzaref06_Signed.mono _ _
      | exact seal_Reader_Num.mono _ _ _ _
      | exact seal_Reader_Signed.mono _ _ _
      | exact LeO.none _
      | refine LeO.ite ?_ ?_
      | refine LeO.bind ?_ (fun _ => ?_)
theorem credenzalaw06_SealReads.mono : ∀ a0 a1 k, LeO (credenzalaw06_SealReads.f k a0 a1) (credenzalaw06_SealReads.f (k + 1) a0 a1) := by
  intro a0 a1 k
  obtain ⟨ih0, ih1, ih2, ih3, ih4, ih5⟩ := credenzalaw06_SealReads.mono_l k
  unfold credenzalaw06_SealReads.f
  repeat' first
      | (with_reducible exact ih0 _ _ _)
      | (with_reducible exact ih1 _ _ _ _ _ _ _)
      | (with_reducible exact ih2 _ _ _ _ _ _ _)
      | (with_reducible exact ih3 _ _ _ _ _ _ _ _ _ _)
      | (with_reducible exact ih4 _ _ _ _ _ _ _ _ _ _)
      | (with_reducible exact ih5 _ _ _ _ _ _ _ _)
      | (with_reducible exact credenzalaw06_awake.mono _)
      | (with_reducible exact credenzaref06_Number.mono _ _)
      | (with_reducible exact credenzaref06_Signed.mono _ _)
      | (with_reducible exact seal_Reader_Num.mono _ _ _ _)
      | (with_reducible exact seal_Reader_Signed.mono _ _ _)
      | (with_reducible exact LeO.refl _)
      | (with_reducible exact LeO.none _)
      | (with_reducible refine LeO.ite ?_ ?_)
      | (with_reducible refine LeO.bind ?_ (fun _ => ?_))
      | exact ih0 _ _ _
      | exact ih1 _ _ _ _ _ _ _
      | exact ih2 _ _ _ _ _ _ _
      | exact ih3 _ _ _ _ _ _ _ _ _ _
      | exact ih4 _ _ _ _ _ _ _ _ _ _
      | exact ih5 _ _ _ _ _ _ _ _
      | exact credenzalaw06_awake.mono _
      | exact credenzaref06_Number.mono _ _
      | exact credenzaref06_Signed.mono _ _
      | exact seal_Reader_Num.mono _ _ _ _
      | exact seal_Reader_Signed.mono _ _ _
      | exact LeO.none _
      | refine LeO.ite ?_ ?_
      | refine LeO.bind ?_ (fun _ => ?_)
set_option maxHeartbeats 8000000 in
set_option maxRecDepth 100000 in
theorem credenzalaw06_SealReads.calls (k : Nat) (A0 : Option Addr) (c0 : Nat) (l0 : List Int) (A1 : Option Addr) (c1 : Nat) (l1 : List (S67)) (r : Bool) (w : World) (hr0 : Kd.C (Kd.int .u8) w A0 l0.length l0) (hc0 : l0.length ≤ c0) (hr1 : Kd.C k67 w A1 l1.length l1) (hc1 : l1.length ≤ c1) (h : credenzalaw06_SealReads.f k l0 l1 = some r) :
    Calls Try.prog 12 #[.slice A0 l0.length c0, .slice A1 l1.length c1] w fun e w' => e = .returned (.bool r) ∧ Below w.heap.size w w' := by
  have hu67 := Try.underlying67
  have HR0 := Aside0.mk hr0
  have HC0 := Aside0.mk hc0
  clear hr0 hc0
  have HR1 := Aside0.mk hr1
  have HC1 := Aside0.mk hc1
  clear hr1 hc1
  have HB := Aside0.mk (Below.refl w.heap.size w)
  have H : (if (l0.length : Int) > 200 then (credenzalaw06_SealReads.j0 k l0 l1 true) else (credenzalaw06_SealReads.j0 k l0 l1 (decide ((l1.length : Int) > 40)))) = some r := h
  clear h
  have HC3 := Aside0.mk H
  clear H
  go_enter Try.func12, Try.ntmps12
  go_upto_region 1 with (fail)
  repeat (go_quiet (fail); go_upto_region 1 with (fail))
  go_cut [22] (fun v22 wc => ∃ (kq : Nat) (x22_2 : Bool), v22 = .bool x22_2 ∧ Aside0 (credenzalaw06_SealReads.j0 kq l0 l1 x22_2 = some r) ∧ Aside0 (kq ≤ k) ∧ Aside0 (Below w.heap.size w wc))
  case first =>
    have H := HC3.out
    clear HC3
    by_cases c4 : (l0.length : Int) > 200
    · rw [if_pos c4] at H
      have c4b0 : decide (200 < (l0.length : Int)) = true := decide_eq_true c4
      have c4b1 : decide (200 < l0.length) = true := decide_eq_true (by omega)
      clear c4
      (first | rw [c4b0] | (simp only [i64_w, i32_w]; rw [c4b0]) | skip)
      have H' := Aside0.mk H
      clear H
      go_wp2
      repeat (go_quiet (fail); try go_wp2)
      go_meet
      case rel => exact ⟨_, (true), (by first | rfl | (simp; done) | (simp [*]; done)), H', ⟨by first | omega | exact Nat.le_refl _⟩, ⟨by repeat (first | (with_reducible first | exact HB.out | apply below_alloc | apply pw_below_drewN | apply below_drew1) | exact HB.out)⟩⟩
    · rw [if_neg c4] at H
      have c4b0 : decide (200 < (l0.length : Int)) = false := decide_eq_false c4
      have c4b1 : decide (200 < l0.length) = false := decide_eq_false (by omega)
      clear c4
      (first | rw [c4b0] | (simp only [i64_w, i32_w]; rw [c4b0]) | skip)
      have H' := Aside0.mk H
      clear H
      go_wp2
      repeat (go_quiet (fail); try go_wp2)
      go_meet
      case rel => exact ⟨_, (decide ((l1.length : Int) > 40)), (by first | rfl | (simp; done) | (simp [*]; done)), H', ⟨by first | omega | exact Nat.le_refl _⟩, ⟨by repeat (first | (with_reducible first | exact HB.out | apply below_alloc | apply pw_below_drewN | apply below_drew1) | exact HB.out)⟩⟩
  case rest =>
    clear HC3
    try clear c1
    try clear p2
    try clear c4
    try clear c4b0
    try clear c4b1
    obtain ⟨kq, x22_2, rfl, HA, HJ2, HB⟩ := hcut
    cases kq with
    | zero => exact absurd HA.out (by simp [credenzalaw06_SealReads.j0])
    | succ kj2 =>
      have H := HA.out
      clear HA
      simp only [credenzalaw06_SealReads.j0] at H
      by_cases c5 : x22_2 = true
      · subst c5
        have H1 : ((credenzalaw06_awake.f kj2).bind fun t190 => (some t190)) = some r := by rw [if_pos rfl] at H; exact H
        clear H
        have H := H1
        clear H1
        replace H := Option.bind_eq_some_iff.mp H
        obtain ⟨t190, A60, H⟩ := H
        replace H : (some t190) = some r := H
        have A6 := Aside0.mk A60
        clear A60
        obtain rfl := Option.some.inj H
        go_wp2_with (first | (go_at_call 27; (with_reducible refine (credenzalaw06_awake.calls kj2  t190 _ A6.out).mono ?_); rintro e w7 ⟨rfl, hb⟩; have n0_ := Aside0.mk (below_step (by repeat (first | (with_reducible first | exact HB.out | apply below_alloc | apply pw_below_drewN | apply below_drew1) | exact HB.out)) hb); clear HB; have HB := n0_; clear n0_; (try clear hb); (try clear hb2); (try clear hk); (try clear hi)))
        repeat (go_quiet (first | (go_at_call 27; (with_reducible refine (credenzalaw06_awake.calls kj2  t190 _ A6.out).mono ?_); rintro e w7 ⟨rfl, hb⟩; have n0_ := Aside0.mk (below_step (by repeat (first | (with_reducible first | exact HB.out | apply below_alloc | apply pw_below_drewN | apply below_drew1) | exact HB.out)) hb); clear HB; have HB := n0_; clear n0_; (try clear hb); (try clear hb2); (try clear hk); (try clear hi))); try go_wp2_with (first | (go_at_call 27; (with_reducible refine (credenzalaw06_awake.calls kj2  t190 _ A6.out).mono ?_); rintro e w7 ⟨rfl, hb⟩; have n0_ := Aside0.mk (below_step (by repeat (first | (with_reducible first | exact HB.out | apply below_alloc | apply pw_below_drewN | apply below_drew1) | exact HB.out)) hb); clear HB; have HB := n0_; clear n0_; (try clear hb); (try clear hb2); (try clear hk); (try clear hi))))
        go_ret
        exact ⟨by first | rfl | (simp [errW_none, errW_some] <;> rfl) | (simp [*, errW_none, errW_some] <;> rfl), by repeat (first | (with_reducible first | exact HB.out | apply below_alloc | apply pw_below_drewN | apply below_drew1) | exact HB.out)⟩
      · replace c5 := Bool.eq_false_iff.mpr c5
        subst c5
        have H1 : ((some (([] : List Int) : List Int)).bind fun y191 => (if y191.length + l0.length < 140737488355328 then ((some (y191 ++ l0 : List Int)).bind fun y194 => ((seal_NewReader.f y194).bind fun bt197 => (credenzalaw06_SealReads.l0 kj2 l0 l1 y194 (y194.length : Int) 0 bt197.1 bt197.2))) else (none))) = some r := by rw [if_neg (show ¬ (false = true) by decide)] at H; exact H
        clear H
        have H := H1
        clear H1
        obtain ⟨y191, hy191⟩ : ∃ y_ : List Int, y_ = (([] : List Int)) := ⟨_, rfl⟩
        replace H : (if y191.length + l0.length < 140737488355328 then ((some (y191 ++ l0 : List Int)).bind fun y194 => ((seal_NewReader.f y194).bind fun bt197 => (credenzalaw06_SealReads.l0 kj2 l0 l1 y194 (y194.length : Int) 0 bt197.1 bt197.2))) else (none)) = some r := by first | (rw [hy191]; with_reducible exact H) | (have H2_ := (Option.bind_some _ _).symm.trans H; rw [hy191]; with_reducible exact H2_) | (have H2_ := (Option.bind_some _ _).symm.trans H; with_reducible exact H2_) | with_reducible exact H | (rw [hy191]; exact H) | exact H
        have Ny191 := Aside0.mk hy191
        clear hy191
        by_cases c8 : y191.length + l0.length < 140737488355328
        · rw [if_pos c8] at H
          have LMc8 := Aside0.mk c8
          clear c8
          obtain ⟨y194, hy194⟩ : ∃ y_ : List Int, y_ = (y191 ++ l0) := ⟨_, rfl⟩
          replace H : ((seal_NewReader.f y194).bind fun bt197 => (credenzalaw06_SealReads.l0 kj2 l0 l1 y194 (y194.length : Int) 0 bt197.1 bt197.2)) = some r := by first | (rw [hy194]; with_reducible exact H) | (have H2_ := (Option.bind_some _ _).symm.trans H; rw [hy194]; with_reducible exact H2_) | (have H2_ := (Option.bind_some _ _).symm.trans H; with_reducible exact H2_) | with_reducible exact H | (rw [hy194]; exact H) | exact H
          have Ny194 := Aside0.mk hy194
          clear hy194
          replace H := Option.bind_eq_some_iff.mp H
          obtain ⟨⟨t197, t198⟩, A90, H⟩ := H
          replace H : (credenzalaw06_SealReads.l0 kj2 l0 l1 y194 (y194.length : Int) 0 t197 t198) = some r := H
          have A9 := Aside0.mk A90
          clear A90
          have H' := Aside0.mk H
          clear H
          go_wp2_with (first | ((with_reducible refine gate_dst (N := 24) rfl ?_); (try (refine gate_guard (by rfl) ?_; dsimp only)); refine Kd.R_lit (Kd.int .u8) _ 5 ?hg (N := 24) ?hd (xs := ([] : List Int)) (inner := []) (ok := fun _ => True) (okp := fun _ => True) ?hr ?hp (fun _ hk => hk) trivial (Below.refl _ _) (Nat.le_refl _) (by simp) ?_; (case hd => rfl); (case hg => rfl); (case hr => first | (go_simp; done) | (go_simp; rfl)); (case hp => exact (Reps.none _ _)); intro v192 w10 ho11 hb hg_ hnew_; clear hg_ hnew_; (first | rw [← Ny191.out] at ho11 | (simp only [Int.reduceToNat] at ho11; rw [← Ny191.out] at ho11)); have n0_ := Aside0.mk (Kd.R_lower ho11 (below_size (by repeat (first | (with_reducible first | exact HB.out | apply below_alloc | apply pw_below_drewN | apply below_drew1) | exact HB.out)))); have n1_ := Aside0.mk (below_step (by repeat (first | (with_reducible first | exact HB.out | apply below_alloc | apply pw_below_drewN | apply below_drew1) | exact HB.out)) hb); clear HB; have HO193 := n0_; have HB := n1_; clear n0_ n1_; clear hb ho11) | ((with_reducible refine gate_builtin (b := .append) (xs := #[.tmp 24, .tmp 25]) rfl ?_); (try (refine gate_guard (by rfl) ?_; dsimp only)); at_builtin; refine Kd.R_append_rows (Kd.int .u8) (w0 := w) w.heap.size rfl (.tmp 24) (.tmp 25) 41 5 (.int .u8 0) 1 rfl Try.underlying41 info5 rfl (by decide) (by omega) v192 y191 l0 _ _ _ (fun _ => True) (fun _ => False) rfl rfl ?aO ?aR (fun _ _ h => h) (fun _ h => h.elim) ?aF ?aB ?aS ?aL ?_; (case aR => repeat (first | exact (Kd.C_below HR0.out HB.out) | (with_reducible refine Kd.C_alloc ?_ _) | (with_reducible refine Kd.C_drewN ?_ _) | (with_reducible refine Kd.C_drew ?_))); (case aB => exact (by repeat (first | (with_reducible first | exact HB.out | apply below_alloc | apply pw_below_drewN | apply below_drew1) | exact HB.out))); (case aF => exact (fun _ _ => trivial)); (case aO => exact (by (with_reducible repeat (first | apply Kd.R_alloc | apply Kd.R_drewN | apply Kd.R_drew)); exact HO193.out)); (case aS => exact (below_size (by repeat (first | (with_reducible first | exact HB.out | apply below_alloc | apply pw_below_drewN | apply below_drew1) | exact HB.out)))); (case aL => have := LMc8.out; omega); intro v195 w12 ho hb hg hat; rw [← Ny194.out] at ho; have n0_ := Aside0.mk (hb); have n1_ := Aside0.mk (ho); clear HB; clear HO193; have HB := n0_; have HO196 := n1_; clear n0_ n1_; clear ho hb hg hat; obtain ⟨Ao13, co13, eo13⟩ := Kd.R_slice HO196.out; subst eo13) | (go_at_call 36; (with_reducible refine (seal_NewReader.calls _ _ y194 t197 t198 w12 w12 (Below.refl _ _) ?side2 ?side3 A9.out).mono ?_); (case side2 => repeat (first | exact (Kd.R_reads' HO196.out).2.2 | (with_reducible refine Kd.C_alloc ?_ _) | (with_reducible refine Kd.C_drewN ?_ _) | (with_reducible refine Kd.C_drew ?_))); (case side3 => exact (Kd.R_reads' HO196.out).2.1); rintro e w14 ⟨g199, rfl, hi, hb, hb2⟩; have n0_ := Aside0.mk (Kd.R_below (by (with_reducible repeat (first | apply Kd.R_alloc | apply Kd.R_drewN | apply Kd.R_drew)); exact HO196.out) hb2); have n1_ := Aside0.mk (below_step HB.out hb2); have n2_ := Aside0.mk (hi); have HLO := Aside0.mk (below_size HB.out); have HLT := Aside0.mk (Kd.R_lt HO196.out); clear HO196; clear HB; have HO196 := n0_; have HB := n1_; have HI199 := n2_; clear n0_ n1_ n2_; (try clear hb); (try clear hb2); (try clear hk); (try clear hi)))
          repeat (go_quiet (first | ((with_reducible refine gate_dst (N := 24) rfl ?_); (try (refine gate_guard (by rfl) ?_; dsimp only)); refine Kd.R_lit (Kd.int .u8) _ 5 ?hg (N := 24) ?hd (xs := ([] : List Int)) (inner := []) (ok := fun _ => True) (okp := fun _ => True) ?hr ?hp (fun _ hk => hk) trivial (Below.refl _ _) (Nat.le_refl _) (by simp) ?_; (case hd => rfl); (case hg => rfl); (case hr => first | (go_simp; done) | (go_simp; rfl)); (case hp => exact (Reps.none _ _)); intro v192 w10 ho11 hb hg_ hnew_; clear hg_ hnew_; (first | rw [← Ny191.out] at ho11 | (simp only [Int.reduceToNat] at ho11; rw [← Ny191.out] at ho11)); have n0_ := Aside0.mk (Kd.R_lower ho11 (below_size (by repeat (first | (with_reducible first | exact HB.out | apply below_alloc | apply pw_below_drewN | apply below_drew1) | exact HB.out)))); have n1_ := Aside0.mk (below_step (by repeat (first | (with_reducible first | exact HB.out | apply below_alloc | apply pw_below_drewN | apply below_drew1) | exact HB.out)) hb); clear HB; have HO193 := n0_; have HB := n1_; clear n0_ n1_; clear hb ho11) | ((with_reducible refine gate_builtin (b := .append) (xs := #[.tmp 24, .tmp 25]) rfl ?_); (try (refine gate_guard (by rfl) ?_; dsimp only)); at_builtin; refine Kd.R_append_rows (Kd.int .u8) (w0 := w) w.heap.size rfl (.tmp 24) (.tmp 25) 41 5 (.int .u8 0) 1 rfl Try.underlying41 info5 rfl (by decide) (by omega) v192 y191 l0 _ _ _ (fun _ => True) (fun _ => False) rfl rfl ?aO ?aR (fun _ _ h => h) (fun _ h => h.elim) ?aF ?aB ?aS ?aL ?_; (case aR => repeat (first | exact (Kd.C_below HR0.out HB.out) | (with_reducible refine Kd.C_alloc ?_ _) | (with_reducible refine Kd.C_drewN ?_ _) | (with_reducible refine Kd.C_drew ?_))); (case aB => exact (by repeat (first | (with_reducible first | exact HB.out | apply below_alloc | apply pw_below_drewN | apply below_drew1) | exact HB.out))); (case aF => exact (fun _ _ => trivial)); (case aO => exact (by (with_reducible repeat (first | apply Kd.R_alloc | apply Kd.R_drewN | apply Kd.R_drew)); exact HO193.out)); (case aS => exact (below_size (by repeat (first | (with_reducible first | exact HB.out | apply below_alloc | apply pw_below_drewN | apply below_drew1) | exact HB.out)))); (case aL => have := LMc8.out; omega); intro v195 w12 ho hb hg hat; rw [← Ny194.out] at ho; have n0_ := Aside0.mk (hb); have n1_ := Aside0.mk (ho); clear HB; clear HO193; have HB := n0_; have HO196 := n1_; clear n0_ n1_; clear ho hb hg hat; obtain ⟨Ao13, co13, eo13⟩ := Kd.R_slice HO196.out; subst eo13) | (go_at_call 36; (with_reducible refine (seal_NewReader.calls _ _ y194 t197 t198 w12 w12 (Below.refl _ _) ?side2 ?side3 A9.out).mono ?_); (case side2 => repeat (first | exact (Kd.R_reads' HO196.out).2.2 | (with_reducible refine Kd.C_alloc ?_ _) | (with_reducible refine Kd.C_drewN ?_ _) | (with_reducible refine Kd.C_drew ?_))); (case side3 => exact (Kd.R_reads' HO196.out).2.1); rintro e w14 ⟨g199, rfl, hi, hb, hb2⟩; have n0_ := Aside0.mk (Kd.R_below (by (with_reducible repeat (first | apply Kd.R_alloc | apply Kd.R_drewN | apply Kd.R_drew)); exact HO196.out) hb2); have n1_ := Aside0.mk (below_step HB.out hb2); have n2_ := Aside0.mk (hi); have HLO := Aside0.mk (below_size HB.out); have HLT := Aside0.mk (Kd.R_lt HO196.out); clear HO196; clear HB; have HO196 := n0_; have HB := n1_; have HI199 := n2_; clear n0_ n1_ n2_; (try clear hb); (try clear hb2); (try clear hk); (try clear hi))); try go_wp2_with (first | ((with_reducible refine gate_dst (N := 24) rfl ?_); (try (refine gate_guard (by rfl) ?_; dsimp only)); refine Kd.R_lit (Kd.int .u8) _ 5 ?hg (N := 24) ?hd (xs := ([] : List Int)) (inner := []) (ok := fun _ => True) (okp := fun _ => True) ?hr ?hp (fun _ hk => hk) trivial (Below.refl _ _) (Nat.le_refl _) (by simp) ?_; (case hd => rfl); (case hg => rfl); (case hr => first | (go_simp; done) | (go_simp; rfl)); (case hp => exact (Reps.none _ _)); intro v192 w10 ho11 hb hg_ hnew_; clear hg_ hnew_; (first | rw [← Ny191.out] at ho11 | (simp only [Int.reduceToNat] at ho11; rw [← Ny191.out] at ho11)); have n0_ := Aside0.mk (Kd.R_lower ho11 (below_size (by repeat (first | (with_reducible first | exact HB.out | apply below_alloc | apply pw_below_drewN | apply below_drew1) | exact HB.out)))); have n1_ := Aside0.mk (below_step (by repeat (first | (with_reducible first | exact HB.out | apply below_alloc | apply pw_below_drewN | apply below_drew1) | exact HB.out)) hb); clear HB; have HO193 := n0_; have HB := n1_; clear n0_ n1_; clear hb ho11) | ((with_reducible refine gate_builtin (b := .append) (xs := #[.tmp 24, .tmp 25]) rfl ?_); (try (refine gate_guard (by rfl) ?_; dsimp only)); at_builtin; refine Kd.R_append_rows (Kd.int .u8) (w0 := w) w.heap.size rfl (.tmp 24) (.tmp 25) 41 5 (.int .u8 0) 1 rfl Try.underlying41 info5 rfl (by decide) (by omega) v192 y191 l0 _ _ _ (fun _ => True) (fun _ => False) rfl rfl ?aO ?aR (fun _ _ h => h) (fun _ h => h.elim) ?aF ?aB ?aS ?aL ?_; (case aR => repeat (first | exact (Kd.C_below HR0.out HB.out) | (with_reducible refine Kd.C_alloc ?_ _) | (with_reducible refine Kd.C_drewN ?_ _) | (with_reducible refine Kd.C_drew ?_))); (case aB => exact (by repeat (first | (with_reducible first | exact HB.out | apply below_alloc | apply pw_below_drewN | apply below_drew1) | exact HB.out))); (case aF => exact (fun _ _ => trivial)); (case aO => exact (by (with_reducible repeat (first | apply Kd.R_alloc | apply Kd.R_drewN | apply Kd.R_drew)); exact HO193.out)); (case aS => exact (below_size (by repeat (first | (with_reducible first | exact HB.out | apply below_alloc | apply pw_below_drewN | apply below_drew1) | exact HB.out)))); (case aL => have := LMc8.out; omega); intro v195 w12 ho hb hg hat; rw [← Ny194.out] at ho; have n0_ := Aside0.mk (hb); have n1_ := Aside0.mk (ho); clear HB; clear HO193; have HB := n0_; have HO196 := n1_; clear n0_ n1_; clear ho hb hg hat; obtain ⟨Ao13, co13, eo13⟩ := Kd.R_slice HO196.out; subst eo13) | (go_at_call 36; (with_reducible refine (seal_NewReader.calls _ _ y194 t197 t198 w12 w12 (Below.refl _ _) ?side2 ?side3 A9.out).mono ?_); (case side2 => repeat (first | exact (Kd.R_reads' HO196.out).2.2 | (with_reducible refine Kd.C_alloc ?_ _) | (with_reducible refine Kd.C_drewN ?_ _) | (with_reducible refine Kd.C_drew ?_))); (case side3 => exact (Kd.R_reads' HO196.out).2.1); rintro e w14 ⟨g199, rfl, hi, hb, hb2⟩; have n0_ := Aside0.mk (Kd.R_below (by (with_reducible repeat (first | apply Kd.R_alloc | apply Kd.R_drewN | apply Kd.R_drew)); exact HO196.out) hb2); have n1_ := Aside0.mk (below_step HB.out hb2); have n2_ := Aside0.mk (hi); have HLO := Aside0.mk (below_size HB.out); have HLT := Aside0.mk (Kd.R_lt HO196.out); clear HO196; clear HB; have HO196 := n0_; have HB := n1_; have HI199 := n2_; clear n0_ n1_ n2_; (try clear hb); (try clear hb2); (try clear hk); (try clear hi))))
          go_loopg [33] kj2 (fun kq v33 w' => ∃ (x5_2 : List Int) (x33_2 : Int), v33 = .int .i64 x33_2 ∧ Aside0 (credenzalaw06_SealReads.l0 kq l0 l1 x5_2 (y194.length : Int) x33_2 t197 t198 = some r) ∧ Aside0 (kq ≤ kj2) ∧ Aside0 (Kd.R (Kd.int .u8) 5 w' w.heap.size (fun _ => True) (.slice Ao13 y194.length co13) x5_2) ∧ Aside0 (IsS75 w12 w' g199 t197 t198) ∧ Aside0 (Below w.heap.size w w'))
          case atStart => exact ⟨(y194), (0), (by first | rfl | (simp; done) | (simp [*]; done)), H', ⟨Nat.le_refl _⟩, ⟨by (with_reducible repeat (first | apply Kd.R_alloc | apply Kd.R_drewN | apply Kd.R_drew)); exact HO196.out⟩, ⟨by repeat (first | (with_reducible first | exact HI199.out | apply IsS75.alloc | apply IsS75.drewN | apply IsS75.drew | apply IsS75.set_1) | exact HI199.out)⟩, ⟨by repeat (first | (with_reducible first | exact HB.out | apply below_alloc | apply pw_below_drewN | apply below_drew1 | refine below_set ?_ (IsS75.ge HI199.out)) | exact HB.out)⟩⟩
          case round =>
            clear H'
            try clear c1
            try clear p2
            try clear c4
            try clear c4b0
            try clear c4b1
            try clear c5
            try clear c8
            try clear c12
            try clear p2
            obtain ⟨x5_2, x33_2, rfl, HA, HK2, HO_5, HI199, HB⟩ := hrel
            have hl5_2 := (Kd.R_reads' HO_5.out).1
            rw [hl5_2] at HO_5
            (try simp only [hl5_2])
            cases gk with
            | zero => exact absurd HA.out (by simp [credenzalaw06_SealReads.l0])
            | succ k2 =>
              have H := HA.out
              clear HA
              simp only [credenzalaw06_SealReads.l0] at H
              by_cases c15 : x33_2 < (y194.length : Int)
              · rw [if_pos c15] at H
                have c15b0 : decide (x33_2 < (y194.length : Int)) = true := decide_eq_true c15
                (try simp only [hl5_2] at c15b0)
                clear c15
                by_cases c16 : 0 ≤ x33_2
                · rw [if_pos c16] at H
                  have c16b0 : decide (0 ≤ x33_2) = true := decide_eq_true c16
                  clear c16
                  by_cases c17 : x33_2 < (x5_2.length : Int)
                  · rw [if_pos c17] at H
                    have c17b0 : decide (x33_2 < (x5_2.length : Int)) = true := decide_eq_true c17
                    (try simp only [hl5_2] at c17b0)
                    clear c17
                    obtain ⟨y201, hy201⟩ : ∃ y_ : List Int, y_ = (x5_2.set (x33_2 : Int).toNat (((rd x5_2 x33_2) + 1) % 256)) := ⟨_, rfl⟩
                    replace H : (credenzalaw06_SealReads.l0 k2 l0 l1 y201 (y194.length : Int) (wrap64 (x33_2 + 1)) t197 t198) = some r := by first | (rw [hy201]; with_reducible exact H) | (have H2_ := (Option.bind_some _ _).symm.trans H; rw [hy201]; with_reducible exact H2_) | (have H2_ := (Option.bind_some _ _).symm.trans H; with_reducible exact H2_) | with_reducible exact H | (rw [hy201]; exact H) | exact H
                    have Ny201 := Aside0.mk hy201
                    clear hy201
                    have H' := Aside0.mk H
                    clear H
                    have p200 : 0 ≤ (x33_2 : Int) := of_decide_eq_true (by first | (with_reducible assumption) | assumption)
                    have q200 : x33_2 < (x5_2.length : Int) := of_decide_eq_true (by first | (with_reducible assumption) | assumption)
                    obtain ⟨ad200, e200, hx200_0⟩ := Kd.at_int (Kd.R_reads' HO_5.out).2.2 x33_2 p200 q200
                    cases e200
                    replace p200 := eq_true p200
                    replace q200 := eq_true q200
                    have p18 : 0 ≤ (x33_2 : Int) := of_decide_eq_true (by first | (with_reducible assumption) | assumption)
                    have q18 : (x33_2 : Int) < ((x5_2.length : Int) : Int) := of_decide_eq_true (by first | (with_reducible assumption) | assumption)
                    obtain ⟨go18, co18, eo18, gb18, gl18, cl18, HG18⟩ := Kd.R_form HO_5.out (by omega)
                    (first | cases eo18 | (injection eo18 with ea_ en_ ec_; (first | subst ea_ | (injection ea_ with ea_; subst ea_)); subst ec_; clear en_))
                    have GB18 := Aside0.mk gb18
                    have GG18 := Aside0.mk HG18
                    clear gb18 gl18 HG18
                    (first | simp only [add_plain] at hx200_0 | skip)
                    obtain ⟨hx18_0, hf18_0⟩ := Kd.R_celln 0 HO_5.out (x33_2 : Int) p18 q18
                    replace p18 := eq_true p18
                    replace q18 := eq_true q18
                    have HP19 := Kd.R_putg HO_5.out (x33_2 : Int) (((rd x5_2 x33_2) + 1) % 256)
                    go_wp2_with (first | ((with_reducible refine gate_store (t := 5) (p := 41) rfl ?_); (try (rw [drewN_self wr]; generalize hq_ : World.drewN wr _ = wr; have n0_ := Aside0.mk (Kd.R_at hq_ HO_5.out); have n1_ := Aside0.mk (IsS75.at_ hq_ HI199.out); have n2_ := Aside0.mk (below_at hq_ HB.out); clear hq_ HO_5 HI199 HB; have HO_5 := n0_; have HI199 := n1_; have HB := n2_; clear n0_ n1_ n2_; (try (have HP19 := Kd.R_putg HO_5.out (x33_2 : Int) (((rd x5_2 x33_2) + 1) % 256))))); refine store_event (t := 5) (p := 41) (v := ?vo_w20) (w1 := (wr.setCell ⟨go18, (x33_2 : Int).toNat, none⟩ (.int .u8 (((rd x5_2 x33_2) + 1) % 256)))) ?hg ?ho ?hn ?hr ?_; (case ho => rfl); (case hg => rfl); (case hn => rfl); (case hr => first | (go_simp; done) | (go_simp; rfl)); intro w20 hw; have hg : wr.grownBy w20 (some go18) := (by rw [hw]; exact HP19.2); have hp_ : Kd.R (Kd.int .u8) 5 w20 w.heap.size (fun _ => True) (.slice (some ⟨go18, 0, none⟩) x5_2.length co13) y201 := (by rw [hw, Ny201.out]; exact HP19.1); clear HP19; have n0_ := Aside0.mk (hp_); have n1_ := Aside0.mk (IsS75.grown_far (by repeat (first | (with_reducible first | exact HI199.out | apply IsS75.alloc | apply IsS75.drewN | apply IsS75.drew | apply IsS75.set_1) | exact HI199.out)) hg (IsS75.own_ne HI199.out HO_5.out (by decide)) (fun k hk => HLT.out k hk)); have n2_ := Aside0.mk ((by rw [hw]; exact below_set (HB.out) GB18.out : Below w.heap.size w w20)); clear HO_5; clear HI199; clear HB; have HO_5 := n0_; have HI199 := n1_; have HB := n2_; clear n0_ n1_ n2_; clear hg hw hp_))
                    repeat (go_quiet (first | ((with_reducible refine gate_store (t := 5) (p := 41) rfl ?_); (try (rw [drewN_self wr]; generalize hq_ : World.drewN wr _ = wr; have n0_ := Aside0.mk (Kd.R_at hq_ HO_5.out); have n1_ := Aside0.mk (IsS75.at_ hq_ HI199.out); have n2_ := Aside0.mk (below_at hq_ HB.out); clear hq_ HO_5 HI199 HB; have HO_5 := n0_; have HI199 := n1_; have HB := n2_; clear n0_ n1_ n2_; (try (have HP19 := Kd.R_putg HO_5.out (x33_2 : Int) (((rd x5_2 x33_2) + 1) % 256))))); refine store_event (t := 5) (p := 41) (v := ?vo_w20) (w1 := (wr.setCell ⟨go18, (x33_2 : Int).toNat, none⟩ (.int .u8 (((rd x5_2 x33_2) + 1) % 256)))) ?hg ?ho ?hn ?hr ?_; (case ho => rfl); (case hg => rfl); (case hn => rfl); (case hr => first | (go_simp; done) | (go_simp; rfl)); intro w20 hw; have hg : wr.grownBy w20 (some go18) := (by rw [hw]; exact HP19.2); have hp_ : Kd.R (Kd.int .u8) 5 w20 w.heap.size (fun _ => True) (.slice (some ⟨go18, 0, none⟩) x5_2.length co13) y201 := (by rw [hw, Ny201.out]; exact HP19.1); clear HP19; have n0_ := Aside0.mk (hp_); have n1_ := Aside0.mk (IsS75.grown_far (by repeat (first | (with_reducible first | exact HI199.out | apply IsS75.alloc | apply IsS75.drewN | apply IsS75.drew | apply IsS75.set_1) | exact HI199.out)) hg (IsS75.own_ne HI199.out HO_5.out (by decide)) (fun k hk => HLT.out k hk)); have n2_ := Aside0.mk ((by rw [hw]; exact below_set (HB.out) GB18.out : Below w.heap.size w w20)); clear HO_5; clear HI199; clear HB; have HO_5 := n0_; have HI199 := n1_; have HB := n2_; clear n0_ n1_ n2_; clear hg hw hp_)); try go_wp2_with (first | ((with_reducible refine gate_store (t := 5) (p := 41) rfl ?_); (try (rw [drewN_self wr]; generalize hq_ : World.drewN wr _ = wr; have n0_ := Aside0.mk (Kd.R_at hq_ HO_5.out); have n1_ := Aside0.mk (IsS75.at_ hq_ HI199.out); have n2_ := Aside0.mk (below_at hq_ HB.out); clear hq_ HO_5 HI199 HB; have HO_5 := n0_; have HI199 := n1_; have HB := n2_; clear n0_ n1_ n2_; (try (have HP19 := Kd.R_putg HO_5.out (x33_2 : Int) (((rd x5_2 x33_2) + 1) % 256))))); refine store_event (t := 5) (p := 41) (v := ?vo_w20) (w1 := (wr.setCell ⟨go18, (x33_2 : Int).toNat, none⟩ (.int .u8 (((rd x5_2 x33_2) + 1) % 256)))) ?hg ?ho ?hn ?hr ?_; (case ho => rfl); (case hg => rfl); (case hn => rfl); (case hr => first | (go_simp; done) | (go_simp; rfl)); intro w20 hw; have hg : wr.grownBy w20 (some go18) := (by rw [hw]; exact HP19.2); have hp_ : Kd.R (Kd.int .u8) 5 w20 w.heap.size (fun _ => True) (.slice (some ⟨go18, 0, none⟩) x5_2.length co13) y201 := (by rw [hw, Ny201.out]; exact HP19.1); clear HP19; have n0_ := Aside0.mk (hp_); have n1_ := Aside0.mk (IsS75.grown_far (by repeat (first | (with_reducible first | exact HI199.out | apply IsS75.alloc | apply IsS75.drewN | apply IsS75.drew | apply IsS75.set_1) | exact HI199.out)) hg (IsS75.own_ne HI199.out HO_5.out (by decide)) (fun k hk => HLT.out k hk)); have n2_ := Aside0.mk ((by rw [hw]; exact below_set (HB.out) GB18.out : Below w.heap.size w w20)); clear HO_5; clear HI199; clear HB; have HO_5 := n0_; have HI199 := n1_; have HB := n2_; clear n0_ n1_ n2_; clear hg hw hp_)))
                    (try simp only [← hl5_2])
                    go_roundg k2
                    case measure => have := HJ2.out; have := HK2.out; omega
                    case rel => exact ⟨(y201), (wrap64 (x33_2 + 1)), (by first | rfl | (simp; done) | (simp [*]; done)), H', ⟨by have := HJ2.out; have := HK2.out; omega⟩, ⟨by (try simp only [hl5_2]); (with_reducible repeat (first | apply Kd.R_alloc | apply Kd.R_drewN | apply Kd.R_drew)); exact HO_5.out⟩, ⟨by repeat (first | (with_reducible first | exact HI199.out | apply IsS75.alloc | apply IsS75.drewN | apply IsS75.drew | apply IsS75.set_1) | exact HI199.out)⟩, ⟨by repeat (first | (with_reducible first | exact HB.out | apply below_alloc | apply pw_below_drewN | apply below_drew1 | refine below_set ?_ (IsS75.ge HI199.out)) | exact HB.out)⟩⟩
                  · rw [if_neg c17] at H
                    exact absurd H (by simp)
                · rw [if_neg c16] at H
                  exact absurd H (by simp)
              · rw [if_neg c15] at H
                have c15b0 : decide (x33_2 < (y194.length : Int)) = false := decide_eq_false c15
                (try simp only [hl5_2] at c15b0)
                clear c15
                have H' := Aside0.mk H
                clear H
                have hcv21 := Kd.C_string (P := Try.prog) (A := A0) (c := c0) Try.underlying41 Try.underlying5 Try.underlying9 (Kd.C_below HR0.out HB.out)
                go_wp2
                repeat (go_quiet (fail); try go_wp2)
                replace HI199 := Aside0.mk (IsS75.lower HLO.out HI199.out)
                go_loopg [8, 9, 47] k2 (fun kq v8 v9 v47 w' => ∃ (x8_3 : ByteArray) (x9_3 : Bool) (x47_3 : Int) (x200000_3 : List Int) (x200001_3 : Bool), v8 = .string x8_3 ∧ v9 = .bool x9_3 ∧ v47 = .int .i64 x47_3 ∧ Aside0 (credenzalaw06_SealReads.l1 kq x8_3 x9_3 l1 (l1.length : Int) x47_3 x200000_3 x200001_3 = some r) ∧ Aside0 (kq ≤ k2) ∧ Aside0 (IsS75 w w' g199 x200000_3 x200001_3) ∧ Aside0 (Below w.heap.size w w'))
                case atStart => exact ⟨(strOfNums l0), (false), (0), (t197), (t198), (by first | rfl | (simp; done) | (simp [*]; done)), (by first | rfl | (simp; done) | (simp [*]; done)), (by first | rfl | (simp; done) | (simp [*]; done)), H', ⟨Nat.le_refl _⟩, ⟨by repeat (first | (with_reducible first | exact HI199.out | apply IsS75.alloc | apply IsS75.drewN | apply IsS75.drew | apply IsS75.set_1) | exact HI199.out)⟩, ⟨by repeat (first | (with_reducible first | exact HB.out | apply below_alloc | apply pw_below_drewN | apply below_drew1 | refine below_set ?_ (IsS75.ge HI199.out)) | exact HB.out)⟩⟩
                case round =>
                  clear H'
                  try clear c1
                  try clear p1
                  try clear q1
                  try clear hx1
                  try clear p2
                  try clear q2
                  try clear hx2
                  try clear hcv2
                  try clear c4
                  try clear c4b0
                  try clear c4b1
                  try clear c5
                  try clear p6
                  try clear c8
                  try clear c12
                  try clear c15
                  try clear c15b0
                  try clear c16
                  try clear c16b0
                  try clear c17
                  try clear c17b0
                  try clear p18
                  try clear q18
                  try clear hx18
                  try clear hf18
                  try clear p20
                  try clear q20
                  try clear hx20
                  try clear hcv21
                  try clear hx18_0
                  try clear hx200_0
                  try clear p18
                  try clear p2
                  try clear p200
                  try clear q18
                  try clear q200
                  obtain ⟨x8_3, x9_3, x47_3, x200000_3, x200001_3, rfl, rfl, rfl, HA, HK3, HI199, HB⟩ := hrel
                  cases gk with
                  | zero => exact absurd HA.out (by simp [credenzalaw06_SealReads.l1])
                  | succ k3 =>
                    have H := HA.out
                    clear HA
                    simp only [credenzalaw06_SealReads.l1] at H
                    by_cases c22 : x47_3 < (l1.length : Int)
                    · rw [if_pos c22] at H
                      have c22b0 : decide (x47_3 < (l1.length : Int)) = true := decide_eq_true c22
                      (try simp only [hl5_2] at c22b0)
                      clear c22
                      by_cases c23 : 0 ≤ x47_3
                      · rw [if_pos c23] at H
                        have c23b0 : decide (0 ≤ x47_3) = true := decide_eq_true c23
                        clear c23
                        by_cases c24 : x47_3 < (l1.length : Int)
                        · rw [if_pos c24] at H
                          have c24b0 : decide (x47_3 < (l1.length : Int)) = true := decide_eq_true c24
                          (try simp only [hl5_2] at c24b0)
                          clear c24
                          obtain ⟨ji25, hji25⟩ : ∃ j_ : Int, (mx ((rd_T67 l1 x47_3).f1) 0) = j_ := ⟨_, rfl⟩
                          replace H : (if ((rd_T67 l1 x47_3).f0) = 1 then (credenzalaw06_SealReads.j3 k3 x8_3 x9_3 (mn (ji25) 8) l1 (l1.length : Int) x47_3 x200000_3 x200001_3 ((rd_T67 l1 x47_3).f0) ((rd_T67 l1 x47_3).f1)) else (if ((rd_T67 l1 x47_3).f0) = 2 then (credenzalaw06_SealReads.j3 k3 x8_3 x9_3 4 l1 (l1.length : Int) x47_3 x200000_3 x200001_3 ((rd_T67 l1 x47_3).f0) ((rd_T67 l1 x47_3).f1)) else (credenzalaw06_SealReads.j3 k3 x8_3 x9_3 ji25 l1 (l1.length : Int) x47_3 x200000_3 x200001_3 ((rd_T67 l1 x47_3).f0) ((rd_T67 l1 x47_3).f1)))) = some r := by first | (rw [hji25] at H; exact H) | (simp only [hji25] at H ⊢; exact H)
                          have hji25_ : (if ((rd_T67 l1 x47_3).f1) < 0 then 0 else ((rd_T67 l1 x47_3).f1)) = ji25 := hji25
                          have HC26 := Aside0.mk H
                          clear H
                          have p203 : 0 ≤ (x47_3 : Int) := of_decide_eq_true (by first | (with_reducible assumption) | assumption)
                          have q203 : x47_3 < (l1.length : Int) := of_decide_eq_true (by first | (with_reducible assumption) | assumption)
                          obtain ⟨ad203, e203, hx203_0, hx203_1⟩ := at_T67 HR1.out x47_3 p203 q203
                          cases e203
                          replace hx203_0 := (HB.out.cell (World.block_lt_of_cell? w _ hx203_0)).trans hx203_0
                          replace hx203_1 := (HB.out.cell (World.block_lt_of_cell? w _ hx203_1)).trans hx203_1
                          replace p203 := eq_true p203
                          replace q203 := eq_true q203
                          go_upto_block 4 with (first | ((with_reducible refine gate_dst (N := 11) rfl ?_); (try (refine gate_guard (by rfl) ?_; dsimp only)); refine box_event ?hg (N := 11) ?hd (cs := #[.int .i64 0, .int .i64 0]) (t := 67) ?hr ?_; (case hd => rfl); (case hg => rfl); (case hr => first | (go_simp; done) | (go_simp; rfl)); intro gb204 hg w27 hbox hb; have n0_ := Aside0.mk (IsS75.below (by repeat (first | (with_reducible first | exact HI199.out | apply IsS75.alloc | apply IsS75.drewN | apply IsS75.drew | apply IsS75.set_1) | exact HI199.out)) hb); have n1_ := Aside0.mk (below_step (by repeat (first | (with_reducible first | exact HB.out | apply below_alloc | apply pw_below_drewN | apply below_drew1 | refine below_set ?_ (IsS75.ge HI199.out)) | exact HB.out)) hb); have n2_ := Aside0.mk (hbox); have n3_ := Aside0.mk ((by rw [hg]; exact (below_size (by repeat (first | (with_reducible first | exact HB.out | apply below_alloc | apply pw_below_drewN | apply below_drew1 | refine below_set ?_ (IsS75.ge HI199.out)) | exact HB.out))) : w.heap.size ≤ gb204)); have n4_ := Aside0.mk ((by rw [hg]; exact (below_size (by repeat (first | (with_reducible first | exact HB.out | apply below_alloc | apply pw_below_drewN | apply below_drew1 | refine below_set ?_ (IsS75.ge HI199.out)) | exact HB.out))) : w.heap.size ≤ gb204)); have n5_ := Aside0.mk ((by rw [hg]; exact (IsS75.lt (show IsS75 w _ g199 x200000_3 x200001_3 from by repeat (first | (with_reducible first | exact HI199.out | apply IsS75.alloc | apply IsS75.drewN | apply IsS75.drew | apply IsS75.set_1) | exact HI199.out))) : g199 < gb204)); have n6_ := Aside0.mk ((by rw [hg]; exact Nat.ne_of_lt (IsS75.lt (show IsS75 w _ g199 x200000_3 x200001_3 from by repeat (first | (with_reducible first | exact HI199.out | apply IsS75.alloc | apply IsS75.drewN | apply IsS75.drew | apply IsS75.set_1) | exact HI199.out))) : g199 ≠ gb204)); have n7_ := Aside0.mk ((by rw [hg]; exact Nat.ne_of_gt (IsS75.lt (show IsS75 w _ g199 x200000_3 x200001_3 from by repeat (first | (with_reducible first | exact HI199.out | apply IsS75.alloc | apply IsS75.drewN | apply IsS75.drew | apply IsS75.set_1) | exact HI199.out))) : gb204 ≠ g199)); clear HI199; clear HB; have HI199 := n0_; have HB := n1_; have BK204 := n2_; have GW204 := n3_; have GE204 := n4_; have FB199_204 := n5_; have NB199_204 := n6_; have NB204_199 := n7_; clear n0_ n1_ n2_ n3_ n4_ n5_ n6_ n7_; clear hb hbox hg; have hnb28 := NB204_199.out; have hnc28 := NB199_204.out; have hcz29_0 : w27.cell? ⟨gb204, 0, none⟩ = some (.int .i64 0) := (blk_cell BK204.out 0).trans rfl; have hcz29_1 : w27.cell? ⟨gb204, 1, none⟩ = some (.int .i64 0) := (blk_cell BK204.out 1).trans rfl; have hfz29_0 := blk_frozen BK204.out 0; have hfz29_1 := blk_frozen BK204.out 1))
                          repeat (go_quiet (first | ((with_reducible refine gate_dst (N := 11) rfl ?_); (try (refine gate_guard (by rfl) ?_; dsimp only)); refine box_event ?hg (N := 11) ?hd (cs := #[.int .i64 0, .int .i64 0]) (t := 67) ?hr ?_; (case hd => rfl); (case hg => rfl); (case hr => first | (go_simp; done) | (go_simp; rfl)); intro gb204 hg w27 hbox hb; have n0_ := Aside0.mk (IsS75.below (by repeat (first | (with_reducible first | exact HI199.out | apply IsS75.alloc | apply IsS75.drewN | apply IsS75.drew | apply IsS75.set_1) | exact HI199.out)) hb); have n1_ := Aside0.mk (below_step (by repeat (first | (with_reducible first | exact HB.out | apply below_alloc | apply pw_below_drewN | apply below_drew1 | refine below_set ?_ (IsS75.ge HI199.out)) | exact HB.out)) hb); have n2_ := Aside0.mk (hbox); have n3_ := Aside0.mk ((by rw [hg]; exact (below_size (by repeat (first | (with_reducible first | exact HB.out | apply below_alloc | apply pw_below_drewN | apply below_drew1 | refine below_set ?_ (IsS75.ge HI199.out)) | exact HB.out))) : w.heap.size ≤ gb204)); have n4_ := Aside0.mk ((by rw [hg]; exact (below_size (by repeat (first | (with_reducible first | exact HB.out | apply below_alloc | apply pw_below_drewN | apply below_drew1 | refine below_set ?_ (IsS75.ge HI199.out)) | exact HB.out))) : w.heap.size ≤ gb204)); have n5_ := Aside0.mk ((by rw [hg]; exact (IsS75.lt (show IsS75 w _ g199 x200000_3 x200001_3 from by repeat (first | (with_reducible first | exact HI199.out | apply IsS75.alloc | apply IsS75.drewN | apply IsS75.drew | apply IsS75.set_1) | exact HI199.out))) : g199 < gb204)); have n6_ := Aside0.mk ((by rw [hg]; exact Nat.ne_of_lt (IsS75.lt (show IsS75 w _ g199 x200000_3 x200001_3 from by repeat (first | (with_reducible first | exact HI199.out | apply IsS75.alloc | apply IsS75.drewN | apply IsS75.drew | apply IsS75.set_1) | exact HI199.out))) : g199 ≠ gb204)); have n7_ := Aside0.mk ((by rw [hg]; exact Nat.ne_of_gt (IsS75.lt (show IsS75 w _ g199 x200000_3 x200001_3 from by repeat (first | (with_reducible first | exact HI199.out | apply IsS75.alloc | apply IsS75.drewN | apply IsS75.drew | apply IsS75.set_1) | exact HI199.out))) : gb204 ≠ g199)); clear HI199; clear HB; have HI199 := n0_; have HB := n1_; have BK204 := n2_; have GW204 := n3_; have GE204 := n4_; have FB199_204 := n5_; have NB199_204 := n6_; have NB204_199 := n7_; clear n0_ n1_ n2_ n3_ n4_ n5_ n6_ n7_; clear hb hbox hg; have hnb28 := NB204_199.out; have hnc28 := NB199_204.out; have hcz29_0 : w27.cell? ⟨gb204, 0, none⟩ = some (.int .i64 0) := (blk_cell BK204.out 0).trans rfl; have hcz29_1 : w27.cell? ⟨gb204, 1, none⟩ = some (.int .i64 0) := (blk_cell BK204.out 1).trans rfl; have hfz29_0 := blk_frozen BK204.out 0; have hfz29_1 := blk_frozen BK204.out 1)); go_upto_block 4 with (first | ((with_reducible refine gate_dst (N := 11) rfl ?_); (try (refine gate_guard (by rfl) ?_; dsimp only)); refine box_event ?hg (N := 11) ?hd (cs := #[.int .i64 0, .int .i64 0]) (t := 67) ?hr ?_; (case hd => rfl); (case hg => rfl); (case hr => first | (go_simp; done) | (go_simp; rfl)); intro gb204 hg w27 hbox hb; have n0_ := Aside0.mk (IsS75.below (by repeat (first | (with_reducible first | exact HI199.out | apply IsS75.alloc | apply IsS75.drewN | apply IsS75.drew | apply IsS75.set_1) | exact HI199.out)) hb); have n1_ := Aside0.mk (below_step (by repeat (first | (with_reducible first | exact HB.out | apply below_alloc | apply pw_below_drewN | apply below_drew1 | refine below_set ?_ (IsS75.ge HI199.out)) | exact HB.out)) hb); have n2_ := Aside0.mk (hbox); have n3_ := Aside0.mk ((by rw [hg]; exact (below_size (by repeat (first | (with_reducible first | exact HB.out | apply below_alloc | apply pw_below_drewN | apply below_drew1 | refine below_set ?_ (IsS75.ge HI199.out)) | exact HB.out))) : w.heap.size ≤ gb204)); have n4_ := Aside0.mk ((by rw [hg]; exact (below_size (by repeat (first | (with_reducible first | exact HB.out | apply below_alloc | apply pw_below_drewN | apply below_drew1 | refine below_set ?_ (IsS75.ge HI199.out)) | exact HB.out))) : w.heap.size ≤ gb204)); have n5_ := Aside0.mk ((by rw [hg]; exact (IsS75.lt (show IsS75 w _ g199 x200000_3 x200001_3 from by repeat (first | (with_reducible first | exact HI199.out | apply IsS75.alloc | apply IsS75.drewN | apply IsS75.drew | apply IsS75.set_1) | exact HI199.out))) : g199 < gb204)); have n6_ := Aside0.mk ((by rw [hg]; exact Nat.ne_of_lt (IsS75.lt (show IsS75 w _ g199 x200000_3 x200001_3 from by repeat (first | (with_reducible first | exact HI199.out | apply IsS75.alloc | apply IsS75.drewN | apply IsS75.drew | apply IsS75.set_1) | exact HI199.out))) : g199 ≠ gb204)); have n7_ := Aside0.mk ((by rw [hg]; exact Nat.ne_of_gt (IsS75.lt (show IsS75 w _ g199 x200000_3 x200001_3 from by repeat (first | (with_reducible first | exact HI199.out | apply IsS75.alloc | apply IsS75.drewN | apply IsS75.drew | apply IsS75.set_1) | exact HI199.out))) : gb204 ≠ g199)); clear HI199; clear HB; have HI199 := n0_; have HB := n1_; have BK204 := n2_; have GW204 := n3_; have GE204 := n4_; have FB199_204 := n5_; have NB199_204 := n6_; have NB204_199 := n7_; clear n0_ n1_ n2_ n3_ n4_ n5_ n6_ n7_; clear hb hbox hg; have hnb28 := NB204_199.out; have hnc28 := NB199_204.out; have hcz29_0 : w27.cell? ⟨gb204, 0, none⟩ = some (.int .i64 0) := (blk_cell BK204.out 0).trans rfl; have hcz29_1 : w27.cell? ⟨gb204, 1, none⟩ = some (.int .i64 0) := (blk_cell BK204.out 1).trans rfl; have hfz29_0 := blk_frozen BK204.out 0; have hfz29_1 := blk_frozen BK204.out 1)))
                          (try simp only [Act.put, List.setIfInBounds_toArray, List.set_cons_zero, List.set_cons_succ])
                          go_cut [12] (fun v12 wc => ∃ (kq : Nat) (x12_25 : Int), v12 = .int .i64 x12_25 ∧ Aside0 (credenzalaw06_SealReads.j3 kq x8_3 x9_3 x12_25 l1 (l1.length : Int) x47_3 x200000_3 x200001_3 ((rd_T67 l1 x47_3).f0) ((rd_T67 l1 x47_3).f1) = some r) ∧ Aside0 (kq ≤ k3) ∧ Aside0 (wc.heap[gb204]? = some (.cells #[.int .i64 ((rd_T67 l1 x47_3).f0), .int .i64 ((rd_T67 l1 x47_3).f1)] 67 (0, 0))) ∧ Aside0 (IsS75 w wc g199 x200000_3 x200001_3) ∧ Aside0 (Below w.heap.size w wc))
                          case first =>
                            have H := HC26.out
                            clear HC26
                            by_cases c30 : ((rd_T67 l1 x47_3).f0) = 1
                            · rw [if_pos c30] at H
                              have c30b0 : (((rd_T67 l1 x47_3).f0) == 1) = true := beq_iff_eq.mpr c30
                              have c30b1 : (((rd_T67 l1 x47_3).f0) != 1) = false := bne_eq_false_iff_eq.mpr c30
                              clear c30
                              (first | rw [c30b0] | (simp only [i64_w, i32_w]; rw [c30b0]) | skip)
                              obtain ⟨ji31, hji31⟩ : ∃ j_ : Int, (mn (ji25) 8) = j_ := ⟨_, rfl⟩
                              replace H : (credenzalaw06_SealReads.j3 k3 x8_3 x9_3 ji31 l1 (l1.length : Int) x47_3 x200000_3 x200001_3 ((rd_T67 l1 x47_3).f0) ((rd_T67 l1 x47_3).f1)) = some r := by first | (rw [hji31] at H; exact H) | (simp only [hji31] at H ⊢; exact H)
                              have hji31_ : (if 8 < (ji25) then 8 else (ji25)) = ji31 := hji31
                              have H' := Aside0.mk H
                              clear H
                              go_wp2
                              repeat (go_quiet (fail); try go_wp2)
                              go_meet
                              case rel => exact ⟨_, (ji31), (by first | rfl | (simp; done) | (simp only [← hji31] <;> (first | rfl | simp)) | (simp [*]; done)), H', ⟨by have := HJ2.out; have := HK2.out; have := HK3.out; first | omega | exact Nat.le_refl _⟩, ⟨by (try simp only [hl5_2]); (with_reducible repeat (first | refine blk_drewN ?_ _ | refine blk_drew ?_ | refine blk_alloc ?_ _)); refine blk_put (cs := #[.int .i64 ((rd_T67 l1 x47_3).f0), .int .i64 0]) ?_ 1 _ rfl; (with_reducible repeat (first | refine blk_drewN ?_ _ | refine blk_drew ?_ | refine blk_alloc ?_ _)); refine blk_put (cs := #[.int .i64 0, .int .i64 0]) ?_ 0 _ rfl; (with_reducible repeat (first | refine blk_drewN ?_ _ | refine blk_drew ?_ | refine blk_alloc ?_ _)); exact BK204.out⟩, ⟨by repeat (first | (with_reducible first | exact HI199.out | apply IsS75.alloc | apply IsS75.drewN | apply IsS75.drew | apply IsS75.set_1 | refine IsS75.far ?_ NB199_204.out FB199_204.out _) | exact HI199.out)⟩, ⟨by repeat (first | (with_reducible first | exact HB.out | apply below_alloc | apply pw_below_drewN | apply below_drew1 | refine below_set ?_ (IsS75.ge HI199.out) | refine below_set ?_ GE204.out) | exact HB.out)⟩⟩
                            · rw [if_neg c30] at H
                              have c30b0 : (((rd_T67 l1 x47_3).f0) == 1) = false := beq_eq_false_iff_ne.mpr c30
                              have c30b1 : (((rd_T67 l1 x47_3).f0) != 1) = true := bne_iff_ne.mpr c30
                              (first | rw [c30b0] | (simp only [i64_w, i32_w]; rw [c30b0]) | skip)
                              by_cases c32 : ((rd_T67 l1 x47_3).f0) = 2
                              · rw [if_pos c32] at H
                                have c32b0 : (((rd_T67 l1 x47_3).f0) == 2) = true := beq_iff_eq.mpr c32
                                have c32b1 : (((rd_T67 l1 x47_3).f0) != 2) = false := bne_eq_false_iff_eq.mpr c32
                                clear c32
                                have H' := Aside0.mk H
                                clear H
                                go_wp2
                                repeat (go_quiet (fail); try go_wp2)
                                go_meet
                                case rel => exact ⟨_, (4), (by first | rfl | (simp; done) | (simp [*]; done)), H', ⟨by have := HJ2.out; have := HK2.out; have := HK3.out; first | omega | exact Nat.le_refl _⟩, ⟨by (try simp only [hl5_2]); (with_reducible repeat (first | refine blk_drewN ?_ _ | refine blk_drew ?_ | refine blk_alloc ?_ _)); refine blk_put (cs := #[.int .i64 ((rd_T67 l1 x47_3).f0), .int .i64 0]) ?_ 1 _ rfl; (with_reducible repeat (first | refine blk_drewN ?_ _ | refine blk_drew ?_ | refine blk_alloc ?_ _)); refine blk_put (cs := #[.int .i64 0, .int .i64 0]) ?_ 0 _ rfl; (with_reducible repeat (first | refine blk_drewN ?_ _ | refine blk_drew ?_ | refine blk_alloc ?_ _)); exact BK204.out⟩, ⟨by repeat (first | (with_reducible first | exact HI199.out | apply IsS75.alloc | apply IsS75.drewN | apply IsS75.drew | apply IsS75.set_1 | refine IsS75.far ?_ NB199_204.out FB199_204.out _) | exact HI199.out)⟩, ⟨by repeat (first | (with_reducible first | exact HB.out | apply below_alloc | apply pw_below_drewN | apply below_drew1 | refine below_set ?_ (IsS75.ge HI199.out) | refine below_set ?_ GE204.out) | exact HB.out)⟩⟩
                              · rw [if_neg c32] at H
                                have c32b0 : (((rd_T67 l1 x47_3).f0) == 2) = false := beq_eq_false_iff_ne.mpr c32
                                have c32b1 : (((rd_T67 l1 x47_3).f0) != 2) = true := bne_iff_ne.mpr c32
                                have H' := Aside0.mk H
                                clear H
                                go_wp2
                                repeat (go_quiet (fail); try go_wp2)
                                go_meet
                                case rel => exact ⟨_, (ji25), (by first | rfl | (simp; done) | (simp only [← hji25] <;> (first | rfl | simp)) | (simp [*]; done)), H', ⟨by have := HJ2.out; have := HK2.out; have := HK3.out; first | omega | exact Nat.le_refl _⟩, ⟨by (try simp only [hl5_2]); (with_reducible repeat (first | refine blk_drewN ?_ _ | refine blk_drew ?_ | refine blk_alloc ?_ _)); refine blk_put (cs := #[.int .i64 ((rd_T67 l1 x47_3).f0), .int .i64 0]) ?_ 1 _ rfl; (with_reducible repeat (first | refine blk_drewN ?_ _ | refine blk_drew ?_ | refine blk_alloc ?_ _)); refine blk_put (cs := #[.int .i64 0, .int .i64 0]) ?_ 0 _ rfl; (with_reducible repeat (first | refine blk_drewN ?_ _ | refine blk_drew ?_ | refine blk_alloc ?_ _)); exact BK204.out⟩, ⟨by repeat (first | (with_reducible first | exact HI199.out | apply IsS75.alloc | apply IsS75.drewN | apply IsS75.drew | apply IsS75.set_1 | refine IsS75.far ?_ NB199_204.out FB199_204.out _) | exact HI199.out)⟩, ⟨by repeat (first | (with_reducible first | exact HB.out | apply below_alloc | apply pw_below_drewN | apply below_drew1 | refine below_set ?_ (IsS75.ge HI199.out) | refine below_set ?_ GE204.out) | exact HB.out)⟩⟩
                          case rest =>
                            clear HC26
                            try clear c1
                            try clear p1
                            try clear q1
                            try clear hx1
                            try clear c2
                            try clear p2
                            try clear q2
                            try clear hx2
                            try clear hcv2
                            try clear c3
                            try clear c4
                            try clear c4b0
                            try clear c4b1
                            try clear c5
                            try clear p6
                            try clear c8
                            try clear c12
                            try clear c15
                            try clear c15b0
                            try clear c16
                            try clear c16b0
                            try clear c17
                            try clear c17b0
                            try clear p18
                            try clear q18
                            try clear hx18
                            try clear hf18
                            try clear p20
                            try clear q20
                            try clear hx20
                            try clear hcv21
                            try clear c22
                            try clear c22b0
                            try clear c23
                            try clear c23b0
                            try clear c24
                            try clear c24b0
                            try clear c28
                            try clear c30
                            try clear c30b0
                            try clear c30b1
                            try clear c32
                            try clear c32b0
                            try clear c32b1
                            try clear hcz29_0
                            try clear hcz29_1
                            try clear hfz29_0
                            try clear hfz29_1
                            try clear hx18_0
                            try clear hx200_0
                            try clear hx203_0
                            try clear hx203_1
                            try clear p1
                            try clear p18
                            try clear p2
                            try clear p20
                            try clear p200
                            try clear p203
                            try clear p6
                            try clear q1
                            try clear q18
                            try clear q2
                            try clear q20
                            try clear q200
                            try clear q203
                            obtain ⟨kq, x12_25, rfl, HA, HJ25, BK204, HI199, HB⟩ := hcut
                            cases kq with
                            | zero => exact absurd HA.out (by simp [credenzalaw06_SealReads.j3])
                            | succ kj25 =>
                              have H := HA.out
                              clear HA
                              simp only [credenzalaw06_SealReads.j3] at H
                              have HC33 := Aside0.mk H
                              clear H
                              go_upto_if 65 with (fail)
                              repeat (go_quiet (fail); go_upto_if 65 with (fail))
                              go_cut [8, 9, 13] (fun v8 v9 v13 wc => ∃ (kq : Nat) (x8_32 : ByteArray) (x9_32 : Bool) (x13_32 : ByteArray), v8 = .string x8_32 ∧ v9 = .bool x9_32 ∧ v13 = .string x13_32 ∧ Aside0 (credenzalaw06_SealReads.j4 kq x8_32 x9_32 x13_32 l1 (l1.length : Int) x47_3 x200000_3 x200001_3 ((rd_T67 l1 x47_3).f0) ((rd_T67 l1 x47_3).f1) = some r) ∧ Aside0 (kq ≤ kj25) ∧ Aside0 (wc.heap[gb204]? = some (.cells #[.int .i64 ((rd_T67 l1 x47_3).f0), .int .i64 ((rd_T67 l1 x47_3).f1)] 67 (0, 0))) ∧ Aside0 (IsS75 w wc g199 x200000_3 x200001_3) ∧ Aside0 (Below w.heap.size w wc))
                              case first =>
                                have H := HC33.out
                                clear HC33
                                by_cases c34 : x12_25 > (x8_3.size : Int)
                                · rw [if_pos c34] at H
                                  have c34b0 : decide ((x8_3.size : Int) < x12_25) = true := decide_eq_true c34
                                  clear c34
                                  (first | rw [c34b0] | (simp only [i64_w, i32_w]; rw [c34b0]) | skip)
                                  have H' := Aside0.mk H
                                  clear H
                                  go_wp2
                                  repeat (go_quiet (fail); try go_wp2)
                                  go_meet
                                  case rel => exact ⟨_, ((⟨#[]⟩ : ByteArray)), (true), ((⟨#[]⟩ : ByteArray)), (by first | rfl | (simp; done) | (simp [*]; done)), (by first | rfl | (simp; done) | (simp [*]; done)), (by first | rfl | (simp; done) | (simp [*]; done)), H', ⟨by have := HJ2.out; have := HK2.out; have := HK3.out; have := HJ25.out; first | omega | exact Nat.le_refl _⟩, ⟨by (try simp only [hl5_2]); (with_reducible repeat (first | refine blk_drewN ?_ _ | refine blk_drew ?_ | refine blk_alloc ?_ _)); exact BK204.out⟩, ⟨by repeat (first | (with_reducible first | exact HI199.out | apply IsS75.alloc | apply IsS75.drewN | apply IsS75.drew | apply IsS75.set_1 | refine IsS75.far ?_ NB199_204.out FB199_204.out _) | exact HI199.out)⟩, ⟨by repeat (first | (with_reducible first | exact HB.out | apply below_alloc | apply pw_below_drewN | apply below_drew1 | refine below_set ?_ (IsS75.ge HI199.out) | refine below_set ?_ GE204.out) | exact HB.out)⟩⟩
                                · rw [if_neg c34] at H
                                  have c34b0 : decide ((x8_3.size : Int) < x12_25) = false := decide_eq_false c34
                                  clear c34
                                  (first | rw [c34b0] | (simp only [i64_w, i32_w]; rw [c34b0]) | skip)
                                  by_cases c35 : 0 ≤ x12_25
                                  · rw [if_pos c35] at H
                                    have c35b0 := eq_true c35
                                    have c35b1 : decide (0 ≤ x12_25) = true := decide_eq_true c35
                                    clear c35
                                    by_cases c36 : x12_25 ≤ (x8_3.size : Int)
                                    · rw [if_pos c36] at H
                                      have c36b0 := eq_true c36
                                      have c36b1 : decide (x12_25 ≤ (x8_3.size : Int)) = true := decide_eq_true c36
                                      clear c36
                                      have c37b0 := eq_true (of_decide_eq_true (by first | (with_reducible assumption) | assumption) : 0 ≤ x12_25)
                                      have c38b0 := eq_true (of_decide_eq_true (by first | (with_reducible assumption) | assumption) : x12_25 ≤ (x8_3.size : Int))
                                      have H' := Aside0.mk H
                                      clear H
                                      go_wp2
                                      repeat (go_quiet (fail); try go_wp2)
                                      go_meet
                                      case rel => exact ⟨_, (x8_3.extract (x12_25 : Int).toNat x8_3.size), (x9_3), (x8_3.extract 0 (x12_25 : Int).toNat), (by first | rfl | (simp; done) | (simp [*]; done)), (by first | rfl | (simp; done) | (simp [*]; done)), (by first | rfl | (simp; done) | (simp [*]; done)), H', ⟨by have := HJ2.out; have := HK2.out; have := HK3.out; have := HJ25.out; first | omega | exact Nat.le_refl _⟩, ⟨by (try simp only [hl5_2]); (with_reducible repeat (first | refine blk_drewN ?_ _ | refine blk_drew ?_ | refine blk_alloc ?_ _)); exact BK204.out⟩, ⟨by repeat (first | (with_reducible first | exact HI199.out | apply IsS75.alloc | apply IsS75.drewN | apply IsS75.drew | apply IsS75.set_1 | refine IsS75.far ?_ NB199_204.out FB199_204.out _) | exact HI199.out)⟩, ⟨by repeat (first | (with_reducible first | exact HB.out | apply below_alloc | apply pw_below_drewN | apply below_drew1 | refine below_set ?_ (IsS75.ge HI199.out) | refine below_set ?_ GE204.out) | exact HB.out)⟩⟩
                                    · rw [if_neg c36] at H
                                      exact absurd H (by simp)
                                  · rw [if_neg c35] at H
                                    exact absurd H (by simp)
                              case rest =>
                                clear HC33
                                try clear c1
                                try clear p1
                                try clear q1
                                try clear hx1
                                try clear c2
                                try clear p2
                                try clear q2
                                try clear hx2
                                try clear hcv2
                                try clear c3
                                try clear c4
                                try clear c4b0
                                try clear c4b1
                                try clear c5
                                try clear p6
                                try clear c8
                                try clear c12
                                try clear c15
                                try clear c15b0
                                try clear c16
                                try clear c16b0
                                try clear c17
                                try clear c17b0
                                try clear p18
                                try clear q18
                                try clear hx18
                                try clear hf18
                                try clear p20
                                try clear q20
                                try clear hx20
                                try clear hcv21
                                try clear c22
                                try clear c22b0
                                try clear c23
                                try clear c23b0
                                try clear c24
                                try clear c24b0
                                try clear c28
                                try clear c30
                                try clear c30b0
                                try clear c30b1
                                try clear c32
                                try clear c32b0
                                try clear c32b1
                                try clear c34
                                try clear c34b0
                                try clear c35
                                try clear c35b0
                                try clear c35b1
                                try clear c36
                                try clear c36b0
                                try clear c36b1
                                try clear c37
                                try clear c37b0
                                try clear c38
                                try clear c38b0
                                try clear hcz29_0
                                try clear hcz29_1
                                try clear hfz29_0
                                try clear hfz29_1
                                try clear hx18_0
                                try clear hx200_0
                                try clear hx203_0
                                try clear hx203_1
                                try clear p1
                                try clear p18
                                try clear p2
                                try clear p20
                                try clear p200
                                try clear p203
                                try clear p6
                                try clear q1
                                try clear q18
                                try clear q2
                                try clear q20
                                try clear q200
                                try clear q203
                                obtain ⟨kq, x8_32, x9_32, x13_32, rfl, rfl, rfl, HA, HJ32, BK204, HI199, HB⟩ := hcut
                                cases kq with
                                | zero => exact absurd HA.out (by simp [credenzalaw06_SealReads.j4])
                                | succ kj32 =>
                                  have H := HA.out
                                  clear HA
                                  simp only [credenzalaw06_SealReads.j4] at H
                                  have HC39 := Aside0.mk H
                                  clear H
                                  have hnb40 := NB204_199.out
                                  have hnc40 := NB199_204.out
                                  have hcz41_0 : wc.cell? ⟨gb204, 0, none⟩ = some (.int .i64 ((rd_T67 l1 x47_3).f0)) := (blk_cell BK204.out 0).trans rfl
                                  have hcz41_1 : wc.cell? ⟨gb204, 1, none⟩ = some (.int .i64 ((rd_T67 l1 x47_3).f1)) := (blk_cell BK204.out 1).trans rfl
                                  have hfz41_0 := blk_frozen BK204.out 0
                                  have hfz41_1 := blk_frozen BK204.out 1
                                  go_upto_block 5 with (fail)
                                  repeat (go_quiet (fail); go_upto_block 5 with (fail))
                                  go_cut [14] (fun v14 wc => ∃ (kq : Nat) (x14_38 : Bool) (x200000_38 : List Int) (x200001_38 : Bool), v14 = .bool x14_38 ∧ Aside0 (credenzalaw06_SealReads.j5 kq x8_32 x9_32 x14_38 l1 (l1.length : Int) x47_3 x200000_38 x200001_38 = some r) ∧ Aside0 (kq ≤ kj32) ∧ Aside0 (wc.heap[gb204]? = some (.cells #[.int .i64 ((rd_T67 l1 x47_3).f0), .int .i64 ((rd_T67 l1 x47_3).f1)] 67 (0, 0))) ∧ Aside0 (IsS75 w wc g199 x200000_38 x200001_38) ∧ Aside0 (Below w.heap.size w wc))
                                  case first =>
                                    have H := HC39.out
                                    clear HC39
                                    by_cases c42 : ((rd_T67 l1 x47_3).f0) = 1
                                    · rw [if_pos c42] at H
                                      have c42b0 : (((rd_T67 l1 x47_3).f0) == 1) = true := beq_iff_eq.mpr c42
                                      have c42b1 : (((rd_T67 l1 x47_3).f0) != 1) = false := bne_eq_false_iff_eq.mpr c42
                                      clear c42
                                      (first | rw [c42b0] | (simp only [i64_w, i32_w]; rw [c42b0]) | skip)
                                      replace H := Option.bind_eq_some_iff.mp H
                                      obtain ⟨⟨t205, t206, t207⟩, A430, H⟩ := H
                                      replace H : ((credenzaref06_Number.f kj32 x13_32).bind fun t208 => (credenzalaw06_SealReads.j5 kj32 x8_32 x9_32 (t205 == t208) l1 (l1.length : Int) x47_3 t206 t207)) = some r := H
                                      have A43 := Aside0.mk A430
                                      clear A430
                                      replace H := Option.bind_eq_some_iff.mp H
                                      obtain ⟨t208, A440, H⟩ := H
                                      replace H : (credenzalaw06_SealReads.j5 kj32 x8_32 x9_32 (t205 == t208) l1 (l1.length : Int) x47_3 t206 t207) = some r := H
                                      have A44 := Aside0.mk A440
                                      clear A440
                                      have H' := Aside0.mk H
                                      clear H
                                      have hnb45 := NB204_199.out
                                      have hnc45 := NB199_204.out
                                      have hcz46_0 : wc.cell? ⟨gb204, 0, none⟩ = some (.int .i64 ((rd_T67 l1 x47_3).f0)) := (blk_cell BK204.out 0).trans rfl
                                      have hcz46_1 : wc.cell? ⟨gb204, 1, none⟩ = some (.int .i64 ((rd_T67 l1 x47_3).f1)) := (blk_cell BK204.out 1).trans rfl
                                      have hfz46_0 := blk_frozen BK204.out 0
                                      have hfz46_1 := blk_frozen BK204.out 1
                                      go_wp2_with (first | (go_at_call 38; (with_reducible refine (seal_Reader_Num.calls kj32 g199 x200000_3 x200001_3 ((rd_T67 l1 x47_3).f1) t205 t206 t207 w _ ?side1 ?side2 A43.out).mono ?_); (case side1 => repeat (first | (with_reducible first | exact HI199.out | apply IsS75.alloc | apply IsS75.drewN | apply IsS75.drew | apply IsS75.set_1 | refine IsS75.far ?_ NB199_204.out FB199_204.out _) | exact HI199.out)); (case side2 => repeat (first | (with_reducible first | exact HB.out | apply below_alloc | apply pw_below_drewN | apply below_drew1 | refine below_set ?_ (IsS75.ge HI199.out) | refine below_set ?_ GE204.out) | exact HB.out)); rintro e w47 ⟨rfl, hi, hb, hk⟩; have n0_ := Aside0.mk (KeepBut.blk hk (g' := gb204) (o := .cells #[.int .i64 ((rd_T67 l1 x47_3).f0), .int .i64 ((rd_T67 l1 x47_3).f1)] 67 (0, 0)) (by (with_reducible repeat (first | refine blk_drewN ?_ _ | refine blk_drew ?_ | refine blk_alloc ?_ _)); exact BK204.out) NB204_199.out (by simp)); have n1_ := Aside0.mk (hb); have n2_ := Aside0.mk (hi); clear BK204; clear HB; clear HI199; have BK204 := n0_; have HB := n1_; have HI199 := n2_; clear n0_ n1_ n2_; (try clear hb); (try clear hb2); (try clear hk); (try clear hi)) | (go_at_call 39; (with_reducible refine (credenzaref06_Number.calls kj32 x13_32 t208 _ A44.out).mono ?_); rintro e w' ⟨rfl, ⟨nd, rfl⟩⟩; (try first | exact ⟨rfl, _, World.drewN_drewN _ _ _⟩ | exact ⟨rfl, _, Eq.trans (World.drewN_drewN _ _ _) (congrArg (World.drewN _) (Nat.add_assoc _ _ _))⟩)))
                                      repeat (go_quiet (first | (go_at_call 38; (with_reducible refine (seal_Reader_Num.calls kj32 g199 x200000_3 x200001_3 ((rd_T67 l1 x47_3).f1) t205 t206 t207 w _ ?side1 ?side2 A43.out).mono ?_); (case side1 => repeat (first | (with_reducible first | exact HI199.out | apply IsS75.alloc | apply IsS75.drewN | apply IsS75.drew | apply IsS75.set_1 | refine IsS75.far ?_ NB199_204.out FB199_204.out _) | exact HI199.out)); (case side2 => repeat (first | (with_reducible first | exact HB.out | apply below_alloc | apply pw_below_drewN | apply below_drew1 | refine below_set ?_ (IsS75.ge HI199.out) | refine below_set ?_ GE204.out) | exact HB.out)); rintro e w47 ⟨rfl, hi, hb, hk⟩; have n0_ := Aside0.mk (KeepBut.blk hk (g' := gb204) (o := .cells #[.int .i64 ((rd_T67 l1 x47_3).f0), .int .i64 ((rd_T67 l1 x47_3).f1)] 67 (0, 0)) (by (with_reducible repeat (first | refine blk_drewN ?_ _ | refine blk_drew ?_ | refine blk_alloc ?_ _)); exact BK204.out) NB204_199.out (by simp)); have n1_ := Aside0.mk (hb); have n2_ := Aside0.mk (hi); clear BK204; clear HB; clear HI199; have BK204 := n0_; have HB := n1_; have HI199 := n2_; clear n0_ n1_ n2_; (try clear hb); (try clear hb2); (try clear hk); (try clear hi)) | (go_at_call 39; (with_reducible refine (credenzaref06_Number.calls kj32 x13_32 t208 _ A44.out).mono ?_); rintro e w' ⟨rfl, ⟨nd, rfl⟩⟩; (try first | exact ⟨rfl, _, World.drewN_drewN _ _ _⟩ | exact ⟨rfl, _, Eq.trans (World.drewN_drewN _ _ _) (congrArg (World.drewN _) (Nat.add_assoc _ _ _))⟩))); try go_wp2_with (first | (go_at_call 38; (with_reducible refine (seal_Reader_Num.calls kj32 g199 x200000_3 x200001_3 ((rd_T67 l1 x47_3).f1) t205 t206 t207 w _ ?side1 ?side2 A43.out).mono ?_); (case side1 => repeat (first | (with_reducible first | exact HI199.out | apply IsS75.alloc | apply IsS75.drewN | apply IsS75.drew | apply IsS75.set_1 | refine IsS75.far ?_ NB199_204.out FB199_204.out _) | exact HI199.out)); (case side2 => repeat (first | (with_reducible first | exact HB.out | apply below_alloc | apply pw_below_drewN | apply below_drew1 | refine below_set ?_ (IsS75.ge HI199.out) | refine below_set ?_ GE204.out) | exact HB.out)); rintro e w47 ⟨rfl, hi, hb, hk⟩; have n0_ := Aside0.mk (KeepBut.blk hk (g' := gb204) (o := .cells #[.int .i64 ((rd_T67 l1 x47_3).f0), .int .i64 ((rd_T67 l1 x47_3).f1)] 67 (0, 0)) (by (with_reducible repeat (first | refine blk_drewN ?_ _ | refine blk_drew ?_ | refine blk_alloc ?_ _)); exact BK204.out) NB204_199.out (by simp)); have n1_ := Aside0.mk (hb); have n2_ := Aside0.mk (hi); clear BK204; clear HB; clear HI199; have BK204 := n0_; have HB := n1_; have HI199 := n2_; clear n0_ n1_ n2_; (try clear hb); (try clear hb2); (try clear hk); (try clear hi)) | (go_at_call 39; (with_reducible refine (credenzaref06_Number.calls kj32 x13_32 t208 _ A44.out).mono ?_); rintro e w' ⟨rfl, ⟨nd, rfl⟩⟩; (try first | exact ⟨rfl, _, World.drewN_drewN _ _ _⟩ | exact ⟨rfl, _, Eq.trans (World.drewN_drewN _ _ _) (congrArg (World.drewN _) (Nat.add_assoc _ _ _))⟩))))
                                      go_meet
                                      case rel => exact ⟨_, ((t205 == t208)), (t206), (t207), (by first | rfl | (simp; done) | (simp [*]; done)), H', ⟨by have := HJ2.out; have := HK2.out; have := HK3.out; have := HJ25.out; have := HJ32.out; first | omega | exact Nat.le_refl _⟩, ⟨by (try simp only [hl5_2]); (with_reducible repeat (first | refine blk_drewN ?_ _ | refine blk_drew ?_ | refine blk_alloc ?_ _)); exact BK204.out⟩, ⟨by repeat (first | (with_reducible first | exact HI199.out | apply IsS75.alloc | apply IsS75.drewN | apply IsS75.drew | apply IsS75.set_1 | refine IsS75.far ?_ NB199_204.out FB199_204.out _) | exact HI199.out)⟩, ⟨by repeat (first | (with_reducible first | exact HB.out | apply below_alloc | apply pw_below_drewN | apply below_drew1 | refine below_set ?_ (IsS75.ge HI199.out) | refine below_set ?_ GE204.out) | exact HB.out)⟩⟩
                                    · rw [if_neg c42] at H
                                      have c42b0 : (((rd_T67 l1 x47_3).f0) == 1) = false := beq_eq_false_iff_ne.mpr c42
                                      have c42b1 : (((rd_T67 l1 x47_3).f0) != 1) = true := bne_iff_ne.mpr c42
                                      (first | rw [c42b0] | (simp only [i64_w, i32_w]; rw [c42b0]) | skip)
                                      by_cases c48 : ((rd_T67 l1 x47_3).f0) = 2
                                      · rw [if_pos c48] at H
                                        have c48b0 : (((rd_T67 l1 x47_3).f0) == 2) = true := beq_iff_eq.mpr c48
                                        have c48b1 : (((rd_T67 l1 x47_3).f0) != 2) = false := bne_eq_false_iff_eq.mpr c48
                                        clear c48
                                        replace H := Option.bind_eq_some_iff.mp H
                                        obtain ⟨⟨t209, t210, t211⟩, A490, H⟩ := H
                                        replace H : ((credenzaref06_Signed.f kj32 x13_32).bind fun t212 => (credenzalaw06_SealReads.j5 kj32 x8_32 x9_32 (t209 == t212) l1 (l1.length : Int) x47_3 t210 t211)) = some r := H
                                        have A49 := Aside0.mk A490
                                        clear A490
                                        replace H := Option.bind_eq_some_iff.mp H
                                        obtain ⟨t212, A500, H⟩ := H
                                        replace H : (credenzalaw06_SealReads.j5 kj32 x8_32 x9_32 (t209 == t212) l1 (l1.length : Int) x47_3 t210 t211) = some r := H
                                        have A50 := Aside0.mk A500
                                        clear A500
                                        have H' := Aside0.mk H
                                        clear H
                                        go_wp2_with (first | (go_at_call 43; (with_reducible refine (seal_Reader_Signed.calls kj32 g199 x200000_3 x200001_3 t209 t210 t211 w _ ?side1 ?side2 A49.out).mono ?_); (case side1 => repeat (first | (with_reducible first | exact HI199.out | apply IsS75.alloc | apply IsS75.drewN | apply IsS75.drew | apply IsS75.set_1 | refine IsS75.far ?_ NB199_204.out FB199_204.out _) | exact HI199.out)); (case side2 => repeat (first | (with_reducible first | exact HB.out | apply below_alloc | apply pw_below_drewN | apply below_drew1 | refine below_set ?_ (IsS75.ge HI199.out) | refine below_set ?_ GE204.out) | exact HB.out)); rintro e w51 ⟨rfl, hi, hb, hk⟩; have n0_ := Aside0.mk (KeepBut.blk hk (g' := gb204) (o := .cells #[.int .i64 ((rd_T67 l1 x47_3).f0), .int .i64 ((rd_T67 l1 x47_3).f1)] 67 (0, 0)) (by (with_reducible repeat (first | refine blk_drewN ?_ _ | refine blk_drew ?_ | refine blk_alloc ?_ _)); exact BK204.out) NB204_199.out (by simp)); have n1_ := Aside0.mk (hb); have n2_ := Aside0.mk (hi); clear BK204; clear HB; clear HI199; have BK204 := n0_; have HB := n1_; have HI199 := n2_; clear n0_ n1_ n2_; (try clear hb); (try clear hb2); (try clear hk); (try clear hi)) | (go_at_call 44; (with_reducible refine (credenzaref06_Signed.calls kj32 x13_32 t212 _ A50.out).mono ?_); rintro e w' ⟨rfl, ⟨nd, rfl⟩⟩; (try first | exact ⟨rfl, _, World.drewN_drewN _ _ _⟩ | exact ⟨rfl, _, Eq.trans (World.drewN_drewN _ _ _) (congrArg (World.drewN _) (Nat.add_assoc _ _ _))⟩)))
                                        repeat (go_quiet (first | (go_at_call 43; (with_reducible refine (seal_Reader_Signed.calls kj32 g199 x200000_3 x200001_3 t209 t210 t211 w _ ?side1 ?side2 A49.out).mono ?_); (case side1 => repeat (first | (with_reducible first | exact HI199.out | apply IsS75.alloc | apply IsS75.drewN | apply IsS75.drew | apply IsS75.set_1 | refine IsS75.far ?_ NB199_204.out FB199_204.out _) | exact HI199.out)); (case side2 => repeat (first | (with_reducible first | exact HB.out | apply below_alloc | apply pw_below_drewN | apply below_drew1 | refine below_set ?_ (IsS75.ge HI199.out) | refine below_set ?_ GE204.out) | exact HB.out)); rintro e w51 ⟨rfl, hi, hb, hk⟩; have n0_ := Aside0.mk (KeepBut.blk hk (g' := gb204) (o := .cells #[.int .i64 ((rd_T67 l1 x47_3).f0), .int .i64 ((rd_T67 l1 x47_3).f1)] 67 (0, 0)) (by (with_reducible repeat (first | refine blk_drewN ?_ _ | refine blk_drew ?_ | refine blk_alloc ?_ _)); exact BK204.out) NB204_199.out (by simp)); have n1_ := Aside0.mk (hb); have n2_ := Aside0.mk (hi); clear BK204; clear HB; clear HI199; have BK204 := n0_; have HB := n1_; have HI199 := n2_; clear n0_ n1_ n2_; (try clear hb); (try clear hb2); (try clear hk); (try clear hi)) | (go_at_call 44; (with_reducible refine (credenzaref06_Signed.calls kj32 x13_32 t212 _ A50.out).mono ?_); rintro e w' ⟨rfl, ⟨nd, rfl⟩⟩; (try first | exact ⟨rfl, _, World.drewN_drewN _ _ _⟩ | exact ⟨rfl, _, Eq.trans (World.drewN_drewN _ _ _) (congrArg (World.drewN _) (Nat.add_assoc _ _ _))⟩))); try go_wp2_with (first | (go_at_call 43; (with_reducible refine (seal_Reader_Signed.calls kj32 g199 x200000_3 x200001_3 t209 t210 t211 w _ ?side1 ?side2 A49.out).mono ?_); (case side1 => repeat (first | (with_reducible first | exact HI199.out | apply IsS75.alloc | apply IsS75.drewN | apply IsS75.drew | apply IsS75.set_1 | refine IsS75.far ?_ NB199_204.out FB199_204.out _) | exact HI199.out)); (case side2 => repeat (first | (with_reducible first | exact HB.out | apply below_alloc | apply pw_below_drewN | apply below_drew1 | refine below_set ?_ (IsS75.ge HI199.out) | refine below_set ?_ GE204.out) | exact HB.out)); rintro e w51 ⟨rfl, hi, hb, hk⟩; have n0_ := Aside0.mk (KeepBut.blk hk (g' := gb204) (o := .cells #[.int .i64 ((rd_T67 l1 x47_3).f0), .int .i64 ((rd_T67 l1 x47_3).f1)] 67 (0, 0)) (by (with_reducible repeat (first | refine blk_drewN ?_ _ | refine blk_drew ?_ | refine blk_alloc ?_ _)); exact BK204.out) NB204_199.out (by simp)); have n1_ := Aside0.mk (hb); have n2_ := Aside0.mk (hi); clear BK204; clear HB; clear HI199; have BK204 := n0_; have HB := n1_; have HI199 := n2_; clear n0_ n1_ n2_; (try clear hb); (try clear hb2); (try clear hk); (try clear hi)) | (go_at_call 44; (with_reducible refine (credenzaref06_Signed.calls kj32 x13_32 t212 _ A50.out).mono ?_); rintro e w' ⟨rfl, ⟨nd, rfl⟩⟩; (try first | exact ⟨rfl, _, World.drewN_drewN _ _ _⟩ | exact ⟨rfl, _, Eq.trans (World.drewN_drewN _ _ _) (congrArg (World.drewN _) (Nat.add_assoc _ _ _))⟩))))
                                        go_meet
                                        case rel => exact ⟨_, ((t209 == t212)), (t210), (t211), (by first | rfl | (simp; done) | (simp [*]; done)), H', ⟨by have := HJ2.out; have := HK2.out; have := HK3.out; have := HJ25.out; have := HJ32.out; first | omega | exact Nat.le_refl _⟩, ⟨by (try simp only [hl5_2]); (with_reducible repeat (first | refine blk_drewN ?_ _ | refine blk_drew ?_ | refine blk_alloc ?_ _)); exact BK204.out⟩, ⟨by repeat (first | (with_reducible first | exact HI199.out | apply IsS75.alloc | apply IsS75.drewN | apply IsS75.drew | apply IsS75.set_1 | refine IsS75.far ?_ NB199_204.out FB199_204.out _) | exact HI199.out)⟩, ⟨by repeat (first | (with_reducible first | exact HB.out | apply below_alloc | apply pw_below_drewN | apply below_drew1 | refine below_set ?_ (IsS75.ge HI199.out) | refine below_set ?_ GE204.out) | exact HB.out)⟩⟩
                                      · rw [if_neg c48] at H
                                        have c48b0 : (((rd_T67 l1 x47_3).f0) == 2) = false := beq_eq_false_iff_ne.mpr c48
                                        have c48b1 : (((rd_T67 l1 x47_3).f0) != 2) = true := bne_iff_ne.mpr c48
                                        replace H := Option.bind_eq_some_iff.mp H
                                        obtain ⟨⟨t213, t216, t217⟩, A520, H⟩ := H
                                        replace H : (credenzalaw06_SealReads.j5 kj32 x8_32 x9_32 ((strOfNums t213).toList == x13_32.toList) l1 (l1.length : Int) x47_3 t216 t217) = some r := H
                                        have A52 := Aside0.mk A520
                                        clear A520
                                        have H' := Aside0.mk H
                                        clear H
                                        have hnb53 := NB204_199.out
                                        have hnc53 := NB199_204.out
                                        have hcz54_0 : wc.cell? ⟨gb204, 0, none⟩ = some (.int .i64 ((rd_T67 l1 x47_3).f0)) := (blk_cell BK204.out 0).trans rfl
                                        have hcz54_1 : wc.cell? ⟨gb204, 1, none⟩ = some (.int .i64 ((rd_T67 l1 x47_3).f1)) := (blk_cell BK204.out 1).trans rfl
                                        have hfz54_0 := blk_frozen BK204.out 0
                                        have hfz54_1 := blk_frozen BK204.out 1
                                        go_wp2_with (first | (go_at_call 37; (with_reducible refine (seal_Reader_Take.calls g199 x200000_3 x200001_3 ((rd_T67 l1 x47_3).f1) t213 t216 t217 w _ ?side1 ?side2 A52.out).mono ?_); (case side1 => repeat (first | (with_reducible first | exact HI199.out | apply IsS75.alloc | apply IsS75.drewN | apply IsS75.drew | apply IsS75.set_1 | refine IsS75.far ?_ NB199_204.out FB199_204.out _) | exact HI199.out)); (case side2 => repeat (first | (with_reducible first | exact HB.out | apply below_alloc | apply pw_below_drewN | apply below_drew1 | refine below_set ?_ (IsS75.ge HI199.out) | refine below_set ?_ GE204.out) | exact HB.out)); rintro e w55 ⟨v214, rfl, ho0, hi, hb, hk⟩; have n0_ := Aside0.mk (KeepBut.blk hk (g' := gb204) (o := .cells #[.int .i64 ((rd_T67 l1 x47_3).f0), .int .i64 ((rd_T67 l1 x47_3).f1)] 67 (0, 0)) (by (with_reducible repeat (first | refine blk_drewN ?_ _ | refine blk_drew ?_ | refine blk_alloc ?_ _)); exact BK204.out) NB204_199.out (by simp)); have n1_ := Aside0.mk (Kd.R_lower ho0 (below_size (by repeat (first | (with_reducible first | exact HB.out | apply below_alloc | apply pw_below_drewN | apply below_drew1 | refine below_set ?_ (IsS75.ge HI199.out) | refine below_set ?_ GE204.out) | exact HB.out)))); have n2_ := Aside0.mk (hb); have n3_ := Aside0.mk (hi); clear BK204; clear HB; clear HI199; have BK204 := n0_; have HO215 := n1_; have HB := n2_; have HI199 := n3_; clear n0_ n1_ n2_ n3_; (try clear hb); (try clear hb2); (try clear hk); (try clear hi); (try clear ho0); have hcv56 := own_string (P := Try.prog) Try.underlying41 Try.underlying5 Try.underlying9 (Kd.own_of_R HO215.out)))
                                        repeat (go_quiet (first | (go_at_call 37; (with_reducible refine (seal_Reader_Take.calls g199 x200000_3 x200001_3 ((rd_T67 l1 x47_3).f1) t213 t216 t217 w _ ?side1 ?side2 A52.out).mono ?_); (case side1 => repeat (first | (with_reducible first | exact HI199.out | apply IsS75.alloc | apply IsS75.drewN | apply IsS75.drew | apply IsS75.set_1 | refine IsS75.far ?_ NB199_204.out FB199_204.out _) | exact HI199.out)); (case side2 => repeat (first | (with_reducible first | exact HB.out | apply below_alloc | apply pw_below_drewN | apply below_drew1 | refine below_set ?_ (IsS75.ge HI199.out) | refine below_set ?_ GE204.out) | exact HB.out)); rintro e w55 ⟨v214, rfl, ho0, hi, hb, hk⟩; have n0_ := Aside0.mk (KeepBut.blk hk (g' := gb204) (o := .cells #[.int .i64 ((rd_T67 l1 x47_3).f0), .int .i64 ((rd_T67 l1 x47_3).f1)] 67 (0, 0)) (by (with_reducible repeat (first | refine blk_drewN ?_ _ | refine blk_drew ?_ | refine blk_alloc ?_ _)); exact BK204.out) NB204_199.out (by simp)); have n1_ := Aside0.mk (Kd.R_lower ho0 (below_size (by repeat (first | (with_reducible first | exact HB.out | apply below_alloc | apply pw_below_drewN | apply below_drew1 | refine below_set ?_ (IsS75.ge HI199.out) | refine below_set ?_ GE204.out) | exact HB.out)))); have n2_ := Aside0.mk (hb); have n3_ := Aside0.mk (hi); clear BK204; clear HB; clear HI199; have BK204 := n0_; have HO215 := n1_; have HB := n2_; have HI199 := n3_; clear n0_ n1_ n2_ n3_; (try clear hb); (try clear hb2); (try clear hk); (try clear hi); (try clear ho0); have hcv56 := own_string (P := Try.prog) Try.underlying41 Try.underlying5 Try.underlying9 (Kd.own_of_R HO215.out))); try go_wp2_with (first | (go_at_call 37; (with_reducible refine (seal_Reader_Take.calls g199 x200000_3 x200001_3 ((rd_T67 l1 x47_3).f1) t213 t216 t217 w _ ?side1 ?side2 A52.out).mono ?_); (case side1 => repeat (first | (with_reducible first | exact HI199.out | apply IsS75.alloc | apply IsS75.drewN | apply IsS75.drew | apply IsS75.set_1 | refine IsS75.far ?_ NB199_204.out FB199_204.out _) | exact HI199.out)); (case side2 => repeat (first | (with_reducible first | exact HB.out | apply below_alloc | apply pw_below_drewN | apply below_drew1 | refine below_set ?_ (IsS75.ge HI199.out) | refine below_set ?_ GE204.out) | exact HB.out)); rintro e w55 ⟨v214, rfl, ho0, hi, hb, hk⟩; have n0_ := Aside0.mk (KeepBut.blk hk (g' := gb204) (o := .cells #[.int .i64 ((rd_T67 l1 x47_3).f0), .int .i64 ((rd_T67 l1 x47_3).f1)] 67 (0, 0)) (by (with_reducible repeat (first | refine blk_drewN ?_ _ | refine blk_drew ?_ | refine blk_alloc ?_ _)); exact BK204.out) NB204_199.out (by simp)); have n1_ := Aside0.mk (Kd.R_lower ho0 (below_size (by repeat (first | (with_reducible first | exact HB.out | apply below_alloc | apply pw_below_drewN | apply below_drew1 | refine below_set ?_ (IsS75.ge HI199.out) | refine below_set ?_ GE204.out) | exact HB.out)))); have n2_ := Aside0.mk (hb); have n3_ := Aside0.mk (hi); clear BK204; clear HB; clear HI199; have BK204 := n0_; have HO215 := n1_; have HB := n2_; have HI199 := n3_; clear n0_ n1_ n2_ n3_; (try clear hb); (try clear hb2); (try clear hk); (try clear hi); (try clear ho0); have hcv56 := own_string (P := Try.prog) Try.underlying41 Try.underlying5 Try.underlying9 (Kd.own_of_R HO215.out))))
                                        go_meet
                                        case rel => exact ⟨_, (((strOfNums t213).toList == x13_32.toList)), (t216), (t217), (by first | rfl | (simp; done) | (simp [*]; done)), H', ⟨by have := HJ2.out; have := HK2.out; have := HK3.out; have := HJ25.out; have := HJ32.out; first | omega | exact Nat.le_refl _⟩, ⟨by (try simp only [hl5_2]); (with_reducible repeat (first | refine blk_drewN ?_ _ | refine blk_drew ?_ | refine blk_alloc ?_ _)); exact BK204.out⟩, ⟨by repeat (first | (with_reducible first | exact HI199.out | apply IsS75.alloc | apply IsS75.drewN | apply IsS75.drew | apply IsS75.set_1 | refine IsS75.far ?_ NB199_204.out FB199_204.out _) | exact HI199.out)⟩, ⟨by repeat (first | (with_reducible first | exact HB.out | apply below_alloc | apply pw_below_drewN | apply below_drew1 | refine below_set ?_ (IsS75.ge HI199.out) | refine below_set ?_ GE204.out) | exact HB.out)⟩⟩
                                  case rest =>
                                    clear HC39
                                    try clear c1
                                    try clear p1
                                    try clear q1
                                    try clear hx1
                                    try clear c2
                                    try clear p2
                                    try clear q2
                                    try clear hx2
                                    try clear hcv2
                                    try clear c3
                                    try clear c4
                                    try clear c4b0
                                    try clear c4b1
                                    try clear c5
                                    try clear hcv5
                                    try clear p6
                                    try clear c8
                                    try clear c12
                                    try clear c15
                                    try clear c15b0
                                    try clear c16
                                    try clear c16b0
                                    try clear c17
                                    try clear c17b0
                                    try clear p18
                                    try clear q18
                                    try clear hx18
                                    try clear hf18
                                    try clear p20
                                    try clear q20
                                    try clear hx20
                                    try clear hcv21
                                    try clear c22
                                    try clear c22b0
                                    try clear c23
                                    try clear c23b0
                                    try clear c24
                                    try clear c24b0
                                    try clear c28
                                    try clear c30
                                    try clear c30b0
                                    try clear c30b1
                                    try clear c32
                                    try clear c32b0
                                    try clear c32b1
                                    try clear c34
                                    try clear c34b0
                                    try clear c35
                                    try clear c35b0
                                    try clear c35b1
                                    try clear c36
                                    try clear c36b0
                                    try clear c36b1
                                    try clear c37
                                    try clear c37b0
                                    try clear c38
                                    try clear c38b0
                                    try clear c40
                                    try clear c42
                                    try clear c42b0
                                    try clear c42b1
                                    try clear c45
                                    try clear c48
                                    try clear c48b0
                                    try clear c48b1
                                    try clear c53
                                    try clear hcv56
                                    try clear hcz29_0
                                    try clear hcz29_1
                                    try clear hcz41_0
                                    try clear hcz41_1
                                    try clear hcz46_0
                                    try clear hcz46_1
                                    try clear hcz54_0
                                    try clear hcz54_1
                                    try clear hfz29_0
                                    try clear hfz29_1
                                    try clear hfz41_0
                                    try clear hfz41_1
                                    try clear hfz46_0
                                    try clear hfz46_1
                                    try clear hfz54_0
                                    try clear hfz54_1
                                    try clear hx18_0
                                    try clear hx200_0
                                    try clear hx203_0
                                    try clear hx203_1
                                    try clear p1
                                    try clear p18
                                    try clear p2
                                    try clear p20
                                    try clear p200
                                    try clear p203
                                    try clear p6
                                    try clear q1
                                    try clear q18
                                    try clear q2
                                    try clear q20
                                    try clear q200
                                    try clear q203
                                    obtain ⟨kq, x14_38, x200000_38, x200001_38, rfl, HA, HJ38, BK204, HI199, HB⟩ := hcut
                                    cases kq with
                                    | zero => exact absurd HA.out (by simp [credenzalaw06_SealReads.j5])
                                    | succ kj38 =>
                                      have H := HA.out
                                      clear HA
                                      simp only [credenzalaw06_SealReads.j5] at H
                                      by_cases c57 : x14_38 = true
                                      · subst c57
                                        have H1 : ((seal_Reader_Left.f x200000_38 x200001_38).bind fun bt218 => (if bt218.1 = (x8_32.size : Int) then ((seal_Reader_Short.f bt218.2.1 bt218.2.2).bind fun bt221 => (if (bt221.1 != x9_32) = true then (some false) else (credenzalaw06_SealReads.l1 kj38 x8_32 x9_32 l1 (l1.length : Int) (wrap64 (x47_3 + 1)) bt221.2.1 bt221.2.2))) else (some false))) = some r := by rw [if_pos rfl] at H; exact H
                                        clear H
                                        have H := H1
                                        clear H1
                                        replace H := Option.bind_eq_some_iff.mp H
                                        obtain ⟨⟨t218, t219, t220⟩, A580, H⟩ := H
                                        replace H : (if t218 = (x8_32.size : Int) then ((seal_Reader_Short.f t219 t220).bind fun bt221 => (if (bt221.1 != x9_32) = true then (some false) else (credenzalaw06_SealReads.l1 kj38 x8_32 x9_32 l1 (l1.length : Int) (wrap64 (x47_3 + 1)) bt221.2.1 bt221.2.2))) else (some false)) = some r := H
                                        have A58 := Aside0.mk A580
                                        clear A580
                                        by_cases c59 : t218 = (x8_32.size : Int)
                                        · rw [if_pos c59] at H
                                          have c59b0 : (t218 == (x8_32.size : Int)) = true := beq_iff_eq.mpr c59
                                          have c59b1 : (t218 != (x8_32.size : Int)) = false := bne_eq_false_iff_eq.mpr c59
                                          clear c59
                                          replace H := Option.bind_eq_some_iff.mp H
                                          obtain ⟨⟨t221, t222, t223⟩, A600, H⟩ := H
                                          replace H : (if (t221 != x9_32) = true then (some false) else (credenzalaw06_SealReads.l1 kj38 x8_32 x9_32 l1 (l1.length : Int) (wrap64 (x47_3 + 1)) t222 t223)) = some r := H
                                          have A60 := Aside0.mk A600
                                          clear A600
                                          by_cases c61 : (t221 != x9_32) = true
                                          · rw [if_pos c61] at H
                                            have c61b0 : (t221 != x9_32) = true := c61
                                            (try (have c61b1 : decide (t221 = x9_32) = false := by simpa using c61))
                                            (try (have c61b2 : (t221 == x9_32) = false := by simpa using c61))
                                            (try (have c61b3 : ¬ (t221 = x9_32) := by simpa using c61))
                                            clear c61
                                            obtain rfl := Option.some.inj H
                                            go_wp2_with (first | (go_at_call 40; (with_reducible refine (seal_Reader_Left.calls g199 x200000_38 x200001_38 t218 t219 t220 w _ ?side1 ?side2 A58.out).mono ?_); (case side1 => repeat (first | (with_reducible first | exact HI199.out | apply IsS75.alloc | apply IsS75.drewN | apply IsS75.drew | apply IsS75.set_1 | refine IsS75.far ?_ NB199_204.out FB199_204.out _) | exact HI199.out)); (case side2 => repeat (first | (with_reducible first | exact HB.out | apply below_alloc | apply pw_below_drewN | apply below_drew1 | refine below_set ?_ (IsS75.ge HI199.out) | refine below_set ?_ GE204.out) | exact HB.out)); rintro e w62 ⟨rfl, hi, hb, hk⟩; have n0_ := Aside0.mk (KeepBut.blk hk (g' := gb204) (o := .cells #[.int .i64 ((rd_T67 l1 x47_3).f0), .int .i64 ((rd_T67 l1 x47_3).f1)] 67 (0, 0)) (by (with_reducible repeat (first | refine blk_drewN ?_ _ | refine blk_drew ?_ | refine blk_alloc ?_ _)); exact BK204.out) NB204_199.out (by simp)); have n1_ := Aside0.mk (hb); have n2_ := Aside0.mk (hi); clear BK204; clear HB; clear HI199; have BK204 := n0_; have HB := n1_; have HI199 := n2_; clear n0_ n1_ n2_; (try clear hb); (try clear hb2); (try clear hk); (try clear hi)) | (go_at_call 41; (with_reducible refine (seal_Reader_Short.calls g199 t219 t220 t221 t222 t223 w _ ?side1 ?side2 A60.out).mono ?_); (case side1 => repeat (first | (with_reducible first | exact HI199.out | apply IsS75.alloc | apply IsS75.drewN | apply IsS75.drew | apply IsS75.set_1 | refine IsS75.far ?_ NB199_204.out FB199_204.out _) | exact HI199.out)); (case side2 => repeat (first | (with_reducible first | exact HB.out | apply below_alloc | apply pw_below_drewN | apply below_drew1 | refine below_set ?_ (IsS75.ge HI199.out) | refine below_set ?_ GE204.out) | exact HB.out)); rintro e w63 ⟨rfl, hi, hb, hk⟩; have n0_ := Aside0.mk (KeepBut.blk hk (g' := gb204) (o := .cells #[.int .i64 ((rd_T67 l1 x47_3).f0), .int .i64 ((rd_T67 l1 x47_3).f1)] 67 (0, 0)) (by (with_reducible repeat (first | refine blk_drewN ?_ _ | refine blk_drew ?_ | refine blk_alloc ?_ _)); exact BK204.out) NB204_199.out (by simp)); have n1_ := Aside0.mk (hb); have n2_ := Aside0.mk (hi); clear BK204; clear HB; clear HI199; have BK204 := n0_; have HB := n1_; have HI199 := n2_; clear n0_ n1_ n2_; (try clear hb); (try clear hb2); (try clear hk); (try clear hi)))
                                            repeat (go_quiet (first | (go_at_call 40; (with_reducible refine (seal_Reader_Left.calls g199 x200000_38 x200001_38 t218 t219 t220 w _ ?side1 ?side2 A58.out).mono ?_); (case side1 => repeat (first | (with_reducible first | exact HI199.out | apply IsS75.alloc | apply IsS75.drewN | apply IsS75.drew | apply IsS75.set_1 | refine IsS75.far ?_ NB199_204.out FB199_204.out _) | exact HI199.out)); (case side2 => repeat (first | (with_reducible first | exact HB.out | apply below_alloc | apply pw_below_drewN | apply below_drew1 | refine below_set ?_ (IsS75.ge HI199.out) | refine below_set ?_ GE204.out) | exact HB.out)); rintro e w62 ⟨rfl, hi, hb, hk⟩; have n0_ := Aside0.mk (KeepBut.blk hk (g' := gb204) (o := .cells #[.int .i64 ((rd_T67 l1 x47_3).f0), .int .i64 ((rd_T67 l1 x47_3).f1)] 67 (0, 0)) (by (with_reducible repeat (first | refine blk_drewN ?_ _ | refine blk_drew ?_ | refine blk_alloc ?_ _)); exact BK204.out) NB204_199.out (by simp)); have n1_ := Aside0.mk (hb); have n2_ := Aside0.mk (hi); clear BK204; clear HB; clear HI199; have BK204 := n0_; have HB := n1_; have HI199 := n2_; clear n0_ n1_ n2_; (try clear hb); (try clear hb2); (try clear hk); (try clear hi)) | (go_at_call 41; (with_reducible refine (seal_Reader_Short.calls g199 t219 t220 t221 t222 t223 w _ ?side1 ?side2 A60.out).mono ?_); (case side1 => repeat (first | (with_reducible first | exact HI199.out | apply IsS75.alloc | apply IsS75.drewN | apply IsS75.drew | apply IsS75.set_1 | refine IsS75.far ?_ NB199_204.out FB199_204.out _) | exact HI199.out)); (case side2 => repeat (first | (with_reducible first | exact HB.out | apply below_alloc | apply pw_below_drewN | apply below_drew1 | refine below_set ?_ (IsS75.ge HI199.out) | refine below_set ?_ GE204.out) | exact HB.out)); rintro e w63 ⟨rfl, hi, hb, hk⟩; have n0_ := Aside0.mk (KeepBut.blk hk (g' := gb204) (o := .cells #[.int .i64 ((rd_T67 l1 x47_3).f0), .int .i64 ((rd_T67 l1 x47_3).f1)] 67 (0, 0)) (by (with_reducible repeat (first | refine blk_drewN ?_ _ | refine blk_drew ?_ | refine blk_alloc ?_ _)); exact BK204.out) NB204_199.out (by simp)); have n1_ := Aside0.mk (hb); have n2_ := Aside0.mk (hi); clear BK204; clear HB; clear HI199; have BK204 := n0_; have HB := n1_; have HI199 := n2_; clear n0_ n1_ n2_; (try clear hb); (try clear hb2); (try clear hk); (try clear hi))); try go_wp2_with (first | (go_at_call 40; (with_reducible refine (seal_Reader_Left.calls g199 x200000_38 x200001_38 t218 t219 t220 w _ ?side1 ?side2 A58.out).mono ?_); (case side1 => repeat (first | (with_reducible first | exact HI199.out | apply IsS75.alloc | apply IsS75.drewN | apply IsS75.drew | apply IsS75.set_1 | refine IsS75.far ?_ NB199_204.out FB199_204.out _) | exact HI199.out)); (case side2 => repeat (first | (with_reducible first | exact HB.out | apply below_alloc | apply pw_below_drewN | apply below_drew1 | refine below_set ?_ (IsS75.ge HI199.out) | refine below_set ?_ GE204.out) | exact HB.out)); rintro e w62 ⟨rfl, hi, hb, hk⟩; have n0_ := Aside0.mk (KeepBut.blk hk (g' := gb204) (o := .cells #[.int .i64 ((rd_T67 l1 x47_3).f0), .int .i64 ((rd_T67 l1 x47_3).f1)] 67 (0, 0)) (by (with_reducible repeat (first | refine blk_drewN ?_ _ | refine blk_drew ?_ | refine blk_alloc ?_ _)); exact BK204.out) NB204_199.out (by simp)); have n1_ := Aside0.mk (hb); have n2_ := Aside0.mk (hi); clear BK204; clear HB; clear HI199; have BK204 := n0_; have HB := n1_; have HI199 := n2_; clear n0_ n1_ n2_; (try clear hb); (try clear hb2); (try clear hk); (try clear hi)) | (go_at_call 41; (with_reducible refine (seal_Reader_Short.calls g199 t219 t220 t221 t222 t223 w _ ?side1 ?side2 A60.out).mono ?_); (case side1 => repeat (first | (with_reducible first | exact HI199.out | apply IsS75.alloc | apply IsS75.drewN | apply IsS75.drew | apply IsS75.set_1 | refine IsS75.far ?_ NB199_204.out FB199_204.out _) | exact HI199.out)); (case side2 => repeat (first | (with_reducible first | exact HB.out | apply below_alloc | apply pw_below_drewN | apply below_drew1 | refine below_set ?_ (IsS75.ge HI199.out) | refine below_set ?_ GE204.out) | exact HB.out)); rintro e w63 ⟨rfl, hi, hb, hk⟩; have n0_ := Aside0.mk (KeepBut.blk hk (g' := gb204) (o := .cells #[.int .i64 ((rd_T67 l1 x47_3).f0), .int .i64 ((rd_T67 l1 x47_3).f1)] 67 (0, 0)) (by (with_reducible repeat (first | refine blk_drewN ?_ _ | refine blk_drew ?_ | refine blk_alloc ?_ _)); exact BK204.out) NB204_199.out (by simp)); have n1_ := Aside0.mk (hb); have n2_ := Aside0.mk (hi); clear BK204; clear HB; clear HI199; have BK204 := n0_; have HB := n1_; have HI199 := n2_; clear n0_ n1_ n2_; (try clear hb); (try clear hb2); (try clear hk); (try clear hi))))
                                            go_ret
                                            exact ⟨by first | rfl | (simp [errW_none, errW_some] <;> rfl) | (simp only [← hji25]; first | rfl | (simp [errW_none, errW_some] <;> rfl)) | (simp [*, errW_none, errW_some] <;> rfl), by repeat (first | (with_reducible first | exact HB.out | apply below_alloc | apply pw_below_drewN | apply below_drew1 | refine below_set ?_ (IsS75.ge HI199.out) | refine below_set ?_ GE204.out) | exact HB.out)⟩
                                          · rw [if_neg c61] at H
                                            have c61b0 : (t221 != x9_32) = false := by simpa using c61
                                            (try (have c61b1 : decide (t221 = x9_32) = true := by simpa using c61))
                                            (try (have c61b2 : (t221 == x9_32) = true := by simpa using c61))
                                            clear c61
                                            have H' := Aside0.mk H
                                            clear H
                                            go_wp2_with (first | (go_at_call 40; (with_reducible refine (seal_Reader_Left.calls g199 x200000_38 x200001_38 t218 t219 t220 w _ ?side1 ?side2 A58.out).mono ?_); (case side1 => repeat (first | (with_reducible first | exact HI199.out | apply IsS75.alloc | apply IsS75.drewN | apply IsS75.drew | apply IsS75.set_1 | refine IsS75.far ?_ NB199_204.out FB199_204.out _) | exact HI199.out)); (case side2 => repeat (first | (with_reducible first | exact HB.out | apply below_alloc | apply pw_below_drewN | apply below_drew1 | refine below_set ?_ (IsS75.ge HI199.out) | refine below_set ?_ GE204.out) | exact HB.out)); rintro e w64 ⟨rfl, hi, hb, hk⟩; have n0_ := Aside0.mk (KeepBut.blk hk (g' := gb204) (o := .cells #[.int .i64 ((rd_T67 l1 x47_3).f0), .int .i64 ((rd_T67 l1 x47_3).f1)] 67 (0, 0)) (by (with_reducible repeat (first | refine blk_drewN ?_ _ | refine blk_drew ?_ | refine blk_alloc ?_ _)); exact BK204.out) NB204_199.out (by simp)); have n1_ := Aside0.mk (hb); have n2_ := Aside0.mk (hi); clear BK204; clear HB; clear HI199; have BK204 := n0_; have HB := n1_; have HI199 := n2_; clear n0_ n1_ n2_; (try clear hb); (try clear hb2); (try clear hk); (try clear hi)) | (go_at_call 41; (with_reducible refine (seal_Reader_Short.calls g199 t219 t220 t221 t222 t223 w _ ?side1 ?side2 A60.out).mono ?_); (case side1 => repeat (first | (with_reducible first | exact HI199.out | apply IsS75.alloc | apply IsS75.drewN | apply IsS75.drew | apply IsS75.set_1 | refine IsS75.far ?_ NB199_204.out FB199_204.out _) | exact HI199.out)); (case side2 => repeat (first | (with_reducible first | exact HB.out | apply below_alloc | apply pw_below_drewN | apply below_drew1 | refine below_set ?_ (IsS75.ge HI199.out) | refine below_set ?_ GE204.out) | exact HB.out)); rintro e w65 ⟨rfl, hi, hb, hk⟩; have n0_ := Aside0.mk (KeepBut.blk hk (g' := gb204) (o := .cells #[.int .i64 ((rd_T67 l1 x47_3).f0), .int .i64 ((rd_T67 l1 x47_3).f1)] 67 (0, 0)) (by (with_reducible repeat (first | refine blk_drewN ?_ _ | refine blk_drew ?_ | refine blk_alloc ?_ _)); exact BK204.out) NB204_199.out (by simp)); have n1_ := Aside0.mk (hb); have n2_ := Aside0.mk (hi); clear BK204; clear HB; clear HI199; have BK204 := n0_; have HB := n1_; have HI199 := n2_; clear n0_ n1_ n2_; (try clear hb); (try clear hb2); (try clear hk); (try clear hi)))
                                            repeat (go_quiet (first | (go_at_call 40; (with_reducible refine (seal_Reader_Left.calls g199 x200000_38 x200001_38 t218 t219 t220 w _ ?side1 ?side2 A58.out).mono ?_); (case side1 => repeat (first | (with_reducible first | exact HI199.out | apply IsS75.alloc | apply IsS75.drewN | apply IsS75.drew | apply IsS75.set_1 | refine IsS75.far ?_ NB199_204.out FB199_204.out _) | exact HI199.out)); (case side2 => repeat (first | (with_reducible first | exact HB.out | apply below_alloc | apply pw_below_drewN | apply below_drew1 | refine below_set ?_ (IsS75.ge HI199.out) | refine below_set ?_ GE204.out) | exact HB.out)); rintro e w64 ⟨rfl, hi, hb, hk⟩; have n0_ := Aside0.mk (KeepBut.blk hk (g' := gb204) (o := .cells #[.int .i64 ((rd_T67 l1 x47_3).f0), .int .i64 ((rd_T67 l1 x47_3).f1)] 67 (0, 0)) (by (with_reducible repeat (first | refine blk_drewN ?_ _ | refine blk_drew ?_ | refine blk_alloc ?_ _)); exact BK204.out) NB204_199.out (by simp)); have n1_ := Aside0.mk (hb); have n2_ := Aside0.mk (hi); clear BK204; clear HB; clear HI199; have BK204 := n0_; have HB := n1_; have HI199 := n2_; clear n0_ n1_ n2_; (try clear hb); (try clear hb2); (try clear hk); (try clear hi)) | (go_at_call 41; (with_reducible refine (seal_Reader_Short.calls g199 t219 t220 t221 t222 t223 w _ ?side1 ?side2 A60.out).mono ?_); (case side1 => repeat (first | (with_reducible first | exact HI199.out | apply IsS75.alloc | apply IsS75.drewN | apply IsS75.drew | apply IsS75.set_1 | refine IsS75.far ?_ NB199_204.out FB199_204.out _) | exact HI199.out)); (case side2 => repeat (first | (with_reducible first | exact HB.out | apply below_alloc | apply pw_below_drewN | apply below_drew1 | refine below_set ?_ (IsS75.ge HI199.out) | refine below_set ?_ GE204.out) | exact HB.out)); rintro e w65 ⟨rfl, hi, hb, hk⟩; have n0_ := Aside0.mk (KeepBut.blk hk (g' := gb204) (o := .cells #[.int .i64 ((rd_T67 l1 x47_3).f0), .int .i64 ((rd_T67 l1 x47_3).f1)] 67 (0, 0)) (by (with_reducible repeat (first | refine blk_drewN ?_ _ | refine blk_drew ?_ | refine blk_alloc ?_ _)); exact BK204.out) NB204_199.out (by simp)); have n1_ := Aside0.mk (hb); have n2_ := Aside0.mk (hi); clear BK204; clear HB; clear HI199; have BK204 := n0_; have HB := n1_; have HI199 := n2_; clear n0_ n1_ n2_; (try clear hb); (try clear hb2); (try clear hk); (try clear hi))); try go_wp2_with (first | (go_at_call 40; (with_reducible refine (seal_Reader_Left.calls g199 x200000_38 x200001_38 t218 t219 t220 w _ ?side1 ?side2 A58.out).mono ?_); (case side1 => repeat (first | (with_reducible first | exact HI199.out | apply IsS75.alloc | apply IsS75.drewN | apply IsS75.drew | apply IsS75.set_1 | refine IsS75.far ?_ NB199_204.out FB199_204.out _) | exact HI199.out)); (case side2 => repeat (first | (with_reducible first | exact HB.out | apply below_alloc | apply pw_below_drewN | apply below_drew1 | refine below_set ?_ (IsS75.ge HI199.out) | refine below_set ?_ GE204.out) | exact HB.out)); rintro e w64 ⟨rfl, hi, hb, hk⟩; have n0_ := Aside0.mk (KeepBut.blk hk (g' := gb204) (o := .cells #[.int .i64 ((rd_T67 l1 x47_3).f0), .int .i64 ((rd_T67 l1 x47_3).f1)] 67 (0, 0)) (by (with_reducible repeat (first | refine blk_drewN ?_ _ | refine blk_drew ?_ | refine blk_alloc ?_ _)); exact BK204.out) NB204_199.out (by simp)); have n1_ := Aside0.mk (hb); have n2_ := Aside0.mk (hi); clear BK204; clear HB; clear HI199; have BK204 := n0_; have HB := n1_; have HI199 := n2_; clear n0_ n1_ n2_; (try clear hb); (try clear hb2); (try clear hk); (try clear hi)) | (go_at_call 41; (with_reducible refine (seal_Reader_Short.calls g199 t219 t220 t221 t222 t223 w _ ?side1 ?side2 A60.out).mono ?_); (case side1 => repeat (first | (with_reducible first | exact HI199.out | apply IsS75.alloc | apply IsS75.drewN | apply IsS75.drew | apply IsS75.set_1 | refine IsS75.far ?_ NB199_204.out FB199_204.out _) | exact HI199.out)); (case side2 => repeat (first | (with_reducible first | exact HB.out | apply below_alloc | apply pw_below_drewN | apply below_drew1 | refine below_set ?_ (IsS75.ge HI199.out) | refine below_set ?_ GE204.out) | exact HB.out)); rintro e w65 ⟨rfl, hi, hb, hk⟩; have n0_ := Aside0.mk (KeepBut.blk hk (g' := gb204) (o := .cells #[.int .i64 ((rd_T67 l1 x47_3).f0), .int .i64 ((rd_T67 l1 x47_3).f1)] 67 (0, 0)) (by (with_reducible repeat (first | refine blk_drewN ?_ _ | refine blk_drew ?_ | refine blk_alloc ?_ _)); exact BK204.out) NB204_199.out (by simp)); have n1_ := Aside0.mk (hb); have n2_ := Aside0.mk (hi); clear BK204; clear HB; clear HI199; have BK204 := n0_; have HB := n1_; have HI199 := n2_; clear n0_ n1_ n2_; (try clear hb); (try clear hb2); (try clear hk); (try clear hi))))
                                            go_roundg kj38
                                            case measure => have := HJ2.out; have := HK2.out; have := HK3.out; have := HJ25.out; have := HJ32.out; have := HJ38.out; omega
                                            case rel => exact ⟨(x8_32), (x9_32), (wrap64 (x47_3 + 1)), (t222), (t223), (by first | rfl | (simp; done) | (simp [*]; done)), (by first | rfl | (simp; done) | (simp [*]; done)), (by first | rfl | (simp; done) | (simp [*]; done)), H', ⟨by have := HJ2.out; have := HK2.out; have := HK3.out; have := HJ25.out; have := HJ32.out; have := HJ38.out; omega⟩, ⟨by repeat (first | (with_reducible first | exact HI199.out | apply IsS75.alloc | apply IsS75.drewN | apply IsS75.drew | apply IsS75.set_1 | refine IsS75.far ?_ NB199_204.out FB199_204.out _) | exact HI199.out)⟩, ⟨by repeat (first | (with_reducible first | exact HB.out | apply below_alloc | apply pw_below_drewN | apply below_drew1 | refine below_set ?_ (IsS75.ge HI199.out) | refine below_set ?_ GE204.out) | exact HB.out)⟩⟩
                                        · rw [if_neg c59] at H
                                          have c59b0 : (t218 == (x8_32.size : Int)) = false := beq_eq_false_iff_ne.mpr c59
                                          have c59b1 : (t218 != (x8_32.size : Int)) = true := bne_iff_ne.mpr c59
                                          obtain rfl := Option.some.inj H
                                          go_wp2_with (first | (go_at_call 40; (with_reducible refine (seal_Reader_Left.calls g199 x200000_38 x200001_38 t218 t219 t220 w _ ?side1 ?side2 A58.out).mono ?_); (case side1 => repeat (first | (with_reducible first | exact HI199.out | apply IsS75.alloc | apply IsS75.drewN | apply IsS75.drew | apply IsS75.set_1 | refine IsS75.far ?_ NB199_204.out FB199_204.out _) | exact HI199.out)); (case side2 => repeat (first | (with_reducible first | exact HB.out | apply below_alloc | apply pw_below_drewN | apply below_drew1 | refine below_set ?_ (IsS75.ge HI199.out) | refine below_set ?_ GE204.out) | exact HB.out)); rintro e w66 ⟨rfl, hi, hb, hk⟩; have n0_ := Aside0.mk (KeepBut.blk hk (g' := gb204) (o := .cells #[.int .i64 ((rd_T67 l1 x47_3).f0), .int .i64 ((rd_T67 l1 x47_3).f1)] 67 (0, 0)) (by (with_reducible repeat (first | refine blk_drewN ?_ _ | refine blk_drew ?_ | refine blk_alloc ?_ _)); exact BK204.out) NB204_199.out (by simp)); have n1_ := Aside0.mk (hb); have n2_ := Aside0.mk (hi); clear BK204; clear HB; clear HI199; have BK204 := n0_; have HB := n1_; have HI199 := n2_; clear n0_ n1_ n2_; (try clear hb); (try clear hb2); (try clear hk); (try clear hi)))
                                          repeat (go_quiet (first | (go_at_call 40; (with_reducible refine (seal_Reader_Left.calls g199 x200000_38 x200001_38 t218 t219 t220 w _ ?side1 ?side2 A58.out).mono ?_); (case side1 => repeat (first | (with_reducible first | exact HI199.out | apply IsS75.alloc | apply IsS75.drewN | apply IsS75.drew | apply IsS75.set_1 | refine IsS75.far ?_ NB199_204.out FB199_204.out _) | exact HI199.out)); (case side2 => repeat (first | (with_reducible first | exact HB.out | apply below_alloc | apply pw_below_drewN | apply below_drew1 | refine below_set ?_ (IsS75.ge HI199.out) | refine below_set ?_ GE204.out) | exact HB.out)); rintro e w66 ⟨rfl, hi, hb, hk⟩; have n0_ := Aside0.mk (KeepBut.blk hk (g' := gb204) (o := .cells #[.int .i64 ((rd_T67 l1 x47_3).f0), .int .i64 ((rd_T67 l1 x47_3).f1)] 67 (0, 0)) (by (with_reducible repeat (first | refine blk_drewN ?_ _ | refine blk_drew ?_ | refine blk_alloc ?_ _)); exact BK204.out) NB204_199.out (by simp)); have n1_ := Aside0.mk (hb); have n2_ := Aside0.mk (hi); clear BK204; clear HB; clear HI199; have BK204 := n0_; have HB := n1_; have HI199 := n2_; clear n0_ n1_ n2_; (try clear hb); (try clear hb2); (try clear hk); (try clear hi))); try go_wp2_with (first | (go_at_call 40; (with_reducible refine (seal_Reader_Left.calls g199 x200000_38 x200001_38 t218 t219 t220 w _ ?side1 ?side2 A58.out).mono ?_); (case side1 => repeat (first | (with_reducible first | exact HI199.out | apply IsS75.alloc | apply IsS75.drewN | apply IsS75.drew | apply IsS75.set_1 | refine IsS75.far ?_ NB199_204.out FB199_204.out _) | exact HI199.out)); (case side2 => repeat (first | (with_reducible first | exact HB.out | apply below_alloc | apply pw_below_drewN | apply below_drew1 | refine below_set ?_ (IsS75.ge HI199.out) | refine below_set ?_ GE204.out) | exact HB.out)); rintro e w66 ⟨rfl, hi, hb, hk⟩; have n0_ := Aside0.mk (KeepBut.blk hk (g' := gb204) (o := .cells #[.int .i64 ((rd_T67 l1 x47_3).f0), .int .i64 ((rd_T67 l1 x47_3).f1)] 67 (0, 0)) (by (with_reducible repeat (first | refine blk_drewN ?_ _ | refine blk_drew ?_ | refine blk_alloc ?_ _)); exact BK204.out) NB204_199.out (by simp)); have n1_ := Aside0.mk (hb); have n2_ := Aside0.mk (hi); clear BK204; clear HB; clear HI199; have BK204 := n0_; have HB := n1_; have HI199 := n2_; clear n0_ n1_ n2_; (try clear hb); (try clear hb2); (try clear hk); (try clear hi))))
                                          go_ret
                                          exact ⟨by first | rfl | (simp [errW_none, errW_some] <;> rfl) | (simp only [← hji25]; first | rfl | (simp [errW_none, errW_some] <;> rfl)) | (simp [*, errW_none, errW_some] <;> rfl), by repeat (first | (with_reducible first | exact HB.out | apply below_alloc | apply pw_below_drewN | apply below_drew1 | refine below_set ?_ (IsS75.ge HI199.out) | refine below_set ?_ GE204.out) | exact HB.out)⟩
                                      · replace c57 := Bool.eq_false_iff.mpr c57
                                        subst c57
                                        have H1 : (some false) = some r := by rw [if_neg (show ¬ (false = true) by decide)] at H; exact H
                                        clear H
                                        have H := H1
                                        clear H1
                                        obtain rfl := Option.some.inj H
                                        go_wp2
                                        repeat (go_quiet (fail); try go_wp2)
                                        go_ret
                                        exact ⟨by first | rfl | (simp [errW_none, errW_some] <;> rfl) | (simp only [← hji25]; first | rfl | (simp [errW_none, errW_some] <;> rfl)) | (simp [*, errW_none, errW_some] <;> rfl), by repeat (first | (with_reducible first | exact HB.out | apply below_alloc | apply pw_below_drewN | apply below_drew1 | refine below_set ?_ (IsS75.ge HI199.out) | refine below_set ?_ GE204.out) | exact HB.out)⟩
                        · rw [if_neg c24] at H
                          exact absurd H (by simp)
                      · rw [if_neg c23] at H
                        exact absurd H (by simp)
                    · rw [if_neg c22] at H
                      have c22b0 : decide (x47_3 < (l1.length : Int)) = false := decide_eq_false c22
                      (try simp only [hl5_2] at c22b0)
                      clear c22
                      replace H := Option.bind_eq_some_iff.mp H
                      obtain ⟨t202, A670, H⟩ := H
                      replace H : (some t202) = some r := H
                      have A67 := Aside0.mk A670
                      clear A670
                      obtain rfl := Option.some.inj H
                      go_wp2_with (first | (go_at_call 27; (with_reducible refine (credenzalaw06_awake.calls k3  t202 _ A67.out).mono ?_); rintro e w68 ⟨rfl, hb⟩; have n0_ := Aside0.mk (IsS75.below (by repeat (first | (with_reducible first | exact HI199.out | apply IsS75.alloc | apply IsS75.drewN | apply IsS75.drew | apply IsS75.set_1) | exact HI199.out)) hb); have n1_ := Aside0.mk (below_step (by repeat (first | (with_reducible first | exact HB.out | apply below_alloc | apply pw_below_drewN | apply below_drew1 | refine below_set ?_ (IsS75.ge HI199.out)) | exact HB.out)) hb); clear HI199; clear HB; have HI199 := n0_; have HB := n1_; clear n0_ n1_; (try clear hb); (try clear hb2); (try clear hk); (try clear hi)))
                      repeat (go_quiet (first | (go_at_call 27; (with_reducible refine (credenzalaw06_awake.calls k3  t202 _ A67.out).mono ?_); rintro e w68 ⟨rfl, hb⟩; have n0_ := Aside0.mk (IsS75.below (by repeat (first | (with_reducible first | exact HI199.out | apply IsS75.alloc | apply IsS75.drewN | apply IsS75.drew | apply IsS75.set_1) | exact HI199.out)) hb); have n1_ := Aside0.mk (below_step (by repeat (first | (with_reducible first | exact HB.out | apply below_alloc | apply pw_below_drewN | apply below_drew1 | refine below_set ?_ (IsS75.ge HI199.out)) | exact HB.out)) hb); clear HI199; clear HB; have HI199 := n0_; have HB := n1_; clear n0_ n1_; (try clear hb); (try clear hb2); (try clear hk); (try clear hi))); try go_wp2_with (first | (go_at_call 27; (with_reducible refine (credenzalaw06_awake.calls k3  t202 _ A67.out).mono ?_); rintro e w68 ⟨rfl, hb⟩; have n0_ := Aside0.mk (IsS75.below (by repeat (first | (with_reducible first | exact HI199.out | apply IsS75.alloc | apply IsS75.drewN | apply IsS75.drew | apply IsS75.set_1) | exact HI199.out)) hb); have n1_ := Aside0.mk (below_step (by repeat (first | (with_reducible first | exact HB.out | apply below_alloc | apply pw_below_drewN | apply below_drew1 | refine below_set ?_ (IsS75.ge HI199.out)) | exact HB.out)) hb); clear HI199; clear HB; have HI199 := n0_; have HB := n1_; clear n0_ n1_; (try clear hb); (try clear hb2); (try clear hk); (try clear hi))))
                      go_ret
                      exact ⟨by first | rfl | (simp [errW_none, errW_some] <;> rfl) | (simp [*, errW_none, errW_some] <;> rfl), by repeat (first | (with_reducible first | exact HB.out | apply below_alloc | apply pw_below_drewN | apply below_drew1 | refine below_set ?_ (IsS75.ge HI199.out)) | exact HB.out)⟩
        · rw [if_neg c8] at H
          exact absurd H (by simp)

/-- THE ONE PURE STATEMENT of credenzalaw06_SealReads: yours. -/
def credenzalaw06_SealReads.Pure : Prop := ∀ (l0 : List Int) (l1 : List (S67)), l0.length ≤ maxLen → l0.length * 1 ≤ 140737488351232 → (∀ x ∈ l0, (Lit.int .u8 x).wf = true) → l1.length ≤ maxLen → (∀ z ∈ l1, ((Lit.int .i64 z.f0).wf = true ∧ (Lit.int .i64 z.f1).wf = true)) → ∃ k, credenzalaw06_SealReads.f k l0 l1 = some true
theorem credenzalaw06_SealReads.walk (P : credenzalaw06_SealReads.Pure) (a0 : Option Addr) (len0 cap0 : Nat) (z0 : List Int) (a1 : Option Addr) (c1 : Nat) (l1 : List (S67)) (w : World) (w0 : (a0 = none ∧ len0 = 0 ∧ cap0 = 0 ∧ z0 = []) ∨ ∃ x, a0 = some x ∧ len0 ≤ cap0 ∧ cap0 ≤ maxLen ∧ z0.length = cap0 ∧ (∀ i, i < z0.length → w.cell? (x.add i) = some (.int .u8 (z0.getD i 0))) ∧ ∀ n ∈ z0, (Lit.int .u8 n).wf = true) (y0 : len0 * 1 ≤ 140737488351232) (hr1 : Kd.C k67 w a1 l1.length l1) (hc1 : l1.length ≤ c1) (hm1 : l1.length ≤ maxLen) (hq1 : ∀ z ∈ l1, ((Lit.int .i64 z.f0).wf = true ∧ (Lit.int .i64 z.f1).wf = true)) :
    Calls Try.prog 12 #[.slice a0 len0 cap0, .slice a1 l1.length c1] w fun e w' => e = .returned (.bool true) ∧ Below w.heap.size w w' := by
  obtain ⟨l0, rfl, hr0, hm0, hw0, hc0⟩ := ReadsInt.ofRowC w0
  obtain ⟨k, h⟩ := P l0 l1 hm0 y0 hw0 hm1 hq1
  refine (credenzalaw06_SealReads.calls k _ _ l0 _ _ l1 true w (Kd.C_of_reads (d := (0 : Int)) (h1 := fun _ => rfl) hr0) hc0 hr1 hc1 h).mono ?_
  rintro e w' ⟨rfl, hd⟩
  exact ⟨rfl, hd⟩

end Go.Proofs.Ytlkelicgbjjgiaa.PSealReads
