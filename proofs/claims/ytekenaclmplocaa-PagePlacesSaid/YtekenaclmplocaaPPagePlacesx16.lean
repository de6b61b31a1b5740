-- Written by a program of this session (wip/tools/mkprint.py over the kit's print).
import Derived.Test.YtekenaclmplocaaPPagePlacesx0
import Derived.Test.YtekenaclmplocaaPPagePlacesx2
import Derived.Test.YtekenaclmplocaaPPagePlacesx6
import Derived.Test.YtekenaclmplocaaPPagePlacesx7
import Derived.Test.YtekenaclmplocaaPPagePlacesx11
import Derived.Test.YtekenaclmplocaaPPagePlacesx12
import Derived.Test.YtekenaclmplocaaPPagePlacesx13
import Derived.Test.YtekenaclmplocaaPPagePlacesx14
import Derived.Test.YtekenaclmplocaaPPagePlacesx15
namespace Go.Proofs.Ytekenaclmplocaa.PPagePlaces
open Go.RowKit Go.Proofs.YtekenaclmplocaaW.PrintWords Go.Proofs.YtekenaclmplocaaW.PrintLast Go.Proofs.YtekenaclmplocaaW.PrintMore
attribute [local go_sem] max2_int min2_int max_two min_two max_three min_three max_four min_four   -- for this text's walks alone
set_option linter.unusedVariables false
set_option linter.unusedSimpArgs false

/-! ### credenzalaw08_PagePlaces: function 8 -/
mutual
def credenzalaw08_PagePlaces.j0 : Nat → Int → Int → Bool → Int → Int → Int → Int → Int → Int → Int → List (List Int) → List (List Int) → Option (Bool)
 | 0, _, _, _, _, _, _, _, _, _, _, _, _ => none
 | k + 1, x1, x2, x39, x487000, x487001, x487002, x487003, x487004, x487005, x487006, x487007, x487008 => if x39 = true then ((credenzalaw08_awake.f k).bind fun t497 => (some t497)) else ((page_Quantize.f k x487000 x487001 x487002 x487003 x487004 x487005 x487006 x487007 x487008).bind fun bt498 => (if bt498.2 = 0 then (credenzalaw08_PagePlaces.j1 k x1 x2 bt498.1 ((bt498.1.length : Int) == 0) x487000 x487001 x487002 x487003 x487004 x487005 x487006 x487007 x487008) else (credenzalaw08_PagePlaces.j1 k x1 x2 bt498.1 true x487000 x487001 x487002 x487003 x487004 x487005 x487006 x487007 x487008)))
def credenzalaw08_PagePlaces.j1 : Nat → Int → Int → List (S75) → Bool → Int → Int → Int → Int → Int → Int → Int → List (List Int) → List (List Int) → Option (Bool)
 | 0, _, _, _, _, _, _, _, _, _, _, _, _, _ => none
 | k + 1, x1, x2, x7, x56, x487000, x487001, x487002, x487003, x487004, x487005, x487006, x487007, x487008 => if x56 = true then (none) else ((page_Page_Bytes.f k x7).bind fun t502 => (if x1 ≥ 0 then (if x1 < x487002 then (if x2 ≥ 0 then (credenzalaw08_PagePlaces.j2 k x1 x2 x7 (strOfNums t502) (decide (x2 < x487003))) else (credenzalaw08_PagePlaces.j2 k x1 x2 x7 (strOfNums t502) false)) else (credenzalaw08_PagePlaces.j2 k x1 x2 x7 (strOfNums t502) false)) else (credenzalaw08_PagePlaces.j2 k x1 x2 x7 (strOfNums t502) false)))
def credenzalaw08_PagePlaces.j2 : Nat → Int → Int → List (S75) → ByteArray → Bool → Option (Bool)
 | 0, _, _, _, _, _ => none
 | k + 1, x1, x2, x7, x9, x10 => if x10 = true then (credenzalaw08_PagePlaces.j3 k x7 x9 false) else ((page_Page_Key.f x7 x1 x2).bind fun t505 => (if t505 = 0 then ((page_Page_Value.f x7 x1 x2).bind fun t506 => (credenzalaw08_PagePlaces.j3 k x7 x9 (t506 != 0))) else (credenzalaw08_PagePlaces.j3 k x7 x9 true)))
def credenzalaw08_PagePlaces.j3 : Nat → List (S75) → ByteArray → Bool → Option (Bool)
 | 0, _, _, _ => none
 | k + 1, x7, x9, x95 => if x95 = true then (none) else ((page_Page_Keys.f k x7).bind fun t507 => ((page_Page_Values.f k x7).bind fun t510 => ((page_Page_KeyGroups.f k x7).bind fun t513 => ((page_Page_ValueGroups.f k x7).bind fun t516 => (if t513.length + t516.length < 4398046511104 then ((page_Page_Bytes.f k x7).bind fun t519 => (if (strOfNums t519).toList = x9.toList then ((credenzalaw08_awake.f k).bind fun t522 => (some t522)) else (none))) else (none))))))
end
def credenzalaw08_PagePlaces.f (k : Nat) (a0_0 : Int) (a0_1 : Int) (a0_2 : Int) (a0_3 : Int) (a0_4 : Int) (a0_5 : Int) (a0_6 : Int) (l0_7 : List (List Int)) (l0_8 : List (List Int)) (a1 : Int) (a2 : Int) : Option (Bool) := (credenzalaw08_head.f a0_0 a0_1 a0_2 a0_3 a0_4 a0_5 a0_6).bind fun bt487 => ((credenzaref08_Right.f bt487.1 bt487.2.1 bt487.2.2.1 bt487.2.2.2.1 bt487.2.2.2.2.1 bt487.2.2.2.2.2.1 bt487.2.2.2.2.2.2).bind fun t494 => (if t494 = true then ((credenzalaw08_shaped.f k a0_0 a0_1 a0_2 a0_3 a0_4 a0_5 a0_6 l0_7).bind fun t495 => (if t495 = true then ((credenzalaw08_shaped.f k a0_0 a0_1 a0_2 a0_3 a0_4 a0_5 a0_6 l0_8).bind fun t496 => (credenzalaw08_PagePlaces.j0 k a1 a2 (!t496) a0_0 a0_1 a0_2 a0_3 a0_4 a0_5 a0_6 l0_7 l0_8)) else (credenzalaw08_PagePlaces.j0 k a1 a2 true a0_0 a0_1 a0_2 a0_3 a0_4 a0_5 a0_6 l0_7 l0_8))) else (credenzalaw08_PagePlaces.j0 k a1 a2 true a0_0 a0_1 a0_2 a0_3 a0_4 a0_5 a0_6 l0_7 l0_8)))
theorem credenzalaw08_PagePlaces.mono_l : ∀ k, (∀ y0 y1 y2 y3 y4 y5 y6 y7 y8 y9 y10 y11, LeO (credenzalaw08_PagePlaces.j0 k y0 y1 y2 y3 y4 y5 y6 y7 y8 y9 y10 y11) (credenzalaw08_PagePlaces.j0 (k + 1) y0 y1 y2 y3 y4 y5 y6 y7 y8 y9 y10 y11)) ∧ (∀ y0 y1 y2 y3 y4 y5 y6 y7 y8 y9 y10 y11 y12, LeO (credenzalaw08_PagePlaces.j1 k y0 y1 y2 y3 y4 y5 y6 y7 y8 y9 y10 y11 y12) (credenzalaw08_PagePlaces.j1 (k + 1) y0 y1 y2 y3 y4 y5 y6 y7 y8 y9 y10 y11 y12)) ∧ (∀ y0 y1 y2 y3 y4, LeO (credenzalaw08_PagePlaces.j2 k y0 y1 y2 y3 y4) (credenzalaw08_PagePlaces.j2 (k + 1) y0 y1 y2 y3 y4)) ∧ (∀ y0 y1 y2, LeO (credenzalaw08_PagePlaces.j3 k y0 y1 y2) (credenzalaw08_PagePlaces.j3 (k + 1) y0 y1 y2))
 | 0 => ⟨fun _ _ _ _ _ _ _ _ _ _ _ _ r h => by simp [credenzalaw08_PagePlaces.j0] at h, fun _ _ _ _ _ _ _ _ _ _ _ _ _ r h => by simp [credenzalaw08_PagePlaces.j1] at h, fun _ _ _ _ _ r h => by simp [credenzalaw08_PagePlaces.j2] at h, fun _ _ _ r h => by simp [credenzalaw08_PagePlaces.j3] at h⟩
 | k + 1 => by
  obtain ⟨ih0, ih1, ih2, ih3⟩ := credenzalaw08_PagePlaces.mono_l k
  refine ⟨?_, ?_, ?_, ?_⟩
  ·
   intro y0 y1 y2 y3 y4 y5 y6 y7 y8 y9 y10 y11
   unfold credenzalaw08_PagePlaces.j0
   repeat' first
   | (with_reducible exact ih0 _ _ _ _ _ _ _ _ _ _ _ _)
   | (with_reducible exact ih1 _ _ _ _ _ _ _ _ _ _ _ _ _)
   | (with_reducible exact ih2 _ _ _ _ _)
   | (with_reducible exact ih3 _ _ _)
   | (with_reducible exact credenzalaw08_awake.mono _)
   | (with_reducible exact credenzalaw08_shaped.mono _ _ _ _ _ _ _ _ _)
   | (with_reducible exact page_Page_Bytes.mono _ _)
   | (with_reducible exact page_Page_KeyGroups.mono _ _)
   | (with_reducible exact page_Page_Keys.mono _ _)
   | (with_reducible exact page_Page_ValueGroups.mono _ _)
   | (with_reducible exact page_Page_Values.mono _ _)
   | (with_reducible exact page_Quantize.mono _ _ _ _ _ _ _ _ _ _)
   | (with_reducible exact LeO.refl _)
   | (with_reducible exact LeO.none _)
   | (with_reducible refine LeO.ite ?_ ?_)
   | (with_reducible refine LeO.bind ?_ (fun _ => ?_))
   | exact ih0 _ _ _ _ _ _ _ _ _ _ _ _
   | exact ih1 _ _ _ _ _ _ _ _ _ _ _ _ _
   | exact ih2 _ _ _ _ _
   | exact ih3 _ _ _
   | exact credenzalaw08_awake.mono _
   | exact credenzalaw08_shaped.mono _ _ _ _ _ _ _ _ _
   | exact page_Page_Bytes.mono _ _
   | exact page_Page_KeyGroups.mono _ _
   | exact page_Page_Keys.mono _ _
   | exact page_Page_ValueGroups.mono _ _
   | exact page_Page_Values.mono _ _
   | exact page_Quantize.mono _ _ _ _ _ _ _ _ _ _
   | exact LeO.none _
   | refine LeO.ite ?_ ?_
   | refine LeO.bind ?_ (fun _ => ?_)
  ·
   intro y0 y1 y2 y3 y4 y5 y6 y7 y8 y9 y10 y11 y12
   unfold credenzalaw08_PagePlaces.j1
   repeat' first
   | (with_reducible exact ih0 _ _ _ _ _ _ _ _ _ _ _ _)
   | (with_reducible exact ih1 _ _ _ _ _ _ _ _ _ _ _ _ _)
   | (with_reducible exact ih2 _ _ _ _ _)
   | (with_reducible exact ih3 _ _ _)
   | (with_reducible exact credenzalaw08_awake.mono _)
   | (with_reducible exact credenzalaw08_shaped.mono _ _ _ _ _ _ _ _ _)
   | (with_reducible exact page_Page_Bytes.mono _ _)
   | (with_reducible exact page_Page_KeyGroups.mono _ _)
   | (with_reducible exact page_Page_Keys.mono _ _)
   | (with_reducible exact page_Page_ValueGroups.mono _ _)
   | (with_reducible exact page_Page_Values.mono _ _)
   | (with_reducible exact page_Quantize.mono _ _ _ _ _ _ _ _ _ _)
   | (with_reducible exact LeO.refl _)
   | (with_reducible exact LeO.none _)
   | (with_reducible refine LeO.ite ?_ ?_)
   | (with_reducible refine LeO.bind ?_ (fun _ => ?_))
   | exact ih0 _ _ _ _ _ _ _ _ _ _ _ _
   | exact ih1 _ _ _ _ _ _ _ _ _ _ _ _ _
   | exact ih2 _ _ _ _ _
   | exact ih3 _ _ _
   | exact credenzalaw08_awake.mono _
   | exact credenzalaw08_shaped.mono _ _ _ _ _ _ _ _ _
   | exact page_Page_Bytes.mono _ _
   | exact page_Page_KeyGroups.mono _ _
   | exact page_Page_Keys.mono _ _
   | exact page_Page_ValueGroups.mono _ _
   | exact page_Page_Values.mono _ _
   | exact page_Quantize.mono _ _ _ _ _ _ _ _ _ _
   | exact LeO.none _
   | refine LeO.ite ?_ ?_
   | refine LeO.bind ?_ (fun _ => ?_)
  ·
   intro y0 y1 y2 y3 y4
   unfold credenzalaw08_PagePlaces.j2
   repeat' first
   | (with_reducible exact ih0 _ _ _ _ _ _ _ _ _ _ _ _)
   | (with_reducible exact ih1 _ _ _ _ _ _ _ _ _ _ _ _ _)
   | (with_reducible exact ih2 _ _ _ _ _)
   | (with_reducible exact ih3 _ _ _)
   | (with_reducible exact credenzalaw08_awake.mono _)
   | (with_reducible exact credenzalaw08_shaped.mono _ _ _ _ _ _ _ _ _)
   | (with_reducible exact page_Page_Bytes.mono _ _)
   | (with_reducible exact page_Page_KeyGroups.mono _ _)
   | (with_reducible exact page_Page_Keys.mono _ _)
   | (with_reducible exact page_Page_ValueGroups.mono _ _)
   | (with_reducible exact page_Page_Values.mono _ _)
   | (with_reducible exact page_Quantize.mono _ _ _ _ _ _ _ _ _ _)
   | (with_reducible exact LeO.refl _)
   | (with_reducible exact LeO.none _)
   | (with_reducible refine LeO.ite ?_ ?_)
   | (with_reducible refine LeO.bind ?_ (fun _ => ?_))
   | exact ih0 _ _ _ _ _ _ _ _ _ _ _ _
   | exact ih1 _ _ _ _ _ _ _ _ _ _ _ _ _
   | exact ih2 _ _ _ _ _
   | exact ih3 _ _ _
   | exact credenzalaw08_awake.mono _
   | exact credenzalaw08_shaped.mono _ _ _ _ _ _ _ _ _
   | exact page_Page_Bytes.mono _ _
   | exact page_Page_KeyGroups.mono _ _
   | exact page_Page_Keys.mono _ _
   | exact page_Page_ValueGroups.mono _ _
   | exact page_Page_Values.mono _ _
   | exact page_Quantize.mono _ _ _ _ _ _ _ _ _ _
   | exact LeO.none _
   | refine LeO.ite ?_ ?_
   | refine LeO.bind ?_ (fun _ => ?_)
  ·
   intro y0 y1 y2
   unfold credenzalaw08_PagePlaces.j3
   repeat' first
   | (with_reducible exact ih0 _ _ _ _ _ _ _ _ _ _ _ _)
   | (with_reducible exact ih1 _ _ _ _ _ _ _ _ _ _ _ _ _)
   | (with_reducible exact ih2 _ _ _ _ _)
   | (with_reducible exact ih3 _ _ _)
   | (with_reducible exact credenzalaw08_awake.mono _)
   | (with_reducible exact credenzalaw08_shaped.mono _ _ _ _ _ _ _ _ _)
   | (with_reducible exact page_Page_Bytes.mono _ _)
   | (with_reducible exact page_Page_KeyGroups.mono _ _)
   | (with_reducible exact page_Page_Keys.mono _ _)
   | (with_reducible exact page_Page_ValueGroups.mono _ _)
   | (with_reducible exact page_Page_Values.mono _ _)
   | (with_reducible exact page_Quantize.mono _ _ _ _ _ _ _ _ _ _)
   | (with_reducible exact LeO.refl _)
   | (with_reducible exact LeO.none _)
   | (with_reducible refine LeO.ite ?_ ?_)
   | (with_reducible refine LeO.bind ?_ (fun _ => ?_))
   | exact ih0 _ _ _ _ _ _ _ _ _ _ _ _
   | exact ih1 _ _ _ _ _ _ _ _ _ _ _ _ _
   | exact ih2 _ _ _ _ _
   | exact ih3 _ _ _
   | exact credenzalaw08_awake.mono _
   | exact credenzalaw08_shaped.mono _ _ _ _ _ _ _ _ _
   | exact page_Page_Bytes.mono _ _
   | exact page_Page_KeyGroups.mono _ _
   | exact page_Page_Keys.mono _ _
   | exact page_Page_ValueGroups.mono _ _
   | exact page_Page_Values.mono _ _
   | exact page_Quantize.mono _ _ _ _ _ _ _ _ _ _
   | exact LeO.none _
   | refine LeO.ite ?_ ?_
   | refine LeO.bind ?_ (fun _ => ?_)
theorem credenzalaw08_PagePlaces.mono : ∀ a0 a1 a2 a3 a4 a5 a6 a7 a8 a9 a10 k, LeO (credenzalaw08_PagePlaces.f k a0 a1 a2 a3 a4 a5 a6 a7 a8 a9 a10) (credenzalaw08_PagePlaces.f (k + 1) a0 a1 a2 a3 a4 a5 a6 a7 a8 a9 a10) := by
 intro a0 a1 a2 a3 a4 a5 a6 a7 a8 a9 a10 k
 obtain ⟨ih0, ih1, ih2, ih3⟩ := credenzalaw08_PagePlaces.mono_l k
 unfold credenzalaw08_PagePlaces.f
 repeat' first
   | (with_reducible exact ih0 _ _ _ _ _ _ _ _ _ _ _ _)
   | (with_reducible exact ih1 _ _ _ _ _ _ _ _ _ _ _ _ _)
   | (with_reducible exact ih2 _ _ _ _ _)
   | (with_reducible exact ih3 _ _ _)
   | (with_reducible exact credenzalaw08_awake.mono _)
   | (with_reducible exact credenzalaw08_shaped.mono _ _ _ _ _ _ _ _ _)
   | (with_reducible exact page_Page_Bytes.mono _ _)
   | (with_reducible exact page_Page_KeyGroups.mono _ _)
   | (with_reducible exact page_Page_Keys.mono _ _)
   | (with_reducible exact page_Page_ValueGroups.mono _ _)
   | (with_reducible exact page_Page_Values.mono _ _)
   | (with_reducible exact page_Quantize.mono _ _ _ _ _ _ _ _ _ _)
   | (with_reducible exact LeO.refl _)
   | (with_reducible exact LeO.none _)
   | (with_reducible refine LeO.ite ?_ ?_)
   | (with_reducible refine LeO.bind ?_ (fun _ => ?_))
   | exact ih0 _ _ _ _ _ _ _ _ _ _ _ _
   | exact ih1 _ _ _ _ _ _ _ _ _ _ _ _ _
   | exact ih2 _ _ _ _ _
   | exact ih3 _ _ _
   | exact credenzalaw08_awake.mono _
   | exact credenzalaw08_shaped.mono _ _ _ _ _ _ _ _ _
   | exact page_Page_Bytes.mono _ _
   | exact page_Page_KeyGroups.mono _ _
   | exact page_Page_Keys.mono _ _
   | exact page_Page_ValueGroups.mono _ _
   | exact page_Page_Values.mono _ _
   | exact page_Quantize.mono _ _ _ _ _ _ _ _ _ _
   | exact LeO.none _
   | refine LeO.ite ?_ ?_
   | refine LeO.bind ?_ (fun _ => ?_)
/-- W' is W, but for whole numbers of one kind behind block b, which stay such. -/
structure Kpt (κ : IntKind) (b : Nat) (W W' : World) : Prop where
 bel : Below b W W'
 oth : ∀ a v, W.cell? a = some v → (∀ x, v ≠ .int κ x) → W'.cell? a = some v
 num : ∀ a x, W.cell? a = some (.int κ x) → ∃ y, W'.cell? a = some (.int κ y)
 ice : ∀ a v, W.cell? a = some v → W.frozen? a = false → W'.frozen? a = false
theorem Kpt.refl (κ : IntKind) (b : Nat) (W : World) : Kpt κ b W W := ⟨Below.refl _ _, fun _ _ h _ => h, fun _ x h => ⟨x, h⟩, fun _ _ _ h => h⟩
theorem Kpt.cell {κ : IntKind} {b : Nat} {W W' : World} (h : Kpt κ b W W') {a : Addr} {v : Value} (hc : W.cell? a = some v) : ∃ v', W'.cell? a = some v' := by
 by_cases hv : ∃ x, v = .int κ x
 ·
  obtain ⟨x, rfl⟩ := hv; obtain ⟨y, hy⟩ := h.num a x hc; exact ⟨_, hy⟩
 ·
  exact ⟨v, h.oth a v hc (fun x e => hv ⟨x, e⟩)⟩
theorem Kpt.trans {κ : IntKind} {b : Nat} {W W' W'' : World} (h : Kpt κ b W W') (k : Kpt κ b W' W'') : Kpt κ b W W'' :=
 ⟨h.bel.trans k.bel, fun a v hc hv => k.oth a v (h.oth a v hc hv) hv, fun a x hc => by obtain ⟨y, hy⟩ := h.num a x hc; exact k.num a y hy, fun a v hc hf => by obtain ⟨v', hv'⟩ := h.cell hc; exact k.ice a v' hv' (h.ice a v hc hf)⟩
theorem Kpt.below {κ : IntKind} {b : Nat} {W W' : World} (hb : b ≤ W.heap.size) (k : Below W.heap.size W W') : Kpt κ b W W' :=
 ⟨k.mono hb, fun a v hc _ => (k.cell (World.block_lt_of_cell? W a hc)).trans hc, fun a x hc => ⟨x, (k.cell (World.block_lt_of_cell? W a hc)).trans hc⟩, fun a v hc hf => by
  have hl := World.block_lt_of_cell? W a hc
  unfold World.frozen? at hf ⊢
  rw [k.block _ hl]; exact hf⟩
theorem Kpt.set {κ : IntKind} {b : Nat} {W : World} {g j : Nat} {y : Int} (hb : b ≤ g) (hy : W.cell? ⟨g, j, none⟩ = some (.int κ y)) (z : Int) : Kpt κ b W (W.setCell ⟨g, j, none⟩ (.int κ z)) := by
 have key : ∀ a v, W.cell? a = some v → (W.setCell ⟨g, j, none⟩ (.int κ z)).cell? a = some (if a.block = g ∧ a.off = j then .int κ z else v) := by
  intro a v h
  unfold World.cell? at h ⊢
  simp only [World.setCell, Array.getElem?_modify]
  by_cases hg : g = a.block
  ·
   subst hg
   rw [if_pos rfl]
   cases ho : W.heap[a.block]? with
   | none => rw [ho] at h; simp at h
   | some o =>
    rw [ho] at h
    cases o with
    | cells c t f =>
     dsimp only [Option.map_some] at h ⊢
     split at h
     ·
      simp at h
     ·
      next hs =>
      rw [if_neg hs]
      simp only [Option.isSome_none, Bool.false_eq_true, ↓reduceIte, Array.getElem?_setIfInBounds]
      have hlt : a.off < c.size := by
       rcases Nat.lt_or_ge a.off c.size with q | q
       ·
        exact q
       ·
        rw [Array.getElem?_eq_none q] at h; cases h
      by_cases hj : j = a.off
      ·
       subst hj; simp [hlt]
      ·
       rw [if_neg hj, h, if_neg (fun e => hj e.2.symm)]
    | _ => simp at h
  ·
   rw [if_neg hg, if_neg (fun e => hg e.1.symm)]; exact h
 have hsp : ∀ a v, W.cell? a = some v → a.spot = none := by
  intro a v h
  unfold World.cell? at h
  split at h
  ·
   split at h
   ·
    cases h
   ·
    next hs => cases hq : a.spot with
    | none => rfl
    | some x => rw [hq] at hs; exact absurd rfl hs
  ·
   cases h
 have hsame : ∀ a v, W.cell? a = some v → a.block = g ∧ a.off = j → v = .int κ y := by
  intro a v h e
  have hq : a = ⟨g, j, none⟩ := by have := hsp a v h; rcases a with ⟨x, q, r⟩; simp only at e this; obtain ⟨rfl, rfl⟩ := e; subst this; rfl
  subst hq; rw [hy] at h; exact (Option.some.inj h).symm
 refine ⟨(Below.refl _ _).setCell hb _, fun a v h hv => ?_, fun a x h => ?_, fun a v h hf => ?_⟩
 ·
  rw [key a v h, if_neg (fun e => hv y (hsame a v h e))]
 ·
  rw [key a _ h]; split
  ·
   exact ⟨z, rfl⟩
  ·
   exact ⟨x, rfl⟩
 ·
  unfold World.frozen? at hf ⊢
  simp only [World.setCell, Array.getElem?_modify]
  by_cases e : g = a.block
  ·
   rw [if_pos e]
   cases ho : W.heap[a.block]? with
   | none => rfl
   | some o =>
    rw [ho] at hf
    cases o with
    | cells c t f => exact hf
    | _ => rfl
  ·
   rw [if_neg e]; exact hf
/-- A row of whole numbers of one's own: so many, at their places. -/
def IR (κ : IntKind) (b : Nat) (W : World) (n : Nat) (A : Option Addr) : Prop := n ≤ maxLen ∧ ∀ q : Nat, q < n → ∃ g x, A = some ⟨g, 0, none⟩ ∧ b ≤ g ∧ W.cell? ⟨g, q, none⟩ = some (.int κ x) ∧ W.frozen? ⟨g, q, none⟩ = false
theorem IR.kpt {κ : IntKind} {b n : Nat} {W W' : World} {A : Option Addr} (h : IR κ b W n A) (k : Kpt κ b W W') : IR κ b W' n A :=
 ⟨h.1, fun q hq => by obtain ⟨g, x, e, hb, hc, hf⟩ := h.2 q hq; obtain ⟨y, hy⟩ := k.num _ _ hc; exact ⟨g, y, e, hb, hy, k.ice _ _ hc hf⟩⟩
/-- A row of such. -/
def RR (κ : IntKind) (b : Nat) (W : World) (n : Nat) (A : Option Addr) : Prop := n ≤ maxLen ∧ ∀ q : Nat, q < n → ∃ g A' n' c', A = some ⟨g, 0, none⟩ ∧ W.cell? ⟨g, q, none⟩ = some (.slice A' n' c') ∧ IR κ b W n' A'
theorem RR.kpt {κ : IntKind} {b n : Nat} {W W' : World} {A : Option Addr} (h : RR κ b W n A) (k : Kpt κ b W W') : RR κ b W' n A :=
 ⟨h.1, fun q hq => by obtain ⟨g, A', n', c', e, hc, hi⟩ := h.2 q hq; exact ⟨g, A', n', c', e, k.oth _ _ hc (by simp), hi.kpt k⟩⟩
theorem IR.of {κ : IntKind} {e b : Nat} {W : World} {ok : Nat → Prop} {A : Option Addr} {n c : Nat} {xs : List Int} (h : Kd.R (Kd.int κ) e W b ok (.slice A n c) xs) : IR κ b W n A := by
 have hr := Kd.R_reads' h
 refine ⟨by have := hr.2.2.2.1; have := hr.1; unfold maxLen; omega, fun q hq => ?_⟩
 obtain ⟨g, cap, he, hb, -, -⟩ := Kd.R_form h (by omega)
 injection he with e1 e2 e3
 subst e1
 obtain ⟨h1, h2⟩ := Kd.R_celln 0 h (q : Int) (by omega) (by omega)
 exact ⟨g, _, rfl, hb, h1, h2⟩
theorem RR.of {κ : IntKind} {e e' b : Nat} {W : World} {ok : Nat → Prop} {A : Option Addr} {n c : Nat} {xs : List (List Int)} (h : Kd.R (Kd.slice e' (Kd.int κ)) e W b ok (.slice A n c) xs) : RR κ b W n A := by
 have hr := Kd.R_reads' h
 refine ⟨by have := hr.2.2.2.1; have := hr.1; unfold maxLen; omega, fun q hq => ?_⟩
 obtain ⟨g, cap, he, hb, -, -⟩ := Kd.R_form h (by omega)
 injection he with e1 e2 e3
 subst e1
 obtain ⟨cs, hcl, ⟨v, rfl, hv⟩, hcc⟩ := Kd.R_getA h [] (q : Int) (by omega) (by omega)
 obtain ⟨A', c', rfl⟩ := Kd.R_slice hv
 have := hcc 0 _ rfl
 rw [add_plain] at this
 refine ⟨g, A', _, c', rfl, ?_, IR.of hv⟩
 simpa [Kd.slice] using this
/-- So many of them, in a block. -/
def LL (κ : IntKind) (b : Nat) (W : World) (g m : Nat) : Prop := ∀ i : Nat, i < m → ∃ A n c, W.cell? ⟨g, i, none⟩ = some (.slice A n c) ∧ RR κ b W n A
theorem LL.kpt {κ : IntKind} {b g m : Nat} {W W' : World} (h : LL κ b W g m) (k : Kpt κ b W W') : LL κ b W' g m :=
 fun i hi => by obtain ⟨A, n, c, hc, hr⟩ := h i hi; exact ⟨A, n, c, k.oth _ _ hc (by simp), hr.kpt k⟩
theorem LL.two {κ : IntKind} {b n1 n2 c1 c2 : Nat} {W : World} {A1 A2 : Option Addr} (t : TypeId) (h1 : RR κ b W n1 A1) (h2 : RR κ b W n2 A2) (hb : b ≤ W.heap.size) : LL κ b (W.alloc (.cells #[.slice A1 n1 c1, .slice A2 n2 c2] t)) W.heap.size 2 := by
 have hk : Kpt κ b W (W.alloc (.cells #[.slice A1 n1 c1, .slice A2 n2 c2] t)) := Kpt.below hb (below_alloc (Below.refl _ _) _)
 have hn := blk_new W (.cells #[.slice A1 n1 c1, .slice A2 n2 c2] t)
 intro i hi
 rcases i with _ | _ | i
 ·
  exact ⟨A1, n1, c1, (blk_cell hn 0).trans rfl, h1.kpt hk⟩
 ·
  exact ⟨A2, n2, c2, (blk_cell hn 1).trans rfl, h2.kpt hk⟩
 ·
  omega
/-- A row's elements as they lie, with what they lead to. -/
theorem R_rows {α : Type} {d : Kd α} {e base : Nat} {w : World} {ok : Nat → Prop} {v : Value} {xs : List α} (h : d.R e w base ok v xs) : ∃ rows : List (List Value), rows.length = xs.length ∧ (Kd.raw d.sz).R e w base (fun k => some k = v.ownBlock) v rows ∧
  ∀ (j : Nat) (x : α) (c : List Value), xs[j]? = some x → rows[j]? = some c → d.M w base (fun k => ok k ∧ some k ≠ v.ownBlock) x c := by
 obtain ⟨h0, inner, ho, hr⟩ := h
 refine ⟨Kd.chunks d.sz xs.length inner, Kd.chunks_length _ _ _, ⟨fun k hk => hk.symm, inner, by rw [Kd.chunks_length]; exact ho, Kd.reps_raw hr (fun x c hp => ⟨d.K_len (d.K_of_M hp), d.K_one (d.K_of_M hp)⟩)⟩, fun j x c hx hc => ?_⟩
 rw [Kd.chunks_get hc]
 exact hr.2 j x hx
/-- Groups as they lie: their codes lie elsewhere than in one block. -/
def GR (b : Nat) (W : World) (own : Option Nat) (rows : List (List Value)) : Prop := ∀ c ∈ rows, ∃ x y A n cp, c = [.int .i32 x, .int .u32 y, .slice A n cp] ∧ IR .i64 b W n A ∧ ∀ q : Nat, q < n → ∀ g, A = some ⟨g, 0, none⟩ → some g ≠ own
theorem GR.of {e b : Nat} {W : World} {ok : Nat → Prop} {v : Value} {xs : List S47} (h : k47.R e W b ok v xs) : ∃ rows : List (List Value), rows.length = xs.length ∧ (Kd.raw 3).R e W b (fun k => some k = v.ownBlock) v rows ∧ ∀ own, (∀ k, ok k → some k ≠ v.ownBlock → some k ≠ own) → GR b W own rows := by
 obtain ⟨rows, hl, hR, hf⟩ := R_rows h
 refine ⟨rows, hl, hR, fun own hown c hc => ?_⟩
 obtain ⟨j, hj⟩ := List.mem_iff_getElem?.mp hc
 have hjl : j < xs.length := by have := (List.getElem?_eq_some_iff.1 hj).1; omega
 obtain ⟨v2, rfl, g2⟩ := k47_openM (hf j _ c (List.getElem?_eq_getElem hjl) hj)
 obtain ⟨A, cp, rfl⟩ := Kd.R_slice g2
 refine ⟨_, _, A, _, cp, rfl, IR.of g2, fun q hq g hA => ?_⟩
 subst hA
 exact hown g (g2.1 g rfl).1 (g2.1 g rfl).2
theorem IR.grown {κ : IntKind} {b n : Nat} {W W' : World} {A : Option Addr} {own : Option Nat} (h : IR κ b W n A) (hg : W.grownBy W' own) (hne : ∀ q : Nat, q < n → ∀ g, A = some ⟨g, 0, none⟩ → some g ≠ own) : IR κ b W' n A :=
 ⟨h.1, fun q hq => by
  obtain ⟨g, x, e, hb, hc, hf⟩ := h.2 q hq
  have hk := hg.block g (World.block_lt_of_cell? W _ hc) (hne q hq g e)
  refine ⟨g, x, e, hb, ?_, ?_⟩
  ·
   unfold World.cell? at hc ⊢; rw [hk]; exact hc
  ·
   unfold World.frozen? at hf ⊢; rw [hk]; exact hf⟩
theorem GR.grown {b : Nat} {W W' : World} {own : Option Nat} {rows : List (List Value)} (h : GR b W own rows) (hg : W.grownBy W' own) : GR b W' own rows :=
 fun c hc => by obtain ⟨x, y, A, n, cp, e, hi, hne⟩ := h c hc; exact ⟨x, y, A, n, cp, e, hi.grown hg hne, hne⟩
theorem GR.app {b : Nat} {W : World} {own : Option Nat} {r1 r2 : List (List Value)} (h1 : GR b W own r1) (h2 : GR b W own r2) : GR b W own (r1 ++ r2) :=
 fun c hc => (List.mem_append.mp hc).elim (h1 c) (h2 c)
/-- A row of groups. -/
def GL (b : Nat) (W : World) (m : Nat) (A : Option Addr) : Prop := m ≤ maxLen ∧ ∀ j : Nat, j < m → ∃ g x y A' n' c', A = some ⟨g, 0, none⟩ ∧ W.cell? ⟨g, j * 3, none⟩ = some (.int .i32 x) ∧ W.cell? ⟨g, j * 3 + 1, none⟩ = some (.int .u32 y) ∧ W.cell? ⟨g, j * 3 + 2, none⟩ = some (.slice A' n' c') ∧ IR .i64 b W n' A'
theorem GL.kpt {b m : Nat} {W W' : World} {A : Option Addr} (h : GL b W m A) (k : Kpt .i64 b W W') : GL b W' m A :=
 ⟨h.1, fun j hj => by obtain ⟨g, x, y, A', n', c', e, h0, h1, h2, hi⟩ := h.2 j hj; exact ⟨g, x, y, A', n', c', e, k.oth _ _ h0 (by simp), k.oth _ _ h1 (by simp), k.oth _ _ h2 (by simp), hi.kpt k⟩⟩
theorem GL.of {e b : Nat} {W : World} {ok : Nat → Prop} {own : Option Nat} {A : Option Addr} {n c : Nat} {rows : List (List Value)} (h : (Kd.raw 3).R e W b ok (.slice A n c) rows) (hg : GR b W own rows) : GL b W n A := by
 have hr := Kd.R_reads' h
 refine ⟨by have := hr.2.2.2.1; have := hr.1; unfold maxLen; omega, fun j hj => ?_⟩
 obtain ⟨g, cap, he, hb, -, -⟩ := Kd.R_form h (by omega)
 injection he with e1 e2 e3
 subst e1
 obtain ⟨cs, hcl, ⟨hcs, -, -⟩, hcc⟩ := Kd.R_getA h [] (j : Int) (by omega) (by omega)
 have hm : rows.getD (j : Int).toNat [] ∈ rows := by
  have hjl : j < rows.length := by omega
  rw [List.getD_eq_getElem?_getD, Int.toNat_natCast, List.getElem?_eq_getElem hjl]; exact List.getElem_mem hjl
 obtain ⟨x, y, A', n', c', hx, hi, -⟩ := hg _ hm
 rw [hx] at hcs
 subst hcs
 have h0 := hcc 0 _ rfl
 have h1 := hcc 1 _ rfl
 have h2 := hcc 2 _ rfl
 rw [add_plain] at h0 h1 h2
 exact ⟨g, x, y, A', n', c', rfl, by simpa [Kd.raw] using h0, by simpa [Kd.raw] using h1, by simpa [Kd.raw] using h2, hi⟩
set_option maxHeartbeats 8000000 in
set_option maxRecDepth 100000 in
theorem credenzalaw08_PagePlaces.calls (k : Nat) (a0_0 : Int) (a0_1 : Int) (a0_2 : Int) (a0_3 : Int) (a0_4 : Int) (a0_5 : Int) (a0_6 : Int) (A0_7 : Option Addr) (c0_7 : Nat) (l0_7 : List (List Int)) (A0_8 : Option Addr) (c0_8 : Nat) (l0_8 : List (List Int)) (a1 : Int) (a2 : Int) (r : Bool) (w : World) (hr0_7 : Kd.C (Kd.slice 21 (Kd.int .i32)) w A0_7 l0_7.length l0_7) (hc0_7 : l0_7.length ≤ c0_7) (hr0_8 : Kd.C (Kd.slice 21 (Kd.int .i32)) w A0_8 l0_8.length l0_8) (hc0_8 : l0_8.length ≤ c0_8) (h : credenzalaw08_PagePlaces.f k a0_0 a0_1 a0_2 a0_3 a0_4 a0_5 a0_6 l0_7 l0_8 a1 a2 = some r) :
  Calls Try.prog 8 #[.agg #[.int .i64 a0_0, .int .i64 a0_1, .int .i64 a0_2, .int .i64 a0_3, .int .i64 a0_4, .int .i64 a0_5, .int .i64 a0_6, .slice A0_7 l0_7.length c0_7, .slice A0_8 l0_8.length c0_8], .int .i64 a1, .int .i64 a2] w fun e w' => e = .returned (.bool r) ∧ Below w.heap.size w w' := by
 have hu26 := Try.underlying26
 have hu23 := Try.underlying23
 have HR0_7 := Aside0.mk hr0_7
 have HC0_7 := Aside0.mk hc0_7
 clear hr0_7 hc0_7
 have HR0_8 := Aside0.mk hr0_8
 have HC0_8 := Aside0.mk hc0_8
 clear hr0_8 hc0_8
 have HB := Aside0.mk (Below.refl w.heap.size w)
 have H := h
 clear h
 unfold credenzalaw08_PagePlaces.f at H
 have HC4 := Aside0.mk H
 clear H
 go_enter Try.func8, Try.ntmps8
 go_upto_region 1 with (first | ((with_reducible refine gate_dst (N := 3) rfl ?_); refine box_event ?hg (N := 3) ?hd (cs := #[.int .i64 a0_0, .int .i64 a0_1, .int .i64 a0_2, .int .i64 a0_3, .int .i64 a0_4, .int .i64 a0_5, .int .i64 a0_6, .slice A0_7 l0_7.length c0_7, .slice A0_8 l0_8.length c0_8]) (t := 26) ?hr ?_; (case hd => rfl); (case hg => rfl); (case hr => first | (go_simp; done) | (go_simp; rfl)); intro gb486 hg w5 hbox hb; have n0_ := Aside0.mk (below_step (by with_reducible exact HB.out) hb); have n1_ := Aside0.mk (hbox); have n2_ := Aside0.mk ((by rw [hg]; exact (below_size (by with_reducible exact HB.out)) : w.heap.size ≤ gb486)); have n3_ := Aside0.mk ((by rw [hg]; exact (below_size (by with_reducible exact HB.out)) : w.heap.size ≤ gb486)); clear HB; have HB := n0_; have BK486 := n1_; have GW486 := n2_; have GE486 := n3_; clear n0_ n1_ n2_ n3_; clear hb hbox hg))
 (try simp only [Act.put, List.setIfInBounds_toArray, List.set_cons_zero, List.set_cons_succ])
 go_cut [39] (fun v39 wc => ∃ (kq : Nat) (x39_3 : Bool), v39 = .bool x39_3 ∧ Aside0 (credenzalaw08_PagePlaces.j0 kq a1 a2 x39_3 a0_0 a0_1 a0_2 a0_3 a0_4 a0_5 a0_6 l0_7 l0_8 = some r) ∧ Aside0 (kq ≤ k) ∧ Aside0 (wc.heap[gb486]? = some (.cells #[.int .i64 a0_0, .int .i64 a0_1, .int .i64 a0_2, .int .i64 a0_3, .int .i64 a0_4, .int .i64 a0_5, .int .i64 a0_6, (.slice A0_7 l0_7.length c0_7), (.slice A0_8 l0_8.length c0_8)] 26 (0, 0))) ∧ Aside0 (Below w.heap.size w wc))
 case first =>
  have H := HC4.out
  clear HC4
  replace H := Option.bind_eq_some_iff.mp H
  obtain ⟨⟨t487, t488, t489, t490, t491, t492, t493⟩, A60, H⟩ := H
  try dsimp only at H
  have A6 := Aside0.mk A60
  clear A60
  replace H := Option.bind_eq_some_iff.mp H
  obtain ⟨t494, A70, H⟩ := H
  have A7 := Aside0.mk A70
  clear A70
  by_cases c8 : t494 = true
  ·
   subst c8
   have H1 : ((credenzalaw08_shaped.f k a0_0 a0_1 a0_2 a0_3 a0_4 a0_5 a0_6 l0_7).bind fun t495 => (if t495 = true then ((credenzalaw08_shaped.f k a0_0 a0_1 a0_2 a0_3 a0_4 a0_5 a0_6 l0_8).bind fun t496 => (credenzalaw08_PagePlaces.j0 k a1 a2 (!t496) a0_0 a0_1 a0_2 a0_3 a0_4 a0_5 a0_6 l0_7 l0_8)) else (credenzalaw08_PagePlaces.j0 k a1 a2 true a0_0 a0_1 a0_2 a0_3 a0_4 a0_5 a0_6 l0_7 l0_8))) = some r := by rw [if_pos rfl] at H; exact H
   clear H
   have H := H1
   clear H1
   replace H := Option.bind_eq_some_iff.mp H
   obtain ⟨t495, A90, H⟩ := H
   have A9 := Aside0.mk A90
   clear A90
   by_cases c10 : t495 = true
   ·
    subst c10
    have H1 : ((credenzalaw08_shaped.f k a0_0 a0_1 a0_2 a0_3 a0_4 a0_5 a0_6 l0_8).bind fun t496 => (credenzalaw08_PagePlaces.j0 k a1 a2 (!t496) a0_0 a0_1 a0_2 a0_3 a0_4 a0_5 a0_6 l0_7 l0_8)) = some r := by rw [if_pos rfl] at H; exact H
    clear H
    have H := H1
    clear H1
    replace H := Option.bind_eq_some_iff.mp H
    obtain ⟨t496, A110, H⟩ := H
    have A11 := Aside0.mk A110
    clear A110
    have H' := Aside0.mk H
    clear H
    have hz12 := bx9 BK486.out
    go_wp2_with (first | ((with_reducible refine gate_callee (f := 10) rfl ?_); refine goesL_ (some 21) rfl rfl Try.func10 (by kernel_rfl) rfl #[.agg #[.int .i64 a0_0, .int .i64 a0_1, .int .i64 a0_2, .int .i64 a0_3, .int .i64 a0_4, .int .i64 a0_5, .int .i64 a0_6]] rfl (by (try simp only [List.map_toArray, List.map_cons, List.map_nil]); first | done | rfl | (simp only [List.length_drop, List.length_take]; rfl)) ?_; (with_reducible refine (credenzalaw08_head.calls a0_0 a0_1 a0_2 a0_3 a0_4 a0_5 a0_6 t487 t488 t489 t490 t491 t492 t493 _ A6.out).mono ?_); rintro e w13 ⟨rfl, hb⟩; refine ⟨_, rfl, ?_⟩; replace BK486 := Aside0.mk (blk_below BK486.out hb); replace HB := Aside0.mk (below_step (by with_reducible exact HB.out) hb); clear hb) | ((with_reducible refine gate_callee (f := 9) rfl ?_); refine goesL_ (some 22) rfl rfl Try.func9 (by kernel_rfl) rfl #[.agg #[.int .i64 t487, .int .i64 t488, .int .i64 t489, .int .i64 t490, .int .i64 t491, .int .i64 t492, .int .i64 t493]] rfl (by (try simp only [List.map_toArray, List.map_cons, List.map_nil]); first | done | rfl | (simp only [List.length_drop, List.length_take]; rfl)) ?_; (with_reducible refine (credenzaref08_Right.calls t487 t488 t489 t490 t491 t492 t493 true _ A7.out).mono ?_); rintro e w14 ⟨rfl, hb⟩; refine ⟨_, rfl, ?_⟩; replace BK486 := Aside0.mk (blk_below BK486.out hb); replace HB := Aside0.mk (below_step (by with_reducible exact HB.out) hb); clear hb; have hz15 := bx9 BK486.out) | (go_at_call 11; (with_reducible refine (credenzalaw08_shaped.calls k a0_0 a0_1 a0_2 a0_3 a0_4 a0_5 a0_6 _ _ l0_7 true _ ?side1 ?side2 A9.out).mono ?_); (case side1 => with_reducible exact (Kd.C_below HR0_7.out HB.out)); (case side2 => exact HC0_7.out); rintro e w16 ⟨rfl, hb⟩; replace BK486 := Aside0.mk (blk_below BK486.out hb); replace HB := Aside0.mk (below_step (by with_reducible exact HB.out) hb); clear hb; have hz17 := bx9 BK486.out) | (go_at_call 11; (with_reducible refine (credenzalaw08_shaped.calls k a0_0 a0_1 a0_2 a0_3 a0_4 a0_5 a0_6 _ _ l0_8 t496 _ ?side1 ?side2 A11.out).mono ?_); (case side1 => with_reducible exact (Kd.C_below HR0_8.out HB.out)); (case side2 => exact HC0_8.out); rintro e w18 ⟨rfl, hb⟩; replace BK486 := Aside0.mk (blk_below BK486.out hb); replace HB := Aside0.mk (below_step (by with_reducible exact HB.out) hb); clear hb))
    go_meet
    case rel => exact ⟨_, (!t496), (by first | rfl | (simp; done) | (simp [*]; done)), H', ⟨by first | omega | exact Nat.le_refl _⟩, ⟨by exact BK486.out⟩, ⟨by with_reducible exact HB.out⟩⟩
   ·
    replace c10 := Bool.eq_false_iff.mpr c10
    subst c10
    have H1 : (credenzalaw08_PagePlaces.j0 k a1 a2 true a0_0 a0_1 a0_2 a0_3 a0_4 a0_5 a0_6 l0_7 l0_8) = some r := by rw [if_neg (show ¬ (false = true) by decide)] at H; exact H
    clear H
    have H := H1
    clear H1
    have H' := Aside0.mk H
    clear H
    have hz19 := bx9 BK486.out
    go_wp2_with (first | ((with_reducible refine gate_callee (f := 10) rfl ?_); refine goesL_ (some 21) rfl rfl Try.func10 (by kernel_rfl) rfl #[.agg #[.int .i64 a0_0, .int .i64 a0_1, .int .i64 a0_2, .int .i64 a0_3, .int .i64 a0_4, .int .i64 a0_5, .int .i64 a0_6]] rfl (by (try simp only [List.map_toArray, List.map_cons, List.map_nil]); first | done | rfl | (simp only [List.length_drop, List.length_take]; rfl)) ?_; (with_reducible refine (credenzalaw08_head.calls a0_0 a0_1 a0_2 a0_3 a0_4 a0_5 a0_6 t487 t488 t489 t490 t491 t492 t493 _ A6.out).mono ?_); rintro e w20 ⟨rfl, hb⟩; refine ⟨_, rfl, ?_⟩; replace BK486 := Aside0.mk (blk_below BK486.out hb); replace HB := Aside0.mk (below_step (by with_reducible exact HB.out) hb); clear hb) | ((with_reducible refine gate_callee (f := 9) rfl ?_); refine goesL_ (some 22) rfl rfl Try.func9 (by kernel_rfl) rfl #[.agg #[.int .i64 t487, .int .i64 t488, .int .i64 t489, .int .i64 t490, .int .i64 t491, .int .i64 t492, .int .i64 t493]] rfl (by (try simp only [List.map_toArray, List.map_cons, List.map_nil]); first | done | rfl | (simp only [List.length_drop, List.length_take]; rfl)) ?_; (with_reducible refine (credenzaref08_Right.calls t487 t488 t489 t490 t491 t492 t493 true _ A7.out).mono ?_); rintro e w21 ⟨rfl, hb⟩; refine ⟨_, rfl, ?_⟩; replace BK486 := Aside0.mk (blk_below BK486.out hb); replace HB := Aside0.mk (below_step (by with_reducible exact HB.out) hb); clear hb; have hz22 := bx9 BK486.out) | (go_at_call 11; (with_reducible refine (credenzalaw08_shaped.calls k a0_0 a0_1 a0_2 a0_3 a0_4 a0_5 a0_6 _ _ l0_7 false _ ?side1 ?side2 A9.out).mono ?_); (case side1 => with_reducible exact (Kd.C_below HR0_7.out HB.out)); (case side2 => exact HC0_7.out); rintro e w23 ⟨rfl, hb⟩; replace BK486 := Aside0.mk (blk_below BK486.out hb); replace HB := Aside0.mk (below_step (by with_reducible exact HB.out) hb); clear hb))
    go_meet
    case rel => exact ⟨_, (true), (by first | rfl | (simp; done) | (simp [*]; done)), H', ⟨by first | omega | exact Nat.le_refl _⟩, ⟨by exact BK486.out⟩, ⟨by with_reducible exact HB.out⟩⟩
  ·
   replace c8 := Bool.eq_false_iff.mpr c8
   subst c8
   have H1 : (credenzalaw08_PagePlaces.j0 k a1 a2 true a0_0 a0_1 a0_2 a0_3 a0_4 a0_5 a0_6 l0_7 l0_8) = some r := by rw [if_neg (show ¬ (false = true) by decide)] at H; exact H
   clear H
   have H := H1
   clear H1
   have H' := Aside0.mk H
   clear H
   have hz24 := bx9 BK486.out
   go_wp2_with (first | ((with_reducible refine gate_callee (f := 10) rfl ?_); refine goesL_ (some 21) rfl rfl Try.func10 (by kernel_rfl) rfl #[.agg #[.int .i64 a0_0, .int .i64 a0_1, .int .i64 a0_2, .int .i64 a0_3, .int .i64 a0_4, .int .i64 a0_5, .int .i64 a0_6]] rfl (by (try simp only [List.map_toArray, List.map_cons, List.map_nil]); first | done | rfl | (simp only [List.length_drop, List.length_take]; rfl)) ?_; (with_reducible refine (credenzalaw08_head.calls a0_0 a0_1 a0_2 a0_3 a0_4 a0_5 a0_6 t487 t488 t489 t490 t491 t492 t493 _ A6.out).mono ?_); rintro e w25 ⟨rfl, hb⟩; refine ⟨_, rfl, ?_⟩; replace BK486 := Aside0.mk (blk_below BK486.out hb); replace HB := Aside0.mk (below_step (by with_reducible exact HB.out) hb); clear hb) | ((with_reducible refine gate_callee (f := 9) rfl ?_); refine goesL_ (some 22) rfl rfl Try.func9 (by kernel_rfl) rfl #[.agg #[.int .i64 t487, .int .i64 t488, .int .i64 t489, .int .i64 t490, .int .i64 t491, .int .i64 t492, .int .i64 t493]] rfl (by (try simp only [List.map_toArray, List.map_cons, List.map_nil]); first | done | rfl | (simp only [List.length_drop, List.length_take]; rfl)) ?_; (with_reducible refine (credenzaref08_Right.calls t487 t488 t489 t490 t491 t492 t493 false _ A7.out).mono ?_); rintro e w26 ⟨rfl, hb⟩; refine ⟨_, rfl, ?_⟩; replace BK486 := Aside0.mk (blk_below BK486.out hb); replace HB := Aside0.mk (below_step (by with_reducible exact HB.out) hb); clear hb))
   go_meet
   case rel => exact ⟨_, (true), (by first | rfl | (simp; done) | (simp [*]; done)), H', ⟨by first | omega | exact Nat.le_refl _⟩, ⟨by exact BK486.out⟩, ⟨by with_reducible exact HB.out⟩⟩
 case rest =>
  clear HC4
  try clear c1
  try clear p2
  try clear c8
  try clear c9
  try clear c10
  try clear hz12
  try clear hz15
  try clear hz17
  try clear hz19
  try clear hz22
  try clear hz24
  obtain ⟨kq, x39_3, rfl, HA, HJ3, BK486, HB⟩ := hcut
  cases kq with
  | zero => exact absurd HA.out (by simp [credenzalaw08_PagePlaces.j0])
  | succ kj3 =>
   have H := HA.out
   clear HA
   simp only [credenzalaw08_PagePlaces.j0] at H
   by_cases c27 : x39_3 = true
   ·
    subst c27
    have H1 : ((credenzalaw08_awake.f kj3).bind fun t497 => (some t497)) = some r := by rw [if_pos rfl] at H; exact H
    clear H
    have H := H1
    clear H1
    replace H := Option.bind_eq_some_iff.mp H
    obtain ⟨t497, A280, H⟩ := H
    have A28 := Aside0.mk A280
    clear A280
    obtain rfl := Option.some.inj H
    go_wp2_with (first | ((with_reducible refine gate_callee (f := 12) rfl ?_); refine goesL_ (some 40) rfl rfl Try.func12 (by kernel_rfl) rfl #[] rfl (by (try simp only [List.map_toArray, List.map_cons, List.map_nil]); first | done | rfl | (simp only [List.length_drop, List.length_take]; rfl)) ?_; (with_reducible refine (credenzalaw08_awake.calls kj3  t497 _ A28.out).mono ?_); rintro e w29 ⟨rfl, hb⟩; refine ⟨_, rfl, ?_⟩; replace BK486 := Aside0.mk (blk_below BK486.out hb); replace HB := Aside0.mk (below_step (by with_reducible exact HB.out) hb); clear hb))
    go_ret
    exact ⟨by first | rfl | (simp [errW_none, errW_some] <;> rfl) | (simp [*, errW_none, errW_some] <;> rfl), by with_reducible exact HB.out⟩
   ·
    replace c27 := Bool.eq_false_iff.mpr c27
    subst c27
    have H1 : ((page_Quantize.f kj3 a0_0 a0_1 a0_2 a0_3 a0_4 a0_5 a0_6 l0_7 l0_8).bind fun bt498 => (if bt498.2 = 0 then (credenzalaw08_PagePlaces.j1 kj3 a1 a2 bt498.1 ((bt498.1.length : Int) == 0) a0_0 a0_1 a0_2 a0_3 a0_4 a0_5 a0_6 l0_7 l0_8) else (credenzalaw08_PagePlaces.j1 kj3 a1 a2 bt498.1 true a0_0 a0_1 a0_2 a0_3 a0_4 a0_5 a0_6 l0_7 l0_8))) = some r := by rw [if_neg (show ¬ (false = true) by decide)] at H; exact H
    clear H
    have H := H1
    clear H1
    replace H := Option.bind_eq_some_iff.mp H
    obtain ⟨⟨t498, t501⟩, A300, H⟩ := H
    try dsimp only at H
    have A30 := Aside0.mk A300
    clear A300
    have HC31 := Aside0.mk H
    clear H
    have hz32 := bx9 BK486.out
    go_upto_region 4 with (first | ((with_reducible refine gate_callee (f := 13) rfl ?_); refine goesL_ (some 48) rfl rfl Try.func13 (by kernel_rfl) rfl #[.agg #[.int .i64 a0_0, .int .i64 a0_1, .int .i64 a0_2, .int .i64 a0_3, .int .i64 a0_4, .int .i64 a0_5, .int .i64 a0_6], .slice A0_7 l0_7.length c0_7, .slice A0_8 l0_8.length c0_8] rfl (by (try simp only [List.map_toArray, List.map_cons, List.map_nil]); first | done | rfl | (simp only [List.length_drop, List.length_take]; rfl)) ?_; (with_reducible refine (page_Quantize.calls kj3 a0_0 a0_1 a0_2 a0_3 a0_4 a0_5 a0_6 _ _ l0_7 _ _ l0_8 t498 t501 _ ?side1 ?side2 ?side3 ?side4 A30.out).mono ?_); (case side1 => with_reducible exact (Kd.C_below HR0_7.out HB.out)); (case side2 => exact HC0_7.out); (case side3 => with_reducible exact (Kd.C_below HR0_8.out HB.out)); (case side4 => exact HC0_8.out); rintro e w33 ⟨v499, rfl, ho0, hb⟩; refine ⟨_, rfl, ?_⟩; have n0_ := Aside0.mk (Kd.R_lower ho0 (below_size (by with_reducible exact HB.out))); have n1_ := Aside0.mk (blk_below BK486.out hb); have n2_ := Aside0.mk (below_step (by with_reducible exact HB.out) hb); clear BK486; clear HB; have HO500 := n0_; have BK486 := n1_; have HB := n2_; clear n0_ n1_ n2_; (try clear hb); (try clear hb2); (try clear hk); (try clear hi); (try clear ho0)))
    (try simp only [Act.put, List.setIfInBounds_toArray, List.set_cons_zero, List.set_cons_succ])
    go_cut [56] (fun v56 wc => ∃ (kq : Nat) (x56_30 : Bool), v56 = .bool x56_30 ∧ Aside0 (credenzalaw08_PagePlaces.j1 kq a1 a2 t498 x56_30 a0_0 a0_1 a0_2 a0_3 a0_4 a0_5 a0_6 l0_7 l0_8 = some r) ∧ Aside0 (kq ≤ kj3) ∧ Aside0 (Kd.R k75 75 wc w.heap.size (fun _ => True) v499 t498) ∧ Aside0 (wc.heap[gb486]? = some (.cells #[.int .i64 a0_0, .int .i64 a0_1, .int .i64 a0_2, .int .i64 a0_3, .int .i64 a0_4, .int .i64 a0_5, .int .i64 a0_6, (.slice A0_7 l0_7.length c0_7), (.slice A0_8 l0_8.length c0_8)] 26 (0, 0))) ∧ Aside0 (Below w.heap.size w wc))
    case first =>
     have H := HC31.out
     clear HC31
     by_cases c34 : t501 = 0
     ·
      rw [if_pos c34] at H
      have c34b0 : (t501 == 0) = true := beq_iff_eq.mpr c34
      have c34b1 : (t501 != 0) = false := bne_eq_false_iff_eq.mpr c34
      clear c34
      (first | rw [c34b0] | (simp only [i64_w, i32_w]; rw [c34b0]) | skip)
      have H' := Aside0.mk H
      clear H
      obtain ⟨Ao35, co35, eo35⟩ := Kd.R_slice HO500.out
      subst eo35
      have np36 : isNilP (.slice Ao35 t498.length co35) = ((t498.length : Int) == 0) := isNilP_C (Kd.R_reads' HO500.out).2.2
      have np36n : notNilP (.slice Ao35 t498.length co35) = ((t498.length : Int) != 0) := notNilP_C (Kd.R_reads' HO500.out).2.2
      go_wp2
      go_meet
      case rel => exact ⟨_, (((t498.length : Int) == 0)), (by first | rfl | (simp; done) | (simp [*]; done)), H', ⟨by have := HJ3.out; first | omega | exact Nat.le_refl _⟩, ⟨by exact HO500.out⟩, ⟨by exact BK486.out⟩, ⟨by with_reducible exact HB.out⟩⟩
     ·
      rw [if_neg c34] at H
      have c34b0 : (t501 == 0) = false := beq_eq_false_iff_ne.mpr c34
      have c34b1 : (t501 != 0) = true := bne_iff_ne.mpr c34
      (first | rw [c34b0] | (simp only [i64_w, i32_w]; rw [c34b0]) | skip)
      have H' := Aside0.mk H
      clear H
      go_wp2
      go_meet
      case rel => exact ⟨_, (true), (by first | rfl | (simp; done) | (simp [*]; done)), H', ⟨by have := HJ3.out; first | omega | exact Nat.le_refl _⟩, ⟨by exact HO500.out⟩, ⟨by exact BK486.out⟩, ⟨by with_reducible exact HB.out⟩⟩
    case rest =>
     clear HC31
     try clear c1
     try clear c2
     try clear p2
     try clear c3
     try clear p3
     try clear c8
     try clear c9
     try clear c10
     try clear c12
     try clear c13
     try clear c27
     try clear c34
     try clear c34b0
     try clear c34b1
     try clear p36
     try clear hz12
     try clear hz15
     try clear hz17
     try clear hz19
     try clear hz22
     try clear hz24
     try clear hz32
     try clear p2
     obtain ⟨kq, x56_30, rfl, HA, HJ30, HO_7, BK486, HB⟩ := hcut
     cases kq with
     | zero => exact absurd HA.out (by simp [credenzalaw08_PagePlaces.j1])
     | succ kj30 =>
      have H := HA.out
      clear HA
      simp only [credenzalaw08_PagePlaces.j1] at H
      by_cases c37 : x56_30 = true
      ·
       subst c37
       have H1 : (none) = some r := by rw [if_pos rfl] at H; exact H
       clear H
       have H := H1
       clear H1
       exact absurd H (by simp)
      ·
       replace c37 := Bool.eq_false_iff.mpr c37
       subst c37
       have H1 : ((page_Page_Bytes.f kj30 t498).bind fun t502 => (if a1 ≥ 0 then (if a1 < a0_2 then (if a2 ≥ 0 then (credenzalaw08_PagePlaces.j2 kj30 a1 a2 t498 (strOfNums t502) (decide (a2 < a0_3))) else (credenzalaw08_PagePlaces.j2 kj30 a1 a2 t498 (strOfNums t502) false)) else (credenzalaw08_PagePlaces.j2 kj30 a1 a2 t498 (strOfNums t502) false)) else (credenzalaw08_PagePlaces.j2 kj30 a1 a2 t498 (strOfNums t502) false))) = some r := by rw [if_neg (show ¬ (false = true) by decide)] at H; exact H
       clear H
       have H := H1
       clear H1
       replace H := Option.bind_eq_some_iff.mp H
       obtain ⟨t502, A380, H⟩ := H
       have A38 := Aside0.mk A380
       clear A380
       have HC39 := Aside0.mk H
       clear H
       obtain ⟨Ao40, co40, eo40⟩ := Kd.R_slice HO_7.out
       subst eo40
       go_upto_region 7 with (first | ((with_reducible refine gate_callee (f := 14) rfl ?_); refine goesL_ (some 58) rfl rfl Try.func14 (by kernel_rfl) rfl #[asPtr (.slice Ao40 t498.length co40)] rfl (by (try simp only [List.map_toArray, List.map_cons, List.map_nil]); first | done | rfl | (simp only [List.length_drop, List.length_take]; rfl)) ?_; (with_reducible refine (page_Page_Bytes.calls kj30 _ _ t498 t502 _ ?side1 ?side2 A38.out).mono ?_); (case side1 => with_reducible exact (Kd.R_reads' HO_7.out).2.2); (case side2 => exact (Kd.R_reads' HO_7.out).2.1); rintro e w41 ⟨v503, rfl, ho0, hb⟩; refine ⟨_, rfl, ?_⟩; have n0_ := Aside0.mk (Kd.R_below (by exact HO_7.out) hb); have n1_ := Aside0.mk (Kd.R_lower ho0 (below_size (by with_reducible exact HB.out))); have n2_ := Aside0.mk (blk_below BK486.out hb); have n3_ := Aside0.mk (below_step (by with_reducible exact HB.out) hb); clear HO_7; clear BK486; clear HB; have HO_7 := n0_; have HO504 := n1_; have BK486 := n2_; have HB := n3_; clear n0_ n1_ n2_ n3_; (try clear hb); (try clear hb2); (try clear hk); (try clear hi); (try clear ho0); have hcv42 := own_string (P := Try.prog) Try.underlying36 Try.underlying5 Try.underlying9 (Kd.own_of_R HO504.out)))
       (try simp only [Act.put, List.setIfInBounds_toArray, List.set_cons_zero, List.set_cons_succ])
       go_cut [10] (fun v10 wc => ∃ (kq : Nat) (x10_38 : Bool), v10 = .bool x10_38 ∧ Aside0 (credenzalaw08_PagePlaces.j2 kq a1 a2 t498 (strOfNums t502) x10_38 = some r) ∧ Aside0 (kq ≤ kj30) ∧ Aside0 (Kd.R k75 75 wc w.heap.size (fun _ => True) (.slice Ao40 t498.length co40) t498) ∧ Aside0 (wc.heap[gb486]? = some (.cells #[.int .i64 a0_0, .int .i64 a0_1, .int .i64 a0_2, .int .i64 a0_3, .int .i64 a0_4, .int .i64 a0_5, .int .i64 a0_6, (.slice A0_7 l0_7.length c0_7), (.slice A0_8 l0_8.length c0_8)] 26 (0, 0))) ∧ Aside0 (Below w.heap.size w wc))
       case first =>
        have H := HC39.out
        clear HC39
        by_cases c43 : a1 ≥ 0
        ·
         rw [if_pos c43] at H
         have c43b0 : decide (0 ≤ a1) = true := decide_eq_true c43
         clear c43
         (first | rw [c43b0] | (simp only [i64_w, i32_w]; rw [c43b0]) | skip)
         by_cases c44 : a1 < a0_2
         ·
          rw [if_pos c44] at H
          have c44b0 : decide (a1 < a0_2) = true := decide_eq_true c44
          clear c44
          by_cases c45 : a2 ≥ 0
          ·
           rw [if_pos c45] at H
           have c45b0 : decide (0 ≤ a2) = true := decide_eq_true c45
           clear c45
           have H' := Aside0.mk H
           clear H
           have hz46 := bx9 BK486.out
           go_wp2
           go_meet
           case rel => exact ⟨_, (decide (a2 < a0_3)), (by first | rfl | (simp; done) | (simp [*]; done)), H', ⟨by have := HJ3.out; have := HJ30.out; first | omega | exact Nat.le_refl _⟩, ⟨by exact HO_7.out⟩, ⟨by exact BK486.out⟩, ⟨by with_reducible exact HB.out⟩⟩
          ·
           rw [if_neg c45] at H
           have c45b0 : decide (0 ≤ a2) = false := decide_eq_false c45
           clear c45
           have H' := Aside0.mk H
           clear H
           have hz47 := bx9 BK486.out
           go_wp2
           go_meet
           case rel => exact ⟨_, (false), (by first | rfl | (simp; done) | (simp [*]; done)), H', ⟨by have := HJ3.out; have := HJ30.out; first | omega | exact Nat.le_refl _⟩, ⟨by exact HO_7.out⟩, ⟨by exact BK486.out⟩, ⟨by with_reducible exact HB.out⟩⟩
         ·
          rw [if_neg c44] at H
          have c44b0 : decide (a1 < a0_2) = false := decide_eq_false c44
          clear c44
          have H' := Aside0.mk H
          clear H
          have hz48 := bx9 BK486.out
          go_wp2
          go_meet
          case rel => exact ⟨_, (false), (by first | rfl | (simp; done) | (simp [*]; done)), H', ⟨by have := HJ3.out; have := HJ30.out; first | omega | exact Nat.le_refl _⟩, ⟨by exact HO_7.out⟩, ⟨by exact BK486.out⟩, ⟨by with_reducible exact HB.out⟩⟩
        ·
         rw [if_neg c43] at H
         have c43b0 : decide (0 ≤ a1) = false := decide_eq_false c43
         clear c43
         (first | rw [c43b0] | (simp only [i64_w, i32_w]; rw [c43b0]) | skip)
         have H' := Aside0.mk H
         clear H
         go_wp2
         go_meet
         case rel => exact ⟨_, (false), (by first | rfl | (simp; done) | (simp [*]; done)), H', ⟨by have := HJ3.out; have := HJ30.out; first | omega | exact Nat.le_refl _⟩, ⟨by exact HO_7.out⟩, ⟨by exact BK486.out⟩, ⟨by with_reducible exact HB.out⟩⟩
       case rest =>
        clear HC39
        try clear c1
        try clear c2
        try clear p2
        try clear c3
        try clear p3
        try clear c4
        try clear hcv4
        try clear c8
        try clear c9
        try clear c10
        try clear c12
        try clear c13
        try clear c14
        try clear c27
        try clear c34
        try clear c34b0
        try clear c34b1
        try clear p36
        try clear c37
        try clear hcv42
        try clear c43
        try clear c43b0
        try clear c44
        try clear c44b0
        try clear c45
        try clear c45b0
        try clear hz12
        try clear hz15
        try clear hz17
        try clear hz19
        try clear hz22
        try clear hz24
        try clear hz32
        try clear hz46
        try clear hz47
        try clear hz48
        try clear p2
        try clear p3
        try clear p36
        obtain ⟨kq, x10_38, rfl, HA, HJ38, HO_7, BK486, HB⟩ := hcut
        cases kq with
        | zero => exact absurd HA.out (by simp [credenzalaw08_PagePlaces.j2])
        | succ kj38 =>
         have H := HA.out
         clear HA
         simp only [credenzalaw08_PagePlaces.j2] at H
         have HC49 := Aside0.mk H
         clear H
         go_upto_region 8 with (fail)
         go_cut [95] (fun v95 wc => ∃ (kq : Nat) (x95_48 : Bool), v95 = .bool x95_48 ∧ Aside0 (credenzalaw08_PagePlaces.j3 kq t498 (strOfNums t502) x95_48 = some r) ∧ Aside0 (kq ≤ kj38) ∧ Aside0 (Kd.R k75 75 wc w.heap.size (fun _ => True) (.slice Ao40 t498.length co40) t498) ∧ Aside0 (wc.heap[gb486]? = some (.cells #[.int .i64 a0_0, .int .i64 a0_1, .int .i64 a0_2, .int .i64 a0_3, .int .i64 a0_4, .int .i64 a0_5, .int .i64 a0_6, (.slice A0_7 l0_7.length c0_7), (.slice A0_8 l0_8.length c0_8)] 26 (0, 0))) ∧ Aside0 (Below w.heap.size w wc))
         case first =>
          have H := HC49.out
          clear HC49
          by_cases c50 : x10_38 = true
          ·
           subst c50
           have H1 : (credenzalaw08_PagePlaces.j3 kj38 t498 (strOfNums t502) false) = some r := by rw [if_pos rfl] at H; exact H
           clear H
           have H := H1
           clear H1
           have H' := Aside0.mk H
           clear H
           go_wp2
           go_meet
           case rel => exact ⟨_, (false), (by first | rfl | (simp; done) | (simp [*]; done)), H', ⟨by have := HJ3.out; have := HJ30.out; have := HJ38.out; first | omega | exact Nat.le_refl _⟩, ⟨by exact HO_7.out⟩, ⟨by exact BK486.out⟩, ⟨by with_reducible exact HB.out⟩⟩
          ·
           replace c50 := Bool.eq_false_iff.mpr c50
           subst c50
           have H1 : ((page_Page_Key.f t498 a1 a2).bind fun t505 => (if t505 = 0 then ((page_Page_Value.f t498 a1 a2).bind fun t506 => (credenzalaw08_PagePlaces.j3 kj38 t498 (strOfNums t502) (t506 != 0))) else (credenzalaw08_PagePlaces.j3 kj38 t498 (strOfNums t502) true))) = some r := by rw [if_neg (show ¬ (false = true) by decide)] at H; exact H
           clear H
           have H := H1
           clear H1
           replace H := Option.bind_eq_some_iff.mp H
           obtain ⟨t505, A510, H⟩ := H
           have A51 := Aside0.mk A510
           clear A510
           by_cases c52 : t505 = 0
           ·
            rw [if_pos c52] at H
            have c52b0 : (t505 == 0) = true := beq_iff_eq.mpr c52
            have c52b1 : (t505 != 0) = false := bne_eq_false_iff_eq.mpr c52
            clear c52
            (first | rw [c52b0] | (simp only [i64_w, i32_w]; rw [c52b0]) | skip)
            replace H := Option.bind_eq_some_iff.mp H
            obtain ⟨t506, A530, H⟩ := H
            have A53 := Aside0.mk A530
            clear A530
            have H' := Aside0.mk H
            clear H
            go_wp2_with (first | (go_at_call 18; (with_reducible refine (page_Page_Key.calls _ _ t498 a1 a2 t505 _ ?side1 ?side2 A51.out).mono ?_); (case side1 => with_reducible exact (Kd.R_reads' HO_7.out).2.2); (case side2 => exact (Kd.R_reads' HO_7.out).2.1); rintro e w54 ⟨rfl, hb⟩; replace HO_7 := Aside0.mk (Kd.R_below (by exact HO_7.out) hb); replace BK486 := Aside0.mk (blk_below BK486.out hb); replace HB := Aside0.mk (below_step (by with_reducible exact HB.out) hb); clear hb) | (go_at_call 19; (with_reducible refine (page_Page_Value.calls _ _ t498 a1 a2 t506 _ ?side1 ?side2 A53.out).mono ?_); (case side1 => with_reducible exact (Kd.R_reads' HO_7.out).2.2); (case side2 => exact (Kd.R_reads' HO_7.out).2.1); rintro e w55 ⟨rfl, hb⟩; replace HO_7 := Aside0.mk (Kd.R_below (by exact HO_7.out) hb); replace BK486 := Aside0.mk (blk_below BK486.out hb); replace HB := Aside0.mk (below_step (by with_reducible exact HB.out) hb); clear hb))
            go_meet
            case rel => exact ⟨_, ((t506 != 0)), (by first | rfl | (simp; done) | (simp [*]; done)), H', ⟨by have := HJ3.out; have := HJ30.out; have := HJ38.out; first | omega | exact Nat.le_refl _⟩, ⟨by exact HO_7.out⟩, ⟨by exact BK486.out⟩, ⟨by with_reducible exact HB.out⟩⟩
           ·
            rw [if_neg c52] at H
            have c52b0 : (t505 == 0) = false := beq_eq_false_iff_ne.mpr c52
            have c52b1 : (t505 != 0) = true := bne_iff_ne.mpr c52
            (first | rw [c52b0] | (simp only [i64_w, i32_w]; rw [c52b0]) | skip)
            have H' := Aside0.mk H
            clear H
            go_wp2_with (first | (go_at_call 18; (with_reducible refine (page_Page_Key.calls _ _ t498 a1 a2 t505 _ ?side1 ?side2 A51.out).mono ?_); (case side1 => with_reducible exact (Kd.R_reads' HO_7.out).2.2); (case side2 => exact (Kd.R_reads' HO_7.out).2.1); rintro e w56 ⟨rfl, hb⟩; replace HO_7 := Aside0.mk (Kd.R_below (by exact HO_7.out) hb); replace BK486 := Aside0.mk (blk_below BK486.out hb); replace HB := Aside0.mk (below_step (by with_reducible exact HB.out) hb); clear hb))
            go_meet
            case rel => exact ⟨_, (true), (by first | rfl | (simp; done) | (simp [*]; done)), H', ⟨by have := HJ3.out; have := HJ30.out; have := HJ38.out; first | omega | exact Nat.le_refl _⟩, ⟨by exact HO_7.out⟩, ⟨by exact BK486.out⟩, ⟨by with_reducible exact HB.out⟩⟩
         case rest =>
          clear HC49
          try clear c1
          try clear c2
          try clear p2
          try clear c3
          try clear p3
          try clear c4
          try clear hcv4
          try clear c5
          try clear c8
          try clear c9
          try clear c10
          try clear c12
          try clear c13
          try clear c14
          try clear c27
          try clear c34
          try clear c34b0
          try clear c34b1
          try clear p36
          try clear c37
          try clear hcv42
          try clear c43
          try clear c43b0
          try clear c44
          try clear c44b0
          try clear c45
          try clear c45b0
          try clear c50
          try clear c52
          try clear c52b0
          try clear c52b1
          try clear hz12
          try clear hz15
          try clear hz17
          try clear hz19
          try clear hz22
          try clear hz24
          try clear hz32
          try clear hz46
          try clear hz47
          try clear hz48
          try clear p2
          try clear p3
          try clear p36
          obtain ⟨kq, x95_48, rfl, HA, HJ48, HO_7, BK486, HB⟩ := hcut
          cases kq with
          | zero => exact absurd HA.out (by simp [credenzalaw08_PagePlaces.j3])
          | succ kj48 =>
           have H := HA.out
           clear HA
           simp only [credenzalaw08_PagePlaces.j3] at H
           by_cases c57 : x95_48 = true
           ·
            subst c57
            have H1 : (none) = some r := by rw [if_pos rfl] at H; exact H
            clear H
            have H := H1
            clear H1
            exact absurd H (by simp)
           ·
            replace c57 := Bool.eq_false_iff.mpr c57
            subst c57
            have H1 : ((page_Page_Keys.f kj48 t498).bind fun t507 => ((page_Page_Values.f kj48 t498).bind fun t510 => ((page_Page_KeyGroups.f kj48 t498).bind fun t513 => ((page_Page_ValueGroups.f kj48 t498).bind fun t516 => (if t513.length + t516.length < 4398046511104 then ((page_Page_Bytes.f kj48 t498).bind fun t519 => (if (strOfNums t519).toList = (strOfNums t502).toList then ((credenzalaw08_awake.f kj48).bind fun t522 => (some t522)) else (none))) else (none)))))) = some r := by rw [if_neg (show ¬ (false = true) by decide)] at H; exact H
            clear H
            have H := H1
            clear H1
            replace H := Option.bind_eq_some_iff.mp H
            obtain ⟨t507, A580, H⟩ := H
            have A58 := Aside0.mk A580
            clear A580
            replace H := Option.bind_eq_some_iff.mp H
            obtain ⟨t510, A590, H⟩ := H
            have A59 := Aside0.mk A590
            clear A590
            replace H := Option.bind_eq_some_iff.mp H
            obtain ⟨t513, A600, H⟩ := H
            have A60 := Aside0.mk A600
            clear A600
            replace H := Option.bind_eq_some_iff.mp H
            obtain ⟨t516, A610, H⟩ := H
            by_cases cG : t513.length + t516.length < 4398046511104
            case neg => (rw [if_neg cG] at H; exact absurd H (by simp))
            rw [if_pos cG] at H
            have A61 := Aside0.mk A610
            clear A610
            replace H := Option.bind_eq_some_iff.mp H
            obtain ⟨t519, A620, H⟩ := H
            have A62 := Aside0.mk A620
            clear A620
            by_cases c63 : (strOfNums t519).toList = (strOfNums t502).toList
            case neg => (rw [if_neg c63] at H; exact absurd H (by simp))
            rw [if_pos c63] at H
            have c63b0 : ((strOfNums t519).toList == (strOfNums t502).toList) = true := beq_iff_eq.mpr c63
            have c63b1 : ((strOfNums t519).toList != (strOfNums t502).toList) = false := bne_eq_false_iff_eq.mpr c63
            clear c63
            replace H := Option.bind_eq_some_iff.mp H
            obtain ⟨t522, A640, H⟩ := H
            have A64 := Aside0.mk A640
            clear A640
            obtain rfl := Option.some.inj H
            have HK := Aside0.mk (Below.refl wc.heap.size wc)
            go_wp2_with (first | ((with_reducible refine gate_callee (f := 29) rfl ?_); refine goesL_ (some 97) rfl rfl Try.func29 (by kernel_rfl) rfl #[asPtr (.slice Ao40 t498.length co40)] rfl (by (try simp only [List.map_toArray, List.map_cons, List.map_nil]); first | done | rfl | (simp only [List.length_drop, List.length_take]; rfl)) ?_; (with_reducible refine (page_Page_Keys.calls kj48 _ _ t498 t507 _ ?side1 ?side2 A58.out).mono ?_); (case side1 => with_reducible exact Kd.C_below (Kd.R_reads' HO_7.out).2.2 HK.out); (case side2 => exact (Kd.R_reads' HO_7.out).2.1);  rintro e w65 ⟨v508, rfl, ho0, hb⟩; refine ⟨_, rfl, ?_⟩; obtain ⟨A1, c1, rfl⟩ := Kd.S_slice ho0; have HR1 := Aside0.mk (RR.of (Kd.S_R (Kd.S_lower ho0 (below_size HK.out)))); replace HK := Aside0.mk (below_step HK.out hb); clear ho0 hb) | ((with_reducible refine gate_callee (f := 30) rfl ?_); refine goesL_ (some 99) rfl rfl Try.func30 (by kernel_rfl) rfl #[asPtr (.slice Ao40 t498.length co40)] rfl (by (try simp only [List.map_toArray, List.map_cons, List.map_nil]); first | done | rfl | (simp only [List.length_drop, List.length_take]; rfl)) ?_; (with_reducible refine (page_Page_Values.calls kj48 _ _ t498 t510 _ ?side1 ?side2 A59.out).mono ?_); (case side1 => with_reducible exact Kd.C_below (Kd.R_reads' HO_7.out).2.2 HK.out); (case side2 => exact (Kd.R_reads' HO_7.out).2.1);  rintro e w66 ⟨v511, rfl, ho0, hb⟩; refine ⟨_, rfl, ?_⟩; obtain ⟨A2, c2, rfl⟩ := Kd.S_slice ho0; have HR2 := Aside0.mk (RR.of (Kd.S_R (Kd.S_lower ho0 (below_size HK.out)))); replace HR1 := Aside0.mk (HR1.out.kpt (Kpt.below (below_size HK.out) hb)); replace HK := Aside0.mk (below_step HK.out hb); clear ho0 hb))
            have HL := Aside0.mk (LL.two (c1 := c1) (c2 := c2) 24 HR1.out HR2.out (below_size HK.out))
            replace HK := Aside0.mk (below_alloc HK.out (.cells #[.slice A1 t507.length c1, .slice A2 t510.length c2] 24))
            clear HR1 HR2
            generalize w66.alloc (Obj.cells #[Value.slice A1 t507.length c1, Value.slice A2 t510.length c2] 24) = W1 at HL HK ⊢
            go_loopw [102] (fun i W' => ∃ n : Nat, n ≤ 2 ∧ i = .int .i64 n ∧ Aside0 (Kpt .i32 wc.heap.size W1 W')) (fun i _ => 2 - (intOf i).toNat)
            case atStart => exact ⟨0, by omega, rfl, ⟨Kpt.refl _ _ _⟩⟩
            case round =>
             obtain ⟨n, hn, rfl, HQ⟩ := hrel
             by_cases c : n < 2
             ·
              have d1 : decide ((n : Int) < 2) = true := decide_eq_true (by omega)
              have d2 : decide (n < 2) = true := decide_eq_true c
              obtain ⟨A, m, cap, hl, hr⟩ := HL.out n c
              have hx1 := HQ.out.oth _ _ hl (by simp)
              have HR := Aside0.mk (hr.kpt HQ.out)
              clear hl hr
              go_wp2
              have hm := HR.out.1
              unfold maxLen at hm
              go_loopw [108] (fun i W' => ∃ q : Nat, q ≤ m ∧ i = .int .i64 q ∧ Aside0 (Kpt .i32 wc.heap.size W1 W') ∧ Aside0 (RR .i32 wc.heap.size W' m A)) (fun i _ => m - (intOf i).toNat)
              case atStart => exact ⟨0, Nat.zero_le _, rfl, HQ, HR⟩
              case round =>
               clear hx1 HQ HR
               obtain ⟨q, hq, rfl, HQ, HR⟩ := hrel
               by_cases e : q < m
               ·
                have d3 : decide ((q : Int) < (m : Int)) = true := decide_eq_true (by omega)
                have d4 : decide (q < m) = true := decide_eq_true e
                obtain ⟨g2, A', m', cap', rfl, hx2, hr⟩ := HR.out.2 q e
                have HI := Aside0.mk hr
                clear hr
                have hm' := HI.out.1
                unfold maxLen at hm'
                go_wp2
                go_loopw [114] (fun i W' => ∃ s : Nat, s ≤ m' ∧ i = .int .i64 s ∧ Aside0 (Kpt .i32 wc.heap.size W1 W') ∧ Aside0 (RR .i32 wc.heap.size W' m (some ⟨g2, 0, none⟩)) ∧ Aside0 (IR .i32 wc.heap.size W' m' A')) (fun i _ => m' - (intOf i).toNat)
                case atStart => exact ⟨0, Nat.zero_le _, rfl, HQ, HR, HI⟩
                case round =>
                 clear hx2 HQ HR HI
                 obtain ⟨s, hs, rfl, HQ, HR, HI⟩ := hrel
                 by_cases f : s < m'
                 ·
                  have d5 : decide ((s : Int) < (m' : Int)) = true := decide_eq_true (by omega)
                  have d6 : decide (s < m') = true := decide_eq_true f
                  obtain ⟨g3, x, rfl, hb3, hx3, hf3⟩ := HI.out.2 s f
                  have HB3 := Aside0.mk hb3
                  clear hb3
                  go_wp2
                  have hK := Kpt.set (κ := .i32) HB3.out hx3 (wrap32 (x + 1))
                  exact ⟨⟨s + 1, by omega, by simp, ⟨HQ.out.trans hK⟩, ⟨HR.out.kpt hK⟩, ⟨HI.out.kpt hK⟩⟩, by simp only [intOf]; omega⟩
                 ·
                  have d5 : decide ((s : Int) < (m' : Int)) = false := decide_eq_false (by omega)
                  have d6 : decide (s < m') = false := decide_eq_false f
                  go_wp2
                  exact ⟨⟨q + 1, by omega, by simp, HQ, HR⟩, by simp only [intOf]; omega⟩
               ·
                have d3 : decide ((q : Int) < (m : Int)) = false := decide_eq_false (by omega)
                have d4 : decide (q < m) = false := decide_eq_false e
                go_wp2
                exact ⟨⟨n + 1, by omega, by simp, HQ⟩, by simp only [intOf]; omega⟩
             ·
              have d1 : decide ((n : Int) < 2) = false := decide_eq_false (by omega)
              have d2 : decide (n < 2) = false := decide_eq_false c
              replace HK := Aside0.mk (HK.out.trans HQ.out.bel)
              clear HL HQ
              go_wp2_with (first | ((with_reducible refine gate_callee (f := 16) rfl ?_); refine goesL_ (some 127) rfl rfl Try.func16 (by kernel_rfl) rfl #[asPtr (.slice Ao40 t498.length co40)] rfl (by (try simp only [List.map_toArray, List.map_cons, List.map_nil]); first | done | rfl | (simp only [List.length_drop, List.length_take]; rfl)) ?_; (with_reducible refine (page_Page_KeyGroups.calls kj48 _ _ t498 t513 _ ?side1 ?side2 A60.out).mono ?_); (case side1 => with_reducible exact Kd.C_below (Kd.R_reads' HO_7.out).2.2 HK.out); (case side2 => exact (Kd.R_reads' HO_7.out).2.1);  rintro e w67 ⟨v514, rfl, ho0, hb⟩; refine ⟨_, rfl, ?_⟩; obtain ⟨A3, c3, rfl⟩ := Kd.S_slice ho0; have HG3 := Aside0.mk (Kd.S_lower ho0 (below_size HK.out)); replace HK := Aside0.mk (below_step HK.out hb); clear ho0 hb) | ((with_reducible refine gate_callee (f := 17) rfl ?_); refine goesL_ (some 129) rfl rfl Try.func17 (by kernel_rfl) rfl #[asPtr (.slice Ao40 t498.length co40)] rfl (by (try simp only [List.map_toArray, List.map_cons, List.map_nil]); first | done | rfl | (simp only [List.length_drop, List.length_take]; rfl)) ?_; (with_reducible refine (page_Page_ValueGroups.calls kj48 _ _ t498 t516 _ ?side1 ?side2 A61.out).mono ?_); (case side1 => with_reducible exact Kd.C_below (Kd.R_reads' HO_7.out).2.2 HK.out); (case side2 => exact (Kd.R_reads' HO_7.out).2.1);  rintro e w68 ⟨v517, rfl, ho0, hb⟩; refine ⟨_, rfl, ?_⟩; obtain ⟨A4, c4, rfl⟩ := Kd.S_slice ho0; have HG4 := Aside0.mk (Kd.S_lower (Kd.S_new' ho0 (Kd.S_lt HG3.out)) (below_size HK.out)); replace HG3 := Aside0.mk (Kd.S_below HG3.out hb); replace HK := Aside0.mk (below_step HK.out hb); clear ho0 hb; obtain ⟨r3, hl3, hr3, hg3⟩ := GR.of (Kd.S_R HG3.out); obtain ⟨r4, hl4, hr4, hg4⟩ := GR.of (Kd.S_R HG4.out); have HR3 := Aside0.mk hr3; have HR4 := Aside0.mk hr4; have HL3 := Aside0.mk hl3; have HL4 := Aside0.mk hl4; have HGR := Aside0.mk (GR.app (hg3 _ (fun _ _ h => h)) (hg4 _ (fun _ h _ => h.2))); clear hl3 hl4 hr3 hr4 hg3 hg4) | ((with_reducible refine gate_builtin (b := .append) (xs := #[.tmp 127, .tmp 129]) rfl ?_); at_builtin; refine Kd.R_append_rows (Kd.raw 3) (w0 := wc) wc.heap.size rfl (.tmp 127) (.tmp 129) 40 47 (.agg #[(.int .i32 0), (.int .u32 0), (.slice none 0 0)]) 32 rfl Try.underlying40 info47 rfl (by decide) (by omega) _ r3 r4 _ _ _ (fun _ => True) (fun _ => False) rfl rfl ?aO ?aR (fun _ _ h => h) (fun _ h => h.elim) ?aF ?aB ?aS ?aL ?_; (case aO => exact Kd.R_mono HR3.out (fun _ _ => trivial)); (case aR => have h_ := Kd.R_reads' HR4.out; have h2_ := h_.2.2; rw [← h_.1] at h2_; exact h2_); (case aF => exact fun _ _ => trivial); (case aB => exact HK.out); (case aS => exact below_size HK.out); (case aL => rw [HL3.out]; omega); intro v130 w70 ho hb hg hat; obtain ⟨A5, c5, rfl⟩ := Kd.R_slice ho; have HGL := Aside0.mk (GL.of ho (HGR.out.grown hg)); replace HK := Aside0.mk hb; clear ho hb hg hat HGR HR3 HR4 HL3 HL4 HG3 HG4 cG; generalize (r3 ++ r4).length = m5 at HGL ⊢))
              have hm5 := HGL.out.1
              unfold maxLen at hm5
              go_loopw [132] (fun i W' => ∃ n : Nat, n ≤ m5 ∧ i = .int .i64 n ∧ Aside0 (Kpt .i64 wc.heap.size w70 W')) (fun i _ => m5 - (intOf i).toNat)
              case atStart => exact ⟨0, Nat.zero_le _, rfl, ⟨Kpt.refl _ _ _⟩⟩
              case round =>
               obtain ⟨n2, hn2, rfl, HQ⟩ := hrel
               by_cases e2 : n2 < m5
               ·
                have d7 : decide ((n2 : Int) < (m5 : Int)) = true := decide_eq_true (by omega)
                have d8 : decide (n2 < m5) = true := decide_eq_true e2
                obtain ⟨g5, x, y, A6, m6, c6, rfl, hx0, hx1, hx2, hi⟩ := (HGL.out.kpt HQ.out).2 n2 e2
                have HI := Aside0.mk hi
                have HS := Aside0.mk (Nat.le_trans (below_size HK.out) HQ.out.bel.size)
                clear hi
                go_upto_region 26 with (first | ((with_reducible refine gate_dst (N := 17) rfl ?_); refine box_event ?hg (N := 17) ?hd (cs := #[.int .i32 0, .int .u32 0, .slice none 0 0]) (t := 47) ?hr ?_; (case hd => rfl); (case hg => rfl); (case hr => first | (go_simp; done) | (go_simp; rfl)); intro gb hg w71 hbox hb; have hz9 := bx3 hbox; have HBX := Aside0.mk hbox; have HBB := Aside0.mk hb; have HBG := Aside0.mk hg; clear hbox hb hg))
                have hb3 := blk_put (blk_put (blk_put HBX.out 0 (.int .i32 x) rfl) 1 (.int .u32 y) rfl) 2 (.slice A6 m6 c6) rfl
                have hB3 := ((HBB.out.setCell (p := ⟨gb, 0, none⟩) (by rw [HBG.out]; exact Nat.le_refl _) (.int .i32 x)).setCell (p := ⟨gb, 1, none⟩) (by rw [HBG.out]; exact Nat.le_refl _) (.int .u32 y)).setCell (p := ⟨gb, 2, none⟩) (by rw [HBG.out]; exact Nat.le_refl _) (.slice A6 m6 c6)
                have hK3 := Kpt.below (κ := .i64) HS.out hB3
                replace HI := Aside0.mk (HI.out.kpt hK3)
                replace HQ := Aside0.mk (HQ.out.trans hK3)
                have hx3 := (blk_cell hb3 2).trans rfl
                clear HBX HBB HBG hz9 hx0 hx1 hx2 hB3 hK3 hb3 HS
                generalize ((w71.setCell ⟨gb, 0, none⟩ (Value.int IntKind.i32 x)).setCell ⟨gb, 1, none⟩ (Value.int IntKind.u32 y)).setCell ⟨gb, 2, none⟩ (Value.slice A6 m6 c6) = W3 at HI HQ hx3 ⊢
                have hm6 := HI.out.1
                unfold maxLen at hm6
                go_wp2
                go_loopw [139] (fun i W' => ∃ s : Nat, s ≤ m6 ∧ i = .int .i64 s ∧ Aside0 (Kpt .i64 wc.heap.size w70 W') ∧ Aside0 (IR .i64 wc.heap.size W' m6 A6) ∧ W'.cell? ⟨gb, 2, none⟩ = some (.slice A6 m6 c6)) (fun i _ => m6 - (intOf i).toNat)
                case atStart => exact ⟨0, Nat.zero_le _, rfl, HQ, HI, hx3⟩
                case round =>
                 clear hx3 HQ HI
                 obtain ⟨s, hs, rfl, HQ, HI, hx3⟩ := hrel
                 by_cases f : s < m6
                 ·
                  have d9 : decide ((s : Int) < (m6 : Int)) = true := decide_eq_true (by omega)
                  have d0 : decide (s < m6) = true := decide_eq_true f
                  obtain ⟨g7, z, rfl, hb7, hx7, hf7⟩ := HI.out.2 s f
                  have HB7 := Aside0.mk hb7
                  clear hb7
                  go_wp2
                  have hK := Kpt.set (κ := .i64) HB7.out hx7 (Go.bits .xor .i64 z 1)
                  exact ⟨⟨s + 1, by omega, by simp, ⟨HQ.out.trans hK⟩, ⟨HI.out.kpt hK⟩, hK.oth _ _ hx3 (by simp)⟩, by simp only [intOf]; omega⟩
                 ·
                  have d9 : decide ((s : Int) < (m6 : Int)) = false := decide_eq_false (by omega)
                  have d0 : decide (s < m6) = false := decide_eq_false f
                  go_wp2
                  exact ⟨⟨n2 + 1, by omega, by simp, HQ⟩, by simp only [intOf]; omega⟩
               ·
                have d7 : decide ((n2 : Int) < (m5 : Int)) = false := decide_eq_false (by omega)
                have d8 : decide (n2 < m5) = false := decide_eq_false e2
                replace HK := Aside0.mk (HK.out.trans HQ.out.bel)
                clear HGL HQ
                replace HB := Aside0.mk (HB.out.trans (HK.out.mono (below_size HB.out)))
                replace HO_7 := Aside0.mk (Kd.R_below HO_7.out HK.out)
                replace HK := Aside0.mk (Below.refl wr.heap.size wr)
                go_wp2_with (first | ((with_reducible refine gate_callee (f := 14) rfl ?_); refine goesL_ (some 152) rfl rfl Try.func14 (by kernel_rfl) rfl #[asPtr (.slice Ao40 t498.length co40)] rfl (by (try simp only [List.map_toArray, List.map_cons, List.map_nil]); first | done | rfl | (simp only [List.length_drop, List.length_take]; rfl)) ?_; (with_reducible refine (page_Page_Bytes.calls kj48 _ _ t498 t519 _ ?side1 ?side2 A62.out).mono ?_); (case side1 => with_reducible exact Kd.C_below (Kd.R_reads' HO_7.out).2.2 HK.out); (case side2 => exact (Kd.R_reads' HO_7.out).2.1);  rintro e w69 ⟨v520, rfl, ho0, hb⟩; refine ⟨_, rfl, ?_⟩; have HO521 := Aside0.mk (Kd.R_lower ho0 (below_size HB.out)); replace HB := Aside0.mk (below_step HB.out hb); clear ho0 hb; have hcv70 := own_string (P := Try.prog) Try.underlying36 Try.underlying5 Try.underlying9 (Kd.own_of_R HO521.out)) | (go_at_call 12; (with_reducible refine (credenzalaw08_awake.calls kj48  t522 _ A64.out).mono ?_);  rintro e w73 ⟨rfl, hb⟩; replace HB := Aside0.mk (below_step HB.out hb); clear hb))
                go_ret
                exact ⟨by first | rfl | (simp; done) | (simp [*]; done), HB.out⟩

/-- THE ONE PURE STATEMENT of credenzalaw08_PagePlaces: yours. -/
def credenzalaw08_PagePlaces.Pure : Prop := ∀ (a0_0 : Int) (a0_1 : Int) (a0_2 : Int) (a0_3 : Int) (a0_4 : Int) (a0_5 : Int) (a0_6 : Int) (l0_7 : List (List Int)) (l0_8 : List (List Int)) (a1 : Int) (a2 : Int), (Lit.int .i64 a0_0).wf = true → (Lit.int .i64 a0_1).wf = true → (Lit.int .i64 a0_2).wf = true → (Lit.int .i64 a0_3).wf = true → (Lit.int .i64 a0_4).wf = true → (Lit.int .i64 a0_5).wf = true → (Lit.int .i64 a0_6).wf = true → l0_7.length ≤ maxLen → (∀ z ∈ l0_7, (z.length ≤ maxLen ∧ ∀ z1 ∈ z, (Lit.int .i32 z1).wf = true)) → l0_8.length ≤ maxLen → (∀ z ∈ l0_8, (z.length ≤ maxLen ∧ ∀ z1 ∈ z, (Lit.int .i32 z1).wf = true)) → (Lit.int .i64 a1).wf = true → (Lit.int .i64 a2).wf = true → ∃ k, credenzalaw08_PagePlaces.f k a0_0 a0_1 a0_2 a0_3 a0_4 a0_5 a0_6 l0_7 l0_8 a1 a2 = some true
theorem credenzalaw08_PagePlaces.walk (P : credenzalaw08_PagePlaces.Pure) (a0_0 : Int) (a0_1 : Int) (a0_2 : Int) (a0_3 : Int) (a0_4 : Int) (a0_5 : Int) (a0_6 : Int) (A0_7 : Option Addr) (c0_7 : Nat) (l0_7 : List (List Int)) (A0_8 : Option Addr) (c0_8 : Nat) (l0_8 : List (List Int)) (a1 : Int) (a2 : Int) (w : World) (w0_0 : (Lit.int .i64 a0_0).wf = true) (w0_1 : (Lit.int .i64 a0_1).wf = true) (w0_2 : (Lit.int .i64 a0_2).wf = true) (w0_3 : (Lit.int .i64 a0_3).wf = true) (w0_4 : (Lit.int .i64 a0_4).wf = true) (w0_5 : (Lit.int .i64 a0_5).wf = true) (w0_6 : (Lit.int .i64 a0_6).wf = true) (hr0_7 : Kd.C (Kd.slice 21 (Kd.int .i32)) w A0_7 l0_7.length l0_7) (hc0_7 : l0_7.length ≤ c0_7) (hm0_7 : l0_7.length ≤ maxLen) (hq0_7 : ∀ z ∈ l0_7, (z.length ≤ maxLen ∧ ∀ z1 ∈ z, (Lit.int .i32 z1).wf = true)) (hr0_8 : Kd.C (Kd.slice 21 (Kd.int .i32)) w A0_8 l0_8.length l0_8) (hc0_8 : l0_8.length ≤ c0_8) (hm0_8 : l0_8.length ≤ maxLen) (hq0_8 : ∀ z ∈ l0_8, (z.length ≤ maxLen ∧ ∀ z1 ∈ z, (Lit.int .i32 z1).wf = true)) (w1 : (Lit.int .i64 a1).wf = true) (w2 : (Lit.int .i64 a2).wf = true) :
  Calls Try.prog 8 #[.agg #[.int .i64 a0_0, .int .i64 a0_1, .int .i64 a0_2, .int .i64 a0_3, .int .i64 a0_4, .int .i64 a0_5, .int .i64 a0_6, .slice A0_7 l0_7.length c0_7, .slice A0_8 l0_8.length c0_8], .int .i64 a1, .int .i64 a2] w fun e w' => e = .returned (.bool true) ∧ Below w.heap.size w w' := by
 obtain ⟨k, h⟩ := P a0_0 a0_1 a0_2 a0_3 a0_4 a0_5 a0_6 l0_7 l0_8 a1 a2 w0_0 w0_1 w0_2 w0_3 w0_4 w0_5 w0_6 hm0_7 hq0_7 hm0_8 hq0_8 w1 w2
 refine (credenzalaw08_PagePlaces.calls k a0_0 a0_1 a0_2 a0_3 a0_4 a0_5 a0_6 _ _ l0_7 _ _ l0_8 a1 a2 true w hr0_7 hc0_7 hr0_8 hc0_8 h).mono ?_
 rintro e w' ⟨rfl, hd⟩
 exact ⟨rfl, hd⟩

end Go.Proofs.Ytekenaclmplocaa.PPagePlaces
