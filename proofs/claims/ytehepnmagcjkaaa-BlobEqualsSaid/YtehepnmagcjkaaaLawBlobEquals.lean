-- Written by a program of this session (wip/tools/mkprint.py over the kit's print).
import Derived.Test.YtehepnmagcjkaaaRows
import Derived.Test.YtehepnmagcjkaaaPBlobEqualsx15
import Derived.Test.YtehepnmagcjkaaaPureBlobEquals
import Derived.WalkKit
import Derived.ProofKit
import Derived.OpenShut
import Derived.ShutString
import Derived.ChangeOld
import Derived.Below
import Derived.SizedLaws
import Derived.Deep.Slices
import Derived.ChangeArms
namespace Go.Proofs.Ytehepnmagcjkaaa.blobEquals
open Go.ChangeShapes Go.WideShapes Go.ChangeAt Go.RowKit
open Go.ChangeMaps (open_string shut_string)
set_option linter.unusedVariables false
theorem own : ownKnob Try.prog.godebug = none := by kernel_rfl
theorem laidOut : laidOutB Try.prog = true := by kernel_rfl
def IsRow (k : IntKind) (w : World) (a : Option Addr) (len cap : Nat) (zs : List Int) : Prop :=
  (a = none ∧ len = 0 ∧ cap = 0 ∧ zs = []) ∨
  ∃ x, a = some x ∧ len ≤ cap ∧ cap ≤ maxLen ∧ zs.length = cap ∧ (∀ i, i < zs.length → w.cell? (x.add i) = some (.int k (zs.getD i 0))) ∧ ∀ n ∈ zs, (Lit.int k n).wf = true
open Go.Proofs.Ytehepnmagcjkaaa.PBlobEquals Go.Proofs.YtehepnmagcjkaaaW.PrintWords
-- this session's own: a parameter that is a row of structs, opened
/-- What is read as type t has K's shape. -/
def Opens {α H : Type} (enc : TypeId × Value → H) (P : Program) (w : World) (base : Nat) (sp : Nat → Bool) (held : Bool) (K : Kd α) (t : TypeId) (Q : α → Prop) : Prop :=
  ∀ fuel cs x, DataW.trod enc P w base sp held fuel t cs = some x → (∀ n ∈ DataW.weights P t x.1, n ≤ reachBytes) → ∃ z, K.K w z cs ∧ Q z
theorem opens_int {H : Type} {enc : TypeId × Value → H} {P : Program} {w : World} {base : Nat} {sp : Nat → Bool} {held : Bool} {k : IntKind} {t : TypeId} (ht : P.underlying t = some (.int k)) :
    Opens enc P w base sp held (Kd.int k) t (fun n => (Lit.int k n).wf = true) := by
  intro fuel cs x h _
  obtain ⟨n, rfl, _, hw⟩ := DataW.trod_int ht h
  exact ⟨n, rfl, hw⟩
theorem opens_bool {H : Type} {enc : TypeId × Value → H} {P : Program} {w : World} {base : Nat} {sp : Nat → Bool} {held : Bool} {t : TypeId} (ht : P.underlying t = some .bool) :
    Opens enc P w base sp held Kd.bool t (fun _ => True) := by
  intro fuel cs x h _
  obtain ⟨n, rfl, _⟩ := DataW.trod_bool ht h
  exact ⟨n, rfl, trivial⟩
theorem opens_string {H : Type} {enc : TypeId × Value → H} {P : Program} {w : World} {base : Nat} {sp : Nat → Bool} {held : Bool} {t : TypeId} (ht : P.underlying t = some .string) :
    Opens enc P w base sp held Kd.string t (fun s => s.size ≤ maxLen) := by
  intro fuel cs x h _
  obtain ⟨n, rfl, _, hs⟩ := DataW.trod_string ht h
  exact ⟨n, rfl, hs⟩
theorem rowlist {α : Type} {p : Nat → α → Prop} : ∀ n : Nat, (∀ i, i < n → ∃ z, p i z) → ∃ l : List α, l.length = n ∧ ∀ j z, l[j]? = some z → p j z
  | 0, _ => ⟨[], rfl, fun j z h => by simp at h⟩
  | n + 1, h => by
    obtain ⟨l, hl, hp⟩ := rowlist n (fun i hi => h i (by omega))
    obtain ⟨z, hz⟩ := h n (by omega)
    refine ⟨l ++ [z], by simp [hl], fun j y hj => ?_⟩
    rcases Nat.lt_or_ge j l.length with hj2 | hj2
    · rw [List.getElem?_append_left hj2] at hj
      exact hp j y hj
    · rw [List.getElem?_append_right hj2] at hj
      have : j - l.length = 0 := by
        rcases Nat.eq_zero_or_pos (j - l.length) with h0 | h0
        · exact h0
        · rw [List.getElem?_eq_none (show 1 ≤ j - l.length from h0)] at hj
          cases hj
      rw [this] at hj
      simp at hj
      subst hj
      have e : j = n := by omega
      rw [e]
      exact hz
theorem mem_weightsAll {H : Type} {P : Program} {e : TypeId} {d : DataW H} {n : Nat} (hn : n ∈ DataW.weights P e d) : ∀ {ds : List (DataW H)}, d ∈ ds → n ∈ DataW.weightsAll P e ds
  | [], h => by cases h
  | d' :: r, h => by
    simp only [DataW.weightsAll, List.mem_append]
    rcases List.mem_cons.1 h with rfl | h
    · exact Or.inl hn
    · exact Or.inr (mem_weightsAll hn h)
theorem opens_slice {α H : Type} {enc : TypeId × Value → H} {P : Program} {w : World} {base : Nat} {sp : Nat → Bool} {held : Bool} {K : Kd α} {Q : α → Prop} {B : Nat} {t e : TypeId} (ht : P.underlying t = some (.slice e)) (hc : P.cellsOf e = K.sz) (hB : P.bytesOf e = B)
    (he : Opens enc P w base sp held K e Q) : Opens enc P w base sp held (Kd.slice e K) t (fun l => l.length * B ≤ 140737488351232 ∧ ∀ z ∈ l, Q z) := by
  intro fuel cs x h hw
  rcases Go.Deep.open_slice ht h with ⟨rfl, _⟩ | ⟨a, len, cap, m, n, D, Pl, rfl, hb, hl, hm, hmm, hxe, hx⟩
  · exact ⟨[], ⟨none, 0, rfl, Nat.le_refl _, rfl, Nat.zero_le _, fun h => absurd h (Nat.lt_irrefl 0)⟩, by simp, fun z hz => by cases hz⟩
  · have hlm : len ≤ m := by
      rw [hmm]
      split <;> omega
    have hws : DataW.weights P t (.slice ((List.range len).map D) ((List.range (m - len)).map fun j => D (len + j))) = (((List.range len).map D).length + ((List.range (m - len)).map fun j => D (len + j)).length) * P.bytesOf e :: (DataW.weightsAll P e ((List.range len).map D) ++ DataW.weightsAll P e ((List.range (m - len)).map fun j => D (len + j))) := by
      simp only [DataW.weights, ht]
    rw [hxe] at hw
    simp only [hws] at hw
    have hlenB : len * B ≤ 140737488351232 := by
      have h1 := hw _ (List.mem_cons_self ..)
      rw [hB, List.length_map, List.length_range, Nat.add_mul] at h1
      exact Nat.le_trans (Nat.le_add_right _ _) h1
    have each : ∀ i, i < len → ∃ z, ∃ c : List Value, c.length = K.sz ∧ K.K w z c ∧ Q z ∧ ∀ i' u, c[i']? = some u → w.cell? (a.add (i * K.sz + i')) = some u := by
      intro i hi
      obtain ⟨cs', h1, h2⟩ := hx i (by omega)
      obtain ⟨z, hk, hq⟩ := he _ _ _ h2 (fun n hn => hw n (List.mem_cons_of_mem _ (List.mem_append.2 (Or.inl (mem_weightsAll hn (List.mem_map.2 ⟨i, List.mem_range.2 hi, rfl⟩))))))
      rw [hc] at h1
      obtain ⟨_, hlen, hcell⟩ := World.cells?_some h1
      refine ⟨z, cs', hlen, hk, hq, fun i' u hu => ?_⟩
      have hi' : i' < K.sz := by
        rw [← hlen]
        exact (List.getElem?_eq_some_iff.1 hu).1
      have h3 := hcell i' hi'
      rw [add_add] at h3
      rw [h3, hu]
    obtain ⟨l, hll, hl2⟩ := rowlist len each
    subst hll
    refine ⟨l, ⟨some a, cap, rfl, hl, rfl, by simp only [maxLen] at hm; omega, fun _ => ⟨a, rfl, fun j p hj => ?_⟩⟩, hlenB, fun z hz => ?_⟩
    · obtain ⟨c, h1, h2, _, h4⟩ := hl2 j p hj
      exact ⟨c, h1, h2, h4⟩
    · obtain ⟨j, hj⟩ := List.getElem?_of_mem hz
      obtain ⟨c, _, _, h3, _⟩ := hl2 j z hj
      exact h3

set_option maxRecDepth 100000 in
theorem opens_k54 {H : Type} {enc : TypeId × Value → H} {w : World} {base : Nat} {sp : Nat → Bool} {held : Bool} : Opens enc Try.prog w base sp held k54 54 (fun z => ((Lit.int .i64 z.f0).wf = true ∧ (Lit.int .i64 z.f1).wf = true ∧ (Lit.int .i64 z.f2).wf = true ∧ (Lit.int .i64 z.f3).wf = true ∧ (Lit.int .i64 z.f4).wf = true ∧ (Lit.int .i64 z.f5).wf = true)) := by
  intro fuel cs x h hw
  obtain ⟨xs, n, _, hx, hl, hxl, hf⟩ := DataW.trod_struct Try.underlying54 h
  rw [hx] at hw
  clear h hx
  rw [show Try.prog.cellsOf 54 = 6 from by kernel_rfl] at hl
  have hxl : xs.length = 6 := hxl
  match cs, hl, xs, hxl, hw with
  | [c0, c1, c2, c3, c4, c5], _, [x0, x1, x2, x3, x4, x5], _, hw =>
    have g0 : DataW.trod enc Try.prog w base sp held n 3 (([c0, c1, c2, c3, c4, c5].drop 0).take (Try.prog.cellsOf 3)) = [x0, x1, x2, x3, x4, x5][0]? := hf 0 _ rfl
    rw [show Try.prog.cellsOf 3 = 1 from by kernel_rfl] at g0
    obtain ⟨z0, y0, q0⟩ := (opens_int Try.underlying3) _ _ _ (show DataW.trod enc Try.prog w base sp held n 3 [c0] = some x0 from g0) (fun m hm => hw m (by simp only [DataW.weights, Try.underlying54]; exact DataW.weights_mem_each (j := 0) rfl rfl m hm))
    have g1 : DataW.trod enc Try.prog w base sp held n 3 (([c0, c1, c2, c3, c4, c5].drop 1).take (Try.prog.cellsOf 3)) = [x0, x1, x2, x3, x4, x5][1]? := hf 1 _ rfl
    rw [show Try.prog.cellsOf 3 = 1 from by kernel_rfl] at g1
    obtain ⟨z1, y1, q1⟩ := (opens_int Try.underlying3) _ _ _ (show DataW.trod enc Try.prog w base sp held n 3 [c1] = some x1 from g1) (fun m hm => hw m (by simp only [DataW.weights, Try.underlying54]; exact DataW.weights_mem_each (j := 1) rfl rfl m hm))
    have g2 : DataW.trod enc Try.prog w base sp held n 3 (([c0, c1, c2, c3, c4, c5].drop 2).take (Try.prog.cellsOf 3)) = [x0, x1, x2, x3, x4, x5][2]? := hf 2 _ rfl
    rw [show Try.prog.cellsOf 3 = 1 from by kernel_rfl] at g2
    obtain ⟨z2, y2, q2⟩ := (opens_int Try.underlying3) _ _ _ (show DataW.trod enc Try.prog w base sp held n 3 [c2] = some x2 from g2) (fun m hm => hw m (by simp only [DataW.weights, Try.underlying54]; exact DataW.weights_mem_each (j := 2) rfl rfl m hm))
    have g3 : DataW.trod enc Try.prog w base sp held n 3 (([c0, c1, c2, c3, c4, c5].drop 3).take (Try.prog.cellsOf 3)) = [x0, x1, x2, x3, x4, x5][3]? := hf 3 _ rfl
    rw [show Try.prog.cellsOf 3 = 1 from by kernel_rfl] at g3
    obtain ⟨z3, y3, q3⟩ := (opens_int Try.underlying3) _ _ _ (show DataW.trod enc Try.prog w base sp held n 3 [c3] = some x3 from g3) (fun m hm => hw m (by simp only [DataW.weights, Try.underlying54]; exact DataW.weights_mem_each (j := 3) rfl rfl m hm))
    have g4 : DataW.trod enc Try.prog w base sp held n 3 (([c0, c1, c2, c3, c4, c5].drop 4).take (Try.prog.cellsOf 3)) = [x0, x1, x2, x3, x4, x5][4]? := hf 4 _ rfl
    rw [show Try.prog.cellsOf 3 = 1 from by kernel_rfl] at g4
    obtain ⟨z4, y4, q4⟩ := (opens_int Try.underlying3) _ _ _ (show DataW.trod enc Try.prog w base sp held n 3 [c4] = some x4 from g4) (fun m hm => hw m (by simp only [DataW.weights, Try.underlying54]; exact DataW.weights_mem_each (j := 4) rfl rfl m hm))
    have g5 : DataW.trod enc Try.prog w base sp held n 3 (([c0, c1, c2, c3, c4, c5].drop 5).take (Try.prog.cellsOf 3)) = [x0, x1, x2, x3, x4, x5][5]? := hf 5 _ rfl
    rw [show Try.prog.cellsOf 3 = 1 from by kernel_rfl] at g5
    obtain ⟨z5, y5, q5⟩ := (opens_int Try.underlying3) _ _ _ (show DataW.trod enc Try.prog w base sp held n 3 [c5] = some x5 from g5) (fun m hm => hw m (by simp only [DataW.weights, Try.underlying54]; exact DataW.weights_mem_each (j := 5) rfl rfl m hm))
    exact ⟨⟨z0, z1, z2, z3, z4, z5⟩, ⟨[c0], [c1, c2, c3, c4, c5], rfl, y0, ⟨[c1], [c2, c3, c4, c5], rfl, y1, ⟨[c2], [c3, c4, c5], rfl, y2, ⟨[c3], [c4, c5], rfl, y3, ⟨[c4], [c5], rfl, y4, y5⟩⟩⟩⟩⟩, q0, q1, q2, q3, q4, q5⟩
set_option maxRecDepth 100000 in
theorem opens_k115 {H : Type} {enc : TypeId × Value → H} {w : World} {base : Nat} {sp : Nat → Bool} {held : Bool} : Opens enc Try.prog w base sp held k115 115 (fun z => ((Lit.int .i32 z.f0).wf = true ∧ (Lit.int .i32 z.f1).wf = true)) := by
  intro fuel cs x h hw
  obtain ⟨xs, n, _, hx, hl, hxl, hf⟩ := DataW.trod_struct Try.underlying115 h
  rw [hx] at hw
  clear h hx
  rw [show Try.prog.cellsOf 115 = 2 from by kernel_rfl] at hl
  have hxl : xs.length = 2 := hxl
  match cs, hl, xs, hxl, hw with
  | [c0, c1], _, [x0, x1], _, hw =>
    have g0 : DataW.trod enc Try.prog w base sp held n 21 (([c0, c1].drop 0).take (Try.prog.cellsOf 21)) = [x0, x1][0]? := hf 0 _ rfl
    rw [show Try.prog.cellsOf 21 = 1 from by kernel_rfl] at g0
    obtain ⟨z0, y0, q0⟩ := (opens_int Try.underlying21) _ _ _ (show DataW.trod enc Try.prog w base sp held n 21 [c0] = some x0 from g0) (fun m hm => hw m (by simp only [DataW.weights, Try.underlying115]; exact DataW.weights_mem_each (j := 0) rfl rfl m hm))
    have g1 : DataW.trod enc Try.prog w base sp held n 21 (([c0, c1].drop 1).take (Try.prog.cellsOf 21)) = [x0, x1][1]? := hf 1 _ rfl
    rw [show Try.prog.cellsOf 21 = 1 from by kernel_rfl] at g1
    obtain ⟨z1, y1, q1⟩ := (opens_int Try.underlying21) _ _ _ (show DataW.trod enc Try.prog w base sp held n 21 [c1] = some x1 from g1) (fun m hm => hw m (by simp only [DataW.weights, Try.underlying115]; exact DataW.weights_mem_each (j := 1) rfl rfl m hm))
    exact ⟨⟨z0, z1⟩, ⟨[c0], [c1], rfl, y0, y1⟩, q0, q1⟩
set_option maxRecDepth 100000 in
theorem opens_k64 {H : Type} {enc : TypeId × Value → H} {w : World} {base : Nat} {sp : Nat → Bool} {held : Bool} : Opens enc Try.prog w base sp held k64 64 (fun z => ((Lit.int .i64 z.f0).wf = true ∧ (Lit.int .i64 z.f1).wf = true ∧ (z.f2.length * 4 ≤ 140737488351232 ∧ ∀ z4 ∈ z.f2, (Lit.int .i32 z4).wf = true))) := by
  intro fuel cs x h hw
  obtain ⟨xs, n, _, hx, hl, hxl, hf⟩ := DataW.trod_struct Try.underlying64 h
  rw [hx] at hw
  clear h hx
  rw [show Try.prog.cellsOf 64 = 3 from by kernel_rfl] at hl
  have hxl : xs.length = 3 := hxl
  match cs, hl, xs, hxl, hw with
  | [c0, c1, c2], _, [x0, x1, x2], _, hw =>
    have g0 : DataW.trod enc Try.prog w base sp held n 3 (([c0, c1, c2].drop 0).take (Try.prog.cellsOf 3)) = [x0, x1, x2][0]? := hf 0 _ rfl
    rw [show Try.prog.cellsOf 3 = 1 from by kernel_rfl] at g0
    obtain ⟨z0, y0, q0⟩ := (opens_int Try.underlying3) _ _ _ (show DataW.trod enc Try.prog w base sp held n 3 [c0] = some x0 from g0) (fun m hm => hw m (by simp only [DataW.weights, Try.underlying64]; exact DataW.weights_mem_each (j := 0) rfl rfl m hm))
    have g1 : DataW.trod enc Try.prog w base sp held n 3 (([c0, c1, c2].drop 1).take (Try.prog.cellsOf 3)) = [x0, x1, x2][1]? := hf 1 _ rfl
    rw [show Try.prog.cellsOf 3 = 1 from by kernel_rfl] at g1
    obtain ⟨z1, y1, q1⟩ := (opens_int Try.underlying3) _ _ _ (show DataW.trod enc Try.prog w base sp held n 3 [c1] = some x1 from g1) (fun m hm => hw m (by simp only [DataW.weights, Try.underlying64]; exact DataW.weights_mem_each (j := 1) rfl rfl m hm))
    have g2 : DataW.trod enc Try.prog w base sp held n 62 (([c0, c1, c2].drop 2).take (Try.prog.cellsOf 62)) = [x0, x1, x2][2]? := hf 2 _ rfl
    rw [show Try.prog.cellsOf 62 = 1 from by kernel_rfl] at g2
    obtain ⟨z2, y2, q2⟩ := (opens_slice (B := 4) Try.underlying62 (by kernel_rfl) (by kernel_rfl) (opens_int Try.underlying21)) _ _ _ (show DataW.trod enc Try.prog w base sp held n 62 [c2] = some x2 from g2) (fun m hm => hw m (by simp only [DataW.weights, Try.underlying64]; exact DataW.weights_mem_each (j := 2) rfl rfl m hm))
    exact ⟨⟨z0, z1, z2⟩, ⟨[c0], [c1, c2], rfl, y0, ⟨[c1], [c2], rfl, y1, y2⟩⟩, q0, q1, q2⟩
set_option maxRecDepth 100000 in
theorem opens_k120 {H : Type} {enc : TypeId × Value → H} {w : World} {base : Nat} {sp : Nat → Bool} {held : Bool} : Opens enc Try.prog w base sp held k120 120 (fun z => ((z.f0.length * 4 ≤ 140737488351232 ∧ ∀ z4 ∈ z.f0, (Lit.int .i32 z4).wf = true) ∧ ((Lit.int .i64 z.f1.f0).wf = true ∧ (Lit.int .i64 z.f1.f1).wf = true ∧ (z.f1.f2.length * 4 ≤ 140737488351232 ∧ ∀ z7 ∈ z.f1.f2, (Lit.int .i32 z7).wf = true)) ∧ ((Lit.int .i64 z.f2.f0).wf = true ∧ (Lit.int .i64 z.f2.f1).wf = true ∧ (z.f2.f2.length * 4 ≤ 140737488351232 ∧ ∀ z7 ∈ z.f2.f2, (Lit.int .i32 z7).wf = true)) ∧ ((Lit.int .i64 z.f3.f0).wf = true ∧ (Lit.int .i64 z.f3.f1).wf = true ∧ (z.f3.f2.length * 4 ≤ 140737488351232 ∧ ∀ z7 ∈ z.f3.f2, (Lit.int .i32 z7).wf = true)) ∧ ((Lit.int .i64 z.f4.f0).wf = true ∧ (Lit.int .i64 z.f4.f1).wf = true ∧ (z.f4.f2.length * 4 ≤ 140737488351232 ∧ ∀ z7 ∈ z.f4.f2, (Lit.int .i32 z7).wf = true)) ∧ (z.f5.length * 4 ≤ 140737488351232 ∧ ∀ z4 ∈ z.f5, (Lit.int .i32 z4).wf = true) ∧ ((Lit.int .i64 z.f6.f0).wf = true ∧ (Lit.int .i64 z.f6.f1).wf = true ∧ (z.f6.f2.length * 4 ≤ 140737488351232 ∧ ∀ z7 ∈ z.f6.f2, (Lit.int .i32 z7).wf = true)) ∧ ((Lit.int .i64 z.f7.f0).wf = true ∧ (Lit.int .i64 z.f7.f1).wf = true ∧ (z.f7.f2.length * 4 ≤ 140737488351232 ∧ ∀ z7 ∈ z.f7.f2, (Lit.int .i32 z7).wf = true)) ∧ ((Lit.int .i64 z.f8.f0).wf = true ∧ (Lit.int .i64 z.f8.f1).wf = true ∧ (z.f8.f2.length * 4 ≤ 140737488351232 ∧ ∀ z7 ∈ z.f8.f2, (Lit.int .i32 z7).wf = true)))) := by
  intro fuel cs x h hw
  obtain ⟨xs, n, _, hx, hl, hxl, hf⟩ := DataW.trod_struct Try.underlying120 h
  rw [hx] at hw
  clear h hx
  rw [show Try.prog.cellsOf 120 = 23 from by kernel_rfl] at hl
  have hxl : xs.length = 9 := hxl
  match cs, hl, xs, hxl, hw with
  | [c0, c1, c2, c3, c4, c5, c6, c7, c8, c9, c10, c11, c12, c13, c14, c15, c16, c17, c18, c19, c20, c21, c22], _, [x0, x1, x2, x3, x4, x5, x6, x7, x8], _, hw =>
    have g0 : DataW.trod enc Try.prog w base sp held n 62 (([c0, c1, c2, c3, c4, c5, c6, c7, c8, c9, c10, c11, c12, c13, c14, c15, c16, c17, c18, c19, c20, c21, c22].drop 0).take (Try.prog.cellsOf 62)) = [x0, x1, x2, x3, x4, x5, x6, x7, x8][0]? := hf 0 _ rfl
    rw [show Try.prog.cellsOf 62 = 1 from by kernel_rfl] at g0
    obtain ⟨z0, y0, q0⟩ := (opens_slice (B := 4) Try.underlying62 (by kernel_rfl) (by kernel_rfl) (opens_int Try.underlying21)) _ _ _ (show DataW.trod enc Try.prog w base sp held n 62 [c0] = some x0 from g0) (fun m hm => hw m (by simp only [DataW.weights, Try.underlying120]; exact DataW.weights_mem_each (j := 0) rfl rfl m hm))
    have g1 : DataW.trod enc Try.prog w base sp held n 64 (([c0, c1, c2, c3, c4, c5, c6, c7, c8, c9, c10, c11, c12, c13, c14, c15, c16, c17, c18, c19, c20, c21, c22].drop 1).take (Try.prog.cellsOf 64)) = [x0, x1, x2, x3, x4, x5, x6, x7, x8][1]? := hf 1 _ rfl
    rw [show Try.prog.cellsOf 64 = 3 from by kernel_rfl] at g1
    obtain ⟨z1, y1, q1⟩ := opens_k64 _ _ _ (show DataW.trod enc Try.prog w base sp held n 64 [c1, c2, c3] = some x1 from g1) (fun m hm => hw m (by simp only [DataW.weights, Try.underlying120]; exact DataW.weights_mem_each (j := 1) rfl rfl m hm))
    have g2 : DataW.trod enc Try.prog w base sp held n 64 (([c0, c1, c2, c3, c4, c5, c6, c7, c8, c9, c10, c11, c12, c13, c14, c15, c16, c17, c18, c19, c20, c21, c22].drop 4).take (Try.prog.cellsOf 64)) = [x0, x1, x2, x3, x4, x5, x6, x7, x8][2]? := hf 2 _ rfl
    rw [show Try.prog.cellsOf 64 = 3 from by kernel_rfl] at g2
    obtain ⟨z2, y2, q2⟩ := opens_k64 _ _ _ (show DataW.trod enc Try.prog w base sp held n 64 [c4, c5, c6] = some x2 from g2) (fun m hm => hw m (by simp only [DataW.weights, Try.underlying120]; exact DataW.weights_mem_each (j := 2) rfl rfl m hm))
    have g3 : DataW.trod enc Try.prog w base sp held n 64 (([c0, c1, c2, c3, c4, c5, c6, c7, c8, c9, c10, c11, c12, c13, c14, c15, c16, c17, c18, c19, c20, c21, c22].drop 7).take (Try.prog.cellsOf 64)) = [x0, x1, x2, x3, x4, x5, x6, x7, x8][3]? := hf 3 _ rfl
    rw [show Try.prog.cellsOf 64 = 3 from by kernel_rfl] at g3
    obtain ⟨z3, y3, q3⟩ := opens_k64 _ _ _ (show DataW.trod enc Try.prog w base sp held n 64 [c7, c8, c9] = some x3 from g3) (fun m hm => hw m (by simp only [DataW.weights, Try.underlying120]; exact DataW.weights_mem_each (j := 3) rfl rfl m hm))
    have g4 : DataW.trod enc Try.prog w base sp held n 64 (([c0, c1, c2, c3, c4, c5, c6, c7, c8, c9, c10, c11, c12, c13, c14, c15, c16, c17, c18, c19, c20, c21, c22].drop 10).take (Try.prog.cellsOf 64)) = [x0, x1, x2, x3, x4, x5, x6, x7, x8][4]? := hf 4 _ rfl
    rw [show Try.prog.cellsOf 64 = 3 from by kernel_rfl] at g4
    obtain ⟨z4, y4, q4⟩ := opens_k64 _ _ _ (show DataW.trod enc Try.prog w base sp held n 64 [c10, c11, c12] = some x4 from g4) (fun m hm => hw m (by simp only [DataW.weights, Try.underlying120]; exact DataW.weights_mem_each (j := 4) rfl rfl m hm))
    have g5 : DataW.trod enc Try.prog w base sp held n 62 (([c0, c1, c2, c3, c4, c5, c6, c7, c8, c9, c10, c11, c12, c13, c14, c15, c16, c17, c18, c19, c20, c21, c22].drop 13).take (Try.prog.cellsOf 62)) = [x0, x1, x2, x3, x4, x5, x6, x7, x8][5]? := hf 5 _ rfl
    rw [show Try.prog.cellsOf 62 = 1 from by kernel_rfl] at g5
    obtain ⟨z5, y5, q5⟩ := (opens_slice (B := 4) Try.underlying62 (by kernel_rfl) (by kernel_rfl) (opens_int Try.underlying21)) _ _ _ (show DataW.trod enc Try.prog w base sp held n 62 [c13] = some x5 from g5) (fun m hm => hw m (by simp only [DataW.weights, Try.underlying120]; exact DataW.weights_mem_each (j := 5) rfl rfl m hm))
    have g6 : DataW.trod enc Try.prog w base sp held n 64 (([c0, c1, c2, c3, c4, c5, c6, c7, c8, c9, c10, c11, c12, c13, c14, c15, c16, c17, c18, c19, c20, c21, c22].drop 14).take (Try.prog.cellsOf 64)) = [x0, x1, x2, x3, x4, x5, x6, x7, x8][6]? := hf 6 _ rfl
    rw [show Try.prog.cellsOf 64 = 3 from by kernel_rfl] at g6
    obtain ⟨z6, y6, q6⟩ := opens_k64 _ _ _ (show DataW.trod enc Try.prog w base sp held n 64 [c14, c15, c16] = some x6 from g6) (fun m hm => hw m (by simp only [DataW.weights, Try.underlying120]; exact DataW.weights_mem_each (j := 6) rfl rfl m hm))
    have g7 : DataW.trod enc Try.prog w base sp held n 64 (([c0, c1, c2, c3, c4, c5, c6, c7, c8, c9, c10, c11, c12, c13, c14, c15, c16, c17, c18, c19, c20, c21, c22].drop 17).take (Try.prog.cellsOf 64)) = [x0, x1, x2, x3, x4, x5, x6, x7, x8][7]? := hf 7 _ rfl
    rw [show Try.prog.cellsOf 64 = 3 from by kernel_rfl] at g7
    obtain ⟨z7, y7, q7⟩ := opens_k64 _ _ _ (show DataW.trod enc Try.prog w base sp held n 64 [c17, c18, c19] = some x7 from g7) (fun m hm => hw m (by simp only [DataW.weights, Try.underlying120]; exact DataW.weights_mem_each (j := 7) rfl rfl m hm))
    have g8 : DataW.trod enc Try.prog w base sp held n 64 (([c0, c1, c2, c3, c4, c5, c6, c7, c8, c9, c10, c11, c12, c13, c14, c15, c16, c17, c18, c19, c20, c21, c22].drop 20).take (Try.prog.cellsOf 64)) = [x0, x1, x2, x3, x4, x5, x6, x7, x8][8]? := hf 8 _ rfl
    rw [show Try.prog.cellsOf 64 = 3 from by kernel_rfl] at g8
    obtain ⟨z8, y8, q8⟩ := opens_k64 _ _ _ (show DataW.trod enc Try.prog w base sp held n 64 [c20, c21, c22] = some x8 from g8) (fun m hm => hw m (by simp only [DataW.weights, Try.underlying120]; exact DataW.weights_mem_each (j := 8) rfl rfl m hm))
    exact ⟨⟨z0, z1, z2, z3, z4, z5, z6, z7, z8⟩, ⟨[c0], [c1, c2, c3, c4, c5, c6, c7, c8, c9, c10, c11, c12, c13, c14, c15, c16, c17, c18, c19, c20, c21, c22], rfl, y0, ⟨[c1, c2, c3], [c4, c5, c6, c7, c8, c9, c10, c11, c12, c13, c14, c15, c16, c17, c18, c19, c20, c21, c22], rfl, y1, ⟨[c4, c5, c6], [c7, c8, c9, c10, c11, c12, c13, c14, c15, c16, c17, c18, c19, c20, c21, c22], rfl, y2, ⟨[c7, c8, c9], [c10, c11, c12, c13, c14, c15, c16, c17, c18, c19, c20, c21, c22], rfl, y3, ⟨[c10, c11, c12], [c13, c14, c15, c16, c17, c18, c19, c20, c21, c22], rfl, y4, ⟨[c13], [c14, c15, c16, c17, c18, c19, c20, c21, c22], rfl, y5, ⟨[c14, c15, c16], [c17, c18, c19, c20, c21, c22], rfl, y6, ⟨[c17, c18, c19], [c20, c21, c22], rfl, y7, y8⟩⟩⟩⟩⟩⟩⟩⟩, q0, q1, q2, q3, q4, q5, q6, q7, q8⟩
set_option maxRecDepth 100000 in
theorem opens_k67 {H : Type} {enc : TypeId × Value → H} {w : World} {base : Nat} {sp : Nat → Bool} {held : Bool} : Opens enc Try.prog w base sp held k67 67 (fun z => (((Lit.int .i64 z.f0.f0).wf = true ∧ (Lit.int .i64 z.f0.f1).wf = true ∧ (Lit.int .i64 z.f0.f2).wf = true ∧ (Lit.int .i64 z.f0.f3).wf = true ∧ (Lit.int .i64 z.f0.f4).wf = true ∧ (Lit.int .i64 z.f0.f5).wf = true) ∧ (z.f1.length * 8 ≤ 140737488351232 ∧ ∀ z4 ∈ z.f1, ((Lit.int .i32 z4.f0).wf = true ∧ (Lit.int .i32 z4.f1).wf = true)) ∧ ((Lit.int .i64 z.f2.f0).wf = true ∧ (Lit.int .i64 z.f2.f1).wf = true ∧ (z.f2.f2.length * 4 ≤ 140737488351232 ∧ ∀ z7 ∈ z.f2.f2, (Lit.int .i32 z7).wf = true)) ∧ (z.f3.length * 328 ≤ 140737488351232 ∧ ∀ z4 ∈ z.f3, ((z4.f0.length * 4 ≤ 140737488351232 ∧ ∀ z5 ∈ z4.f0, (Lit.int .i32 z5).wf = true) ∧ ((Lit.int .i64 z4.f1.f0).wf = true ∧ (Lit.int .i64 z4.f1.f1).wf = true ∧ (z4.f1.f2.length * 4 ≤ 140737488351232 ∧ ∀ z8 ∈ z4.f1.f2, (Lit.int .i32 z8).wf = true)) ∧ ((Lit.int .i64 z4.f2.f0).wf = true ∧ (Lit.int .i64 z4.f2.f1).wf = true ∧ (z4.f2.f2.length * 4 ≤ 140737488351232 ∧ ∀ z8 ∈ z4.f2.f2, (Lit.int .i32 z8).wf = true)) ∧ ((Lit.int .i64 z4.f3.f0).wf = true ∧ (Lit.int .i64 z4.f3.f1).wf = true ∧ (z4.f3.f2.length * 4 ≤ 140737488351232 ∧ ∀ z8 ∈ z4.f3.f2, (Lit.int .i32 z8).wf = true)) ∧ ((Lit.int .i64 z4.f4.f0).wf = true ∧ (Lit.int .i64 z4.f4.f1).wf = true ∧ (z4.f4.f2.length * 4 ≤ 140737488351232 ∧ ∀ z8 ∈ z4.f4.f2, (Lit.int .i32 z8).wf = true)) ∧ (z4.f5.length * 4 ≤ 140737488351232 ∧ ∀ z5 ∈ z4.f5, (Lit.int .i32 z5).wf = true) ∧ ((Lit.int .i64 z4.f6.f0).wf = true ∧ (Lit.int .i64 z4.f6.f1).wf = true ∧ (z4.f6.f2.length * 4 ≤ 140737488351232 ∧ ∀ z8 ∈ z4.f6.f2, (Lit.int .i32 z8).wf = true)) ∧ ((Lit.int .i64 z4.f7.f0).wf = true ∧ (Lit.int .i64 z4.f7.f1).wf = true ∧ (z4.f7.f2.length * 4 ≤ 140737488351232 ∧ ∀ z8 ∈ z4.f7.f2, (Lit.int .i32 z8).wf = true)) ∧ ((Lit.int .i64 z4.f8.f0).wf = true ∧ (Lit.int .i64 z4.f8.f1).wf = true ∧ (z4.f8.f2.length * 4 ≤ 140737488351232 ∧ ∀ z8 ∈ z4.f8.f2, (Lit.int .i32 z8).wf = true)))) ∧ (z.f4.length * 4 ≤ 140737488351232 ∧ ∀ z4 ∈ z.f4, (Lit.int .i32 z4).wf = true) ∧ ((Lit.int .i64 z.f5.f0).wf = true ∧ (Lit.int .i64 z.f5.f1).wf = true ∧ (z.f5.f2.length * 4 ≤ 140737488351232 ∧ ∀ z7 ∈ z.f5.f2, (Lit.int .i32 z7).wf = true)))) := by
  intro fuel cs x h hw
  obtain ⟨xs, n, _, hx, hl, hxl, hf⟩ := DataW.trod_struct Try.underlying67 h
  rw [hx] at hw
  clear h hx
  rw [show Try.prog.cellsOf 67 = 15 from by kernel_rfl] at hl
  have hxl : xs.length = 6 := hxl
  match cs, hl, xs, hxl, hw with
  | [c0, c1, c2, c3, c4, c5, c6, c7, c8, c9, c10, c11, c12, c13, c14], _, [x0, x1, x2, x3, x4, x5], _, hw =>
    have g0 : DataW.trod enc Try.prog w base sp held n 54 (([c0, c1, c2, c3, c4, c5, c6, c7, c8, c9, c10, c11, c12, c13, c14].drop 0).take (Try.prog.cellsOf 54)) = [x0, x1, x2, x3, x4, x5][0]? := hf 0 _ rfl
    rw [show Try.prog.cellsOf 54 = 6 from by kernel_rfl] at g0
    obtain ⟨z0, y0, q0⟩ := opens_k54 _ _ _ (show DataW.trod enc Try.prog w base sp held n 54 [c0, c1, c2, c3, c4, c5] = some x0 from g0) (fun m hm => hw m (by simp only [DataW.weights, Try.underlying67]; exact DataW.weights_mem_each (j := 0) rfl rfl m hm))
    have g1 : DataW.trod enc Try.prog w base sp held n 61 (([c0, c1, c2, c3, c4, c5, c6, c7, c8, c9, c10, c11, c12, c13, c14].drop 6).take (Try.prog.cellsOf 61)) = [x0, x1, x2, x3, x4, x5][1]? := hf 1 _ rfl
    rw [show Try.prog.cellsOf 61 = 1 from by kernel_rfl] at g1
    obtain ⟨z1, y1, q1⟩ := (opens_slice (B := 8) Try.underlying61 (by kernel_rfl) (by kernel_rfl) opens_k115) _ _ _ (show DataW.trod enc Try.prog w base sp held n 61 [c6] = some x1 from g1) (fun m hm => hw m (by simp only [DataW.weights, Try.underlying67]; exact DataW.weights_mem_each (j := 1) rfl rfl m hm))
    have g2 : DataW.trod enc Try.prog w base sp held n 64 (([c0, c1, c2, c3, c4, c5, c6, c7, c8, c9, c10, c11, c12, c13, c14].drop 7).take (Try.prog.cellsOf 64)) = [x0, x1, x2, x3, x4, x5][2]? := hf 2 _ rfl
    rw [show Try.prog.cellsOf 64 = 3 from by kernel_rfl] at g2
    obtain ⟨z2, y2, q2⟩ := opens_k64 _ _ _ (show DataW.trod enc Try.prog w base sp held n 64 [c7, c8, c9] = some x2 from g2) (fun m hm => hw m (by simp only [DataW.weights, Try.underlying67]; exact DataW.weights_mem_each (j := 2) rfl rfl m hm))
    have g3 : DataW.trod enc Try.prog w base sp held n 65 (([c0, c1, c2, c3, c4, c5, c6, c7, c8, c9, c10, c11, c12, c13, c14].drop 10).take (Try.prog.cellsOf 65)) = [x0, x1, x2, x3, x4, x5][3]? := hf 3 _ rfl
    rw [show Try.prog.cellsOf 65 = 1 from by kernel_rfl] at g3
    obtain ⟨z3, y3, q3⟩ := (opens_slice (B := 328) Try.underlying65 (by kernel_rfl) (by kernel_rfl) opens_k120) _ _ _ (show DataW.trod enc Try.prog w base sp held n 65 [c10] = some x3 from g3) (fun m hm => hw m (by simp only [DataW.weights, Try.underlying67]; exact DataW.weights_mem_each (j := 3) rfl rfl m hm))
    have g4 : DataW.trod enc Try.prog w base sp held n 62 (([c0, c1, c2, c3, c4, c5, c6, c7, c8, c9, c10, c11, c12, c13, c14].drop 11).take (Try.prog.cellsOf 62)) = [x0, x1, x2, x3, x4, x5][4]? := hf 4 _ rfl
    rw [show Try.prog.cellsOf 62 = 1 from by kernel_rfl] at g4
    obtain ⟨z4, y4, q4⟩ := (opens_slice (B := 4) Try.underlying62 (by kernel_rfl) (by kernel_rfl) (opens_int Try.underlying21)) _ _ _ (show DataW.trod enc Try.prog w base sp held n 62 [c11] = some x4 from g4) (fun m hm => hw m (by simp only [DataW.weights, Try.underlying67]; exact DataW.weights_mem_each (j := 4) rfl rfl m hm))
    have g5 : DataW.trod enc Try.prog w base sp held n 64 (([c0, c1, c2, c3, c4, c5, c6, c7, c8, c9, c10, c11, c12, c13, c14].drop 12).take (Try.prog.cellsOf 64)) = [x0, x1, x2, x3, x4, x5][5]? := hf 5 _ rfl
    rw [show Try.prog.cellsOf 64 = 3 from by kernel_rfl] at g5
    obtain ⟨z5, y5, q5⟩ := opens_k64 _ _ _ (show DataW.trod enc Try.prog w base sp held n 64 [c12, c13, c14] = some x5 from g5) (fun m hm => hw m (by simp only [DataW.weights, Try.underlying67]; exact DataW.weights_mem_each (j := 5) rfl rfl m hm))
    exact ⟨⟨z0, z1, z2, z3, z4, z5⟩, ⟨[c0, c1, c2, c3, c4, c5], [c6, c7, c8, c9, c10, c11, c12, c13, c14], rfl, y0, ⟨[c6], [c7, c8, c9, c10, c11, c12, c13, c14], rfl, y1, ⟨[c7, c8, c9], [c10, c11, c12, c13, c14], rfl, y2, ⟨[c10], [c11, c12, c13, c14], rfl, y3, ⟨[c11], [c12, c13, c14], rfl, y4, y5⟩⟩⟩⟩⟩, q0, q1, q2, q3, q4, q5⟩
set_option maxRecDepth 100000 in
theorem lifted (os : Os) (started : os.Started) (H : Type) (enc : TypeId × Value → H) :
    ReturnsInHanded {} Try.checked os 10 .any (Rows.blobEqualsSpec.pre6 enc Try.prog Try.f10 Rows.blobEqualsRow.domain false) (Rows.blobEqualsSpec.post enc Try.prog Try.f10 false true false false) := by
  refine returnsInHanded_of_change_sized (C := Try.checked) own started (by kernel_rfl) Try.func10
    (ChangeSpec.witness6 (enc := enc) (C := Try.checked) false ⟨#[], #[.agg #[.int .i64 0, .int .i64 0, .int .i64 0, .int .i64 0, .int .i64 0, .int .i64 0, .slice none 0 0, .int .i64 0, .int .i64 0, .slice none 0 0, .slice none 0 0, .slice none 0 0, .int .i64 0, .int .i64 0, .slice none 0 0], .agg #[.int .i64 0, .int .i64 0, .int .i64 0, .int .i64 0, .int .i64 0, .int .i64 0, .slice none 0 0, .int .i64 0, .int .i64 0, .slice none 0 0, .slice none 0 0, .slice none 0 0, .int .i64 0, .int .i64 0, .slice none 0 0]], []⟩ 8 (by kernel_rfl) (by kernel_rfl) (by kernel_rfl) (by kernel_rfl)) ?_
  intro W base args ds gs before hval0 hW hcnd hsz0 _
  have hsz : (DataW.weightsEach Try.prog (Try.f10.params.toList ++ Rows.blobEqualsSpec.plain.varTypes Try.prog) (ds ++ gs)).all (· ≤ reachBytes) = true := hsz0
  have hval : ∀ (j : Nat) t v, Try.f10.params[j]? = some t → args[j]? = some v → Value.okWide Try.prog W .any base t v := hval0
  have hW' := hW
  obtain ⟨p, q, hA0, hV, rfl, hfz, hnd⟩ := hW
  have hA : DataW.TrodAll enc Try.prog W 0 (fun _ => true) true Try.f10.params.toList args.toList ds p := hA0
  rw [Try.params10] at hA hval hsz
  obtain ⟨v0, vs0, d0, ds0, p0, q0, hargs, rfl, rfl, h0, r0⟩ := trodAll_cons hA
  obtain ⟨v1, vs1, d1, ds1, p1, q1, rfl, rfl, rfl, h1, r1⟩ := trodAll_cons r0
  obtain ⟨rfl, rfl, rfl⟩ := trodAll_nil r1
  obtain rfl : args = #[v0, v1] := by cases args; simp_all
  obtain ⟨rfl, rfl⟩ := trodVars_none hV
  obtain ⟨cs0, rfl, _⟩ := okWide_struct Try.underlying67 (hval 0 67 v0 rfl rfl)
  have k0 := h0
  have lt0 : ∀ x ∈ p0, x.block < W.heap.size := by obtain ⟨m, hm⟩ := k0; exact DataW.trod_lt m _ _ _ hm
  obtain ⟨z0, hk0, hq0⟩ : ∃ z, (k67).K W z cs0.toList ∧ (((Lit.int .i64 z.f0.f0).wf = true ∧ (Lit.int .i64 z.f0.f1).wf = true ∧ (Lit.int .i64 z.f0.f2).wf = true ∧ (Lit.int .i64 z.f0.f3).wf = true ∧ (Lit.int .i64 z.f0.f4).wf = true ∧ (Lit.int .i64 z.f0.f5).wf = true) ∧ (z.f1.length * 8 ≤ 140737488351232 ∧ ∀ z4 ∈ z.f1, ((Lit.int .i32 z4.f0).wf = true ∧ (Lit.int .i32 z4.f1).wf = true)) ∧ ((Lit.int .i64 z.f2.f0).wf = true ∧ (Lit.int .i64 z.f2.f1).wf = true ∧ (z.f2.f2.length * 4 ≤ 140737488351232 ∧ ∀ z7 ∈ z.f2.f2, (Lit.int .i32 z7).wf = true)) ∧ (z.f3.length * 328 ≤ 140737488351232 ∧ ∀ z4 ∈ z.f3, ((z4.f0.length * 4 ≤ 140737488351232 ∧ ∀ z5 ∈ z4.f0, (Lit.int .i32 z5).wf = true) ∧ ((Lit.int .i64 z4.f1.f0).wf = true ∧ (Lit.int .i64 z4.f1.f1).wf = true ∧ (z4.f1.f2.length * 4 ≤ 140737488351232 ∧ ∀ z8 ∈ z4.f1.f2, (Lit.int .i32 z8).wf = true)) ∧ ((Lit.int .i64 z4.f2.f0).wf = true ∧ (Lit.int .i64 z4.f2.f1).wf = true ∧ (z4.f2.f2.length * 4 ≤ 140737488351232 ∧ ∀ z8 ∈ z4.f2.f2, (Lit.int .i32 z8).wf = true)) ∧ ((Lit.int .i64 z4.f3.f0).wf = true ∧ (Lit.int .i64 z4.f3.f1).wf = true ∧ (z4.f3.f2.length * 4 ≤ 140737488351232 ∧ ∀ z8 ∈ z4.f3.f2, (Lit.int .i32 z8).wf = true)) ∧ ((Lit.int .i64 z4.f4.f0).wf = true ∧ (Lit.int .i64 z4.f4.f1).wf = true ∧ (z4.f4.f2.length * 4 ≤ 140737488351232 ∧ ∀ z8 ∈ z4.f4.f2, (Lit.int .i32 z8).wf = true)) ∧ (z4.f5.length * 4 ≤ 140737488351232 ∧ ∀ z5 ∈ z4.f5, (Lit.int .i32 z5).wf = true) ∧ ((Lit.int .i64 z4.f6.f0).wf = true ∧ (Lit.int .i64 z4.f6.f1).wf = true ∧ (z4.f6.f2.length * 4 ≤ 140737488351232 ∧ ∀ z8 ∈ z4.f6.f2, (Lit.int .i32 z8).wf = true)) ∧ ((Lit.int .i64 z4.f7.f0).wf = true ∧ (Lit.int .i64 z4.f7.f1).wf = true ∧ (z4.f7.f2.length * 4 ≤ 140737488351232 ∧ ∀ z8 ∈ z4.f7.f2, (Lit.int .i32 z8).wf = true)) ∧ ((Lit.int .i64 z4.f8.f0).wf = true ∧ (Lit.int .i64 z4.f8.f1).wf = true ∧ (z4.f8.f2.length * 4 ≤ 140737488351232 ∧ ∀ z8 ∈ z4.f8.f2, (Lit.int .i32 z8).wf = true)))) ∧ (z.f4.length * 4 ≤ 140737488351232 ∧ ∀ z4 ∈ z.f4, (Lit.int .i32 z4).wf = true) ∧ ((Lit.int .i64 z.f5.f0).wf = true ∧ (Lit.int .i64 z.f5.f1).wf = true ∧ (z.f5.f2.length * 4 ≤ 140737488351232 ∧ ∀ z7 ∈ z.f5.f2, (Lit.int .i32 z7).wf = true))) := by
    obtain ⟨fuel, hf⟩ := h0
    exact opens_k67 fuel _ _ hf (fun n hn => of_decide_eq_true (List.all_eq_true.1 hsz n (DataW.weights_mem_each (j := 0) rfl rfl n hn)))
  obtain ⟨⟨a0_0, a0_1, a0_2, a0_3, a0_4, a0_5⟩, l0_6, ⟨a0_7, a0_8, l0_9⟩, l0_10, l0_11, ⟨a0_12, a0_13, l0_14⟩⟩ := z0
  obtain ⟨_, _, e_, ⟨_, _, rfl, rfl, ⟨_, _, rfl, rfl, ⟨_, _, rfl, rfl, ⟨_, _, rfl, rfl, ⟨_, _, rfl, rfl, rfl⟩⟩⟩⟩⟩, ⟨_, _, rfl, ⟨A0_6, c0_6, rfl, hc0_6, hr0_6⟩, ⟨_, _, rfl, ⟨_, _, rfl, rfl, ⟨_, _, rfl, rfl, ⟨A0_9, c0_9, rfl, hc0_9, hr0_9⟩⟩⟩, ⟨_, _, rfl, ⟨A0_10, c0_10, rfl, hc0_10, hr0_10⟩, ⟨_, _, rfl, ⟨A0_11, c0_11, rfl, hc0_11, hr0_11⟩, ⟨_, _, rfl, rfl, ⟨_, _, rfl, rfl, ⟨A0_14, c0_14, rfl, hc0_14, hr0_14⟩⟩⟩⟩⟩⟩⟩⟩ := hk0
  obtain ⟨⟨w0_0, w0_1, w0_2, w0_3, w0_4, w0_5⟩, ⟨hm0_6, hq0_6⟩, ⟨w0_7, w0_8, ⟨hm0_9, hq0_9⟩⟩, ⟨hm0_10, hq0_10⟩, ⟨hm0_11, hq0_11⟩, ⟨w0_12, w0_13, ⟨hm0_14, hq0_14⟩⟩⟩ := hq0
  obtain rfl : cs0 = #[.int .i64 a0_0, .int .i64 a0_1, .int .i64 a0_2, .int .i64 a0_3, .int .i64 a0_4, .int .i64 a0_5, .slice A0_6 l0_6.length c0_6, .int .i64 a0_7, .int .i64 a0_8, .slice A0_9 l0_9.length c0_9, .slice A0_10 l0_10.length c0_10, .slice A0_11 l0_11.length c0_11, .int .i64 a0_12, .int .i64 a0_13, .slice A0_14 l0_14.length c0_14] := by
    apply Array.toList_inj.1
    simpa using e_
  obtain ⟨cs1, rfl, _⟩ := okWide_struct Try.underlying67 (hval 1 67 v1 rfl rfl)
  have k1 := h1
  have lt1 : ∀ x ∈ p1, x.block < W.heap.size := by obtain ⟨m, hm⟩ := k1; exact DataW.trod_lt m _ _ _ hm
  obtain ⟨z1, hk1, hq1⟩ : ∃ z, (k67).K W z cs1.toList ∧ (((Lit.int .i64 z.f0.f0).wf = true ∧ (Lit.int .i64 z.f0.f1).wf = true ∧ (Lit.int .i64 z.f0.f2).wf = true ∧ (Lit.int .i64 z.f0.f3).wf = true ∧ (Lit.int .i64 z.f0.f4).wf = true ∧ (Lit.int .i64 z.f0.f5).wf = true) ∧ (z.f1.length * 8 ≤ 140737488351232 ∧ ∀ z4 ∈ z.f1, ((Lit.int .i32 z4.f0).wf = true ∧ (Lit.int .i32 z4.f1).wf = true)) ∧ ((Lit.int .i64 z.f2.f0).wf = true ∧ (Lit.int .i64 z.f2.f1).wf = true ∧ (z.f2.f2.length * 4 ≤ 140737488351232 ∧ ∀ z7 ∈ z.f2.f2, (Lit.int .i32 z7).wf = true)) ∧ (z.f3.length * 328 ≤ 140737488351232 ∧ ∀ z4 ∈ z.f3, ((z4.f0.length * 4 ≤ 140737488351232 ∧ ∀ z5 ∈ z4.f0, (Lit.int .i32 z5).wf = true) ∧ ((Lit.int .i64 z4.f1.f0).wf = true ∧ (Lit.int .i64 z4.f1.f1).wf = true ∧ (z4.f1.f2.length * 4 ≤ 140737488351232 ∧ ∀ z8 ∈ z4.f1.f2, (Lit.int .i32 z8).wf = true)) ∧ ((Lit.int .i64 z4.f2.f0).wf = true ∧ (Lit.int .i64 z4.f2.f1).wf = true ∧ (z4.f2.f2.length * 4 ≤ 140737488351232 ∧ ∀ z8 ∈ z4.f2.f2, (Lit.int .i32 z8).wf = true)) ∧ ((Lit.int .i64 z4.f3.f0).wf = true ∧ (Lit.int .i64 z4.f3.f1).wf = true ∧ (z4.f3.f2.length * 4 ≤ 140737488351232 ∧ ∀ z8 ∈ z4.f3.f2, (Lit.int .i32 z8).wf = true)) ∧ ((Lit.int .i64 z4.f4.f0).wf = true ∧ (Lit.int .i64 z4.f4.f1).wf = true ∧ (z4.f4.f2.length * 4 ≤ 140737488351232 ∧ ∀ z8 ∈ z4.f4.f2, (Lit.int .i32 z8).wf = true)) ∧ (z4.f5.length * 4 ≤ 140737488351232 ∧ ∀ z5 ∈ z4.f5, (Lit.int .i32 z5).wf = true) ∧ ((Lit.int .i64 z4.f6.f0).wf = true ∧ (Lit.int .i64 z4.f6.f1).wf = true ∧ (z4.f6.f2.length * 4 ≤ 140737488351232 ∧ ∀ z8 ∈ z4.f6.f2, (Lit.int .i32 z8).wf = true)) ∧ ((Lit.int .i64 z4.f7.f0).wf = true ∧ (Lit.int .i64 z4.f7.f1).wf = true ∧ (z4.f7.f2.length * 4 ≤ 140737488351232 ∧ ∀ z8 ∈ z4.f7.f2, (Lit.int .i32 z8).wf = true)) ∧ ((Lit.int .i64 z4.f8.f0).wf = true ∧ (Lit.int .i64 z4.f8.f1).wf = true ∧ (z4.f8.f2.length * 4 ≤ 140737488351232 ∧ ∀ z8 ∈ z4.f8.f2, (Lit.int .i32 z8).wf = true)))) ∧ (z.f4.length * 4 ≤ 140737488351232 ∧ ∀ z4 ∈ z.f4, (Lit.int .i32 z4).wf = true) ∧ ((Lit.int .i64 z.f5.f0).wf = true ∧ (Lit.int .i64 z.f5.f1).wf = true ∧ (z.f5.f2.length * 4 ≤ 140737488351232 ∧ ∀ z7 ∈ z.f5.f2, (Lit.int .i32 z7).wf = true))) := by
    obtain ⟨fuel, hf⟩ := h1
    exact opens_k67 fuel _ _ hf (fun n hn => of_decide_eq_true (List.all_eq_true.1 hsz n (DataW.weights_mem_each (j := 1) rfl rfl n hn)))
  obtain ⟨⟨a1_0, a1_1, a1_2, a1_3, a1_4, a1_5⟩, l1_6, ⟨a1_7, a1_8, l1_9⟩, l1_10, l1_11, ⟨a1_12, a1_13, l1_14⟩⟩ := z1
  obtain ⟨_, _, e_, ⟨_, _, rfl, rfl, ⟨_, _, rfl, rfl, ⟨_, _, rfl, rfl, ⟨_, _, rfl, rfl, ⟨_, _, rfl, rfl, rfl⟩⟩⟩⟩⟩, ⟨_, _, rfl, ⟨A1_6, c1_6, rfl, hc1_6, hr1_6⟩, ⟨_, _, rfl, ⟨_, _, rfl, rfl, ⟨_, _, rfl, rfl, ⟨A1_9, c1_9, rfl, hc1_9, hr1_9⟩⟩⟩, ⟨_, _, rfl, ⟨A1_10, c1_10, rfl, hc1_10, hr1_10⟩, ⟨_, _, rfl, ⟨A1_11, c1_11, rfl, hc1_11, hr1_11⟩, ⟨_, _, rfl, rfl, ⟨_, _, rfl, rfl, ⟨A1_14, c1_14, rfl, hc1_14, hr1_14⟩⟩⟩⟩⟩⟩⟩⟩ := hk1
  obtain ⟨⟨w1_0, w1_1, w1_2, w1_3, w1_4, w1_5⟩, ⟨hm1_6, hq1_6⟩, ⟨w1_7, w1_8, ⟨hm1_9, hq1_9⟩⟩, ⟨hm1_10, hq1_10⟩, ⟨hm1_11, hq1_11⟩, ⟨w1_12, w1_13, ⟨hm1_14, hq1_14⟩⟩⟩ := hq1
  obtain rfl : cs1 = #[.int .i64 a1_0, .int .i64 a1_1, .int .i64 a1_2, .int .i64 a1_3, .int .i64 a1_4, .int .i64 a1_5, .slice A1_6 l1_6.length c1_6, .int .i64 a1_7, .int .i64 a1_8, .slice A1_9 l1_9.length c1_9, .slice A1_10 l1_10.length c1_10, .slice A1_11 l1_11.length c1_11, .int .i64 a1_12, .int .i64 a1_13, .slice A1_14 l1_14.length c1_14] := by
    apply Array.toList_inj.1
    simpa using e_
  clear hA0 hval0 hsz0 hsz
  refine (PBlobEquals.credenzalaw18_BlobEquals.walk Pure.BlobEquals a0_0 a0_1 a0_2 a0_3 a0_4 a0_5 A0_6 c0_6 l0_6 a0_7 a0_8 A0_9 c0_9 l0_9 A0_10 c0_10 l0_10 A0_11 c0_11 l0_11 a0_12 a0_13 A0_14 c0_14 l0_14 a1_0 a1_1 a1_2 a1_3 a1_4 a1_5 A1_6 c1_6 l1_6 a1_7 a1_8 A1_9 c1_9 l1_9 A1_10 c1_10 l1_10 A1_11 c1_11 l1_11 a1_12 a1_13 A1_14 c1_14 l1_14 W w0_0 w0_1 w0_2 w0_3 w0_4 w0_5 hr0_6 hc0_6 hm0_6 hq0_6 w0_7 w0_8 hr0_9 hc0_9 hm0_9 hq0_9 hr0_10 hc0_10 hm0_10 hq0_10 hr0_11 hc0_11 hm0_11 hq0_11 w0_12 w0_13 hr0_14 hc0_14 hm0_14 hq0_14 w1_0 w1_1 w1_2 w1_3 w1_4 w1_5 hr1_6 hc1_6 hm1_6 hq1_6 w1_7 w1_8 hr1_9 hc1_9 hm1_9 hq1_9 hr1_10 hc1_10 hm1_10 hq1_10 hr1_11 hc1_11 hm1_11 hq1_11 w1_12 w1_13 hr1_14 hc1_14 hm1_14 hq1_14).mono fun e W' ⟨he, bel⟩ => ?_
  subst he
  exact ⟨_, rfl, _, _, _, [], _, [], hW', trodAll_mk1 (shut_bool Try.underlying4 _), (trodAll_cons_mk (Below.trod laidOut (by kernel_rfl) (of_decide_eq_true (by kernel_rfl)) k0 bel lt0) (trodAll_cons_mk (Below.trod laidOut (by kernel_rfl) (of_decide_eq_true (by kernel_rfl)) k1 bel lt1) trodAll_mk0)), rfl, bel.frame _, fun h => by cases h⟩
theorem over : Rows.blobEqualsRow.holds Try.pinned (OpenSpec.ofChange Rows.blobEqualsSpec) :=
  OpenClaim.holds_of_wide 10 Try.f10 rfl rfl rfl rfl rfl rfl rfl ⟨rfl, rfl, rfl, rfl, rfl⟩ rfl rfl rfl rfl rfl (by kernel_rfl) Try.func10 (by kernel_rfl)
    (of_decide_eq_true (by kernel_rfl)) (by unfold Func.isWrapper; first | (rw [if_pos (by decide +kernel)]; kernel_rfl) | (rw [if_neg (by decide +kernel)]; exact ⟨rfl, rfl⟩))
    (fun os started H enc _ => lifted os started H enc)
theorem proved : Rows.BlobEqualsSaid := over
#print axioms proved
end Go.Proofs.Ytehepnmagcjkaaa.blobEquals
namespace Go.Proofs.Ytehepnmagcjkaaa
/-- The row, under a short name, for the claim. -/
theorem blobEquals_holds : Rows.BlobEqualsSaid := blobEquals.proved
end Go.Proofs.Ytehepnmagcjkaaa
