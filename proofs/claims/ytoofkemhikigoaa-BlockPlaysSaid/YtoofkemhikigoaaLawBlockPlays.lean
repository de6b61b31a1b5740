-- Written by a program of this session (wip/tools/mkprint.py over the kit's print).
import Derived.Test.YtoofkemhikigoaaRows
import Derived.Test.YtoofkemhikigoaaPBlockPlaysx12
import Derived.Test.YtoofkemhikigoaaPureBlockPlays
import Derived.WalkKit
import Derived.ProofKit
import Derived.OpenShut
import Derived.ShutString
import Derived.ChangeOld
import Derived.Below
import Derived.SizedLaws
import Derived.Deep.Slices
import Derived.ChangeArms
namespace Go.Proofs.Ytoofkemhikigoaa.blockPlays
open Go.ChangeShapes Go.WideShapes Go.ChangeAt Go.RowKit
open Go.ChangeMaps (open_string shut_string)
set_option linter.unusedVariables false
theorem own : ownKnob Try.prog.godebug = none := by kernel_rfl
theorem laidOut : laidOutB Try.prog = true := by kernel_rfl
def IsRow (k : IntKind) (w : World) (a : Option Addr) (len cap : Nat) (zs : List Int) : Prop :=
  (a = none ∧ len = 0 ∧ cap = 0 ∧ zs = []) ∨
  ∃ x, a = some x ∧ len ≤ cap ∧ cap ≤ maxLen ∧ zs.length = cap ∧ (∀ i, i < zs.length → w.cell? (x.add i) = some (.int k (zs.getD i 0))) ∧ ∀ n ∈ zs, (Lit.int k n).wf = true
open Go.Proofs.Ytoofkemhikigoaa.PBlockPlays Go.Proofs.YtoofkemhikigoaaW.PrintWords
-- this session's own: a parameter that is a row of structs, opened
/-- What is read as type t has K's shape. -/
def Opens {α H : Type} (enc : TypeId × Value → H) (P : Program) (w : World) (base : Nat) (sp : Nat → Bool) (held : Bool) (K : Kd α) (t : TypeId) (Q : α → Prop) : Prop :=
  ∀ fuel cs x, DataW.trod enc P w base sp held fuel t cs = some x → ∃ z, K.K w z cs ∧ Q z
theorem opens_int {H : Type} {enc : TypeId × Value → H} {P : Program} {w : World} {base : Nat} {sp : Nat → Bool} {held : Bool} {k : IntKind} {t : TypeId} (ht : P.underlying t = some (.int k)) :
    Opens enc P w base sp held (Kd.int k) t (fun n => (Lit.int k n).wf = true) := by
  intro fuel cs x h
  obtain ⟨n, rfl, _, hw⟩ := DataW.trod_int ht h
  exact ⟨n, rfl, hw⟩
theorem opens_bool {H : Type} {enc : TypeId × Value → H} {P : Program} {w : World} {base : Nat} {sp : Nat → Bool} {held : Bool} {t : TypeId} (ht : P.underlying t = some .bool) :
    Opens enc P w base sp held Kd.bool t (fun _ => True) := by
  intro fuel cs x h
  obtain ⟨n, rfl, _⟩ := DataW.trod_bool ht h
  exact ⟨n, rfl, trivial⟩
theorem opens_string {H : Type} {enc : TypeId × Value → H} {P : Program} {w : World} {base : Nat} {sp : Nat → Bool} {held : Bool} {t : TypeId} (ht : P.underlying t = some .string) :
    Opens enc P w base sp held Kd.string t (fun s => s.size ≤ maxLen) := by
  intro fuel cs x h
  obtain ⟨n, rfl, _, hs⟩ := DataW.trod_string ht h
  exact ⟨n, rfl, hs⟩
theorem rowlist {α : Type} {p : Nat → α → Prop} : ∀ n : Nat, (∀ i, i < n → ∃ z, p i z) → ∃ l : List α, l.length = n ∧ ∀ j z, l[j]? = some z → p j z
  | 0, _ => ⟨[], rfl, fun j z h => by simp at h⟩
  | n + 1, h => by
    obtain ⟨l, hl, hp⟩ := rowlist n (fun i hi => h i (by omega))
    obtain ⟨z, hz⟩ := h n (by omega)
    refine ⟨l ++ [z], by simp [hl], fun j y hj => ?_⟩
    rcases Nat.lt_or_ge j l.length with hj2 | hj2
    · rw [List.getElem?_append_left hj2] at hj
      exact hp j y hj
    · rw [List.getElem?_append_right hj2] at hj
      have : j - l.length = 0 := by
        rcases Nat.eq_zero_or_pos (j - l.length) with h0 | h0
        · exact h0
        · rw [List.getElem?_eq_none (show 1 ≤ j - l.length from h0)] at hj
          cases hj
      rw [this] at hj
      simp at hj
      subst hj
      have e : j = n := by omega
      rw [e]
      exact hz
theorem opens_slice {α H : Type} {enc : TypeId × Value → H} {P : Program} {w : World} {base : Nat} {sp : Nat → Bool} {held : Bool} {K : Kd α} {Q : α → Prop} {t e : TypeId} (ht : P.underlying t = some (.slice e)) (hc : P.cellsOf e = K.sz)
    (he : Opens enc P w base sp held K e Q) : Opens enc P w base sp held (Kd.slice e K) t (fun l => l.length ≤ maxLen ∧ ∀ z ∈ l, Q z) := by
  intro fuel cs x h
  rcases Go.Deep.open_slice ht h with ⟨rfl, _⟩ | ⟨a, len, cap, m, n, D, Pl, rfl, hb, hl, hm, hmm, _, hx⟩
  · exact ⟨[], ⟨none, 0, rfl, Nat.le_refl _, rfl, Nat.zero_le _, fun h => absurd h (Nat.lt_irrefl 0)⟩, Nat.zero_le _, fun z hz => by cases hz⟩
  · have hlm : len ≤ m := by
      rw [hmm]
      split <;> omega
    have each : ∀ i, i < len → ∃ z, ∃ c : List Value, c.length = K.sz ∧ K.K w z c ∧ Q z ∧ ∀ i' u, c[i']? = some u → w.cell? (a.add (i * K.sz + i')) = some u := by
      intro i hi
      obtain ⟨cs', h1, h2⟩ := hx i (by omega)
      obtain ⟨z, hk, hq⟩ := he _ _ _ h2
      rw [hc] at h1
      obtain ⟨_, hlen, hcell⟩ := World.cells?_some h1
      refine ⟨z, cs', hlen, hk, hq, fun i' u hu => ?_⟩
      have hi' : i' < K.sz := by
        rw [← hlen]
        exact (List.getElem?_eq_some_iff.1 hu).1
      have h3 := hcell i' hi'
      rw [add_add] at h3
      rw [h3, hu]
    obtain ⟨l, hll, hl2⟩ := rowlist len each
    subst hll
    refine ⟨l, ⟨some a, cap, rfl, hl, rfl, by simp only [maxLen] at hm; omega, fun _ => ⟨a, rfl, fun j p hj => ?_⟩⟩, by omega, fun z hz => ?_⟩
    · obtain ⟨c, h1, h2, _, h4⟩ := hl2 j p hj
      exact ⟨c, h1, h2, h4⟩
    · obtain ⟨j, hj⟩ := List.getElem?_of_mem hz
      obtain ⟨c, _, _, h3, _⟩ := hl2 j z hj
      exact h3

set_option maxRecDepth 100000 in
theorem opens_k57 {H : Type} {enc : TypeId × Value → H} {w : World} {base : Nat} {sp : Nat → Bool} {held : Bool} : Opens enc Try.prog w base sp held k57 57 (fun z => ((Lit.int .i64 z.f0).wf = true ∧ (Lit.int .i64 z.f1).wf = true ∧ (Lit.int .i64 z.f2).wf = true ∧ (Lit.int .i64 z.f3).wf = true)) := by
  intro fuel cs x h
  obtain ⟨xs, n, _, _, hl, hxl, hf⟩ := DataW.trod_struct Try.underlying57 h
  rw [show Try.prog.cellsOf 57 = 4 from by kernel_rfl] at hl
  have hxl : xs.length = 4 := hxl
  match cs, hl, xs, hxl with
  | [c0, c1, c2, c3], _, [x0, x1, x2, x3], _ =>
    have g0 : DataW.trod enc Try.prog w base sp held n 3 (([c0, c1, c2, c3].drop 0).take (Try.prog.cellsOf 3)) = [x0, x1, x2, x3][0]? := hf 0 _ rfl
    rw [show Try.prog.cellsOf 3 = 1 from by kernel_rfl] at g0
    obtain ⟨z0, y0, q0⟩ := (opens_int Try.underlying3) _ _ _ (show DataW.trod enc Try.prog w base sp held n 3 [c0] = some x0 from g0)
    have g1 : DataW.trod enc Try.prog w base sp held n 3 (([c0, c1, c2, c3].drop 1).take (Try.prog.cellsOf 3)) = [x0, x1, x2, x3][1]? := hf 1 _ rfl
    rw [show Try.prog.cellsOf 3 = 1 from by kernel_rfl] at g1
    obtain ⟨z1, y1, q1⟩ := (opens_int Try.underlying3) _ _ _ (show DataW.trod enc Try.prog w base sp held n 3 [c1] = some x1 from g1)
    have g2 : DataW.trod enc Try.prog w base sp held n 3 (([c0, c1, c2, c3].drop 2).take (Try.prog.cellsOf 3)) = [x0, x1, x2, x3][2]? := hf 2 _ rfl
    rw [show Try.prog.cellsOf 3 = 1 from by kernel_rfl] at g2
    obtain ⟨z2, y2, q2⟩ := (opens_int Try.underlying3) _ _ _ (show DataW.trod enc Try.prog w base sp held n 3 [c2] = some x2 from g2)
    have g3 : DataW.trod enc Try.prog w base sp held n 3 (([c0, c1, c2, c3].drop 3).take (Try.prog.cellsOf 3)) = [x0, x1, x2, x3][3]? := hf 3 _ rfl
    rw [show Try.prog.cellsOf 3 = 1 from by kernel_rfl] at g3
    obtain ⟨z3, y3, q3⟩ := (opens_int Try.underlying3) _ _ _ (show DataW.trod enc Try.prog w base sp held n 3 [c3] = some x3 from g3)
    exact ⟨⟨z0, z1, z2, z3⟩, ⟨[c0], [c1, c2, c3], rfl, y0, ⟨[c1], [c2, c3], rfl, y1, ⟨[c2], [c3], rfl, y2, y3⟩⟩⟩, q0, q1, q2, q3⟩
set_option maxRecDepth 100000 in
theorem lifted (os : Os) (started : os.Started) (H : Type) (enc : TypeId × Value → H) :
    ReturnsInHanded {} Try.checked os 9 .any (Rows.blockPlaysSpec.pre6 enc Try.prog Try.f9 Rows.blockPlaysRow.domain false) (Rows.blockPlaysSpec.post enc Try.prog Try.f9 false true false false) := by
  refine returnsInHanded_of_change_sized (C := Try.checked) own started (by kernel_rfl) Try.func9
    (ChangeSpec.witness6 (enc := enc) (C := Try.checked) false ⟨#[], #[.int .i64 0, .int .i64 0, .slice none 0 0], []⟩ 8 (by kernel_rfl) (by kernel_rfl) (by kernel_rfl) (by kernel_rfl)) ?_
  intro W base args ds gs before hval0 hW hcnd hsz0 _
  have hsz : (DataW.weightsEach Try.prog (Try.f9.params.toList ++ Rows.blockPlaysSpec.plain.varTypes Try.prog) (ds ++ gs)).all (· ≤ reachBytes) = true := hsz0
  have hval : ∀ (j : Nat) t v, Try.f9.params[j]? = some t → args[j]? = some v → Value.okWide Try.prog W .any base t v := hval0
  have hW' := hW
  obtain ⟨p, q, hA0, hV, rfl, hfz, hnd⟩ := hW
  have hA : DataW.TrodAll enc Try.prog W 0 (fun _ => true) true Try.f9.params.toList args.toList ds p := hA0
  rw [Try.params9] at hA hval hsz
  obtain ⟨v0, vs0, d0, ds0, p0, q0, hargs, rfl, rfl, h0, r0⟩ := trodAll_cons hA
  obtain ⟨v1, vs1, d1, ds1, p1, q1, rfl, rfl, rfl, h1, r1⟩ := trodAll_cons r0
  obtain ⟨v2, vs2, d2, ds2, p2, q2, rfl, rfl, rfl, h2, r2⟩ := trodAll_cons r1
  obtain ⟨rfl, rfl, rfl⟩ := trodAll_nil r2
  obtain rfl : args = #[v0, v1, v2] := by cases args; simp_all
  obtain ⟨rfl, rfl⟩ := trodVars_none hV
  obtain ⟨a0, rfl, rfl, rfl, w0⟩ := open_int Try.underlying3 (hval 0 3 v0 rfl rfl) h0
  obtain ⟨a1, rfl, rfl, rfl, w1⟩ := open_int Try.underlying3 (hval 1 3 v1 rfl rfl) h1
  obtain ⟨a2, len2, c2, rfl⟩ := okWide_slice Try.underlying53 (hval 2 53 v2 rfl rfl)
  have k2 := h2
  have lt2 : ∀ x ∈ p2, x.block < W.heap.size := by obtain ⟨m, hm⟩ := k2; exact DataW.trod_lt m _ _ _ hm
  obtain ⟨l2, ⟨A_, c_, hcs, hc2, hr2⟩, hm2, hq2⟩ : ∃ l, ((Kd.slice 57 k57)).K W l [.slice a2 len2 c2] ∧ l.length ≤ maxLen ∧ ∀ z ∈ l, ((Lit.int .i64 z.f0).wf = true ∧ (Lit.int .i64 z.f1).wf = true ∧ (Lit.int .i64 z.f2).wf = true ∧ (Lit.int .i64 z.f3).wf = true) := by
    obtain ⟨fuel, hf⟩ := h2
    exact (opens_slice Try.underlying53 (by kernel_rfl) opens_k57) fuel [.slice a2 len2 c2] _ hf
  simp only [List.cons.injEq, Value.slice.injEq, and_true] at hcs
  obtain ⟨rfl, rfl, rfl⟩ := hcs
  clear hA0 hval0 hsz0 hsz
  refine (PBlockPlays.credenzalaw11_BlockPlays.walk Pure.BlockPlays a0 a1 a2 c2 l2 W w0 w1 hr2 hc2 hm2 hq2).mono fun e W' ⟨he, bel⟩ => ?_
  subst he
  exact ⟨_, rfl, _, _, _, [], _, [], hW', trodAll_mk1 (shut_bool Try.underlying4 _), (trodAll_cons_mk (shut_int Try.underlying3 w0) (trodAll_cons_mk (shut_int Try.underlying3 w1) (trodAll_cons_mk (Below.trod laidOut (by kernel_rfl) (of_decide_eq_true (by kernel_rfl)) k2 bel lt2) trodAll_mk0))), rfl, bel.frame _, fun h => by cases h⟩
theorem over : Rows.blockPlaysRow.holds Try.pinned (OpenSpec.ofChange Rows.blockPlaysSpec) :=
  OpenClaim.holds_of_wide 9 Try.f9 rfl rfl rfl rfl rfl rfl rfl ⟨rfl, rfl, rfl, rfl, rfl⟩ rfl rfl rfl rfl rfl (by kernel_rfl) Try.func9 (by kernel_rfl)
    (of_decide_eq_true (by kernel_rfl)) (by unfold Func.isWrapper; first | (rw [if_pos (by decide +kernel)]; kernel_rfl) | (rw [if_neg (by decide +kernel)]; exact ⟨rfl, rfl⟩))
    (fun os started H enc _ => lifted os started H enc)
theorem proved : Rows.BlockPlaysSaid := over
#print axioms proved
end Go.Proofs.Ytoofkemhikigoaa.blockPlays
namespace Go.Proofs.Ytoofkemhikigoaa
/-- The row, under a short name, for the claim. -/
theorem blockPlays_holds : Rows.BlockPlaysSaid := blockPlays.proved
end Go.Proofs.Ytoofkemhikigoaa
