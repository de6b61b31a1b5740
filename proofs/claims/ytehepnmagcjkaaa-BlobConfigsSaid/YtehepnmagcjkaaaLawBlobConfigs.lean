-- Written by a program of this session (wip/tools/mkprint.py over the kit's print).
import Derived.Test.YtehepnmagcjkaaaRows
import Derived.Test.YtehepnmagcjkaaaPBlobConfigsx9
import Derived.Test.YtehepnmagcjkaaaPureBlobConfigs
import Derived.WalkKit
import Derived.ProofKit
import Derived.OpenShut
import Derived.ShutString
import Derived.ChangeOld
import Derived.Below
import Derived.SizedLaws
import Derived.Deep.Slices
import Derived.ChangeArms
import Derived.Test.YtehepnmagcjkaaaWSized
namespace Go.Proofs.Ytehepnmagcjkaaa.blobConfigs
open Go.ChangeShapes Go.WideShapes Go.ChangeAt Go.RowKit
open Go.ChangeMaps (open_string shut_string)
set_option linter.unusedVariables false
theorem own : ownKnob Try.prog.godebug = none := by kernel_rfl
theorem laidOut : laidOutB Try.prog = true := by kernel_rfl
def IsRow (k : IntKind) (w : World) (a : Option Addr) (len cap : Nat) (zs : List Int) : Prop :=
  (a = none ∧ len = 0 ∧ cap = 0 ∧ zs = []) ∨
  ∃ x, a = some x ∧ len ≤ cap ∧ cap ≤ maxLen ∧ zs.length = cap ∧ (∀ i, i < zs.length → w.cell? (x.add i) = some (.int k (zs.getD i 0))) ∧ ∀ n ∈ zs, (Lit.int k n).wf = true
open Go.Proofs.Ytehepnmagcjkaaa.PBlobConfigs Go.Proofs.YtehepnmagcjkaaaW.PrintWords
-- this session's own: a parameter that is a row of structs, opened
/-- What is read as type t has K's shape. -/
def Opens {α H : Type} (enc : TypeId × Value → H) (P : Program) (w : World) (base : Nat) (sp : Nat → Bool) (held : Bool) (K : Kd α) (t : TypeId) (Q : α → Prop) : Prop :=
  ∀ fuel cs x, DataW.trod enc P w base sp held fuel t cs = some x → ∃ z, K.K w z cs ∧ Q z
theorem opens_int {H : Type} {enc : TypeId × Value → H} {P : Program} {w : World} {base : Nat} {sp : Nat → Bool} {held : Bool} {k : IntKind} {t : TypeId} (ht : P.underlying t = some (.int k)) :
    Opens enc P w base sp held (Kd.int k) t (fun n => (Lit.int k n).wf = true) := by
  intro fuel cs x h
  obtain ⟨n, rfl, _, hw⟩ := DataW.trod_int ht h
  exact ⟨n, rfl, hw⟩
theorem opens_bool {H : Type} {enc : TypeId × Value → H} {P : Program} {w : World} {base : Nat} {sp : Nat → Bool} {held : Bool} {t : TypeId} (ht : P.underlying t = some .bool) :
    Opens enc P w base sp held Kd.bool t (fun _ => True) := by
  intro fuel cs x h
  obtain ⟨n, rfl, _⟩ := DataW.trod_bool ht h
  exact ⟨n, rfl, trivial⟩
theorem opens_string {H : Type} {enc : TypeId × Value → H} {P : Program} {w : World} {base : Nat} {sp : Nat → Bool} {held : Bool} {t : TypeId} (ht : P.underlying t = some .string) :
    Opens enc P w base sp held Kd.string t (fun s => s.size ≤ maxLen) := by
  intro fuel cs x h
  obtain ⟨n, rfl, _, hs⟩ := DataW.trod_string ht h
  exact ⟨n, rfl, hs⟩
theorem rowlist {α : Type} {p : Nat → α → Prop} : ∀ n : Nat, (∀ i, i < n → ∃ z, p i z) → ∃ l : List α, l.length = n ∧ ∀ j z, l[j]? = some z → p j z
  | 0, _ => ⟨[], rfl, fun j z h => by simp at h⟩
  | n + 1, h => by
    obtain ⟨l, hl, hp⟩ := rowlist n (fun i hi => h i (by omega))
    obtain ⟨z, hz⟩ := h n (by omega)
    refine ⟨l ++ [z], by simp [hl], fun j y hj => ?_⟩
    rcases Nat.lt_or_ge j l.length with hj2 | hj2
    · rw [List.getElem?_append_left hj2] at hj
      exact hp j y hj
    · rw [List.getElem?_append_right hj2] at hj
      have : j - l.length = 0 := by
        rcases Nat.eq_zero_or_pos (j - l.length) with h0 | h0
        · exact h0
        · rw [List.getElem?_eq_none (show 1 ≤ j - l.length from h0)] at hj
          cases hj
      rw [this] at hj
      simp at hj
      subst hj
      have e : j = n := by omega
      rw [e]
      exact hz
theorem opens_slice {α H : Type} {enc : TypeId × Value → H} {P : Program} {w : World} {base : Nat} {sp : Nat → Bool} {held : Bool} {K : Kd α} {Q : α → Prop} {t e : TypeId} (ht : P.underlying t = some (.slice e)) (hc : P.cellsOf e = K.sz)
    (he : Opens enc P w base sp held K e Q) : Opens enc P w base sp held (Kd.slice e K) t (fun l => l.length ≤ maxLen ∧ ∀ z ∈ l, Q z) := by
  intro fuel cs x h
  rcases Go.Deep.open_slice ht h with ⟨rfl, _⟩ | ⟨a, len, cap, m, n, D, Pl, rfl, hb, hl, hm, hmm, _, hx⟩
  · exact ⟨[], ⟨none, 0, rfl, Nat.le_refl _, rfl, Nat.zero_le _, fun h => absurd h (Nat.lt_irrefl 0)⟩, Nat.zero_le _, fun z hz => by cases hz⟩
  · have hlm : len ≤ m := by
      rw [hmm]
      split <;> omega
    have each : ∀ i, i < len → ∃ z, ∃ c : List Value, c.length = K.sz ∧ K.K w z c ∧ Q z ∧ ∀ i' u, c[i']? = some u → w.cell? (a.add (i * K.sz + i')) = some u := by
      intro i hi
      obtain ⟨cs', h1, h2⟩ := hx i (by omega)
      obtain ⟨z, hk, hq⟩ := he _ _ _ h2
      rw [hc] at h1
      obtain ⟨_, hlen, hcell⟩ := World.cells?_some h1
      refine ⟨z, cs', hlen, hk, hq, fun i' u hu => ?_⟩
      have hi' : i' < K.sz := by
        rw [← hlen]
        exact (List.getElem?_eq_some_iff.1 hu).1
      have h3 := hcell i' hi'
      rw [add_add] at h3
      rw [h3, hu]
    obtain ⟨l, hll, hl2⟩ := rowlist len each
    subst hll
    refine ⟨l, ⟨some a, cap, rfl, hl, rfl, by simp only [maxLen] at hm; omega, fun _ => ⟨a, rfl, fun j p hj => ?_⟩⟩, by omega, fun z hz => ?_⟩
    · obtain ⟨c, h1, h2, _, h4⟩ := hl2 j p hj
      exact ⟨c, h1, h2, h4⟩
    · obtain ⟨j, hj⟩ := List.getElem?_of_mem hz
      obtain ⟨c, _, _, h3, _⟩ := hl2 j z hj
      exact h3

set_option maxRecDepth 100000 in
theorem opens_k54 {H : Type} {enc : TypeId × Value → H} {w : World} {base : Nat} {sp : Nat → Bool} {held : Bool} : Opens enc Try.prog w base sp held k54 54 (fun z => ((Lit.int .i64 z.f0).wf = true ∧ (Lit.int .i64 z.f1).wf = true ∧ (Lit.int .i64 z.f2).wf = true ∧ (Lit.int .i64 z.f3).wf = true ∧ (Lit.int .i64 z.f4).wf = true ∧ (Lit.int .i64 z.f5).wf = true)) := by
  intro fuel cs x h
  obtain ⟨xs, n, _, _, hl, hxl, hf⟩ := DataW.trod_struct Try.underlying54 h
  rw [show Try.prog.cellsOf 54 = 6 from by kernel_rfl] at hl
  have hxl : xs.length = 6 := hxl
  match cs, hl, xs, hxl with
  | [c0, c1, c2, c3, c4, c5], _, [x0, x1, x2, x3, x4, x5], _ =>
    have g0 : DataW.trod enc Try.prog w base sp held n 3 (([c0, c1, c2, c3, c4, c5].drop 0).take (Try.prog.cellsOf 3)) = [x0, x1, x2, x3, x4, x5][0]? := hf 0 _ rfl
    rw [show Try.prog.cellsOf 3 = 1 from by kernel_rfl] at g0
    obtain ⟨z0, y0, q0⟩ := (opens_int Try.underlying3) _ _ _ (show DataW.trod enc Try.prog w base sp held n 3 [c0] = some x0 from g0)
    have g1 : DataW.trod enc Try.prog w base sp held n 3 (([c0, c1, c2, c3, c4, c5].drop 1).take (Try.prog.cellsOf 3)) = [x0, x1, x2, x3, x4, x5][1]? := hf 1 _ rfl
    rw [show Try.prog.cellsOf 3 = 1 from by kernel_rfl] at g1
    obtain ⟨z1, y1, q1⟩ := (opens_int Try.underlying3) _ _ _ (show DataW.trod enc Try.prog w base sp held n 3 [c1] = some x1 from g1)
    have g2 : DataW.trod enc Try.prog w base sp held n 3 (([c0, c1, c2, c3, c4, c5].drop 2).take (Try.prog.cellsOf 3)) = [x0, x1, x2, x3, x4, x5][2]? := hf 2 _ rfl
    rw [show Try.prog.cellsOf 3 = 1 from by kernel_rfl] at g2
    obtain ⟨z2, y2, q2⟩ := (opens_int Try.underlying3) _ _ _ (show DataW.trod enc Try.prog w base sp held n 3 [c2] = some x2 from g2)
    have g3 : DataW.trod enc Try.prog w base sp held n 3 (([c0, c1, c2, c3, c4, c5].drop 3).take (Try.prog.cellsOf 3)) = [x0, x1, x2, x3, x4, x5][3]? := hf 3 _ rfl
    rw [show Try.prog.cellsOf 3 = 1 from by kernel_rfl] at g3
    obtain ⟨z3, y3, q3⟩ := (opens_int Try.underlying3) _ _ _ (show DataW.trod enc Try.prog w base sp held n 3 [c3] = some x3 from g3)
    have g4 : DataW.trod enc Try.prog w base sp held n 3 (([c0, c1, c2, c3, c4, c5].drop 4).take (Try.prog.cellsOf 3)) = [x0, x1, x2, x3, x4, x5][4]? := hf 4 _ rfl
    rw [show Try.prog.cellsOf 3 = 1 from by kernel_rfl] at g4
    obtain ⟨z4, y4, q4⟩ := (opens_int Try.underlying3) _ _ _ (show DataW.trod enc Try.prog w base sp held n 3 [c4] = some x4 from g4)
    have g5 : DataW.trod enc Try.prog w base sp held n 3 (([c0, c1, c2, c3, c4, c5].drop 5).take (Try.prog.cellsOf 3)) = [x0, x1, x2, x3, x4, x5][5]? := hf 5 _ rfl
    rw [show Try.prog.cellsOf 3 = 1 from by kernel_rfl] at g5
    obtain ⟨z5, y5, q5⟩ := (opens_int Try.underlying3) _ _ _ (show DataW.trod enc Try.prog w base sp held n 3 [c5] = some x5 from g5)
    exact ⟨⟨z0, z1, z2, z3, z4, z5⟩, ⟨[c0], [c1, c2, c3, c4, c5], rfl, y0, ⟨[c1], [c2, c3, c4, c5], rfl, y1, ⟨[c2], [c3, c4, c5], rfl, y2, ⟨[c3], [c4, c5], rfl, y3, ⟨[c4], [c5], rfl, y4, y5⟩⟩⟩⟩⟩, q0, q1, q2, q3, q4, q5⟩
set_option maxRecDepth 100000 in
theorem lifted (os : Os) (started : os.Started) (H : Type) (enc : TypeId × Value → H) :
    ReturnsInHanded {} Try.checked os 7 .any (Rows.blobConfigsSpec.pre6 enc Try.prog Try.f7 Rows.blobConfigsRow.domain false) (Rows.blobConfigsSpec.post enc Try.prog Try.f7 false true false false) := by
  refine returnsInHanded_of_change_sized (C := Try.checked) own started (by kernel_rfl) Try.func7
    (ChangeSpec.witness6 (enc := enc) (C := Try.checked) false ⟨#[], #[.agg #[.int .i64 0, .int .i64 0, .int .i64 0, .int .i64 0, .int .i64 0, .int .i64 0]], []⟩ 8 (by kernel_rfl) (by kernel_rfl) (by kernel_rfl) (by kernel_rfl)) ?_
  intro W base args ds gs before hval0 hW hcnd hsz0 _
  have hsz : (DataW.weightsEach Try.prog (Try.f7.params.toList ++ Rows.blobConfigsSpec.plain.varTypes Try.prog) (ds ++ gs)).all (· ≤ reachBytes) = true := hsz0
  have hval : ∀ (j : Nat) t v, Try.f7.params[j]? = some t → args[j]? = some v → Value.okWide Try.prog W .any base t v := hval0
  have hW' := hW
  obtain ⟨p, q, hA0, hV, rfl, hfz, hnd⟩ := hW
  have hA : DataW.TrodAll enc Try.prog W 0 (fun _ => true) true Try.f7.params.toList args.toList ds p := hA0
  rw [Try.params7] at hA hval hsz
  obtain ⟨v0, vs0, d0, ds0, p0, q0, hargs, rfl, rfl, h0, r0⟩ := trodAll_cons hA
  obtain ⟨rfl, rfl, rfl⟩ := trodAll_nil r0
  obtain rfl : args = #[v0] := by cases args; simp_all
  obtain ⟨rfl, rfl⟩ := trodVars_none hV
  obtain ⟨cs0, rfl, _⟩ := okWide_struct Try.underlying54 (hval 0 54 v0 rfl rfl)
  have k0 := h0
  have lt0 : ∀ x ∈ p0, x.block < W.heap.size := by obtain ⟨m, hm⟩ := k0; exact DataW.trod_lt m _ _ _ hm
  obtain ⟨z0, hk0, hq0⟩ : ∃ z, (k54).K W z cs0.toList ∧ ((Lit.int .i64 z.f0).wf = true ∧ (Lit.int .i64 z.f1).wf = true ∧ (Lit.int .i64 z.f2).wf = true ∧ (Lit.int .i64 z.f3).wf = true ∧ (Lit.int .i64 z.f4).wf = true ∧ (Lit.int .i64 z.f5).wf = true) := by
    obtain ⟨fuel, hf⟩ := h0
    exact opens_k54 fuel _ _ hf
  obtain ⟨a0_0, a0_1, a0_2, a0_3, a0_4, a0_5⟩ := z0
  obtain ⟨_, _, e_, rfl, ⟨_, _, rfl, rfl, ⟨_, _, rfl, rfl, ⟨_, _, rfl, rfl, ⟨_, _, rfl, rfl, rfl⟩⟩⟩⟩⟩ := hk0
  obtain ⟨w0_0, w0_1, w0_2, w0_3, w0_4, w0_5⟩ := hq0
  obtain rfl : cs0 = #[.int .i64 a0_0, .int .i64 a0_1, .int .i64 a0_2, .int .i64 a0_3, .int .i64 a0_4, .int .i64 a0_5] := by
    apply Array.toList_inj.1
    simpa using e_
  clear hA0 hval0 hsz0 hsz
  refine (PBlobConfigs.credenzalaw18_BlobConfigs.walk Pure.BlobConfigs a0_0 a0_1 a0_2 a0_3 a0_4 a0_5 W w0_0 w0_1 w0_2 w0_3 w0_4 w0_5).mono fun e W' ⟨he, bel⟩ => ?_
  subst he
  exact ⟨_, rfl, _, _, _, [], _, [], hW', trodAll_mk1 (shut_bool Try.underlying4 _), (trodAll_cons_mk (Below.trod laidOut (by kernel_rfl) (of_decide_eq_true (by kernel_rfl)) k0 bel lt0) trodAll_mk0), rfl, bel.frame _, fun h => by cases h⟩
theorem over : Rows.blobConfigsRow.holds Try.pinned (OpenSpec.ofChange Rows.blobConfigsSpec) :=
  OpenClaim.holds_of_wide 7 Try.f7 rfl rfl rfl rfl rfl rfl rfl ⟨rfl, rfl, rfl, rfl, rfl⟩ rfl rfl rfl rfl rfl (by kernel_rfl) Try.func7 (by kernel_rfl)
    (of_decide_eq_true (by kernel_rfl)) (by unfold Func.isWrapper; first | (rw [if_pos (by decide +kernel)]; kernel_rfl) | (rw [if_neg (by decide +kernel)]; exact ⟨rfl, rfl⟩))
    (fun os started H enc _ => lifted os started H enc)
theorem proved : Rows.BlobConfigsSaid := over
#print axioms proved
end Go.Proofs.Ytehepnmagcjkaaa.blobConfigs
namespace Go.Proofs.Ytehepnmagcjkaaa
/-- The row, under a short name, for the claim. -/
theorem blobConfigs_holds : Rows.BlobConfigsSaid := blobConfigs.proved
end Go.Proofs.Ytehepnmagcjkaaa
