/- Two asks are one just if all of both is the same. No condition beyond the statement's own guards. -/
import Derived.Test.YtehepnmagcjkaaaPAskEqualsx
namespace Go.Proofs.Ytehepnmagcjkaaa.Pure
open Go.RowKit Go.Proofs.Ytehepnmagcjkaaa.PAskEquals Go.Proofs.YtehepnmagcjkaaaW.PrintWords Go.Proofs.YtehepnmagcjkaaaW.PrintLast Go.Proofs.YtehepnmagcjkaaaW.PrintMore
set_option linter.unusedVariables false
set_option linter.unusedSimpArgs false
/-! ### rounds -/
theorem Ev.pos {α : Type} {c : Prop} [Decidable c] {X Y : Nat → Option α} {r : α} (h : c) (k : Ev X r) : Ev (fun n => if c then X n else Y n) r := by
  obtain ⟨K, k⟩ := k
  exact ⟨K, fun n hn => (if_pos h).trans (k n hn)⟩
theorem Ev.neg {α : Type} {c : Prop} [Decidable c] {X Y : Nat → Option α} {r : α} (h : ¬ c) (k : Ev Y r) : Ev (fun n => if c then X n else Y n) r := by
  obtain ⟨K, k⟩ := k
  exact ⟨K, fun n hn => (if_neg h).trans (k n hn)⟩
theorem Ev.sb {α β : Type} {f : Nat → α → Option β} {a : α} {r : β} (k : Ev (fun n => f n a) r) : Ev (fun n => (some a).bind (f n)) r := k
theorem Ev.eq {α : Type} {g : Nat → Option α} {r s : α} (k : Ev g r) (h : r = s) : Ev g s := h ▸ k
theorem Ev.one {α : Type} {g h : Nat → Option α} {r : α} (hg : Ev g r) (hh : ∀ n, g n = h n) : Ev h r := Ev.congr (fun n => (hh n).symm) hg
/-- A test, either way. -/
theorem Ev.ite {α : Type} {c : Prop} [Decidable c] {X Y : Nat → Option α} {r : α} (h : c → Ev X r) (k : ¬ c → Ev Y r) : Ev (fun n => if c then X n else Y n) r := by
  by_cases hc : c
  · exact Ev.pos hc (h hc)
  · exact Ev.neg hc (k hc)
theorem w64 {x : Int} (h0 : -9223372036854775808 ≤ x) (h1 : x ≤ 9223372036854775807) : wrap64 x = x := by unfold wrap64; omega
theorem wu64 {x : Int} (h0 : 0 ≤ x) (h1 : x < 18446744073709551616) : IntKind.u64.wrap x = x := by
  simp [IntKind.wrap, IntKind.bits, IntKind.signed]
  omega
theorem td_nonneg {x y : Int} (h : 0 ≤ x) : Int.tdiv x y = x / y := Int.tdiv_eq_ediv_of_nonneg h
theorem tm_nonneg {x y : Int} (h : 0 ≤ x) : Int.tmod x y = x % y := Int.tmod_eq_emod_of_nonneg h
theorem wf_i64 {x : Int} (h : (Lit.int .i64 x).wf = true) : -9223372036854775808 ≤ x ∧ x ≤ 9223372036854775807 := by
  simp [Lit.wf, IntKind.min, IntKind.max, IntKind.bits, IntKind.signed] at h
  omega
theorem wf_u64 {x : Int} (h : (Lit.int .u64 x).wf = true) : 0 ≤ x ∧ x < 18446744073709551616 := by
  simp [Lit.wf, IntKind.min, IntKind.max, IntKind.bits, IntKind.signed] at h
  omega
theorem wn (x : Nat) (h : x < 9223372036854775808) : wrap64 (x : Int) = (x : Int) := w64 (by omega) (by omega)
theorem wadd (x y : Nat) (h : x + y < 9223372036854775808) : wrap64 ((x : Int) + (y : Int)) = ((x + y : Nat) : Int) := by
  rw [← Int.natCast_add]
  exact wn _ h
theorem wsucc (x : Nat) (h : x + 1 < 9223372036854775808) : wrap64 ((x : Int) + 1) = ((x + 1 : Nat) : Int) := wadd x 1 h
theorem wun (x : Nat) (h : x < 18446744073709551616) : IntKind.u64.wrap (x : Int) = (x : Int) := wu64 (by omega) (by omega)
/-! ### ask: two asks -/
theorem awake_f : Ev (fun k => credenzalaw22_awake.f k) true := Ev.of credenzalaw22_awake.mono (k := 60) (by decide +kernel)
theorem sEq_l (l m : List Int) (h : l.length = m.length) (hn : l.length < 1000000) : ∀ (d i : Nat), l.length - i = d → i ≤ l.length →
    Ev (fun k => slices_Equal_int_int.l0 k l m (l.length : Int) (i : Int)) (l.drop i == m.drop i) := by
  intro d
  induction d with
  | zero =>
    intro i hd hi
    obtain rfl : i = l.length := by omega
    refine Ev.step (fun k => by rw [slices_Equal_int_int.l0, if_neg (by omega)]) ?_
    rw [List.drop_length, h, List.drop_length]
    exact Ev.now _
  | succ d ih =>
    intro i hd hi
    have h1 : i < l.length := by omega
    have h2 : i < m.length := by omega
    refine Ev.step (fun k => by rw [slices_Equal_int_int.l0, if_pos (by omega), if_pos (by omega), if_pos (by omega), if_pos (by omega), wsucc _ (by omega)]) ?_
    have e1 : rd l (i : Int) = l[i] := by simp [rd, List.getElem?_eq_getElem h1]
    have e2 : rd m (i : Int) = m[i] := by simp [rd, List.getElem?_eq_getElem h2]
    rw [e1, e2, List.drop_eq_getElem_cons h1, List.drop_eq_getElem_cons h2]
    refine Ev.ite (fun h3 => ?_) (fun h3 => ?_)
    · rw [h3]
      refine Ev.eq (ih (i + 1) (by omega) (by omega)) ?_
      show _ = (m[i] == m[i] && (l.drop (i + 1) == m.drop (i + 1)))
      rw [beq_self_eq_true, Bool.true_and]
    · refine Ev.eq (Ev.now _) ?_
      show false = (l[i] == m[i] && (l.drop (i + 1) == m.drop (i + 1)))
      rw [beq_eq_false_iff_ne.2 h3, Bool.false_and]
theorem sEq_f (l m : List Int) (hn : l.length < 1000000) : Ev (fun k => slices_Equal_int_int.f k l m) (l == m) := by
  unfold slices_Equal_int_int.f
  refine Ev.ite (fun h => ?_) (fun h => ?_)
  · exact sEq_l l m (by omega) hn l.length 0 (by omega) (by omega)
  · refine Ev.eq (Ev.now _) ?_
    exact (beq_eq_false_iff_ne.2 (fun e => h (by rw [e]))).symm
def same (a0 a1 : Int) (l : List Int) (a3 a4 a5 a6 a7 a8 b0 b1 : Int) (m : List Int) (b3 b4 b5 b6 b7 b8 : Int) : Bool :=
  a0 == b0 && (a1 == b1 && (a8 == b8 && (a3 == b3 && (a4 == b4 && (a5 == b5 && (a6 == b6 && (a7 == b7 && l == m)))))))
theorem same_iff {a0 a1 : Int} {l : List Int} {a3 a4 a5 a6 a7 a8 b0 b1 : Int} {m : List Int} {b3 b4 b5 b6 b7 b8 : Int} :
    same a0 a1 l a3 a4 a5 a6 a7 a8 b0 b1 m b3 b4 b5 b6 b7 b8 = true ↔ (a0 = b0 ∧ a1 = b1 ∧ a8 = b8 ∧ a3 = b3 ∧ a4 = b4 ∧ a5 = b5 ∧ a6 = b6 ∧ a7 = b7 ∧ l = m) := by
  unfold same
  simp only [Bool.and_eq_true, beq_iff_eq]
theorem same_comm (a0 a1 : Int) (l : List Int) (a3 a4 a5 a6 a7 a8 b0 b1 : Int) (m : List Int) (b3 b4 b5 b6 b7 b8 : Int) :
    same a0 a1 l a3 a4 a5 a6 a7 a8 b0 b1 m b3 b4 b5 b6 b7 b8 = same b0 b1 m b3 b4 b5 b6 b7 b8 a0 a1 l a3 a4 a5 a6 a7 a8 := by
  rw [Bool.eq_iff_iff, same_iff, same_iff]
  constructor
  · rintro ⟨rfl, rfl, rfl, rfl, rfl, rfl, rfl, rfl, rfl⟩
    simp
  · rintro ⟨rfl, rfl, rfl, rfl, rfl, rfl, rfl, rfl, rfl⟩
    simp
theorem aEqual_f (a0 a1 : Int) (l : List Int) (a3 a4 a5 a6 a7 a8 b0 b1 : Int) (m : List Int) (b3 b4 b5 b6 b7 b8 : Int) (hn : l.length < 1000000) :
    Ev (fun k => ask_Equal.f k a0 a1 l a3 a4 a5 a6 a7 a8 b0 b1 m b3 b4 b5 b6 b7 b8) (same a0 a1 l a3 a4 a5 a6 a7 a8 b0 b1 m b3 b4 b5 b6 b7 b8) := by
  have no : (¬ (a0 = b0 ∧ a1 = b1 ∧ a8 = b8 ∧ a3 = b3 ∧ a4 = b4 ∧ a5 = b5 ∧ a6 = b6 ∧ a7 = b7 ∧ l = m)) → Ev (fun _ => some false) (same a0 a1 l a3 a4 a5 a6 a7 a8 b0 b1 m b3 b4 b5 b6 b7 b8) := fun h => by
    rw [Bool.eq_false_iff.2 (fun h2 => h (same_iff.1 h2))]
    exact Ev.now _
  unfold ask_Equal.f gen_Equal.f
  refine Ev.ite (fun h0 => ?_) (fun h0 => no (fun h => h0 h.1))
  refine Ev.ite (fun h1 => ?_) (fun h1 => no (fun h => h1 h.2.1))
  refine Ev.ite (fun h8 => ?_) (fun h8 => no (fun h => h8 h.2.2.1))
  have hg : Ev (fun k => (slices_Equal_int_int.f k l m).bind fun t105 => (if t105 = true then (if a3 = b3 then (if a4 = b4 then (some (a5 == b5 && (a6 == b6 && (a7 == b7)))) else (some false)) else (some false)) else (some false))) (same a0 a1 l a3 a4 a5 a6 a7 a8 b0 b1 m b3 b4 b5 b6 b7 b8) := by
    refine Ev.bind (sEq_f l m hn) ?_
    refine Ev.ite (fun hl => ?_) (fun hl => no (fun h => hl (by rw [h.2.2.2.2.2.2.2.2]; simp)))
    refine Ev.ite (fun h3 => ?_) (fun h3 => no (fun h => h3 h.2.2.2.1))
    refine Ev.ite (fun h4 => ?_) (fun h4 => no (fun h => h4 h.2.2.2.2.1))
    refine Ev.eq (Ev.now _) ?_
    rw [Bool.eq_iff_iff, same_iff]
    simp only [Bool.and_eq_true, beq_iff_eq] at *
    exact ⟨fun h => ⟨h0, h1, h8, h3, h4, h.1, h.2.1, h.2.2, hl⟩, fun h => ⟨h.2.2.2.2.2.1, h.2.2.2.2.2.2.1, h.2.2.2.2.2.2.2.1⟩⟩
  exact Ev.bind hg (Ev.now _)
theorem AskEquals : credenzalaw22_AskEquals.Pure := by
  intro a0 a1 l a3 a4 a5 a6 a7 a8 b0 b1 m b3 b4 b5 b6 b7 b8 _ _ _ _ _ _ _ _ _ _ _ _ _ _ _ _ _ _ _ _
  refine Ev.rounds ?_
  have hawake : Ev (fun k => credenzalaw22_AskEquals.j0 k true a0 a1 l a3 a4 a5 a6 a7 a8 b0 b1 m b3 b4 b5 b6 b7 b8) true := by
    refine Ev.step (fun k => by rw [credenzalaw22_AskEquals.j0, if_pos rfl]) ?_
    exact Ev.bind awake_f (Ev.now _)
  unfold credenzalaw22_AskEquals.f
  refine Ev.ite (fun _ => hawake) (fun h1 => ?_)
  by_cases h2 : (m.length : Int) > 2000
  · rw [decide_eq_true h2]
    exact hawake
  · rw [decide_eq_false h2]
    refine Ev.step (fun k => by rw [credenzalaw22_AskEquals.j0, if_neg (by decide)]) ?_
    have e1 := aEqual_f a0 a1 l a3 a4 a5 a6 a7 a8 b0 b1 m b3 b4 b5 b6 b7 b8 (by omega)
    have e2 := aEqual_f b0 b1 m b3 b4 b5 b6 b7 b8 a0 a1 l a3 a4 a5 a6 a7 a8 (by omega)
    have e3 := aEqual_f a0 a1 l a3 a4 a5 a6 a7 a8 a0 a1 l a3 a4 a5 a6 a7 a8 (by omega)
    rw [same_comm b0] at e2
    refine Ev.bind e1 (Ev.sb (Ev.sb (Ev.sb (Ev.pos (beq_self_eq_true _) (Ev.bind e2 (Ev.bind e1 (Ev.pos (beq_self_eq_true _) (Ev.bind e3 (Ev.pos (same_iff.2 (by simp)) (Ev.bind awake_f (Ev.now _)))))))))))

end Go.Proofs.Ytehepnmagcjkaaa.Pure
