/- A row of events that is in order has at most one end of each ID, which is the one that is told; behind it only what is refused. No condition beyond the statement's own guards. -/
import Derived.Test.YtggoddiiglkpiaaPTellEndsx
namespace Go.Proofs.Ytggoddiiglkpiaa.Pure
open Go.RowKit Go.Proofs.Ytggoddiiglkpiaa.PTellEnds Go.Proofs.YtggoddiiglkpiaaW.PrintWords Go.Proofs.YtggoddiiglkpiaaW.PrintLast Go.Proofs.YtggoddiiglkpiaaW.PrintMore
set_option linter.unusedVariables false
set_option linter.unusedSimpArgs false
/-! ### rounds -/
theorem Ev.pos {α : Type} {c : Prop} [Decidable c] {X Y : Nat → Option α} {r : α} (h : c) (k : Ev X r) : Ev (fun n => if c then X n else Y n) r := by
  obtain ⟨K, k⟩ := k
  exact ⟨K, fun n hn => (if_pos h).trans (k n hn)⟩
theorem Ev.neg {α : Type} {c : Prop} [Decidable c] {X Y : Nat → Option α} {r : α} (h : ¬ c) (k : Ev Y r) : Ev (fun n => if c then X n else Y n) r := by
  obtain ⟨K, k⟩ := k
  exact ⟨K, fun n hn => (if_neg h).trans (k n hn)⟩
theorem Ev.sb {α β : Type} {f : Nat → α → Option β} {a : α} {r : β} (k : Ev (fun n => f n a) r) : Ev (fun n => (some a).bind (f n)) r := k
theorem Ev.eq {α : Type} {g : Nat → Option α} {r s : α} (k : Ev g r) (h : r = s) : Ev g s := h ▸ k
theorem Ev.one {α : Type} {g h : Nat → Option α} {r : α} (hg : Ev g r) (hh : ∀ n, g n = h n) : Ev h r := Ev.congr (fun n => (hh n).symm) hg
/-- A test, either way. -/
theorem Ev.ite {α : Type} {c : Prop} [Decidable c] {X Y : Nat → Option α} {r : α} (h : c → Ev X r) (k : ¬ c → Ev Y r) : Ev (fun n => if c then X n else Y n) r := by
  by_cases hc : c
  · exact Ev.pos hc (h hc)
  · exact Ev.neg hc (k hc)
theorem w64 {x : Int} (h0 : -9223372036854775808 ≤ x) (h1 : x ≤ 9223372036854775807) : wrap64 x = x := by unfold wrap64; omega
theorem wu64 {x : Int} (h0 : 0 ≤ x) (h1 : x < 18446744073709551616) : IntKind.u64.wrap x = x := by
  simp [IntKind.wrap, IntKind.bits, IntKind.signed]
  omega
theorem td_nonneg {x y : Int} (h : 0 ≤ x) : Int.tdiv x y = x / y := Int.tdiv_eq_ediv_of_nonneg h
theorem tm_nonneg {x y : Int} (h : 0 ≤ x) : Int.tmod x y = x % y := Int.tmod_eq_emod_of_nonneg h
theorem wf_i64 {x : Int} (h : (Lit.int .i64 x).wf = true) : -9223372036854775808 ≤ x ∧ x ≤ 9223372036854775807 := by
  simp [Lit.wf, IntKind.min, IntKind.max, IntKind.bits, IntKind.signed] at h
  omega
theorem wf_u64 {x : Int} (h : (Lit.int .u64 x).wf = true) : 0 ≤ x ∧ x < 18446744073709551616 := by
  simp [Lit.wf, IntKind.min, IntKind.max, IntKind.bits, IntKind.signed] at h
  omega
theorem wn (x : Nat) (h : x < 9223372036854775808) : wrap64 (x : Int) = (x : Int) := w64 (by omega) (by omega)
theorem wadd (x y : Nat) (h : x + y < 9223372036854775808) : wrap64 ((x : Int) + (y : Int)) = ((x + y : Nat) : Int) := by
  rw [← Int.natCast_add]
  exact wn _ h
theorem wsucc (x : Nat) (h : x + 1 < 9223372036854775808) : wrap64 ((x : Int) + 1) = ((x + 1 : Nat) : Int) := wadd x 1 h
theorem wun (x : Nat) (h : x < 18446744073709551616) : IntKind.u64.wrap (x : Int) = (x : Int) := wu64 (by omega) (by omega)
/-! ### tell: rows of events -/
theorem awake_f : Ev (fun k => credenzalaw23_awake.f k) true := Ev.of credenzalaw23_awake.mono (k := 60) (by decide +kernel)
theorem rdE {l : List S49} {i : Nat} (h : i < l.length) : rd_T49 l (i : Int) = l[i] := by
  simp [rd_T49, List.getD_eq_getElem?_getD, List.getElem?_eq_getElem h]
theorem take_s {α : Type} {l : List α} {i : Nat} (h : i < l.length) : l.take (i + 1) = l.take i ++ [l[i]] := List.take_succ_eq_append_getElem h
theorem wf_u32 {x : Int} (h : (Lit.int .u32 x).wf = true) : 0 ≤ x ∧ x < 4294967296 := by
  simp [Lit.wf, IntKind.min, IntKind.max, IntKind.bits, IntKind.signed] at h
  omega
def Ids (l : List S49) : Prop := ∀ x ∈ l, 0 ≤ x.f1 ∧ x.f1 < 4294967296
theorem Ids.app {a b : List S49} (ha : Ids a) (hb : Ids b) : Ids (a ++ b) := by
  intro x hx
  rcases List.mem_append.1 hx with h | h
  · exact ha x h
  · exact hb x h
theorem Ordered_f (l : List S49) (hn : l.length < 1000000) (h : Ids l) : tell_Ordered.f l = some (tell_Ordered.ord [] l) := by
  unfold tell_Ordered.f
  rw [if_pos ⟨hn, List.all_eq_true.2 (fun x hx => by simpa using h x hx)⟩]
def lastOf : List S49 → Int → Int
  | [], _ => 0
  | x :: t, i => if tell_Ordered.fin i x = true then x.f0 else lastOf t i
theorem lastOf_app (p : List S49) (i : Int) (q : List S49) : lastOf (p ++ q) i = if tell_Ordered.ovr p i = true then lastOf p i else lastOf q i := by
  induction p with
  | nil => rfl
  | cons x t ih =>
    show (if tell_Ordered.fin i x = true then x.f0 else lastOf (t ++ q) i) = _
    rw [ih]
    show _ = if (tell_Ordered.fin i x || tell_Ordered.ovr t i) = true then (if tell_Ordered.fin i x = true then x.f0 else lastOf t i) else _
    cases tell_Ordered.fin i x <;> simp
theorem Last_l (l : List S49) (hn : l.length < 1000000) (id : Int) : ∀ (d i : Nat), l.length - i = d → i ≤ l.length →
    Ev (fun k => tell_Last.l0 k id l (l.length : Int) (i : Int)) (lastOf (l.drop i) id) := by
  intro d
  induction d with
  | zero =>
    intro i hd hi
    obtain rfl : i = l.length := by omega
    refine Ev.step (fun k => by rw [tell_Last.l0, if_neg (by omega)]) ?_
    rw [List.drop_length]
    exact Ev.now _
  | succ d ih =>
    intro i hd hi
    have h : i < l.length := by omega
    refine Ev.step (fun k => by rw [tell_Last.l0, if_pos (by omega), if_pos (by omega), if_pos (by omega), rdE h, wsucc _ (by omega)]) ?_
    rw [List.drop_eq_getElem_cons h]
    have ih := ih (i + 1) (by omega) (by omega)
    generalize l[i] = x at *
    show Ev _ (if tell_Ordered.fin id x = true then x.f0 else lastOf _ id)
    refine Ev.ite (fun h1 => Ev.ite (fun h2 => ?_) (fun h2 => Ev.ite (fun h3 => ?_) (fun h3 => ?_))) (fun h1 => ?_)
    · rw [if_neg (by simp [tell_Ordered.fin, h2])]
      exact ih
    · rw [if_neg (by simp [tell_Ordered.fin, h3])]
      exact ih
    · rw [if_pos (by simp [tell_Ordered.fin, h2, h3, h1])]
      exact Ev.now _
    · rw [if_neg (by simp [tell_Ordered.fin, h1])]
      exact ih
theorem Last_f (l : List S49) (hn : l.length < 1000000) (id : Int) : Ev (fun k => tell_Last.f k l id) (lastOf l id) := by
  unfold tell_Last.f
  exact Last_l l hn id l.length 0 (by omega) (by omega)
theorem ord_good : ∀ (t p : List S49), tell_Ordered.ord p t = true → ∀ (i : Nat) (h : i < t.length), tell_Ordered.good (p ++ t.take i) t[i] = true
  | [], _, _, i, h => absurd h (Nat.not_lt_zero i)
  | x :: t, p, ho, i, h => by
    have ho : (if tell_Ordered.good p x = true then tell_Ordered.ord (p ++ [x]) t else false) = true := ho
    by_cases hg : tell_Ordered.good p x = true
    · rw [if_pos hg] at ho
      cases i with
      | zero => simpa using hg
      | succ i =>
        have := ord_good t (p ++ [x]) ho i (by simpa using h)
        simpa using this
    · rw [if_neg hg] at ho
      cases ho
theorem lastOf_no : ∀ (p : List S49) (i : Int), tell_Ordered.ovr p i = false → lastOf p i = 0
  | [], _, _ => rfl
  | x :: t, i, h => by
    have h : (tell_Ordered.fin i x || tell_Ordered.ovr t i) = false := h
    rw [Bool.or_eq_false_iff] at h
    show (if tell_Ordered.fin i x = true then x.f0 else lastOf t i) = 0
    rw [if_neg (by rw [h.1]; decide)]
    exact lastOf_no t i h.2
theorem lastOf_snoc (p : List S49) (x : S49) (i : Int) : lastOf (p ++ [x]) i = if tell_Ordered.ovr p i = false ∧ tell_Ordered.fin i x = true then x.f0 else lastOf p i := by
  rw [lastOf_app]
  show (if _ then _ else (if tell_Ordered.fin i x = true then x.f0 else 0)) = _
  cases ho : tell_Ordered.ovr p i with
  | true => simp
  | false =>
    rw [lastOf_no p i ho]
    simp
theorem Ends_l (l : List S49) (hn : l.length < 1000000) (id : Int) (hg : ∀ (i : Nat) (h : i < l.length), tell_Ordered.good (l.take i) l[i] = true) : ∀ (d i : Nat), l.length - i = d → i ≤ l.length →
    Ev (fun k => credenzalaw23_TellEnds.l0 k l id (lastOf (l.take i) id) (tell_Ordered.cnt (l.take i) id : Int) l (l.length : Int) (i : Int)) true := by
  intro d
  induction d with
  | zero =>
    intro i hd hi
    obtain rfl : i = l.length := by omega
    refine Ev.step (fun k => by rw [credenzalaw23_TellEnds.l0, if_neg (by omega), List.take_length]) ?_
    exact Ev.bind (Last_f l hn id) (Ev.pos rfl (Ev.bind awake_f (Ev.now _)))
  | succ d ih =>
    intro i hd hi
    have h : i < l.length := by omega
    have ih := ih (i + 1) (by omega) (by omega)
    rw [take_s h, lastOf_snoc, tell_Ordered.cnt_snoc] at ih
    have hg := hg i h
    have hc := tell_Ordered.cnt_le (l.take i) id
    rw [List.length_take] at hc
    refine Ev.step (fun k => by rw [credenzalaw23_TellEnds.l0, if_pos (by omega), if_pos (by omega), if_pos (by omega), rdE h]) ?_
    generalize l[i] = x at *
    refine Ev.ite (fun h1 => ?_) (fun h1 => ?_)
    · by_cases h5 : x.f0 = 5
      · rw [if_neg (by simp [tell_Ordered.fin, h5]), if_neg (by simp [tell_Ordered.tok, h5])] at ih
        rw [beq_iff_eq.2 h5]
        refine Ev.step (fun k => by rw [credenzalaw23_TellEnds.j2, if_pos rfl, wsucc i (by omega)]) ?_
        exact ih
      · rw [beq_eq_false_iff_ne.2 h5]
        have e1 : (x.f0 == 5) = false := beq_eq_false_iff_ne.2 h5
        simp only [tell_Ordered.good, e1, Bool.false_or, Bool.and_eq_true, Bool.not_eq_true', beq_iff_eq, h1] at hg
        have ho := hg.1.2
        have h2 := hg.2
        have hz := lastOf_no _ _ ho
        rw [hz] at ih ⊢
        refine Ev.step (fun k => by rw [credenzalaw23_TellEnds.j2, if_neg (by decide), if_pos rfl]) ?_
        rw [bne_eq_false_iff_eq.2 h2]
        refine Ev.step (fun k => by rw [credenzalaw23_TellEnds.j3, if_neg (by decide), wsucc i (by omega)]) ?_
        refine Ev.ite (fun h3 => ?_) (fun h3 => ?_)
        · rw [if_neg (by simp [tell_Ordered.fin, h3]), if_pos (by simp [tell_Ordered.tok, h3, h1])] at ih
          rw [wsucc _ (by omega)]
          exact ih
        · rw [if_pos ⟨ho, by simp [tell_Ordered.fin, h3, h5, h1]⟩, if_neg (by simp [tell_Ordered.tok, h3])] at ih
          exact ih
    · rw [if_neg (by simp [tell_Ordered.fin, h1]), if_neg (by simp [tell_Ordered.tok, h1])] at ih
      refine Ev.step (fun k => by rw [credenzalaw23_TellEnds.j2, if_pos rfl, wsucc i (by omega)]) ?_
      exact ih
theorem TellEnds : credenzalaw23_TellEnds.Pure := by
  intro l id hl hw hid
  have hI : Ids l := fun x hx => wf_u32 (hw x hx).2.1
  refine Ev.rounds ?_
  have hawake : Ev (fun k => credenzalaw23_TellEnds.j0 k l id true) true := by
    refine Ev.step (fun k => by rw [credenzalaw23_TellEnds.j0, if_pos rfl]) ?_
    exact Ev.bind awake_f (Ev.now _)
  unfold credenzalaw23_TellEnds.f
  refine Ev.ite (fun _ => hawake) (fun h => ?_)
  have hn : l.length < 1000000 := by omega
  rw [Ordered_f l hn hI]
  refine Ev.sb ?_
  cases ho : tell_Ordered.ord [] l with
  | false => exact hawake
  | true =>
    refine Ev.step (fun k => by rw [Bool.not_true, credenzalaw23_TellEnds.j0, if_neg (by decide)]) ?_
    exact Ends_l l hn id (fun i h => by simpa using ord_good l [] ho i h) l.length 0 (by omega) (by omega)

end Go.Proofs.Ytggoddiiglkpiaa.Pure
