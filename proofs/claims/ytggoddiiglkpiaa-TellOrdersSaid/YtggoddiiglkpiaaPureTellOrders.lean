/- Any row of events is in order just if the document says so, and what an ID ended with is told as the document says. No condition beyond the statement's own guards. -/
import Derived.Test.YtggoddiiglkpiaaPTellOrdersx
namespace Go.Proofs.Ytggoddiiglkpiaa.Pure
open Go.RowKit Go.Proofs.Ytggoddiiglkpiaa.PTellOrders Go.Proofs.YtggoddiiglkpiaaW.PrintWords Go.Proofs.YtggoddiiglkpiaaW.PrintLast Go.Proofs.YtggoddiiglkpiaaW.PrintMore
set_option linter.unusedVariables false
set_option linter.unusedSimpArgs false
/-! ### rounds -/
theorem Ev.pos {α : Type} {c : Prop} [Decidable c] {X Y : Nat → Option α} {r : α} (h : c) (k : Ev X r) : Ev (fun n => if c then X n else Y n) r := by
  obtain ⟨K, k⟩ := k
  exact ⟨K, fun n hn => (if_pos h).trans (k n hn)⟩
theorem Ev.neg {α : Type} {c : Prop} [Decidable c] {X Y : Nat → Option α} {r : α} (h : ¬ c) (k : Ev Y r) : Ev (fun n => if c then X n else Y n) r := by
  obtain ⟨K, k⟩ := k
  exact ⟨K, fun n hn => (if_neg h).trans (k n hn)⟩
theorem Ev.sb {α β : Type} {f : Nat → α → Option β} {a : α} {r : β} (k : Ev (fun n => f n a) r) : Ev (fun n => (some a).bind (f n)) r := k
theorem Ev.eq {α : Type} {g : Nat → Option α} {r s : α} (k : Ev g r) (h : r = s) : Ev g s := h ▸ k
theorem Ev.one {α : Type} {g h : Nat → Option α} {r : α} (hg : Ev g r) (hh : ∀ n, g n = h n) : Ev h r := Ev.congr (fun n => (hh n).symm) hg
/-- A test, either way. -/
theorem Ev.ite {α : Type} {c : Prop} [Decidable c] {X Y : Nat → Option α} {r : α} (h : c → Ev X r) (k : ¬ c → Ev Y r) : Ev (fun n => if c then X n else Y n) r := by
  by_cases hc : c
  · exact Ev.pos hc (h hc)
  · exact Ev.neg hc (k hc)
theorem w64 {x : Int} (h0 : -9223372036854775808 ≤ x) (h1 : x ≤ 9223372036854775807) : wrap64 x = x := by unfold wrap64; omega
theorem wu64 {x : Int} (h0 : 0 ≤ x) (h1 : x < 18446744073709551616) : IntKind.u64.wrap x = x := by
  simp [IntKind.wrap, IntKind.bits, IntKind.signed]
  omega
theorem td_nonneg {x y : Int} (h : 0 ≤ x) : Int.tdiv x y = x / y := Int.tdiv_eq_ediv_of_nonneg h
theorem tm_nonneg {x y : Int} (h : 0 ≤ x) : Int.tmod x y = x % y := Int.tmod_eq_emod_of_nonneg h
theorem wf_i64 {x : Int} (h : (Lit.int .i64 x).wf = true) : -9223372036854775808 ≤ x ∧ x ≤ 9223372036854775807 := by
  simp [Lit.wf, IntKind.min, IntKind.max, IntKind.bits, IntKind.signed] at h
  omega
theorem wf_u64 {x : Int} (h : (Lit.int .u64 x).wf = true) : 0 ≤ x ∧ x < 18446744073709551616 := by
  simp [Lit.wf, IntKind.min, IntKind.max, IntKind.bits, IntKind.signed] at h
  omega
theorem wn (x : Nat) (h : x < 9223372036854775808) : wrap64 (x : Int) = (x : Int) := w64 (by omega) (by omega)
theorem wadd (x y : Nat) (h : x + y < 9223372036854775808) : wrap64 ((x : Int) + (y : Int)) = ((x + y : Nat) : Int) := by
  rw [← Int.natCast_add]
  exact wn _ h
theorem wsucc (x : Nat) (h : x + 1 < 9223372036854775808) : wrap64 ((x : Int) + 1) = ((x + 1 : Nat) : Int) := wadd x 1 h
theorem wun (x : Nat) (h : x < 18446744073709551616) : IntKind.u64.wrap (x : Int) = (x : Int) := wu64 (by omega) (by omega)
/-! ### tell: rows of events -/
theorem awake_f : Ev (fun k => credenzalaw23_awake.f k) true := Ev.of credenzalaw23_awake.mono (k := 60) (by decide +kernel)
theorem rdE {l : List S49} {i : Nat} (h : i < l.length) : rd_T49 l (i : Int) = l[i] := by
  simp [rd_T49, List.getD_eq_getElem?_getD, List.getElem?_eq_getElem h]
theorem take_s {α : Type} {l : List α} {i : Nat} (h : i < l.length) : l.take (i + 1) = l.take i ++ [l[i]] := List.take_succ_eq_append_getElem h
theorem wf_u32 {x : Int} (h : (Lit.int .u32 x).wf = true) : 0 ≤ x ∧ x < 4294967296 := by
  simp [Lit.wf, IntKind.min, IntKind.max, IntKind.bits, IntKind.signed] at h
  omega
def Ids (l : List S49) : Prop := ∀ x ∈ l, 0 ≤ x.f1 ∧ x.f1 < 4294967296
theorem Ids.app {a b : List S49} (ha : Ids a) (hb : Ids b) : Ids (a ++ b) := by
  intro x hx
  rcases List.mem_append.1 hx with h | h
  · exact ha x h
  · exact hb x h
theorem Ordered_f (l : List S49) (hn : l.length < 1000000) (h : Ids l) : tell_Ordered.f l = some (tell_Ordered.ord [] l) := by
  unfold tell_Ordered.f
  rw [if_pos ⟨hn, List.all_eq_true.2 (fun x hx => by simpa using h x hx)⟩]
def lastOf : List S49 → Int → Int
  | [], _ => 0
  | x :: t, i => if tell_Ordered.fin i x = true then x.f0 else lastOf t i
theorem lastOf_app (p : List S49) (i : Int) (q : List S49) : lastOf (p ++ q) i = if tell_Ordered.ovr p i = true then lastOf p i else lastOf q i := by
  induction p with
  | nil => rfl
  | cons x t ih =>
    show (if tell_Ordered.fin i x = true then x.f0 else lastOf (t ++ q) i) = _
    rw [ih]
    show _ = if (tell_Ordered.fin i x || tell_Ordered.ovr t i) = true then (if tell_Ordered.fin i x = true then x.f0 else lastOf t i) else _
    cases tell_Ordered.fin i x <;> simp
theorem Last_l (l : List S49) (hn : l.length < 1000000) (id : Int) : ∀ (d i : Nat), l.length - i = d → i ≤ l.length →
    Ev (fun k => tell_Last.l0 k id l (l.length : Int) (i : Int)) (lastOf (l.drop i) id) := by
  intro d
  induction d with
  | zero =>
    intro i hd hi
    obtain rfl : i = l.length := by omega
    refine Ev.step (fun k => by rw [tell_Last.l0, if_neg (by omega)]) ?_
    rw [List.drop_length]
    exact Ev.now _
  | succ d ih =>
    intro i hd hi
    have h : i < l.length := by omega
    refine Ev.step (fun k => by rw [tell_Last.l0, if_pos (by omega), if_pos (by omega), if_pos (by omega), rdE h, wsucc _ (by omega)]) ?_
    rw [List.drop_eq_getElem_cons h]
    have ih := ih (i + 1) (by omega) (by omega)
    generalize l[i] = x at *
    show Ev _ (if tell_Ordered.fin id x = true then x.f0 else lastOf _ id)
    refine Ev.ite (fun h1 => Ev.ite (fun h2 => ?_) (fun h2 => Ev.ite (fun h3 => ?_) (fun h3 => ?_))) (fun h1 => ?_)
    · rw [if_neg (by simp [tell_Ordered.fin, h2])]
      exact ih
    · rw [if_neg (by simp [tell_Ordered.fin, h3])]
      exact ih
    · rw [if_pos (by simp [tell_Ordered.fin, h2, h3, h1])]
      exact Ev.now _
    · rw [if_neg (by simp [tell_Ordered.fin, h1])]
      exact ih
theorem Last_f (l : List S49) (hn : l.length < 1000000) (id : Int) : Ev (fun k => tell_Last.f k l id) (lastOf l id) := by
  unfold tell_Last.f
  exact Last_l l hn id l.length 0 (by omega) (by omega)
/-! ### tell: the document's rows -/
def toR (x : S49) : S55 := ⟨x.f0, x.f1, x.f2, x.f3, x.f4⟩
theorem rdR {l : List S49} {i : Nat} (h : i < l.length) : rd_T55 (l.map toR) (i : Int) = toR l[i] := by
  simp [rd_T55, List.getD_eq_getElem?_getD, List.getElem?_eq_getElem h]
theorem refs_l (l : List S49) (hn : l.length < 1000000) : ∀ (d i : Nat), l.length - i = d → i ≤ l.length →
    Ev (fun k => credenzalaw23_refs.l0 k ((l.take i).map toR) l (l.length : Int) (i : Int)) (l.map toR) := by
  intro d
  induction d with
  | zero =>
    intro i hd hi
    obtain rfl : i = l.length := by omega
    refine Ev.step (fun k => by rw [credenzalaw23_refs.l0, if_neg (by omega), List.take_length]) ?_
    exact Ev.now _
  | succ d ih =>
    intro i hd hi
    have h : i < l.length := by omega
    have ih := ih (i + 1) (by omega) (by omega)
    rw [take_s h, List.map_append] at ih
    refine Ev.step (fun k => by rw [credenzalaw23_refs.l0, if_pos (by omega), if_pos (by omega), if_pos (by omega), rdE h, wsucc _ (by omega)]) ?_
    exact Ev.sb (Ev.pos (by rw [List.length_map, List.length_take]; omega) ih)
theorem refs_f (l : List S49) (hn : l.length < 1000000) : Ev (fun k => credenzalaw23_refs.f k l) (l.map toR) := by
  unfold credenzalaw23_refs.f
  exact refs_l l hn l.length 0 (by omega) (by omega)
theorem rLast_l (l : List S49) (hn : l.length < 1000000) (id : Int) : ∀ (d i : Nat), l.length - i = d → i ≤ l.length →
    Ev (fun k => credenzaref23_Last.l0 k (l.map toR) id (i : Int)) (lastOf (l.drop i) id) := by
  intro d
  induction d with
  | zero =>
    intro i hd hi
    obtain rfl : i = l.length := by omega
    refine Ev.step (fun k => by rw [credenzaref23_Last.l0, List.length_map, if_neg (by omega)]) ?_
    rw [List.drop_length]
    exact Ev.now _
  | succ d ih =>
    intro i hd hi
    have h : i < l.length := by omega
    refine Ev.step (fun k => by rw [credenzaref23_Last.l0, List.length_map, if_pos (by omega), if_pos (by omega), rdR h, wsucc _ (by omega)]) ?_
    rw [List.drop_eq_getElem_cons h]
    have ih := ih (i + 1) (by omega) (by omega)
    generalize l[i] = x at *
    show Ev (fun k => if x.f1 = id then (if x.f0 = 1 then _ else (if x.f0 = 5 then _ else _)) else _) (if tell_Ordered.fin id x = true then x.f0 else lastOf _ id)
    refine Ev.ite (fun h1 => Ev.ite (fun h2 => ?_) (fun h2 => Ev.ite (fun h3 => ?_) (fun h3 => ?_))) (fun h1 => ?_)
    · rw [if_neg (by simp [tell_Ordered.fin, h2])]
      exact ih
    · rw [if_neg (by simp [tell_Ordered.fin, h3])]
      exact ih
    · rw [if_pos (by simp [tell_Ordered.fin, h2, h3, h1])]
      exact Ev.now _
    · rw [if_neg (by simp [tell_Ordered.fin, h1])]
      exact ih
theorem rLast_f (l : List S49) (hn : l.length < 1000000) (id : Int) : Ev (fun k => credenzaref23_Last.f k (l.map toR) id) (lastOf l id) := by
  unfold credenzaref23_Last.f
  exact rLast_l l hn id l.length 0 (by omega) (by omega)
theorem ovr_mono {l : List S49} {i j : Nat} (h : i ≤ j) {id : Int} (ho : tell_Ordered.ovr (l.take i) id = true) : tell_Ordered.ovr (l.take j) id = true := by
  unfold tell_Ordered.ovr at *
  rw [List.any_eq_true] at *
  obtain ⟨x, hx, hf⟩ := ho
  refine ⟨x, ?_, hf⟩
  rw [show l.take i = (l.take j).take i by rw [List.take_take, Nat.min_eq_left h]] at hx
  exact List.mem_of_mem_take hx
theorem rOrd_l1 (l : List S49) (hn : l.length < 1000000) (i : Nat) (hi : i < l.length) (R : Bool) (hR : Ev (fun k => credenzaref23_Ordered.l0 k (l.map toR) (wrap64 ((i : Int) + 1))) R) :
    ∀ (d j : Nat), i - j = d → j ≤ i → tell_Ordered.ovr (l.take j) l[i].f1 = false →
    Ev (fun k => credenzaref23_Ordered.l1 k (l.map toR) (i : Int) (tell_Ordered.cnt (l.take j) l[i].f1 : Int) (j : Int))
      (if tell_Ordered.ovr (l.take i) l[i].f1 = false ∧ l[i].f2 = (tell_Ordered.cnt (l.take i) l[i].f1 : Int) then R else false) := by
  intro d
  induction d with
  | zero =>
    intro j hd hj ho
    obtain rfl : j = i := by omega
    refine Ev.step (fun k => by rw [credenzaref23_Ordered.l1, if_neg (by omega), if_pos (by omega), List.length_map, if_pos (by omega), rdR hi]) ?_
    show Ev (fun k => if l[j].f2 = _ then _ else _) _
    refine Ev.ite (fun h => ?_) (fun h => ?_)
    · rw [if_pos ⟨ho, h⟩]
      exact hR
    · rw [if_neg (fun h2 => h h2.2)]
      exact Ev.now _
  | succ d ih =>
    intro j hd hj ho
    have hjl : j < l.length := by omega
    have ih := ih (j + 1) (by omega) (by omega)
    have hc := tell_Ordered.cnt_le (l.take j) l[i].f1
    rw [List.length_take] at hc
    refine Ev.step (fun k => by rw [credenzaref23_Ordered.l1, if_pos (by omega), if_pos (by omega), List.length_map, if_pos (by omega), if_pos (by omega), if_pos (by omega), rdR hi, rdR hjl]) ?_
    rw [take_s hjl, tell_Ordered.ovr_snoc, tell_Ordered.cnt_snoc, ho, Bool.false_or] at ih
    have hov : tell_Ordered.fin l[i].f1 l[j] = true → tell_Ordered.ovr (l.take i) l[i].f1 = true := fun h =>
      ovr_mono (i := j + 1) (by omega) (by rw [take_s hjl, tell_Ordered.ovr_snoc, h, Bool.or_true])
    show Ev (fun k => if l[j].f1 = l[i].f1 then credenzaref23_Ordered.j3 k (l.map toR) (i : Int) _ (j : Int) (l[j].f0 == 5) else credenzaref23_Ordered.j3 k (l.map toR) (i : Int) _ (j : Int) true) _
    refine Ev.ite (fun h1 => ?_) (fun h1 => ?_)
    · by_cases h5 : l[j].f0 = 5
      · have ht : tell_Ordered.tok l[i].f1 l[j] = false := by simp [tell_Ordered.tok, h5]
        have hf : tell_Ordered.fin l[i].f1 l[j] = false := by simp [tell_Ordered.fin, h5]
        rw [ht, hf] at ih
        refine Ev.step (fun k => by rw [credenzaref23_Ordered.j3, beq_iff_eq.2 h5, if_pos rfl, wsucc _ (by omega)]) ?_
        exact ih rfl
      · refine Ev.step (fun k => by rw [credenzaref23_Ordered.j3, beq_eq_false_iff_ne.2 h5, if_neg (by decide), if_pos (by omega), List.length_map, if_pos (by omega), rdR hjl, wsucc j (by omega)]) ?_
        show Ev (fun k => if l[j].f0 = 1 then _ else _) _
        refine Ev.ite (fun h2 => ?_) (fun h2 => ?_)
        · have ht : tell_Ordered.tok l[i].f1 l[j] = true := by simp [tell_Ordered.tok, h2, h1]
          have hf : tell_Ordered.fin l[i].f1 l[j] = false := by simp [tell_Ordered.fin, h2]
          rw [ht, hf, if_pos rfl] at ih
          rw [wsucc _ (by omega)]
          exact ih rfl
        · have hf : tell_Ordered.fin l[i].f1 l[j] = true := by simp [tell_Ordered.fin, h2, h5, h1]
          rw [if_neg (fun h => by rw [hov hf] at h; exact absurd h.1 (by decide))]
          exact Ev.now _
    · have ht : tell_Ordered.tok l[i].f1 l[j] = false := by simp [tell_Ordered.tok, h1]
      have hf : tell_Ordered.fin l[i].f1 l[j] = false := by simp [tell_Ordered.fin, h1]
      rw [ht, hf] at ih
      refine Ev.step (fun k => by rw [credenzaref23_Ordered.j3, if_pos rfl, wsucc _ (by omega)]) ?_
      exact ih rfl
theorem rOrd_l0 (l : List S49) (hn : l.length < 1000000) : ∀ (d i : Nat), l.length - i = d → i ≤ l.length →
    Ev (fun k => credenzaref23_Ordered.l0 k (l.map toR) (i : Int)) (tell_Ordered.ord (l.take i) (l.drop i)) := by
  intro d
  induction d with
  | zero =>
    intro i hd hi
    obtain rfl : i = l.length := by omega
    refine Ev.step (fun k => by rw [credenzaref23_Ordered.l0, List.length_map, if_neg (by omega)]) ?_
    rw [List.drop_length]
    exact Ev.now _
  | succ d ih =>
    intro i hd hi
    have h : i < l.length := by omega
    have ih := ih (i + 1) (by omega) (by omega)
    rw [take_s h] at ih
    refine Ev.step (fun k => by rw [credenzaref23_Ordered.l0, List.length_map, if_pos (by omega), if_pos (by omega), rdR h, wsucc i (by omega)]) ?_
    rw [List.drop_eq_getElem_cons h]
    show Ev (fun k => if l[i].f0 = 5 then _ else (if l[i].f0 < 1 then credenzaref23_Ordered.j1 k (l.map toR) (i : Int) true else credenzaref23_Ordered.j1 k (l.map toR) (i : Int) (decide (l[i].f0 > 5)))) (if tell_Ordered.good (l.take i) l[i] = true then _ else false)
    refine Ev.ite (fun h5 => ?_) (fun h5 => ?_)
    · rw [if_pos (by simp [tell_Ordered.good, h5])]
      exact ih
    · have hin : (l[i].f0 < 1 ∨ l[i].f0 > 5) → tell_Ordered.good (l.take i) l[i] = false := by
        intro hh
        have : (l[i].f0 == 5) = false := beq_eq_false_iff_ne.2 h5
        rcases hh with hh | hh
        · unfold tell_Ordered.good
          rw [this, decide_eq_false (show ¬ 1 ≤ l[i].f0 by omega)]
          rfl
        · unfold tell_Ordered.good
          rw [this, decide_eq_false (show ¬ l[i].f0 ≤ 4 by omega), Bool.and_false]
          rfl
      refine Ev.ite (fun h1 => ?_) (fun h1 => ?_)
      · rw [hin (.inl h1), if_neg (by decide)]
        refine Ev.step (fun k => by rw [credenzaref23_Ordered.j1, if_pos rfl]) ?_
        exact Ev.now _
      · by_cases h6 : l[i].f0 > 5
        · rw [hin (.inr h6), decide_eq_true h6, if_neg (by decide)]
          refine Ev.step (fun k => by rw [credenzaref23_Ordered.j1, if_pos rfl]) ?_
          exact Ev.now _
        · rw [decide_eq_false h6]
          refine Ev.step (fun k => by rw [credenzaref23_Ordered.j1, if_neg (by decide)]) ?_
          have hR : Ev (fun k => credenzaref23_Ordered.l0 k (l.map toR) (wrap64 ((i : Int) + 1))) (tell_Ordered.ord (l.take i ++ [l[i]]) (l.drop (i + 1))) := by
            rw [wsucc i (by omega)]
            exact ih
          have h2 := rOrd_l1 l hn i h _ hR i 0 (by omega) (by omega) rfl
          refine Ev.eq h2 ?_
          have e : (tell_Ordered.good (l.take i) l[i] = true) ↔ (tell_Ordered.ovr (l.take i) l[i].f1 = false ∧ l[i].f2 = (tell_Ordered.cnt (l.take i) l[i].f1 : Int)) := by
            have e1 : (l[i].f0 == 5) = false := beq_eq_false_iff_ne.2 h5
            simp only [tell_Ordered.good, e1, decide_eq_true (show 1 ≤ l[i].f0 by omega), decide_eq_true (show l[i].f0 ≤ 4 by omega), Bool.false_or, Bool.true_and, Bool.and_eq_true, Bool.not_eq_true', beq_iff_eq]
          by_cases hg : tell_Ordered.good (l.take i) l[i] = true
          · rw [if_pos hg, if_pos (e.1 hg)]
          · rw [if_neg hg, if_neg (fun h => hg (e.2 h))]
theorem rOrd_f (l : List S49) (hn : l.length < 1000000) : Ev (fun k => credenzaref23_Ordered.f k (l.map toR)) (tell_Ordered.ord [] l) := by
  unfold credenzaref23_Ordered.f
  exact rOrd_l0 l hn l.length 0 (by omega) (by omega)
theorem TellOrders : credenzalaw23_TellOrders.Pure := by
  intro l id hl hw hid
  have hI : Ids l := fun x hx => wf_u32 (hw x hx).2.1
  refine Ev.rounds ?_
  unfold credenzalaw23_TellOrders.f
  refine Ev.ite (fun _ => Ev.bind awake_f (Ev.now _)) (fun h => ?_)
  have hn : l.length < 1000000 := by omega
  rw [Ordered_f l hn hI]
  refine Ev.sb (Ev.bind (refs_f l hn) (Ev.bind (rOrd_f l hn) (Ev.pos (by simp) (Ev.bind (Last_f l hn id) (Ev.bind (refs_f l hn) (Ev.bind (rLast_f l hn id) (Ev.pos rfl (Ev.bind awake_f (Ev.now _)))))))))

end Go.Proofs.Ytggoddiiglkpiaa.Pure
