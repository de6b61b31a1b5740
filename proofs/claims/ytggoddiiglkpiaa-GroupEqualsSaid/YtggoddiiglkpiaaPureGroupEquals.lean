/- For every two groups the law GroupEquals returns true: no conditions. -/
import Derived.Test.YtggoddiiglkpiaaPGroupEqualsx
namespace Go.Proofs.Ytggoddiiglkpiaa.Pure
open Go.RowKit Go.Proofs.Ytggoddiiglkpiaa.PGroupEquals Go.Proofs.YtggoddiiglkpiaaW.PrintWords Go.Proofs.YtggoddiiglkpiaaW.PrintLast Go.Proofs.YtggoddiiglkpiaaW.PrintMore
set_option linter.unusedVariables false
set_option linter.unusedSimpArgs false
/-! ### rounds -/
theorem Ev.pos {α : Type} {c : Prop} [Decidable c] {X Y : Nat → Option α} {r : α} (h : c) (k : Ev X r) : Ev (fun n => if c then X n else Y n) r := by
  obtain ⟨K, k⟩ := k
  exact ⟨K, fun n hn => (if_pos h).trans (k n hn)⟩
theorem Ev.neg {α : Type} {c : Prop} [Decidable c] {X Y : Nat → Option α} {r : α} (h : ¬ c) (k : Ev Y r) : Ev (fun n => if c then X n else Y n) r := by
  obtain ⟨K, k⟩ := k
  exact ⟨K, fun n hn => (if_neg h).trans (k n hn)⟩
theorem Ev.sb {α β : Type} {f : Nat → α → Option β} {a : α} {r : β} (k : Ev (fun n => f n a) r) : Ev (fun n => (some a).bind (f n)) r := k
theorem Ev.eq {α : Type} {g : Nat → Option α} {r s : α} (k : Ev g r) (h : r = s) : Ev g s := h ▸ k
theorem Ev.one {α : Type} {g h : Nat → Option α} {r : α} (hg : Ev g r) (hh : ∀ n, g n = h n) : Ev h r := Ev.congr (fun n => (hh n).symm) hg
/-- A test, either way. -/
theorem Ev.ite {α : Type} {c : Prop} [Decidable c] {X Y : Nat → Option α} {r : α} (h : c → Ev X r) (k : ¬ c → Ev Y r) : Ev (fun n => if c then X n else Y n) r := by
  by_cases hc : c
  · exact Ev.pos hc (h hc)
  · exact Ev.neg hc (k hc)
theorem w64 {x : Int} (h0 : -9223372036854775808 ≤ x) (h1 : x ≤ 9223372036854775807) : wrap64 x = x := by unfold wrap64; omega
theorem wu64 {x : Int} (h0 : 0 ≤ x) (h1 : x < 18446744073709551616) : IntKind.u64.wrap x = x := by
  simp [IntKind.wrap, IntKind.bits, IntKind.signed]
  omega
theorem td_nonneg {x y : Int} (h : 0 ≤ x) : Int.tdiv x y = x / y := Int.tdiv_eq_ediv_of_nonneg h
theorem tm_nonneg {x y : Int} (h : 0 ≤ x) : Int.tmod x y = x % y := Int.tmod_eq_emod_of_nonneg h
theorem wf_i64 {x : Int} (h : (Lit.int .i64 x).wf = true) : -9223372036854775808 ≤ x ∧ x ≤ 9223372036854775807 := by
  simp [Lit.wf, IntKind.min, IntKind.max, IntKind.bits, IntKind.signed] at h
  omega
theorem wf_u64 {x : Int} (h : (Lit.int .u64 x).wf = true) : 0 ≤ x ∧ x < 18446744073709551616 := by
  simp [Lit.wf, IntKind.min, IntKind.max, IntKind.bits, IntKind.signed] at h
  omega
theorem wn (x : Nat) (h : x < 9223372036854775808) : wrap64 (x : Int) = (x : Int) := w64 (by omega) (by omega)
theorem wadd (x y : Nat) (h : x + y < 9223372036854775808) : wrap64 ((x : Int) + (y : Int)) = ((x + y : Nat) : Int) := by
  rw [← Int.natCast_add]
  exact wn _ h
theorem wsucc (x : Nat) (h : x + 1 < 9223372036854775808) : wrap64 ((x : Int) + 1) = ((x + 1 : Nat) : Int) := wadd x 1 h
theorem wun (x : Nat) (h : x < 18446744073709551616) : IntKind.u64.wrap (x : Int) = (x : Int) := wu64 (by omega) (by omega)
/-! ### rows of whole numbers -/
theorem drop_rd (l : List Int) (i : Nat) (h : i < l.length) : l.drop i = rd l (i : Int) :: l.drop (i + 1) := by
  rw [List.drop_eq_getElem_cons h]
  unfold rd
  rw [Int.toNat_natCast, List.getD_eq_getElem?_getD, List.getElem?_eq_getElem h]
  rfl
theorem rd_mem (l : List Int) (i : Nat) (h : i < l.length) : rd l (i : Int) ∈ l := by
  unfold rd
  rw [Int.toNat_natCast, List.getD_eq_getElem?_getD, List.getElem?_eq_getElem h]
  exact List.getElem_mem h
theorem awake_f : Ev (fun k => credenzalaw07_awake.f k) true := Ev.of credenzalaw07_awake.mono (k := 60) (by decide +kernel)
theorem cons_dec {a b : Int} {l m : List Int} (h : a = b) : decide (a :: l = b :: m) = decide (l = m) := by
  subst h
  simp
theorem cons_ne {a b : Int} {l m : List Int} (h : ¬ a = b) : decide (a :: l = b :: m) = false := by
  rw [decide_eq_false_iff_not]
  intro e
  injection e with e1 _
  exact h e1
theorem sEqual_l (l m : List Int) (hlm : l.length = m.length) (hn : l.length < 1000000) : ∀ (d i : Nat), l.length - i = d → i ≤ l.length →
    Ev (fun k => slices_Equal_int_int.l0 k l m (l.length : Int) (i : Int)) (decide (l.drop i = m.drop i)) := by
  intro d
  induction d with
  | zero =>
    intro i hd hi
    obtain rfl : i = l.length := by omega
    refine Ev.step (fun k => by rw [slices_Equal_int_int.l0, if_neg (by omega)]) ?_
    rw [List.drop_length, hlm, List.drop_length]
    exact Ev.now _
  | succ d ih =>
    intro i hd hi
    refine Ev.step (fun k => by rw [slices_Equal_int_int.l0, if_pos (by omega), if_pos (by omega), if_pos (by omega), if_pos (by omega), wsucc _ (by omega)]) ?_
    rw [drop_rd l i (by omega), drop_rd m i (by omega)]
    refine Ev.ite (fun h => ?_) (fun h => ?_)
    · rw [cons_dec h]
      exact ih (i + 1) (by omega) (by omega)
    · rw [cons_ne h]
      exact Ev.now _
theorem sEqual_f (l m : List Int) (hn : l.length < 1000000) : Ev (fun k => slices_Equal_int_int.f k l m) (decide (l = m)) := by
  unfold slices_Equal_int_int.f
  refine Ev.ite (fun h => ?_) (fun h => ?_)
  · have := sEqual_l l m (by omega) hn l.length 0 (by omega) (by omega)
    rw [List.drop_zero, List.drop_zero] at this
    exact this
  · rw [decide_eq_false (by rintro rfl; exact h rfl)]
    exact Ev.now _
/-- are two groups one? -/
def same (z s : Int) (l : List Int) (y r : Int) (m : List Int) : Bool := decide (z = y) && (decide (s = r) && decide (l = m))
theorem Equal_f (z s : Int) (l : List Int) (y r : Int) (m : List Int) (hn : l.length < 1000000) : Ev (fun k => group_Equal.f k z s l y r m) (same z s l y r m) := by
  unfold group_Equal.f same
  refine Ev.ite (fun h => ?_) (fun h => ?_)
  · refine Ev.ite (fun h2 => ?_) (fun h2 => ?_)
    · rw [decide_eq_true h, decide_eq_true h2, Bool.true_and, Bool.true_and]
      exact Ev.bind (sEqual_f l m hn) (Ev.now _)
    · rw [decide_eq_false h2, Bool.false_and, Bool.and_false]
      exact Ev.now _
  · rw [decide_eq_false h, Bool.false_and]
    exact Ev.now _
theorem same_comm (z s : Int) (l : List Int) (y r : Int) (m : List Int) : same z s l y r m = same y r m z s l := by
  unfold same
  simp only [eq_comm]
theorem rSame_l (z s : Int) (l : List Int) (y r : Int) (m : List Int) (hlm : l.length = m.length) (hn : l.length < 1000000) : ∀ (d i : Nat), l.length - i = d → i ≤ l.length →
    Ev (fun k => credenzaref07_Same.l0 k (i : Int) z s l y r m) (decide (l.drop i = m.drop i)) := by
  intro d
  induction d with
  | zero =>
    intro i hd hi
    obtain rfl : i = l.length := by omega
    refine Ev.step (fun k => by rw [credenzaref07_Same.l0, if_neg (by omega)]) ?_
    rw [List.drop_length, hlm, List.drop_length]
    exact Ev.now _
  | succ d ih =>
    intro i hd hi
    refine Ev.step (fun k => by rw [credenzaref07_Same.l0, if_pos (by omega), if_pos (by omega), if_pos (by omega), wsucc _ (by omega)]) ?_
    rw [drop_rd l i (by omega), drop_rd m i (by omega)]
    refine Ev.ite (fun h => ?_) (fun h => ?_)
    · rw [cons_dec h]
      exact ih (i + 1) (by omega) (by omega)
    · rw [cons_ne h]
      exact Ev.now _
theorem rSame_no (z s : Int) (l : List Int) (y r : Int) (m : List Int) : Ev (fun k => credenzaref07_Same.j0 k true z s l y r m) false := by
  refine Ev.step (fun k => by rw [credenzaref07_Same.j0, if_pos rfl]) ?_
  exact Ev.now _
theorem rSame_f (z s : Int) (l : List Int) (y r : Int) (m : List Int) (hn : l.length < 1000000) : Ev (fun k => credenzaref07_Same.f k z s l y r m) (same z s l y r m) := by
  unfold credenzaref07_Same.f same
  refine Ev.ite (fun h => ?_) (fun h => ?_)
  · refine Ev.ite (fun h2 => ?_) (fun h2 => ?_)
    · rw [decide_eq_true h, decide_eq_true h2, Bool.true_and, Bool.true_and]
      by_cases h3 : l.length = m.length
      · rw [show ((l.length : Int) != (m.length : Int)) = false by rw [h3]; simp]
        refine Ev.step (fun k => by rw [credenzaref07_Same.j0, if_neg (by decide)]) ?_
        have := rSame_l z s l y r m h3 hn l.length 0 (by omega) (by omega)
        rw [List.drop_zero, List.drop_zero] at this
        exact this
      · rw [show ((l.length : Int) != (m.length : Int)) = true by rw [bne_iff_ne]; omega]
        rw [decide_eq_false (by rintro rfl; exact h3 rfl)]
        exact rSame_no _ _ _ _ _ _
    · rw [decide_eq_false h2, Bool.false_and, Bool.and_false]
      exact rSame_no _ _ _ _ _ _
  · rw [decide_eq_false h, Bool.false_and]
    exact rSame_no _ _ _ _ _ _
theorem ref_f (z s : Int) (l : List Int) : credenzalaw07_ref.f z s l = some () := rfl
theorem GroupEquals : credenzalaw07_GroupEquals.Pure := by
  intro z s l y r m _ _ _ _ _ _ _ _
  refine Ev.rounds ?_
  have hawake : Ev (fun k => credenzalaw07_GroupEquals.j0 k true z s l y r m) true := by
    refine Ev.step (fun k => by rw [credenzalaw07_GroupEquals.j0, if_pos rfl]) ?_
    exact Ev.bind awake_f (Ev.now _)
  unfold credenzalaw07_GroupEquals.f
  refine Ev.ite (fun _ => hawake) (fun h => ?_)
  by_cases h2 : (m.length : Int) > 400
  · rw [decide_eq_true h2]
    exact hawake
  · rw [decide_eq_false h2]
    refine Ev.step (fun k => by rw [credenzalaw07_GroupEquals.j0, if_neg (by decide), ref_f, ref_f]) ?_
    refine Ev.bind (Equal_f z s l y r m (by omega)) (Ev.sb (Ev.sb (Ev.bind (rSame_f z s l y r m (by omega)) ?_)))
    refine Ev.pos (beq_self_eq_true _) (Ev.bind (Equal_f y r m z s l (by omega)) (Ev.bind (Equal_f z s l y r m (by omega)) ?_))
    refine Ev.pos (by rw [same_comm y r m z s l]; exact beq_self_eq_true _) ?_
    exact Ev.bind awake_f (Ev.now _)

end Go.Proofs.Ytggoddiiglkpiaa.Pure
