/- Two rows of events of unlike IDs, mixed in any way, are in order just if each one is. No condition beyond the statement's own guards. -/
import Derived.Test.YtggoddiiglkpiaaPTellMixesx
import Derived.Laws.BitsAllLaws
namespace Go.Proofs.Ytggoddiiglkpiaa.Pure
open Go.RowKit Go.Proofs.Ytggoddiiglkpiaa.PTellMixes Go.Proofs.YtggoddiiglkpiaaW.PrintWords Go.Proofs.YtggoddiiglkpiaaW.PrintLast Go.Proofs.YtggoddiiglkpiaaW.PrintMore
set_option linter.unusedVariables false
set_option linter.unusedSimpArgs false
/-! ### rounds -/
theorem Ev.pos {α : Type} {c : Prop} [Decidable c] {X Y : Nat → Option α} {r : α} (h : c) (k : Ev X r) : Ev (fun n => if c then X n else Y n) r := by
  obtain ⟨K, k⟩ := k
  exact ⟨K, fun n hn => (if_pos h).trans (k n hn)⟩
theorem Ev.neg {α : Type} {c : Prop} [Decidable c] {X Y : Nat → Option α} {r : α} (h : ¬ c) (k : Ev Y r) : Ev (fun n => if c then X n else Y n) r := by
  obtain ⟨K, k⟩ := k
  exact ⟨K, fun n hn => (if_neg h).trans (k n hn)⟩
theorem Ev.sb {α β : Type} {f : Nat → α → Option β} {a : α} {r : β} (k : Ev (fun n => f n a) r) : Ev (fun n => (some a).bind (f n)) r := k
theorem Ev.eq {α : Type} {g : Nat → Option α} {r s : α} (k : Ev g r) (h : r = s) : Ev g s := h ▸ k
theorem Ev.one {α : Type} {g h : Nat → Option α} {r : α} (hg : Ev g r) (hh : ∀ n, g n = h n) : Ev h r := Ev.congr (fun n => (hh n).symm) hg
/-- A test, either way. -/
theorem Ev.ite {α : Type} {c : Prop} [Decidable c] {X Y : Nat → Option α} {r : α} (h : c → Ev X r) (k : ¬ c → Ev Y r) : Ev (fun n => if c then X n else Y n) r := by
  by_cases hc : c
  · exact Ev.pos hc (h hc)
  · exact Ev.neg hc (k hc)
theorem w64 {x : Int} (h0 : -9223372036854775808 ≤ x) (h1 : x ≤ 9223372036854775807) : wrap64 x = x := by unfold wrap64; omega
theorem wu64 {x : Int} (h0 : 0 ≤ x) (h1 : x < 18446744073709551616) : IntKind.u64.wrap x = x := by
  simp [IntKind.wrap, IntKind.bits, IntKind.signed]
  omega
theorem td_nonneg {x y : Int} (h : 0 ≤ x) : Int.tdiv x y = x / y := Int.tdiv_eq_ediv_of_nonneg h
theorem tm_nonneg {x y : Int} (h : 0 ≤ x) : Int.tmod x y = x % y := Int.tmod_eq_emod_of_nonneg h
theorem wf_i64 {x : Int} (h : (Lit.int .i64 x).wf = true) : -9223372036854775808 ≤ x ∧ x ≤ 9223372036854775807 := by
  simp [Lit.wf, IntKind.min, IntKind.max, IntKind.bits, IntKind.signed] at h
  omega
theorem wf_u64 {x : Int} (h : (Lit.int .u64 x).wf = true) : 0 ≤ x ∧ x < 18446744073709551616 := by
  simp [Lit.wf, IntKind.min, IntKind.max, IntKind.bits, IntKind.signed] at h
  omega
theorem wn (x : Nat) (h : x < 9223372036854775808) : wrap64 (x : Int) = (x : Int) := w64 (by omega) (by omega)
theorem wadd (x y : Nat) (h : x + y < 9223372036854775808) : wrap64 ((x : Int) + (y : Int)) = ((x + y : Nat) : Int) := by
  rw [← Int.natCast_add]
  exact wn _ h
theorem wsucc (x : Nat) (h : x + 1 < 9223372036854775808) : wrap64 ((x : Int) + 1) = ((x + 1 : Nat) : Int) := wadd x 1 h
theorem wun (x : Nat) (h : x < 18446744073709551616) : IntKind.u64.wrap (x : Int) = (x : Int) := wu64 (by omega) (by omega)
/-! ### tell: rows of events -/
theorem awake_f : Ev (fun k => credenzalaw23_awake.f k) true := Ev.of credenzalaw23_awake.mono (k := 60) (by decide +kernel)
theorem rdE {l : List S49} {i : Nat} (h : i < l.length) : rd_T49 l (i : Int) = l[i] := by
  simp [rd_T49, List.getD_eq_getElem?_getD, List.getElem?_eq_getElem h]
theorem take_s {α : Type} {l : List α} {i : Nat} (h : i < l.length) : l.take (i + 1) = l.take i ++ [l[i]] := List.take_succ_eq_append_getElem h
theorem wf_u32 {x : Int} (h : (Lit.int .u32 x).wf = true) : 0 ≤ x ∧ x < 4294967296 := by
  simp [Lit.wf, IntKind.min, IntKind.max, IntKind.bits, IntKind.signed] at h
  omega
def Ids (l : List S49) : Prop := ∀ x ∈ l, 0 ≤ x.f1 ∧ x.f1 < 4294967296
theorem Ids.app {a b : List S49} (ha : Ids a) (hb : Ids b) : Ids (a ++ b) := by
  intro x hx
  rcases List.mem_append.1 hx with h | h
  · exact ha x h
  · exact hb x h
theorem Ordered_f (l : List S49) (hn : l.length < 1000000) (h : Ids l) : tell_Ordered.f l = some (tell_Ordered.ord [] l) := by
  unfold tell_Ordered.f
  rw [if_pos ⟨hn, List.all_eq_true.2 (fun x hx => by simpa using h x hx)⟩]
def lastOf : List S49 → Int → Int
  | [], _ => 0
  | x :: t, i => if tell_Ordered.fin i x = true then x.f0 else lastOf t i
theorem lastOf_app (p : List S49) (i : Int) (q : List S49) : lastOf (p ++ q) i = if tell_Ordered.ovr p i = true then lastOf p i else lastOf q i := by
  induction p with
  | nil => rfl
  | cons x t ih =>
    show (if tell_Ordered.fin i x = true then x.f0 else lastOf (t ++ q) i) = _
    rw [ih]
    show _ = if (tell_Ordered.fin i x || tell_Ordered.ovr t i) = true then (if tell_Ordered.fin i x = true then x.f0 else lastOf t i) else _
    cases tell_Ordered.fin i x <;> simp
theorem Last_l (l : List S49) (hn : l.length < 1000000) (id : Int) : ∀ (d i : Nat), l.length - i = d → i ≤ l.length →
    Ev (fun k => tell_Last.l0 k id l (l.length : Int) (i : Int)) (lastOf (l.drop i) id) := by
  intro d
  induction d with
  | zero =>
    intro i hd hi
    obtain rfl : i = l.length := by omega
    refine Ev.step (fun k => by rw [tell_Last.l0, if_neg (by omega)]) ?_
    rw [List.drop_length]
    exact Ev.now _
  | succ d ih =>
    intro i hd hi
    have h : i < l.length := by omega
    refine Ev.step (fun k => by rw [tell_Last.l0, if_pos (by omega), if_pos (by omega), if_pos (by omega), rdE h, wsucc _ (by omega)]) ?_
    rw [List.drop_eq_getElem_cons h]
    have ih := ih (i + 1) (by omega) (by omega)
    generalize l[i] = x at *
    show Ev _ (if tell_Ordered.fin id x = true then x.f0 else lastOf _ id)
    refine Ev.ite (fun h1 => Ev.ite (fun h2 => ?_) (fun h2 => Ev.ite (fun h3 => ?_) (fun h3 => ?_))) (fun h1 => ?_)
    · rw [if_neg (by simp [tell_Ordered.fin, h2])]
      exact ih
    · rw [if_neg (by simp [tell_Ordered.fin, h3])]
      exact ih
    · rw [if_pos (by simp [tell_Ordered.fin, h2, h3, h1])]
      exact Ev.now _
    · rw [if_neg (by simp [tell_Ordered.fin, h1])]
      exact ih
theorem Last_f (l : List S49) (hn : l.length < 1000000) (id : Int) : Ev (fun k => tell_Last.f k l id) (lastOf l id) := by
  unfold tell_Last.f
  exact Last_l l hn id l.length 0 (by omega) (by omega)
/-! ### two kinds of IDs -/
def evn (x : S49) : Bool := x.f1 % 2 == 0
theorem cnt_filter (q : S49 → Bool) (p : List S49) (i : Int) (hq : ∀ y : S49, y.f1 = i → q y = true) : tell_Ordered.cnt (p.filter q) i = tell_Ordered.cnt p i := by
  unfold tell_Ordered.cnt
  rw [List.filter_filter]
  congr 1
  refine List.filter_congr (fun y _ => ?_)
  cases h : tell_Ordered.tok i y with
  | false => rfl
  | true =>
    have : y.f1 = i := by
      unfold tell_Ordered.tok at h
      simp at h
      exact h.2
    rw [hq y this]
    rfl
theorem ovr_filter (q : S49 → Bool) (p : List S49) (i : Int) (hq : ∀ y : S49, y.f1 = i → q y = true) : tell_Ordered.ovr (p.filter q) i = tell_Ordered.ovr p i := by
  unfold tell_Ordered.ovr
  induction p with
  | nil => rfl
  | cons y t ih =>
    rw [List.filter_cons]
    by_cases h : q y = true
    · rw [if_pos h, List.any_cons, List.any_cons, ih]
    · rw [if_neg h, List.any_cons, ih]
      have : tell_Ordered.fin i y = false := by
        have hne : y.f1 ≠ i := fun e => h (hq y e)
        simp [tell_Ordered.fin, hne]
      rw [this, Bool.false_or]
theorem good_filter (q : S49 → Bool) (p : List S49) (x : S49) (hq : ∀ y : S49, y.f1 = x.f1 → q y = true) : tell_Ordered.good (p.filter q) x = tell_Ordered.good p x := by
  unfold tell_Ordered.good
  rw [cnt_filter q p _ hq, ovr_filter q p _ hq]
theorem ord_cons (p : List S49) (x : S49) (t : List S49) : tell_Ordered.ord p (x :: t) = (tell_Ordered.good p x && tell_Ordered.ord (p ++ [x]) t) := by
  show (if tell_Ordered.good p x = true then tell_Ordered.ord (p ++ [x]) t else false) = _
  cases tell_Ordered.good p x <;> simp
theorem ord_split : ∀ (t p : List S49), tell_Ordered.ord p t = (tell_Ordered.ord (p.filter evn) (t.filter evn) && tell_Ordered.ord (p.filter (fun x => !evn x)) (t.filter (fun x => !evn x)))
  | [], p => rfl
  | x :: t, p => by
    rw [ord_cons, ord_split t (p ++ [x]), List.filter_append, List.filter_append]
    cases h : evn x with
    | true =>
      have hs : [x].filter evn = [x] := by rw [List.filter_cons, if_pos h]; rfl
      have hs2 : [x].filter (fun x => !evn x) = [] := by rw [List.filter_cons, if_neg (by rw [h]; decide)]; rfl
      have ht : (x :: t).filter evn = x :: t.filter evn := by rw [List.filter_cons, if_pos h]
      have ht2 : (x :: t).filter (fun x => !evn x) = t.filter (fun x => !evn x) := by rw [List.filter_cons, if_neg (by rw [h]; decide)]
      rw [hs, hs2, List.append_nil, ht, ht2, ord_cons, good_filter evn p x (fun y e => by unfold evn at *; rw [e]; exact h), Bool.and_assoc]
    | false =>
      have hs : [x].filter evn = [] := by rw [List.filter_cons, if_neg (by rw [h]; decide)]; rfl
      have hs2 : [x].filter (fun x => !evn x) = [x] := by rw [List.filter_cons, if_pos (by rw [h]; rfl)]; rfl
      have ht : (x :: t).filter evn = t.filter evn := by rw [List.filter_cons, if_neg (by rw [h]; decide)]
      have ht2 : (x :: t).filter (fun x => !evn x) = x :: t.filter (fun x => !evn x) := by rw [List.filter_cons, if_pos (by rw [h]; rfl)]
      rw [hs, hs2, List.append_nil, ht, ht2, ord_cons, good_filter (fun x => !evn x) p x (fun y e => by unfold evn at *; rw [e, h]; rfl)]
      cases tell_Ordered.good p x <;> simp
def toE (x : S49) : S49 := ⟨x.f0, Go.bits .andNot .u32 x.f1 1, x.f2, x.f3, x.f4⟩
def toO (x : S49) : S49 := ⟨x.f0, Go.bits .or .u32 x.f1 1, x.f2, x.f3, x.f4⟩
theorem toE_is {x : S49} (h : 0 ≤ x.f1 ∧ x.f1 < 4294967296) : evn (toE x) = true ∧ 0 ≤ (toE x).f1 ∧ (toE x).f1 < 4294967296 := by
  have hv : Go.bits .andNot .u32 x.f1 1 = ((x.f1.toNat &&& 4294967294 : Nat) : Int) := by
    have := u32_andNot x.f1 1 h.1 h.2 (by decide) (by decide)
    simpa using this
  have h0 : (x.f1.toNat &&& 4294967294) % 2 = 0 := by
    have := Nat.testBit_and x.f1.toNat 4294967294 0
    rw [Nat.testBit_zero, Nat.testBit_zero, Nat.testBit_zero, show decide (4294967294 % 2 = 1) = false from rfl, Bool.and_false] at this
    have := of_decide_eq_false this
    omega
  have h1 : x.f1.toNat &&& 4294967294 ≤ 4294967294 := Nat.and_le_right
  unfold evn toE
  rw [hv]
  refine ⟨?_, show (0 : Int) ≤ ((x.f1.toNat &&& 4294967294 : Nat) : Int) by omega, show ((x.f1.toNat &&& 4294967294 : Nat) : Int) < 4294967296 by omega⟩
  rw [beq_iff_eq]
  show ((x.f1.toNat &&& 4294967294 : Nat) : Int) % 2 = 0
  omega
theorem toO_is {x : S49} (h : 0 ≤ x.f1 ∧ x.f1 < 4294967296) : evn (toO x) = false ∧ 0 ≤ (toO x).f1 ∧ (toO x).f1 < 4294967296 := by
  have hv : Go.bits .or .u32 x.f1 1 = ((x.f1.toNat ||| 1 : Nat) : Int) := by
    have := u32_or x.f1 1 h.1 h.2 (by decide) (by decide)
    simpa using this
  have h0 : (x.f1.toNat ||| 1) % 2 = 1 := by
    have := Nat.testBit_or x.f1.toNat 1 0
    rw [Nat.testBit_zero, Nat.testBit_zero, Nat.testBit_zero, show decide (1 % 2 = 1) = true from rfl, Bool.or_true] at this
    exact of_decide_eq_true this
  have h1 : x.f1.toNat ||| 1 < 2 ^ 32 := Nat.or_lt_two_pow (by omega) (by decide)
  unfold evn toO
  rw [hv]
  refine ⟨?_, show (0 : Int) ≤ ((x.f1.toNat ||| 1 : Nat) : Int) by omega, show ((x.f1.toNat ||| 1 : Nat) : Int) < 4294967296 by omega⟩
  rw [beq_eq_false_iff_ne]
  show ((x.f1.toNat ||| 1 : Nat) : Int) % 2 ≠ 0
  omega
theorem Mix_l0 (b : List S49) (ts : List Bool) (l : List S49) (hn : l.length < 1000000) (r : Bool) (hR : Ev (fun k => credenzalaw23_TellMixes.l1 k ts (l.map toE) ([] : List S49) b (b.length : Int) 0) r) : ∀ (d i : Nat), l.length - i = d → i ≤ l.length →
    Ev (fun k => credenzalaw23_TellMixes.l0 k b ts ((l.take i).map toE) l (l.length : Int) (i : Int)) r := by
  intro d
  induction d with
  | zero =>
    intro i hd hi
    obtain rfl : i = l.length := by omega
    refine Ev.step (fun k => by rw [credenzalaw23_TellMixes.l0, if_neg (by omega), List.take_length]) ?_
    exact hR
  | succ d ih =>
    intro i hd hi
    have h : i < l.length := by omega
    have ih := ih (i + 1) (by omega) (by omega)
    rw [take_s h, List.map_append] at ih
    refine Ev.step (fun k => by rw [credenzalaw23_TellMixes.l0, if_pos (by omega), if_pos (by omega), if_pos (by omega), if_pos (by rw [List.length_map, List.length_take]; omega), rdE h, wsucc _ (by omega)]) ?_
    exact ih
theorem Mix_l1 (ts : List Bool) (x : List S49) (l : List S49) (hn : l.length < 1000000) (r : Bool) (hR : Ev (fun k => credenzalaw23_TellMixes.l2 k x (l.map toO) ([] : List S49) 0 0 ts (ts.length : Int) 0) r) : ∀ (d i : Nat), l.length - i = d → i ≤ l.length →
    Ev (fun k => credenzalaw23_TellMixes.l1 k ts x ((l.take i).map toO) l (l.length : Int) (i : Int)) r := by
  intro d
  induction d with
  | zero =>
    intro i hd hi
    obtain rfl : i = l.length := by omega
    refine Ev.step (fun k => by rw [credenzalaw23_TellMixes.l1, if_neg (by omega), List.take_length]) ?_
    exact hR
  | succ d ih =>
    intro i hd hi
    have h : i < l.length := by omega
    have ih := ih (i + 1) (by omega) (by omega)
    rw [take_s h, List.map_append] at ih
    refine Ev.step (fun k => by rw [credenzalaw23_TellMixes.l1, if_pos (by omega), if_pos (by omega), if_pos (by omega), if_pos (by rw [List.length_map, List.length_take]; omega), rdE h, wsucc _ (by omega)]) ?_
    exact ih
theorem filter_all {α : Type} {q : α → Bool} {l : List α} (h : ∀ x ∈ l, q x = true) : l.filter q = l := List.filter_eq_self.2 h
theorem filter_none {α : Type} {q : α → Bool} {l : List α} (h : ∀ x ∈ l, q x = false) : l.filter q = [] := List.filter_eq_nil_iff.2 (fun x hx => by rw [h x hx]; decide)
theorem Mix_l2 (x y : List S49) (ts : List Bool) (hx : x.length ≤ 20) (hy : y.length ≤ 20) (ht : ts.length ≤ 60) (hex : ∀ e ∈ x, evn e = true) (hoy : ∀ e ∈ y, evn e = false) (hix : Ids x) (hiy : Ids y) : ∀ (d j i m : Nat) (all : List S49), ts.length - j = d → j ≤ ts.length → i ≤ x.length → m ≤ y.length →
    all.length = i + m → all.filter evn = x.take i → all.filter (fun e => !evn e) = y.take m → Ids all →
    Ev (fun k => credenzalaw23_TellMixes.l2 k x y all (i : Int) (m : Int) ts (ts.length : Int) (j : Int)) true := by
  intro d
  induction d with
  | zero =>
    intro j i m all hd hj hi hm hl he ho hA
    obtain rfl : j = ts.length := by omega
    have hE : (all ++ x.drop i ++ y.drop m).filter evn = x := by
      rw [List.filter_append, List.filter_append, he, filter_all (fun e h => hex e (List.mem_of_mem_drop h)), filter_none (fun e h => hoy e (List.mem_of_mem_drop h)), List.append_nil, List.take_append_drop]
    have hO : (all ++ x.drop i ++ y.drop m).filter (fun e => !evn e) = y := by
      rw [List.filter_append, List.filter_append, ho, filter_none (q := fun e => !evn e) (l := x.drop i) (fun e h => by rw [hex e (List.mem_of_mem_drop h)]; rfl), filter_all (q := fun e => !evn e) (l := y.drop m) (fun e h => by rw [hoy e (List.mem_of_mem_drop h)]; rfl), List.append_nil, List.take_append_drop]
    have hsp := ord_split (all ++ x.drop i ++ y.drop m) []
    rw [hE, hO, List.filter_nil, List.filter_nil] at hsp
    have hall : Ids (all ++ x.drop i ++ y.drop m) := (hA.app (fun e h => hix e (List.mem_of_mem_drop h))).app (fun e h => hiy e (List.mem_of_mem_drop h))
    have hlen : (all ++ x.drop i ++ y.drop m).length < 1000000 := by
      rw [List.length_append, List.length_append, List.length_drop, List.length_drop]
      omega
    refine Ev.step (fun k => by rw [credenzalaw23_TellMixes.l2, if_neg (by omega), if_pos (by omega), if_pos (by omega)]) ?_
    refine Ev.sb (Ev.pos (by rw [Int.toNat_natCast, List.length_drop]; omega) (Ev.sb (Ev.pos (by omega) (Ev.pos (by omega) (Ev.sb (Ev.pos (by rw [Int.toNat_natCast, Int.toNat_natCast, List.length_append, List.length_drop, List.length_drop]; omega) ?_))))))
    rw [Int.toNat_natCast, Int.toNat_natCast, Ordered_f _ hlen hall, Ordered_f x (by omega) hix, Ordered_f y (by omega) hiy, hsp]
    refine Ev.sb (Ev.sb (Ev.ite (fun h1 => ?_) (fun h1 => ?_)))
    · refine Ev.sb (Ev.pos ?_ (Ev.bind awake_f (Ev.now _)))
      show ((tell_Ordered.ord [] x && tell_Ordered.ord [] y) == tell_Ordered.ord [] y) = true
      rw [h1]
      simp
    · refine Ev.pos ?_ (Ev.bind awake_f (Ev.now _))
      show ((tell_Ordered.ord [] x && tell_Ordered.ord [] y) == false) = true
      rw [Bool.eq_false_iff.2 h1]
      rfl
  | succ d ih =>
    intro j i m all hd hj hi hm hl he ho hA
    have hjl : j < ts.length := by omega
    refine Ev.step (fun k => by rw [credenzalaw23_TellMixes.l2, if_pos (by omega), if_pos (by omega), if_pos (by omega)]) ?_
    have hF : Ev (fun k => credenzalaw23_TellMixes.j4 k x y all (i : Int) (m : Int) ts (ts.length : Int) (j : Int) false) true := by
      refine Ev.step (fun k => by rw [credenzalaw23_TellMixes.j4, if_neg (by decide), wsucc j (by omega)]) ?_
      refine Ev.ite (fun h1 => ?_) (fun h1 => ?_)
      · have h2 : m < y.length := by omega
        refine Ev.pos (by omega) (Ev.pos (by omega) ?_)
        rw [rdE h2, wsucc m (by omega)]
        have hmem : y[m] ∈ y := List.getElem_mem h2
        refine ih (j + 1) i (m + 1) _ (by omega) (by omega) hi (by omega) (by rw [List.length_append, List.length_singleton]; omega) ?_ ?_ (hA.app (fun e h => by rw [List.mem_singleton] at h; subst h; exact hiy _ hmem))
        · rw [List.filter_append, he, filter_none (l := [_]) (fun e h => by rw [List.mem_singleton] at h; subst h; exact hoy _ hmem), List.append_nil]
        · rw [List.filter_append, ho, filter_all (q := fun e => !evn e) (l := [_]) (fun e h => by rw [List.mem_singleton] at h; subst h; show (!evn y[m]) = true; rw [hoy _ hmem]; rfl), take_s h2]
      · exact ih (j + 1) i m all (by omega) (by omega) hi hm hl he ho hA
    refine Ev.ite (fun _ => ?_) (fun _ => hF)
    by_cases h1 : (i : Int) < (x.length : Int)
    · rw [decide_eq_true h1]
      have h2 : i < x.length := by omega
      refine Ev.step (fun k => by rw [credenzalaw23_TellMixes.j4, if_pos rfl, if_pos (by omega), if_pos h1, if_pos (by omega), rdE h2, wsucc i (by omega), wsucc j (by omega)]) ?_
      have hmem : x[i] ∈ x := List.getElem_mem h2
      refine ih (j + 1) (i + 1) m _ (by omega) (by omega) (by omega) hm (by rw [List.length_append, List.length_singleton]; omega) ?_ ?_ (hA.app (fun e h => by rw [List.mem_singleton] at h; subst h; exact hix _ hmem))
      · rw [List.filter_append, he, filter_all (l := [_]) (fun e h => by rw [List.mem_singleton] at h; subst h; exact hex _ hmem), take_s h2]
      · rw [List.filter_append, ho, filter_none (q := fun e => !evn e) (l := [_]) (fun e h => by rw [List.mem_singleton] at h; subst h; show (!evn x[i]) = false; rw [hex _ hmem]; rfl), List.append_nil]
    · rw [decide_eq_false h1]
      exact hF
theorem TellMixes : credenzalaw23_TellMixes.Pure := by
  intro a b ts _ hwa _ hwb _ _
  have hIa : Ids a := fun x hx => wf_u32 (hwa x hx).2.1
  have hIb : Ids b := fun x hx => wf_u32 (hwb x hx).2.1
  refine Ev.rounds ?_
  have hawake : Ev (fun k => credenzalaw23_TellMixes.j0 k a b ts true) true := by
    refine Ev.step (fun k => by rw [credenzalaw23_TellMixes.j0, if_pos rfl]) ?_
    exact Ev.bind awake_f (Ev.now _)
  unfold credenzalaw23_TellMixes.f
  refine Ev.ite (fun _ => hawake) (fun ha => Ev.ite (fun _ => hawake) (fun hb => ?_))
  by_cases ht : (ts.length : Int) > 60
  · rw [decide_eq_true ht]
    exact hawake
  · rw [decide_eq_false ht]
    refine Ev.step (fun k => by rw [credenzalaw23_TellMixes.j0, if_neg (by decide)]) ?_
    refine Mix_l0 b ts a (by omega) true ?_ a.length 0 (by omega) (by omega)
    refine Mix_l1 ts (a.map toE) b (by omega) true ?_ b.length 0 (by omega) (by omega)
    refine Mix_l2 (a.map toE) (b.map toO) ts (by rw [List.length_map]; omega) (by rw [List.length_map]; omega) (by omega) ?_ ?_ ?_ ?_ ts.length 0 0 0 [] (by omega) (by omega) (by omega) (by omega) rfl rfl rfl (fun x hx => by simp at hx)
    · intro e he
      obtain ⟨x, hx, rfl⟩ := List.mem_map.1 he
      exact (toE_is (hIa x hx)).1
    · intro e he
      obtain ⟨x, hx, rfl⟩ := List.mem_map.1 he
      exact (toO_is (hIb x hx)).1
    · intro e he
      obtain ⟨x, hx, rfl⟩ := List.mem_map.1 he
      exact (toE_is (hIa x hx)).2
    · intro e he
      obtain ⟨x, hx, rfl⟩ := List.mem_map.1 he
      exact (toO_is (hIb x hx)).2

end Go.Proofs.Ytggoddiiglkpiaa.Pure
