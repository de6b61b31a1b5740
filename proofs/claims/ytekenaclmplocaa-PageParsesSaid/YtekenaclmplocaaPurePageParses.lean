/- Page parses -/
import Derived.Test.YtekenaclmplocaaPPageParsesx
namespace Go.Proofs.Ytekenaclmplocaa.Pure
open Go.RowKit Go.Proofs.Ytekenaclmplocaa.PPageParses Go.Proofs.YtekenaclmplocaaW.PrintWords Go.Proofs.YtekenaclmplocaaW.PrintLast Go.Proofs.YtekenaclmplocaaW.PrintMore
set_option linter.unusedVariables false
set_option linter.unusedSimpArgs false
theorem gdE {α : Type} {l : List α} {i : Nat} {a : α} : l.getD i a = l[i]?.getD a := List.getD_eq_getElem?_getD
theorem tnC (n : Nat) : ((n : Int)).toNat = n := Int.toNat_natCast n
theorem lnM {α β : Type} {s : List α} (f : α → β) : (s.map f).length = s.length := List.length_map f
theorem lnA {α : Type} {s z : List α} : (s ++ z).length = s.length + z.length := List.length_append
theorem oBs {α β : Type} (a : α) (f : α → Option β) : (some a).bind f = f a := rfl
theorem Ev.pos {α : Type} {c : Prop} [Decidable c] {X Y : Nat → Option α} {r : α} (h : c) (k : Ev X r) : Ev (fun n => if c then X n else Y n) r := by
 obtain ⟨K, k⟩ := k
 exact ⟨K, fun n hn => (if_pos h).trans (k n hn)⟩
theorem Ev.neg {α : Type} {c : Prop} [Decidable c] {X Y : Nat → Option α} {r : α} (h : ¬ c) (k : Ev Y r) : Ev (fun n => if c then X n else Y n) r := by
 obtain ⟨K, k⟩ := k
 exact ⟨K, fun n hn => (if_neg h).trans (k n hn)⟩
theorem Ev.sb {α β : Type} {f : Nat → α → Option β} {a : α} {r : β} (k : Ev (fun n => f n a) r) : Ev (fun n => (some a).bind (f n)) r := k
theorem Ev.eq {α : Type} {g : Nat → Option α} {r s : α} (k : Ev g r) (h : r = s) : Ev g s := h ▸ k
theorem Ev.ite {α : Type} {c : Prop} [Decidable c] {X Y : Nat → Option α} {r : α} (h : c → Ev X r) (k : ¬ c → Ev Y r) : Ev (fun n => if c then X n else Y n) r := by
 by_cases hc : c
 ·
  exact Ev.pos hc (h hc)
 ·
  exact Ev.neg hc (k hc)
theorem w64 {x : Int} (h0 : -9223372036854775808 ≤ x) (h1 : x ≤ 9223372036854775807) : wrap64 x = x := by unfold wrap64; omega
theorem wu64 {x : Int} (h0 : 0 ≤ x) (h1 : x < 18446744073709551616) : IntKind.u64.wrap x = x := by
 simp [IntKind.wrap, IntKind.bits, IntKind.signed]
 omega
theorem td_nonneg {x y : Int} (h : 0 ≤ x) : Int.tdiv x y = x / y := Int.tdiv_eq_ediv_of_nonneg h
theorem tm_nonneg {x y : Int} (h : 0 ≤ x) : Int.tmod x y = x % y := Int.tmod_eq_emod_of_nonneg h
theorem wn (x : Nat) (h : x < 9223372036854775808) : wrap64 (x : Int) = (x : Int) := w64 (by omega) (by omega)
theorem wadd (x y : Nat) (h : x + y < 9223372036854775808) : wrap64 ((x : Int) + (y : Int)) = ((x + y : Nat) : Int) := by
 rw [← Int.natCast_add]
 exact wn _ h
theorem wsucc (x : Nat) (h : x + 1 < 9223372036854775808) : wrap64 ((x : Int) + 1) = ((x + 1 : Nat) : Int) := wadd x 1 h
theorem wun (x : Nat) (h : x < 18446744073709551616) : IntKind.u64.wrap (x : Int) = (x : Int) := wu64 (by omega) (by omega)
theorem drop_rd (l : List Int) (i : Nat) (h : i < l.length) : l.drop i = rd l (i : Int) :: l.drop (i + 1) := by
 rw [List.drop_eq_getElem_cons h]
 unfold rd
 rw [tnC, gdE, List.getElem?_eq_getElem h]
 rfl
theorem cons_dec {a b : Int} {l m : List Int} (h : a = b) : decide (a :: l = b :: m) = decide (l = m) := by
 subst h
 simp
theorem cons_ne {a b : Int} {l m : List Int} (h : ¬ a = b) : decide (a :: l = b :: m) = false := by
 rw [decide_eq_false_iff_not]
 intro e
 injection e with e1 _
 exact h e1
def lo (l : List Int) : Int := l.foldl mn (rd l 0)
def hi (l : List Int) : Int := l.foldl mx (rd l 0)
def rat (a s : Int) : Int := if s ≤ 0 then 0 else if a % s > s - a % s then a / s + 1 else if a % s = s - a % s then (if a / s % 2 = 0 then a / s else a / s + 1) else a / s
def okb (b : Int) : Bool := b == 2 || b == 4 || b == 8
theorem okb_iff {b : Int} : okb b = true ↔ b = 2 ∨ b = 4 ∨ b = 8 := by simp [okb, or_assoc]
theorem Bits_f (b : Int) : F48.f b = some (okb b) := by
 unfold F48.f okb
 by_cases h2 : b = 2
 ·
  simp [h2]
 ·
  by_cases h4 : b = 4
  ·
   simp [h4]
  ·
   simp [h2, h4]
def many (n b : Int) : Int := if okb b = true then (if n = 0 then 14 else if n > 256 then 12 else 0) else 20
theorem many_f (n b : Int) : F64.f n b = some (many n b) := by
 unfold F64.f many
 rw [Bits_f, oBs]
 repeat' split
 all_goals rfl
theorem many_0 {n b : Int} (h : many n b = 0) : (b = 2 ∨ b = 4 ∨ b = 8) ∧ n ≠ 0 ∧ n ≤ 256 := by
 unfold many at h
 by_cases hb : okb b = true
 ·
  rw [if_pos hb] at h
  refine ⟨okb_iff.1 hb, ?_⟩
  split at h
  ·
   omega
  ·
   split at h
   ·
    omega
   ·
    omega
 ·
  rw [if_neg hb] at h
  omega
def stp (b : Int) : Int := if b = 2 then 3 else if b = 4 then 15 else 255
def scl (l : List Int) (b : Int) : Int := (hi l - lo l + stp b - 1) / stp b
def codes (l : List Int) (b : Int) : List Int := l.map fun x => rat (x - lo l) (scl l b)
def one (z s c : Int) : Int := wrap32 (mn (mx (wrap64 (wrap64 z + wrap64 (c * wrap64 s))) (-2147483648)) 2147483647)
theorem One_f (z s : Int) (l : List Int) (c : Int) : F77.f z s l c = some (one z s c) := rfl
def oor (b c : Int) : Bool := decide (c < 0) || decide (stp b < c)
def rgt (s : Int) (l : List Int) (b : Int) : Int :=
 if many (l.length : Int) b = 0 then (if s > 1431655765 then 21 else if s = 0 ∧ l.any (· != 0) = true then 21 else if l.any (oor b) = true then 11 else 0) else many (l.length : Int) b
theorem p2_oor {b : Int} (hb : b = 2 ∨ b = 4 ∨ b = 8) : group_Right_2.p b = oor b := by
 funext c
 unfold group_Right_2.p oor
 congr 1
 rcases hb with rfl | rfl | rfl
 ·
  show decide ((4 : Int) ≤ c) = decide ((3 : Int) < c)
  rw [decide_eq_decide]
  omega
 ·
  show decide ((16 : Int) ≤ c) = decide ((15 : Int) < c)
  rw [decide_eq_decide]
  omega
 ·
  show decide ((256 : Int) ≤ c) = decide ((255 : Int) < c)
  rw [decide_eq_decide]
  omega
theorem Right_j1 (z s : Int) (l : List Int) (b : Int) (hb : b = 2 ∨ b = 4 ∨ b = 8) (q : Bool) :
  Ev (fun k => F76.j1 k q z s l b) (if q = true then 21 else if l.any (oor b) = true then 11 else 0) := by
 have hok : group_Right_2.ok b = true := by rcases hb with rfl | rfl | rfl <;> decide
 cases q with
 | true =>
  refine Ev.step (fun k => by rw [F76.j1, if_pos rfl]) ?_
  exact Ev.now _
 | false =>
  refine Ev.step (fun k => by rw [F76.j1, if_neg (by decide)]) ?_
  unfold F94b.f
  rw [if_pos hok, p2_oor hb]
  refine Ev.sb (Ev.ite (fun h => ?_) (fun h => ?_))
  ·
   rw [if_neg (by decide), if_pos h]
   exact Ev.now _
  ·
   rw [if_neg (by decide), if_neg h]
   exact Ev.now _
theorem Right_j0 (z s : Int) (l : List Int) (b : Int) (hb : b = 2 ∨ b = 4 ∨ b = 8) (q : Bool) :
  Ev (fun k => F76.j0 k q z s l b) (if s > 1431655765 then 21 else if q = true then 21 else if l.any (oor b) = true then 11 else 0) := by
 refine Ev.step (fun k => by rw [F76.j0]) ?_
 refine Ev.ite (fun h => ?_) (fun h => ?_)
 ·
  rw [if_pos h]
  exact Right_j1 z s l b hb true
 ·
  rw [if_neg h]
  exact Right_j1 z s l b hb q
theorem gRight_f (z s : Int) (l : List Int) (b : Int) : Ev (fun k => F76.f k z s l b) (rgt s l b) := by
 unfold F76.f rgt
 simp only [many_f, oBs]
 refine Ev.ite (fun h0 => ?_) (fun h0 => ?_)
 ·
  rw [if_pos h0]
  have hb := (many_0 h0).1
  refine Ev.ite (fun h1 => ?_) (fun h1 => ?_)
  ·
   unfold F94.f
   refine Ev.sb (Ev.eq (Right_j0 z s l b hb (l.any group_Right_1.p)) ?_)
   have e : l.any group_Right_1.p = l.any (· != 0) := rfl
   rw [e]
   by_cases h2 : l.any (· != 0) = true
   ·
    rw [if_pos h2, if_pos (show s = 0 ∧ l.any (· != 0) = true from ⟨h1, h2⟩)]
   ·
    rw [if_neg h2, if_neg (show ¬ (s = 0 ∧ l.any (· != 0) = true) from fun h => h2 h.2)]
  ·
   refine Ev.eq (Right_j0 z s l b hb false) ?_
   rw [if_neg (show ¬ (false = true) by decide), if_neg (show ¬ (s = 0 ∧ l.any (· != 0) = true) from fun h => h1 h.1)]
 ·
  rw [if_neg h0]
  exact Ev.now _
theorem pkmany_f (n : Int) : F88.f n = some (decide (0 ≤ n) && decide (n ≤ 256)) := by
 unfold F88.f
 by_cases h : n ≥ 0
 ·
  rw [if_pos h]; simp [show (0 : Int) ≤ n from h]
 ·
  rw [if_neg h]; simp [show ¬ (0 : Int) ≤ n from h]
def wordsZ (n b : Int) : Int := if okb b = true ∧ 0 ≤ n ∧ n ≤ 256 then (n * b + 63) / 64 else 0
theorem Words_f (n b : Int) : F57.f n b = some (wordsZ n b) := by
 unfold F57.f wordsZ
 simp only [Bits_f, pkmany_f, oBs]
 by_cases hb : okb b = true
 ·
  rw [if_pos hb]
  by_cases hn : 0 ≤ n ∧ n ≤ 256
  ·
   rw [if_pos (by simp [hn.1, hn.2]), if_pos ⟨hb, hn.1, hn.2⟩]
   have h0 : 0 ≤ n * b ∧ n * b ≤ 2048 := by
    rcases okb_iff.1 hb with rfl | rfl | rfl <;> omega
   rw [w64 (x := n * b) (by omega) (by omega), w64 (x := n * b + 64) (by omega) (by omega), w64 (x := n * b + 64 - 1) (by omega) (by omega), td_nonneg (by omega), w64 (by omega) (by omega)]
   congr 2
   omega
  ·
   rw [if_neg (by simp; omega), if_neg (fun h => hn h.2)]
 ·
  rw [if_neg hb, if_neg (fun h => hb h.1)]
def up (W : List Nat) : List Int := W.map fun (n : Nat) => (n : Int)
theorem up_length (W : List Nat) : (up W).length = W.length := by simp [up]
theorem rd_up (W : List Nat) (j : Nat) : rd (up W) (j : Int) = ((W.getD j 0 : Nat) : Int) := by
 unfold rd up
 rw [tnC, gdE, gdE, List.getElem?_map]
 cases W[j]? <;> rfl
theorem set_up (W : List Nat) (j x : Nat) : (up W).set j (x : Int) = up (W.set j x) := by
 unfold up
 rw [List.map_set]
theorem or_join {v x s : Nat} (hv : v < 2 ^ s) (hx : x % 2 ^ s = 0) (hx1 : x < 18446744073709551616) (hv1 : v < 18446744073709551616) : Go.bits .or .u64 (v : Int) (x : Int) = ((v + x : Nat) : Int) := by
 have hb := (bits_nat .u64 64 (by decide) (fun n h0 h1 => wu64 h0 (by simpa using h1)) v x (by simpa using hv1) (by simpa using hx1)).2
 rw [hb, Nat.or_comm]
 have hq : x = 2 ^ s * (x / 2 ^ s) := by
  have := Nat.div_add_mod x (2 ^ s)
  omega
 rw [hq, ← Nat.two_pow_add_eq_or_of_lt hv (x / 2 ^ s), ← hq, Nat.add_comm]
theorem shl_u64 (x s : Nat) (hs : s ≤ 64) (h : x * 2 ^ s < 18446744073709551616) : shl .u64 (x : Int) (s : Int) = ((x * 2 ^ s : Nat) : Int) := by
 unfold shl
 rw [tnC, Nat.min_eq_left (show s ≤ IntKind.u64.bits from hs)]
 have : (x : Int) * 2 ^ s = ((x * 2 ^ s : Nat) : Int) := by simp
 rw [this, wu64 (by omega) (by omega)]
theorem shr_u64 (x s : Nat) (hs : s ≤ 64) : shr .u64 (x : Int) (s : Int) = ((x / 2 ^ s : Nat) : Int) := by
 unfold shr
 rw [tnC, Nat.min_eq_left (show s ≤ IntKind.u64.bits from hs)]
 simp
def St (b W : Nat) (l : List Nat) : Nat → List Nat
 | 0 => List.replicate W 0
 | i + 1 => (St b W l i).set (i * b / 64) ((St b W l i).getD (i * b / 64) 0 + l.getD i 0 * 2 ^ (i * b % 64))
theorem St_length (b W : Nat) (l : List Nat) : ∀ i, (St b W l i).length = W
 | 0 => by simp [St]
 | i + 1 => by simp [St, St_length b W l i]
theorem getD_set (W : List Nat) (q x j : Nat) (hq : q < W.length) : (W.set q x).getD j 0 = if j = q then x else W.getD j 0 := by
 rw [gdE, gdE, List.getElem?_set]
 by_cases h : q = j
 ·
  subst h
  simp [hq]
 ·
  simp [h, Ne.symm h]
theorem place {b : Nat} (hb : b = 2 ∨ b = 4 ∨ b = 8) (i : Nat) : i * b % 64 + b ≤ 64 ∧ (i * b % 64 + b < 64 → (i + 1) * b / 64 = i * b / 64 ∧ (i + 1) * b % 64 = i * b % 64 + b) ∧ (i * b % 64 + b = 64 → (i + 1) * b / 64 = i * b / 64 + 1 ∧ (i + 1) * b % 64 = 0) := by
 rcases hb with rfl | rfl | rfl <;> omega
theorem mul_lt_two {c s b : Nat} (hc : c < 2 ^ b) : c * 2 ^ s + 2 ^ s ≤ 2 ^ (s + b) := by
 have h : (c + 1) * 2 ^ s ≤ 2 ^ b * 2 ^ s := Nat.mul_le_mul_right _ hc
 rw [Nat.pow_add, Nat.mul_comm (2 ^ s)]
 rw [Nat.add_mul, Nat.one_mul] at h
 exact h
theorem two64 : (2 : Nat) ^ 64 = 18446744073709551616 := by decide
theorem St_bound {b W : Nat} (hb : b = 2 ∨ b = 4 ∨ b = 8) (l : List Nat) (hl : ∀ i, l.getD i 0 < 2 ^ b) : ∀ i, (i * b + 63) / 64 ≤ W → ∀ j, (St b W l i).getD j 0 < 2 ^ (min 64 (i * b - 64 * j))
 | 0, _, j => by
  have : (List.replicate W 0).getD j 0 = 0 := by
   rw [gdE, List.getElem?_replicate]
   split <;> rfl
  simp only [St, this]
  exact Nat.two_pow_pos _
 | i + 1, hW, j => by
  have hpl := place hb i
  have hbp : 0 < b := by omega
  have hmul : (i + 1) * b = i * b + b := by rw [Nat.add_mul, Nat.one_mul]
  have ih := St_bound (W := W) hb l hl i (by omega)
  have hq : i * b / 64 < W := by omega
  simp only [St]
  rw [getD_set _ _ _ _ (by rw [St_length]; exact hq)]
  by_cases hj : j = i * b / 64
  ·
   rw [if_pos hj, hj]
   have h1 := ih (i * b / 64)
   have e1 : min 64 (i * b - 64 * (i * b / 64)) = i * b % 64 := by omega
   have e2 : min 64 ((i + 1) * b - 64 * (i * b / 64)) = i * b % 64 + b := by omega
   rw [e1] at h1
   rw [e2]
   have := mul_lt_two (s := i * b % 64) (hl i)
   omega
  ·
   rw [if_neg hj]
   exact Nat.lt_of_lt_of_le (ih j) (Nat.pow_le_pow_right (by decide) (by omega))
theorem St_lane {b W : Nat} (hb : b = 2 ∨ b = 4 ∨ b = 8) (l : List Nat) (hl : ∀ i, l.getD i 0 < 2 ^ b) : ∀ i, (i * b + 63) / 64 ≤ W → ∀ t, t < i → (St b W l i).getD (t * b / 64) 0 / 2 ^ (t * b % 64) % 2 ^ b = l.getD t 0
 | 0, _, t, ht => by omega
 | i + 1, hW, t, ht => by
  have hpl := place hb i
  have hbp : 0 < b := by omega
  have hmul : (i + 1) * b = i * b + b := by rw [Nat.add_mul, Nat.one_mul]
  have hq : i * b / 64 < W := by omega
  simp only [St]
  rw [getD_set _ _ _ _ (by rw [St_length]; exact hq)]
  by_cases hti : t = i
  ·
   subst hti
   rw [if_pos rfl]
   have h1 := St_bound (W := W) hb l hl t (by omega) (t * b / 64)
   have e1 : min 64 (t * b - 64 * (t * b / 64)) = t * b % 64 := by omega
   rw [e1] at h1
   rw [Nat.add_mul_div_right _ _ (Nat.two_pow_pos _), Nat.div_eq_of_lt h1, Nat.zero_add, Nat.mod_eq_of_lt (hl t)]
  ·
   have ih := St_lane (W := W) hb l hl i (by omega) t (by omega)
   by_cases hj : t * b / 64 = i * b / 64
   ·
    rw [if_pos hj]
    have hplt := place hb t
    have hlt : t * b + b ≤ i * b := by
     have : (t + 1) * b ≤ i * b := Nat.mul_le_mul_right _ (by omega)
     rw [Nat.add_mul, Nat.one_mul] at this
     exact this
    have hs : t * b % 64 + b ≤ i * b % 64 := by omega
    obtain ⟨r, hr⟩ : ∃ r, i * b % 64 = t * b % 64 + b + r := ⟨i * b % 64 - (t * b % 64 + b), by omega⟩
    have e : l.getD i 0 * 2 ^ (i * b % 64) = (l.getD i 0 * 2 ^ r * 2 ^ b) * 2 ^ (t * b % 64) := by
     rw [hr, Nat.pow_add, Nat.pow_add]
     simp only [Nat.mul_assoc, Nat.mul_comm, Nat.mul_left_comm]
    rw [e, Nat.add_mul_div_right _ _ (Nat.two_pow_pos _), Nat.add_mul_mod_self_right, ← hj]
    exact ih
   ·
    rw [if_neg hj]
    exact ih
theorem wi (i b : Nat) (h : i * b < 100000) : wrap64 ((i : Int) * (b : Int)) = ((i * b : Nat) : Int) := by
 rw [← Int.natCast_mul]
 exact w64 (by omega) (by omega)
theorem wdiv (x : Nat) (h : x < 100000) : wrap64 (Int.tdiv (x : Int) 64) = ((x / 64 : Nat) : Int) := by
 rw [td_nonneg (by omega)]
 have : (x : Int) / 64 = ((x / 64 : Nat) : Int) := by simp
 rw [this]
 exact w64 (by omega) (by omega)
theorem wmod (x : Nat) : Int.tmod (x : Int) 64 = ((x % 64 : Nat) : Int) := by
 rw [tm_nonneg (by omega)]
 simp
theorem b_le {b : Nat} (hb : b = 2 ∨ b = 4 ∨ b = 8) : 2 ^ b ≤ 256 ∧ b ≤ 8 ∧ 0 < b := by
 rcases hb with rfl | rfl | rfl <;> decide
theorem mulb {b i n : Nat} (hb : b = 2 ∨ b = 4 ∨ b = 8) (hi : i < n) (hn : n ≤ 256) : i * b + b ≤ n * b ∧ n * b ≤ 2048 := by
 rcases hb with rfl | rfl | rfl <;> omega
theorem Pack_l {b : Nat} (hb : b = 2 ∨ b = 4 ∨ b = 8) (l : List Nat) (hl : ∀ i, l.getD i 0 < 2 ^ b) (hn : l.length ≤ 256) : ∀ (d i : Nat), l.length - i = d → i ≤ l.length →
  Ev (fun k => F79.l0 k (up (St b ((l.length * b + 63) / 64) l i)) (up l) (l.length : Int) (i : Int) (b : Int)) (up (St b ((l.length * b + 63) / 64) l l.length), 0) := by
 intro d
 induction d with
 | zero =>
  intro i hd hi
  obtain rfl : i = l.length := by omega
  refine Ev.step (f := fun _ => some (up (St b ((l.length * b + 63) / 64) l l.length), 0)) (fun k => ?_) (Ev.now _)
  rw [F79.l0, if_neg (by omega)]
 | succ d ih =>
  intro i hd hi
  have hlt : i < l.length := by omega
  have hm := mulb hb hlt hn
  have hbl := b_le hb
  have hpl := place hb i
  have hq : i * b / 64 < (l.length * b + 63) / 64 := by omega
  refine Ev.step (fun k => ?_) (ih (i + 1) (by omega) (by omega))
  rw [F79.l0, wi i b (by omega), wdiv _ (by omega), wmod, if_pos (by omega), if_pos (by omega), if_pos (by rw [up_length]; omega), if_pos (by omega), if_pos (by rw [up_length, St_length]; omega), if_pos (by omega)]
  have hc := hl i
  have h1 : rd (up l) (i : Int) = ((l.getD i 0 : Nat) : Int) := rd_up l i
  have h2 : rd (up (St b ((l.length * b + 63) / 64) l i)) ((i * b / 64 : Nat) : Int) = (((St b ((l.length * b + 63) / 64) l i).getD (i * b / 64) 0 : Nat) : Int) := rd_up _ _
  have hB := St_bound (W := (l.length * b + 63) / 64) hb l hl i (by omega) (i * b / 64)
  rw [show min 64 (i * b - 64 * (i * b / 64)) = i * b % 64 from by omega] at hB
  have hX : l.getD i 0 * 2 ^ (i * b % 64) + 2 ^ (i * b % 64) ≤ 18446744073709551616 := by
   have := mul_lt_two (s := i * b % 64) hc
   have h3 : 2 ^ (i * b % 64 + b) ≤ 2 ^ 64 := Nat.pow_le_pow_right (by decide) hpl.1
   rw [two64] at h3
   omega
  have hp := Nat.two_pow_pos (i * b % 64)
  rw [h1, h2, wu64 (x := ((l.getD i 0 : Nat) : Int)) (by omega) (by omega), shl_u64 _ _ (by omega) (by omega), or_join hB (Nat.mul_mod_left _ _) (by omega) (by omega), tnC, set_up, w64 (x := (i : Int) + 1) (by omega) (by omega)]
  simp only [St]
  rfl
def inR (b : Nat) (l : List Int) : Prop := ∀ x ∈ l, 0 ≤ x ∧ x < 2 ^ b
def nat (l : List Int) : List Nat := l.map Int.toNat
theorem nat_length (l : List Int) : (nat l).length = l.length := by simp [nat]
theorem up_nat {b : Nat} {l : List Int} (h : inR b l) : up (nat l) = l := by
 unfold up nat
 rw [List.map_map]
 conv => rhs; rw [← List.map_id l]
 refine List.map_congr_left fun x hx => ?_
 have := (h x hx).1
 simp
 omega
theorem nat_lt {b : Nat} {l : List Int} (h : inR b l) (i : Nat) : (nat l).getD i 0 < 2 ^ b := by
 rw [gdE]
 unfold nat
 rw [List.getElem?_map]
 cases hi : l[i]? with
 | none => simpa using Nat.two_pow_pos b
 | some x =>
  have := h x (List.mem_of_getElem? hi)
  show x.toNat < 2 ^ b
  have h2 : (x.toNat : Int) < ((2 ^ b : Nat) : Int) := by simp; omega
  omega
theorem any_f {b : Nat} (hb : b = 2 ∨ b = 4 ∨ b = 8) (l : List Int) : F94bb.f l (b : Int) = some (l.any fun x => decide (x < 0) || decide (2 ^ b ≤ x)) := by
 unfold F94bb.f
 rw [if_pos (by rcases hb with rfl | rfl | rfl <;> decide)]
 rfl
theorem any_inR {b : Nat} {l : List Int} : (l.any fun x => decide (x < 0) || decide ((2 : Int) ^ b ≤ x)) = false ↔ inR b l := by
 rw [List.any_eq_false]
 constructor
 ·
  intro h x hx
  have := h x hx
  simp at this
  omega
 ·
  intro h x hx
  have := h x hx
  simp
  omega
def packed (b : Nat) (l : List Int) : List Nat := St b ((l.length * b + 63) / 64) (nat l) l.length
theorem packed_length (b : Nat) (l : List Int) : (packed b l).length = (l.length * b + 63) / 64 := St_length _ _ _ _
def packZ (b : Int) (l : List Int) : List Int × Int :=
 if okb b = true then (if l.length ≤ 256 then (if (l.any fun x => decide (x < 0) || decide ((2 : Int) ^ b.toNat ≤ x)) = true then ([], 11) else (up (packed b.toNat l), 0)) else ([], 12)) else ([], 20)
theorem okb_nat {b : Int} (h : okb b = true) : ∃ m : Nat, b = (m : Int) ∧ (m = 2 ∨ m = 4 ∨ m = 8) := by
 rcases okb_iff.1 h with rfl | rfl | rfl
 ·
  exact ⟨2, rfl, by omega⟩
 ·
  exact ⟨4, rfl, by omega⟩
 ·
  exact ⟨8, rfl, by omega⟩
theorem okb_of {m : Nat} (h : m = 2 ∨ m = 4 ∨ m = 8) : okb (m : Int) = true := by
 rcases h with rfl | rfl | rfl <;> rfl
theorem Pack_f (l : List Int) (b : Int) : Ev (fun k => F79.f k l b) (packZ b l) := by
 unfold F79.f packZ
 simp only [Bits_f, pkmany_f, Words_f, oBs]
 by_cases hb : okb b = true
 ·
  rw [if_pos hb]
  refine Ev.pos hb ?_
  by_cases hn : l.length ≤ 256
  ·
   rw [if_pos hn]
   refine Ev.pos (by simp; omega) ?_
   obtain ⟨m, rfl, hm⟩ := okb_nat hb
   rw [any_f hm, tnC]
   refine Ev.sb ?_
   by_cases ha : (l.any fun x => decide (x < 0) || decide ((2 : Int) ^ m ≤ x)) = true
   ·
    rw [if_pos ha]
    exact Ev.pos ha (Ev.now _)
   ·
    rw [if_neg ha]
    refine Ev.neg ha ?_
    have hin : inR m l := any_inR.1 (by simpa using ha)
    have hw : wordsZ (l.length : Int) (m : Int) = (((l.length * m + 63) / 64 : Nat) : Int) := by
     unfold wordsZ
     rw [if_pos ⟨hb, by omega, by omega⟩]
     simp
    have hmb : l.length * m ≤ 2048 := by rcases hm with rfl | rfl | rfl <;> omega
    rw [hw]
    refine Ev.pos (by omega) ?_
    rw [tnC]
    refine Ev.pos (by omega) ?_
    have h0 := Pack_l hm (nat l) (nat_lt hin) (by rw [nat_length]; exact hn) l.length 0 (by rw [nat_length]; omega) (by omega)
    rw [nat_length, up_nat hin] at h0
    have e : up (St m ((l.length * m + 63) / 64) (nat l) 0) = List.replicate ((l.length * m + 63) / 64) 0 := by simp [St, up]
    rw [e] at h0
    exact h0
  ·
   rw [if_neg hn]
   exact Ev.neg (by simp; omega) (Ev.now _)
 ·
  rw [if_neg hb]
  exact Ev.neg hb (Ev.now _)
theorem Lane_f {b : Nat} (hb : b = 2 ∨ b = 4 ∨ b = 8) (W : List Nat) (hW : ∀ j, W.getD j 0 < 18446744073709551616) (hlen : W.length ≤ 1000) (i : Nat) (hi : i < W.length * (64 / b)) :
  F78.f (up W) (i : Int) (b : Int) = some ((W.getD (i * b / 64) 0 / 2 ^ (i * b % 64) % 2 ^ b : Nat) : Int) := by
 have hib : i * b < 64 * W.length := by rcases hb with rfl | rfl | rfl <;> omega
 have hlim : wrap64 (((up W).length : Int) * wrap64 (Int.tdiv 64 (b : Int))) = ((W.length * (64 / b) : Nat) : Int) := by
  rw [up_length, td_nonneg (by omega)]
  have : (64 : Int) / (b : Int) = ((64 / b : Nat) : Int) := by simp
  have hd : 64 / b ≤ 32 := by rcases hb with rfl | rfl | rfl <;> decide
  have hm : W.length * (64 / b) ≤ 32000 := by
   have := Nat.mul_le_mul hlen hd
   omega
  rw [this]
  generalize 64 / b = q at hd hm ⊢
  rw [w64 (x := (q : Int)) (by omega) (by omega), ← Int.natCast_mul, w64 (by omega) (by omega)]
 have hbl := b_le hb
 unfold F78.f
 simp only [Bits_f, okb_of hb, oBs]
 rw [if_pos trivial, if_neg (by omega), if_neg (by omega), hlim, if_neg (by omega), wi i b (by omega), wdiv _ (by omega), wmod, if_pos (by omega), if_pos (by rw [up_length]; omega), if_pos (by omega), if_pos (by omega), rd_up, shr_u64 _ _ (by omega)]
 have h1 : shl .u64 1 (b : Int) = ((2 ^ b : Nat) : Int) := by
  have := shl_u64 1 b (by omega) (by omega)
  simpa using this
 have hx := Nat.lt_of_le_of_lt (Nat.div_le_self (W.getD (i * b / 64) 0) (2 ^ (i * b % 64))) (hW (i * b / 64))
 have h2 : IntKind.u64.wrap (((2 ^ b : Nat) : Int) - 1) = (2 : Int) ^ b - 1 := by
  have hp := Nat.two_pow_pos b
  rw [wu64 (by omega) (by omega)]
  simp
 rw [h1, h2]
 have h4 := Nat.mod_lt (W.getD (i * b / 64) 0 / 2 ^ (i * b % 64)) (Nat.two_pow_pos b)
 have hbl1 := hbl.1
 have hbl2 := hbl.2.1
 clear h1 h2 hlim hbl
 generalize W.getD (i * b / 64) 0 / 2 ^ (i * b % 64) = y at hx h4 ⊢
 rw [bits_mask .u64 64 (by decide) (fun n h0 h1 => wu64 h0 (by simpa using h1)) b (by omega) _ (by omega) (show (y : Int) < 2 ^ 64 by
  have : (2 : Int) ^ 64 = 18446744073709551616 := by decide
  omega)]
 have h3 : (y : Int) % 2 ^ b = ((y % 2 ^ b : Nat) : Int) := by simp
 rw [h3, w64 (by omega) (by omega)]
def lane (b : Nat) (W : List Nat) (i : Nat) : Nat := W.getD (i * b / 64) 0 / 2 ^ (i * b % 64) % 2 ^ b
def lanes (b : Nat) (W : List Nat) (n : Nat) : List Int := up ((List.range n).map (lane b W))
theorem lanes_length (b : Nat) (W : List Nat) (n : Nat) : (lanes b W n).length = n := by simp [lanes, up]
def part (b : Nat) (W : List Nat) (n i : Nat) : List Int := up ((List.range n).map fun t => if t < i then lane b W t else 0)
theorem part_length (b : Nat) (W : List Nat) (n i : Nat) : (part b W n i).length = n := by simp [part, up]
theorem part_step (b : Nat) (W : List Nat) (n i : Nat) (_hi : i < n) : (part b W n i).set i ((lane b W i : Nat) : Int) = part b W n (i + 1) := by
 unfold part
 rw [set_up]
 congr 1
 apply List.ext_getElem
 ·
  simp
 ·
  intro j h1 h2
  have hjn : j < n := by simpa using h1
  rw [List.getElem_set]
  by_cases hj : i = j
  ·
   subst hj
   simp
  ·
   rw [if_neg hj]
   simp only [List.getElem_map, List.getElem_range]
   by_cases h : j < i
   ·
    rw [if_pos h, if_pos (by omega)]
   ·
    rw [if_neg h, if_neg (by omega)]
theorem Unpack_l0 {b : Nat} (hb : b = 2 ∨ b = 4 ∨ b = 8) (W : List Nat) (hW : ∀ j, W.getD j 0 < 18446744073709551616) (n : Nat) (hn : n ≤ 256) (hlen : W.length = (n * b + 63) / 64) : ∀ (d i : Nat), n - i = d → i ≤ n →
  Ev (fun k => F75.l0 k (up W) (b : Int) (part b W n i) (n : Int) (i : Int)) (lanes b W n, 0) := by
 have hl1000 : W.length ≤ 1000 := by rw [hlen]; rcases hb with rfl | rfl | rfl <;> omega
 have hin : ∀ i, i < n → i < W.length * (64 / b) := by
  intro i hi
  rw [hlen]
  rcases hb with rfl | rfl | rfl <;> omega
 intro d
 induction d with
 | zero =>
  intro i hd hi
  obtain rfl : i = n := by omega
  refine Ev.step (fun k => by rw [F75.l0, if_neg (by omega)]) ?_
  have e : part b W i i = lanes b W i := by
   unfold part lanes
   congr 1
   refine List.map_congr_left fun t ht => ?_
   rw [if_pos (by simpa using ht)]
  rw [e]
  exact Ev.now _
 | succ d ih =>
  intro i hd hi
  have hlt : i < n := by omega
  refine Ev.step (fun k => by rw [F75.l0, if_pos (by omega), Lane_f hb W hW hl1000 i (hin i hlt), wsucc i (by omega)]) ?_
  refine Ev.sb ?_
  refine Ev.pos (by omega) ?_
  refine Ev.pos (by rw [part_length]; omega) ?_
  rw [tnC]
  have hs := part_step b W n i hlt
  unfold lane at hs
  rw [hs]
  exact ih (i + 1) (by omega) (by omega)
theorem Unpack_j0 {b : Nat} (hb : b = 2 ∨ b = 4 ∨ b = 8) (W : List Nat) (hW : ∀ j, W.getD j 0 < 18446744073709551616) (n : Nat) (hn : n ≤ 256) (hlen : W.length = (n * b + 63) / 64) :
  Ev (fun k => F75.j0 k (up W) (n : Int) (b : Int) false) (lanes b W n, 0) := by
 refine Ev.step (fun k => by rw [F75.j0]) ?_
 refine Ev.neg (by decide) ?_
 refine Ev.pos (by omega) ?_
 refine Ev.pos (by omega) ?_
 refine Ev.sb ?_
 have h0 := Unpack_l0 hb W hW n hn hlen n 0 (by omega) (by omega)
 have e : part b W n 0 = List.replicate (n : Int).toNat 0 := by
  unfold part up
  rw [tnC]
  apply List.ext_getElem <;> simp
 rw [e] at h0
 have e2 : ((List.replicate (n : Int).toNat (0 : Int)).length : Int) = (n : Int) := by simp
 rw [e2]
 exact h0
theorem Unpack_f {b : Nat} (hb : b = 2 ∨ b = 4 ∨ b = 8) (W : List Nat) (hW : ∀ j, W.getD j 0 < 18446744073709551616) (n : Nat) (hn : n ≤ 256) (hlen : W.length = (n * b + 63) / 64)
  (hrest : 0 < n * b % 64 → W.getD (W.length - 1) 0 / 2 ^ (n * b % 64) = 0) : Ev (fun k => F75.f k (up W) (n : Int) (b : Int)) (lanes b W n, 0) := by
 have hmb : n * b ≤ 2048 := by rcases hb with rfl | rfl | rfl <;> omega
 unfold F75.f
 simp only [Bits_f, pkmany_f, Words_f, oBs]
 refine Ev.pos (okb_of hb) ?_
 refine Ev.pos (by simp; omega) ?_
 have hw : wordsZ (n : Int) (b : Int) = (((n * b + 63) / 64 : Nat) : Int) := by
  unfold wordsZ
  rw [if_pos ⟨okb_of hb, by omega, by omega⟩]
  simp
 refine Ev.pos (by rw [hw, up_length, hlen]) ?_
 rw [wi n b (by omega), wmod]
 refine Ev.ite (fun hu => ?_) (fun _ => Unpack_j0 hb W hW n hn hlen)
 have hu2 : 0 < n * b % 64 := by omega
 have hpos : 0 < W.length := by rw [hlen]; omega
 have e1 : wrap64 (((up W).length : Int) - 1) = ((W.length - 1 : Nat) : Int) := by
  rw [up_length]
  rw [hlen] at hpos ⊢
  rw [w64 (by omega) (by omega)]
  omega
 rw [e1]
 refine Ev.pos (by omega) ?_
 refine Ev.pos (by rw [up_length]; omega) ?_
 refine Ev.pos (by omega) ?_
 rw [rd_up, shr_u64 _ _ (by omega), hrest hu2]
 exact Unpack_j0 hb W hW n hn hlen
theorem lanes_packed {m : Nat} (hm : m = 2 ∨ m = 4 ∨ m = 8) (l : List Int) (hin : inR m l) : lanes m (packed m l) l.length = l := by
 conv => rhs; rw [← up_nat hin]
 unfold lanes up nat
 congr 1
 apply List.ext_getElem
 ·
  simp
 ·
  intro j h1 h2
  have hj : j < l.length := by simpa using h1
  have h3 := St_lane (W := (l.length * m + 63) / 64) hm (nat l) (nat_lt hin) l.length (Nat.le_refl _) j hj
  simp only [List.getElem_map, List.getElem_range]
  unfold lane packed
  rw [h3, gdE, List.getElem?_eq_getElem (by rw [nat_length]; exact hj)]
  simp [nat]
theorem packed_lt {m : Nat} (hm : m = 2 ∨ m = 4 ∨ m = 8) (l : List Int) (hin : inR m l) (j : Nat) : (packed m l).getD j 0 < 18446744073709551616 := by
 have h := St_bound (W := (l.length * m + 63) / 64) hm (nat l) (nat_lt hin) l.length (Nat.le_refl _) j
 have h2 : 2 ^ (min 64 (l.length * m - 64 * j)) ≤ 2 ^ 64 := Nat.pow_le_pow_right (by decide) (Nat.min_le_left _ _)
 rw [two64] at h2
 exact Nat.lt_of_lt_of_le h h2
theorem packed_rest {m : Nat} (hm : m = 2 ∨ m = 4 ∨ m = 8) (l : List Int) (hin : inR m l) (hu : 0 < l.length * m % 64) : (packed m l).getD ((packed m l).length - 1) 0 / 2 ^ (l.length * m % 64) = 0 := by
 rw [packed_length]
 have h := St_bound (W := (l.length * m + 63) / 64) hm (nat l) (nat_lt hin) l.length (Nat.le_refl _) ((l.length * m + 63) / 64 - 1)
 have e : min 64 (l.length * m - 64 * ((l.length * m + 63) / 64 - 1)) = l.length * m % 64 := by omega
 rw [e] at h
 exact Nat.div_eq_of_lt h
theorem up_app (a b : List Nat) : up (a ++ b) = up a ++ up b := by simp [up]
theorem up_take (a : List Nat) (n : Nat) : (up a).take n = up (a.take n) := by simp [up, List.map_take]
theorem up_drop (a : List Nat) (n : Nat) : (up a).drop n = up (a.drop n) := by simp [up, List.map_drop]
theorem up_one (x : Nat) : up [x] = [(x : Int)] := rfl
theorem up_of (xs : List Int) (h : ∀ x ∈ xs, 0 ≤ x) : xs = up (xs.map Int.toNat) := by
 induction xs with
 | nil => rfl
 | cons x xs ih =>
  have h1 : ∀ y ∈ xs, 0 ≤ y := fun y hy => h y (List.mem_cons_of_mem _ hy)
  have h2 : 0 ≤ x := h x (List.mem_cons_self ..)
  rw [List.map_cons]
  show x :: xs = ((x.toNat : Nat) : Int) :: up (xs.map Int.toNat)
  rw [← ih h1, Int.toNat_of_nonneg h2]
def Bys (l : List Nat) : Prop := ∀ x ∈ l, x < 256
theorem Bys.app {a b : List Nat} (ha : Bys a) (hb : Bys b) : Bys (a ++ b) := by
 intro x hx
 rcases List.mem_append.1 hx with h | h
 ·
  exact ha x h
 ·
  exact hb x h
theorem Bys.take {a : List Nat} (ha : Bys a) (n : Nat) : Bys (a.take n) := fun x hx => ha x (List.mem_of_mem_take hx)
theorem Bys.drop {a : List Nat} (ha : Bys a) (n : Nat) : Bys (a.drop n) := fun x hx => ha x (List.mem_of_mem_drop hx)
theorem Bys.getD {a : List Nat} (ha : Bys a) (n : Nat) : a.getD n 0 < 256 := by
 rw [gdE]
 by_cases h : n < a.length
 ·
  rw [List.getElem?_eq_getElem h]
  exact ha _ (List.getElem_mem h)
 ·
  rw [List.getElem?_eq_none (by omega)]
  decide
theorem wf_bys {xs : List Int} (h : ∀ x ∈ xs, (Lit.int .u8 x).wf = true) : ∃ l, Bys l ∧ xs = up l := by
 have h' : ∀ x ∈ xs, 0 ≤ x ∧ x < 256 := by
  intro x hx
  have := h x hx
  simp [Lit.wf, IntKind.min, IntKind.max, IntKind.bits, IntKind.signed] at this
  omega
 refine ⟨xs.map Int.toNat, ?_, up_of xs (fun x hx => (h' x hx).1)⟩
 intro y hy
 obtain ⟨x, hx, rfl⟩ := List.mem_map.1 hy
 have := h' x hx
 omega
def B (l : List Nat) : ByteArray := strOfNums (up l)
theorem B_size (l : List Nat) : (B l).size = l.length := by rw [B, strOfNums_size, up_length]
theorem B_list (l : List Nat) : (B l).data.toList = l.map UInt8.ofNat := by
 rw [B, strOfNums_data, up, List.map_map]
 rfl
theorem ba_ext {a b : ByteArray} (h : a.data.toList = b.data.toList) : a = b := by
 cases a; cases b
 simp only at h
 congr 1
 exact Array.toList_inj.1 h
theorem B_app (a b : List Nat) : B a ++ B b = B (a ++ b) := by
 apply ba_ext
 rw [ByteArray.data_append, Array.toList_append, B_list, B_list, B_list, List.map_append]
theorem toList_data (a : ByteArray) : a.toList = a.data.toList := by
 exact ByteArray.toList_eq a
theorem map_u8_inj : ∀ {a b : List Nat}, Bys a → Bys b → a.map UInt8.ofNat = b.map UInt8.ofNat → a = b
 | [], [], _, _, _ => rfl
 | [], y :: ys, _, _, h => by simp at h
 | x :: xs, [], _, _, h => by simp at h
 | x :: xs, y :: ys, ha, hb, h => by
  rw [List.map_cons, List.map_cons] at h
  injection h with h1 h2
  have e1 : (UInt8.ofNat x).toNat = (UInt8.ofNat y).toNat := by rw [h1]
  rw [UInt8.toNat_ofNat', UInt8.toNat_ofNat'] at e1
  have hx := ha x (List.mem_cons_self ..)
  have hy := hb y (List.mem_cons_self ..)
  rw [Nat.mod_eq_of_lt (by omega), Nat.mod_eq_of_lt (by omega)] at e1
  rw [e1, map_u8_inj (fun z hz => ha z (List.mem_cons_of_mem _ hz)) (fun z hz => hb z (List.mem_cons_of_mem _ hz)) h2]
theorem B_inj {a b : List Nat} (ha : Bys a) (hb : Bys b) (h : (B a).toList = (B b).toList) : a = b := by
 rw [toList_data, toList_data, B_list, B_list] at h
 exact map_u8_inj ha hb h
theorem bt_B {l : List Nat} (hl : Bys l) (j : Nat) (hj : j < l.length) : bt (B l) (j : Int) = ((l.getD j 0 : Nat) : Int) := by
 unfold bt
 rw [dif_pos (by rw [tnC, B_size]; exact hj)]
 have hx := hl.getD j
 have e : ∀ h, ((B l)[(j : Int).toNat]'h) = UInt8.ofNat (l.getD j 0) := by
  intro h
  have : (B l).data.toList[j]? = some (UInt8.ofNat (l.getD j 0)) := by
   rw [B_list, List.getElem?_map, gdE, List.getElem?_eq_getElem hj]
   rfl
  show (B l).data[(j : Int).toNat] = _
  have h3 : (B l).data[j]? = some (UInt8.ofNat (l.getD j 0)) := by rw [← Array.getElem?_toList]; exact this
  have h4 := (Array.getElem?_eq_some_iff.1 h3).2
  exact h4
 rw [e, UInt8.toNat_ofNat', Nat.mod_eq_of_lt (by omega)]
def sstep (h c : Nat) : Nat := (h ^^^ c) * 16777619 % 4294967296
def sm (h : Nat) (l : List Nat) : Nat := l.foldl sstep h
theorem sstep_lt (h c : Nat) : sstep h c < 4294967296 := Nat.mod_lt _ (by decide)
theorem sm_lt : ∀ (l : List Nat) (h : Nat), h < 4294967296 → sm h l < 4294967296
 | [], h, hh => hh
 | c :: l, h, _ => sm_lt l (sstep h c) (sstep_lt h c)
def be : Nat → Nat → List Nat
 | 0, _ => []
 | n + 1, v => be n (v / 256) ++ [v % 256]
theorem be_length : ∀ n v, (be n v).length = n
 | 0, _ => rfl
 | n + 1, v => by rw [be, lnA, be_length n]; rfl
theorem be_bys : ∀ n v, Bys (be n v)
 | 0, _ => fun x hx => by simp [be] at hx
 | n + 1, v => (be_bys n _).app (fun x hx => by
   rw [List.mem_singleton] at hx
   subst hx
   exact Nat.mod_lt _ (by decide))
theorem be_head : ∀ n v, be (n + 1) v = (v / 256 ^ n % 256) :: be n v
 | 0, v => by simp [be]
 | n + 1, v => by
  rw [be, be_head n (v / 256), be, Nat.div_div_eq_div_mul, Nat.pow_succ, Nat.mul_comm 256]
  rfl
theorem bits_xor (k : IntKind) (j : Nat) (hj : j ≤ k.bits) (hk : ∀ n : Int, 0 ≤ n → n < 2 ^ j → k.wrap n = n) (a b : Nat) (ha : a < 2 ^ j) (hb : b < 2 ^ j) :
  Go.bits .xor k a b = ((a ^^^ b : Nat) : Int) := by
 have hp : 2 ^ j ≤ 2 ^ k.bits := Nat.pow_le_pow_right (by decide) hj
 have ha' : a % 2 ^ k.bits = a := Nat.mod_eq_of_lt (Nat.lt_of_lt_of_le ha hp)
 have hb' : b % 2 ^ k.bits = b := Nat.mod_eq_of_lt (Nat.lt_of_lt_of_le hb hp)
 simp only [Go.bits, BitVec.ofInt_natCast, BitVec.toNat_xor, BitVec.toNat_ofNat, ha', hb']
 refine hk _ (Int.natCast_nonneg _) ?_
 have := Nat.xor_lt_two_pow ha hb
 exact_mod_cast this
theorem xor32 (a b : Nat) (ha : a < 4294967296) (hb : b < 4294967296) : Go.bits .xor .u32 a b = ((a ^^^ b : Nat) : Int) :=
 bits_xor .u32 32 (by decide) (fun n h0 h1 => by rw [IntKind.wrap_u32]; exact Int.emod_eq_of_lt h0 (by simpa using h1)) a b (by simpa using ha) (by simpa using hb)
theorem xor64 (a b : Nat) (ha : a < 18446744073709551616) (hb : b < 18446744073709551616) : Go.bits .xor .u64 a b = ((a ^^^ b : Nat) : Int) :=
 bits_xor .u64 64 (by decide) (fun n h0 h1 => wu64 h0 (by simpa using h1)) a b (by simpa using ha) (by simpa using hb)
theorem xor_lt32 {a b : Nat} (ha : a < 4294967296) (hb : b < 256) : a ^^^ b < 4294967296 :=
 Nat.xor_lt_two_pow (n := 32) (by simpa using ha) (by simp; omega)
theorem drop_getD (l : List Nat) (i : Nat) (h : i < l.length) : l.drop i = l.getD i 0 :: l.drop (i + 1) := by
 rw [List.drop_eq_getElem_cons h, gdE, List.getElem?_eq_getElem h]
 rfl
theorem sstep_z (h c : Nat) (hh : h < 4294967296) (hc : c < 256) : ((Go.bits .xor .u32 (h : Int) ((c : Int) % 4294967296)) * 16777619) % 4294967296 = ((sstep h c : Nat) : Int) := by
 rw [show ((c : Nat) : Int) % 4294967296 = (c : Int) by omega, xor32 h c hh (by omega)]
 unfold sstep
 omega
theorem Sum_l (l : List Nat) (hl : Bys l) (hn : l.length < 1000000) : ∀ (d i h : Nat), l.length - i = d → i ≤ l.length → h < 4294967296 →
  Ev (fun k => F70.l0 k (h : Int) (up l) (l.length : Int) (i : Int)) ((sm h (l.drop i) : Nat) : Int) := by
 intro d
 induction d with
 | zero =>
  intro i h hd hi hh
  obtain rfl : i = l.length := by omega
  refine Ev.step (fun k => by rw [F70.l0, if_neg (by omega)]) ?_
  rw [List.drop_length]
  exact Ev.now _
 | succ d ih =>
  intro i h hd hi hh
  refine Ev.step (fun k => by rw [F70.l0, if_pos (by omega), if_pos (by omega), if_pos (by rw [up_length]; omega), rd_up, sstep_z h _ hh (hl.getD i), wsucc _ (by omega)]) ?_
  rw [drop_getD l i (by omega)]
  exact ih (i + 1) _ (by omega) (by omega) (sstep_lt _ _)
theorem Sum_f (l : List Nat) (hl : Bys l) (hn : l.length < 1000000) : Ev (fun k => F70.f k (up l)) ((sm 2166136261 l : Nat) : Int) := by
 unfold F70.f
 rw [up_length]
 exact Sum_l l hl hn l.length 0 2166136261 (by omega) (by omega) (by decide)
theorem two8 (i : Nat) : 2 ^ (8 * i) = 256 ^ i := by rw [Nat.pow_mul]
theorem Put_l (v : Nat) : ∀ (n : Nat) (l : List Nat), n ≤ 8 → l.length + n < 1000000 →
  Ev (fun k => F35.l0 k (v : Int) (up l) ((n : Int) - 1)) (up (l ++ be n v)) := by
 intro n
 induction n with
 | zero =>
  intro l hn hl
  refine Ev.step (fun k => by rw [F35.l0, if_neg (by omega)]) ?_
  rw [be, List.append_nil]
  exact Ev.now _
 | succ n ih =>
  intro l hn hl
  have e1 : (((n + 1 : Nat) : Int) - 1) = (n : Int) := by omega
  have e2 : wrap64 (8 * (n : Int)) = ((8 * n : Nat) : Int) := by
   rw [w64 (by omega) (by omega)]
   omega
  have e3 : wrap64 ((n : Int) - 1) = (n : Int) - 1 := w64 (by omega) (by omega)
  have e4 : shr .u64 (v : Int) ((8 * n : Nat) : Int) % 256 = ((v / 256 ^ n % 256 : Nat) : Int) := by
   rw [shr_u64 _ _ (by omega), two8]
   omega
  refine Ev.step (fun k => by rw [F35.l0, e1, if_pos (by omega), e2, if_pos (by omega), if_pos (by rw [up_length]; omega), e3, e4, ← up_one, ← up_app]) ?_
  have h := ih (l ++ [v / 256 ^ n % 256]) (by omega) (by
   rw [lnA, List.length_singleton]
   omega)
  rw [be_head]
  rwa [List.append_assoc] at h
theorem Clone_f (l : List Nat) (hl : l.length < 1000000) : F68.f (up l) = some (up l) := by
 unfold F68.f
 rw [if_pos (by rw [up_length]; omega)]
theorem bClone_f (l : List Nat) (hl : l.length < 1000000) : F72.f (up l) = some (up l) := by
 unfold F72.f
 rw [if_pos (by rw [up_length]; omega)]
def wide (n : Int) : Nat := min n.toNat 8
theorem wide_f (n : Int) : F69.f n = some ((wide n : Nat) : Int) := by
 unfold F69.f wide mn mx
 congr 1
 repeat' split
 all_goals omega
def cl (l : List Nat) : List Nat := l ++ be 4 (sm 2166136261 l)
theorem Put_f (l : List Nat) (v : Nat) (n : Int) (hl : l.length < 900000) : Ev (fun k => F35.f k (up l) (v : Int) n) (up (l ++ be (wide n) v)) := by
 have hw : wide n ≤ 8 := Nat.min_le_right _ _
 unfold F35.f
 simp only [Clone_f l (by omega), wide_f, oBs]
 rw [w64 (by omega) (by omega)]
 exact Put_l v _ l hw (by omega)
theorem Close_f (l : List Nat) (hl : Bys l) (hn : l.length < 900000) : Ev (fun k => F36.f k (up l)) (up (cl l)) := by
 unfold F36.f
 refine Ev.bind (Sum_f l hl (by omega)) ?_
 have hs := sm_lt l 2166136261 (by decide)
 rw [wun _ (by omega)]
 exact Ev.bind (Put_f l _ 4 hn) (Ev.now _)
theorem cl_bys {l : List Nat} (h : Bys l) : Bys (cl l) := h.app (be_bys _ _)
theorem Open_short (l : List Nat) (h : l.length < 4) : Ev (fun k => F37.f k (up l)) ([], 16) := by
 unfold F37.f
 rw [up_length, w64 (by omega) (by omega)]
 exact Ev.pos (by omega) (Ev.now _)
theorem Open_long (l : List Nat) (hl : Bys l) (h : 4 ≤ l.length) (hn : l.length < 900000) :
  Ev (fun k => F37.f k (up l)) (if l = cl (l.take (l.length - 4)) then (up (l.take (l.length - 4)), 0) else ([], 22)) := by
 unfold F37.f
 rw [up_length, w64 (by omega) (by omega)]
 have e : ((l.length : Int) - 4).toNat = l.length - 4 := by omega
 refine Ev.neg (by omega) (Ev.pos (by omega) (Ev.pos (by omega) ?_))
 rw [e, up_take]
 have hb := hl.take (l.length - 4)
 have hlen : (l.take (l.length - 4)).length < 900000 := by rw [List.length_take]; omega
 refine Ev.bind (Close_f _ hb hlen) ?_
 unfold F71.f
 refine Ev.sb ?_
 refine Ev.ite (fun hq => ?_) (fun hq => ?_)
 ·
  have hq' : l = cl (l.take (l.length - 4)) := B_inj hl (cl_bys hb) (by rw [beq_iff_eq] at hq; exact hq)
  rw [if_pos hq', bClone_f _ (by omega)]
  exact Ev.sb (Ev.now _)
 ·
  rw [if_neg (fun hc => hq (by
   rw [beq_iff_eq]
   exact congrArg (fun z => (strOfNums (up z)).toList) hc))]
  exact Ev.now _
def nstep (v c : Nat) : Nat := v * 256 + c
def nm (v : Nat) (l : List Nat) : Nat := l.foldl nstep v
theorem nm_lt : ∀ (l : List Nat) (v j : Nat), Bys l → v < 256 ^ j → nm v l < 256 ^ (j + l.length)
 | [], v, j, _, h => h
 | c :: l, v, j, hl, h => by
  have hc := hl c (List.mem_cons_self ..)
  have h1 : nstep v c < 256 ^ (j + 1) := by
   unfold nstep
   rw [Nat.pow_succ]
   omega
  have := nm_lt l (nstep v c) (j + 1) (fun x hx => hl x (List.mem_cons_of_mem _ hx)) h1
  rw [List.length_cons, show j + (l.length + 1) = j + 1 + l.length by omega]
  exact this
theorem nm_app (a b : List Nat) (v : Nat) : nm v (a ++ b) = nm (nm v a) b := by unfold nm; rw [List.foldl_append]
theorem nm_be : ∀ n v, nm 0 (be n v) = v % 256 ^ n
 | 0, v => by rw [Nat.pow_zero, Nat.mod_one]; rfl
 | n + 1, v => by
  rw [be, nm_app, nm_be n]
  show nstep _ _ = _
  unfold nstep
  rw [Nat.pow_succ, Nat.mul_comm (256 ^ n), Nat.mod_mul]
  omega
theorem p8 : (256 : Nat) ^ 8 = 18446744073709551616 := by decide
theorem pow_le8 {j : Nat} (h : j ≤ 8) : 256 ^ j ≤ 18446744073709551616 := by
 rw [← p8]
 exact Nat.pow_le_pow_right (by decide) h
theorem pow_le7 {j : Nat} (h : j ≤ 7) : 256 ^ j ≤ 72057594037927936 := by
 have : (256 : Nat) ^ 7 = 72057594037927936 := by decide
 rw [← this]
 exact Nat.pow_le_pow_right (by decide) h
theorem or_byte {v c : Nat} (hv : v < 72057594037927936) (hc : c < 256) : Go.bits .or .u64 (IntKind.u64.wrap ((v : Int) * 256)) (IntKind.u64.wrap (c : Int)) = ((nstep v c : Nat) : Int) := by
 rw [wu64 (x := (v : Int) * 256) (by omega) (by omega), wun c (by omega), show (v : Int) * 256 = ((v * 256 : Nat) : Int) by omega]
 have hb := (bits_nat .u64 64 (by decide) (fun n h0 h1 => wu64 h0 (by simpa using h1)) (v * 256) c (by simp; omega) (by simp; omega)).2
 rw [hb]
 unfold nstep
 have := Nat.two_pow_add_eq_or_of_lt (i := 8) (by simpa using hc) v
 rw [show 2 ^ 8 * v = v * 256 by omega] at this
 rw [this]
theorem Num_l (l : List Nat) (hl : Bys l) (hn : l.length ≤ 8) (s : List Int) (b : Bool) : ∀ (d i v : Nat), l.length - i = d → i ≤ l.length → v < 256 ^ i →
  Ev (fun k => F39.l0 k (v : Int) (up l) (l.length : Int) (i : Int) s b) (((nm v (l.drop i) : Nat) : Int), s, b) := by
 intro d
 induction d with
 | zero =>
  intro i v hd hi hv
  obtain rfl : i = l.length := by omega
  refine Ev.step (fun k => by rw [F39.l0, if_neg (by omega)]) ?_
  rw [List.drop_length]
  exact Ev.now _
 | succ d ih =>
  intro i v hd hi hv
  have h7 := pow_le7 (j := i) (by omega)
  have hc := hl.getD i
  refine Ev.step (fun k => by rw [F39.l0, if_pos (by omega), if_pos (by omega), if_pos (by rw [up_length]; omega), rd_up, or_byte (Nat.lt_of_lt_of_le hv h7) hc, wsucc _ (by omega)]) ?_
  rw [drop_getD l i (by omega)]
  refine ih (i + 1) _ (by omega) (by omega) ?_
  unfold nstep
  rw [Nat.pow_succ]
  clear ih h7
  omega
theorem Take_f (l : List Nat) (b : Bool) (n : Nat) (hn : l.length < 1000000) :
  F73.f (up l) b (n : Int) = if l.length < n then some (up [], up [], true) else some (up (l.take n), up (l.drop n), b) := by
 unfold F73.f
 rw [up_length]
 by_cases h : l.length < n
 ·
  rw [if_pos h, if_pos (by omega)]
  rfl
 ·
  rw [if_neg h, if_neg (by omega), tnC, up_take, up_drop, bClone_f _ (by rw [List.length_take]; omega), oBs]
theorem Num_f (l : List Nat) (hl : Bys l) (b : Bool) (n : Int) (hn : l.length < 1000000) :
  Ev (fun k => F39.f k (up l) b n) (if l.length < wide n then (((0 : Nat) : Int), up [], true) else (((nm 0 (l.take (wide n)) : Nat) : Int), up (l.drop (wide n)), b)) := by
 unfold F39.f
 simp only [wide_f, oBs, Take_f l b (wide n) hn]
 have hw : wide n ≤ 8 := Nat.min_le_right _ _
 by_cases h : l.length < wide n
 ·
  rw [if_pos h, if_pos h]
  exact Ev.sb (Num_l [] (fun x hx => by simp at hx) (by decide) _ _ 0 0 0 rfl (by decide) (by decide))
 ·
  rw [if_neg h, if_neg h]
  have hlen : (l.take (wide n)).length ≤ 8 := by rw [List.length_take]; omega
  refine Ev.sb ?_
  show Ev (fun k => F39.l0 k 0 (up (l.take (wide n))) ((up (l.take (wide n))).length : Int) 0 (up (l.drop (wide n))) b) _
  rw [up_length]
  exact Num_l (l.take (wide n)) (hl.take _) hlen (up (l.drop (wide n))) b _ 0 0 rfl (Nat.zero_le _) (by decide)
theorem NewReader_f (l : List Nat) (hn : l.length < 1000000) : F38.f (up l) = some (up l, false) := by
 unfold F38.f
 rw [bClone_f l hn]
 rfl
def rst (l : List Nat) (b : Bool) (n : Nat) : List Nat × Bool := if l.length < n then ([], true) else (l.drop n, b)
def rv (l : List Nat) (n : Nat) : Nat := if l.length < n then 0 else nm 0 (l.take n)
theorem rst_bys {l : List Nat} (hl : Bys l) (b : Bool) (n : Nat) : Bys (rst l b n).1 := by
 unfold rst
 split
 ·
  exact fun x hx => by simp at hx
 ·
  exact hl.drop n
theorem rst_len (l : List Nat) (b : Bool) (n : Nat) : (rst l b n).1.length ≤ l.length := by
 unfold rst
 split
 ·
  simp
 ·
  simp
theorem N_f (l : List Nat) (hl : Bys l) (b : Bool) (n : Int) (hn : l.length < 1000000) :
  Ev (fun k => F39.f k (up l) b n) (((rv l (wide n) : Nat) : Int), up (rst l b (wide n)).1, (rst l b (wide n)).2) := by
 have h := Num_f l hl b n hn
 unfold rv rst
 by_cases c : l.length < wide n
 ·
  rw [if_pos c] at h
  rw [if_pos c, if_pos c]
  exact h
 ·
  rw [if_neg c] at h
  rw [if_neg c, if_neg c]
  exact h
theorem Sg_f (l : List Nat) (hl : Bys l) (b : Bool) (hn : l.length < 1000000) :
  Ev (fun k => F74.f k (up l) b) (wrap32 (((rv l 4 : Nat) : Int) % 4294967296), up (rst l b 4).1, (rst l b 4).2) := by
 unfold F74.f
 exact Ev.bind (N_f l hl b 4 hn) (Ev.now _)
theorem N_app (p r : List Nat) (hp : Bys p) (hr : Bys r) (b : Bool) (n : Int) (h : p.length = wide n) (hn : (p ++ r).length < 1000000) :
  Ev (fun k => F39.f k (up (p ++ r)) b n) (((nm 0 p : Nat) : Int), up r, b) := by
 have h1 := Num_f (p ++ r) (hp.app hr) b n hn
 rw [if_neg (by rw [lnA]; omega), ← h, List.take_left, List.drop_left] at h1
 exact h1
theorem Bys.set {l : List Nat} (hl : Bys l) (i c : Nat) (hc : c < 256) : Bys (l.set i c) := by
 intro x hx
 rcases List.mem_or_eq_of_mem_set hx with h | h
 ·
  exact hl x h
 ·
  omega
def hok (kb vb T D L H I : Int) : Bool := okb kb && okb vb && decide (1 ≤ T ∧ T ≤ 16) && decide (1 ≤ D ∧ D ≤ 16) && decide (0 ≤ L ∧ L ≤ 3) && decide (0 ≤ H ∧ H ≤ 3) && decide (0 ≤ I ∧ I ≤ 1023)
theorem within_f (a b c : Int) : F49.f a b c = some (decide (b ≤ a ∧ a ≤ c)) := by
 unfold F49.f
 by_cases h : a ≥ b
 ·
  rw [if_pos h]
  congr 1
  by_cases h2 : a ≤ c <;> simp [h2] <;> omega
 ·
  rw [if_neg h, decide_eq_false (by omega)]
theorem pRight_f (kb vb T D L H I : Int) : F23.f kb vb T D L H I = some (hok kb vb T D L H I) := by
 unfold F23.f hok
 simp only [Bits_f, within_f, oBs]
 cases okb kb <;> cases okb vb <;> simp
 by_cases h1 : 1 ≤ T ∧ T ≤ 16 <;> by_cases h2 : 1 ≤ D ∧ D ≤ 16 <;> by_cases h3 : 0 ≤ L ∧ L ≤ 3 <;> by_cases h4 : 0 ≤ H ∧ H ≤ 3 <;> simp [h1, h2, h3, h4]
theorem qBits_f (b : Int) : F31.f b = some (okb b) := by
 unfold F31.f okb
 by_cases h2 : b = 2
 ·
  simp [h2]
 ·
  by_cases h4 : b = 4
  ·
   simp [h4]
  ·
   simp [h2, h4]
theorem qRight_f (kb vb T D L H I : Int) : F9.f kb vb T D L H I = some (hok kb vb T D L H I) := by
 unfold F9.f hok
 simp only [qBits_f, oBs]
 cases okb kb <;> cases okb vb <;> simp only [Bool.false_and, Bool.true_and, Bool.and_true, Bool.and_false, if_true, Bool.false_eq_true, if_false]
 repeat' split
 all_goals
  congr 1
  first
   | (rw [Bool.eq_iff_iff]; simp only [Bool.and_eq_true, decide_eq_true_eq]; omega)
   | (symm; rw [Bool.eq_false_iff]; intro h; simp only [Bool.and_eq_true, decide_eq_true_eq] at h; omega)
theorem hok_parts {kb vb T D L H I : Int} (h : hok kb vb T D L H I = true) : ∃ m n t d : Nat, kb = (m : Int) ∧ vb = (n : Int) ∧ T = (t : Int) ∧ D = (d : Int) ∧ (m = 2 ∨ m = 4 ∨ m = 8) ∧ (n = 2 ∨ n = 4 ∨ n = 8) ∧ 1 ≤ t ∧ t ≤ 16 ∧ 1 ≤ d ∧ d ≤ 16 ∧ 0 ≤ L ∧ L ≤ 3 ∧ 0 ≤ H ∧ H ≤ 3 ∧ 0 ≤ I ∧ I ≤ 1023 := by
 unfold hok at h
 simp only [Bool.and_eq_true, decide_eq_true_eq] at h
 obtain ⟨⟨⟨⟨⟨⟨h1, h2⟩, h3⟩, h4⟩, h5⟩, h6⟩, h7⟩ := h
 obtain ⟨m, rfl, hm⟩ := okb_nat h1
 obtain ⟨n, rfl, hn⟩ := okb_nat h2
 exact ⟨m, n, T.toNat, D.toNat, rfl, rfl, by omega, by omega, hm, hn, by omega, by omega, by omega, by omega, h5.1, h5.2, h6.1, h6.2, h7.1, h7.2⟩
theorem getD_map {α β : Type} (f : α → β) (l : List α) (z : α) (y : β) (i : Nat) (h : i < l.length) : (l.map f).getD i y = f (l.getD i z) := by
 rw [gdE, gdE, List.getElem?_map, List.getElem?_eq_getElem h]
 rfl
theorem getD_mem {α : Type} (l : List α) (z : α) (i : Nat) (h : i < l.length) : l.getD i z ∈ l := by
 rw [gdE, List.getElem?_eq_getElem h]
 exact List.getElem_mem h
theorem take_getD {α : Type} (l : List α) (z : α) (i : Nat) (h : i < l.length) : l.take (i + 1) = l.take i ++ [l.getD i z] := by
 rw [List.take_succ_eq_append_getElem h, gdE, List.getElem?_eq_getElem h]
 rfl
theorem rd75_one (p : S75) : rd_T75 [p] 0 = p := rfl
def zn (z : Int) : Nat := (z % 4294967296).toNat
def wby (W : List Nat) : List Nat := W.flatMap (be 8)
theorem wby_length (W : List Nat) : (wby W).length = 8 * W.length := by
 induction W with
 | nil => rfl
 | cons x W ih =>
  have : (wby (x :: W)).length = (be 8 x).length + (wby W).length := by simp [wby]
  rw [this, be_length, ih, List.length_cons]
  omega
theorem wby_bys (W : List Nat) : Bys (wby W) := by
 intro x hx
 unfold wby at hx
 obtain ⟨w, _, h⟩ := List.mem_flatMap.1 hx
 exact be_bys 8 w x h
def hby (kb vb t d : Nat) (L H I : Int) : List Nat := [75, kb, vb, t, d, L.toNat, H.toNat] ++ be 2 I.toNat
theorem hby_length (kb vb t d : Nat) (L H I : Int) : (hby kb vb t d L H I).length = 9 := by simp [hby, be_length]
theorem Put8 (l : List Nat) (v : Nat) (hl : l.length < 900000) : Ev (fun k => F35.f k (up l) (v : Int) 8) (up (l ++ be 8 v)) := Put_f l v 8 hl
theorem Put4 (l : List Nat) (v : Nat) (hl : l.length < 900000) : Ev (fun k => F35.f k (up l) (v : Int) 4) (up (l ++ be 4 v)) := Put_f l v 4 hl
theorem Put2 (l : List Nat) (v : Nat) (hl : l.length < 900000) : Ev (fun k => F35.f k (up l) (v : Int) 2) (up (l ++ be 2 v)) := Put_f l v 2 hl
theorem By_l3 (W pre : List Nat) (hp : pre.length + 8 * W.length ≤ 800000) (x54 : Int) (x57 : List S82) (x58 x59 : Int) (A B : List S82) {r : List Int} (hr : Ev (fun k => F14.l2 k (up (pre ++ wby W)) x54 x57 x58 (wrap64 (x59 + 1)) A B) r) : ∀ (e i : Nat), W.length - i = e → i ≤ W.length →
  Ev (fun k => F14.l3 k (up (pre ++ wby (W.take i))) x54 x57 x58 x59 (up W) ((up W).length : Int) (i : Int) A B) r := by
 intro e
 induction e with
 | zero =>
  intro i he hi
  obtain rfl : i = W.length := by omega
  rw [List.take_length]
  exact Ev.step (fun k => by rw [F14.l3, if_neg (by rw [up_length]; omega)]) hr
 | succ e ih =>
  intro i he hi
  have h3 := ih (i + 1) (by omega) (by omega)
  have e1 : wby (W.take (i + 1)) = wby (W.take i) ++ be 8 (W.getD i 0) := by
   rw [take_getD W 0 i (by omega)]
   simp [wby]
  rw [e1, ← List.append_assoc] at h3
  refine Ev.step (fun k => by rw [F14.l3, if_pos (by rw [up_length]; omega), if_pos (by omega), if_pos (by rw [up_length]; omega), rd_up, wsucc i (by omega)]) ?_
  exact Ev.bind (Put8 _ _ (by rw [lnA, wby_length, List.length_take]; omega)) h3
theorem md (v : Nat) (h : v < 256) : (v : Int) % 256 = (v : Int) := by omega
theorem N_be (n v : Nat) (z : Int) (hz : wide z = n) (r : List Nat) (hr : Bys r) (b : Bool) (hn : r.length < 900000) (h8 : n ≤ 8) : Ev (fun k => F39.f k (up (be n v ++ r)) b z) (((v % 256 ^ n : Nat) : Int), up r, b) := by
 have h := N_app (be n v) r (be_bys n v) hr b z (by rw [be_length, hz]) (by rw [lnA, be_length]; omega)
 rw [nm_be] at h
 exact h
theorem N_one (x : Nat) (hx : x < 256) (r : List Nat) (hr : Bys r) (b : Bool) (hn : r.length < 900000) : Ev (fun k => F39.f k (up (x :: r)) b 1) ((x : Int), up r, b) := by
 have h := N_be 1 x 1 rfl r hr b hn (by omega)
 have e : be 1 x = [x] := by
  show [x % 256] = [x]
  rw [Nat.mod_eq_of_lt hx]
 rw [e, Nat.pow_one, Nat.mod_eq_of_lt hx] at h
 exact h
theorem go_step (n x : Nat) (hx : x < 256) (acc : List Int) (r : List Nat) (hr : Bys r) (b : Bool) (hn : r.length < 900000) {R : List Int × List Int × Bool} (h : Ev (fun k => F40.go k n (acc ++ [(x : Int)]) (up r) b) R) : Ev (fun k => F40.go k (n + 1) acc (up (x :: r)) b) R := by
 simp only [F40.go]
 refine Ev.bind (N_one x hx r hr b hn) ?_
 rw [w64 (x := (x : Int)) (by omega) (by omega)]
 exact h
theorem head_f (a1 a2 a3 a4 a5 a6 I : Nat) (h1 : a1 < 256) (h2 : a2 < 256) (h3 : a3 < 256) (h4 : a4 < 256) (h5 : a5 < 256) (h6 : a6 < 256) (hI : I < 65536) (r : List Nat) (hr : Bys r) (b : Bool) (hn : r.length < 800000) :
  Ev (fun k => F40.f k (up (a1 :: a2 :: a3 :: a4 :: a5 :: a6 :: (be 2 I ++ r))) b) ((a1 : Int), (a2 : Int), (a3 : Int), (a4 : Int), (a5 : Int), (a6 : Int), (I : Int), up r, b) := by
 have hb2 : Bys (be 2 I ++ r) := (be_bys 2 I).app hr
 have hl2 : (be 2 I ++ r).length < 800002 := by rw [lnA, be_length]; omega
 have cons : ∀ {x : Nat} {l : List Nat}, x < 256 → Bys l → Bys (x :: l) := fun hx hl y hy => by
  rcases List.mem_cons.1 hy with rfl | hy
  ·
   exact hx
  ·
   exact hl y hy
 unfold F40.f
 have hg : Ev (fun k => F40.go k 6 [] (up (a1 :: a2 :: a3 :: a4 :: a5 :: a6 :: (be 2 I ++ r))) b) ([(a1 : Int), a2, a3, a4, a5, a6], up (be 2 I ++ r), b) := by
  refine go_step 5 a1 h1 [] _ (cons h2 (cons h3 (cons h4 (cons h5 (cons h6 hb2))))) b (by simp only [List.length_cons]; omega) ?_
  refine go_step 4 a2 h2 _ _ (cons h3 (cons h4 (cons h5 (cons h6 hb2)))) b (by simp only [List.length_cons]; omega) ?_
  refine go_step 3 a3 h3 _ _ (cons h4 (cons h5 (cons h6 hb2))) b (by simp only [List.length_cons]; omega) ?_
  refine go_step 2 a4 h4 _ _ (cons h5 (cons h6 hb2)) b (by simp only [List.length_cons]; omega) ?_
  refine go_step 1 a5 h5 _ _ (cons h6 hb2) b (by simp only [List.length_cons]; omega) ?_
  refine go_step 0 a6 h6 _ _ hb2 b (by omega) ?_
  simp only [F40.go]
  exact Ev.now _
 refine Ev.bind hg (Ev.bind (N_be 2 I 2 rfl r hr b (by omega) (by omega)) ?_)
 have e : (256 : Nat) ^ 2 = 65536 := by decide
 rw [e, Nat.mod_eq_of_lt hI, w64 (x := (I : Int)) (by omega) (by omega)]
 exact Ev.now _
theorem words_n {m n : Nat} (hm : m = 2 ∨ m = 4 ∨ m = 8) (h2 : n ≤ 16) : F57.f (n : Int) (m : Int) = some (((n * m + 63) / 64 : Nat) : Int) := by
 rw [Words_f]
 unfold wordsZ
 rw [if_pos ⟨okb_of hm, by omega, by omega⟩]
 simp
def siz (kb vb t d : Nat) : Nat := 9 + d * (8 + 8 * ((t * kb + 63) / 64)) + t * (8 + 8 * ((d * vb + 63) / 64)) + 4
theorem set_midA {α : Type} (A B : List α) (x y : α) {i : Nat} (h : A.length = i) : (A ++ x :: B).set i y = A ++ y :: B := by
 subst h
 rw [List.set_append, if_neg (Nat.lt_irrefl _), Nat.sub_self]
 rfl
theorem rdL1_mid (A B : List (List Int)) (x : List Int) {i : Nat} (h : A.length = i) : rd_L13 (A ++ x :: B) (i : Int) = x := by
 subst h
 unfold rd_L13
 rw [tnC, gdE, List.getElem?_append_right (Nat.le_refl _), Nat.sub_self]
 rfl
theorem range_succ_map {α : Type} (f : Nat → α) (j : Nat) : (List.range (j + 1)).map f = (List.range j).map f ++ [f j] := by
 rw [List.range_succ, List.map_append]
 rfl
/-- A right group of n codes of m bits. -/
structure RG (m n : Nat) (g : S47) : Prop where
 z0 : -2147483648 ≤ g.f0
 z1 : g.f0 < 2147483648
 s0 : 0 ≤ g.f1
 s1 : g.f1 < 4294967296
 n : g.f2.length = n
 r : rgt g.f1 g.f2 m = 0
def Gs (G : List S47) (m n : Nat) : Prop := ∀ g ∈ G, RG m n g
def pk (m : Nat) (g : S47) : S82 := ⟨⟨g.f0, g.f1, []⟩, up (packed m g.f2)⟩
theorem rgt_inR {m : Nat} (hm : m = 2 ∨ m = 4 ∨ m = 8) {s : Int} {l : List Int} (h1 : 1 ≤ l.length) (h2 : l.length ≤ 40) (hr : rgt s l m = 0) : inR m l ∧ s ≤ 1431655765 := by
 have h0 : many (l.length : Int) m = 0 := by
  unfold many
  rw [if_pos (okb_of hm), if_neg (by omega), if_neg (by omega)]
 unfold rgt at hr
 rw [h0, if_pos rfl] at hr
 by_cases c1 : s > 1431655765
 ·
  rw [if_pos c1] at hr
  omega
 ·
  rw [if_neg c1] at hr
  by_cases c2 : s = 0 ∧ l.any (· != 0) = true
  ·
   rw [if_pos c2] at hr
   omega
  ·
   rw [if_neg c2] at hr
   by_cases c3 : l.any (oor m) = true
   ·
    rw [if_pos c3] at hr
    omega
   ·
    refine ⟨?_, by omega⟩
    intro x hx
    have h4 : oor m x = false := by
     rw [Bool.eq_false_iff]
     intro h5
     exact c3 (List.any_eq_true.2 ⟨x, hx, h5⟩)
    unfold oor stp at h4
    simp only [Bool.or_eq_false_iff, decide_eq_false_iff_not] at h4
    clear hr c1 c2 c3 h0
    rcases hm with rfl | rfl | rfl
    ·
     have : (2 : Int) ^ 2 = 4 := rfl
     simp at h4
     omega
    ·
     have : (2 : Int) ^ 4 = 16 := rfl
     simp at h4
     omega
    ·
     have : (2 : Int) ^ 8 = 256 := rfl
     simp at h4
     omega
theorem RG.inR {m n : Nat} {g : S47} (h : RG m n g) (hm : m = 2 ∨ m = 4 ∨ m = 8) (h1 : 1 ≤ n) (h2 : n ≤ 16) : inR m g.f2 := (rgt_inR hm (by rw [h.n]; exact h1) (by rw [h.n]; omega) h.r).1
theorem Pack_ok {m : Nat} (hm : m = 2 ∨ m = 4 ∨ m = 8) (l : List Int) (hin : inR m l) (h2 : l.length ≤ 256) : Ev (fun k => F79.f k l m) (up (packed m l), 0) := by
 have e1 : packZ (m : Int) l = (up (packed m l), 0) := by
  unfold packZ
  rw [if_pos (okb_of hm), if_pos (by omega), if_neg (by rw [tnC, any_inR.2 hin]; decide)]
  rfl
 exact Ev.eq (Pack_f l m) e1
theorem packAll_l {m : Nat} (hm : m = 2 ∨ m = 4 ∨ m = 8) (G : List S47) (n : Nat) (hG : Gs G m n) (h1 : 1 ≤ n) (h2 : n ≤ 16) (hl : G.length ≤ 16) : ∀ (d i : Nat), G.length - i = d → i ≤ G.length →
  Ev (fun k => F47.l0 k m ((G.take i).map (pk m)) G (G.length : Int) (i : Int)) (G.map (pk m), 0) := by
 intro d
 induction d with
 | zero =>
  intro i hd hi
  obtain rfl : i = G.length := by omega
  rw [List.take_length]
  exact Ev.step (fun k => by rw [F47.l0, if_neg (by omega)]) (Ev.now _)
 | succ d ih =>
  intro i hd hi
  have h3 := ih (i + 1) (by omega) (by omega)
  have e : rd_T47 G (i : Int) = G.getD i z47 := by
   unfold rd_T47
   rw [tnC]
  have h4 := hG _ (getD_mem G z47 i (by omega))
  have h5 := h4.n
  refine Ev.step (fun k => by rw [F47.l0, if_pos (by omega), if_pos (by omega), if_pos (by omega), e]) ?_
  rw [take_getD G z47 i (by omega), List.map_append] at h3
  generalize G.getD i z47 = g at h3 h4 h5 ⊢
  refine Ev.bind (Ev.eq (gRight_f g.f0 g.f1 g.f2 m) h4.r) ?_
  refine Ev.pos rfl (Ev.bind (Pack_ok hm g.f2 (h4.inR hm h1 h2) (by omega)) (Ev.pos rfl (Ev.pos (by rw [lnM, List.length_take]; omega) ?_)))
  rw [wsucc i (by omega)]
  exact h3
theorem packAll_f {m : Nat} (hm : m = 2 ∨ m = 4 ∨ m = 8) (G : List S47) (n : Nat) (hG : Gs G m n) (h1 : 1 ≤ n) (h2 : n ≤ 16) (hl : G.length ≤ 16) : Ev (fun k => F47.f k G m) (G.map (pk m), 0) := packAll_l hm G n hG h1 h2 hl G.length 0 (by omega) (by omega)
theorem codesf_l (G : List S47) (m n : Nat) (hG : Gs G m n) (x : Int) (hl : G.length ≤ 16) : ∀ (d i : Nat), G.length - i = d → i ≤ G.length →
  Ev (fun k => F46.l0 k G x (n : Int) G (G.length : Int) (i : Int)) ((G.length : Int) == x) := by
 intro d
 induction d with
 | zero =>
  intro i hd hi
  obtain rfl : i = G.length := by omega
  exact Ev.step (fun k => by rw [F46.l0, if_neg (by omega)]) (Ev.now _)
 | succ d ih =>
  intro i hd hi
  have h3 := ih (i + 1) (by omega) (by omega)
  have e : rd_T47 G (i : Int) = G.getD i z47 := by
   unfold rd_T47
   rw [tnC]
  have h4 := hG _ (getD_mem G z47 i (by omega))
  have h5 := h4.n
  refine Ev.step (fun k => by rw [F46.l0, if_pos (by omega), if_pos (by omega), if_pos (by omega), e]) ?_
  refine Ev.pos (by show (((G.getD i z47).f2).length : Int) = (n : Int); rw [h5]) ?_
  rw [wsucc i (by omega)]
  exact h3
theorem codesf_f (G : List S47) (m n : Nat) (hG : Gs G m n) (x : Int) (hl : G.length ≤ 16) : Ev (fun k => F46.f k G x (n : Int)) ((G.length : Int) == x) := codesf_l G m n hG x hl G.length 0 (by omega) (by omega)
def pgv (kb vb t d : Nat) (L H I : Int) (K V : List S47) : S75 := ⟨⟨kb, vb, t, d, L, H, I⟩, K.map (pk kb), V.map (pk vb)⟩
structure PG (kb vb t d : Nat) (L H I : Int) (K V : List S47) : Prop where
 ok : hok kb vb t d L H I = true
 hk : Gs K kb t
 hv : Gs V vb d
 nk : K.length = d
 nv : V.length = t
theorem PG.b {kb vb t d : Nat} {L H I : Int} {K V : List S47} (h : PG kb vb t d L H I K V) : (kb = 2 ∨ kb = 4 ∨ kb = 8) ∧ (vb = 2 ∨ vb = 4 ∨ vb = 8) ∧ 1 ≤ t ∧ t ≤ 16 ∧ 1 ≤ d ∧ d ≤ 16 ∧ 0 ≤ L ∧ L ≤ 3 ∧ 0 ≤ H ∧ H ≤ 3 ∧ 0 ≤ I ∧ I ≤ 1023 := by
 obtain ⟨m, n, t', d', e1, e2, e3, e4, h1, h2, h3⟩ := hok_parts h.ok
 omega
theorem New_f {kb vb t d : Nat} {L H I : Int} {K V : List S47} (h : PG kb vb t d L H I K V) : Ev (fun k => F21.f k kb vb t d L H I K V) ([pgv kb vb t d L H I K V], 0) := by
 obtain ⟨h1, h2, h3, h4, h5, h6, _⟩ := h.b
 have hnk := h.nk
 have hnv := h.nv
 unfold F21.f
 simp only [pRight_f, h.ok, oBs]
 refine Ev.pos trivial (Ev.bind (codesf_f K kb t h.hk d (by omega)) (Ev.pos (by rw [beq_iff_eq]; omega) (Ev.bind (codesf_f V vb d h.hv t (by omega)) (Ev.pos (by rw [beq_iff_eq]; omega) ?_))))
 exact Ev.bind (packAll_f h1 K t h.hk h3 h4 (by omega)) (Ev.pos rfl (Ev.bind (packAll_f h2 V d h.hv h5 h6 (by omega)) (Ev.pos rfl (Ev.now _))))
theorem packed_w {m : Nat} (hm : m = 2 ∨ m = 4 ∨ m = 8) (l : List Int) (h : l.length ≤ 16) : (packed m l).length ≤ 2 := by
 rw [packed_length]
 rcases hm with rfl | rfl | rfl <;> omega
theorem Unpack_ok {m n : Nat} (hm : m = 2 ∨ m = 4 ∨ m = 8) (l : S47) (h : RG m n l) (h1 : 1 ≤ n) (h2 : n ≤ 16) : Ev (fun k => F75.f k (up (packed m l.f2)) n m) (l.f2, 0) := by
 have hin := h.inR hm h1 h2
 have hlen := h.n
 have h3 := Unpack_f hm (packed m l.f2) (packed_lt hm _ hin) l.f2.length (by omega) (packed_length m _) (packed_rest hm _ hin)
 rw [lanes_packed hm _ hin, hlen] at h3
 exact h3
theorem unpack_l {m n : Nat} (hm : m = 2 ∨ m = 4 ∨ m = 8) (G : List S47) (hG : Gs G m n) (h1 : 1 ≤ n) (h2 : n ≤ 16) (hl : G.length ≤ 16) : ∀ (d i : Nat), G.length - i = d → i ≤ G.length →
  Ev (fun k => F43.l0 k n m (G.take i) (G.map (pk m)) ((G.map (pk m)).length : Int) (i : Int)) G := by
 intro d
 induction d with
 | zero =>
  intro i hd hi
  obtain rfl : i = G.length := by omega
  rw [List.take_length]
  exact Ev.step (fun k => by rw [F43.l0, if_neg (by rw [lnM]; omega)]) (Ev.now _)
 | succ d ih =>
  intro i hd hi
  have h3 := ih (i + 1) (by omega) (by omega)
  have e : rd_T82 (G.map (pk m)) (i : Int) = pk m (G.getD i z47) := by
   unfold rd_T82
   rw [tnC]
   exact getD_map _ _ _ _ _ (by omega)
  have h4 := hG _ (getD_mem G z47 i (by omega))
  have h5 := h4.n
  refine Ev.step (fun k => by rw [F43.l0, if_pos (by rw [lnM]; omega), if_pos (by omega), if_pos (by rw [lnM]; omega), e]) ?_
  rw [take_getD G z47 i (by omega)] at h3
  generalize G.getD i z47 = g at h3 h4 h5 ⊢
  refine Ev.bind (Unpack_ok hm g h4 h1 h2) (Ev.pos (by rw [List.length_take]; omega) ?_)
  rw [wsucc i (by omega)]
  exact h3
theorem unpack_f {m n : Nat} (hm : m = 2 ∨ m = 4 ∨ m = 8) (G : List S47) (hG : Gs G m n) (h1 : 1 ≤ n) (h2 : n ≤ 16) (hl : G.length ≤ 16) : Ev (fun k => F43.f k (G.map (pk m)) n m) G := unpack_l hm G hG h1 h2 hl G.length 0 (by omega) (by omega)
theorem KeyGroups_f {kb vb t d : Nat} {L H I : Int} {K V : List S47} (h : PG kb vb t d L H I K V) : Ev (fun k => F16.f k [pgv kb vb t d L H I K V]) (K) := by
 obtain ⟨h1, h2, h3, h4, h5, h6, _⟩ := h.b
 have hnk := h.nk
 unfold F16.f
 rw [rd75_one]
 exact Ev.pos (by simp) (Ev.bind (unpack_f h1 K h.hk h3 h4 (by omega)) (Ev.now _))
theorem ValueGroups_f {kb vb t d : Nat} {L H I : Int} {K V : List S47} (h : PG kb vb t d L H I K V) : Ev (fun k => F17.f k [pgv kb vb t d L H I K V]) (V) := by
 obtain ⟨h1, h2, h3, h4, h5, h6, _⟩ := h.b
 have hnv := h.nv
 unfold F17.f
 rw [rd75_one]
 exact Ev.pos (by simp) (Ev.bind (unpack_f h2 V h.hv h5 h6 (by omega)) (Ev.now _))
theorem there_f (kb vb t d : Nat) (L H I : Int) (K V : List S47) (h1 : 1 ≤ t) (h2 : t ≤ 16) (h3 : 1 ≤ d) (h4 : d ≤ 16) (i j : Int) : F44.f [pgv kb vb t d L H I K V] i j = some (decide (0 ≤ i ∧ i < t ∧ 0 ≤ j ∧ j < d)) := by
 unfold F44.f
 rw [rd75_one, if_pos (by simp)]
 show (F49.f i 0 (wrap64 ((t : Int) - 1))).bind _ = _
 rw [within_f, w64 (by omega) (by omega), oBs]
 by_cases c1 : 0 ≤ i ∧ i ≤ (t : Int) - 1
 ·
  rw [if_pos (decide_eq_true c1)]
  show (F49.f j 0 (wrap64 ((d : Int) - 1))).bind _ = _
  rw [within_f, w64 (by omega) (by omega), oBs]
  congr 1
  rw [decide_eq_decide]
  omega
 ·
  rw [if_neg (by rw [decide_eq_false c1]; decide), decide_eq_false (by omega)]
theorem lane_code {m : Nat} (hm : m = 2 ∨ m = 4 ∨ m = 8) (l : S47) {n : Nat} (h : RG m n l) (h1 : 1 ≤ n) (h2 : n ≤ 16) (i : Nat) (hi : i < n) : F78.f (up (packed m l.f2)) (i : Int) m = some (rd l.f2 i) := by
 have hin := h.inR hm h1 h2
 have hlen := h.n
 have hw := packed_w hm l.f2 (by omega)
 have hpl := packed_length m l.f2
 rw [Lane_f hm _ (packed_lt hm _ hin) (by omega) i (by
  rw [hpl, hlen]
  rcases hm with rfl | rfl | rfl <;> simp <;> omega)]
 have h3 := congrArg (fun x => rd x (i : Int)) (lanes_packed hm _ hin)
 have e1 : rd (lanes m (packed m l.f2) l.f2.length) (i : Int) = ((lane m (packed m l.f2) i : Nat) : Int) := by
  unfold lanes
  rw [rd_up]
  congr 1
  rw [getD_map _ _ 0 _ _ (by rw [List.length_range]; omega), gdE, List.getElem?_eq_getElem (by rw [List.length_range]; omega), List.getElem_range]
  rfl
 have h3 : rd (lanes m (packed m l.f2) l.f2.length) (i : Int) = rd l.f2 (i : Int) := h3
 rw [e1] at h3
 rw [← h3]
 rfl
theorem mean_f {m : Nat} (hm : m = 2 ∨ m = 4 ∨ m = 8) (l : S47) {n : Nat} (h : RG m n l) (h1 : 1 ≤ n) (h2 : n ≤ 16) (i : Nat) (hi : i < n) (z : List Int) : F45.f l.f0 l.f1 z (up (packed m l.f2)) i m = some (one l.f0 l.f1 (rd l.f2 i)) := by
 unfold F45.f
 rw [lane_code hm l h h1 h2 i hi, oBs, One_f]
 rfl
def mn1 (l : S47) (i : Nat) : Int := one l.f0 l.f1 (rd l.f2 i)
theorem Key_in {kb vb t d : Nat} {L H I : Int} {K V : List S47} (h : PG kb vb t d L H I K V) (i j : Nat) (hi : i < t) (hj : j < d) : F18.f [pgv kb vb t d L H I K V] i j = some (mn1 (K.getD j z47) i) := by
 obtain ⟨h1, h2, h3, h4, h5, h6, _⟩ := h.b
 have hnk := h.nk
 have h7 := h.hk _ (getD_mem K z47 j (by omega))
 unfold F18.f
 rw [there_f _ _ _ _ _ _ _ _ _ h3 h4 h5 h6, oBs, if_pos (decide_eq_true (by omega)), if_pos (by simp), if_pos (by omega), rd75_one]
 have e : rd_T82 (K.map (pk kb)) (j : Int) = pk kb (K.getD j z47) := by
  unfold rd_T82
  rw [tnC]
  exact getD_map _ _ _ _ _ (by omega)
 show (if (j : Int) < ((K.map (pk kb)).length : Int) then _ else _) = _
 rw [if_pos (by rw [lnM]; omega)]
 show (F45.f (rd_T82 (K.map (pk kb)) (j : Int)).f0.f0 (rd_T82 (K.map (pk kb)) (j : Int)).f0.f1 (rd_T82 (K.map (pk kb)) (j : Int)).f0.f2 (rd_T82 (K.map (pk kb)) (j : Int)).f1 (i : Int) (kb : Int)).bind _ = _
 rw [e]
 show (F45.f (K.getD j z47).f0 (K.getD j z47).f1 [] (up (packed kb (K.getD j z47).f2)) (i : Int) (kb : Int)).bind _ = _
 rw [mean_f h1 _ h7 h3 h4 i hi]
 rfl
theorem Value_in {kb vb t d : Nat} {L H I : Int} {K V : List S47} (h : PG kb vb t d L H I K V) (i j : Nat) (hi : i < t) (hj : j < d) : F19.f [pgv kb vb t d L H I K V] i j = some (mn1 (V.getD i z47) j) := by
 obtain ⟨h1, h2, h3, h4, h5, h6, _⟩ := h.b
 have hnv := h.nv
 have h7 := h.hv _ (getD_mem V z47 i (by omega))
 unfold F19.f
 rw [there_f _ _ _ _ _ _ _ _ _ h3 h4 h5 h6, oBs, if_pos (decide_eq_true (by omega)), if_pos (by simp), if_pos (by omega), rd75_one]
 have e : rd_T82 (V.map (pk vb)) (i : Int) = pk vb (V.getD i z47) := by
  unfold rd_T82
  rw [tnC]
  exact getD_map _ _ _ _ _ (by omega)
 show (if (i : Int) < ((V.map (pk vb)).length : Int) then _ else _) = _
 rw [if_pos (by rw [lnM]; omega)]
 show (F45.f (rd_T82 (V.map (pk vb)) (i : Int)).f0.f0 (rd_T82 (V.map (pk vb)) (i : Int)).f0.f1 (rd_T82 (V.map (pk vb)) (i : Int)).f0.f2 (rd_T82 (V.map (pk vb)) (i : Int)).f1 (j : Int) (vb : Int)).bind _ = _
 rw [e]
 show (F45.f (V.getD i z47).f0 (V.getD i z47).f1 [] (up (packed vb (V.getD i z47).f2)) (j : Int) (vb : Int)).bind _ = _
 rw [mean_f h2 _ h7 h5 h6 j hj]
 rfl
def gby (m : Nat) (l : S47) : List Nat := be 4 (zn l.f0) ++ (be 4 l.f1.toNat ++ wby (packed m l.f2))
def gsb (m : Nat) (G : List S47) : List Nat := G.flatMap (gby m)
theorem gby_length {m : Nat} (l : S47) : (gby m l).length = 8 + 8 * (packed m l.f2).length := by
 unfold gby
 rw [lnA, lnA, be_length, be_length, wby_length]
 omega
theorem gby_le {m : Nat} (hm : m = 2 ∨ m = 4 ∨ m = 8) (l : S47) (h : l.f2.length ≤ 16) : (gby m l).length ≤ 24 := by
 rw [gby_length]
 have := packed_w hm l.f2 h
 omega
theorem gby_bys (m : Nat) (l : S47) : Bys (gby m l) := (be_bys 4 _).app ((be_bys 4 _).app (wby_bys _))
theorem gsb_bys (m : Nat) (G : List S47) : Bys (gsb m G) := by
 intro x hx
 unfold gsb at hx
 obtain ⟨w, _, h⟩ := List.mem_flatMap.1 hx
 exact gby_bys m w x h
theorem gsb_le {m n : Nat} (hm : m = 2 ∨ m = 4 ∨ m = 8) (hn : n ≤ 16) : ∀ (G : List S47), Gs G m n → (gsb m G).length ≤ 24 * G.length
 | [], _ => by simp [gsb]
 | g :: G, h => by
  have h1 := gby_le hm g (by have := (h g (List.mem_cons_self ..)).n; omega)
  have h2 := gsb_le hm hn G (fun x hx => h x (List.mem_cons_of_mem _ hx))
  have e : (gsb m (g :: G)).length = (gby m g).length + (gsb m G).length := by simp [gsb]
  rw [e, List.length_cons]
  omega
theorem gsb_append (m : Nat) (A B : List S47) : gsb m (A ++ B) = gsb m A ++ gsb m B := by simp [gsb]
theorem gsb_one (m : Nat) (l : S47) : gsb m [l] = gby m l := by simp [gsb]
def pin (kb vb t d : Nat) (L H I : Int) (K V : List S47) : List Nat := hby kb vb t d L H I ++ (gsb kb K ++ gsb vb V)
theorem pin_le {kb vb t d : Nat} {L H I : Int} {K V : List S47} (h : PG kb vb t d L H I K V) : (pin kb vb t d L H I K V).length ≤ 1000 := by
 obtain ⟨h1, h2, h3, h4, h5, h6, _⟩ := h.b
 have a := gsb_le h1 h4 K h.hk
 have b := gsb_le h2 h6 V h.hv
 have hnk := h.nk
 have hnv := h.nv
 unfold pin
 rw [lnA, lnA, hby_length]
 omega
theorem hby_bys {kb vb t d : Nat} {L H I : Int} {K V : List S47} (h : PG kb vb t d L H I K V) : Bys (hby kb vb t d L H I) := by
 obtain ⟨h1, h2, h3, h4, h5, h6, h7, h8, h9, h10, h11, h12⟩ := h.b
 refine Bys.app ?_ (be_bys _ _)
 intro x hx
 simp only [List.mem_cons, List.not_mem_nil, or_false] at hx
 omega
theorem pin_bys {kb vb t d : Nat} {L H I : Int} {K V : List S47} (h : PG kb vb t d L H I K V) : Bys (pin kb vb t d L H I K V) := (hby_bys h).app ((gsb_bys _ _).app (gsb_bys _ _))
theorem By_l2 {m n : Nat} (hm : m = 2 ∨ m = 4 ∨ m = 8) (G : List S47) (hG : Gs G m n) (hn : n ≤ 16) (h1 : 1 ≤ n) (pre : List Nat) (hp : pre.length + 24 * G.length ≤ 700000) (x54 : Int) (A B : List S82) {r : List Int} (hr : Ev (fun k => F14.l1 k (up (pre ++ gsb m G)) (wrap64 (x54 + 1)) A B) r) : ∀ (e i : Nat), G.length - i = e → i ≤ G.length →
  Ev (fun k => F14.l2 k (up (pre ++ gsb m (G.take i))) x54 (G.map (pk m)) ((G.map (pk m)).length : Int) (i : Int) A B) r := by
 intro e
 induction e with
 | zero =>
  intro i he hi
  obtain rfl : i = G.length := by omega
  rw [List.take_length]
  exact Ev.step (fun k => by rw [F14.l2, if_neg (by rw [lnM]; omega)]) hr
 | succ e ih =>
  intro i he hi
  have h3 := ih (i + 1) (by omega) (by omega)
  have h4 := hG _ (getD_mem G z47 i (by omega))
  have h5 := h4.n
  have e0 : rd_T82 (G.map (pk m)) (i : Int) = pk m (G.getD i z47) := by
   unfold rd_T82
   rw [tnC]
   exact getD_map _ _ _ _ _ (by omega)
  have hle := gsb_le hm hn (G.take i) (fun x hx => hG x (List.mem_of_mem_take hx))
  rw [List.length_take] at hle
  rw [take_getD G z47 i (by omega), gsb_append, gsb_one] at h3
  have hle2 := gby_le hm (G.getD i z47) (by omega)
  refine Ev.step (fun k => by rw [F14.l2, if_pos (by rw [lnM]; omega), if_pos (by omega), if_pos (by rw [lnM]; omega), e0]) ?_
  clear e0
  generalize G.getD i z47 = g at h3 h4 h5 hle2 ⊢
  have hz : g.f0 % 4294967296 = ((zn g.f0 : Nat) : Int) := by
   unfold zn
   omega
  have s1 := h4.s0
  have s2 := h4.s1
  have hs : IntKind.u64.wrap g.f1 = ((g.f1.toNat : Nat) : Int) := by
   rw [wu64 s1 (by omega)]
   omega
  rw [gby_length] at hle2
  show Ev (fun k => (F35.f k (up (pre ++ gsb m (G.take i))) (g.f0 % 4294967296) 4).bind fun t => (F35.f k t (IntKind.u64.wrap g.f1) 4).bind fun u => F14.l3 k u x54 (G.map (pk m)) ((G.map (pk m)).length : Int) (i : Int) (up (packed m g.f2)) ((up (packed m g.f2)).length : Int) 0 A B) r
  rw [hz, hs]
  refine Ev.bind (Put4 _ _ (by rw [lnA]; omega)) (Ev.bind (Put4 _ _ (by rw [lnA, lnA, be_length]; omega)) ?_)
  have h8 := By_l3 (packed m g.f2) (pre ++ gsb m (G.take i) ++ be 4 (zn g.f0) ++ be 4 g.f1.toNat) (by rw [lnA, lnA, lnA, be_length, be_length]; omega) x54 (G.map (pk m)) ((G.map (pk m)).length : Int) (i : Int) A B (r := r) (by
   rw [wsucc i (by omega)]
   have e2 : pre ++ gsb m (G.take i) ++ be 4 (zn g.f0) ++ be 4 g.f1.toNat ++ wby (packed m g.f2) = pre ++ (gsb m (G.take i) ++ gby m g) := by
    unfold gby
    simp only [List.append_assoc]
   rw [e2]
   exact h3) (packed m g.f2).length 0 (by omega) (by omega)
  rw [List.take_zero, show wby [] = [] from rfl, List.append_nil] at h8
  exact h8
theorem By_l1 {kb vb t d : Nat} {L H I : Int} {K V : List S47} (h : PG kb vb t d L H I K V) : Ev (fun k => F14.l1 k (up (hby kb vb t d L H I)) 0 (K.map (pk kb)) (V.map (pk vb))) (up (cl (pin kb vb t d L H I K V))) := by
 obtain ⟨h1, h2, h3, h4, h5, h6, _⟩ := h.b
 have hnk := h.nk
 have hnv := h.nv
 have a := gsb_le h1 h4 K h.hk
 refine Ev.step (fun k => by rw [F14.l1, if_pos (by decide), if_pos (by decide), show sel2 (K.map (pk kb)) (V.map (pk vb)) 0 = K.map (pk kb) from if_pos rfl]) ?_
 have h7 := By_l2 h2 V h.hv h6 h5 (hby kb vb t d L H I ++ gsb kb K) (by rw [lnA, hby_length]; omega) 1 (K.map (pk kb)) (V.map (pk vb)) (r := up (cl (pin kb vb t d L H I K V))) (by
  rw [show wrap64 ((1 : Int) + 1) = 2 from by rw [w64 (by omega) (by omega)]; rfl]
  refine Ev.step (fun k => by rw [F14.l1, if_neg (by decide)]) ?_
  rw [List.append_assoc]
  exact Ev.bind (Close_f _ (pin_bys h) (by have := pin_le h; unfold pin at this; omega)) (Ev.now _)) V.length 0 (by omega) (by omega)
 rw [List.take_zero, show gsb vb [] = [] from rfl, List.append_nil] at h7
 have h8 := By_l2 h1 K h.hk h4 h3 (hby kb vb t d L H I) (by rw [hby_length]; omega) 0 (K.map (pk kb)) (V.map (pk vb)) (r := up (cl (pin kb vb t d L H I K V))) (by
  rw [show wrap64 ((0 : Int) + 1) = 1 from by rw [w64 (by omega) (by omega)]; rfl]
  refine Ev.step (fun k => by rw [F14.l1, if_pos (by decide), if_pos (by decide), show sel2 (K.map (pk kb)) (V.map (pk vb)) 1 = V.map (pk vb) from if_neg (by decide)]) ?_
  exact h7) K.length 0 (by omega) (by omega)
 rw [List.take_zero, show gsb kb [] = [] from rfl, List.append_nil] at h8
 exact h8
theorem Bytes_f {kb vb t d : Nat} {L H I : Int} {K V : List S47} (h : PG kb vb t d L H I K V) : Ev (fun k => F14.f k [pgv kb vb t d L H I K V]) (up (cl (pin kb vb t d L H I K V))) := by
 obtain ⟨h1, h2, h3, h4, h5, h6, h7, h8, h9, h10, h11, h12⟩ := h.b
 obtain ⟨L, rfl⟩ : ∃ n : Nat, L = (n : Int) := ⟨L.toNat, by omega⟩
 obtain ⟨H, rfl⟩ : ∃ n : Nat, H = (n : Int) := ⟨H.toNat, by omega⟩
 obtain ⟨I, rfl⟩ : ∃ n : Nat, I = (n : Int) := ⟨I.toNat, by omega⟩
 have hb := By_l1 h
 unfold F14.f
 rw [rd75_one]
 refine Ev.pos (by simp) ?_
 show Ev (fun k => F14.l0 k [pgv kb vb t d L H I K V] [75] 0 kb vb t d L H I kb vb t d L H) _
 refine Ev.step (fun k => by rw [F14.l0, if_pos (by decide), if_pos (by decide), if_pos (by simp), show rd [(kb : Int), vb, t, d, L, H] 0 = (kb : Int) from rfl, md kb (by omega), show wrap64 ((0 : Int) + 1) = 1 from by rw [w64 (by omega) (by omega)]; rfl]) ?_
 show Ev (fun k => F14.l0 k [pgv kb vb t d L H I K V] [75, (kb : Int)] 1 kb vb t d L H I kb vb t d L H) _
 refine Ev.step (fun k => by rw [F14.l0, if_pos (by decide), if_pos (by decide), if_pos (by simp), show rd [(kb : Int), vb, t, d, L, H] 1 = (vb : Int) from rfl, md vb (by omega), show wrap64 ((1 : Int) + 1) = 2 from by rw [w64 (by omega) (by omega)]; rfl]) ?_
 show Ev (fun k => F14.l0 k [pgv kb vb t d L H I K V] [75, (kb : Int), vb] 2 kb vb t d L H I kb vb t d L H) _
 refine Ev.step (fun k => by rw [F14.l0, if_pos (by decide), if_pos (by decide), if_pos (by simp), show rd [(kb : Int), vb, t, d, L, H] 2 = (t : Int) from rfl, md t (by omega), show wrap64 ((2 : Int) + 1) = 3 from by rw [w64 (by omega) (by omega)]; rfl]) ?_
 show Ev (fun k => F14.l0 k [pgv kb vb t d L H I K V] [75, (kb : Int), vb, t] 3 kb vb t d L H I kb vb t d L H) _
 refine Ev.step (fun k => by rw [F14.l0, if_pos (by decide), if_pos (by decide), if_pos (by simp), show rd [(kb : Int), vb, t, d, L, H] 3 = (d : Int) from rfl, md d (by omega), show wrap64 ((3 : Int) + 1) = 4 from by rw [w64 (by omega) (by omega)]; rfl]) ?_
 show Ev (fun k => F14.l0 k [pgv kb vb t d L H I K V] [75, (kb : Int), vb, t, d] 4 kb vb t d L H I kb vb t d L H) _
 refine Ev.step (fun k => by rw [F14.l0, if_pos (by decide), if_pos (by decide), if_pos (by simp), show rd [(kb : Int), vb, t, d, L, H] 4 = (L : Int) from rfl, md L (by omega), show wrap64 ((4 : Int) + 1) = 5 from by rw [w64 (by omega) (by omega)]; rfl]) ?_
 show Ev (fun k => F14.l0 k [pgv kb vb t d L H I K V] [75, (kb : Int), vb, t, d, L] 5 kb vb t d L H I kb vb t d L H) _
 refine Ev.step (fun k => by rw [F14.l0, if_pos (by decide), if_pos (by decide), if_pos (by simp), show rd [(kb : Int), vb, t, d, L, H] 5 = (H : Int) from rfl, md H (by omega), show wrap64 ((5 : Int) + 1) = 6 from by rw [w64 (by omega) (by omega)]; rfl]) ?_
 show Ev (fun k => F14.l0 k [pgv kb vb t d L H I K V] (up [75, kb, vb, t, d, L, H]) 6 kb vb t d L H I kb vb t d L H) _
 refine Ev.step (fun k => by rw [F14.l0, if_neg (by decide), wu64 (x := (I : Int)) (by omega) (by omega)]) ?_
 refine Ev.bind (Put2 _ I (by simp)) (Ev.pos (by simp) ?_)
 rw [rd75_one]
 have e : [75, kb, vb, t, d, L, H] ++ be 2 I = hby kb vb t d L H I := by
  unfold hby
  simp
 rw [e]
 exact hb
def keysv (K : List S47) (t d : Nat) : List (List Int) := (List.range t).map (fun i => (List.range d).map (fun j => mn1 (K.getD j z47) i))
def valsv (V : List S47) (t d : Nat) : List (List Int) := (List.range t).map (fun i => (List.range d).map (fun j => mn1 (V.getD i z47) j))
theorem all18_l1 {kb vb t d : Nat} {L H I : Int} {K V : List S47} (h : PG kb vb t d L H I K V) (i : Nat) (hi : i < t) (A B : List (List Int)) (hA : A.length = i) (i' i2 D : Int) (hi' : i' = (i : Int)) (hi2 : i2 = (i : Int)) (hD : D = (d : Int)) {r : List (List Int)}
  (hr : Ev (fun k => F19000063.l0 k [pgv kb vb t d L H I K V] (A ++ (List.range d).map (fun j => mn1 (K.getD j z47) i) :: B) (t : Int) ((i + 1 : Nat) : Int)) r) : ∀ (e j : Nat), d - j = e → j ≤ d →
  Ev (fun k => F19000063.l1 k [pgv kb vb t d L H I K V] (A ++ (List.range j).map (fun j => mn1 (K.getD j z47) i) :: B) i' (t : Int) i2 D (j : Int)) r := by
 subst hi' hi2 hD
 obtain ⟨_, _, b3, b4, b5, b6, _⟩ := h.b
 intro e
 induction e with
 | zero =>
  intro j he hj
  obtain rfl : j = d := by omega
  refine Ev.step (fun k => by rw [F19000063.l1, if_neg (by omega)]) ?_
  rw [wsucc i (by omega)]
  exact hr
 | succ e ih =>
  intro j he hj
  have h3 := ih (j + 1) (by omega) (by omega)
  rw [range_succ_map] at h3
  refine Ev.step (fun k => by rw [F19000063.l1, if_pos (by omega), if_pos (by omega), if_pos (by rw [lnA, List.length_cons]; omega), Key_in h i j hi (by omega), oBs, rdL1_mid _ _ _ hA, if_pos (by rw [lnM, List.length_range]; omega), tnC, set_midA _ _ _ _ hA, wsucc j (by omega)]) ?_
  exact h3
theorem all18_l0 {kb vb t d : Nat} {L H I : Int} {K V : List S47} (h : PG kb vb t d L H I K V) : ∀ (e i : Nat), t - i = e → i ≤ t →
  Ev (fun k => F19000063.l0 k [pgv kb vb t d L H I K V] ((List.range i).map (fun i => (List.range d).map (fun j => mn1 (K.getD j z47) i)) ++ List.replicate (t - i) []) (t : Int) (i : Int)) (keysv K t d) := by
 intro e
 induction e with
 | zero =>
  intro i he hi
  obtain rfl : i = t := by omega
  rw [Nat.sub_self, List.replicate_zero, List.append_nil]
  refine Ev.step (fun k => by rw [F19000063.l0, if_neg (by omega)]) ?_
  exact Ev.now _
 | succ e ih =>
  intro i he hi
  have h3 := ih (i + 1) (by omega) (by omega)
  rw [range_succ_map, List.append_assoc, List.singleton_append, show t - (i + 1) = e by omega] at h3
  rw [he, List.replicate_succ]
  refine Ev.step (fun k => by rw [F19000063.l0, if_pos (by omega), if_pos (by simp)]) ?_
  exact all18_l1 h i (by omega) _ _ (by rw [lnM, List.length_range]) _ _ _ rfl rfl rfl h3 d 0 (by omega) (by omega)
theorem Keys_f {kb vb t d : Nat} {L H I : Int} {K V : List S47} (h : PG kb vb t d L H I K V) : Ev (fun k => F29.f k [pgv kb vb t d L H I K V]) (keysv K t d) := by
 obtain ⟨_, _, b3, b4, b5, b6, _⟩ := h.b
 unfold F29.f
 refine Ev.bind ?_ (Ev.now _)
 unfold F19000063.f
 rw [rd75_one]
 refine Ev.pos (by simp) (Ev.pos (show (0 : Int) ≤ (t : Int) by omega) (Ev.pos (show (t : Int).toNat ≤ _ by omega) ?_))
 have h3 := all18_l0 h t 0 (by omega) (by omega)
 have e : ((List.replicate (t : Int).toNat ([] : List Int)).length : Int) = (t : Int) := by rw [List.length_replicate, tnC]
 show Ev (fun k => F19000063.l0 k _ (List.replicate (t : Int).toNat []) ((List.replicate (t : Int).toNat ([] : List Int)).length : Int) 0) _
 rw [e]
 exact h3
theorem all19_l1 {kb vb t d : Nat} {L H I : Int} {K V : List S47} (h : PG kb vb t d L H I K V) (i : Nat) (hi : i < t) (A B : List (List Int)) (hA : A.length = i) (i' i2 D : Int) (hi' : i' = (i : Int)) (hi2 : i2 = (i : Int)) (hD : D = (d : Int)) {r : List (List Int)}
  (hr : Ev (fun k => F20000063.l0 k [pgv kb vb t d L H I K V] (A ++ (List.range d).map (fun j => mn1 (V.getD i z47) j) :: B) (t : Int) ((i + 1 : Nat) : Int)) r) : ∀ (e j : Nat), d - j = e → j ≤ d →
  Ev (fun k => F20000063.l1 k [pgv kb vb t d L H I K V] (A ++ (List.range j).map (fun j => mn1 (V.getD i z47) j) :: B) i' (t : Int) i2 D (j : Int)) r := by
 subst hi' hi2 hD
 obtain ⟨_, _, b3, b4, b5, b6, _⟩ := h.b
 intro e
 induction e with
 | zero =>
  intro j he hj
  obtain rfl : j = d := by omega
  refine Ev.step (fun k => by rw [F20000063.l1, if_neg (by omega)]) ?_
  rw [wsucc i (by omega)]
  exact hr
 | succ e ih =>
  intro j he hj
  have h3 := ih (j + 1) (by omega) (by omega)
  rw [range_succ_map] at h3
  refine Ev.step (fun k => by rw [F20000063.l1, if_pos (by omega), if_pos (by omega), if_pos (by rw [lnA, List.length_cons]; omega), Value_in h i j hi (by omega), oBs, rdL1_mid _ _ _ hA, if_pos (by rw [lnM, List.length_range]; omega), tnC, set_midA _ _ _ _ hA, wsucc j (by omega)]) ?_
  exact h3
theorem all19_l0 {kb vb t d : Nat} {L H I : Int} {K V : List S47} (h : PG kb vb t d L H I K V) : ∀ (e i : Nat), t - i = e → i ≤ t →
  Ev (fun k => F20000063.l0 k [pgv kb vb t d L H I K V] ((List.range i).map (fun i => (List.range d).map (fun j => mn1 (V.getD i z47) j)) ++ List.replicate (t - i) []) (t : Int) (i : Int)) (valsv V t d) := by
 intro e
 induction e with
 | zero =>
  intro i he hi
  obtain rfl : i = t := by omega
  rw [Nat.sub_self, List.replicate_zero, List.append_nil]
  refine Ev.step (fun k => by rw [F20000063.l0, if_neg (by omega)]) ?_
  exact Ev.now _
 | succ e ih =>
  intro i he hi
  have h3 := ih (i + 1) (by omega) (by omega)
  rw [range_succ_map, List.append_assoc, List.singleton_append, show t - (i + 1) = e by omega] at h3
  rw [he, List.replicate_succ]
  refine Ev.step (fun k => by rw [F20000063.l0, if_pos (by omega), if_pos (by simp)]) ?_
  exact all19_l1 h i (by omega) _ _ (by rw [lnM, List.length_range]) _ _ _ rfl rfl rfl h3 d 0 (by omega) (by omega)
theorem Values_f {kb vb t d : Nat} {L H I : Int} {K V : List S47} (h : PG kb vb t d L H I K V) : Ev (fun k => F30.f k [pgv kb vb t d L H I K V]) (valsv V t d) := by
 obtain ⟨_, _, b3, b4, b5, b6, _⟩ := h.b
 unfold F30.f
 refine Ev.bind ?_ (Ev.now _)
 unfold F20000063.f
 rw [rd75_one]
 refine Ev.pos (by simp) (Ev.pos (show (0 : Int) ≤ (t : Int) by omega) (Ev.pos (show (t : Int).toNat ≤ _ by omega) ?_))
 have h3 := all19_l0 h t 0 (by omega) (by omega)
 have e : ((List.replicate (t : Int).toNat ([] : List Int)).length : Int) = (t : Int) := by rw [List.length_replicate, tnC]
 show Ev (fun k => F20000063.l0 k _ (List.replicate (t : Int).toNat []) ((List.replicate (t : Int).toNat ([] : List Int)).length : Int) 0) _
 rw [e]
 exact h3
theorem rstep_z (h c : Nat) (hh : h < 4294967296) (hc : c < 256) : Int.tmod (IntKind.u64.wrap ((Go.bits .xor .u64 (h : Int) (IntKind.u64.wrap (c : Int))) * 16777619)) 4294967296 = ((sstep h c : Nat) : Int) := by
 have hx := xor_lt32 hh hc
 rw [wun c (by omega), xor64 h c (by omega) (by omega)]
 unfold sstep
 generalize h ^^^ c = x at hx ⊢
 rw [wu64 (by omega) (by omega), tm_nonneg (by omega)]
 omega
theorem rSum_l (l : List Nat) (hl : Bys l) (hn : l.length < 1000000) : ∀ (d i h : Nat), l.length - i = d → i ≤ l.length → h < 4294967296 →
  Ev (fun k => F103.l0 k (B l) (h : Int) (i : Int)) ((sm h (l.drop i) : Nat) : Int) := by
 intro d
 induction d with
 | zero =>
  intro i h hd hi hh
  obtain rfl : i = l.length := by omega
  refine Ev.step (fun k => by rw [F103.l0, B_size, if_neg (by omega)]) ?_
  rw [List.drop_length, Int.emod_eq_of_lt (by omega) (by omega)]
  exact Ev.now _
 | succ d ih =>
  intro i h hd hi hh
  refine Ev.step (fun k => by rw [F103.l0, B_size, if_pos (by omega), if_pos (by omega), bt_B hl i (by omega), rstep_z h _ hh (hl.getD i), wsucc _ (by omega)]) ?_
  rw [drop_getD l i (by omega)]
  exact ih (i + 1) _ (by omega) (by omega) (sstep_lt _ _)
theorem rSum_f (l : List Nat) (hl : Bys l) (hn : l.length < 1000000) : Ev (fun k => F103.f k (B l)) ((sm 2166136261 l : Nat) : Int) := by
 unfold F103.f
 exact rSum_l l hl hn l.length 0 2166136261 (by omega) (by omega) (by decide)
theorem rBytes_l (n : Nat) (hn : n < 1000) : ∀ (d i v : Nat) (acc : List Nat), n - i = d → i ≤ n → v < 18446744073709551616 → acc.length ≤ 1000 * i →
  Ev (fun k => F85.l0 k (v : Int) (n : Int) (B acc) (i : Int)) (B (be (n - i) v ++ acc)) := by
 intro d
 induction d with
 | zero =>
  intro i v acc hd hi hv ha
  obtain rfl : i = n := by omega
  refine Ev.step (fun k => by rw [F85.l0, if_neg (by omega)]) ?_
  rw [Nat.sub_self, be, List.nil_append]
  exact Ev.now _
 | succ d ih =>
  intro i v acc hd hi hv ha
  have e1 : ([(Int.tmod (v : Int) 256) % 256] : List Int) = up [v % 256] := by
   rw [tm_nonneg (by omega), up_one]
   congr 1
   omega
  have e2 : IntKind.u64.wrap (Int.tdiv (v : Int) 256) = ((v / 256 : Nat) : Int) := by
   rw [td_nonneg (by omega)]
   rw [show (v : Int) / 256 = ((v / 256 : Nat) : Int) by omega]
   exact wun _ (by omega)
  refine Ev.step (fun k => by rw [F85.l0, if_pos (by omega), oBs, e1, if_pos (by rw [show (strOfNums (up [v % 256])).size = 1 from B_size [v % 256], B_size]; omega), e2, wsucc _ (by omega), show strOfNums (up [v % 256]) ++ B acc = B ([v % 256] ++ acc) from B_app _ _]) ?_
  have h := ih (i + 1) (v / 256) ([v % 256] ++ acc) (by omega) (by omega) (by omega) (by
   rw [lnA, List.length_singleton]
   omega)
  rw [show n - i = (n - (i + 1)) + 1 by omega, be, List.append_assoc]
  exact h
theorem rBytes_f (v n : Nat) (hn : n < 1000) (hv : v < 18446744073709551616) : Ev (fun k => F85.f k (v : Int) (n : Int)) (B (be n v)) := by
 unfold F85.f
 have h := rBytes_l n hn n 0 v [] (by omega) (by omega) hv (by simp)
 rw [Nat.sub_zero, List.append_nil] at h
 exact h
theorem rClose_f (l : List Nat) (hl : Bys l) (hn : l.length < 900000) : Ev (fun k => F87.f k (B l)) (B (cl l)) := by
 unfold F87.f
 refine Ev.bind (rSum_f l hl (by omega)) ?_
 have hs := sm_lt l 2166136261 (by decide)
 rw [wun _ (by omega)]
 refine Ev.bind (rBytes_f _ 4 (by decide) (by omega)) ?_
 refine Ev.pos (by rw [B_size, B_size, be_length]; omega) ?_
 rw [B_app]
 exact Ev.now _
theorem rWords_l (n b : Int) (h0 : 0 ≤ n * b) (h1 : n * b ≤ 1000000) : ∀ (d : Nat) (x : Int), 0 ≤ x → x ≤ (n * b + 63) / 64 → (n * b + 63) / 64 - x = d → Ev (fun k => F89.l0 k n b x) ((n * b + 63) / 64) := by
 intro d
 induction d with
 | zero =>
  intro x hx hle hd
  refine Ev.step (f := fun _ => some x) (fun k => ?_) (Ev.eq (Ev.now x) (by omega))
  rw [F89.l0]
  rw [w64 (x := x * 64) (by omega) (by omega), w64 (x := n * b) (by omega) (by omega), if_neg (by omega)]
 | succ d ih =>
  intro x hx hle hd
  refine Ev.step (fun k => ?_) (ih (x + 1) (by omega) (by omega) (by omega))
  rw [F89.l0]
  rw [w64 (x := x * 64) (by omega) (by omega), w64 (x := n * b) (by omega) (by omega), if_pos (by omega), w64 (x := x + 1) (by omega) (by omega)]
theorem rWords_f (n b : Int) (h0 : 0 ≤ n * b) (h1 : n * b ≤ 1000000) : Ev (fun k => F89.f k n b) ((n * b + 63) / 64) := by
 unfold F89.f
 exact rWords_l n b h0 h1 ((n * b + 63) / 64).toNat 0 (by omega) (by omega) (by omega)
theorem bit_l (x n : Nat) (hx : x < 18446744073709551616) (hn : n ≤ 64) : ∀ (d i y : Nat), n - i = d → i ≤ n → y = x / 2 ^ i → Ev (fun k => F104.l0 k (y : Int) (n : Int) (i : Int)) ((x / 2 ^ n % 2 : Nat) : Int) := by
 intro d
 induction d with
 | zero =>
  intro i y hd hi hy
  obtain rfl : i = n := by omega
  refine Ev.step (f := fun _ => some ((x / 2 ^ i % 2 : Nat) : Int)) (fun k => ?_) (Ev.now _)
  rw [F104.l0, if_neg (by omega), tm_nonneg (by omega), hy]
  simp
 | succ d ih =>
  intro i y hd hi hy
  have hy2 : y / 2 = x / 2 ^ (i + 1) := by rw [hy, Nat.div_div_eq_div_mul, Nat.pow_succ]
  refine Ev.step (fun k => ?_) (ih (i + 1) (y / 2) (by omega) (by omega) hy2)
  have hyx : y ≤ x := by rw [hy]; exact Nat.div_le_self _ _
  rw [F104.l0, if_pos (by omega), td_nonneg (by omega), w64 (x := (i : Int) + 1) (by omega) (by omega), wu64 (by omega) (by omega)]
  rfl
theorem bit_f (x n : Nat) (hx : x < 18446744073709551616) (hn : n ≤ 64) : Ev (fun k => F104.f k (x : Int) (n : Int)) ((x / 2 ^ n % 2 : Nat) : Int) := by
 unfold F104.f
 exact bit_l x n hx hn n 0 x (by omega) (by omega) (by simp)
theorem power_l (n : Nat) (hn : n ≤ 63) : ∀ (d i : Nat), n - i = d → i ≤ n → Ev (fun k => F105.l0 k (n : Int) ((2 ^ i : Nat) : Int) (i : Int)) ((2 ^ n : Nat) : Int) := by
 intro d
 induction d with
 | zero =>
  intro i hd hi
  obtain rfl : i = n := by omega
  refine Ev.step (f := fun _ => some ((2 ^ i : Nat) : Int)) (fun k => ?_) (Ev.now _)
  rw [F105.l0, if_neg (by omega)]
 | succ d ih =>
  intro i hd hi
  refine Ev.step (fun k => ?_) (ih (i + 1) (by omega) (by omega))
  have h1 : 2 ^ (i + 1) ≤ 2 ^ 63 := Nat.pow_le_pow_right (by decide) (by omega)
  have h2 : (2 : Nat) ^ 63 = 9223372036854775808 := by decide
  have h3 : 2 ^ (i + 1) = 2 ^ i * 2 := Nat.pow_succ ..
  rw [F105.l0, if_pos (by omega), w64 (x := (i : Int) + 1) (by omega) (by omega), wu64 (by omega) (by omega)]
  rw [h3, Int.natCast_mul]
  rfl
theorem power_f (n : Nat) (hn : n ≤ 63) : Ev (fun k => F105.f k (n : Int)) ((2 ^ n : Nat) : Int) := by
 unfold F105.f
 exact power_l n hn n 0 (by omega) (by omega)
theorem ar1 {i b t : Nat} (hpl : i * b % 64 + b ≤ 64) (h8 : b ≤ 8) (hib : i * b ≤ 2048) (ht : t < b) : (i * b + t) / 64 = i * b / 64 ∧ (i * b + t) % 64 = i * b % 64 + t ∧ i * b % 64 + t ≤ 63 ∧ i * b + t < 100000 ∧ t ≤ 64 := by omega
theorem rPack_l2 {b : Nat} (hb : b = 2 ∨ b = 4 ∨ b = 8) (l : List Nat) (hl : ∀ i, l.getD i 0 < 2 ^ b) (hn : l.length ≤ 256) (i : Nat) (hi : i < l.length) {r : List Int}
  (hr : Ev (fun k => F102.l1 k (up l) (b : Int) (up (St b ((l.length * b + 63) / 64) l (i + 1))) ((i + 1 : Nat) : Int)) r) : ∀ (d t : Nat), b - t = d → t ≤ b →
  Ev (fun k => F102.l2 k (up l) (b : Int) (up ((St b ((l.length * b + 63) / 64) l i).set (i * b / 64) ((St b ((l.length * b + 63) / 64) l i).getD (i * b / 64) 0 + l.getD i 0 % 2 ^ t * 2 ^ (i * b % 64)))) (i : Int) (t : Int)) r := by
 have hm := mulb hb hi hn
 have hbl := (b_le hb).2
 have hbp := (b_le hb).1
 have hpl := (place hb i).1
 have hq : i * b / 64 < (l.length * b + 63) / 64 := by clear hbp; omega
 have hib : i * b ≤ 2048 := by clear hbp; omega
 have hcl : l.getD i 0 < 256 := Nat.lt_of_lt_of_le (hl i) hbp
 have hB := St_bound (W := (l.length * b + 63) / 64) hb l hl i (by clear hbp hcl; omega) (i * b / 64)
 rw [show min 64 (i * b - 64 * (i * b / 64)) = i * b % 64 from by clear hbp hcl; omega] at hB
 have hci := hl i
 clear hb hbp hm
 intro d
 induction d with
 | zero =>
  intro t hd ht
  obtain rfl : t = b := by clear hr hl hB hci; omega
  have h1 : wrap64 ((i : Int) + 1) = (i : Int) + 1 := w64 (by clear hr hl hB hci; omega) (by clear hr hl hB hci; omega)
  refine Ev.step (fun k => ?_) hr
  rw [F102.l2, if_neg (by clear hr hl hB hci; omega), h1, Nat.mod_eq_of_lt (hl i)]
  rfl
 | succ d ih =>
  intro t hd ht
  have htb : t < b := by clear hr hl ih hB hci; omega
  obtain ⟨e2, e3, h63, hx1, hb64⟩ := ar1 hpl hbl.1 hib htb
  have hlen : i * b / 64 < ((St b ((l.length * b + 63) / 64) l i)).length := by rw [St_length]; exact hq
  have e1 : wrap64 (wrap64 ((i : Int) * (b : Int)) + (t : Int)) = ((i * b + t : Nat) : Int) := by
   rw [wi i b (Nat.lt_of_le_of_lt (Nat.le_add_right _ t) hx1)]
   exact wadd _ _ (Nat.lt_trans hx1 (by decide))
  have hrd : rd (up l) (i : Int) = ((l.getD i 0 : Nat) : Int) := rd_up l i
  have ht1 : wrap64 ((t : Int) + 1) = ((t + 1 : Nat) : Int) := wsucc t (Nat.lt_of_le_of_lt (Nat.succ_le_succ hb64) (by decide))
  have hc2 : l.getD i 0 < 18446744073709551616 := Nat.lt_trans hcl (by decide)
  have hc1 : IntKind.u64.wrap ((l.getD i 0 : Nat) : Int) = ((l.getD i 0 : Nat) : Int) := wun _ hc2
  have g1 : (t : Int) < (b : Int) := Int.ofNat_lt.2 htb
  have g2 : (0 : Int) ≤ ((i * b / 64 : Nat) : Int) := Int.natCast_nonneg _
  have g3 : (i : Int) < ((up l).length : Int) := by rw [up_length]; exact Int.ofNat_lt.2 hi
  have g4 : ∀ v, ((i * b / 64 : Nat) : Int) < ((up ((St b ((l.length * b + 63) / 64) l i).set (i * b / 64) v)).length : Int) := by
   intro v
   rw [up_length, List.length_set]
   exact Int.ofNat_lt.2 hlen
  have hadd : (St b ((l.length * b + 63) / 64) l i).getD (i * b / 64) 0 + l.getD i 0 % 2 ^ t * 2 ^ (i * b % 64) + l.getD i 0 / 2 ^ t % 2 * 2 ^ (i * b % 64 + t) = (St b ((l.length * b + 63) / 64) l i).getD (i * b / 64) 0 + l.getD i 0 % 2 ^ (t + 1) * 2 ^ (i * b % 64) := by
   rw [Nat.mod_pow_succ, Nat.add_mul, Nat.pow_add]
   have : l.getD i 0 / 2 ^ t % 2 * (2 ^ (i * b % 64) * 2 ^ t) = 2 ^ t * (l.getD i 0 / 2 ^ t % 2) * 2 ^ (i * b % 64) := by
    simp only [Nat.mul_assoc, Nat.mul_comm, Nat.mul_left_comm]
   rw [this, Nat.add_assoc]
  have hmx : (St b ((l.length * b + 63) / 64) l i).getD (i * b / 64) 0 + l.getD i 0 % 2 ^ (t + 1) * 2 ^ (i * b % 64) < 18446744073709551616 := by
   have h1 : l.getD i 0 % 2 ^ (t + 1) < 2 ^ b := Nat.lt_of_le_of_lt (Nat.mod_le _ _) hci
   have h2 := mul_lt_two (s := i * b % 64) h1
   have h3 : 2 ^ (i * b % 64 + b) ≤ 2 ^ 64 := Nat.pow_le_pow_right (by decide) hpl
   rw [two64] at h3
   have h4 := Nat.two_pow_pos (i * b % 64)
   clear hr hl ih hci h1 e1 hrd ht1 hc1 g1 g2 g3 g4 e2 e3 hadd
   generalize (2 : Nat) ^ (i * b % 64 + b) = p1 at h2 h3
   generalize (2 : Nat) ^ (i * b % 64) = p2 at *
   generalize l.getD i 0 % 2 ^ (t + 1) * p2 = p3 at *
   omega
  refine Ev.step (fun k => by rw [F102.l2, if_pos g1, e1, wdiv _ hx1, wmod, e2, e3, if_pos g2, if_pos (g4 _), if_pos (Int.natCast_nonneg _), if_pos g3, hrd, hc1, ht1, rd_up, getD_set _ _ _ _ hlen, if_pos rfl, tnC]) ?_
  refine Ev.bind (bit_f (l.getD i 0) t hc2 hb64) ?_
  refine Ev.bind (power_f (i * b % 64 + t) h63) ?_
  have hm1 : IntKind.u64.wrap (((l.getD i 0 / 2 ^ t % 2 : Nat) : Int) * ((2 ^ (i * b % 64 + t) : Nat) : Int)) = ((l.getD i 0 / 2 ^ t % 2 * 2 ^ (i * b % 64 + t) : Nat) : Int) := by
   rw [← Int.natCast_mul]
   refine wun _ ?_
   have : l.getD i 0 / 2 ^ t % 2 * 2 ^ (i * b % 64 + t) < 18446744073709551616 := by
    have h5 : l.getD i 0 / 2 ^ t % 2 * 2 ^ (i * b % 64 + t) ≤ (St b ((l.length * b + 63) / 64) l i).getD (i * b / 64) 0 + l.getD i 0 % 2 ^ (t + 1) * 2 ^ (i * b % 64) := by rw [← hadd]; exact Nat.le_add_left _ _
    exact Nat.lt_of_le_of_lt h5 hmx
   exact this
  rw [hm1, ← Int.natCast_add, hadd, wun _ hmx, set_up, List.set_set]
  exact ih (t + 1) (Nat.sub_succ b t ▸ (by rw [hd]; rfl)) htb
theorem rPack_l1 {b : Nat} (hb : b = 2 ∨ b = 4 ∨ b = 8) (l : List Nat) (hl : ∀ i, l.getD i 0 < 2 ^ b) (hn : l.length ≤ 256) : ∀ (d i : Nat), l.length - i = d → i ≤ l.length →
  Ev (fun k => F102.l1 k (up l) (b : Int) (up (St b ((l.length * b + 63) / 64) l i)) (i : Int)) (up (St b ((l.length * b + 63) / 64) l l.length)) := by
 intro d
 induction d with
 | zero =>
  intro i hd hi
  obtain rfl : i = l.length := by clear hl; omega
  refine Ev.step (fun k => by rw [F102.l1, if_neg (by rw [up_length]; omega)]) (Ev.now _)
 | succ d ih =>
  intro i hd hi
  have hlt : i < l.length := by clear hl; omega
  refine Ev.step (fun k => by rw [F102.l1, if_pos (by rw [up_length]; omega)]) ?_
  have h0 := rPack_l2 hb l hl hn i hlt (ih (i + 1) (by clear hl; omega) (by clear hl; omega)) b 0 (by clear hl; omega) (by clear hl; omega)
  have hq : i * b / 64 < (St b ((l.length * b + 63) / 64) l i).length := by
   rw [St_length]
   have hm := mulb hb hlt hn
   have := (b_le hb).2
   clear hl hb ih
   omega
  rw [Nat.pow_zero, Nat.mod_one, Nat.zero_mul] at h0
  rw [show (St b ((l.length * b + 63) / 64) l i).getD (i * b / 64) 0 + 0 = (St b ((l.length * b + 63) / 64) l i).getD (i * b / 64) 0 from rfl] at h0
  have e : (St b ((l.length * b + 63) / 64) l i).set (i * b / 64) ((St b ((l.length * b + 63) / 64) l i).getD (i * b / 64) 0) = St b ((l.length * b + 63) / 64) l i := by
   rw [gdE, List.getElem?_eq_getElem hq]
   exact List.set_getElem_self hq
  rw [e] at h0
  exact h0
theorem rPack_l0 {b : Nat} (hb : b = 2 ∨ b = 4 ∨ b = 8) (l : List Nat) (hl : ∀ i, l.getD i 0 < 2 ^ b) (hn : l.length ≤ 256) : ∀ (d i : Nat), (l.length * b + 63) / 64 - i = d → i ≤ (l.length * b + 63) / 64 →
  Ev (fun k => F102.l0 k (up l) (b : Int) (List.replicate i 0) (i : Int)) (up (St b ((l.length * b + 63) / 64) l l.length)) := by
 have hmb : l.length * b ≤ 2048 := by clear hl; rcases hb with rfl | rfl | rfl <;> omega
 have hw : Ev (fun k => F89.f k ((up l).length : Int) (b : Int)) (((l.length * b + 63) / 64 : Nat) : Int) := by
  have h1 := rWords_f (l.length : Int) (b : Int) (by clear hl; omega) (by clear hl; omega)
  rw [up_length]
  have e : ((l.length : Int) * (b : Int) + 63) / 64 = (((l.length * b + 63) / 64 : Nat) : Int) := by simp
  rw [e] at h1
  exact h1
 intro d
 induction d with
 | zero =>
  intro i hd hi
  obtain rfl : i = (l.length * b + 63) / 64 := by clear hl hw; omega
  refine Ev.step (fun k => by rw [F102.l0]) ?_
  refine Ev.bind hw ?_
  refine Ev.neg (by omega) ?_
  have h0 := rPack_l1 hb l hl hn l.length 0 (by clear hl hw; omega) (by clear hl hw; omega)
  have e : up (St b ((l.length * b + 63) / 64) l 0) = List.replicate ((l.length * b + 63) / 64) 0 := by simp [St, up]
  rw [e] at h0
  exact h0
 | succ d ih =>
  intro i hd hi
  refine Ev.step (fun k => by rw [F102.l0]) ?_
  refine Ev.bind hw ?_
  refine Ev.pos (by clear hl hw ih; omega) ?_
  refine Ev.pos (by rw [List.length_replicate]; clear hl hw ih; omega) ?_
  have h1 : List.replicate i (0 : Int) ++ [0] = List.replicate (i + 1) 0 := by rw [List.replicate_succ']
  rw [h1, w64 (x := (i : Int) + 1) (by clear hl hw ih; omega) (by clear hl hw ih; omega)]
  exact ih (i + 1) (by clear hl hw ih; omega) (by clear hl hw ih; omega)
theorem rPack_f {b : Nat} (hb : b = 2 ∨ b = 4 ∨ b = 8) (l : List Int) (hl : inR b l) (hn : l.length ≤ 256) : Ev (fun k => F102.f k l (b : Int)) (up (packed b l)) := by
 unfold F102.f packed
 have h0 := rPack_l0 hb (nat l) (nat_lt hl) (by rw [nat_length]; exact hn) ((l.length * b + 63) / 64) 0 (by rw [nat_length]; omega) (by omega)
 rw [up_nat hl, nat_length] at h0
 exact h0
theorem rOne_f (z s : Int) (l : List Int) (c : Int) : F83.f z s l c = some (one z s c) := by
 unfold F83.f F100.f F109.f one mn mx
 generalize wrap64 (wrap64 z + wrap64 (c * wrap64 s)) = v
 by_cases h1 : v < -2147483648
 ·
  rw [if_pos h1, if_pos h1]
  rfl
 ·
  rw [if_neg h1, if_neg h1]
  by_cases h2 : v > 2147483647
  ·
   rw [if_pos h2, if_pos (by omega)]
   rfl
  ·
   rw [if_neg h2, if_neg (by omega)]
   rfl
theorem take_rd (l : List Int) (i : Nat) (h : i < l.length) : l.take (i + 1) = l.take i ++ [rd l (i : Int)] := by
 rw [List.take_succ_eq_append_getElem h]
 unfold rd
 rw [tnC, gdE, List.getElem?_eq_getElem h]
 rfl
theorem rBack_l (l : List Int) (hn : l.length ≤ 1000) (z s : Int) : ∀ (d i : Nat), l.length - i = d → i ≤ l.length →
  Ev (fun k => F84.l0 k ((l.take i).map (one z s)) (i : Int) z s l) (l.map (one z s)) := by
 intro d
 induction d with
 | zero =>
  intro i hd hi
  obtain rfl : i = l.length := by omega
  refine Ev.step (fun k => by rw [F84.l0, if_neg (by omega)]) ?_
  rw [List.take_length]
  exact Ev.now _
 | succ d ih =>
  intro i hd hi
  have e : (l.take i).map (one z s) ++ [one z s (rd l (i : Int))] = (l.take (i + 1)).map (one z s) := by
   rw [take_rd l i (by omega), List.map_append]
   rfl
  refine Ev.step (fun k => by rw [F84.l0, if_pos (by omega), if_pos (by omega), rOne_f, oBs, if_pos (by rw [lnM, List.length_take]; omega), wsucc _ (by omega), e]) ?_
  exact ih (i + 1) (by omega) (by omega)
theorem rBack_f (z s : Int) (l : List Int) (hn : l.length ≤ 1000) : Ev (fun k => F84.f k z s l) (l.map (one z s)) := by
 unfold F84.f
 exact rBack_l l hn z s l.length 0 (by omega) (by omega)
def same (z s : Int) (l : List Int) (y r : Int) (m : List Int) : Bool := decide (z = y) && (decide (s = r) && decide (l = m))
theorem rSame_l (z s : Int) (l : List Int) (y r : Int) (m : List Int) (hlm : l.length = m.length) (hn : l.length < 1000000) : ∀ (d i : Nat), l.length - i = d → i ≤ l.length →
  Ev (fun k => F82.l0 k (i : Int) z s l y r m) (decide (l.drop i = m.drop i)) := by
 intro d
 induction d with
 | zero =>
  intro i hd hi
  obtain rfl : i = l.length := by omega
  refine Ev.step (fun k => by rw [F82.l0, if_neg (by omega)]) ?_
  rw [List.drop_length, hlm, List.drop_length]
  exact Ev.now _
 | succ d ih =>
  intro i hd hi
  refine Ev.step (fun k => by rw [F82.l0, if_pos (by omega), if_pos (by omega), if_pos (by omega), wsucc _ (by omega)]) ?_
  rw [drop_rd l i (by omega), drop_rd m i (by omega)]
  refine Ev.ite (fun h => ?_) (fun h => ?_)
  ·
   rw [cons_dec h]
   exact ih (i + 1) (by omega) (by omega)
  ·
   rw [cons_ne h]
   exact Ev.now _
theorem rSame_no (z s : Int) (l : List Int) (y r : Int) (m : List Int) : Ev (fun k => F82.j0 k true z s l y r m) false := by
 refine Ev.step (fun k => by rw [F82.j0, if_pos rfl]) ?_
 exact Ev.now _
theorem rSame_f (z s : Int) (l : List Int) (y r : Int) (m : List Int) (hn : l.length < 1000000) : Ev (fun k => F82.f k z s l y r m) (same z s l y r m) := by
 unfold F82.f same
 refine Ev.ite (fun h => ?_) (fun h => ?_)
 ·
  refine Ev.ite (fun h2 => ?_) (fun h2 => ?_)
  ·
   rw [decide_eq_true h, decide_eq_true h2, Bool.true_and, Bool.true_and]
   by_cases h3 : l.length = m.length
   ·
    rw [show ((l.length : Int) != (m.length : Int)) = false by rw [h3]; simp]
    refine Ev.step (fun k => by rw [F82.j0, if_neg (by decide)]) ?_
    have := rSame_l z s l y r m h3 hn l.length 0 (by omega) (by omega)
    rw [List.drop_zero, List.drop_zero] at this
    exact this
   ·
    rw [show ((l.length : Int) != (m.length : Int)) = true by rw [bne_iff_ne]; omega]
    rw [decide_eq_false (by rintro rfl; exact h3 rfl)]
    exact rSame_no _ _ _ _ _ _
  ·
   rw [decide_eq_false h2, Bool.false_and, Bool.and_false]
   exact rSame_no _ _ _ _ _ _
 ·
  rw [decide_eq_false h, Bool.false_and]
  exact rSame_no _ _ _ _ _ _
theorem rSteps_f {b : Int} (hb : b = 2 ∨ b = 4 ∨ b = 8) : Ev (fun k => F81.f k b) (stp b) := by
 rcases hb with rfl | rfl | rfl
 ·
  exact Ev.of (F81.mono 2) (k := 20) (by decide +kernel)
 ·
  exact Ev.of (F81.mono 4) (k := 20) (by decide +kernel)
 ·
  exact Ev.of (F81.mono 8) (k := 20) (by decide +kernel)
theorem rBits_f (b : Int) : F31.f b = some (okb b) := by
 unfold F31.f okb
 by_cases h2 : b = 2
 ·
  simp [h2]
 ·
  by_cases h4 : b = 4
  ·
   simp [h4]
  ·
   simp [h2, h4]
theorem rMany_f (n b : Int) : F80.f n b = some (many n b) := by
 unfold F80.f many
 rw [rBits_f, oBs]
 repeat' split
 all_goals rfl
theorem rRight_l1 (z s : Int) (l : List Int) (b : Int) (hb : b = 2 ∨ b = 4 ∨ b = 8) (hn : l.length ≤ 1000) : ∀ (d i : Nat), l.length - i = d → i ≤ l.length →
  Ev (fun k => F51.l1 k b (i : Int) z s l) (if (l.drop i).any (oor b) = true then 11 else 0) := by
 intro d
 induction d with
 | zero =>
  intro i hd hi
  obtain rfl : i = l.length := by omega
  refine Ev.step (fun k => by rw [F51.l1, if_neg (by omega)]) ?_
  rw [List.drop_length]
  exact Ev.now _
 | succ d ih =>
  intro i hd hi
  refine Ev.step (fun k => by rw [F51.l1, if_pos (by omega), if_pos (by omega), wsucc _ (by omega)]) ?_
  have h2 := ih (i + 1) (by omega) (by omega)
  rw [drop_rd l i (by omega), List.any_cons]
  refine Ev.ite (fun h => ?_) (fun h => ?_)
  ·
   rw [show oor b (rd l (i : Int)) = true by simp [oor, h], Bool.true_or, if_pos rfl]
   exact Ev.now _
  ·
   refine Ev.bind (rSteps_f hb) (Ev.ite (fun h3 => ?_) (fun h3 => ?_))
   ·
    rw [show oor b (rd l (i : Int)) = true by simp [oor, h3], Bool.true_or, if_pos rfl]
    exact Ev.now _
   ·
    rw [show oor b (rd l (i : Int)) = false by simp [oor]; omega, Bool.false_or]
    exact h2
theorem rRight_l0 (z s : Int) (l : List Int) (b : Int) (hb : b = 2 ∨ b = 4 ∨ b = 8) (hn : l.length ≤ 1000) : ∀ (d i : Nat), l.length - i = d → i ≤ l.length →
  Ev (fun k => F51.l0 k b (i : Int) z s l) (if s = 0 ∧ (l.drop i).any (· != 0) = true then 21 else if l.any (oor b) = true then 11 else 0) := by
 intro d
 induction d with
 | zero =>
  intro i hd hi
  obtain rfl : i = l.length := by omega
  refine Ev.step (fun k => by rw [F51.l0, if_neg (by omega)]) ?_
  rw [List.drop_length, if_neg (by simp)]
  have := rRight_l1 z s l b hb hn l.length 0 (by omega) (by omega)
  rw [List.drop_zero] at this
  exact this
 | succ d ih =>
  intro i hd hi
  have h2 := ih (i + 1) (by omega) (by omega)
  refine Ev.step (fun k => by rw [F51.l0, if_pos (by omega), wsucc _ (by omega)]) ?_
  rw [drop_rd l i (by omega), List.any_cons]
  refine Ev.ite (fun hs => Ev.pos (by omega) (Ev.ite (fun h3 => ?_) (fun h3 => ?_))) (fun hs => ?_)
  ·
   rw [show (rd l (i : Int) != 0) = false by simp [h3], Bool.false_or]
   exact h2
  ·
   rw [show (rd l (i : Int) != 0) = true by simp [h3], Bool.true_or, if_pos ⟨hs, rfl⟩]
   exact Ev.now _
  ·
   rw [if_neg (fun h => hs h.1)] at h2 ⊢
   exact h2
theorem rRight_f (z s : Int) (l : List Int) (b : Int) (hn : l.length ≤ 1000) : Ev (fun k => F51.f k z s l b) (rgt s l b) := by
 unfold F51.f rgt
 simp only [rMany_f, oBs]
 refine Ev.ite (fun h0 => ?_) (fun h0 => ?_)
 ·
  rw [if_pos h0]
  have hb := (many_0 h0).1
  refine Ev.ite (fun h1 => ?_) (fun h1 => ?_)
  ·
   rw [if_pos h1]
   exact Ev.now _
  ·
   rw [if_neg h1]
   have := rRight_l0 z s l b hb hn l.length 0 (by omega) (by omega)
   rw [List.drop_zero] at this
   exact this
 ·
  rw [if_neg h0]
  exact Ev.now _
theorem B_extract0 (l : List Nat) (n : Nat) : (B l).extract 0 n = B (l.take n) := by
 apply ba_ext
 rw [ByteArray.data_extract, Array.toList_extract, B_list, B_list, List.map_take]
 simp
theorem rOpen_short (l : List Nat) (h : l.length < 4) : Ev (fun k => F58.f k (B l)) (B [], 16) := by
 unfold F58.f
 rw [B_size]
 exact Ev.pos (by omega) (Ev.now _)
theorem rOpen_long (l : List Nat) (hl : Bys l) (h : 4 ≤ l.length) (hn : l.length < 900000) :
  Ev (fun k => F58.f k (B l)) (if l = cl (l.take (l.length - 4)) then (B (l.take (l.length - 4)), 0) else (B [], 22)) := by
 unfold F58.f
 rw [B_size, w64 (by omega) (by omega)]
 have e : ((l.length : Int) - 4).toNat = l.length - 4 := by omega
 refine Ev.neg (by omega) (Ev.pos (by omega) (Ev.pos (by omega) ?_))
 rw [e, B_extract0]
 have hb := hl.take (l.length - 4)
 have hlen : (l.take (l.length - 4)).length < 900000 := by rw [List.length_take]; omega
 refine Ev.bind (rClose_f _ hb hlen) ?_
 refine Ev.ite (fun hq => ?_) (fun hq => ?_)
 ·
  rw [if_pos (B_inj hl (cl_bys hb) hq.symm)]
  exact Ev.now _
 ·
  rw [if_neg (fun hc => hq (by rw [← hc]))]
  exact Ev.now _
theorem B_extract (l : List Nat) (a b : Nat) : (B l).extract a b = B ((l.drop a).take (b - a)) := by
 apply ba_ext
 rw [ByteArray.data_extract, Array.toList_extract, B_list, B_list, List.extract_eq_take_drop, List.map_take, List.map_drop]
theorem lt32 (q : List Nat) (hq : Bys q) (h : q.length ≤ 4) : nm 0 q < 4294967296 := by
 have h1 := nm_lt q 0 0 hq (by decide)
 have h2 : 256 ^ (0 + q.length) ≤ 256 ^ 4 := Nat.pow_le_pow_right (by decide) (by omega)
 have h3 : (256 : Nat) ^ 4 = 4294967296 := rfl
 omega
theorem B_extract_end (l : List Nat) (n : Nat) : (B l).extract n (B l).size = B (l.drop n) := by
 apply ba_ext
 rw [ByteArray.data_extract, Array.toList_extract, B_list, B_list, List.map_drop, B_size]
 rw [List.extract_eq_take_drop, List.take_of_length_le]
 simp
theorem rnum_z (v c : Nat) (hv : v < 72057594037927936) (hc : c < 256) : IntKind.u64.wrap ((IntKind.u64.wrap ((v : Int) * 256)) + (IntKind.u64.wrap (c : Int))) = ((nstep v c : Nat) : Int) := by
 rw [wu64 (x := (v : Int) * 256) (by omega) (by omega), wun c (by omega), wu64 (by omega) (by omega)]
 unfold nstep
 omega
theorem rNumber_l (l : List Nat) (hl : Bys l) (hn : l.length ≤ 8) : ∀ (d i v : Nat), l.length - i = d → i ≤ l.length → v < 256 ^ i →
  Ev (fun k => F59.l0 k (B l) (v : Int) (i : Int)) ((nm v (l.drop i) : Nat) : Int) := by
 intro d
 induction d with
 | zero =>
  intro i v hd hi hv
  obtain rfl : i = l.length := by omega
  refine Ev.step (fun k => by rw [F59.l0, B_size, if_neg (by omega)]) ?_
  rw [List.drop_length]
  exact Ev.now _
 | succ d ih =>
  intro i v hd hi hv
  have h7 := pow_le7 (j := i) (by omega)
  have hc := hl.getD i
  refine Ev.step (fun k => by rw [F59.l0, B_size, if_pos (by omega), if_pos (by omega), bt_B hl i (by omega), rnum_z v _ (Nat.lt_of_lt_of_le hv h7) hc, wsucc _ (by omega)]) ?_
  rw [drop_getD l i (by omega)]
  refine ih (i + 1) _ (by omega) (by omega) ?_
  unfold nstep
  rw [Nat.pow_succ]
  clear ih h7
  omega
theorem rNumber_f (l : List Nat) (hl : Bys l) (hn : l.length ≤ 8) : Ev (fun k => F59.f k (B l)) ((nm 0 l : Nat) : Int) := by
 unfold F59.f
 exact rNumber_l l hl hn l.length 0 0 (by omega) (by omega) (by decide)
theorem rSigned_p (l : List Nat) (hl : Bys l) (h : l.length ≤ 4) : Ev (fun k => F90.f k (B l)) (wrap32 (((nm 0 l : Nat) : Int) % 4294967296)) := by
 unfold F90.f
 refine Ev.bind (rNumber_f l hl (by omega)) ?_
 have hv := lt32 l hl h
 generalize nm 0 l = v at hv
 rw [wn v (by omega)]
 refine Ev.ite (fun h2 => ?_) (fun h2 => ?_)
 ·
  rw [w64 (x := (v : Int) - 4294967296) (by omega) (by omega)]
  refine Ev.eq (Ev.now _) ?_
  unfold wrap32
  omega
 ·
  refine Ev.eq (Ev.now _) ?_
  unfold wrap32
  omega
theorem words_nat {b : Nat} (hb : b = 2 ∨ b = 4 ∨ b = 8) (n : Nat) (hn : n ≤ 256) : wordsZ (n : Int) (b : Int) = (((n * b + 63) / 64 : Nat) : Int) := by
 unfold wordsZ
 rw [if_pos ⟨okb_of hb, by omega, by omega⟩]
 simp
theorem Unpack_rest {b : Nat} (hb : b = 2 ∨ b = 4 ∨ b = 8) (W : List Nat) (n : Nat) (hn : n ≤ 256) (hlen : W.length = (n * b + 63) / 64)
  (hu : 0 < n * b % 64) (hr : W.getD (W.length - 1) 0 / 2 ^ (n * b % 64) ≠ 0) : Ev (fun k => F75.f k (up W) (n : Int) (b : Int)) ([], 10) := by
 have hmb : n * b ≤ 2048 := by rcases hb with rfl | rfl | rfl <;> omega
 unfold F75.f
 simp only [Bits_f, many_f, Words_f, oBs]
 refine Ev.pos (okb_of hb) ?_
 refine Ev.pos (by simp; omega) ?_
 refine Ev.pos (by rw [words_nat hb n hn, up_length, hlen]) ?_
 rw [wi n b (by omega), wmod]
 refine Ev.pos (by omega) ?_
 have hpos : 0 < W.length := by rw [hlen]; omega
 have e1 : wrap64 (((up W).length : Int) - 1) = ((W.length - 1 : Nat) : Int) := by
  rw [up_length]
  rw [hlen] at hpos ⊢
  rw [w64 (by omega) (by omega)]
  omega
 rw [e1]
 refine Ev.pos (by omega) ?_
 refine Ev.pos (by rw [up_length]; omega) ?_
 refine Ev.pos (by omega) ?_
 rw [rd_up, shr_u64 _ _ (by omega)]
 have e2 : (((W.getD (W.length - 1) 0 / 2 ^ (n * b % 64) : Nat) : Int) != 0) = true := by
  rw [bne_iff_ne]
  exact_mod_cast hr
 rw [e2]
 refine Ev.step (fun k => by rw [F75.j0]) ?_
 exact Ev.pos rfl (Ev.now _)
theorem Rest_l (W : List Nat) (hW : ∀ j, W.getD j 0 < 18446744073709551616) (hlen : W.length ≤ 1000) (hpos : 0 < W.length) : ∀ (d s : Nat), 64 - s = d → s ≤ 64 →
  Ev (fun k => F91.l0 k (up W) ((64 * (W.length - 1) + s : Nat) : Int)) (decide (W.getD (W.length - 1) 0 / 2 ^ s ≠ 0)) := by
 have e64 : wrap64 (64 * ((up W).length : Int)) = ((64 * W.length : Nat) : Int) := by
  rw [up_length]
  have : (64 : Int) * (W.length : Int) = ((64 * W.length : Nat) : Int) := by simp
  rw [this]
  exact wn _ (by omega)
 intro d
 induction d with
 | zero =>
  intro s hd hs
  obtain rfl : s = 64 := by omega
  refine Ev.step (fun k => by rw [F91.l0, e64, if_neg (by omega)]) ?_
  have h0 := hW (W.length - 1)
  rw [← two64] at h0
  rw [Nat.div_eq_of_lt h0]
  exact Ev.now _
 | succ d ih =>
  intro s hd hs
  have hs63 : s ≤ 63 := by omega
  have e1 : (64 * (W.length - 1) + s) / 64 = W.length - 1 := by omega
  have e2 : (64 * (W.length - 1) + s) % 64 = s := by omega
  have hx : 64 * (W.length - 1) + s < 100000 := by omega
  refine Ev.step (fun k => by rw [F91.l0, e64, if_pos (by omega), wdiv _ hx, wmod, e1, e2, if_pos (Int.natCast_nonneg _), if_pos (by rw [up_length]; omega), rd_up, wsucc _ (by omega)]) ?_
  refine Ev.bind (bit_f _ s (hW _) (by omega)) ?_
  have h2 : W.getD (W.length - 1) 0 / 2 ^ s = W.getD (W.length - 1) 0 / 2 ^ (s + 1) * 2 + W.getD (W.length - 1) 0 / 2 ^ s % 2 := by
   rw [Nat.pow_succ, ← Nat.div_div_eq_div_mul]
   omega
  by_cases hb : W.getD (W.length - 1) 0 / 2 ^ s % 2 = 1
  ·
   refine Ev.pos (by rw [hb]; rfl) ?_
   rw [decide_eq_true (by omega)]
   exact Ev.now _
  ·
   refine Ev.neg (by intro h; exact hb (by exact_mod_cast h)) ?_
   have h3 := ih (s + 1) (by omega) (by omega)
   have e3 : decide (W.getD (W.length - 1) 0 / 2 ^ (s + 1) ≠ 0) = decide (W.getD (W.length - 1) 0 / 2 ^ s ≠ 0) := by
    apply decide_eq_decide.2
    omega
   rw [e3] at h3
   exact h3
theorem Rest_f {b : Nat} (hb : b = 2 ∨ b = 4 ∨ b = 8) (W : List Nat) (hW : ∀ j, W.getD j 0 < 18446744073709551616) (n : Nat) (hn : n ≤ 256) (hlen : W.length = (n * b + 63) / 64) :
  Ev (fun k => F91.f k (up W) (n : Int) (b : Int)) (decide (0 < n * b % 64 ∧ W.getD (W.length - 1) 0 / 2 ^ (n * b % 64) ≠ 0)) := by
 have hmb : n * b ≤ 2048 := by rcases hb with rfl | rfl | rfl <;> omega
 unfold F91.f
 rw [wi n b (by omega)]
 by_cases hu : 0 < n * b % 64
 ·
  have h0 := Rest_l W hW (by omega) (by omega) (64 - n * b % 64) (n * b % 64) (by omega) (by omega)
  have e : 64 * (W.length - 1) + n * b % 64 = n * b := by omega
  rw [e] at h0
  have e2 : decide (W.getD (W.length - 1) 0 / 2 ^ (n * b % 64) ≠ 0) = decide (0 < n * b % 64 ∧ W.getD (W.length - 1) 0 / 2 ^ (n * b % 64) ≠ 0) := by
   apply decide_eq_decide.2
   exact ⟨fun h => ⟨hu, h⟩, fun h => h.2⟩
  rw [e2] at h0
  exact h0
 ·
  have e64 : wrap64 (64 * ((up W).length : Int)) = ((64 * W.length : Nat) : Int) := by
   rw [up_length]
   have : (64 : Int) * (W.length : Int) = ((64 * W.length : Nat) : Int) := by simp
   rw [this]
   exact wn _ (by omega)
  refine Ev.step (fun k => by rw [F91.l0, e64, if_neg (by omega)]) ?_
  rw [decide_eq_false (fun h => hu h.1)]
  exact Ev.now _
theorem nat_lanes (b : Nat) (W : List Nat) (n : Nat) : nat (lanes b W n) = (List.range n).map (lane b W) := by
 unfold nat lanes up
 rw [List.map_map]
 conv => rhs; rw [← List.map_id ((List.range n).map (lane b W))]
 exact List.map_congr_left fun x _ => by simp
theorem St_lanes {b : Nat} (hb : b = 2 ∨ b = 4 ∨ b = 8) (W : List Nat) (n : Nat) (hlen : W.length = (n * b + 63) / 64) : ∀ i, i ≤ n → ∀ j, j < W.length →
  (St b W.length ((List.range n).map (lane b W)) i).getD j 0 = W.getD j 0 % 2 ^ (min 64 (i * b - 64 * j))
 | 0, _, j, hj => by
  have e : min 64 (0 * b - 64 * j) = 0 := by omega
  rw [e, Nat.pow_zero, Nat.mod_one]
  simp only [St]
  rw [gdE, List.getElem?_replicate]
  split <;> rfl
 | i + 1, hi, j, hj => by
  have ih := St_lanes hb W n hlen i (by omega)
  have hpl := place hb i
  have hbl := (b_le hb).2
  have hmul : (i + 1) * b = i * b + b := by rw [Nat.add_mul, Nat.one_mul]
  have hq : i * b / 64 < W.length := by
   have : (i + 1) * b ≤ n * b := Nat.mul_le_mul_right _ hi
   omega
  have hl : ((List.range n).map (lane b W)).getD i 0 = lane b W i := by
   rw [gdE, List.getElem?_eq_getElem (by simp; omega)]
   simp
  simp only [St]
  rw [getD_set _ _ _ _ (by rw [St_length]; exact hq), hl]
  by_cases hjq : j = i * b / 64
  ·
   rw [if_pos hjq, hjq, ih _ hq]
   have e1 : min 64 (i * b - 64 * (i * b / 64)) = i * b % 64 := by omega
   have e2 : min 64 ((i + 1) * b - 64 * (i * b / 64)) = i * b % 64 + b := by omega
   rw [e1, e2, Nat.pow_add, Nat.mod_mul]
   unfold lane
   rw [Nat.mul_comm (2 ^ (i * b % 64))]
  ·
   rw [if_neg hjq, ih j hj]
   by_cases hlt : j < i * b / 64
   ·
    have e1 : min 64 (i * b - 64 * j) = 64 := by omega
    have e2 : min 64 ((i + 1) * b - 64 * j) = 64 := by omega
    rw [e1, e2]
   ·
    have e1 : min 64 (i * b - 64 * j) = 0 := by omega
    have e2 : min 64 ((i + 1) * b - 64 * j) = 0 := by omega
    rw [e1, e2]
theorem packed_lanes {b : Nat} (hb : b = 2 ∨ b = 4 ∨ b = 8) (W : List Nat) (hW : ∀ j, W.getD j 0 < 18446744073709551616) (n : Nat) (hlen : W.length = (n * b + 63) / 64)
  (hr : ¬ (0 < n * b % 64 ∧ W.getD (W.length - 1) 0 / 2 ^ (n * b % 64) ≠ 0)) : packed b (lanes b W n) = W := by
 unfold packed
 rw [lanes_length, nat_lanes, ← hlen]
 apply List.ext_getElem
 ·
  rw [St_length]
 ·
  intro j h1 h2
  have h3 := St_lanes hb W n hlen n (Nat.le_refl _) j h2
  rw [gdE, List.getElem?_eq_getElem h1] at h3
  have h4 : W.getD j 0 = W[j] := by rw [gdE, List.getElem?_eq_getElem h2]; rfl
  rw [h4] at h3
  have hj64 := hW j
  rw [h4] at hj64
  simp only [Option.getD_some] at h3
  rw [h3]
  by_cases hfull : 64 ≤ n * b - 64 * j
  ·
   rw [Nat.min_eq_left hfull, two64, Nat.mod_eq_of_lt hj64]
  ·
   have hjl : j = W.length - 1 := by omega
   have hu : 0 < n * b % 64 := by omega
   have e : min 64 (n * b - 64 * j) = n * b % 64 := by omega
   rw [e]
   have h5 : W.getD (W.length - 1) 0 / 2 ^ (n * b % 64) = 0 := by
    by_cases h6 : W.getD (W.length - 1) 0 / 2 ^ (n * b % 64) = 0
    ·
     exact h6
    ·
     exact absurd ⟨hu, h6⟩ hr
   rw [← hjl, h4] at h5
   exact Nat.mod_eq_of_lt ((Nat.div_eq_zero_iff_lt (Nat.two_pow_pos _)).1 h5)
theorem rLane_l {b : Nat} (hb : b = 2 ∨ b = 4 ∨ b = 8) (W : List Nat) (hW : ∀ j, W.getD j 0 < 18446744073709551616) (hlen : W.length ≤ 1000) (i : Nat) (hi : i * b / 64 < W.length) : ∀ (d t : Nat), b - t = d → t ≤ b →
  Ev (fun k => F92.l0 k (up W) (i : Int) (b : Int) ((W.getD (i * b / 64) 0 / 2 ^ (i * b % 64) % 2 ^ t : Nat) : Int) (t : Int)) ((W.getD (i * b / 64) 0 / 2 ^ (i * b % 64) % 2 ^ b : Nat) : Int) := by
 have hbl := (b_le hb).2
 have hp8 := (b_le hb).1
 have hpl := (place hb i).1
 have hib : i * b ≤ 64000 := by clear hp8 hW; omega
 have hy : ∀ t, t ≤ b → W.getD (i * b / 64) 0 / 2 ^ (i * b % 64) % 2 ^ t < 256 := fun t ht =>
  Nat.lt_of_lt_of_le (Nat.mod_lt _ (Nat.two_pow_pos t)) (Nat.le_trans (Nat.pow_le_pow_right (by decide) ht) hp8)
 clear hb hp8
 intro d
 induction d with
 | zero =>
  intro t hd ht
  obtain rfl : t = b := by clear hW hy; omega
  refine Ev.step (fun k => by rw [F92.l0, if_neg (by clear hW hy; omega)]) ?_
  rw [wn _ (Nat.lt_trans (hy t (Nat.le_refl _)) (by decide))]
  exact Ev.now _
 | succ d ih =>
  intro t hd ht
  have htb : t < b := by clear hW hy ih; omega
  have a1 : (i * b + t) / 64 = i * b / 64 ∧ (i * b + t) % 64 = i * b % 64 + t ∧ i * b % 64 + t ≤ 63 ∧ i * b + t < 100000 ∧ t ≤ 63 := by
   have h8 := hbl.1
   clear hW hy ih
   omega
  obtain ⟨e2, e3, h63, hx1, h64⟩ := a1
  have e1 : wrap64 (wrap64 ((i : Int) * (b : Int)) + (t : Int)) = ((i * b + t : Nat) : Int) := by
   rw [wi i b (Nat.lt_of_le_of_lt (Nat.le_add_right _ t) hx1)]
   exact wadd _ _ (Nat.lt_trans hx1 (by decide))
  refine Ev.step (fun k => by rw [F92.l0, if_pos (Int.ofNat_lt.2 htb), e1, wdiv _ hx1, wmod, e2, e3, if_pos (Int.natCast_nonneg _), if_pos (by rw [up_length]; exact Int.ofNat_lt.2 hi), rd_up, wsucc t (Nat.lt_of_le_of_lt (Nat.succ_le_succ h64) (by decide))]) ?_
  refine Ev.bind (bit_f _ (i * b % 64 + t) (hW _) (Nat.le_trans h63 (by decide))) ?_
  refine Ev.bind (power_f t h64) ?_
  have hadd : W.getD (i * b / 64) 0 / 2 ^ (i * b % 64) % 2 ^ t + W.getD (i * b / 64) 0 / 2 ^ (i * b % 64 + t) % 2 * 2 ^ t = W.getD (i * b / 64) 0 / 2 ^ (i * b % 64) % 2 ^ (t + 1) := by
   rw [Nat.mod_pow_succ, Nat.pow_add, Nat.div_div_eq_div_mul, Nat.mul_comm (2 ^ t) (_ % 2)]
  have h1 := hy (t + 1) htb
  have hm : IntKind.u64.wrap (((W.getD (i * b / 64) 0 / 2 ^ (i * b % 64 + t) % 2 : Nat) : Int) * ((2 ^ t : Nat) : Int)) = ((W.getD (i * b / 64) 0 / 2 ^ (i * b % 64 + t) % 2 * 2 ^ t : Nat) : Int) := by
   rw [← Int.natCast_mul]
   refine wun _ ?_
   refine Nat.lt_of_le_of_lt ?_ (Nat.lt_trans h1 (by decide))
   rw [← hadd]
   exact Nat.le_add_left _ _
  rw [hm, ← Int.natCast_add, hadd, wun _ (Nat.lt_trans h1 (by decide))]
  exact ih (t + 1) (by clear hW hy ih h1 hadd hm e1; omega) htb
theorem rLane_f {b : Nat} (hb : b = 2 ∨ b = 4 ∨ b = 8) (W : List Nat) (hW : ∀ j, W.getD j 0 < 18446744073709551616) (hlen : W.length ≤ 1000) (i : Nat) (hi : i < W.length * (64 / b)) :
  Ev (fun k => F92.f k (up W) (i : Int) (b : Int)) ((W.getD (i * b / 64) 0 / 2 ^ (i * b % 64) % 2 ^ b : Nat) : Int) := by
 have hib : i * b / 64 < W.length := by rcases hb with rfl | rfl | rfl <;> omega
 unfold F92.f
 have h0 := rLane_l hb W hW hlen i hib b 0 (by omega) (by omega)
 rw [Nat.pow_zero, Nat.mod_one] at h0
 exact h0
theorem be_nm : ∀ (n : Nat) (q : List Nat), q.length = n → Bys q → be n (nm 0 q) = q
 | 0, q, h, _ => by rw [List.eq_nil_of_length_eq_zero h]; rfl
 | n + 1, q, h, hq => by
  rcases List.eq_nil_or_concat q with rfl | ⟨p, c, rfl⟩
  ·
   simp at h
  ·
   have hc : c < 256 := hq c (by simp)
   have hp : Bys p := fun x hx => hq x (by simp [hx])
   have hl : p.length = n := by simpa using h
   have e : nm 0 (p ++ [c]) = nm 0 p * 256 + c := by rw [nm_app]; rfl
   rw [List.concat_eq_append, e, be, show (nm 0 p * 256 + c) / 256 = nm 0 p by omega, show (nm 0 p * 256 + c) % 256 = c by omega, be_nm n p hl hp]
def tr (g : S47) : S98 := ⟨g.f0, g.f1, g.f2⟩
theorem rd47 (G : List S47) (i : Nat) : rd_T47 G (i : Int) = G.getD i z47 := by
 unfold rd_T47
 rw [tnC]
theorem rd98 (G : List S47) (i : Nat) (h : i < G.length) : rd_T98 (G.map tr) (i : Int) = tr (G.getD i z47) := by
 unfold rd_T98
 rw [tnC]
 exact getD_map _ _ _ _ _ h
theorem groups_map (G : List S47) (hl : G.length ≤ 1000) : Ev (fun k => F22.f k G) (G.map tr) := by
 have h : ∀ (d i : Nat), G.length - i = d → i ≤ G.length → Ev (fun k => F22.l0 k ((G.take i).map tr) G (G.length : Int) (i : Int)) (G.map tr) := by
  intro d
  induction d with
  | zero =>
   intro i hd hi
   obtain rfl : i = G.length := by omega
   rw [List.take_length]
   exact Ev.step (fun k => by rw [F22.l0, if_neg (by omega)]) (Ev.now _)
  | succ d ih =>
   intro i hd hi
   have h3 := ih (i + 1) (by omega) (by omega)
   rw [take_getD G z47 i (by omega), List.map_append] at h3
   refine Ev.step (fun k => by rw [F22.l0, if_pos (by omega), if_pos (by omega), if_pos (by omega), if_pos (by rw [lnM, List.length_take]; omega), rd47, wsucc i (by omega)]) ?_
   exact h3
 exact h G.length 0 (by omega) (by omega)
theorem same_self (z s : Int) (l : List Int) : same z s l z s l = true := by simp [same]
theorem groups_same (G : List S98) (hl : G.length ≤ 1000) (h : ∀ g ∈ G, g.f2.length ≤ 1000) : Ev (fun k => F52.f k G G) true := by
 have h2 : ∀ (d i : Nat), G.length - i = d → i ≤ G.length → Ev (fun k => F52.l0 k G G (i : Int)) true := by
  intro d
  induction d with
  | zero =>
   intro i hd hi
   exact Ev.step (fun k => by rw [F52.l0, if_neg (by omega)]) (Ev.now _)
  | succ d ih =>
   intro i hd hi
   have h3 := ih (i + 1) (by omega) (by omega)
   have e : rd_T98 G (i : Int) = G.getD i z98 := by
    unfold rd_T98
    rw [tnC]
   have hg := h _ (getD_mem G z98 i (by omega))
   refine Ev.step (fun k => by rw [F52.l0, if_pos (by omega), if_pos (by omega), if_pos (by omega), e, wsucc i (by omega)]) ?_
   exact Ev.bind (Ev.eq (rSame_f _ _ _ _ _ _ (by omega)) (same_self _ _ _)) (Ev.pos rfl h3)
 unfold F52.f
 exact Ev.pos rfl (h2 G.length 0 (by omega) (by omega))
theorem nums_same (l : List Int) (hl : l.length ≤ 1000) : Ev (fun k => F53.f k l l) true := by
 have h2 : ∀ (d i : Nat), l.length - i = d → i ≤ l.length → Ev (fun k => F53.l0 k l l (i : Int)) true := by
  intro d
  induction d with
  | zero =>
   intro i hd hi
   exact Ev.step (fun k => by rw [F53.l0, if_neg (by omega)]) (Ev.now _)
  | succ d ih =>
   intro i hd hi
   refine Ev.step (fun k => by rw [F53.l0, if_pos (by omega), if_pos (by omega), if_pos (by omega), if_pos rfl, wsucc i (by omega)]) ?_
   exact ih (i + 1) (by omega) (by omega)
 unfold F53.f
 exact Ev.pos rfl (h2 l.length 0 (by omega) (by omega))
theorem rKey_f {m n : Nat} (K : List S47) (hK : Gs K m n) (hn : n ≤ 16) (hl : K.length ≤ 16) (V : List S98) (a0 a1 a2 a3 a4 a5 a6 : Int) (i : Nat) (hi : i < n) : Ev (fun k => F54.f k a0 a1 a2 a3 a4 a5 a6 (K.map tr) V (i : Int)) (K.map (fun g => mn1 g i)) := by
 have h : ∀ (d j : Nat), K.length - j = d → j ≤ K.length → Ev (fun k => F54.l0 k (i : Int) ((K.take j).map (fun g => mn1 g i)) (j : Int) a0 a1 a2 a3 a4 a5 a6 (K.map tr) V) (K.map (fun g => mn1 g i)) := by
  intro d
  induction d with
  | zero =>
   intro j hd hj
   obtain rfl : j = K.length := by omega
   rw [List.take_length]
   exact Ev.step (fun k => by rw [F54.l0, if_neg (by rw [lnM]; omega)]) (Ev.now _)
  | succ d ih =>
   intro j hd hj
   have h3 := ih (j + 1) (by omega) (by omega)
   rw [take_getD K z47 j (by omega), List.map_append] at h3
   have hg := (hK _ (getD_mem K z47 j (by omega))).n
   refine Ev.step (fun k => by rw [F54.l0, if_pos (by rw [lnM]; omega), if_pos (by omega), if_pos (by omega), rd98 K j (by omega), if_pos (by show (i : Int) < ((K.getD j z47).f2.length : Int); omega), rOne_f, oBs, if_pos (by rw [lnM, List.length_take]; omega), wsucc j (by omega)]) ?_
   exact h3
 exact h K.length 0 (by omega) (by omega)
theorem rd_map_one (z s : Int) (l : List Int) : l.map (one z s) = (List.range l.length).map (fun (j : Nat) => one z s (rd l (j : Int))) := by
 apply List.ext_getElem
 ·
  rw [lnM, lnM, List.length_range]
 ·
  intro j h1 h2
  rw [List.getElem_map, List.getElem_map, List.getElem_range]
  rw [lnM] at h1
  rw [rd, tnC, gdE, List.getElem?_eq_getElem h1]
  rfl
theorem rValue_f {m n : Nat} (V : List S47) (hV : Gs V m n) (hn : n ≤ 16) (K : List S98) (a0 a1 a2 a3 a4 a5 a6 : Int) (i : Nat) (hi : i < V.length) : Ev (fun k => F55.f k a0 a1 a2 a3 a4 a5 a6 K (V.map tr) (i : Int)) ((List.range n).map (fun j => mn1 (V.getD i z47) j)) := by
 have hg := (hV _ (getD_mem V z47 i hi)).n
 unfold F55.f
 rw [rd98 V i hi]
 refine Ev.pos (by omega) (Ev.pos (by rw [lnM]; omega) ?_)
 refine Ev.eq (Ev.bind (rBack_f (tr (V.getD i z47)).f0 (tr (V.getD i z47)).f1 (tr (V.getD i z47)).f2 (by show (V.getD i z47).f2.length ≤ 1000; omega)) (Ev.now _)) ?_
 show (V.getD i z47).f2.map (one (V.getD i z47).f0 (V.getD i z47).f1) = _
 rw [rd_map_one, hg]
 rfl
theorem range_getD {t i : Nat} (h : i < t) : (List.range t).getD i 0 = i := by
 rw [gdE, List.getElem?_eq_getElem (by rw [List.length_range]; exact h), List.getElem_range]
 rfl
theorem map_range (K : List S47) (f : S47 → Int) : (List.range K.length).map (fun j => f (K.getD j z47)) = K.map f := by
 apply List.ext_getElem
 ·
  rw [lnM, lnM, List.length_range]
 ·
  intro j h1 h2
  rw [List.getElem_map, List.getElem_map, List.getElem_range]
  rw [lnM] at h2
  rw [gdE, List.getElem?_eq_getElem h2]
  rfl
theorem rWord_f (z : Int) (h0 : -2147483648 ≤ z) (h1 : z < 2147483648) : Ev (fun k => F101.f k z) (B (be 4 (zn z))) := by
 unfold F101.f
 have e : IntKind.u64.wrap (wrap64 (wrap64 z + 4294967296)) = ((z + 4294967296).toNat : Int) := by
  rw [w64 (x := z) (by omega) (by omega), w64 (x := z + 4294967296) (by omega) (by omega), wu64 (by omega) (by omega)]
  omega
 rw [e]
 have h : be 4 (z + 4294967296).toNat = be 4 (zn z) := by
  have h5 : (z + 4294967296).toNat % 4294967296 = zn z := by unfold zn; omega
  have h6 : zn z % 4294967296 = zn z := by unfold zn; omega
  have h7 : ∀ v w : Nat, v % 4294967296 = w % 4294967296 → be 4 v = be 4 w := by
   intro v w e
   simp only [be]
   rw [show v % 256 = w % 256 by omega, show v / 256 % 256 = w / 256 % 256 by omega, show v / 256 / 256 % 256 = w / 256 / 256 % 256 by omega, show v / 256 / 256 / 256 % 256 = w / 256 / 256 / 256 % 256 by omega]
  exact h7 _ _ (by rw [h5, h6])
 refine Ev.bind (rBytes_f _ 4 (by decide) (by omega)) ?_
 rw [h]
 exact Ev.now _
theorem rgroup_f {m n : Nat} (hm : m = 2 ∨ m = 4 ∨ m = 8) (g : S47) (hg : RG m n g) (h1 : 1 ≤ n) (h2 : n ≤ 16) : Ev (fun k => F86.f k g.f0 g.f1 g.f2 (m : Int)) (B (gby m g)) := by
 have hin := hg.inR hm h1 h2
 have hs0 := hg.s0
 have hs1 := hg.s1
 have hw := packed_w hm g.f2 (by rw [hg.n]; omega)
 have hlt := packed_lt hm _ hin
 unfold F86.f
 have e : IntKind.u64.wrap g.f1 = ((g.f1.toNat : Nat) : Int) := by
  rw [wu64 hs0 (by omega)]
  omega
 rw [e]
 refine Ev.bind (rWord_f _ hg.z0 hg.z1) (Ev.bind (rBytes_f _ 4 (by decide) (by omega)) (Ev.pos (by rw [B_size, B_size, be_length, be_length]; omega) (Ev.bind (rPack_f hm g.f2 hin (by rw [hg.n]; omega)) ?_)))
 rw [B_app]
 have h : ∀ (d i : Nat), (packed m g.f2).length - i = d → i ≤ (packed m g.f2).length → Ev (fun k => F86.l0 k (B (be 4 (zn g.f0) ++ be 4 g.f1.toNat ++ wby ((packed m g.f2).take i))) (up (packed m g.f2)) (i : Int)) (B (gby m g)) := by
  intro d
  induction d with
  | zero =>
   intro i hd hi
   obtain rfl : i = (packed m g.f2).length := by omega
   rw [List.take_length]
   refine Ev.step (fun k => by rw [F86.l0, if_neg (by rw [up_length]; omega)]) ?_
   unfold gby
   rw [List.append_assoc]
   exact Ev.now _
  | succ d ih =>
   intro i hd hi
   have h3 := ih (i + 1) (by omega) (by omega)
   have e1 : wby ((packed m g.f2).take (i + 1)) = wby ((packed m g.f2).take i) ++ be 8 ((packed m g.f2).getD i 0) := by
    rw [take_getD _ 0 i (by omega)]
    simp [wby]
   rw [e1, ← List.append_assoc] at h3
   refine Ev.step (fun k => by rw [F86.l0, if_pos (by rw [up_length]; omega), if_pos (by omega), rd_up, wsucc i (by omega)]) ?_
   refine Ev.bind (rBytes_f _ 8 (by decide) (hlt i)) (Ev.pos (by rw [B_size, B_size, be_length, lnA, lnA, be_length, be_length, wby_length, List.length_take]; omega) ?_)
   rw [B_app]
   exact h3
 have h4 := h _ 0 rfl (by omega)
 rw [List.take_zero, show wby [] = [] from rfl, List.append_nil] at h4
 exact h4
theorem rBytes_l1 {kb vb t d : Nat} {L H I : Int} {K V : List S47} (h : PG kb vb t d L H I K V) : Ev (fun k => F56.l1 k (B (hby kb vb t d L H I)) 0 kb vb t d L H I (K.map tr) (V.map tr)) (B (cl (pin kb vb t d L H I K V))) := by
 obtain ⟨h1, h2, h3, h4, h5, h6, _⟩ := h.b
 have hnk := h.nk
 have hnv := h.nv
 have hp := pin_le h
 have a1 := gsb_le h1 h4 K h.hk
 have a2 := gsb_le h2 h6 V h.hv
 have hV : ∀ (e i : Nat), V.length - i = e → i ≤ V.length → Ev (fun k => F56.l2 k (B (hby kb vb t d L H I ++ gsb kb K ++ gsb vb (V.take i))) (i : Int) kb vb t d L H I (K.map tr) (V.map tr)) (B (cl (pin kb vb t d L H I K V))) := by
  intro e
  induction e with
  | zero =>
   intro i he hi
   obtain rfl : i = V.length := by omega
   rw [List.take_length]
   refine Ev.step (fun k => by rw [F56.l2, if_neg (by rw [lnM]; omega)]) ?_
   have e2 : hby kb vb t d L H I ++ gsb kb K ++ gsb vb V = pin kb vb t d L H I K V := by
    unfold pin
    rw [List.append_assoc]
   rw [e2]
   exact Ev.bind (rClose_f _ (pin_bys h) (by omega)) (Ev.now _)
  | succ e ih =>
   intro i he hi
   have h7 := ih (i + 1) (by omega) (by omega)
   rw [take_getD V z47 i (by omega), gsb_append, gsb_one, ← List.append_assoc] at h7
   have hle := gsb_le h2 h6 (V.take i) (fun x hx => h.hv x (List.mem_of_mem_take hx))
   rw [List.length_take] at hle
   have hg := h.hv _ (getD_mem V z47 i (by omega))
   have hgl := gby_le h2 (V.getD i z47) (by rw [hg.n]; omega)
   refine Ev.step (fun k => by rw [F56.l2, if_pos (by rw [lnM]; omega), if_pos (by omega), rd98 V i (by omega), wsucc i (by omega)]) ?_
   refine Ev.bind (rgroup_f h2 _ hg h5 h6) (Ev.pos (by rw [B_size, B_size, lnA, lnA, hby_length]; omega) ?_)
   rw [B_app]
   exact h7
 have hK : ∀ (e i : Nat), K.length - i = e → i ≤ K.length → Ev (fun k => F56.l1 k (B (hby kb vb t d L H I ++ gsb kb (K.take i))) (i : Int) kb vb t d L H I (K.map tr) (V.map tr)) (B (cl (pin kb vb t d L H I K V))) := by
  intro e
  induction e with
  | zero =>
   intro i he hi
   obtain rfl : i = K.length := by omega
   rw [List.take_length]
   refine Ev.step (fun k => by rw [F56.l1, if_neg (by rw [lnM]; omega)]) ?_
   have h8 := hV _ 0 rfl (by omega)
   rw [List.take_zero, show gsb vb [] = [] from rfl, List.append_nil] at h8
   exact h8
  | succ e ih =>
   intro i he hi
   have h7 := ih (i + 1) (by omega) (by omega)
   rw [take_getD K z47 i (by omega), gsb_append, gsb_one, ← List.append_assoc] at h7
   have hle := gsb_le h1 h4 (K.take i) (fun x hx => h.hk x (List.mem_of_mem_take hx))
   rw [List.length_take] at hle
   have hg := h.hk _ (getD_mem K z47 i (by omega))
   have hgl := gby_le h1 (K.getD i z47) (by rw [hg.n]; omega)
   refine Ev.step (fun k => by rw [F56.l1, if_pos (by rw [lnM]; omega), if_pos (by omega), rd98 K i (by omega), wsucc i (by omega)]) ?_
   refine Ev.bind (rgroup_f h1 _ hg h3 h4) (Ev.pos (by rw [B_size, B_size, lnA, hby_length]; omega) ?_)
   rw [B_app]
   exact h7
 have h8 := hK _ 0 rfl (by omega)
 rw [List.take_zero, show gsb kb [] = [] from rfl, List.append_nil] at h8
 exact h8
theorem be1 (v : Nat) (h : v < 256) : be 1 v = [v] := by
 show [v % 256] = [v]
 rw [Nat.mod_eq_of_lt h]
theorem rBytes_h {kb vb t d : Nat} {L H I : Int} {K V : List S47} (h : PG kb vb t d L H I K V) : Ev (fun k => F56.f k kb vb t d L H I (K.map tr) (V.map tr)) (B (cl (pin kb vb t d L H I K V))) := by
 obtain ⟨h1, h2, h3, h4, h5, h6, h7, h8, h9, h10, h11, h12⟩ := h.b
 obtain ⟨L, rfl⟩ : ∃ n : Nat, L = (n : Int) := ⟨L.toNat, by omega⟩
 obtain ⟨H, rfl⟩ : ∃ n : Nat, H = (n : Int) := ⟨H.toNat, by omega⟩
 obtain ⟨I, rfl⟩ : ∃ n : Nat, I = (n : Int) := ⟨I.toNat, by omega⟩
 have hb := rBytes_l1 h
 unfold F56.f
 have step : ∀ (i v : Nat) (acc : List Nat) (hi : i < 6) (hv : v < 256) (ha : acc.length < 100) (e : rd [(kb : Int), vb, t, d, L, H, I] (i : Int) = (v : Int)) {r : ByteArray} (hr : Ev (fun k => F56.l0 k (B (acc ++ [v])) ((i + 1 : Nat) : Int) kb vb t d L H I (K.map tr) (V.map tr)) r), Ev (fun k => F56.l0 k (B acc) (i : Int) kb vb t d L H I (K.map tr) (V.map tr)) r := by
  intro i v acc hi hv ha e r hr
  refine Ev.step (fun k => by rw [F56.l0, if_pos (by omega), if_pos (by omega), if_pos (by omega), e, wun v (by omega), wsucc i (by omega)]) ?_
  have h13 := rBytes_f v 1 (by decide) (by omega)
  rw [be1 v hv] at h13
  refine Ev.bind h13 (Ev.pos (by rw [B_size, B_size]; simp; omega) ?_)
  rw [B_app]
  exact hr
 show Ev (fun k => F56.l0 k (B [75]) ((0 : Nat) : Int) kb vb t d L H I (K.map tr) (V.map tr)) _
 refine step 0 kb _ (by omega) (by omega) (by simp) rfl (step 1 vb _ (by omega) (by omega) (by simp) rfl (step 2 t _ (by omega) (by omega) (by simp) rfl (step 3 d _ (by omega) (by omega) (by simp) rfl (step 4 L _ (by omega) (by omega) (by simp) rfl (step 5 H _ (by omega) (by omega) (by simp) rfl ?_)))))
 refine Ev.step (fun k => by rw [F56.l0, if_neg (by omega), wun I (by omega)]) ?_
 refine Ev.bind (rBytes_f I 2 (by decide) (by omega)) (Ev.pos (by rw [B_size, B_size, be_length]; simp) ?_)
 rw [B_app]
 have e : [75] ++ [kb] ++ [vb] ++ [t] ++ [d] ++ [L] ++ [H] ++ be 2 I = hby kb vb t d L H I := by
  unfold hby
  simp
 rw [e]
 exact hb
theorem is_f {kb vb t d : Nat} {L H I : Int} {K V : List S47} (h : PG kb vb t d L H I K V) : Ev (fun k => F25.f k [pgv kb vb t d L H I K V] kb vb t d L H I (K.map tr) (V.map tr)) true := by
 obtain ⟨h1, h2, h3, h4, h5, h6, _⟩ := h.b
 have hnk := h.nk
 have hnv := h.nv
 have hk : ∀ i, i < t → (keysv K t d).getD i [] = K.map (fun g => mn1 g i) := by
  intro i hi
  unfold keysv
  rw [getD_map _ (List.range t) 0 _ i (by rw [List.length_range]; exact hi), range_getD hi]
  show (List.range d).map (fun j => mn1 (K.getD j z47) i) = _
  rw [← hnk]
  exact map_range K (fun g => mn1 g i)
 have hv : ∀ i, i < t → (valsv V t d).getD i [] = (List.range d).map (fun j => mn1 (V.getD i z47) j) := by
  intro i hi
  unfold valsv
  rw [getD_map _ (List.range t) 0 _ i (by rw [List.length_range]; exact hi), range_getD hi]
 have hkl : (keysv K t d).length = t := by rw [keysv, lnM, List.length_range]
 have hvl : (valsv V t d).length = t := by rw [valsv, lnM, List.length_range]
 have rk : ∀ i : Nat, rd_L13 (keysv K t d) (i : Int) = (keysv K t d).getD i [] := fun i => by unfold rd_L13; rw [tnC]
 have rv : ∀ i : Nat, rd_L13 (valsv V t d) (i : Int) = (valsv V t d).getD i [] := fun i => by unfold rd_L13; rw [tnC]
 have l1 : ∀ (i : Nat), i < t → ∀ (i' i2 : Int), i' = (i : Int) → i2 = (i : Int) → Ev (fun k => F25.l0 k [pgv kb vb t d L H I K V] (keysv K t d) (valsv V t d) (t : Int) ((i + 1 : Nat) : Int) kb vb t d L H I (K.map tr) (V.map tr)) true →
   ∀ (e j : Nat), d - j = e → j ≤ d → Ev (fun k => F25.l1 k [pgv kb vb t d L H I K V] (keysv K t d) (valsv V t d) i' (t : Int) i2 (d : Int) (j : Int) kb vb t d L H I (K.map tr) (V.map tr)) true := by
  intro i hi i' i2 hi' hi2 hr e
  subst hi' hi2
  induction e with
  | zero =>
   intro j he hj
   refine Ev.step (fun k => by rw [F25.l1, if_neg (by omega), wsucc i (by omega)]) ?_
   exact hr
  | succ e ih =>
   intro j he hj
   have h7 := ih (j + 1) (by omega) (by omega)
   have ek : rd (K.map (fun g => mn1 g i)) (j : Int) = mn1 (K.getD j z47) i := by
    rw [rd, tnC]
    exact getD_map _ _ _ _ _ (by omega)
   have ev : rd ((List.range d).map (fun j => mn1 (V.getD i z47) j)) (j : Int) = mn1 (V.getD i z47) j := by
    rw [rd, tnC, getD_map _ (List.range d) 0 _ j (by rw [List.length_range]; omega), range_getD (by omega)]
   refine Ev.step (fun k => by rw [F25.l1, if_pos (by omega), Key_in h i j hi (by omega), oBs, if_pos (by omega), if_pos (by omega), if_pos (by omega), rk, hk i hi, if_pos (by rw [lnM]; omega), if_pos ek.symm, Value_in h i j hi (by omega), oBs, if_pos (by omega), rv, hv i hi, if_pos (by rw [lnM, List.length_range]; omega), if_pos ev.symm, wsucc j (by omega)]) ?_
   exact h7
 have l0 : ∀ (e i : Nat), t - i = e → i ≤ t → Ev (fun k => F25.l0 k [pgv kb vb t d L H I K V] (keysv K t d) (valsv V t d) (t : Int) (i : Int) kb vb t d L H I (K.map tr) (V.map tr)) true := by
  intro e
  induction e with
  | zero =>
   intro i he hi
   refine Ev.step (fun k => by rw [F25.l0, if_neg (by omega)]) ?_
   refine Ev.bind (Bytes_f h) (Ev.bind (rBytes_h h) ?_)
   show Ev (fun _ => some ((B (cl (pin kb vb t d L H I K V))).toList == (B (cl (pin kb vb t d L H I K V))).toList)) true
   rw [beq_self_eq_true]
   exact Ev.now _
  | succ e ih =>
   intro i he hi
   have h7 := ih (i + 1) (by omega) (by omega)
   refine Ev.step (fun k => by rw [F25.l0, if_pos (by omega), if_pos (by omega), if_pos (by omega), rk, hk i (by omega), rv, hv i (by omega)]) ?_
   refine Ev.bind (rKey_f K h.hk h4 (by omega) _ _ _ _ _ _ _ _ i (by omega)) (Ev.bind (nums_same _ (by rw [lnM]; omega)) (Ev.pos rfl (Ev.pos (by omega) ?_)))
   refine Ev.bind (rValue_f V h.hv h6 _ _ _ _ _ _ _ _ i (by omega)) (Ev.bind (nums_same _ (by rw [lnM, List.length_range]; omega)) (Ev.pos rfl ?_))
   rw [show (((K.map (fun g => mn1 g i)).length : Nat) : Int) = (d : Int) by rw [lnM]; omega]
   exact l1 i (by omega) _ _ rfl rfl h7 _ 0 rfl (by omega)
 unfold F25.f F32.f F10.f
 rw [rd75_one]
 refine Ev.congr (fun k => by rw [if_pos (by simp), oBs, oBs, if_neg (by simp [pgv])]) ?_
 refine Ev.bind (KeyGroups_f h) (Ev.bind (groups_map K (by omega)) (Ev.bind (groups_same _ (by rw [lnM]; omega) ?_) (Ev.pos rfl ?_)))
 ·
  intro g hg
  obtain ⟨x, hx, rfl⟩ := List.mem_map.1 hg
  have := (h.hk x hx).n
  show x.f2.length ≤ 1000
  omega
 refine Ev.bind (ValueGroups_f h) (Ev.bind (groups_map V (by omega)) (Ev.bind (groups_same _ (by rw [lnM]; omega) ?_) (Ev.pos rfl ?_)))
 ·
  intro g hg
  obtain ⟨x, hx, rfl⟩ := List.mem_map.1 hg
  have := (h.hv x hx).n
  show x.f2.length ≤ 1000
  omega
 refine Ev.bind (Keys_f h) (Ev.bind (Values_f h) (Ev.pos (by omega) (Ev.pos (by omega) ?_)))
 rw [hkl]
 exact l0 t 0 (by omega) (by omega)
def wnum (m n : Nat) : Nat := (n * m + 63) / 64
def rw8 : Nat → List Nat → List Nat
 | 0, _ => []
 | c + 1, r => nm 0 (r.take 8) :: rw8 c (r.drop 8)
def gz (r : List Nat) : Int := wrap32 (((nm 0 (r.take 4) : Nat) : Int) % 4294967296)
def gs (r : List Nat) : Int := ((nm 0 ((r.drop 4).take 4) : Nat) : Int) % 4294967296
def gw (m n : Nat) (r : List Nat) : List Nat := rw8 (wnum m n) (r.drop 8)
def gc (m n : Nat) (r : List Nat) : List Int := lanes m (gw m n r) n
def bad (m n : Nat) (W : List Nat) : Prop := 0 < n * m % 64 ∧ W.getD (W.length - 1) 0 / 2 ^ (n * m % 64) ≠ 0
instance (m n : Nat) (W : List Nat) : Decidable (bad m n W) := by unfold bad; infer_instance
def gerr (m n : Nat) (r : List Nat) : Int := if bad m n (gw m n r) then 10 else rgt (gs r) (gc m n r) m
def gg (m n : Nat) (r : List Nat) : S47 := ⟨gz r, gs r, gc m n r⟩
def nxt (m n : Nat) (r : List Nat) : List Nat := r.drop (8 + 8 * wnum m n)
def rds (m n : Nat) : Nat → List Nat → List S47 × Int × List Nat
 | 0, r => ([], 0, r)
 | c + 1, r => if gerr m n r = 0 then (if (rds m n c (nxt m n r)).2.1 = 0 then (gg m n r :: (rds m n c (nxt m n r)).1, 0, (rds m n c (nxt m n r)).2.2) else ([], (rds m n c (nxt m n r)).2)) else ([], gerr m n r, nxt m n r)
theorem rw8_length : ∀ (c : Nat) (r : List Nat), (rw8 c r).length = c
 | 0, _ => rfl
 | c + 1, r => by rw [rw8, List.length_cons, rw8_length c]
theorem nm8 {r : List Nat} (hr : Bys r) : nm 0 (r.take 8) < 18446744073709551616 := by
 have h := nm_lt (r.take 8) 0 0 (hr.take 8) (by simp)
 have h2 : (r.take 8).length ≤ 8 := by rw [List.length_take]; omega
 rw [Nat.zero_add] at h
 exact Nat.lt_of_lt_of_le h (pow_le8 h2)
theorem rw8_lt : ∀ (c : Nat) (r : List Nat), Bys r → ∀ j, (rw8 c r).getD j 0 < 18446744073709551616
 | 0, _, _, j => by simp [rw8]
 | c + 1, r, hr, 0 => nm8 hr
 | c + 1, r, hr, j + 1 => by
  have := rw8_lt c (r.drop 8) (hr.drop 8) j
  rw [rw8]
  simpa using this
theorem nm4 {r : List Nat} (hr : Bys r) : nm 0 (r.take 4) < 4294967296 := by
 have h := nm_lt (r.take 4) 0 0 (hr.take 4) (by simp)
 have h2 : (r.take 4).length ≤ 4 := by rw [List.length_take]; omega
 rw [Nat.zero_add] at h
 exact Nat.lt_of_lt_of_le h (Nat.le_trans (Nat.pow_le_pow_right (by decide) h2) (by decide))
theorem rv_le {l : List Nat} {n : Nat} (h : n ≤ l.length) : rv l n = nm 0 (l.take n) := by
 unfold rv
 rw [if_neg (by omega)]
theorem rst_le {l : List Nat} {b : Bool} {n : Nat} (h : n ≤ l.length) : rst l b n = (l.drop n, b) := by
 unfold rst
 rw [if_neg (by omega)]
theorem Num_le (n : Nat) (z : Int) (hz : wide z = n) (r : List Nat) (hr : Bys r) (b : Bool) (h : n ≤ r.length) (hn : r.length < 1000000) : Ev (fun k => F39.f k (up r) b z) (((nm 0 (r.take n) : Nat) : Int), up (r.drop n), b) := by
 have h1 := N_f r hr b z hn
 rw [hz, rv_le h, rst_le h] at h1
 exact h1
theorem Sg_le (r : List Nat) (hr : Bys r) (b : Bool) (h : 4 ≤ r.length) (hn : r.length < 1000000) : Ev (fun k => F74.f k (up r) b) (gz r, up (r.drop 4), b) := by
 have h1 := Sg_f r hr b hn
 rw [rv_le h, rst_le h] at h1
 exact h1
theorem mul16 {m n : Nat} (hm : m = 2 ∨ m = 4 ∨ m = 8) (h2 : n ≤ 16) : wnum m n ≤ 2 ∧ n * m ≤ 128 := by
 unfold wnum
 rcases hm with rfl | rfl | rfl <;> omega
/-- What the program reads. -/
def fin (acc : List S47) (x : List S47 × Int × List Nat) : List S47 × Int × List Int × Bool := if x.2.1 = 0 then (acc ++ x.1, 0, up x.2.2, false) else ([], x.2.1, up x.2.2, false)
theorem pw_l1 (m n : Int) (x10 : List S47) (x15 x16 z s : Int) (b : Bool) {R : List S47 × Int × List Int × Bool} (C : Nat) (hC : C ≤ 100) : ∀ (d i : Nat) (A r : List Nat), C - i = d → i ≤ C → A.length = i → Bys r → 8 * (C - i) ≤ r.length → r.length < 900000 →
  Ev (fun k => F42.l1 k n m x10 (up (A ++ rw8 (C - i) r)) x15 x16 (C : Int) (C : Int) (up (r.drop (8 * (C - i)))) b z s) R →
  Ev (fun k => F42.l1 k n m x10 (up A) x15 x16 (C : Int) (i : Int) (up r) b z s) R := by
 intro d
 induction d with
 | zero =>
  intro i A r hd hi hA hr hl hn h
  obtain rfl : i = C := by omega
  rw [Nat.sub_self, rw8, List.append_nil, Nat.mul_zero, List.drop_zero] at h
  exact h
 | succ d ih =>
  intro i A r hd hi hA hr hl hn h
  refine Ev.step (fun k => by rw [F42.l1, if_pos (by omega)]) ?_
  refine Ev.bind (Num_le 8 8 rfl r hr b (by omega) (by omega)) (Ev.pos (by rw [up_length]; omega) ?_)
  rw [wsucc i (by omega)]
  have e : up A ++ [((nm 0 (r.take 8) : Nat) : Int)] = up (A ++ [nm 0 (r.take 8)]) := by rw [up_app]; rfl
  show Ev (fun k => F42.l1 k n m x10 (up A ++ [((nm 0 (r.take 8) : Nat) : Int)]) x15 x16 (C : Int) ((i + 1 : Nat) : Int) (up (r.drop 8)) b z s) R
  rw [e]
  refine ih (i + 1) (A ++ [nm 0 (r.take 8)]) (r.drop 8) (by omega) (by omega) (by rw [lnA, hA]; rfl) (hr.drop 8) (by rw [List.length_drop]; omega) (by rw [List.length_drop]; omega) ?_
  rw [show C - i = (C - (i + 1)) + 1 by omega, rw8] at h
  rw [List.drop_drop, List.append_assoc, show 8 + 8 * (C - (i + 1)) = 8 * (C - (i + 1) + 1) by omega]
  exact h
theorem groups_l0 {m n : Nat} (hm : m = 2 ∨ m = 4 ∨ m = 8) (h1 : 1 ≤ n) (h2 : n ≤ 16) (N : Nat) (hN : N ≤ 16) : ∀ (d i : Nat) (acc : List S47) (r : List Nat), N - i = d → i ≤ N → acc.length = i → Bys r → (N - i) * (8 + 8 * wnum m n) ≤ r.length → r.length < 600000 →
  Ev (fun k => F42.l0 k n m acc (N : Int) (i : Int) (up r) false) (fin acc (rds m n (N - i) r)) := by
 obtain ⟨hw, hmn⟩ := mul16 hm h2
 intro d
 induction d with
 | zero =>
  intro i acc r hd hi ha hr hl hn
  obtain rfl : i = N := by omega
  rw [Nat.sub_self, rds, fin, if_pos rfl, List.append_nil]
  exact Ev.step (fun k => by rw [F42.l0, if_neg (by omega)]) (Ev.now _)
 | succ d ih =>
  intro i acc r hd hi ha hr hl hn
  have e1 : N - i = (N - (i + 1)) + 1 := by omega
  have hl1 : 8 + 8 * wnum m n ≤ r.length := by
   rw [e1, Nat.add_mul, Nat.one_mul] at hl
   omega
  have hl2 : (N - (i + 1)) * (8 + 8 * wnum m n) ≤ (nxt m n r).length := by
   rw [e1, Nat.add_mul, Nat.one_mul] at hl
   unfold nxt
   rw [List.length_drop]
   omega
  have hr8 := (hr.drop 8)
  have hlt : ∀ j, (gw m n r).getD j 0 < 18446744073709551616 := rw8_lt _ _ hr8
  have hgl : (gw m n r).length = wnum m n := rw8_length _ _
  refine Ev.step (fun k => by rw [F42.l0, if_pos (by omega)]) ?_
  refine Ev.bind (Sg_le r hr false (by omega) (by omega)) ?_
  refine Ev.bind (Num_le 4 4 rfl (r.drop 4) (hr.drop 4) false (by rw [List.length_drop]; omega) (by rw [List.length_drop]; omega)) ?_
  rw [words_n hm h2, List.drop_drop]
  refine Ev.sb ?_
  show Ev (fun k => F42.l1 k n m acc (up []) (N : Int) (i : Int) ((wnum m n : Nat) : Int) ((0 : Nat) : Int) (up (r.drop 8)) false (gz r) (gs r)) _
  refine pw_l1 m n acc N i (gz r) (gs r) false (wnum m n) (by omega) _ 0 [] (r.drop 8) rfl (by omega) rfl hr8 (by rw [List.length_drop]; omega) (by rw [List.length_drop]; omega) ?_
  rw [Nat.sub_zero, List.nil_append, List.drop_drop]
  show Ev (fun k => F42.l1 k n m acc (up (gw m n r)) (N : Int) (i : Int) ((wnum m n : Nat) : Int) ((wnum m n : Nat) : Int) (up (nxt m n r)) false (gz r) (gs r)) _
  refine Ev.step (fun k => by rw [F42.l1, if_neg (by omega)]) ?_
  rw [e1, rds]
  unfold gerr
  by_cases hb : bad m n (gw m n r)
  ·
   refine Ev.bind (Unpack_rest hm (gw m n r) n (by omega) hgl hb.1 hb.2) (Ev.neg (by decide) ?_)
   rw [if_pos hb, if_neg (show ¬ ((10 : Int) = 0) by decide), fin, if_neg (show ¬ ((10 : Int) = 0) by decide)]
   exact Ev.now _
  ·
   rw [if_neg hb]
   refine Ev.bind (Unpack_f hm (gw m n r) hlt n (by omega) hgl (fun hu => by
    by_cases h5 : (gw m n r).getD ((gw m n r).length - 1) 0 / 2 ^ (n * m % 64) = 0
    ·
     exact h5
    ·
     exact absurd ⟨hu, h5⟩ hb)) (Ev.pos rfl ?_)
   refine Ev.bind (gRight_f (gz r) (gs r) (gc m n r) m) ?_
   by_cases hg : rgt (gs r) (gc m n r) m = 0
   ·
    refine Ev.pos hg (Ev.pos (by omega) ?_)
    rw [if_pos hg, wsucc i (by omega)]
    have h3 := ih (i + 1) (acc ++ [gg m n r]) (nxt m n r) (by omega) (by omega) (by rw [lnA, ha]; rfl) (hr.drop _) hl2 (by unfold nxt; rw [List.length_drop]; omega)
    refine Ev.eq h3 ?_
    unfold fin
    by_cases hx : (rds m n (N - (i + 1)) (nxt m n r)).2.1 = 0
    ·
     rw [if_pos hx, if_pos hx, if_pos rfl, List.append_assoc]
     rfl
    ·
     rw [if_neg hx, if_neg hx, if_neg hx]
   ·
    rw [if_neg hg]
    refine Ev.neg hg (Ev.bind (gRight_f (gz r) (gs r) (gc m n r) m) ?_)
    rw [fin, if_neg hg]
    exact Ev.now _
theorem groups_g {m n : Nat} (hm : m = 2 ∨ m = 4 ∨ m = 8) (h1 : 1 ≤ n) (h2 : n ≤ 16) (N : Nat) (hN : N ≤ 16) (r : List Nat) (hr : Bys r) (hl : N * (8 + 8 * wnum m n) ≤ r.length) (hn : r.length < 600000) :
  Ev (fun k => F42.f k (up r) false (N : Int) n m) (fin [] (rds m n N r)) := groups_l0 hm h1 h2 N hN N 0 [] r (by omega) (by omega) rfl hr hl hn
def rfin (acc : List S47) (x : List S47 × Int × List Nat) : List S98 × ByteArray × Int := if x.2.1 = 0 then ((acc ++ x.1).map tr, B x.2.2, 0) else ([], B x.2.2, x.2.1)
theorem rread_l2 {m n : Nat} (hm : m = 2 ∨ m = 4 ∨ m = 8) (h2 : n ≤ 16) (W : List Nat) (hW : ∀ j, W.getD j 0 < 18446744073709551616) (hlen : W.length = wnum m n) (x0 : ByteArray) (x1 : Int) (x11 : List S98) (x12 z s : Int) {R : List S98 × ByteArray × Int}
  (h : Ev (fun k => F61.l2 k x0 x1 n m x11 x12 (up W) (n : Int) z s (lanes m W n)) R) : ∀ (d i : Nat), n - i = d → i ≤ n →
  Ev (fun k => F61.l2 k x0 x1 n m x11 x12 (up W) (i : Int) z s (up ((List.range i).map (lane m W)))) R := by
 obtain ⟨hw, hmn⟩ := mul16 hm h2
 intro d
 induction d with
 | zero =>
  intro i hd hi
  obtain rfl : i = n := by omega
  exact h
 | succ d ih =>
  intro i hd hi
  have h3 := ih (i + 1) (by omega) (by omega)
  rw [List.range_succ, List.map_append, up_app] at h3
  refine Ev.step (fun k => by rw [F61.l2, if_pos (by omega)]) ?_
  refine Ev.bind (rLane_f hm W hW (by omega) i (by
   rw [hlen]
   unfold wnum
   rcases hm with rfl | rfl | rfl <;> simp <;> omega)) (Ev.pos (by rw [up_length, lnM, List.length_range]; omega) ?_)
  rw [wsucc i (by omega)]
  exact h3
theorem rword_f {m n : Nat} (hm : m = 2 ∨ m = 4 ∨ m = 8) (h2 : n ≤ 16) : Ev (fun k => F89.f k n m) ((wnum m n : Nat) : Int) := by
 obtain ⟨hw, hmn⟩ := mul16 hm h2
 have e : (n : Int) * (m : Int) = ((n * m : Nat) : Int) := by simp
 have h := rWords_f (n : Int) (m : Int) (by rw [e]; omega) (by rw [e]; omega)
 rw [e] at h
 refine Ev.eq h ?_
 unfold wnum
 omega
theorem B_ext0 (r : List Nat) (n : Nat) : (B r).extract 0 n = B (r.take n) := by rw [B_extract]; simp
theorem rpw_l1 {m n : Nat} (hm : m = 2 ∨ m = 4 ∨ m = 8) (h2 : n ≤ 16) (x1 : Int) (x11 : List S98) (x12 z s : Int) {R : List S98 × ByteArray × Int} : ∀ (d i : Nat) (A r : List Nat), wnum m n - i = d → i ≤ wnum m n → A.length = i → Bys r → 8 * (wnum m n - i) ≤ r.length → r.length < 900000 →
  Ev (fun k => F61.l1 k (B (r.drop (8 * (wnum m n - i)))) x1 n m x11 x12 (up (A ++ rw8 (wnum m n - i) r)) ((wnum m n : Nat) : Int) z s) R →
  Ev (fun k => F61.l1 k (B r) x1 n m x11 x12 (up A) (i : Int) z s) R := by
 obtain ⟨hw, hmn⟩ := mul16 hm h2
 intro d
 induction d with
 | zero =>
  intro i A r hd hi hA hr hl hn h
  have hi2 : i = wnum m n := by omega
  rw [hi2, Nat.sub_self, rw8, List.append_nil, Nat.mul_zero, List.drop_zero] at h
  rw [hi2]
  exact h
 | succ d ih =>
  intro i A r hd hi hA hr hl hn h
  refine Ev.step (fun k => by rw [F61.l1]) ?_
  refine Ev.bind (rword_f hm h2) (Ev.pos (by omega) (Ev.pos (by decide) (Ev.pos (by rw [B_size]; omega) ?_)))
  rw [B_ext0, B_extract_end]
  refine Ev.bind (rNumber_f (r.take 8) (hr.take 8) (by rw [List.length_take]; omega)) (Ev.pos (by rw [up_length]; omega) ?_)
  rw [wsucc i (by omega)]
  have e : up A ++ [((nm 0 (r.take 8) : Nat) : Int)] = up (A ++ [nm 0 (r.take 8)]) := by rw [up_app]; rfl
  rw [e]
  refine ih (i + 1) (A ++ [nm 0 (r.take 8)]) (r.drop 8) (by omega) (by omega) (by rw [lnA, hA]; rfl) (hr.drop 8) (by rw [List.length_drop]; omega) (by rw [List.length_drop]; omega) ?_
  rw [show wnum m n - i = (wnum m n - (i + 1)) + 1 by omega, rw8] at h
  rw [List.drop_drop, List.append_assoc, show 8 + 8 * (wnum m n - (i + 1)) = 8 * (wnum m n - (i + 1) + 1) by omega]
  exact h
theorem rread_l0 {m n : Nat} (hm : m = 2 ∨ m = 4 ∨ m = 8) (h1 : 1 ≤ n) (h2 : n ≤ 16) (N : Nat) (hN : N ≤ 16) : ∀ (d i : Nat) (acc : List S47) (r : List Nat), N - i = d → i ≤ N → acc.length = i → Bys r → (N - i) * (8 + 8 * wnum m n) ≤ r.length → r.length < 600000 →
  Ev (fun k => F61.l0 k (B r) (N : Int) n m (acc.map tr) (i : Int)) (rfin acc (rds m n (N - i) r)) := by
 obtain ⟨hw, hmn⟩ := mul16 hm h2
 intro d
 induction d with
 | zero =>
  intro i acc r hd hi ha hr hl hn
  obtain rfl : i = N := by omega
  rw [Nat.sub_self, rds, rfin, if_pos rfl, List.append_nil]
  exact Ev.step (fun k => by rw [F61.l0, if_neg (by omega)]) (Ev.now _)
 | succ d ih =>
  intro i acc r hd hi ha hr hl hn
  have e1 : N - i = (N - (i + 1)) + 1 := by omega
  have hl1 : 8 + 8 * wnum m n ≤ r.length := by
   rw [e1, Nat.add_mul, Nat.one_mul] at hl
   omega
  have hl2 : (N - (i + 1)) * (8 + 8 * wnum m n) ≤ (nxt m n r).length := by
   rw [e1, Nat.add_mul, Nat.one_mul] at hl
   unfold nxt
   rw [List.length_drop]
   omega
  have hr8 := (hr.drop 8)
  have hlt : ∀ j, (gw m n r).getD j 0 < 18446744073709551616 := rw8_lt _ _ hr8
  have hgl : (gw m n r).length = wnum m n := rw8_length _ _
  refine Ev.step (fun k => by rw [F61.l0, if_pos (by omega), if_pos (by decide), if_pos (by rw [B_size]; omega)]) ?_
  rw [B_ext0, B_extract, B_extract_end]
  refine Ev.bind (rSigned_p (r.take 4) (hr.take 4) (by rw [List.length_take]; omega)) (Ev.pos (by decide) (Ev.pos (by rw [B_size]; omega) ?_))
  refine Ev.bind (rNumber_f ((r.drop 4).take (8 - 4)) ((hr.drop 4).take _) (by rw [List.length_take]; omega)) ?_
  show Ev (fun k => F61.l1 k (B (r.drop 8)) (N : Int) n m (acc.map tr) (i : Int) (up []) ((0 : Nat) : Int) (gz r) (gs r)) _
  refine rpw_l1 hm h2 N (acc.map tr) i (gz r) (gs r) _ 0 [] (r.drop 8) rfl (by omega) rfl hr8 (by rw [List.length_drop]; omega) (by rw [List.length_drop]; omega) ?_
  rw [Nat.sub_zero, List.nil_append, List.drop_drop]
  show Ev (fun k => F61.l1 k (B (nxt m n r)) (N : Int) n m (acc.map tr) (i : Int) (up (gw m n r)) ((wnum m n : Nat) : Int) (gz r) (gs r)) _
  refine Ev.step (fun k => by rw [F61.l1]) ?_
  refine Ev.bind (rword_f hm h2) (Ev.neg (by omega) ?_)
  refine Ev.bind (Rest_f hm (gw m n r) hlt n (by omega) hgl) ?_
  rw [e1, rds]
  unfold gerr
  by_cases hb : bad m n (gw m n r)
  ·
   rw [if_pos hb]
   refine Ev.pos (decide_eq_true hb) ?_
   rw [if_neg (show ¬ ((10 : Int) = 0) by decide), rfin, if_neg (show ¬ ((10 : Int) = 0) by decide)]
   exact Ev.now _
  ·
   rw [if_neg hb]
   refine Ev.neg (fun h => hb (of_decide_eq_true h)) ?_
   refine rread_l2 hm h2 (gw m n r) hlt hgl (B (nxt m n r)) N (acc.map tr) i (gz r) (gs r) ?_ n 0 (by omega) (by omega)
   refine Ev.step (fun k => by rw [F61.l2, if_neg (by omega)]) ?_
   refine Ev.bind (rRight_f (gz r) (gs r) (gc m n r) m (by rw [gc, lanes_length]; omega)) ?_
   by_cases hg : rgt (gs r) (gc m n r) m = 0
   ·
    refine Ev.pos hg (Ev.pos (by rw [lnM]; omega) ?_)
    rw [if_pos hg, wsucc i (by omega)]
    have h3 := ih (i + 1) (acc ++ [gg m n r]) (nxt m n r) (by omega) (by omega) (by rw [lnA, ha]; rfl) (hr.drop _) hl2 (by unfold nxt; rw [List.length_drop]; omega)
    rw [List.map_append] at h3
    refine Ev.eq h3 ?_
    unfold rfin
    by_cases hx : (rds m n (N - (i + 1)) (nxt m n r)).2.1 = 0
    ·
     rw [if_pos hx, if_pos hx, if_pos rfl, List.append_assoc]
     rfl
    ·
     rw [if_neg hx, if_neg hx, if_neg hx]
   ·
    rw [if_neg hg]
    refine Ev.neg hg ?_
    rw [rfin, if_neg hg]
    exact Ev.now _
theorem rread_g {m n : Nat} (hm : m = 2 ∨ m = 4 ∨ m = 8) (h1 : 1 ≤ n) (h2 : n ≤ 16) (N : Nat) (hN : N ≤ 16) (r : List Nat) (hr : Bys r) (hl : N * (8 + 8 * wnum m n) ≤ r.length) (hn : r.length < 600000) :
  Ev (fun k => F61.f k (B r) (N : Int) n m) (rfin [] (rds m n N r)) := rread_l0 hm h1 h2 N hN N 0 [] r (by omega) (by omega) rfl hr hl hn
theorem wby_rw8 : ∀ (c : Nat) (r : List Nat), Bys r → 8 * c ≤ r.length → wby (rw8 c r) = r.take (8 * c)
 | 0, r, _, _ => by simp [rw8, wby]
 | c + 1, r, hr, hl => by
  have h1 := wby_rw8 c (r.drop 8) (hr.drop 8) (by rw [List.length_drop]; omega)
  have e : wby (rw8 (c + 1) r) = be 8 (nm 0 (r.take 8)) ++ wby (rw8 c (r.drop 8)) := by simp [rw8, wby]
  rw [e, h1, be_nm 8 _ (by rw [List.length_take]; omega) (hr.take 8), show 8 * (c + 1) = 8 + 8 * c by omega, List.take_add]
theorem gby_gg {m n : Nat} (hm : m = 2 ∨ m = 4 ∨ m = 8) (h1 : 1 ≤ n) (h2 : n ≤ 16) (r : List Nat) (hr : Bys r) (hl : 8 + 8 * wnum m n ≤ r.length) (h : gerr m n r = 0) : gby m (gg m n r) = r.take (8 + 8 * wnum m n) := by
 have hb : ¬ bad m n (gw m n r) := fun hb => by
  unfold gerr at h
  rw [if_pos hb] at h
  omega
 have hlt : ∀ j, (gw m n r).getD j 0 < 18446744073709551616 := rw8_lt _ _ (hr.drop 8)
 have e1 : packed m (gg m n r).f2 = gw m n r := packed_lanes hm (gw m n r) hlt n (rw8_length _ _) hb
 unfold gby
 rw [e1]
 have a := nm4 hr
 have b := nm4 (hr.drop 4)
 have e2 : zn (gg m n r).f0 = nm 0 (r.take 4) := by
  show zn (wrap32 (((nm 0 (r.take 4) : Nat) : Int) % 4294967296)) = _
  unfold zn wrap32
  omega
 have e3 : (gg m n r).f1.toNat = nm 0 ((r.drop 4).take 4) := by
  show (((nm 0 ((r.drop 4).take 4) : Nat) : Int) % 4294967296).toNat = _
  omega
 rw [e2, e3, be_nm 4 _ (by rw [List.length_take]; omega) (hr.take 4), be_nm 4 _ (by rw [List.length_take, List.length_drop]; omega) ((hr.drop 4).take 4)]
 unfold gw
 rw [wby_rw8 _ _ (hr.drop 8) (by rw [List.length_drop]; omega), ← List.append_assoc, ← List.take_add, ← List.take_add]
theorem gg_RG {m n : Nat} (r : List Nat) (hr : Bys r) (h : gerr m n r = 0) : RG m n (gg m n r) := by
 have hb : ¬ bad m n (gw m n r) := fun hb => by
  unfold gerr at h
  rw [if_pos hb] at h
  omega
 unfold gerr at h
 rw [if_neg hb] at h
 have a := nm4 hr
 refine ⟨?_, ?_, ?_, ?_, lanes_length _ _ _, h⟩
 ·
  show -2147483648 ≤ wrap32 (((nm 0 (r.take 4) : Nat) : Int) % 4294967296)
  unfold wrap32
  omega
 ·
  show wrap32 (((nm 0 (r.take 4) : Nat) : Int) % 4294967296) < 2147483648
  unfold wrap32
  omega
 ·
  show 0 ≤ ((nm 0 ((r.drop 4).take 4) : Nat) : Int) % 4294967296
  omega
 ·
  show ((nm 0 ((r.drop 4).take 4) : Nat) : Int) % 4294967296 < 4294967296
  omega
theorem rds_ok {m n : Nat} (hm : m = 2 ∨ m = 4 ∨ m = 8) (h1 : 1 ≤ n) (h2 : n ≤ 16) : ∀ (c : Nat) (r : List Nat), Bys r → c * (8 + 8 * wnum m n) ≤ r.length → (rds m n c r).2.1 = 0 →
  Gs (rds m n c r).1 m n ∧ (rds m n c r).1.length = c ∧ gsb m (rds m n c r).1 = r.take (c * (8 + 8 * wnum m n)) ∧ (rds m n c r).2.2 = r.drop (c * (8 + 8 * wnum m n))
 | 0, r, _, _, _ => ⟨fun g hg => absurd hg (by simp [rds]), rfl, by simp [rds, gsb], by simp [rds]⟩
 | c + 1, r, hr, hl, h => by
  rw [Nat.add_mul, Nat.one_mul] at hl
  by_cases h3 : gerr m n r = 0
  ·
   by_cases h4 : (rds m n c (nxt m n r)).2.1 = 0
   ·
    obtain ⟨a, b, d, e⟩ := rds_ok hm h1 h2 c (nxt m n r) (hr.drop _) (by unfold nxt; rw [List.length_drop]; omega) h4
    have e5 : rds m n (c + 1) r = (gg m n r :: (rds m n c (nxt m n r)).1, 0, (rds m n c (nxt m n r)).2.2) := by rw [rds, if_pos h3, if_pos h4]
    rw [e5]
    refine ⟨?_, by rw [List.length_cons, b], ?_, ?_⟩
    ·
     intro g hg
     rcases List.mem_cons.1 hg with rfl | hg
     ·
      exact gg_RG r hr h3
     ·
      exact a g hg
    ·
     have e6 : gsb m (gg m n r :: (rds m n c (nxt m n r)).1) = gby m (gg m n r) ++ gsb m (rds m n c (nxt m n r)).1 := by simp [gsb]
     have e7 : (c + 1) * (8 + 8 * wnum m n) = (8 + 8 * wnum m n) + c * (8 + 8 * wnum m n) := by rw [Nat.add_mul, Nat.one_mul, Nat.add_comm]
     show gsb m (gg m n r :: (rds m n c (nxt m n r)).1) = _
     rw [e6, d, gby_gg hm h1 h2 r hr (by omega) h3, nxt, e7]
     exact List.take_add.symm
    ·
     show (rds m n c (nxt m n r)).2.2 = _
     have e7 : (c + 1) * (8 + 8 * wnum m n) = (8 + 8 * wnum m n) + c * (8 + 8 * wnum m n) := by rw [Nat.add_mul, Nat.one_mul, Nat.add_comm]
     rw [e, nxt, List.drop_drop, e7]
   ·
    rw [rds, if_pos h3, if_neg h4] at h
    exact absurd h h4
  ·
   rw [rds, if_neg h3] at h
   exact absurd h h3
theorem awake_f : Ev (fun k => F12.f k) true := Ev.of F12.mono (k := 200) (by decide +kernel)
/-! #### heads of bytes -/
def st (x : List Nat × Bool) (n : Nat) : List Nat × Bool := rst x.1 x.2 n
theorem st_inv {x : List Nat × Bool} {n need : Nat} (h : x.2 = true ∨ x.1.length < n + need) : (st x n).2 = true ∨ (st x n).1.length < need := by
 unfold st rst
 by_cases c : x.1.length < n
 ·
  rw [if_pos c]
  exact .inl rfl
 ·
  rw [if_neg c]
  rcases h with h | h
  ·
   exact .inl h
  ·
   refine .inr ?_
   rw [List.length_drop]
   omega
theorem st_bys {x : List Nat × Bool} (h : Bys x.1) (n : Nat) : Bys (st x n).1 := rst_bys h x.2 n
theorem st_len (x : List Nat × Bool) (n : Nat) : (st x n).1.length ≤ x.1.length := rst_len x.1 x.2 n
theorem go_g (c : Nat) : ∀ (x : List Nat × Bool) (acc : List Int), Bys x.1 → x.1.length < 800000 → (need : Nat) → (x.2 = true ∨ x.1.length < c + need) → ∃ (a : List Int) (y : List Nat × Bool), Bys y.1 ∧ y.1.length < 800000 ∧ (y.2 = true ∨ y.1.length < need) ∧ Ev (fun k => F40.go k c acc (up x.1) x.2) (a, up y.1, y.2) := by
 induction c with
 | zero =>
  intro x acc hx hn need h
  rw [Nat.zero_add] at h
  exact ⟨acc, x, hx, hn, h, Ev.now _⟩
 | succ c ih =>
  intro x acc hx hn need h
  have h1 := N_f x.1 hx x.2 1 (by omega)
  have h2 := st_len x 1
  obtain ⟨a, y, hy, hl, hb, he⟩ := ih (st x 1) (acc ++ [wrap64 ((rv x.1 1 : Nat) : Int)]) (st_bys hx 1) (by omega) need (st_inv (by rw [show 1 + (c + need) = c + 1 + need by omega]; exact h))
  exact ⟨a, y, hy, hl, hb, by simp only [F40.go]; exact Ev.bind h1 he⟩
theorem pP_short {l s : List Nat} (hs : Bys s) (ho : Ev (fun k => F37.f k (up l)) (up s, 0)) (h : s.length < 9) : Ev (fun k => F15.f k (up l)) ([], 16) := by
 unfold F15.f
 refine Ev.bind ho (Ev.pos rfl ?_)
 rw [NewReader_f _ (by omega)]
 refine Ev.sb ?_
 have h1 := N_f s hs false 1 (by omega)
 have h2 := st_len (s, false) 1
 have h2' : (st (s, false) 1).1.length ≤ s.length := h2
 refine Ev.bind h1 ?_
 obtain ⟨a, y, hy, hl, hb, he⟩ := go_g 6 (st (s, false) 1) [] (st_bys (x := (s, false)) hs 1) (by omega) 2 (st_inv (x := (s, false)) (need := 8) (.inr (by show s.length < 1 + 8; omega)))
 have h3 := N_f y.1 hy y.2 2 (by omega)
 have h4 : (st y 2).2 = true := by
  rcases st_inv (x := y) (n := 2) (need := 0) hb with h | h
  ·
   exact h
  ·
   omega
 have h5 : Ev (fun k => F40.f k (up (st (s, false) 1).1) (st (s, false) 1).2) (a.getD 0 0, a.getD 1 0, a.getD 2 0, a.getD 3 0, a.getD 4 0, a.getD 5 0, wrap64 ((rv y.1 (wide 2) : Nat) : Int), up (st y 2).1, (st y 2).2) := by
  unfold F40.f
  exact Ev.bind he (Ev.bind h3 (Ev.now _))
 refine Ev.bind h5 ?_
 unfold F41.f
 refine Ev.sb (Ev.pos h4 (Ev.now _))
/-- The numbers of a head. -/
structure HD (s : List Nat) (c0 a1 a2 a3 a4 a5 a6 I : Nat) (r : List Nat) : Prop where
 e : s = c0 :: a1 :: a2 :: a3 :: a4 :: a5 :: a6 :: (be 2 I ++ r)
 bs : Bys s
 hI : I < 65536
theorem nm2 {r : List Nat} (hr : Bys r) : nm 0 ((r.drop 7).take 2) < 65536 := by
 have h := nm_lt ((r.drop 7).take 2) 0 0 ((hr.drop 7).take 2) (by simp)
 have h2 : ((r.drop 7).take 2).length ≤ 2 := by rw [List.length_take]; omega
 rw [Nat.zero_add] at h
 exact Nat.lt_of_lt_of_le h (Nat.le_trans (Nat.pow_le_pow_right (by decide) h2) (by decide))
theorem nine {s : List Nat} (h : 9 ≤ s.length) (hs : Bys s) : HD s (s.getD 0 0) (s.getD 1 0) (s.getD 2 0) (s.getD 3 0) (s.getD 4 0) (s.getD 5 0) (s.getD 6 0) (nm 0 ((s.drop 7).take 2)) (s.drop 9) := by
 refine ⟨?_, hs, nm2 hs⟩
 rw [be_nm 2 _ (by rw [List.length_take, List.length_drop]; omega) ((hs.drop 7).take 2)]
 have e : (s.drop 7).take 2 ++ s.drop 9 = s.drop 7 := by
  have := List.take_append_drop 2 (s.drop 7)
  rw [List.drop_drop] at this
  exact this
 rw [e, ← drop_getD s 6 (by omega), ← drop_getD s 5 (by omega), ← drop_getD s 4 (by omega), ← drop_getD s 3 (by omega), ← drop_getD s 2 (by omega), ← drop_getD s 1 (by omega), ← drop_getD s 0 (by omega), List.drop_zero]
theorem HD.lt {s : List Nat} {c0 a1 a2 a3 a4 a5 a6 I : Nat} {r : List Nat} (h : HD s c0 a1 a2 a3 a4 a5 a6 I r) : c0 < 256 ∧ a1 < 256 ∧ a2 < 256 ∧ a3 < 256 ∧ a4 < 256 ∧ a5 < 256 ∧ a6 < 256 ∧ Bys r ∧ s.length = 9 + r.length := by
 have b := h.bs
 rw [h.e] at b
 refine ⟨b _ (by simp), b _ (by simp), b _ (by simp), b _ (by simp), b _ (by simp), b _ (by simp), b _ (by simp), fun x hx => b x (by simp [hx]), ?_⟩
 rw [h.e]
 simp only [List.length_cons, lnA, be_length]
 omega
theorem Size_h {kb vb t d : Nat} {L H I : Int} (h : hok kb vb t d L H I = true) : F26.f kb vb t d L H I = some ((siz kb vb t d : Nat) : Int) := by
 obtain ⟨m, n, t', d', e1, e2, e3, e4, h1, h2, h3, h4, h5, h6, _⟩ := hok_parts h
 obtain rfl : kb = m := by omega
 obtain rfl : vb = n := by omega
 obtain rfl : t = t' := by omega
 obtain rfl : d = d' := by omega
 have hw1 : (t * kb + 63) / 64 ≤ 2 := by rcases h1 with rfl | rfl | rfl <;> omega
 have hw2 : (d * vb + 63) / 64 ≤ 2 := by rcases h2 with rfl | rfl | rfl <;> omega
 unfold F26.f siz
 rw [pRight_f, h, oBs, if_pos rfl, words_n h1 h4, words_n h2 h6, oBs, oBs]
 generalize (t * kb + 63) / 64 = x at hw1 ⊢
 generalize (d * vb + 63) / 64 = y at hw2 ⊢
 have a1 : d * (8 + 8 * x) ≤ 16 * 24 := Nat.mul_le_mul h6 (by omega)
 have a2 : t * (8 + 8 * y) ≤ 16 * 24 := Nat.mul_le_mul h4 (by omega)
 have b1 : wrap64 (8 + wrap64 (8 * (x : Int))) = ((8 + 8 * x : Nat) : Int) := by rw [w64 (x := 8 * (x : Int)) (by omega) (by omega), w64 (by omega) (by omega)]; omega
 have b2 : wrap64 (8 + wrap64 (8 * (y : Int))) = ((8 + 8 * y : Nat) : Int) := by rw [w64 (x := 8 * (y : Int)) (by omega) (by omega), w64 (by omega) (by omega)]; omega
 rw [b1, b2, ← Int.natCast_mul, ← Int.natCast_mul]
 generalize d * (8 + 8 * x) = p at a1 ⊢
 generalize t * (8 + 8 * y) = q at a2 ⊢
 congr 1
 rw [w64 (x := (p : Int)) (by omega) (by omega), w64 (x := (q : Int)) (by omega) (by omega), w64 (x := 9 + (p : Int)) (by omega) (by omega), w64 (x := 9 + (p : Int) + (q : Int)) (by omega) (by omega), w64 (by omega) (by omega)]
 omega
theorem rSize_h {kb vb t d : Nat} {L H I : Int} (h : hok kb vb t d L H I = true) : Ev (fun k => F60.f k kb vb t d L H I) ((siz kb vb t d : Nat) : Int) := by
 obtain ⟨m, n, t', d', e1, e2, e3, e4, h1, h2, h3, h4, h5, h6, _⟩ := hok_parts h
 obtain rfl : kb = m := by omega
 obtain rfl : vb = n := by omega
 obtain rfl : t = t' := by omega
 obtain rfl : d = d' := by omega
 unfold F60.f siz
 refine Ev.bind (rword_f h1 h4) (Ev.bind (rword_f h2 h6) ?_)
 obtain ⟨hw1, _⟩ := mul16 h1 h4
 obtain ⟨hw2, _⟩ := mul16 h2 h6
 show Ev (fun _ => some _) ((9 + d * (8 + 8 * wnum kb t) + t * (8 + 8 * wnum vb d) + 4 : Nat) : Int)
 generalize wnum kb t = x at hw1 ⊢
 generalize wnum vb d = y at hw2 ⊢
 have a1 : d * (8 + 8 * x) ≤ 16 * 24 := Nat.mul_le_mul h6 (by omega)
 have a2 : t * (8 + 8 * y) ≤ 16 * 24 := Nat.mul_le_mul h4 (by omega)
 have b1 : wrap64 (8 + wrap64 (8 * (x : Int))) = ((8 + 8 * x : Nat) : Int) := by rw [w64 (x := 8 * (x : Int)) (by omega) (by omega), w64 (by omega) (by omega)]; omega
 have b2 : wrap64 (8 + wrap64 (8 * (y : Int))) = ((8 + 8 * y : Nat) : Int) := by rw [w64 (x := 8 * (y : Int)) (by omega) (by omega), w64 (by omega) (by omega)]; omega
 rw [b1, b2, ← Int.natCast_mul, ← Int.natCast_mul]
 generalize d * (8 + 8 * x) = p at a1 ⊢
 generalize t * (8 + 8 * y) = q at a2 ⊢
 refine Ev.eq (Ev.now _) ?_
 rw [w64 (x := (p : Int)) (by omega) (by omega), w64 (x := (q : Int)) (by omega) (by omega), w64 (x := 9 + (p : Int)) (by omega) (by omega), w64 (x := 9 + (p : Int) + (q : Int)) (by omega) (by omega), w64 (by omega) (by omega)]
 omega
/-! #### both sides -/
theorem pP_head {l s : List Nat} {c0 a1 a2 a3 a4 a5 a6 I : Nat} {r : List Nat} (h : HD s c0 a1 a2 a3 a4 a5 a6 I r) (hn : s.length < 7000) (ho : Ev (fun k => F37.f k (up l)) (up s, 0)) {R : List S75 × Int}
  (hr : Ev (fun k => if (c0 : Int) = 75 then ((F23.f a1 a2 a3 a4 a5 a6 I).bind fun t318 => (if t318 = true then ((F26.f a1 a2 a3 a4 a5 a6 I).bind fun t319 => (if ((up l).length : Int) < t319 then (some (([] : List (S75)), 16)) else ((F26.f a1 a2 a3 a4 a5 a6 I).bind fun t320 => (if ((up l).length : Int) > t320 then (some (([] : List (S75)), 17)) else (F15.j0 k (up r) false a1 a2 a3 a4 a5 a6 I))))) else (some (([] : List (S75)), 11)))) else (some (([] : List (S75)), 10))) R) : Ev (fun k => F15.f k (up l)) R := by
 obtain ⟨b0, b1, b2, b3, b4, b5, b6, br, hl⟩ := h.lt
 have hb : Bys (a1 :: a2 :: a3 :: a4 :: a5 :: a6 :: (be 2 I ++ r)) := fun x hx => h.bs x (by rw [h.e]; exact List.mem_cons_of_mem _ hx)
 have hlt : (a1 :: a2 :: a3 :: a4 :: a5 :: a6 :: (be 2 I ++ r)).length < 8000 := by
  have := hn
  rw [h.e, List.length_cons] at this
  omega
 unfold F15.f
 refine Ev.bind ho (Ev.pos rfl ?_)
 rw [NewReader_f _ (by omega)]
 refine Ev.sb ?_
 rw [h.e]
 refine Ev.bind (N_one c0 b0 _ hb false (by omega)) ?_
 refine Ev.bind (head_f a1 a2 a3 a4 a5 a6 I b1 b2 b3 b4 b5 b6 h.hI r br false (by omega)) ?_
 unfold F41.f
 refine Ev.sb (Ev.neg (by simp) ?_)
 exact hr
theorem bt_i {s : List Nat} {c0 a1 a2 a3 a4 a5 a6 I : Nat} {r : List Nat} (h : HD s c0 a1 a2 a3 a4 a5 a6 I r) : bt (B s) 0 = (c0 : Int) ∧ bt (B s) 1 = (a1 : Int) ∧ bt (B s) 2 = (a2 : Int) ∧ bt (B s) 3 = (a3 : Int) ∧ bt (B s) 4 = (a4 : Int) ∧ bt (B s) 5 = (a5 : Int) ∧ bt (B s) 6 = (a6 : Int) := by
 obtain ⟨_, _, _, _, _, _, _, _, hl⟩ := h.lt
 have e := fun j (hj : j < s.length) => bt_B h.bs j hj
 refine ⟨(e 0 (by omega)).trans ?_, (e 1 (by omega)).trans ?_, (e 2 (by omega)).trans ?_, (e 3 (by omega)).trans ?_, (e 4 (by omega)).trans ?_, (e 5 (by omega)).trans ?_, (e 6 (by omega)).trans ?_⟩ <;> rw [h.e] <;> rfl
theorem rP_head {l s : List Nat} {c0 a1 a2 a3 a4 a5 a6 I : Nat} {r : List Nat} (h : HD s c0 a1 a2 a3 a4 a5 a6 I r) (hn : s.length < 7000) (ho : Ev (fun k => F58.f k (B l)) (B s, 0)) {R : Int × Int × Int × Int × Int × Int × Int × List S98 × List S98 × Int}
  (hr : Ev (fun k => if (c0 : Int) = 75 then (if hok a1 a2 a3 a4 a5 a6 I = true then ((F60.f k a1 a2 a3 a4 a5 a6 I).bind fun z => if (l.length : Int) < z then some (0, 0, 0, 0, 0, 0, 0, [], [], 16) else if (l.length : Int) > z then some (0, 0, 0, 0, 0, 0, 0, [], [], 17) else
     (F61.f k (B r) a4 a3 a1).bind fun u => if u.2.2 = 0 then
      (F61.f k u.2.1 a3 a4 a2).bind fun v => if v.2.2 = 0 then some ((a1 : Int), (a2 : Int), (a3 : Int), (a4 : Int), (a5 : Int), (a6 : Int), (I : Int), u.1, v.1, 0) else some (0, 0, 0, 0, 0, 0, 0, [], [], v.2.2)
     else some (0, 0, 0, 0, 0, 0, 0, [], [], u.2.2)) else some (0, 0, 0, 0, 0, 0, 0, [], [], 11)) else some (0, 0, 0, 0, 0, 0, 0, [], [], 10)) R) : Ev (fun k => F27.f k (B l)) R := by
 obtain ⟨b0, b1, b2, b3, b4, b5, b6, br, hl⟩ := h.lt
 obtain ⟨i0, i1, i2, i3, i4, i5, i6⟩ := bt_i h
 have hI := h.hI
 have e2 : (s.drop 7).take 2 = be 2 I := by
  rw [h.e]
  show (be 2 I ++ r).take 2 = be 2 I
  rw [List.take_append_of_le_length (by rw [be_length]; exact Nat.le_refl _), List.take_of_length_le (by rw [be_length]; exact Nat.le_refl _)]
 have e9 : s.drop 9 = r := by
  rw [h.e]
  show (be 2 I ++ r).drop 2 = r
  rw [List.drop_append_of_le_length (by rw [be_length]; exact Nat.le_refl _), List.drop_of_length_le (by rw [be_length]; exact Nat.le_refl _), List.nil_append]
 have eN : nm 0 ((s.drop 7).take (9 - 7)) = I := by
  rw [show 9 - 7 = 2 from rfl, e2, nm_be, show (256 : Nat) ^ 2 = 65536 by decide, Nat.mod_eq_of_lt hI]
 have wv : ∀ x : Nat, x < 65536 → wrap64 (x : Int) = (x : Int) := fun x hx => w64 (by omega) (by omega)
 unfold F27.f
 refine Ev.bind ho (Ev.pos rfl ?_)
 show Ev (fun k => if ((B s).size : Int) < 9 then _ else if bt (B s) 0 = 75 then _ else _) R
 refine Ev.neg (by rw [B_size]; omega) ?_
 rw [i0]
 by_cases hc : (c0 : Int) = 75
 ·
  simp only [if_pos hc] at hr
  refine Ev.pos hc ?_
  show Ev (fun k => (F59.f k ((B s).extract 7 9)).bind fun n => (F9.f (wrap64 (bt (B s) 1)) (wrap64 (bt (B s) 2)) (wrap64 (bt (B s) 3)) (wrap64 (bt (B s) 4)) (wrap64 (bt (B s) 5)) (wrap64 (bt (B s) 6)) (wrap64 n)).bind fun q => if q = true then
    (F60.f k (wrap64 (bt (B s) 1)) (wrap64 (bt (B s) 2)) (wrap64 (bt (B s) 3)) (wrap64 (bt (B s) 4)) (wrap64 (bt (B s) 5)) (wrap64 (bt (B s) 6)) (wrap64 n)).bind fun z => if ((B l).size : Int) < z then some (0, 0, 0, 0, 0, 0, 0, [], [], 16) else if ((B l).size : Int) > z then some (0, 0, 0, 0, 0, 0, 0, [], [], 17) else
     (F61.f k ((B s).extract 9 (B s).size) (wrap64 (bt (B s) 4)) (wrap64 (bt (B s) 3)) (wrap64 (bt (B s) 1))).bind fun u => if u.2.2 = 0 then
      (F61.f k u.2.1 (wrap64 (bt (B s) 3)) (wrap64 (bt (B s) 4)) (wrap64 (bt (B s) 2))).bind fun v => if v.2.2 = 0 then some (wrap64 (bt (B s) 1), wrap64 (bt (B s) 2), wrap64 (bt (B s) 3), wrap64 (bt (B s) 4), wrap64 (bt (B s) 5), wrap64 (bt (B s) 6), wrap64 n, u.1, v.1, 0) else some (0, 0, 0, 0, 0, 0, 0, [], [], v.2.2)
     else some (0, 0, 0, 0, 0, 0, 0, [], [], u.2.2)
   else some (0, 0, 0, 0, 0, 0, 0, [], [], 11)) R
  rw [i1, i2, i3, i4, i5, i6, wv a1 (by omega), wv a2 (by omega), wv a3 (by omega), wv a4 (by omega), wv a5 (by omega), wv a6 (by omega), B_extract, B_extract_end, B_size, e9]
  refine Ev.bind (rNumber_f ((s.drop 7).take (9 - 7)) ((h.bs.drop 7).take _) (by rw [List.length_take]; omega)) ?_
  rw [eN, wv I (by omega), qRight_f]
  exact Ev.sb hr
 ·
  simp only [if_neg hc] at hr
  exact Ev.neg hc hr
/-! #### the law -/
theorem law_err {l : List Nat} (hl : l.length ≤ 6000) (e : Int) (he : e ≠ 0) (hp : Ev (fun k => F15.f k (up l)) ([], e)) (hr : Ev (fun k => F27.f k (B l)) (0, 0, 0, 0, 0, 0, 0, [], [], e)) : Ev (fun k => F6.f k (up l)) true := by
 unfold F6.f
 refine Ev.neg (by rw [up_length]; omega) (Ev.bind hp (Ev.bind hr (Ev.neg he (Ev.pos rfl (Ev.pos rfl ?_)))))
 exact Ev.bind awake_f (Ev.now _)
theorem siz_eq (kb vb t d : Nat) : siz kb vb t d = 9 + d * (8 + 8 * wnum kb t) + t * (8 + 8 * wnum vb d) + 4 := rfl
theorem parse_law {l : List Nat} (hl : Bys l) (hn : l.length ≤ 6000) : Ev (fun k => F6.f k (up l)) true := by
 by_cases h4 : l.length < 4
 ·
  refine law_err hn 16 (by decide) ?_ ?_
  ·
   unfold F15.f
   exact Ev.bind (Open_short l h4) (Ev.neg (by decide) (Ev.now _))
  ·
   unfold F27.f
   exact Ev.bind (rOpen_short l h4) (Ev.neg (by decide) (Ev.now _))
 have ho := Open_long l hl (by omega) (by omega)
 have hro := rOpen_long l hl (by omega) (by omega)
 by_cases hcl : l = cl (l.take (l.length - 4))
 case neg =>
  rw [if_neg hcl] at ho hro
  refine law_err hn 22 (by decide) ?_ ?_
  ·
   unfold F15.f
   exact Ev.bind ho (Ev.neg (by decide) (Ev.now _))
  ·
   unfold F27.f
   exact Ev.bind hro (Ev.neg (by decide) (Ev.now _))
 rw [if_pos hcl] at ho hro
 have hs := hl.take (l.length - 4)
 have hlen : (l.take (l.length - 4)).length = l.length - 4 := by rw [List.length_take]; omega
 generalize l.take (l.length - 4) = s at ho hro hs hlen hcl
 by_cases h9 : s.length < 9
 ·
  refine law_err hn 16 (by decide) (pP_short hs ho h9) ?_
  unfold F27.f
  refine Ev.bind hro (Ev.pos rfl ?_)
  show Ev (fun k => if ((B s).size : Int) < 9 then _ else _) _
  exact Ev.pos (by rw [B_size]; omega) (Ev.now _)
 have hd := nine (by omega) hs
 generalize s.getD 0 0 = c0 at hd
 generalize s.getD 1 0 = a1 at hd
 generalize s.getD 2 0 = a2 at hd
 generalize s.getD 3 0 = a3 at hd
 generalize s.getD 4 0 = a4 at hd
 generalize s.getD 5 0 = a5 at hd
 generalize s.getD 6 0 = a6 at hd
 generalize nm 0 ((s.drop 7).take 2) = I at hd
 generalize s.drop 9 = r at hd
 obtain ⟨b0, b1, b2, b3, b4, b5, b6, br, hsl⟩ := hd.lt
 by_cases hc : (c0 : Int) = 75
 case neg => exact law_err hn 10 (by decide) (pP_head hd (by omega) ho (Ev.neg hc (Ev.now _))) (rP_head hd (by omega) hro (Ev.neg hc (Ev.now _)))
 by_cases hk : hok a1 a2 a3 a4 a5 a6 I = true
 case neg => exact law_err hn 11 (by decide) (pP_head hd (by omega) ho (Ev.pos hc (by rw [pRight_f]; exact Ev.sb (Ev.neg hk (Ev.now _))))) (rP_head hd (by omega) hro (Ev.pos hc (Ev.neg hk (Ev.now _))))
 have hz := Size_h hk
 have hrz := rSize_h hk
 by_cases hz1 : l.length < siz a1 a2 a3 a4
 ·
  refine law_err hn 16 (by decide) (pP_head hd (by omega) ho (Ev.pos hc ?_)) (rP_head hd (by omega) hro (Ev.pos hc (Ev.pos hk (Ev.bind hrz (Ev.pos (by omega) (Ev.now _))))))
  rw [pRight_f, hz]
  exact Ev.sb (Ev.pos hk (Ev.sb (Ev.pos (by rw [up_length]; omega) (Ev.now _))))
 by_cases hz2 : l.length > siz a1 a2 a3 a4
 ·
  refine law_err hn 17 (by decide) (pP_head hd (by omega) ho (Ev.pos hc ?_)) (rP_head hd (by omega) hro (Ev.pos hc (Ev.pos hk (Ev.bind hrz (Ev.neg (by omega) (Ev.pos (by omega) (Ev.now _)))))))
  rw [pRight_f, hz]
  exact Ev.sb (Ev.pos hk (Ev.sb (Ev.neg (by rw [up_length]; omega) (Ev.sb (Ev.pos (by rw [up_length]; omega) (Ev.now _))))))
 have hzl : l.length = siz a1 a2 a3 a4 := by omega
 rw [siz_eq] at hzl
 obtain ⟨m, n, t, d, e1, e2, e3, e4, hm, hn2, t1, t2, d1, d2, _⟩ := hok_parts hk
 obtain rfl : a1 = m := by omega
 obtain rfl : a2 = n := by omega
 obtain rfl : a3 = t := by omega
 obtain rfl : a4 = d := by omega
 clear e1 e2 e3 e4
 have hrl : r.length = a4 * (8 + 8 * wnum a1 a3) + a3 * (8 + 8 * wnum a2 a4) := by omega
 have hgK := groups_g hm t1 t2 a4 d2 r br (by omega) (by omega)
 have hrK := rread_g hm t1 t2 a4 d2 r br (by omega) (by omega)
 have toP : ∀ {R : List S75 × Int}, Ev (fun k => F15.j0 k (up r) false a1 a2 a3 a4 a5 a6 I) R → Ev (fun k => F15.f k (up l)) R := by
  intro R h
  refine pP_head hd (by omega) ho (Ev.pos hc ?_)
  rw [pRight_f, hz]
  refine Ev.sb (Ev.pos hk (Ev.sb (Ev.neg (by rw [up_length, siz_eq]; omega) (Ev.sb (Ev.neg (by rw [up_length, siz_eq]; omega) h)))))
 have toR : ∀ {R : Int × Int × Int × Int × Int × Int × Int × List S98 × List S98 × Int}, Ev (fun k => (F61.f k (B r) a4 a3 a1).bind fun u => if u.2.2 = 0 then
      (F61.f k u.2.1 a3 a4 a2).bind fun v => if v.2.2 = 0 then some ((a1 : Int), (a2 : Int), (a3 : Int), (a4 : Int), (a5 : Int), (a6 : Int), (I : Int), u.1, v.1, 0) else some (0, 0, 0, 0, 0, 0, 0, [], [], v.2.2)
     else some (0, 0, 0, 0, 0, 0, 0, [], [], u.2.2)) R → Ev (fun k => F27.f k (B l)) R := by
  intro R h
  exact rP_head hd (by omega) hro (Ev.pos hc (Ev.pos hk (Ev.bind hrz (Ev.neg (by rw [siz_eq]; omega) (Ev.neg (by rw [siz_eq]; omega) h)))))
 by_cases hx : (rds a1 a3 a4 r).2.1 = 0
 case neg =>
  rw [fin, if_neg hx] at hgK
  rw [rfin, if_neg hx] at hrK
  refine law_err hn _ hx (toP ?_) (toR ?_)
  ·
   refine Ev.step (fun k => by rw [F15.j0]) ?_
   exact Ev.bind hgK (Ev.neg hx (Ev.now _))
  ·
   exact Ev.bind hrK (Ev.neg hx (Ev.now _))
 rw [fin, if_pos hx, List.nil_append] at hgK
 rw [rfin, if_pos hx, List.nil_append] at hrK
 obtain ⟨gK, nK, bK, rK⟩ := rds_ok hm t1 t2 a4 r br (by omega) hx
 have br2 : Bys (rds a1 a3 a4 r).2.2 := by rw [rK]; exact br.drop _
 have hr2 : (rds a1 a3 a4 r).2.2.length = a3 * (8 + 8 * wnum a2 a4) := by rw [rK, List.length_drop]; omega
 generalize (rds a1 a3 a4 r).2.2 = r2 at hgK hrK rK br2 hr2
 generalize (rds a1 a3 a4 r).1 = K at hgK hrK gK nK bK
 have hgV := groups_g hn2 d1 d2 a3 t2 r2 br2 (by omega) (by omega)
 have hrV := rread_g hn2 d1 d2 a3 t2 r2 br2 (by omega) (by omega)
 by_cases hy : (rds a2 a4 a3 r2).2.1 = 0
 case neg =>
  rw [fin, if_neg hy] at hgV
  rw [rfin, if_neg hy] at hrV
  refine law_err hn _ hy (toP ?_) (toR ?_)
  ·
   refine Ev.step (fun k => by rw [F15.j0]) ?_
   exact Ev.bind hgK (Ev.pos rfl (Ev.bind hgV (Ev.neg hy (Ev.now _))))
  ·
   exact Ev.bind hrK (Ev.pos rfl (Ev.bind hrV (Ev.neg hy (Ev.now _))))
 rw [fin, if_pos hy, List.nil_append] at hgV
 rw [rfin, if_pos hy, List.nil_append] at hrV
 obtain ⟨gV, nV, bV, rV⟩ := rds_ok hn2 d1 d2 a3 r2 br2 (by omega) hy
 generalize (rds a2 a4 a3 r2).1 = V at hgV hrV gV nV bV
 have hP : PG a1 a2 a3 a4 a5 a6 I K V := ⟨hk, gK, gV, nK, nV⟩
 have hpin : pin a1 a2 a3 a4 a5 a6 I K V = s := by
  unfold pin hby
  rw [bK, bV, hd.e]
  have c75 : c0 = 75 := by omega
  subst c75
  have e5 : r2.take (a3 * (8 + 8 * wnum a2 a4)) = r2 := List.take_of_length_le (by omega)
  rw [e5, rK, List.take_append_drop, tnC, tnC, tnC]
  simp
 have hPr := toP (R := ([pgv a1 a2 a3 a4 a5 a6 I K V], 0)) (by
  refine Ev.step (fun k => by rw [F15.j0]) ?_
  exact Ev.bind hgK (Ev.pos rfl (Ev.bind hgV (Ev.pos rfl (Ev.bind (New_f hP) (Ev.now _))))))
 have hRr := toR (Ev.bind hrK (Ev.pos rfl (Ev.bind hrV (Ev.pos rfl (Ev.now _)))))
 unfold F6.f
 refine Ev.neg (by rw [up_length]; omega) (Ev.bind hPr (Ev.bind hRr (Ev.pos rfl (Ev.pos rfl (Ev.neg (by simp) ?_)))))
 refine Ev.bind (is_f hP) (Ev.pos rfl (Ev.bind (Bytes_f hP) (Ev.pos ?_ (Ev.bind awake_f (Ev.now _)))))
 rw [hpin, ← hcl]
theorem PageParses : F6.Pure := by
 intro xs _ _ hw
 refine Ev.rounds ?_
 obtain ⟨l, hl, rfl⟩ := wf_bys hw
 by_cases h : l.length ≤ 6000
 ·
  exact parse_law hl h
 ·
  unfold F6.f
  exact Ev.pos (by rw [up_length]; omega) (Ev.bind awake_f (Ev.now _))

end Go.Proofs.Ytekenaclmplocaa.Pure
