/- For every list of words, every n and every b the law PackBack returns true: no conditions. -/
import Derived.Test.YtlkelicgbjjgiaaPPackBackx
namespace Go.Proofs.Ytlkelicgbjjgiaa.Pure
open Go.RowKit Go.Proofs.Ytlkelicgbjjgiaa.PPackBack Go.Proofs.YtlkelicgbjjgiaaW.PrintWords Go.Proofs.YtlkelicgbjjgiaaW.PrintLast Go.Proofs.YtlkelicgbjjgiaaW.PrintMore
set_option linter.unusedVariables false
set_option linter.unusedSimpArgs false
/-! ### rounds -/
theorem Ev.pos {α : Type} {c : Prop} [Decidable c] {X Y : Nat → Option α} {r : α} (h : c) (k : Ev X r) : Ev (fun n => if c then X n else Y n) r := by
  obtain ⟨K, k⟩ := k
  exact ⟨K, fun n hn => (if_pos h).trans (k n hn)⟩
theorem Ev.neg {α : Type} {c : Prop} [Decidable c] {X Y : Nat → Option α} {r : α} (h : ¬ c) (k : Ev Y r) : Ev (fun n => if c then X n else Y n) r := by
  obtain ⟨K, k⟩ := k
  exact ⟨K, fun n hn => (if_neg h).trans (k n hn)⟩
theorem Ev.sb {α β : Type} {f : Nat → α → Option β} {a : α} {r : β} (k : Ev (fun n => f n a) r) : Ev (fun n => (some a).bind (f n)) r := k
theorem Ev.eq {α : Type} {g : Nat → Option α} {r s : α} (k : Ev g r) (h : r = s) : Ev g s := h ▸ k
theorem Ev.one {α : Type} {g h : Nat → Option α} {r : α} (hg : Ev g r) (hh : ∀ n, g n = h n) : Ev h r := Ev.congr (fun n => (hh n).symm) hg
/-- A test, either way. -/
theorem Ev.ite {α : Type} {c : Prop} [Decidable c] {X Y : Nat → Option α} {r : α} (h : c → Ev X r) (k : ¬ c → Ev Y r) : Ev (fun n => if c then X n else Y n) r := by
  by_cases hc : c
  · exact Ev.pos hc (h hc)
  · exact Ev.neg hc (k hc)
theorem w64 {x : Int} (h0 : -9223372036854775808 ≤ x) (h1 : x ≤ 9223372036854775807) : wrap64 x = x := by unfold wrap64; omega
theorem wu64 {x : Int} (h0 : 0 ≤ x) (h1 : x < 18446744073709551616) : IntKind.u64.wrap x = x := by
  simp [IntKind.wrap, IntKind.bits, IntKind.signed]
  omega
theorem td_nonneg {x y : Int} (h : 0 ≤ x) : Int.tdiv x y = x / y := Int.tdiv_eq_ediv_of_nonneg h
theorem tm_nonneg {x y : Int} (h : 0 ≤ x) : Int.tmod x y = x % y := Int.tmod_eq_emod_of_nonneg h
theorem wf_i64 {x : Int} (h : (Lit.int .i64 x).wf = true) : -9223372036854775808 ≤ x ∧ x ≤ 9223372036854775807 := by
  simp [Lit.wf, IntKind.min, IntKind.max, IntKind.bits, IntKind.signed] at h
  omega
theorem wf_u64 {x : Int} (h : (Lit.int .u64 x).wf = true) : 0 ≤ x ∧ x < 18446744073709551616 := by
  simp [Lit.wf, IntKind.min, IntKind.max, IntKind.bits, IntKind.signed] at h
  omega
theorem wn (x : Nat) (h : x < 9223372036854775808) : wrap64 (x : Int) = (x : Int) := w64 (by omega) (by omega)
theorem wadd (x y : Nat) (h : x + y < 9223372036854775808) : wrap64 ((x : Int) + (y : Int)) = ((x + y : Nat) : Int) := by
  rw [← Int.natCast_add]
  exact wn _ h
theorem wsucc (x : Nat) (h : x + 1 < 9223372036854775808) : wrap64 ((x : Int) + 1) = ((x + 1 : Nat) : Int) := wadd x 1 h
theorem wun (x : Nat) (h : x < 18446744073709551616) : IntKind.u64.wrap (x : Int) = (x : Int) := wu64 (by omega) (by omega)
def okb (b : Int) : Bool := b == 2 || b == 4 || b == 8
theorem okb_iff {b : Int} : okb b = true ↔ b = 2 ∨ b = 4 ∨ b = 8 := by simp [okb, or_assoc]
theorem Bits_f (b : Int) : pack_Bits.f b = some (okb b) := by
  unfold pack_Bits.f okb
  by_cases h2 : b = 2
  · simp [h2]
  · by_cases h4 : b = 4
    · simp [h4]
    · simp [h2, h4]
theorem rBits_f (b : Int) : credenzaref05_Bits.f b = some (okb b) := by
  unfold credenzaref05_Bits.f okb
  by_cases h2 : b = 2
  · simp [h2]
  · by_cases h4 : b = 4
    · simp [h4]
    · simp [h2, h4]
theorem many_f (n : Int) : pack_many.f n = some (decide (0 ≤ n) && decide (n ≤ 256)) := by
  unfold pack_many.f
  by_cases h : n ≥ 0
  · rw [if_pos h]; simp [show (0 : Int) ≤ n from h]
  · rw [if_neg h]; simp [show ¬ (0 : Int) ≤ n from h]
def wordsZ (n b : Int) : Int := if okb b = true ∧ 0 ≤ n ∧ n ≤ 256 then (n * b + 63) / 64 else 0
theorem Words_f (n b : Int) : pack_Words.f n b = some (wordsZ n b) := by
  unfold pack_Words.f wordsZ
  simp only [Bits_f, many_f, Option.bind_some]
  by_cases hb : okb b = true
  · rw [if_pos hb]
    by_cases hn : 0 ≤ n ∧ n ≤ 256
    · rw [if_pos (by simp [hn.1, hn.2]), if_pos ⟨hb, hn.1, hn.2⟩]
      have h0 : 0 ≤ n * b ∧ n * b ≤ 2048 := by
        rcases okb_iff.1 hb with rfl | rfl | rfl <;> omega
      rw [w64 (x := n * b) (by omega) (by omega), w64 (x := n * b + 64) (by omega) (by omega), w64 (x := n * b + 64 - 1) (by omega) (by omega), td_nonneg (by omega), w64 (by omega) (by omega)]
      congr 2
      omega
    · rw [if_neg (by simp; omega), if_neg (fun h => hn h.2)]
  · rw [if_neg hb, if_neg (fun h => hb h.1)]
theorem awake_f : Ev (fun k => credenzalaw05_awake.f k) true := Ev.of credenzalaw05_awake.mono (k := 40) (by decide +kernel)
theorem rWords_l (n b : Int) (h0 : 0 ≤ n * b) (h1 : n * b ≤ 1000000) : ∀ (d : Nat) (x : Int), 0 ≤ x → x ≤ (n * b + 63) / 64 → (n * b + 63) / 64 - x = d → Ev (fun k => credenzaref05_Words.l0 k n b x) ((n * b + 63) / 64) := by
  intro d
  induction d with
  | zero =>
    intro x hx hle hd
    refine Ev.step (f := fun _ => some x) (fun k => ?_) (Ev.eq (Ev.now x) (by omega))
    rw [credenzaref05_Words.l0]
    rw [w64 (x := x * 64) (by omega) (by omega), w64 (x := n * b) (by omega) (by omega), if_neg (by omega)]
  | succ d ih =>
    intro x hx hle hd
    refine Ev.step (fun k => ?_) (ih (x + 1) (by omega) (by omega) (by omega))
    rw [credenzaref05_Words.l0]
    rw [w64 (x := x * 64) (by omega) (by omega), w64 (x := n * b) (by omega) (by omega), if_pos (by omega), w64 (x := x + 1) (by omega) (by omega)]
theorem rWords_f (n b : Int) (h0 : 0 ≤ n * b) (h1 : n * b ≤ 1000000) : Ev (fun k => credenzaref05_Words.f k n b) ((n * b + 63) / 64) := by
  unfold credenzaref05_Words.f
  exact rWords_l n b h0 h1 ((n * b + 63) / 64).toNat 0 (by omega) (by omega) (by omega)
/-! ### words as natural numbers -/
def up (W : List Nat) : List Int := W.map fun (n : Nat) => (n : Int)
theorem up_length (W : List Nat) : (up W).length = W.length := by simp [up]
theorem rd_up (W : List Nat) (j : Nat) : rd (up W) (j : Int) = ((W.getD j 0 : Nat) : Int) := by
  unfold rd up
  rw [Int.toNat_natCast, List.getD_eq_getElem?_getD, List.getD_eq_getElem?_getD, List.getElem?_map]
  cases W[j]? <;> rfl
theorem set_up (W : List Nat) (j x : Nat) : (up W).set j (x : Int) = up (W.set j x) := by
  unfold up
  rw [List.map_set]
theorem or_join {v x s : Nat} (hv : v < 2 ^ s) (hx : x % 2 ^ s = 0) (hx1 : x < 18446744073709551616) (hv1 : v < 18446744073709551616) : Go.bits .or .u64 (v : Int) (x : Int) = ((v + x : Nat) : Int) := by
  have hb := (bits_nat .u64 64 (by decide) (fun n h0 h1 => wu64 h0 (by simpa using h1)) v x (by simpa using hv1) (by simpa using hx1)).2
  rw [hb, Nat.or_comm]
  have hq : x = 2 ^ s * (x / 2 ^ s) := by
    have := Nat.div_add_mod x (2 ^ s)
    omega
  rw [hq, ← Nat.two_pow_add_eq_or_of_lt hv (x / 2 ^ s), ← hq, Nat.add_comm]
theorem shl_u64 (x s : Nat) (hs : s ≤ 64) (h : x * 2 ^ s < 18446744073709551616) : shl .u64 (x : Int) (s : Int) = ((x * 2 ^ s : Nat) : Int) := by
  unfold shl
  rw [Int.toNat_natCast, Nat.min_eq_left (show s ≤ IntKind.u64.bits from hs)]
  have : (x : Int) * 2 ^ s = ((x * 2 ^ s : Nat) : Int) := by simp
  rw [this, wu64 (by omega) (by omega)]
theorem shr_u64 (x s : Nat) (hs : s ≤ 64) : shr .u64 (x : Int) (s : Int) = ((x / 2 ^ s : Nat) : Int) := by
  unfold shr
  rw [Int.toNat_natCast, Nat.min_eq_left (show s ≤ IntKind.u64.bits from hs)]
  simp
/-- the words behind i codes -/
def St (b W : Nat) (l : List Nat) : Nat → List Nat
  | 0 => List.replicate W 0
  | i + 1 => (St b W l i).set (i * b / 64) ((St b W l i).getD (i * b / 64) 0 + l.getD i 0 * 2 ^ (i * b % 64))
theorem St_length (b W : Nat) (l : List Nat) : ∀ i, (St b W l i).length = W
  | 0 => by simp [St]
  | i + 1 => by simp [St, St_length b W l i]
theorem getD_set (W : List Nat) (q x j : Nat) (hq : q < W.length) : (W.set q x).getD j 0 = if j = q then x else W.getD j 0 := by
  rw [List.getD_eq_getElem?_getD, List.getD_eq_getElem?_getD, List.getElem?_set]
  by_cases h : q = j
  · subst h
    simp [hq]
  · simp [h, Ne.symm h]
/-- b divides 64: where a code lies -/
theorem place {b : Nat} (hb : b = 2 ∨ b = 4 ∨ b = 8) (i : Nat) : i * b % 64 + b ≤ 64 ∧ (i * b % 64 + b < 64 → (i + 1) * b / 64 = i * b / 64 ∧ (i + 1) * b % 64 = i * b % 64 + b) ∧ (i * b % 64 + b = 64 → (i + 1) * b / 64 = i * b / 64 + 1 ∧ (i + 1) * b % 64 = 0) := by
  rcases hb with rfl | rfl | rfl <;> omega
theorem mul_lt_two {c s b : Nat} (hc : c < 2 ^ b) : c * 2 ^ s + 2 ^ s ≤ 2 ^ (s + b) := by
  have h : (c + 1) * 2 ^ s ≤ 2 ^ b * 2 ^ s := Nat.mul_le_mul_right _ hc
  rw [Nat.pow_add, Nat.mul_comm (2 ^ s)]
  rw [Nat.add_mul, Nat.one_mul] at h
  exact h
theorem two64 : (2 : Nat) ^ 64 = 18446744073709551616 := by decide
/-- what stands in the words -/
theorem St_bound {b W : Nat} (hb : b = 2 ∨ b = 4 ∨ b = 8) (l : List Nat) (hl : ∀ i, l.getD i 0 < 2 ^ b) : ∀ i, (i * b + 63) / 64 ≤ W → ∀ j, (St b W l i).getD j 0 < 2 ^ (min 64 (i * b - 64 * j))
  | 0, _, j => by
    have : (List.replicate W 0).getD j 0 = 0 := by
      rw [List.getD_eq_getElem?_getD, List.getElem?_replicate]
      split <;> rfl
    simp only [St, this]
    exact Nat.two_pow_pos _
  | i + 1, hW, j => by
    have hpl := place hb i
    have hbp : 0 < b := by omega
    have hmul : (i + 1) * b = i * b + b := by rw [Nat.add_mul, Nat.one_mul]
    have ih := St_bound (W := W) hb l hl i (by omega)
    have hq : i * b / 64 < W := by omega
    simp only [St]
    rw [getD_set _ _ _ _ (by rw [St_length]; exact hq)]
    by_cases hj : j = i * b / 64
    · rw [if_pos hj, hj]
      have h1 := ih (i * b / 64)
      have e1 : min 64 (i * b - 64 * (i * b / 64)) = i * b % 64 := by omega
      have e2 : min 64 ((i + 1) * b - 64 * (i * b / 64)) = i * b % 64 + b := by omega
      rw [e1] at h1
      rw [e2]
      have := mul_lt_two (s := i * b % 64) (hl i)
      omega
    · rw [if_neg hj]
      exact Nat.lt_of_lt_of_le (ih j) (Nat.pow_le_pow_right (by decide) (by omega))
/-- each code stands in its place -/
theorem St_lane {b W : Nat} (hb : b = 2 ∨ b = 4 ∨ b = 8) (l : List Nat) (hl : ∀ i, l.getD i 0 < 2 ^ b) : ∀ i, (i * b + 63) / 64 ≤ W → ∀ t, t < i → (St b W l i).getD (t * b / 64) 0 / 2 ^ (t * b % 64) % 2 ^ b = l.getD t 0
  | 0, _, t, ht => by omega
  | i + 1, hW, t, ht => by
    have hpl := place hb i
    have hbp : 0 < b := by omega
    have hmul : (i + 1) * b = i * b + b := by rw [Nat.add_mul, Nat.one_mul]
    have hq : i * b / 64 < W := by omega
    simp only [St]
    rw [getD_set _ _ _ _ (by rw [St_length]; exact hq)]
    by_cases hti : t = i
    · subst hti
      rw [if_pos rfl]
      have h1 := St_bound (W := W) hb l hl t (by omega) (t * b / 64)
      have e1 : min 64 (t * b - 64 * (t * b / 64)) = t * b % 64 := by omega
      rw [e1] at h1
      rw [Nat.add_mul_div_right _ _ (Nat.two_pow_pos _), Nat.div_eq_of_lt h1, Nat.zero_add, Nat.mod_eq_of_lt (hl t)]
    · have ih := St_lane (W := W) hb l hl i (by omega) t (by omega)
      by_cases hj : t * b / 64 = i * b / 64
      · rw [if_pos hj]
        have hplt := place hb t
        have hlt : t * b + b ≤ i * b := by
          have : (t + 1) * b ≤ i * b := Nat.mul_le_mul_right _ (by omega)
          rw [Nat.add_mul, Nat.one_mul] at this
          exact this
        have hs : t * b % 64 + b ≤ i * b % 64 := by omega
        obtain ⟨r, hr⟩ : ∃ r, i * b % 64 = t * b % 64 + b + r := ⟨i * b % 64 - (t * b % 64 + b), by omega⟩
        have e : l.getD i 0 * 2 ^ (i * b % 64) = (l.getD i 0 * 2 ^ r * 2 ^ b) * 2 ^ (t * b % 64) := by
          rw [hr, Nat.pow_add, Nat.pow_add]
          simp only [Nat.mul_assoc, Nat.mul_comm, Nat.mul_left_comm]
        rw [e, Nat.add_mul_div_right _ _ (Nat.two_pow_pos _), Nat.add_mul_mod_self_right, ← hj]
        exact ih
      · rw [if_neg hj]
        exact ih
theorem wi (i b : Nat) (h : i * b < 100000) : wrap64 ((i : Int) * (b : Int)) = ((i * b : Nat) : Int) := by
  rw [← Int.natCast_mul]
  exact w64 (by omega) (by omega)
theorem wdiv (x : Nat) (h : x < 100000) : wrap64 (Int.tdiv (x : Int) 64) = ((x / 64 : Nat) : Int) := by
  rw [td_nonneg (by omega)]
  have : (x : Int) / 64 = ((x / 64 : Nat) : Int) := by simp
  rw [this]
  exact w64 (by omega) (by omega)
theorem wmod (x : Nat) : Int.tmod (x : Int) 64 = ((x % 64 : Nat) : Int) := by
  rw [tm_nonneg (by omega)]
  simp
theorem b_le {b : Nat} (hb : b = 2 ∨ b = 4 ∨ b = 8) : 2 ^ b ≤ 256 ∧ b ≤ 8 ∧ 0 < b := by
  rcases hb with rfl | rfl | rfl <;> decide
theorem mulb {b i n : Nat} (hb : b = 2 ∨ b = 4 ∨ b = 8) (hi : i < n) (hn : n ≤ 256) : i * b + b ≤ n * b ∧ n * b ≤ 2048 := by
  rcases hb with rfl | rfl | rfl <;> omega
theorem Pack_l {b : Nat} (hb : b = 2 ∨ b = 4 ∨ b = 8) (l : List Nat) (hl : ∀ i, l.getD i 0 < 2 ^ b) (hn : l.length ≤ 256) : ∀ (d i : Nat), l.length - i = d → i ≤ l.length →
    Ev (fun k => pack_Pack.l0 k (up (St b ((l.length * b + 63) / 64) l i)) (up l) (l.length : Int) (i : Int) (b : Int)) (up (St b ((l.length * b + 63) / 64) l l.length), 0) := by
  intro d
  induction d with
  | zero =>
    intro i hd hi
    obtain rfl : i = l.length := by omega
    refine Ev.step (f := fun _ => some (up (St b ((l.length * b + 63) / 64) l l.length), 0)) (fun k => ?_) (Ev.now _)
    rw [pack_Pack.l0, if_neg (by omega)]
  | succ d ih =>
    intro i hd hi
    have hlt : i < l.length := by omega
    have hm := mulb hb hlt hn
    have hbl := b_le hb
    have hpl := place hb i
    have hq : i * b / 64 < (l.length * b + 63) / 64 := by omega
    refine Ev.step (fun k => ?_) (ih (i + 1) (by omega) (by omega))
    rw [pack_Pack.l0, wi i b (by omega), wdiv _ (by omega), wmod, if_pos (by omega), if_pos (by omega), if_pos (by rw [up_length]; omega), if_pos (by omega), if_pos (by rw [up_length, St_length]; omega), if_pos (by omega)]
    have hc := hl i
    have h1 : rd (up l) (i : Int) = ((l.getD i 0 : Nat) : Int) := rd_up l i
    have h2 : rd (up (St b ((l.length * b + 63) / 64) l i)) ((i * b / 64 : Nat) : Int) = (((St b ((l.length * b + 63) / 64) l i).getD (i * b / 64) 0 : Nat) : Int) := rd_up _ _
    have hB := St_bound (W := (l.length * b + 63) / 64) hb l hl i (by omega) (i * b / 64)
    rw [show min 64 (i * b - 64 * (i * b / 64)) = i * b % 64 from by omega] at hB
    have hX : l.getD i 0 * 2 ^ (i * b % 64) + 2 ^ (i * b % 64) ≤ 18446744073709551616 := by
      have := mul_lt_two (s := i * b % 64) hc
      have h3 : 2 ^ (i * b % 64 + b) ≤ 2 ^ 64 := Nat.pow_le_pow_right (by decide) hpl.1
      rw [two64] at h3
      omega
    have hp := Nat.two_pow_pos (i * b % 64)
    rw [h1, h2, wu64 (x := ((l.getD i 0 : Nat) : Int)) (by omega) (by omega), shl_u64 _ _ (by omega) (by omega), or_join hB (Nat.mul_mod_left _ _) (by omega) (by omega), Int.toNat_natCast, set_up, w64 (x := (i : Int) + 1) (by omega) (by omega)]
    simp only [St]
    rfl
def inR (b : Nat) (l : List Int) : Prop := ∀ x ∈ l, 0 ≤ x ∧ x < 2 ^ b
def nat (l : List Int) : List Nat := l.map Int.toNat
theorem nat_length (l : List Int) : (nat l).length = l.length := by simp [nat]
theorem up_nat {b : Nat} {l : List Int} (h : inR b l) : up (nat l) = l := by
  unfold up nat
  rw [List.map_map]
  conv => rhs; rw [← List.map_id l]
  refine List.map_congr_left fun x hx => ?_
  have := (h x hx).1
  simp
  omega
theorem nat_lt {b : Nat} {l : List Int} (h : inR b l) (i : Nat) : (nat l).getD i 0 < 2 ^ b := by
  rw [List.getD_eq_getElem?_getD]
  unfold nat
  rw [List.getElem?_map]
  cases hi : l[i]? with
  | none => simpa using Nat.two_pow_pos b
  | some x =>
    have := h x (List.mem_of_getElem? hi)
    show x.toNat < 2 ^ b
    have h2 : (x.toNat : Int) < ((2 ^ b : Nat) : Int) := by simp; omega
    omega
theorem any_f {b : Nat} (hb : b = 2 ∨ b = 4 ∨ b = 8) (l : List Int) : pack_Pack_1_any.f l (b : Int) = some (l.any fun x => decide (x < 0) || decide (2 ^ b ≤ x)) := by
  unfold pack_Pack_1_any.f
  rw [if_pos (by rcases hb with rfl | rfl | rfl <;> decide)]
  rfl
theorem any_inR {b : Nat} {l : List Int} : (l.any fun x => decide (x < 0) || decide ((2 : Int) ^ b ≤ x)) = false ↔ inR b l := by
  rw [List.any_eq_false]
  constructor
  · intro h x hx
    have := h x hx
    simp at this
    omega
  · intro h x hx
    have := h x hx
    simp
    omega
/-- the words of codes -/
def packed (b : Nat) (l : List Int) : List Nat := St b ((l.length * b + 63) / 64) (nat l) l.length
theorem packed_length (b : Nat) (l : List Int) : (packed b l).length = (l.length * b + 63) / 64 := St_length _ _ _ _
def packZ (b : Int) (l : List Int) : List Int × Int :=
  if okb b = true then (if l.length ≤ 256 then (if (l.any fun x => decide (x < 0) || decide ((2 : Int) ^ b.toNat ≤ x)) = true then ([], 11) else (up (packed b.toNat l), 0)) else ([], 12)) else ([], 20)
theorem okb_nat {b : Int} (h : okb b = true) : ∃ m : Nat, b = (m : Int) ∧ (m = 2 ∨ m = 4 ∨ m = 8) := by
  rcases okb_iff.1 h with rfl | rfl | rfl
  · exact ⟨2, rfl, by omega⟩
  · exact ⟨4, rfl, by omega⟩
  · exact ⟨8, rfl, by omega⟩
theorem okb_of {m : Nat} (h : m = 2 ∨ m = 4 ∨ m = 8) : okb (m : Int) = true := by
  rcases h with rfl | rfl | rfl <;> rfl
theorem Pack_f (l : List Int) (b : Int) : Ev (fun k => pack_Pack.f k l b) (packZ b l) := by
  unfold pack_Pack.f packZ
  simp only [Bits_f, many_f, Words_f, Option.bind_some]
  by_cases hb : okb b = true
  · rw [if_pos hb]
    refine Ev.pos hb ?_
    by_cases hn : l.length ≤ 256
    · rw [if_pos hn]
      refine Ev.pos (by simp; omega) ?_
      obtain ⟨m, rfl, hm⟩ := okb_nat hb
      rw [any_f hm, Int.toNat_natCast]
      refine Ev.sb ?_
      by_cases ha : (l.any fun x => decide (x < 0) || decide ((2 : Int) ^ m ≤ x)) = true
      · rw [if_pos ha]
        exact Ev.pos ha (Ev.now _)
      · rw [if_neg ha]
        refine Ev.neg ha ?_
        have hin : inR m l := any_inR.1 (by simpa using ha)
        have hw : wordsZ (l.length : Int) (m : Int) = (((l.length * m + 63) / 64 : Nat) : Int) := by
          unfold wordsZ
          rw [if_pos ⟨hb, by omega, by omega⟩]
          simp
        have hmb : l.length * m ≤ 2048 := by rcases hm with rfl | rfl | rfl <;> omega
        rw [hw]
        refine Ev.pos (by omega) ?_
        rw [Int.toNat_natCast]
        refine Ev.pos (by omega) ?_
        have h0 := Pack_l hm (nat l) (nat_lt hin) (by rw [nat_length]; exact hn) l.length 0 (by rw [nat_length]; omega) (by omega)
        rw [nat_length, up_nat hin] at h0
        have e : up (St m ((l.length * m + 63) / 64) (nat l) 0) = List.replicate ((l.length * m + 63) / 64) 0 := by simp [St, up]
        rw [e] at h0
        exact h0
    · rw [if_neg hn]
      exact Ev.neg (by simp; omega) (Ev.now _)
  · rw [if_neg hb]
    exact Ev.neg hb (Ev.now _)
/-- a lane -/
theorem Lane_f {b : Nat} (hb : b = 2 ∨ b = 4 ∨ b = 8) (W : List Nat) (hW : ∀ j, W.getD j 0 < 18446744073709551616) (hlen : W.length ≤ 1000) (i : Nat) (hi : i < W.length * (64 / b)) :
    pack_Lane.f (up W) (i : Int) (b : Int) = some ((W.getD (i * b / 64) 0 / 2 ^ (i * b % 64) % 2 ^ b : Nat) : Int) := by
  have hib : i * b < 64 * W.length := by rcases hb with rfl | rfl | rfl <;> omega
  have hlim : wrap64 (((up W).length : Int) * wrap64 (Int.tdiv 64 (b : Int))) = ((W.length * (64 / b) : Nat) : Int) := by
    rw [up_length, td_nonneg (by omega)]
    have : (64 : Int) / (b : Int) = ((64 / b : Nat) : Int) := by simp
    have hd : 64 / b ≤ 32 := by rcases hb with rfl | rfl | rfl <;> decide
    have hm : W.length * (64 / b) ≤ 32000 := by
      have := Nat.mul_le_mul hlen hd
      omega
    rw [this]
    generalize 64 / b = q at hd hm ⊢
    rw [w64 (x := (q : Int)) (by omega) (by omega), ← Int.natCast_mul, w64 (by omega) (by omega)]
  have hbl := b_le hb
  unfold pack_Lane.f
  simp only [Bits_f, okb_of hb, Option.bind_some]
  rw [if_pos trivial, if_neg (by omega), if_neg (by omega), hlim, if_neg (by omega), wi i b (by omega), wdiv _ (by omega), wmod, if_pos (by omega), if_pos (by rw [up_length]; omega), if_pos (by omega), if_pos (by omega), rd_up, shr_u64 _ _ (by omega)]
  have h1 : shl .u64 1 (b : Int) = ((2 ^ b : Nat) : Int) := by
    have := shl_u64 1 b (by omega) (by omega)
    simpa using this
  have hx := Nat.lt_of_le_of_lt (Nat.div_le_self (W.getD (i * b / 64) 0) (2 ^ (i * b % 64))) (hW (i * b / 64))
  have h2 : IntKind.u64.wrap (((2 ^ b : Nat) : Int) - 1) = (2 : Int) ^ b - 1 := by
    have hp := Nat.two_pow_pos b
    rw [wu64 (by omega) (by omega)]
    simp
  rw [h1, h2]
  have h4 := Nat.mod_lt (W.getD (i * b / 64) 0 / 2 ^ (i * b % 64)) (Nat.two_pow_pos b)
  have hbl1 := hbl.1
  have hbl2 := hbl.2.1
  clear h1 h2 hlim hbl
  generalize W.getD (i * b / 64) 0 / 2 ^ (i * b % 64) = y at hx h4 ⊢
  rw [bits_mask .u64 64 (by decide) (fun n h0 h1 => wu64 h0 (by simpa using h1)) b (by omega) _ (by omega) (show (y : Int) < 2 ^ 64 by
    have : (2 : Int) ^ 64 = 18446744073709551616 := by decide
    omega)]
  have h3 : (y : Int) % 2 ^ b = ((y % 2 ^ b : Nat) : Int) := by simp
  rw [h3, w64 (by omega) (by omega)]
/-! ### the document's side -/
theorem bit_l (x n : Nat) (hx : x < 18446744073709551616) (hn : n ≤ 64) : ∀ (d i y : Nat), n - i = d → i ≤ n → y = x / 2 ^ i → Ev (fun k => credenzaref05_bit.l0 k (y : Int) (n : Int) (i : Int)) ((x / 2 ^ n % 2 : Nat) : Int) := by
  intro d
  induction d with
  | zero =>
    intro i y hd hi hy
    obtain rfl : i = n := by omega
    refine Ev.step (f := fun _ => some ((x / 2 ^ i % 2 : Nat) : Int)) (fun k => ?_) (Ev.now _)
    rw [credenzaref05_bit.l0, if_neg (by omega), tm_nonneg (by omega), hy]
    simp
  | succ d ih =>
    intro i y hd hi hy
    have hy2 : y / 2 = x / 2 ^ (i + 1) := by rw [hy, Nat.div_div_eq_div_mul, Nat.pow_succ]
    refine Ev.step (fun k => ?_) (ih (i + 1) (y / 2) (by omega) (by omega) hy2)
    have hyx : y ≤ x := by rw [hy]; exact Nat.div_le_self _ _
    rw [credenzaref05_bit.l0, if_pos (by omega), td_nonneg (by omega), w64 (x := (i : Int) + 1) (by omega) (by omega), wu64 (by omega) (by omega)]
    rfl
theorem bit_f (x n : Nat) (hx : x < 18446744073709551616) (hn : n ≤ 64) : Ev (fun k => credenzaref05_bit.f k (x : Int) (n : Int)) ((x / 2 ^ n % 2 : Nat) : Int) := by
  unfold credenzaref05_bit.f
  exact bit_l x n hx hn n 0 x (by omega) (by omega) (by simp)
theorem rd_get (x : List Int) (j : Nat) (h : j < x.length) : rd x (j : Int) = x[j] := by
  unfold rd
  rw [Int.toNat_natCast, List.getD_eq_getElem?_getD, List.getElem?_eq_getElem h]
  rfl
theorem Same_l (x y : List Int) (hxy : x.length = y.length) (hlen : x.length < 1000000) : ∀ (d j : Nat), x.length - j = d → j ≤ x.length → Ev (fun k => credenzaref05_Same.l0 k x y (j : Int)) (decide (x.drop j = y.drop j)) := by
  intro d
  induction d with
  | zero =>
    intro j hd hj
    obtain rfl : j = x.length := by omega
    refine Ev.step (fun k => by rw [credenzaref05_Same.l0, if_neg (by omega)]) ?_
    rw [List.drop_length, hxy, List.drop_length]
    exact Ev.now _
  | succ d ih =>
    intro j hd hj
    have h1 : j < x.length := by omega
    have h2 : j < y.length := by omega
    refine Ev.step (fun k => by rw [credenzaref05_Same.l0, if_pos (by omega), if_pos (by omega), if_pos (by omega), rd_get x j h1, rd_get y j h2, wsucc j (by omega)]) ?_
    rw [List.drop_eq_getElem_cons h1, List.drop_eq_getElem_cons h2]
    by_cases he : x[j] = y[j]
    · refine Ev.pos he ?_
      have h3 := ih (j + 1) (by omega) (by omega)
      rw [he]
      simp only [List.cons.injEq, true_and]
      exact h3
    · refine Ev.neg he ?_
      rw [decide_eq_false (fun e => he (List.cons.inj e).1)]
      exact Ev.now _
theorem Same_f (x y : List Int) (hlen : x.length < 1000000) : Ev (fun k => credenzaref05_Same.f k x y) (decide (x = y)) := by
  unfold credenzaref05_Same.f
  by_cases h : x.length = y.length
  · refine Ev.pos (by omega) ?_
    have := Same_l x y h hlen x.length 0 (by omega) (by omega)
    simpa using this
  · refine Ev.neg (by omega) ?_
    rw [decide_eq_false (by intro e; exact h (by rw [e]))]
    exact Ev.now _
/-! ### unpacked again -/
def lane (b : Nat) (W : List Nat) (i : Nat) : Nat := W.getD (i * b / 64) 0 / 2 ^ (i * b % 64) % 2 ^ b
def lanes (b : Nat) (W : List Nat) (n : Nat) : List Int := up ((List.range n).map (lane b W))
theorem lanes_length (b : Nat) (W : List Nat) (n : Nat) : (lanes b W n).length = n := by simp [lanes, up]
def part (b : Nat) (W : List Nat) (n i : Nat) : List Int := up ((List.range n).map fun t => if t < i then lane b W t else 0)
theorem part_length (b : Nat) (W : List Nat) (n i : Nat) : (part b W n i).length = n := by simp [part, up]
theorem part_step (b : Nat) (W : List Nat) (n i : Nat) (_hi : i < n) : (part b W n i).set i ((lane b W i : Nat) : Int) = part b W n (i + 1) := by
  unfold part
  rw [set_up]
  congr 1
  apply List.ext_getElem
  · simp
  · intro j h1 h2
    have hjn : j < n := by simpa using h1
    rw [List.getElem_set]
    by_cases hj : i = j
    · subst hj
      simp
    · rw [if_neg hj]
      simp only [List.getElem_map, List.getElem_range]
      by_cases h : j < i
      · rw [if_pos h, if_pos (by omega)]
      · rw [if_neg h, if_neg (by omega)]
theorem Unpack_l0 {b : Nat} (hb : b = 2 ∨ b = 4 ∨ b = 8) (W : List Nat) (hW : ∀ j, W.getD j 0 < 18446744073709551616) (n : Nat) (hn : n ≤ 256) (hlen : W.length = (n * b + 63) / 64) : ∀ (d i : Nat), n - i = d → i ≤ n →
    Ev (fun k => pack_Unpack.l0 k (up W) (b : Int) (part b W n i) (n : Int) (i : Int)) (lanes b W n, 0) := by
  have hl1000 : W.length ≤ 1000 := by rw [hlen]; rcases hb with rfl | rfl | rfl <;> omega
  have hin : ∀ i, i < n → i < W.length * (64 / b) := by
    intro i hi
    rw [hlen]
    rcases hb with rfl | rfl | rfl <;> omega
  intro d
  induction d with
  | zero =>
    intro i hd hi
    obtain rfl : i = n := by omega
    refine Ev.step (fun k => by rw [pack_Unpack.l0, if_neg (by omega)]) ?_
    have e : part b W i i = lanes b W i := by
      unfold part lanes
      congr 1
      refine List.map_congr_left fun t ht => ?_
      rw [if_pos (by simpa using ht)]
    rw [e]
    exact Ev.now _
  | succ d ih =>
    intro i hd hi
    have hlt : i < n := by omega
    refine Ev.step (fun k => by rw [pack_Unpack.l0, if_pos (by omega), Lane_f hb W hW hl1000 i (hin i hlt), wsucc i (by omega)]) ?_
    refine Ev.sb ?_
    refine Ev.pos (by omega) ?_
    refine Ev.pos (by rw [part_length]; omega) ?_
    rw [Int.toNat_natCast]
    have hs := part_step b W n i hlt
    unfold lane at hs
    rw [hs]
    exact ih (i + 1) (by omega) (by omega)
theorem Unpack_j0 {b : Nat} (hb : b = 2 ∨ b = 4 ∨ b = 8) (W : List Nat) (hW : ∀ j, W.getD j 0 < 18446744073709551616) (n : Nat) (hn : n ≤ 256) (hlen : W.length = (n * b + 63) / 64) :
    Ev (fun k => pack_Unpack.j0 k (up W) (n : Int) (b : Int) false) (lanes b W n, 0) := by
  refine Ev.step (fun k => by rw [pack_Unpack.j0]) ?_
  refine Ev.neg (by decide) ?_
  refine Ev.pos (by omega) ?_
  refine Ev.pos (by omega) ?_
  refine Ev.sb ?_
  have h0 := Unpack_l0 hb W hW n hn hlen n 0 (by omega) (by omega)
  have e : part b W n 0 = List.replicate (n : Int).toNat 0 := by
    unfold part up
    rw [Int.toNat_natCast]
    apply List.ext_getElem <;> simp
  rw [e] at h0
  have e2 : ((List.replicate (n : Int).toNat (0 : Int)).length : Int) = (n : Int) := by simp
  rw [e2]
  exact h0
theorem Unpack_f {b : Nat} (hb : b = 2 ∨ b = 4 ∨ b = 8) (W : List Nat) (hW : ∀ j, W.getD j 0 < 18446744073709551616) (n : Nat) (hn : n ≤ 256) (hlen : W.length = (n * b + 63) / 64)
    (hrest : 0 < n * b % 64 → W.getD (W.length - 1) 0 / 2 ^ (n * b % 64) = 0) : Ev (fun k => pack_Unpack.f k (up W) (n : Int) (b : Int)) (lanes b W n, 0) := by
  have hmb : n * b ≤ 2048 := by rcases hb with rfl | rfl | rfl <;> omega
  unfold pack_Unpack.f
  simp only [Bits_f, many_f, Words_f, Option.bind_some]
  refine Ev.pos (okb_of hb) ?_
  refine Ev.pos (by simp; omega) ?_
  have hw : wordsZ (n : Int) (b : Int) = (((n * b + 63) / 64 : Nat) : Int) := by
    unfold wordsZ
    rw [if_pos ⟨okb_of hb, by omega, by omega⟩]
    simp
  refine Ev.pos (by rw [hw, up_length, hlen]) ?_
  rw [wi n b (by omega), wmod]
  refine Ev.ite (fun hu => ?_) (fun _ => Unpack_j0 hb W hW n hn hlen)
  have hu2 : 0 < n * b % 64 := by omega
  have hpos : 0 < W.length := by rw [hlen]; omega
  have e1 : wrap64 (((up W).length : Int) - 1) = ((W.length - 1 : Nat) : Int) := by
    rw [up_length]
    rw [hlen] at hpos ⊢
    rw [w64 (by omega) (by omega)]
    omega
  rw [e1]
  refine Ev.pos (by omega) ?_
  refine Ev.pos (by rw [up_length]; omega) ?_
  refine Ev.pos (by omega) ?_
  rw [rd_up, shr_u64 _ _ (by omega), hrest hu2]
  exact Unpack_j0 hb W hW n hn hlen
def w64s (l : List Int) : Prop := ∀ x ∈ l, 0 ≤ x ∧ x < 18446744073709551616
theorem up_nat64 {l : List Int} (h : w64s l) : up (nat l) = l := by
  unfold up nat
  rw [List.map_map]
  conv => rhs; rw [← List.map_id l]
  refine List.map_congr_left fun x hx => ?_
  have := (h x hx).1
  simp
  omega
theorem nat_lt64 {l : List Int} (h : w64s l) (i : Nat) : (nat l).getD i 0 < 18446744073709551616 := by
  rw [List.getD_eq_getElem?_getD]
  unfold nat
  rw [List.getElem?_map]
  cases hi : l[i]? with
  | none => decide
  | some x =>
    have := h x (List.mem_of_getElem? hi)
    show x.toNat < _
    omega
theorem Unpack_bits (l : List Int) (n b : Int) (h : okb b = false) : Ev (fun k => pack_Unpack.f k l n b) ([], 20) := by
  unfold pack_Unpack.f
  simp only [Bits_f, Option.bind_some]
  exact Ev.neg (by rw [h]; decide) (Ev.now _)
theorem Unpack_many (l : List Int) (n b : Int) (h : okb b = true) (hn : ¬ (0 ≤ n ∧ n ≤ 256)) : Ev (fun k => pack_Unpack.f k l n b) ([], 12) := by
  unfold pack_Unpack.f
  simp only [Bits_f, many_f, Option.bind_some]
  exact Ev.pos h (Ev.neg (by simp; omega) (Ev.now _))
theorem words_nat {b : Nat} (hb : b = 2 ∨ b = 4 ∨ b = 8) (n : Nat) (hn : n ≤ 256) : wordsZ (n : Int) (b : Int) = (((n * b + 63) / 64 : Nat) : Int) := by
  unfold wordsZ
  rw [if_pos ⟨okb_of hb, by omega, by omega⟩]
  simp
theorem Unpack_shape {b : Nat} (hb : b = 2 ∨ b = 4 ∨ b = 8) (l : List Int) (n : Nat) (hn : n ≤ 256) (hl : l.length ≠ (n * b + 63) / 64) : Ev (fun k => pack_Unpack.f k l (n : Int) (b : Int)) ([], 25) := by
  unfold pack_Unpack.f
  simp only [Bits_f, many_f, Words_f, Option.bind_some]
  refine Ev.pos (okb_of hb) (Ev.pos (by simp; omega) (Ev.neg ?_ (Ev.now _)))
  rw [words_nat hb n hn]
  omega
theorem Unpack_rest {b : Nat} (hb : b = 2 ∨ b = 4 ∨ b = 8) (W : List Nat) (n : Nat) (hn : n ≤ 256) (hlen : W.length = (n * b + 63) / 64)
    (hu : 0 < n * b % 64) (hr : W.getD (W.length - 1) 0 / 2 ^ (n * b % 64) ≠ 0) : Ev (fun k => pack_Unpack.f k (up W) (n : Int) (b : Int)) ([], 10) := by
  have hmb : n * b ≤ 2048 := by rcases hb with rfl | rfl | rfl <;> omega
  unfold pack_Unpack.f
  simp only [Bits_f, many_f, Words_f, Option.bind_some]
  refine Ev.pos (okb_of hb) ?_
  refine Ev.pos (by simp; omega) ?_
  refine Ev.pos (by rw [words_nat hb n hn, up_length, hlen]) ?_
  rw [wi n b (by omega), wmod]
  refine Ev.pos (by omega) ?_
  have hpos : 0 < W.length := by rw [hlen]; omega
  have e1 : wrap64 (((up W).length : Int) - 1) = ((W.length - 1 : Nat) : Int) := by
    rw [up_length]
    rw [hlen] at hpos ⊢
    rw [w64 (by omega) (by omega)]
    omega
  rw [e1]
  refine Ev.pos (by omega) ?_
  refine Ev.pos (by rw [up_length]; omega) ?_
  refine Ev.pos (by omega) ?_
  rw [rd_up, shr_u64 _ _ (by omega)]
  have e2 : (((W.getD (W.length - 1) 0 / 2 ^ (n * b % 64) : Nat) : Int) != 0) = true := by
    rw [bne_iff_ne]
    exact_mod_cast hr
  rw [e2]
  refine Ev.step (fun k => by rw [pack_Unpack.j0]) ?_
  exact Ev.pos rfl (Ev.now _)
theorem Rest_l (W : List Nat) (hW : ∀ j, W.getD j 0 < 18446744073709551616) (hlen : W.length ≤ 1000) (hpos : 0 < W.length) : ∀ (d s : Nat), 64 - s = d → s ≤ 64 →
    Ev (fun k => credenzaref05_Rest.l0 k (up W) ((64 * (W.length - 1) + s : Nat) : Int)) (decide (W.getD (W.length - 1) 0 / 2 ^ s ≠ 0)) := by
  have e64 : wrap64 (64 * ((up W).length : Int)) = ((64 * W.length : Nat) : Int) := by
    rw [up_length]
    have : (64 : Int) * (W.length : Int) = ((64 * W.length : Nat) : Int) := by simp
    rw [this]
    exact wn _ (by omega)
  intro d
  induction d with
  | zero =>
    intro s hd hs
    obtain rfl : s = 64 := by omega
    refine Ev.step (fun k => by rw [credenzaref05_Rest.l0, e64, if_neg (by omega)]) ?_
    have h0 := hW (W.length - 1)
    rw [← two64] at h0
    rw [Nat.div_eq_of_lt h0]
    exact Ev.now _
  | succ d ih =>
    intro s hd hs
    have hs63 : s ≤ 63 := by omega
    have e1 : (64 * (W.length - 1) + s) / 64 = W.length - 1 := by omega
    have e2 : (64 * (W.length - 1) + s) % 64 = s := by omega
    have hx : 64 * (W.length - 1) + s < 100000 := by omega
    refine Ev.step (fun k => by rw [credenzaref05_Rest.l0, e64, if_pos (by omega), wdiv _ hx, wmod, e1, e2, if_pos (Int.natCast_nonneg _), if_pos (by rw [up_length]; omega), rd_up, wsucc _ (by omega)]) ?_
    refine Ev.bind (bit_f _ s (hW _) (by omega)) ?_
    have h2 : W.getD (W.length - 1) 0 / 2 ^ s = W.getD (W.length - 1) 0 / 2 ^ (s + 1) * 2 + W.getD (W.length - 1) 0 / 2 ^ s % 2 := by
      rw [Nat.pow_succ, ← Nat.div_div_eq_div_mul]
      omega
    by_cases hb : W.getD (W.length - 1) 0 / 2 ^ s % 2 = 1
    · refine Ev.pos (by rw [hb]; rfl) ?_
      rw [decide_eq_true (by omega)]
      exact Ev.now _
    · refine Ev.neg (by intro h; exact hb (by exact_mod_cast h)) ?_
      have h3 := ih (s + 1) (by omega) (by omega)
      have e3 : decide (W.getD (W.length - 1) 0 / 2 ^ (s + 1) ≠ 0) = decide (W.getD (W.length - 1) 0 / 2 ^ s ≠ 0) := by
        apply decide_eq_decide.2
        omega
      rw [e3] at h3
      exact h3
theorem Rest_f {b : Nat} (hb : b = 2 ∨ b = 4 ∨ b = 8) (W : List Nat) (hW : ∀ j, W.getD j 0 < 18446744073709551616) (n : Nat) (hn : n ≤ 256) (hlen : W.length = (n * b + 63) / 64) :
    Ev (fun k => credenzaref05_Rest.f k (up W) (n : Int) (b : Int)) (decide (0 < n * b % 64 ∧ W.getD (W.length - 1) 0 / 2 ^ (n * b % 64) ≠ 0)) := by
  have hmb : n * b ≤ 2048 := by rcases hb with rfl | rfl | rfl <;> omega
  unfold credenzaref05_Rest.f
  rw [wi n b (by omega)]
  by_cases hu : 0 < n * b % 64
  · have h0 := Rest_l W hW (by omega) (by omega) (64 - n * b % 64) (n * b % 64) (by omega) (by omega)
    have e : 64 * (W.length - 1) + n * b % 64 = n * b := by omega
    rw [e] at h0
    have e2 : decide (W.getD (W.length - 1) 0 / 2 ^ (n * b % 64) ≠ 0) = decide (0 < n * b % 64 ∧ W.getD (W.length - 1) 0 / 2 ^ (n * b % 64) ≠ 0) := by
      apply decide_eq_decide.2
      exact ⟨fun h => ⟨hu, h⟩, fun h => h.2⟩
    rw [e2] at h0
    exact h0
  · have e64 : wrap64 (64 * ((up W).length : Int)) = ((64 * W.length : Nat) : Int) := by
      rw [up_length]
      have : (64 : Int) * (W.length : Int) = ((64 * W.length : Nat) : Int) := by simp
      rw [this]
      exact wn _ (by omega)
    refine Ev.step (fun k => by rw [credenzaref05_Rest.l0, e64, if_neg (by omega)]) ?_
    rw [decide_eq_false (fun h => hu h.1)]
    exact Ev.now _
theorem lane_lt (b : Nat) (W : List Nat) (i : Nat) : lane b W i < 2 ^ b := Nat.mod_lt _ (Nat.two_pow_pos b)
theorem nat_lanes (b : Nat) (W : List Nat) (n : Nat) : nat (lanes b W n) = (List.range n).map (lane b W) := by
  unfold nat lanes up
  rw [List.map_map]
  conv => rhs; rw [← List.map_id ((List.range n).map (lane b W))]
  exact List.map_congr_left fun x _ => by simp
theorem inR_lanes (b : Nat) (W : List Nat) (n : Nat) : inR b (lanes b W n) := by
  intro x hx
  unfold lanes up at hx
  simp only [List.mem_map, List.mem_range] at hx
  obtain ⟨y, ⟨i, _, rfl⟩, rfl⟩ := hx
  have := lane_lt b W i
  exact ⟨Int.natCast_nonneg _, by exact_mod_cast this⟩
theorem St_lanes {b : Nat} (hb : b = 2 ∨ b = 4 ∨ b = 8) (W : List Nat) (n : Nat) (hlen : W.length = (n * b + 63) / 64) : ∀ i, i ≤ n → ∀ j, j < W.length →
    (St b W.length ((List.range n).map (lane b W)) i).getD j 0 = W.getD j 0 % 2 ^ (min 64 (i * b - 64 * j))
  | 0, _, j, hj => by
    have e : min 64 (0 * b - 64 * j) = 0 := by omega
    rw [e, Nat.pow_zero, Nat.mod_one]
    simp only [St]
    rw [List.getD_eq_getElem?_getD, List.getElem?_replicate]
    split <;> rfl
  | i + 1, hi, j, hj => by
    have ih := St_lanes hb W n hlen i (by omega)
    have hpl := place hb i
    have hbl := (b_le hb).2
    have hmul : (i + 1) * b = i * b + b := by rw [Nat.add_mul, Nat.one_mul]
    have hq : i * b / 64 < W.length := by
      have : (i + 1) * b ≤ n * b := Nat.mul_le_mul_right _ hi
      omega
    have hl : ((List.range n).map (lane b W)).getD i 0 = lane b W i := by
      rw [List.getD_eq_getElem?_getD, List.getElem?_eq_getElem (by simp; omega)]
      simp
    simp only [St]
    rw [getD_set _ _ _ _ (by rw [St_length]; exact hq), hl]
    by_cases hjq : j = i * b / 64
    · rw [if_pos hjq, hjq, ih _ hq]
      have e1 : min 64 (i * b - 64 * (i * b / 64)) = i * b % 64 := by omega
      have e2 : min 64 ((i + 1) * b - 64 * (i * b / 64)) = i * b % 64 + b := by omega
      rw [e1, e2, Nat.pow_add, Nat.mod_mul]
      unfold lane
      rw [Nat.mul_comm (2 ^ (i * b % 64))]
    · rw [if_neg hjq, ih j hj]
      by_cases hlt : j < i * b / 64
      · have e1 : min 64 (i * b - 64 * j) = 64 := by omega
        have e2 : min 64 ((i + 1) * b - 64 * j) = 64 := by omega
        rw [e1, e2]
      · have e1 : min 64 (i * b - 64 * j) = 0 := by omega
        have e2 : min 64 ((i + 1) * b - 64 * j) = 0 := by omega
        rw [e1, e2]
theorem packed_lanes {b : Nat} (hb : b = 2 ∨ b = 4 ∨ b = 8) (W : List Nat) (hW : ∀ j, W.getD j 0 < 18446744073709551616) (n : Nat) (hlen : W.length = (n * b + 63) / 64)
    (hr : ¬ (0 < n * b % 64 ∧ W.getD (W.length - 1) 0 / 2 ^ (n * b % 64) ≠ 0)) : packed b (lanes b W n) = W := by
  unfold packed
  rw [lanes_length, nat_lanes, ← hlen]
  apply List.ext_getElem
  · rw [St_length]
  · intro j h1 h2
    have h3 := St_lanes hb W n hlen n (Nat.le_refl _) j h2
    rw [List.getD_eq_getElem?_getD, List.getElem?_eq_getElem h1] at h3
    have h4 : W.getD j 0 = W[j] := by rw [List.getD_eq_getElem?_getD, List.getElem?_eq_getElem h2]; rfl
    rw [h4] at h3
    have hj64 := hW j
    rw [h4] at hj64
    simp only [Option.getD_some] at h3
    rw [h3]
    by_cases hfull : 64 ≤ n * b - 64 * j
    · rw [Nat.min_eq_left hfull, two64, Nat.mod_eq_of_lt hj64]
    · have hjl : j = W.length - 1 := by omega
      have hu : 0 < n * b % 64 := by omega
      have e : min 64 (n * b - 64 * j) = n * b % 64 := by omega
      rw [e]
      have h5 : W.getD (W.length - 1) 0 / 2 ^ (n * b % 64) = 0 := by
        by_cases h6 : W.getD (W.length - 1) 0 / 2 ^ (n * b % 64) = 0
        · exact h6
        · exact absurd ⟨hu, h6⟩ hr
      rw [← hjl, h4] at h5
      exact Nat.mod_eq_of_lt ((Nat.div_eq_zero_iff_lt (Nat.two_pow_pos _)).1 h5)
theorem PackBack : credenzalaw05_PackBack.Pure := by
  intro l n b _ _ hl hn hb
  have hn := wf_i64 hn
  refine Ev.rounds ?_
  unfold credenzalaw05_PackBack.f
  refine Ev.ite (fun _ => Ev.bind awake_f (Ev.now true)) (fun hlen => ?_)
  have hw : w64s l := fun x hx => wf_u64 (hl x hx)
  simp only [rBits_f, Option.bind_some]
  have hno : ∀ e : Int, e ≠ 0 → Ev (fun k => credenzalaw05_PackBack.j1 k l n b [] e e) true := by
    intro e he
    refine Ev.step (fun k => by rw [credenzalaw05_PackBack.j1]) ?_
    exact Ev.neg he (Ev.pos rfl (Ev.pos rfl (Ev.bind awake_f (Ev.now true))))
  by_cases hb : okb b = true
  · by_cases hn1 : 0 ≤ n ∧ n ≤ 256
    · obtain ⟨m, rfl, hm⟩ := okb_nat hb
      obtain ⟨n, rfl⟩ := Int.eq_ofNat_of_zero_le hn1.1
      have hn256 : n ≤ 256 := by omega
      have hmb : n * m ≤ 2048 := by rcases hm with rfl | rfl | rfl <;> omega
      have hW := nat_lt64 hw
      have hrw : Ev (fun k => credenzaref05_Words.f k (n : Int) (m : Int)) (((n * m + 63) / 64 : Nat) : Int) := by
        have h1 := rWords_f (n : Int) (m : Int) (by omega) (by omega)
        have e : ((n : Int) * (m : Int) + 63) / 64 = (((n * m + 63) / 64 : Nat) : Int) := by simp
        rw [e] at h1
        exact h1
      by_cases hlw : l.length = (n * m + 63) / 64
      · have hlw2 : (nat l).length = (n * m + 63) / 64 := by rw [nat_length]; exact hlw
        have hR := Rest_f hm (nat l) hW n hn256 hlw2
        rw [up_nat64 hw] at hR
        have hj0 : ∀ (c : List Int) (e : Int), Ev (fun k => if decide (0 < n * m % 64 ∧ (nat l).getD ((nat l).length - 1) 0 / 2 ^ (n * m % 64) ≠ 0) = true then credenzalaw05_PackBack.j1 k l (n : Int) (m : Int) c e 10 else credenzalaw05_PackBack.j1 k l (n : Int) (m : Int) c e 0) true →
            Ev (fun k => credenzalaw05_PackBack.j0 k l (n : Int) (m : Int) c e 0 (decide ((n : Int) > 256))) true := by
          intro c e h
          rw [decide_eq_false (by omega)]
          refine Ev.step (fun k => by rw [credenzalaw05_PackBack.j0]) ?_
          refine Ev.neg (by decide) ?_
          refine Ev.bind hrw ?_
          refine Ev.pos (by rw [hlw]) ?_
          exact Ev.bind hR h
        by_cases hr : 0 < n * m % 64 ∧ (nat l).getD ((nat l).length - 1) 0 / 2 ^ (n * m % 64) ≠ 0
        · have hU := Unpack_rest hm (nat l) n hn256 hlw2 hr.1 hr.2
          rw [up_nat64 hw] at hU
          refine Ev.bind hU ?_
          refine Ev.pos hb (Ev.neg (by omega) ?_)
          refine hj0 _ _ (Ev.pos (decide_eq_true hr) (hno 10 (by decide)))
        · have hU := Unpack_f hm (nat l) hW n hn256 hlw2 (fun h => by
            by_cases h6 : (nat l).getD ((nat l).length - 1) 0 / 2 ^ (n * m % 64) = 0
            · exact h6
            · exact absurd ⟨h, h6⟩ hr)
          rw [up_nat64 hw] at hU
          refine Ev.bind hU ?_
          refine Ev.pos hb (Ev.neg (by omega) ?_)
          refine hj0 _ _ (Ev.neg (by rw [decide_eq_false hr]; decide) ?_)
          refine Ev.step (fun k => by rw [credenzalaw05_PackBack.j1]) ?_
          refine Ev.pos rfl ?_
          refine Ev.bind (Pack_f _ (m : Int)) ?_
          have e1 : packZ (m : Int) (lanes m (nat l) n) = (up (nat l), 0) := by
            unfold packZ
            rw [if_pos hb, if_pos (by rw [lanes_length]; exact hn256), Int.toNat_natCast, if_neg (by rw [any_inR.2 (inR_lanes m (nat l) n)]; decide), packed_lanes hm (nat l) hW n hlw2 hr]
          rw [e1, up_nat64 hw]
          refine Ev.pos rfl (Ev.pos (by rw [lanes_length]) (Ev.pos rfl ?_))
          refine Ev.bind (Same_f l l (by omega)) ?_
          exact Ev.pos (by simp) (Ev.bind awake_f (Ev.now true))
      · refine Ev.bind (Unpack_shape hm l n hn256 hlw) ?_
        refine Ev.pos hb (Ev.neg (by omega) ?_)
        rw [decide_eq_false (by omega)]
        refine Ev.step (fun k => by rw [credenzalaw05_PackBack.j0]) ?_
        refine Ev.neg (by decide) ?_
        refine Ev.bind hrw ?_
        exact Ev.neg (by omega) (hno 25 (by decide))
    · refine Ev.bind (Unpack_many l n b hb hn1) ?_
      have hj : Ev (fun k => credenzalaw05_PackBack.j0 k l n b [] 12 0 true) true := by
        refine Ev.step (fun k => by rw [credenzalaw05_PackBack.j0]) ?_
        exact Ev.pos rfl (hno 12 (by decide))
      refine Ev.pos hb (Ev.ite (fun _ => hj) (fun h => ?_))
      rw [decide_eq_true (by omega)]
      exact hj
  · have hb2 : okb b = false := by simpa using hb
    refine Ev.bind (Unpack_bits l n b hb2) ?_
    exact Ev.neg hb (hno 20 (by decide))

end Go.Proofs.Ytlkelicgbjjgiaa.Pure
