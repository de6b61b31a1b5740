/- For every two lists of codes and every b the law PackJoins returns true: no conditions. -/
import Derived.Test.YtlkelicgbjjgiaaPPackJoinsx
namespace Go.Proofs.Ytlkelicgbjjgiaa.Pure
open Go.RowKit Go.Proofs.Ytlkelicgbjjgiaa.PPackJoins Go.Proofs.YtlkelicgbjjgiaaW.PrintWords Go.Proofs.YtlkelicgbjjgiaaW.PrintLast Go.Proofs.YtlkelicgbjjgiaaW.PrintMore
set_option linter.unusedVariables false
set_option linter.unusedSimpArgs false
/-! ### rounds -/
theorem Ev.pos {α : Type} {c : Prop} [Decidable c] {X Y : Nat → Option α} {r : α} (h : c) (k : Ev X r) : Ev (fun n => if c then X n else Y n) r := by
  obtain ⟨K, k⟩ := k
  exact ⟨K, fun n hn => (if_pos h).trans (k n hn)⟩
theorem Ev.neg {α : Type} {c : Prop} [Decidable c] {X Y : Nat → Option α} {r : α} (h : ¬ c) (k : Ev Y r) : Ev (fun n => if c then X n else Y n) r := by
  obtain ⟨K, k⟩ := k
  exact ⟨K, fun n hn => (if_neg h).trans (k n hn)⟩
theorem Ev.sb {α β : Type} {f : Nat → α → Option β} {a : α} {r : β} (k : Ev (fun n => f n a) r) : Ev (fun n => (some a).bind (f n)) r := k
theorem Ev.eq {α : Type} {g : Nat → Option α} {r s : α} (k : Ev g r) (h : r = s) : Ev g s := h ▸ k
theorem Ev.one {α : Type} {g h : Nat → Option α} {r : α} (hg : Ev g r) (hh : ∀ n, g n = h n) : Ev h r := Ev.congr (fun n => (hh n).symm) hg
/-- A test, either way. -/
theorem Ev.ite {α : Type} {c : Prop} [Decidable c] {X Y : Nat → Option α} {r : α} (h : c → Ev X r) (k : ¬ c → Ev Y r) : Ev (fun n => if c then X n else Y n) r := by
  by_cases hc : c
  · exact Ev.pos hc (h hc)
  · exact Ev.neg hc (k hc)
theorem w64 {x : Int} (h0 : -9223372036854775808 ≤ x) (h1 : x ≤ 9223372036854775807) : wrap64 x = x := by unfold wrap64; omega
theorem wu64 {x : Int} (h0 : 0 ≤ x) (h1 : x < 18446744073709551616) : IntKind.u64.wrap x = x := by
  simp [IntKind.wrap, IntKind.bits, IntKind.signed]
  omega
theorem td_nonneg {x y : Int} (h : 0 ≤ x) : Int.tdiv x y = x / y := Int.tdiv_eq_ediv_of_nonneg h
theorem tm_nonneg {x y : Int} (h : 0 ≤ x) : Int.tmod x y = x % y := Int.tmod_eq_emod_of_nonneg h
theorem wf_i64 {x : Int} (h : (Lit.int .i64 x).wf = true) : -9223372036854775808 ≤ x ∧ x ≤ 9223372036854775807 := by
  simp [Lit.wf, IntKind.min, IntKind.max, IntKind.bits, IntKind.signed] at h
  omega
theorem wf_u64 {x : Int} (h : (Lit.int .u64 x).wf = true) : 0 ≤ x ∧ x < 18446744073709551616 := by
  simp [Lit.wf, IntKind.min, IntKind.max, IntKind.bits, IntKind.signed] at h
  omega
theorem wn (x : Nat) (h : x < 9223372036854775808) : wrap64 (x : Int) = (x : Int) := w64 (by omega) (by omega)
theorem wadd (x y : Nat) (h : x + y < 9223372036854775808) : wrap64 ((x : Int) + (y : Int)) = ((x + y : Nat) : Int) := by
  rw [← Int.natCast_add]
  exact wn _ h
theorem wsucc (x : Nat) (h : x + 1 < 9223372036854775808) : wrap64 ((x : Int) + 1) = ((x + 1 : Nat) : Int) := wadd x 1 h
theorem wun (x : Nat) (h : x < 18446744073709551616) : IntKind.u64.wrap (x : Int) = (x : Int) := wu64 (by omega) (by omega)
def okb (b : Int) : Bool := b == 2 || b == 4 || b == 8
theorem okb_iff {b : Int} : okb b = true ↔ b = 2 ∨ b = 4 ∨ b = 8 := by simp [okb, or_assoc]
theorem Bits_f (b : Int) : pack_Bits.f b = some (okb b) := by
  unfold pack_Bits.f okb
  by_cases h2 : b = 2
  · simp [h2]
  · by_cases h4 : b = 4
    · simp [h4]
    · simp [h2, h4]
theorem rBits_f (b : Int) : credenzaref05_Bits.f b = some (okb b) := by
  unfold credenzaref05_Bits.f okb
  by_cases h2 : b = 2
  · simp [h2]
  · by_cases h4 : b = 4
    · simp [h4]
    · simp [h2, h4]
theorem many_f (n : Int) : pack_many.f n = some (decide (0 ≤ n) && decide (n ≤ 256)) := by
  unfold pack_many.f
  by_cases h : n ≥ 0
  · rw [if_pos h]; simp [show (0 : Int) ≤ n from h]
  · rw [if_neg h]; simp [show ¬ (0 : Int) ≤ n from h]
def wordsZ (n b : Int) : Int := if okb b = true ∧ 0 ≤ n ∧ n ≤ 256 then (n * b + 63) / 64 else 0
theorem Words_f (n b : Int) : pack_Words.f n b = some (wordsZ n b) := by
  unfold pack_Words.f wordsZ
  simp only [Bits_f, many_f, Option.bind_some]
  by_cases hb : okb b = true
  · rw [if_pos hb]
    by_cases hn : 0 ≤ n ∧ n ≤ 256
    · rw [if_pos (by simp [hn.1, hn.2]), if_pos ⟨hb, hn.1, hn.2⟩]
      have h0 : 0 ≤ n * b ∧ n * b ≤ 2048 := by
        rcases okb_iff.1 hb with rfl | rfl | rfl <;> omega
      rw [w64 (x := n * b) (by omega) (by omega), w64 (x := n * b + 64) (by omega) (by omega), w64 (x := n * b + 64 - 1) (by omega) (by omega), td_nonneg (by omega), w64 (by omega) (by omega)]
      congr 2
      omega
    · rw [if_neg (by simp; omega), if_neg (fun h => hn h.2)]
  · rw [if_neg hb, if_neg (fun h => hb h.1)]
theorem awake_f : Ev (fun k => credenzalaw05_awake.f k) true := Ev.of credenzalaw05_awake.mono (k := 40) (by decide +kernel)
/-! ### words as natural numbers -/
def up (W : List Nat) : List Int := W.map fun (n : Nat) => (n : Int)
theorem up_length (W : List Nat) : (up W).length = W.length := by simp [up]
theorem rd_up (W : List Nat) (j : Nat) : rd (up W) (j : Int) = ((W.getD j 0 : Nat) : Int) := by
  unfold rd up
  rw [Int.toNat_natCast, List.getD_eq_getElem?_getD, List.getD_eq_getElem?_getD, List.getElem?_map]
  cases W[j]? <;> rfl
theorem set_up (W : List Nat) (j x : Nat) : (up W).set j (x : Int) = up (W.set j x) := by
  unfold up
  rw [List.map_set]
theorem or_join {v x s : Nat} (hv : v < 2 ^ s) (hx : x % 2 ^ s = 0) (hx1 : x < 18446744073709551616) (hv1 : v < 18446744073709551616) : Go.bits .or .u64 (v : Int) (x : Int) = ((v + x : Nat) : Int) := by
  have hb := (bits_nat .u64 64 (by decide) (fun n h0 h1 => wu64 h0 (by simpa using h1)) v x (by simpa using hv1) (by simpa using hx1)).2
  rw [hb, Nat.or_comm]
  have hq : x = 2 ^ s * (x / 2 ^ s) := by
    have := Nat.div_add_mod x (2 ^ s)
    omega
  rw [hq, ← Nat.two_pow_add_eq_or_of_lt hv (x / 2 ^ s), ← hq, Nat.add_comm]
theorem shl_u64 (x s : Nat) (hs : s ≤ 64) (h : x * 2 ^ s < 18446744073709551616) : shl .u64 (x : Int) (s : Int) = ((x * 2 ^ s : Nat) : Int) := by
  unfold shl
  rw [Int.toNat_natCast, Nat.min_eq_left (show s ≤ IntKind.u64.bits from hs)]
  have : (x : Int) * 2 ^ s = ((x * 2 ^ s : Nat) : Int) := by simp
  rw [this, wu64 (by omega) (by omega)]
theorem shr_u64 (x s : Nat) (hs : s ≤ 64) : shr .u64 (x : Int) (s : Int) = ((x / 2 ^ s : Nat) : Int) := by
  unfold shr
  rw [Int.toNat_natCast, Nat.min_eq_left (show s ≤ IntKind.u64.bits from hs)]
  simp
/-- the words behind i codes -/
def St (b W : Nat) (l : List Nat) : Nat → List Nat
  | 0 => List.replicate W 0
  | i + 1 => (St b W l i).set (i * b / 64) ((St b W l i).getD (i * b / 64) 0 + l.getD i 0 * 2 ^ (i * b % 64))
theorem St_length (b W : Nat) (l : List Nat) : ∀ i, (St b W l i).length = W
  | 0 => by simp [St]
  | i + 1 => by simp [St, St_length b W l i]
theorem getD_set (W : List Nat) (q x j : Nat) (hq : q < W.length) : (W.set q x).getD j 0 = if j = q then x else W.getD j 0 := by
  rw [List.getD_eq_getElem?_getD, List.getD_eq_getElem?_getD, List.getElem?_set]
  by_cases h : q = j
  · subst h
    simp [hq]
  · simp [h, Ne.symm h]
/-- b divides 64: where a code lies -/
theorem place {b : Nat} (hb : b = 2 ∨ b = 4 ∨ b = 8) (i : Nat) : i * b % 64 + b ≤ 64 ∧ (i * b % 64 + b < 64 → (i + 1) * b / 64 = i * b / 64 ∧ (i + 1) * b % 64 = i * b % 64 + b) ∧ (i * b % 64 + b = 64 → (i + 1) * b / 64 = i * b / 64 + 1 ∧ (i + 1) * b % 64 = 0) := by
  rcases hb with rfl | rfl | rfl <;> omega
theorem mul_lt_two {c s b : Nat} (hc : c < 2 ^ b) : c * 2 ^ s + 2 ^ s ≤ 2 ^ (s + b) := by
  have h : (c + 1) * 2 ^ s ≤ 2 ^ b * 2 ^ s := Nat.mul_le_mul_right _ hc
  rw [Nat.pow_add, Nat.mul_comm (2 ^ s)]
  rw [Nat.add_mul, Nat.one_mul] at h
  exact h
theorem two64 : (2 : Nat) ^ 64 = 18446744073709551616 := by decide
/-- what stands in the words -/
theorem St_bound {b W : Nat} (hb : b = 2 ∨ b = 4 ∨ b = 8) (l : List Nat) (hl : ∀ i, l.getD i 0 < 2 ^ b) : ∀ i, (i * b + 63) / 64 ≤ W → ∀ j, (St b W l i).getD j 0 < 2 ^ (min 64 (i * b - 64 * j))
  | 0, _, j => by
    have : (List.replicate W 0).getD j 0 = 0 := by
      rw [List.getD_eq_getElem?_getD, List.getElem?_replicate]
      split <;> rfl
    simp only [St, this]
    exact Nat.two_pow_pos _
  | i + 1, hW, j => by
    have hpl := place hb i
    have hbp : 0 < b := by omega
    have hmul : (i + 1) * b = i * b + b := by rw [Nat.add_mul, Nat.one_mul]
    have ih := St_bound (W := W) hb l hl i (by omega)
    have hq : i * b / 64 < W := by omega
    simp only [St]
    rw [getD_set _ _ _ _ (by rw [St_length]; exact hq)]
    by_cases hj : j = i * b / 64
    · rw [if_pos hj, hj]
      have h1 := ih (i * b / 64)
      have e1 : min 64 (i * b - 64 * (i * b / 64)) = i * b % 64 := by omega
      have e2 : min 64 ((i + 1) * b - 64 * (i * b / 64)) = i * b % 64 + b := by omega
      rw [e1] at h1
      rw [e2]
      have := mul_lt_two (s := i * b % 64) (hl i)
      omega
    · rw [if_neg hj]
      exact Nat.lt_of_lt_of_le (ih j) (Nat.pow_le_pow_right (by decide) (by omega))
/-- each code stands in its place -/
theorem St_lane {b W : Nat} (hb : b = 2 ∨ b = 4 ∨ b = 8) (l : List Nat) (hl : ∀ i, l.getD i 0 < 2 ^ b) : ∀ i, (i * b + 63) / 64 ≤ W → ∀ t, t < i → (St b W l i).getD (t * b / 64) 0 / 2 ^ (t * b % 64) % 2 ^ b = l.getD t 0
  | 0, _, t, ht => by omega
  | i + 1, hW, t, ht => by
    have hpl := place hb i
    have hbp : 0 < b := by omega
    have hmul : (i + 1) * b = i * b + b := by rw [Nat.add_mul, Nat.one_mul]
    have hq : i * b / 64 < W := by omega
    simp only [St]
    rw [getD_set _ _ _ _ (by rw [St_length]; exact hq)]
    by_cases hti : t = i
    · subst hti
      rw [if_pos rfl]
      have h1 := St_bound (W := W) hb l hl t (by omega) (t * b / 64)
      have e1 : min 64 (t * b - 64 * (t * b / 64)) = t * b % 64 := by omega
      rw [e1] at h1
      rw [Nat.add_mul_div_right _ _ (Nat.two_pow_pos _), Nat.div_eq_of_lt h1, Nat.zero_add, Nat.mod_eq_of_lt (hl t)]
    · have ih := St_lane (W := W) hb l hl i (by omega) t (by omega)
      by_cases hj : t * b / 64 = i * b / 64
      · rw [if_pos hj]
        have hplt := place hb t
        have hlt : t * b + b ≤ i * b := by
          have : (t + 1) * b ≤ i * b := Nat.mul_le_mul_right _ (by omega)
          rw [Nat.add_mul, Nat.one_mul] at this
          exact this
        have hs : t * b % 64 + b ≤ i * b % 64 := by omega
        obtain ⟨r, hr⟩ : ∃ r, i * b % 64 = t * b % 64 + b + r := ⟨i * b % 64 - (t * b % 64 + b), by omega⟩
        have e : l.getD i 0 * 2 ^ (i * b % 64) = (l.getD i 0 * 2 ^ r * 2 ^ b) * 2 ^ (t * b % 64) := by
          rw [hr, Nat.pow_add, Nat.pow_add]
          simp only [Nat.mul_assoc, Nat.mul_comm, Nat.mul_left_comm]
        rw [e, Nat.add_mul_div_right _ _ (Nat.two_pow_pos _), Nat.add_mul_mod_self_right, ← hj]
        exact ih
      · rw [if_neg hj]
        exact ih
theorem wi (i b : Nat) (h : i * b < 100000) : wrap64 ((i : Int) * (b : Int)) = ((i * b : Nat) : Int) := by
  rw [← Int.natCast_mul]
  exact w64 (by omega) (by omega)
theorem wdiv (x : Nat) (h : x < 100000) : wrap64 (Int.tdiv (x : Int) 64) = ((x / 64 : Nat) : Int) := by
  rw [td_nonneg (by omega)]
  have : (x : Int) / 64 = ((x / 64 : Nat) : Int) := by simp
  rw [this]
  exact w64 (by omega) (by omega)
theorem wmod (x : Nat) : Int.tmod (x : Int) 64 = ((x % 64 : Nat) : Int) := by
  rw [tm_nonneg (by omega)]
  simp
theorem b_le {b : Nat} (hb : b = 2 ∨ b = 4 ∨ b = 8) : 2 ^ b ≤ 256 ∧ b ≤ 8 ∧ 0 < b := by
  rcases hb with rfl | rfl | rfl <;> decide
theorem mulb {b i n : Nat} (hb : b = 2 ∨ b = 4 ∨ b = 8) (hi : i < n) (hn : n ≤ 256) : i * b + b ≤ n * b ∧ n * b ≤ 2048 := by
  rcases hb with rfl | rfl | rfl <;> omega
theorem Pack_l {b : Nat} (hb : b = 2 ∨ b = 4 ∨ b = 8) (l : List Nat) (hl : ∀ i, l.getD i 0 < 2 ^ b) (hn : l.length ≤ 256) : ∀ (d i : Nat), l.length - i = d → i ≤ l.length →
    Ev (fun k => pack_Pack.l0 k (up (St b ((l.length * b + 63) / 64) l i)) (up l) (l.length : Int) (i : Int) (b : Int)) (up (St b ((l.length * b + 63) / 64) l l.length), 0) := by
  intro d
  induction d with
  | zero =>
    intro i hd hi
    obtain rfl : i = l.length := by omega
    refine Ev.step (f := fun _ => some (up (St b ((l.length * b + 63) / 64) l l.length), 0)) (fun k => ?_) (Ev.now _)
    rw [pack_Pack.l0, if_neg (by omega)]
  | succ d ih =>
    intro i hd hi
    have hlt : i < l.length := by omega
    have hm := mulb hb hlt hn
    have hbl := b_le hb
    have hpl := place hb i
    have hq : i * b / 64 < (l.length * b + 63) / 64 := by omega
    refine Ev.step (fun k => ?_) (ih (i + 1) (by omega) (by omega))
    rw [pack_Pack.l0, wi i b (by omega), wdiv _ (by omega), wmod, if_pos (by omega), if_pos (by omega), if_pos (by rw [up_length]; omega), if_pos (by omega), if_pos (by rw [up_length, St_length]; omega), if_pos (by omega)]
    have hc := hl i
    have h1 : rd (up l) (i : Int) = ((l.getD i 0 : Nat) : Int) := rd_up l i
    have h2 : rd (up (St b ((l.length * b + 63) / 64) l i)) ((i * b / 64 : Nat) : Int) = (((St b ((l.length * b + 63) / 64) l i).getD (i * b / 64) 0 : Nat) : Int) := rd_up _ _
    have hB := St_bound (W := (l.length * b + 63) / 64) hb l hl i (by omega) (i * b / 64)
    rw [show min 64 (i * b - 64 * (i * b / 64)) = i * b % 64 from by omega] at hB
    have hX : l.getD i 0 * 2 ^ (i * b % 64) + 2 ^ (i * b % 64) ≤ 18446744073709551616 := by
      have := mul_lt_two (s := i * b % 64) hc
      have h3 : 2 ^ (i * b % 64 + b) ≤ 2 ^ 64 := Nat.pow_le_pow_right (by decide) hpl.1
      rw [two64] at h3
      omega
    have hp := Nat.two_pow_pos (i * b % 64)
    rw [h1, h2, wu64 (x := ((l.getD i 0 : Nat) : Int)) (by omega) (by omega), shl_u64 _ _ (by omega) (by omega), or_join hB (Nat.mul_mod_left _ _) (by omega) (by omega), Int.toNat_natCast, set_up, w64 (x := (i : Int) + 1) (by omega) (by omega)]
    simp only [St]
    rfl
def inR (b : Nat) (l : List Int) : Prop := ∀ x ∈ l, 0 ≤ x ∧ x < 2 ^ b
def nat (l : List Int) : List Nat := l.map Int.toNat
theorem nat_length (l : List Int) : (nat l).length = l.length := by simp [nat]
theorem up_nat {b : Nat} {l : List Int} (h : inR b l) : up (nat l) = l := by
  unfold up nat
  rw [List.map_map]
  conv => rhs; rw [← List.map_id l]
  refine List.map_congr_left fun x hx => ?_
  have := (h x hx).1
  simp
  omega
theorem nat_lt {b : Nat} {l : List Int} (h : inR b l) (i : Nat) : (nat l).getD i 0 < 2 ^ b := by
  rw [List.getD_eq_getElem?_getD]
  unfold nat
  rw [List.getElem?_map]
  cases hi : l[i]? with
  | none => simpa using Nat.two_pow_pos b
  | some x =>
    have := h x (List.mem_of_getElem? hi)
    show x.toNat < 2 ^ b
    have h2 : (x.toNat : Int) < ((2 ^ b : Nat) : Int) := by simp; omega
    omega
theorem any_f {b : Nat} (hb : b = 2 ∨ b = 4 ∨ b = 8) (l : List Int) : pack_Pack_1_any.f l (b : Int) = some (l.any fun x => decide (x < 0) || decide (2 ^ b ≤ x)) := by
  unfold pack_Pack_1_any.f
  rw [if_pos (by rcases hb with rfl | rfl | rfl <;> decide)]
  rfl
theorem any_inR {b : Nat} {l : List Int} : (l.any fun x => decide (x < 0) || decide ((2 : Int) ^ b ≤ x)) = false ↔ inR b l := by
  rw [List.any_eq_false]
  constructor
  · intro h x hx
    have := h x hx
    simp at this
    omega
  · intro h x hx
    have := h x hx
    simp
    omega
/-- the words of codes -/
def packed (b : Nat) (l : List Int) : List Nat := St b ((l.length * b + 63) / 64) (nat l) l.length
theorem packed_length (b : Nat) (l : List Int) : (packed b l).length = (l.length * b + 63) / 64 := St_length _ _ _ _
def packZ (b : Int) (l : List Int) : List Int × Int :=
  if okb b = true then (if l.length ≤ 256 then (if (l.any fun x => decide (x < 0) || decide ((2 : Int) ^ b.toNat ≤ x)) = true then ([], 11) else (up (packed b.toNat l), 0)) else ([], 12)) else ([], 20)
theorem okb_nat {b : Int} (h : okb b = true) : ∃ m : Nat, b = (m : Int) ∧ (m = 2 ∨ m = 4 ∨ m = 8) := by
  rcases okb_iff.1 h with rfl | rfl | rfl
  · exact ⟨2, rfl, by omega⟩
  · exact ⟨4, rfl, by omega⟩
  · exact ⟨8, rfl, by omega⟩
theorem okb_of {m : Nat} (h : m = 2 ∨ m = 4 ∨ m = 8) : okb (m : Int) = true := by
  rcases h with rfl | rfl | rfl <;> rfl
theorem Pack_f (l : List Int) (b : Int) : Ev (fun k => pack_Pack.f k l b) (packZ b l) := by
  unfold pack_Pack.f packZ
  simp only [Bits_f, many_f, Words_f, Option.bind_some]
  by_cases hb : okb b = true
  · rw [if_pos hb]
    refine Ev.pos hb ?_
    by_cases hn : l.length ≤ 256
    · rw [if_pos hn]
      refine Ev.pos (by simp; omega) ?_
      obtain ⟨m, rfl, hm⟩ := okb_nat hb
      rw [any_f hm, Int.toNat_natCast]
      refine Ev.sb ?_
      by_cases ha : (l.any fun x => decide (x < 0) || decide ((2 : Int) ^ m ≤ x)) = true
      · rw [if_pos ha]
        exact Ev.pos ha (Ev.now _)
      · rw [if_neg ha]
        refine Ev.neg ha ?_
        have hin : inR m l := any_inR.1 (by simpa using ha)
        have hw : wordsZ (l.length : Int) (m : Int) = (((l.length * m + 63) / 64 : Nat) : Int) := by
          unfold wordsZ
          rw [if_pos ⟨hb, by omega, by omega⟩]
          simp
        have hmb : l.length * m ≤ 2048 := by rcases hm with rfl | rfl | rfl <;> omega
        rw [hw]
        refine Ev.pos (by omega) ?_
        rw [Int.toNat_natCast]
        refine Ev.pos (by omega) ?_
        have h0 := Pack_l hm (nat l) (nat_lt hin) (by rw [nat_length]; exact hn) l.length 0 (by rw [nat_length]; omega) (by omega)
        rw [nat_length, up_nat hin] at h0
        have e : up (St m ((l.length * m + 63) / 64) (nat l) 0) = List.replicate ((l.length * m + 63) / 64) 0 := by simp [St, up]
        rw [e] at h0
        exact h0
    · rw [if_neg hn]
      exact Ev.neg (by simp; omega) (Ev.now _)
  · rw [if_neg hb]
    exact Ev.neg hb (Ev.now _)
/-- a lane -/
theorem Lane_f {b : Nat} (hb : b = 2 ∨ b = 4 ∨ b = 8) (W : List Nat) (hW : ∀ j, W.getD j 0 < 18446744073709551616) (hlen : W.length ≤ 1000) (i : Nat) (hi : i < W.length * (64 / b)) :
    pack_Lane.f (up W) (i : Int) (b : Int) = some ((W.getD (i * b / 64) 0 / 2 ^ (i * b % 64) % 2 ^ b : Nat) : Int) := by
  have hib : i * b < 64 * W.length := by rcases hb with rfl | rfl | rfl <;> omega
  have hlim : wrap64 (((up W).length : Int) * wrap64 (Int.tdiv 64 (b : Int))) = ((W.length * (64 / b) : Nat) : Int) := by
    rw [up_length, td_nonneg (by omega)]
    have : (64 : Int) / (b : Int) = ((64 / b : Nat) : Int) := by simp
    have hd : 64 / b ≤ 32 := by rcases hb with rfl | rfl | rfl <;> decide
    have hm : W.length * (64 / b) ≤ 32000 := by
      have := Nat.mul_le_mul hlen hd
      omega
    rw [this]
    generalize 64 / b = q at hd hm ⊢
    rw [w64 (x := (q : Int)) (by omega) (by omega), ← Int.natCast_mul, w64 (by omega) (by omega)]
  have hbl := b_le hb
  unfold pack_Lane.f
  simp only [Bits_f, okb_of hb, Option.bind_some]
  rw [if_pos trivial, if_neg (by omega), if_neg (by omega), hlim, if_neg (by omega), wi i b (by omega), wdiv _ (by omega), wmod, if_pos (by omega), if_pos (by rw [up_length]; omega), if_pos (by omega), if_pos (by omega), rd_up, shr_u64 _ _ (by omega)]
  have h1 : shl .u64 1 (b : Int) = ((2 ^ b : Nat) : Int) := by
    have := shl_u64 1 b (by omega) (by omega)
    simpa using this
  have hx := Nat.lt_of_le_of_lt (Nat.div_le_self (W.getD (i * b / 64) 0) (2 ^ (i * b % 64))) (hW (i * b / 64))
  have h2 : IntKind.u64.wrap (((2 ^ b : Nat) : Int) - 1) = (2 : Int) ^ b - 1 := by
    have hp := Nat.two_pow_pos b
    rw [wu64 (by omega) (by omega)]
    simp
  rw [h1, h2]
  have h4 := Nat.mod_lt (W.getD (i * b / 64) 0 / 2 ^ (i * b % 64)) (Nat.two_pow_pos b)
  have hbl1 := hbl.1
  have hbl2 := hbl.2.1
  clear h1 h2 hlim hbl
  generalize W.getD (i * b / 64) 0 / 2 ^ (i * b % 64) = y at hx h4 ⊢
  rw [bits_mask .u64 64 (by decide) (fun n h0 h1 => wu64 h0 (by simpa using h1)) b (by omega) _ (by omega) (show (y : Int) < 2 ^ 64 by
    have : (2 : Int) ^ 64 = 18446744073709551616 := by decide
    omega)]
  have h3 : (y : Int) % 2 ^ b = ((y % 2 ^ b : Nat) : Int) := by simp
  rw [h3, w64 (by omega) (by omega)]
theorem rd_get (x : List Int) (j : Nat) (h : j < x.length) : rd x (j : Int) = x[j] := by
  unfold rd
  rw [Int.toNat_natCast, List.getD_eq_getElem?_getD, List.getElem?_eq_getElem h]
  rfl
theorem Same_l (x y : List Int) (hxy : x.length = y.length) (hlen : x.length < 1000000) : ∀ (d j : Nat), x.length - j = d → j ≤ x.length → Ev (fun k => credenzaref05_Same.l0 k x y (j : Int)) (decide (x.drop j = y.drop j)) := by
  intro d
  induction d with
  | zero =>
    intro j hd hj
    obtain rfl : j = x.length := by omega
    refine Ev.step (fun k => by rw [credenzaref05_Same.l0, if_neg (by omega)]) ?_
    rw [List.drop_length, hxy, List.drop_length]
    exact Ev.now _
  | succ d ih =>
    intro j hd hj
    have h1 : j < x.length := by omega
    have h2 : j < y.length := by omega
    refine Ev.step (fun k => by rw [credenzaref05_Same.l0, if_pos (by omega), if_pos (by omega), if_pos (by omega), rd_get x j h1, rd_get y j h2, wsucc j (by omega)]) ?_
    rw [List.drop_eq_getElem_cons h1, List.drop_eq_getElem_cons h2]
    by_cases he : x[j] = y[j]
    · refine Ev.pos he ?_
      have h3 := ih (j + 1) (by omega) (by omega)
      rw [he]
      simp only [List.cons.injEq, true_and]
      exact h3
    · refine Ev.neg he ?_
      rw [decide_eq_false (fun e => he (List.cons.inj e).1)]
      exact Ev.now _
theorem Same_f (x y : List Int) (hlen : x.length < 1000000) : Ev (fun k => credenzaref05_Same.f k x y) (decide (x = y)) := by
  unfold credenzaref05_Same.f
  by_cases h : x.length = y.length
  · refine Ev.pos (by omega) ?_
    have := Same_l x y h hlen x.length 0 (by omega) (by omega)
    simpa using this
  · refine Ev.neg (by omega) ?_
    rw [decide_eq_false (by intro e; exact h (by rw [e]))]
    exact Ev.now _
theorem Right_l1 (b : Nat) (l : List Int) (hn : l.length ≤ 256) : ∀ (d j : Nat), l.length - j = d → j ≤ l.length →
    Ev (fun k => credenzaref05_Right.l1 k l ((2 ^ b : Nat) : Int) (j : Int)) (if ((l.drop j).any fun x => decide (x < 0) || decide ((2 : Int) ^ b ≤ x)) = true then 11 else 0) := by
  intro d
  induction d with
  | zero =>
    intro j hd hj
    obtain rfl : j = l.length := by omega
    refine Ev.step (fun k => by rw [credenzaref05_Right.l1, if_neg (by omega)]) ?_
    rw [List.drop_length]
    exact Ev.now _
  | succ d ih =>
    intro j hd hj
    have h1 : j < l.length := by omega
    refine Ev.step (fun k => by rw [credenzaref05_Right.l1, if_pos (by omega), if_pos (by omega), rd_get l j h1, wsucc j (by omega)]) ?_
    rw [List.drop_eq_getElem_cons h1, List.any_cons]
    have e2 : ((2 ^ b : Nat) : Int) = (2 : Int) ^ b := by simp
    by_cases he : l[j] < 0
    · refine Ev.pos he ?_
      rw [decide_eq_true he]
      exact Ev.now _
    · refine Ev.neg he ?_
      rw [decide_eq_false he]
      by_cases hg : l[j] ≥ ((2 ^ b : Nat) : Int)
      · refine Ev.pos hg ?_
        rw [decide_eq_true (by rw [← e2]; exact hg)]
        exact Ev.now _
      · refine Ev.neg hg ?_
        rw [decide_eq_false (by rw [← e2]; exact hg), Bool.false_or, Bool.false_or]
        exact ih (j + 1) (by omega) (by omega)
theorem Right_l0 {b : Nat} (hb : b ≤ 8) (l : List Int) {r : Int} (hr : Ev (fun k => credenzaref05_Right.l1 k l ((2 ^ b : Nat) : Int) 0) r) : ∀ (d i : Nat), b - i = d → i ≤ b →
    Ev (fun k => credenzaref05_Right.l0 k l (b : Int) ((2 ^ i : Nat) : Int) (i : Int)) r := by
  intro d
  induction d with
  | zero =>
    intro i hd hi
    obtain rfl : i = b := by omega
    refine Ev.step (fun k => by rw [credenzaref05_Right.l0, if_neg (by omega)]) hr
  | succ d ih =>
    intro i hd hi
    have h1 : 2 ^ (i + 1) ≤ 2 ^ 8 := Nat.pow_le_pow_right (by decide) (by omega)
    have e : ((2 ^ i : Nat) : Int) * 2 = ((2 ^ (i + 1) : Nat) : Int) := by rw [Nat.pow_succ]; rfl
    refine Ev.step (fun k => by rw [credenzaref05_Right.l0, if_pos (by omega), e, wn _ (Nat.lt_of_le_of_lt h1 (by decide)), wsucc i (by omega)]) ?_
    exact ih (i + 1) (by omega) (by omega)
def rightZ (b : Int) (l : List Int) : Int :=
  if okb b = true then (if l.length ≤ 256 then (if (l.any fun x => decide (x < 0) || decide ((2 : Int) ^ b.toNat ≤ x)) = true then 11 else 0) else 12) else 20
theorem Right_f (l : List Int) (b : Int) : Ev (fun k => credenzaref05_Right.f k l b) (rightZ b l) := by
  unfold credenzaref05_Right.f rightZ
  simp only [rBits_f, Option.bind_some]
  by_cases hb : okb b = true
  · rw [if_pos hb]
    refine Ev.pos hb ?_
    by_cases hn : l.length ≤ 256
    · rw [if_pos hn]
      refine Ev.neg (by omega) ?_
      obtain ⟨m, rfl, hm⟩ := okb_nat hb
      rw [Int.toNat_natCast]
      have h0 := Right_l0 (b := m) (by omega) l (Right_l1 m l hn l.length 0 (by omega) (by omega)) m 0 (by omega) (by omega)
      exact h0
    · rw [if_neg hn]
      exact Ev.pos (by omega) (Ev.now _)
  · rw [if_neg hb]
    exact Ev.neg hb (Ev.now _)
theorem St_left {b : Nat} (a c : List Nat) (Wa R : Nat) (hWa : a.length * b = 64 * Wa) (hb0 : 0 < b) : ∀ i, i ≤ a.length → St b (Wa + R) (a ++ c) i = St b Wa a i ++ List.replicate R 0
  | 0, _ => by simp [St]
  | i + 1, hi => by
    have ih := St_left a c Wa R hWa hb0 i (by omega)
    have hq : i * b / 64 < Wa := by
      have : (i + 1) * b ≤ a.length * b := Nat.mul_le_mul_right _ hi
      rw [Nat.add_mul, Nat.one_mul] at this
      omega
    have hl : (a ++ c).getD i 0 = a.getD i 0 := by
      rw [List.getD_eq_getElem?_getD, List.getD_eq_getElem?_getD, List.getElem?_append_left (by omega)]
    simp only [St, ih, hl]
    rw [List.set_append_left _ _ (by rw [St_length]; exact hq)]
    congr 2
    congr 1
    rw [List.getD_eq_getElem?_getD, List.getD_eq_getElem?_getD, List.getElem?_append_left (by rw [St_length]; exact hq)]
theorem St_right {b : Nat} (a c : List Nat) (Wa Wc : Nat) (hWa : a.length * b = 64 * Wa) (hb0 : 0 < b) : ∀ j, St b (Wa + Wc) (a ++ c) (a.length + j) = St b Wa a a.length ++ St b Wc c j
  | 0 => by
    have := St_left a c Wa Wc hWa hb0 a.length (Nat.le_refl _)
    simpa [St] using this
  | j + 1 => by
    have ih := St_right a c Wa Wc hWa hb0 j
    have e : a.length + (j + 1) = (a.length + j) + 1 := by omega
    have hm : (a.length + j) * b = 64 * Wa + j * b := by rw [Nat.add_mul, hWa]
    have hq : (a.length + j) * b / 64 = Wa + j * b / 64 := by rw [hm]; omega
    have hs : (a.length + j) * b % 64 = j * b % 64 := by rw [hm]; omega
    have hl : (a ++ c).getD (a.length + j) 0 = c.getD j 0 := by
      rw [List.getD_eq_getElem?_getD, List.getD_eq_getElem?_getD, List.getElem?_append_right (by omega)]
      congr 2
      omega
    rw [e]
    simp only [St, ih, hl, hq, hs]
    rw [List.set_append_right _ _ (by rw [St_length]; omega), St_length]
    congr 2
    · omega
    · congr 1
      rw [List.getD_eq_getElem?_getD, List.getD_eq_getElem?_getD, List.getElem?_append_right (by rw [St_length]; omega), St_length]
      congr 2
      omega
theorem packed_app {b : Nat} (hb0 : 0 < b) (a c : List Int) (h : a.length * b % 64 = 0) : packed b (a ++ c) = packed b a ++ packed b c := by
  have hWa : (nat a).length * b = 64 * ((a.length * b + 63) / 64) := by rw [nat_length]; omega
  have h1 := St_right (nat a) (nat c) ((a.length * b + 63) / 64) ((c.length * b + 63) / 64) hWa hb0 c.length
  have hW : ((a ++ c).length * b + 63) / 64 = (a.length * b + 63) / 64 + (c.length * b + 63) / 64 := by
    rw [List.length_append, Nat.add_mul]
    omega
  unfold packed
  rw [hW]
  have hn : nat (a ++ c) = nat a ++ nat c := by simp [nat]
  rw [hn, List.length_append]
  rw [nat_length] at h1
  exact h1
theorem PackJoins : credenzalaw05_PackJoins.Pure := by
  intro l c b _ hl8 _ _ hc8 _ _
  refine Ev.rounds ?_
  unfold credenzalaw05_PackJoins.f
  have hyes : Ev (fun k => credenzalaw05_PackJoins.j0 k l c b true) true := by
    refine Ev.step (fun k => by rw [credenzalaw05_PackJoins.j0]) ?_
    exact Ev.pos rfl (Ev.bind awake_f (Ev.now true))
  rw [wadd _ _ (by omega)]
  refine Ev.ite (fun _ => hyes) (fun hlen => ?_)
  simp only [rBits_f, Option.bind_some]
  refine Ev.ite (fun hb => ?_) (fun _ => hyes)
  obtain ⟨m, rfl, hm⟩ := okb_nat hb
  have hmb : l.length * m < 100000 := by rcases hm with rfl | rfl | rfl <;> omega
  rw [wi _ _ hmb, wmod]
  refine Ev.ite (fun h64 => ?_) (fun _ => hyes)
  refine Ev.bind (Right_f l (m : Int)) ?_
  refine Ev.ite (fun hrl => ?_) (fun _ => hyes)
  refine Ev.bind (Right_f c (m : Int)) ?_
  by_cases hrc : rightZ (m : Int) c = 0
  · have hin : ∀ x : List Int, x.length ≤ 256 → rightZ (m : Int) x = 0 → packZ (m : Int) x = (up (packed m x), 0) ∧ inR m x := by
      intro x hx h0
      unfold rightZ at h0
      rw [if_pos hb, if_pos hx, Int.toNat_natCast] at h0
      unfold packZ
      rw [if_pos hb, if_pos hx, Int.toNat_natCast]
      by_cases ha : (x.any fun x => decide (x < 0) || decide ((2 : Int) ^ m ≤ x)) = true
      · rw [if_pos ha] at h0
        exact absurd h0 (by decide)
      · rw [if_neg ha]
        exact ⟨rfl, any_inR.1 (by simpa using ha)⟩
    obtain ⟨pl, il⟩ := hin l (by omega) hrl
    obtain ⟨pc, ic⟩ := hin c (by omega) hrc
    have iz : inR m (l ++ c) := fun x hx => by
      rcases List.mem_append.1 hx with h | h
      · exact il x h
      · exact ic x h
    have pz : packZ (m : Int) (l ++ c) = (up (packed m (l ++ c)), 0) := by
      have hl2 : (l ++ c).length ≤ 256 := by rw [List.length_append]; omega
      unfold packZ
      rw [if_pos hb, if_pos hl2, Int.toNat_natCast, if_neg]
      rw [any_inR.2 iz]
      decide
    rw [hrc]
    refine Ev.step (fun k => by rw [credenzalaw05_PackJoins.j0]) ?_
    refine Ev.neg (by decide) ?_
    refine Ev.bind (Pack_f l (m : Int)) ?_
    refine Ev.bind (Pack_f c (m : Int)) ?_
    rw [pl, pc]
    refine Ev.sb ?_
    refine Ev.pos (by simp; omega) ?_
    refine Ev.sb ?_
    refine Ev.pos (by simp; omega) ?_
    refine Ev.bind (Pack_f _ (m : Int)) ?_
    rw [List.nil_append, pz]
    have hlp : (packed m l).length ≤ 100 ∧ (packed m c).length ≤ 100 := by
      rw [packed_length, packed_length]
      rcases hm with rfl | rfl | rfl <;> omega
    refine Ev.pos rfl (Ev.pos rfl (Ev.pos rfl (Ev.sb ?_)))
    refine Ev.pos (by simp [up_length]; omega) ?_
    refine Ev.sb ?_
    refine Ev.pos (by simp [up_length]; omega) ?_
    have hz : (packed m (l ++ c)).length ≤ 200 := by rw [packed_app (by omega) l c (by omega), List.length_append]; omega
    refine Ev.bind (Same_f _ _ (by show (up (packed m (l ++ c))).length < 1000000; rw [up_length]; omega)) ?_
    refine Ev.pos ?_ (Ev.bind awake_f (Ev.now true))
    rw [packed_app (by omega) l c (by omega)]
    simp [up]
  · have : (rightZ (m : Int) c != 0) = true := by simpa using hrc
    rw [this]
    exact hyes

end Go.Proofs.Ytlkelicgbjjgiaa.Pure
