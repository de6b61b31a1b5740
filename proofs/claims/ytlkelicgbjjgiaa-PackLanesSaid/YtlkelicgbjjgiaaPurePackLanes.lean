/- For every list of words, every i and every b the law PackLanes returns true: no conditions. -/
import Derived.Test.YtlkelicgbjjgiaaPPackLanesx
namespace Go.Proofs.Ytlkelicgbjjgiaa.Pure
open Go.RowKit Go.Proofs.Ytlkelicgbjjgiaa.PPackLanes Go.Proofs.YtlkelicgbjjgiaaW.PrintWords Go.Proofs.YtlkelicgbjjgiaaW.PrintLast Go.Proofs.YtlkelicgbjjgiaaW.PrintMore
set_option linter.unusedVariables false
set_option linter.unusedSimpArgs false
/-! ### rounds -/
theorem Ev.pos {α : Type} {c : Prop} [Decidable c] {X Y : Nat → Option α} {r : α} (h : c) (k : Ev X r) : Ev (fun n => if c then X n else Y n) r := by
  obtain ⟨K, k⟩ := k
  exact ⟨K, fun n hn => (if_pos h).trans (k n hn)⟩
theorem Ev.neg {α : Type} {c : Prop} [Decidable c] {X Y : Nat → Option α} {r : α} (h : ¬ c) (k : Ev Y r) : Ev (fun n => if c then X n else Y n) r := by
  obtain ⟨K, k⟩ := k
  exact ⟨K, fun n hn => (if_neg h).trans (k n hn)⟩
theorem Ev.sb {α β : Type} {f : Nat → α → Option β} {a : α} {r : β} (k : Ev (fun n => f n a) r) : Ev (fun n => (some a).bind (f n)) r := k
theorem Ev.eq {α : Type} {g : Nat → Option α} {r s : α} (k : Ev g r) (h : r = s) : Ev g s := h ▸ k
theorem Ev.one {α : Type} {g h : Nat → Option α} {r : α} (hg : Ev g r) (hh : ∀ n, g n = h n) : Ev h r := Ev.congr (fun n => (hh n).symm) hg
/-- A test, either way. -/
theorem Ev.ite {α : Type} {c : Prop} [Decidable c] {X Y : Nat → Option α} {r : α} (h : c → Ev X r) (k : ¬ c → Ev Y r) : Ev (fun n => if c then X n else Y n) r := by
  by_cases hc : c
  · exact Ev.pos hc (h hc)
  · exact Ev.neg hc (k hc)
theorem w64 {x : Int} (h0 : -9223372036854775808 ≤ x) (h1 : x ≤ 9223372036854775807) : wrap64 x = x := by unfold wrap64; omega
theorem wu64 {x : Int} (h0 : 0 ≤ x) (h1 : x < 18446744073709551616) : IntKind.u64.wrap x = x := by
  simp [IntKind.wrap, IntKind.bits, IntKind.signed]
  omega
theorem td_nonneg {x y : Int} (h : 0 ≤ x) : Int.tdiv x y = x / y := Int.tdiv_eq_ediv_of_nonneg h
theorem tm_nonneg {x y : Int} (h : 0 ≤ x) : Int.tmod x y = x % y := Int.tmod_eq_emod_of_nonneg h
theorem wf_i64 {x : Int} (h : (Lit.int .i64 x).wf = true) : -9223372036854775808 ≤ x ∧ x ≤ 9223372036854775807 := by
  simp [Lit.wf, IntKind.min, IntKind.max, IntKind.bits, IntKind.signed] at h
  omega
theorem wf_u64 {x : Int} (h : (Lit.int .u64 x).wf = true) : 0 ≤ x ∧ x < 18446744073709551616 := by
  simp [Lit.wf, IntKind.min, IntKind.max, IntKind.bits, IntKind.signed] at h
  omega
theorem wn (x : Nat) (h : x < 9223372036854775808) : wrap64 (x : Int) = (x : Int) := w64 (by omega) (by omega)
theorem wadd (x y : Nat) (h : x + y < 9223372036854775808) : wrap64 ((x : Int) + (y : Int)) = ((x + y : Nat) : Int) := by
  rw [← Int.natCast_add]
  exact wn _ h
theorem wsucc (x : Nat) (h : x + 1 < 9223372036854775808) : wrap64 ((x : Int) + 1) = ((x + 1 : Nat) : Int) := wadd x 1 h
theorem wun (x : Nat) (h : x < 18446744073709551616) : IntKind.u64.wrap (x : Int) = (x : Int) := wu64 (by omega) (by omega)
def okb (b : Int) : Bool := b == 2 || b == 4 || b == 8
theorem okb_iff {b : Int} : okb b = true ↔ b = 2 ∨ b = 4 ∨ b = 8 := by simp [okb, or_assoc]
theorem Bits_f (b : Int) : pack_Bits.f b = some (okb b) := by
  unfold pack_Bits.f okb
  by_cases h2 : b = 2
  · simp [h2]
  · by_cases h4 : b = 4
    · simp [h4]
    · simp [h2, h4]
theorem rBits_f (b : Int) : credenzaref05_Bits.f b = some (okb b) := by
  unfold credenzaref05_Bits.f okb
  by_cases h2 : b = 2
  · simp [h2]
  · by_cases h4 : b = 4
    · simp [h4]
    · simp [h2, h4]
theorem many_f (n : Int) : pack_many.f n = some (decide (0 ≤ n) && decide (n ≤ 256)) := by
  unfold pack_many.f
  by_cases h : n ≥ 0
  · rw [if_pos h]; simp [show (0 : Int) ≤ n from h]
  · rw [if_neg h]; simp [show ¬ (0 : Int) ≤ n from h]
def wordsZ (n b : Int) : Int := if okb b = true ∧ 0 ≤ n ∧ n ≤ 256 then (n * b + 63) / 64 else 0
theorem Words_f (n b : Int) : pack_Words.f n b = some (wordsZ n b) := by
  unfold pack_Words.f wordsZ
  simp only [Bits_f, many_f, Option.bind_some]
  by_cases hb : okb b = true
  · rw [if_pos hb]
    by_cases hn : 0 ≤ n ∧ n ≤ 256
    · rw [if_pos (by simp [hn.1, hn.2]), if_pos ⟨hb, hn.1, hn.2⟩]
      have h0 : 0 ≤ n * b ∧ n * b ≤ 2048 := by
        rcases okb_iff.1 hb with rfl | rfl | rfl <;> omega
      rw [w64 (x := n * b) (by omega) (by omega), w64 (x := n * b + 64) (by omega) (by omega), w64 (x := n * b + 64 - 1) (by omega) (by omega), td_nonneg (by omega), w64 (by omega) (by omega)]
      congr 2
      omega
    · rw [if_neg (by simp; omega), if_neg (fun h => hn h.2)]
  · rw [if_neg hb, if_neg (fun h => hb h.1)]
theorem awake_f : Ev (fun k => credenzalaw05_awake.f k) true := Ev.of credenzalaw05_awake.mono (k := 40) (by decide +kernel)
/-! ### words as natural numbers -/
def up (W : List Nat) : List Int := W.map fun (n : Nat) => (n : Int)
theorem up_length (W : List Nat) : (up W).length = W.length := by simp [up]
theorem rd_up (W : List Nat) (j : Nat) : rd (up W) (j : Int) = ((W.getD j 0 : Nat) : Int) := by
  unfold rd up
  rw [Int.toNat_natCast, List.getD_eq_getElem?_getD, List.getD_eq_getElem?_getD, List.getElem?_map]
  cases W[j]? <;> rfl
theorem set_up (W : List Nat) (j x : Nat) : (up W).set j (x : Int) = up (W.set j x) := by
  unfold up
  rw [List.map_set]
theorem or_join {v x s : Nat} (hv : v < 2 ^ s) (hx : x % 2 ^ s = 0) (hx1 : x < 18446744073709551616) (hv1 : v < 18446744073709551616) : Go.bits .or .u64 (v : Int) (x : Int) = ((v + x : Nat) : Int) := by
  have hb := (bits_nat .u64 64 (by decide) (fun n h0 h1 => wu64 h0 (by simpa using h1)) v x (by simpa using hv1) (by simpa using hx1)).2
  rw [hb, Nat.or_comm]
  have hq : x = 2 ^ s * (x / 2 ^ s) := by
    have := Nat.div_add_mod x (2 ^ s)
    omega
  rw [hq, ← Nat.two_pow_add_eq_or_of_lt hv (x / 2 ^ s), ← hq, Nat.add_comm]
theorem shl_u64 (x s : Nat) (hs : s ≤ 64) (h : x * 2 ^ s < 18446744073709551616) : shl .u64 (x : Int) (s : Int) = ((x * 2 ^ s : Nat) : Int) := by
  unfold shl
  rw [Int.toNat_natCast, Nat.min_eq_left (show s ≤ IntKind.u64.bits from hs)]
  have : (x : Int) * 2 ^ s = ((x * 2 ^ s : Nat) : Int) := by simp
  rw [this, wu64 (by omega) (by omega)]
theorem shr_u64 (x s : Nat) (hs : s ≤ 64) : shr .u64 (x : Int) (s : Int) = ((x / 2 ^ s : Nat) : Int) := by
  unfold shr
  rw [Int.toNat_natCast, Nat.min_eq_left (show s ≤ IntKind.u64.bits from hs)]
  simp
/-- the words behind i codes -/
def St (b W : Nat) (l : List Nat) : Nat → List Nat
  | 0 => List.replicate W 0
  | i + 1 => (St b W l i).set (i * b / 64) ((St b W l i).getD (i * b / 64) 0 + l.getD i 0 * 2 ^ (i * b % 64))
theorem St_length (b W : Nat) (l : List Nat) : ∀ i, (St b W l i).length = W
  | 0 => by simp [St]
  | i + 1 => by simp [St, St_length b W l i]
theorem getD_set (W : List Nat) (q x j : Nat) (hq : q < W.length) : (W.set q x).getD j 0 = if j = q then x else W.getD j 0 := by
  rw [List.getD_eq_getElem?_getD, List.getD_eq_getElem?_getD, List.getElem?_set]
  by_cases h : q = j
  · subst h
    simp [hq]
  · simp [h, Ne.symm h]
/-- b divides 64: where a code lies -/
theorem place {b : Nat} (hb : b = 2 ∨ b = 4 ∨ b = 8) (i : Nat) : i * b % 64 + b ≤ 64 ∧ (i * b % 64 + b < 64 → (i + 1) * b / 64 = i * b / 64 ∧ (i + 1) * b % 64 = i * b % 64 + b) ∧ (i * b % 64 + b = 64 → (i + 1) * b / 64 = i * b / 64 + 1 ∧ (i + 1) * b % 64 = 0) := by
  rcases hb with rfl | rfl | rfl <;> omega
theorem mul_lt_two {c s b : Nat} (hc : c < 2 ^ b) : c * 2 ^ s + 2 ^ s ≤ 2 ^ (s + b) := by
  have h : (c + 1) * 2 ^ s ≤ 2 ^ b * 2 ^ s := Nat.mul_le_mul_right _ hc
  rw [Nat.pow_add, Nat.mul_comm (2 ^ s)]
  rw [Nat.add_mul, Nat.one_mul] at h
  exact h
theorem two64 : (2 : Nat) ^ 64 = 18446744073709551616 := by decide
/-- what stands in the words -/
theorem St_bound {b W : Nat} (hb : b = 2 ∨ b = 4 ∨ b = 8) (l : List Nat) (hl : ∀ i, l.getD i 0 < 2 ^ b) : ∀ i, (i * b + 63) / 64 ≤ W → ∀ j, (St b W l i).getD j 0 < 2 ^ (min 64 (i * b - 64 * j))
  | 0, _, j => by
    have : (List.replicate W 0).getD j 0 = 0 := by
      rw [List.getD_eq_getElem?_getD, List.getElem?_replicate]
      split <;> rfl
    simp only [St, this]
    exact Nat.two_pow_pos _
  | i + 1, hW, j => by
    have hpl := place hb i
    have hbp : 0 < b := by omega
    have hmul : (i + 1) * b = i * b + b := by rw [Nat.add_mul, Nat.one_mul]
    have ih := St_bound (W := W) hb l hl i (by omega)
    have hq : i * b / 64 < W := by omega
    simp only [St]
    rw [getD_set _ _ _ _ (by rw [St_length]; exact hq)]
    by_cases hj : j = i * b / 64
    · rw [if_pos hj, hj]
      have h1 := ih (i * b / 64)
      have e1 : min 64 (i * b - 64 * (i * b / 64)) = i * b % 64 := by omega
      have e2 : min 64 ((i + 1) * b - 64 * (i * b / 64)) = i * b % 64 + b := by omega
      rw [e1] at h1
      rw [e2]
      have := mul_lt_two (s := i * b % 64) (hl i)
      omega
    · rw [if_neg hj]
      exact Nat.lt_of_lt_of_le (ih j) (Nat.pow_le_pow_right (by decide) (by omega))
/-- each code stands in its place -/
theorem St_lane {b W : Nat} (hb : b = 2 ∨ b = 4 ∨ b = 8) (l : List Nat) (hl : ∀ i, l.getD i 0 < 2 ^ b) : ∀ i, (i * b + 63) / 64 ≤ W → ∀ t, t < i → (St b W l i).getD (t * b / 64) 0 / 2 ^ (t * b % 64) % 2 ^ b = l.getD t 0
  | 0, _, t, ht => by omega
  | i + 1, hW, t, ht => by
    have hpl := place hb i
    have hbp : 0 < b := by omega
    have hmul : (i + 1) * b = i * b + b := by rw [Nat.add_mul, Nat.one_mul]
    have hq : i * b / 64 < W := by omega
    simp only [St]
    rw [getD_set _ _ _ _ (by rw [St_length]; exact hq)]
    by_cases hti : t = i
    · subst hti
      rw [if_pos rfl]
      have h1 := St_bound (W := W) hb l hl t (by omega) (t * b / 64)
      have e1 : min 64 (t * b - 64 * (t * b / 64)) = t * b % 64 := by omega
      rw [e1] at h1
      rw [Nat.add_mul_div_right _ _ (Nat.two_pow_pos _), Nat.div_eq_of_lt h1, Nat.zero_add, Nat.mod_eq_of_lt (hl t)]
    · have ih := St_lane (W := W) hb l hl i (by omega) t (by omega)
      by_cases hj : t * b / 64 = i * b / 64
      · rw [if_pos hj]
        have hplt := place hb t
        have hlt : t * b + b ≤ i * b := by
          have : (t + 1) * b ≤ i * b := Nat.mul_le_mul_right _ (by omega)
          rw [Nat.add_mul, Nat.one_mul] at this
          exact this
        have hs : t * b % 64 + b ≤ i * b % 64 := by omega
        obtain ⟨r, hr⟩ : ∃ r, i * b % 64 = t * b % 64 + b + r := ⟨i * b % 64 - (t * b % 64 + b), by omega⟩
        have e : l.getD i 0 * 2 ^ (i * b % 64) = (l.getD i 0 * 2 ^ r * 2 ^ b) * 2 ^ (t * b % 64) := by
          rw [hr, Nat.pow_add, Nat.pow_add]
          simp only [Nat.mul_assoc, Nat.mul_comm, Nat.mul_left_comm]
        rw [e, Nat.add_mul_div_right _ _ (Nat.two_pow_pos _), Nat.add_mul_mod_self_right, ← hj]
        exact ih
      · rw [if_neg hj]
        exact ih
theorem wi (i b : Nat) (h : i * b < 100000) : wrap64 ((i : Int) * (b : Int)) = ((i * b : Nat) : Int) := by
  rw [← Int.natCast_mul]
  exact w64 (by omega) (by omega)
theorem wdiv (x : Nat) (h : x < 100000) : wrap64 (Int.tdiv (x : Int) 64) = ((x / 64 : Nat) : Int) := by
  rw [td_nonneg (by omega)]
  have : (x : Int) / 64 = ((x / 64 : Nat) : Int) := by simp
  rw [this]
  exact w64 (by omega) (by omega)
theorem wmod (x : Nat) : Int.tmod (x : Int) 64 = ((x % 64 : Nat) : Int) := by
  rw [tm_nonneg (by omega)]
  simp
theorem b_le {b : Nat} (hb : b = 2 ∨ b = 4 ∨ b = 8) : 2 ^ b ≤ 256 ∧ b ≤ 8 ∧ 0 < b := by
  rcases hb with rfl | rfl | rfl <;> decide
theorem mulb {b i n : Nat} (hb : b = 2 ∨ b = 4 ∨ b = 8) (hi : i < n) (hn : n ≤ 256) : i * b + b ≤ n * b ∧ n * b ≤ 2048 := by
  rcases hb with rfl | rfl | rfl <;> omega
theorem Pack_l {b : Nat} (hb : b = 2 ∨ b = 4 ∨ b = 8) (l : List Nat) (hl : ∀ i, l.getD i 0 < 2 ^ b) (hn : l.length ≤ 256) : ∀ (d i : Nat), l.length - i = d → i ≤ l.length →
    Ev (fun k => pack_Pack.l0 k (up (St b ((l.length * b + 63) / 64) l i)) (up l) (l.length : Int) (i : Int) (b : Int)) (up (St b ((l.length * b + 63) / 64) l l.length), 0) := by
  intro d
  induction d with
  | zero =>
    intro i hd hi
    obtain rfl : i = l.length := by omega
    refine Ev.step (f := fun _ => some (up (St b ((l.length * b + 63) / 64) l l.length), 0)) (fun k => ?_) (Ev.now _)
    rw [pack_Pack.l0, if_neg (by omega)]
  | succ d ih =>
    intro i hd hi
    have hlt : i < l.length := by omega
    have hm := mulb hb hlt hn
    have hbl := b_le hb
    have hpl := place hb i
    have hq : i * b / 64 < (l.length * b + 63) / 64 := by omega
    refine Ev.step (fun k => ?_) (ih (i + 1) (by omega) (by omega))
    rw [pack_Pack.l0, wi i b (by omega), wdiv _ (by omega), wmod, if_pos (by omega), if_pos (by omega), if_pos (by rw [up_length]; omega), if_pos (by omega), if_pos (by rw [up_length, St_length]; omega), if_pos (by omega)]
    have hc := hl i
    have h1 : rd (up l) (i : Int) = ((l.getD i 0 : Nat) : Int) := rd_up l i
    have h2 : rd (up (St b ((l.length * b + 63) / 64) l i)) ((i * b / 64 : Nat) : Int) = (((St b ((l.length * b + 63) / 64) l i).getD (i * b / 64) 0 : Nat) : Int) := rd_up _ _
    have hB := St_bound (W := (l.length * b + 63) / 64) hb l hl i (by omega) (i * b / 64)
    rw [show min 64 (i * b - 64 * (i * b / 64)) = i * b % 64 from by omega] at hB
    have hX : l.getD i 0 * 2 ^ (i * b % 64) + 2 ^ (i * b % 64) ≤ 18446744073709551616 := by
      have := mul_lt_two (s := i * b % 64) hc
      have h3 : 2 ^ (i * b % 64 + b) ≤ 2 ^ 64 := Nat.pow_le_pow_right (by decide) hpl.1
      rw [two64] at h3
      omega
    have hp := Nat.two_pow_pos (i * b % 64)
    rw [h1, h2, wu64 (x := ((l.getD i 0 : Nat) : Int)) (by omega) (by omega), shl_u64 _ _ (by omega) (by omega), or_join hB (Nat.mul_mod_left _ _) (by omega) (by omega), Int.toNat_natCast, set_up, w64 (x := (i : Int) + 1) (by omega) (by omega)]
    simp only [St]
    rfl
def inR (b : Nat) (l : List Int) : Prop := ∀ x ∈ l, 0 ≤ x ∧ x < 2 ^ b
def nat (l : List Int) : List Nat := l.map Int.toNat
theorem nat_length (l : List Int) : (nat l).length = l.length := by simp [nat]
theorem up_nat {b : Nat} {l : List Int} (h : inR b l) : up (nat l) = l := by
  unfold up nat
  rw [List.map_map]
  conv => rhs; rw [← List.map_id l]
  refine List.map_congr_left fun x hx => ?_
  have := (h x hx).1
  simp
  omega
theorem nat_lt {b : Nat} {l : List Int} (h : inR b l) (i : Nat) : (nat l).getD i 0 < 2 ^ b := by
  rw [List.getD_eq_getElem?_getD]
  unfold nat
  rw [List.getElem?_map]
  cases hi : l[i]? with
  | none => simpa using Nat.two_pow_pos b
  | some x =>
    have := h x (List.mem_of_getElem? hi)
    show x.toNat < 2 ^ b
    have h2 : (x.toNat : Int) < ((2 ^ b : Nat) : Int) := by simp; omega
    omega
theorem any_f {b : Nat} (hb : b = 2 ∨ b = 4 ∨ b = 8) (l : List Int) : pack_Pack_1_any.f l (b : Int) = some (l.any fun x => decide (x < 0) || decide (2 ^ b ≤ x)) := by
  unfold pack_Pack_1_any.f
  rw [if_pos (by rcases hb with rfl | rfl | rfl <;> decide)]
  rfl
theorem any_inR {b : Nat} {l : List Int} : (l.any fun x => decide (x < 0) || decide ((2 : Int) ^ b ≤ x)) = false ↔ inR b l := by
  rw [List.any_eq_false]
  constructor
  · intro h x hx
    have := h x hx
    simp at this
    omega
  · intro h x hx
    have := h x hx
    simp
    omega
/-- the words of codes -/
def packed (b : Nat) (l : List Int) : List Nat := St b ((l.length * b + 63) / 64) (nat l) l.length
theorem packed_length (b : Nat) (l : List Int) : (packed b l).length = (l.length * b + 63) / 64 := St_length _ _ _ _
def packZ (b : Int) (l : List Int) : List Int × Int :=
  if okb b = true then (if l.length ≤ 256 then (if (l.any fun x => decide (x < 0) || decide ((2 : Int) ^ b.toNat ≤ x)) = true then ([], 11) else (up (packed b.toNat l), 0)) else ([], 12)) else ([], 20)
theorem okb_nat {b : Int} (h : okb b = true) : ∃ m : Nat, b = (m : Int) ∧ (m = 2 ∨ m = 4 ∨ m = 8) := by
  rcases okb_iff.1 h with rfl | rfl | rfl
  · exact ⟨2, rfl, by omega⟩
  · exact ⟨4, rfl, by omega⟩
  · exact ⟨8, rfl, by omega⟩
theorem okb_of {m : Nat} (h : m = 2 ∨ m = 4 ∨ m = 8) : okb (m : Int) = true := by
  rcases h with rfl | rfl | rfl <;> rfl
theorem Pack_f (l : List Int) (b : Int) : Ev (fun k => pack_Pack.f k l b) (packZ b l) := by
  unfold pack_Pack.f packZ
  simp only [Bits_f, many_f, Words_f, Option.bind_some]
  by_cases hb : okb b = true
  · rw [if_pos hb]
    refine Ev.pos hb ?_
    by_cases hn : l.length ≤ 256
    · rw [if_pos hn]
      refine Ev.pos (by simp; omega) ?_
      obtain ⟨m, rfl, hm⟩ := okb_nat hb
      rw [any_f hm, Int.toNat_natCast]
      refine Ev.sb ?_
      by_cases ha : (l.any fun x => decide (x < 0) || decide ((2 : Int) ^ m ≤ x)) = true
      · rw [if_pos ha]
        exact Ev.pos ha (Ev.now _)
      · rw [if_neg ha]
        refine Ev.neg ha ?_
        have hin : inR m l := any_inR.1 (by simpa using ha)
        have hw : wordsZ (l.length : Int) (m : Int) = (((l.length * m + 63) / 64 : Nat) : Int) := by
          unfold wordsZ
          rw [if_pos ⟨hb, by omega, by omega⟩]
          simp
        have hmb : l.length * m ≤ 2048 := by rcases hm with rfl | rfl | rfl <;> omega
        rw [hw]
        refine Ev.pos (by omega) ?_
        rw [Int.toNat_natCast]
        refine Ev.pos (by omega) ?_
        have h0 := Pack_l hm (nat l) (nat_lt hin) (by rw [nat_length]; exact hn) l.length 0 (by rw [nat_length]; omega) (by omega)
        rw [nat_length, up_nat hin] at h0
        have e : up (St m ((l.length * m + 63) / 64) (nat l) 0) = List.replicate ((l.length * m + 63) / 64) 0 := by simp [St, up]
        rw [e] at h0
        exact h0
    · rw [if_neg hn]
      exact Ev.neg (by simp; omega) (Ev.now _)
  · rw [if_neg hb]
    exact Ev.neg hb (Ev.now _)
/-- a lane -/
theorem Lane_f {b : Nat} (hb : b = 2 ∨ b = 4 ∨ b = 8) (W : List Nat) (hW : ∀ j, W.getD j 0 < 18446744073709551616) (hlen : W.length ≤ 1000) (i : Nat) (hi : i < W.length * (64 / b)) :
    pack_Lane.f (up W) (i : Int) (b : Int) = some ((W.getD (i * b / 64) 0 / 2 ^ (i * b % 64) % 2 ^ b : Nat) : Int) := by
  have hib : i * b < 64 * W.length := by rcases hb with rfl | rfl | rfl <;> omega
  have hlim : wrap64 (((up W).length : Int) * wrap64 (Int.tdiv 64 (b : Int))) = ((W.length * (64 / b) : Nat) : Int) := by
    rw [up_length, td_nonneg (by omega)]
    have : (64 : Int) / (b : Int) = ((64 / b : Nat) : Int) := by simp
    have hd : 64 / b ≤ 32 := by rcases hb with rfl | rfl | rfl <;> decide
    have hm : W.length * (64 / b) ≤ 32000 := by
      have := Nat.mul_le_mul hlen hd
      omega
    rw [this]
    generalize 64 / b = q at hd hm ⊢
    rw [w64 (x := (q : Int)) (by omega) (by omega), ← Int.natCast_mul, w64 (by omega) (by omega)]
  have hbl := b_le hb
  unfold pack_Lane.f
  simp only [Bits_f, okb_of hb, Option.bind_some]
  rw [if_pos trivial, if_neg (by omega), if_neg (by omega), hlim, if_neg (by omega), wi i b (by omega), wdiv _ (by omega), wmod, if_pos (by omega), if_pos (by rw [up_length]; omega), if_pos (by omega), if_pos (by omega), rd_up, shr_u64 _ _ (by omega)]
  have h1 : shl .u64 1 (b : Int) = ((2 ^ b : Nat) : Int) := by
    have := shl_u64 1 b (by omega) (by omega)
    simpa using this
  have hx := Nat.lt_of_le_of_lt (Nat.div_le_self (W.getD (i * b / 64) 0) (2 ^ (i * b % 64))) (hW (i * b / 64))
  have h2 : IntKind.u64.wrap (((2 ^ b : Nat) : Int) - 1) = (2 : Int) ^ b - 1 := by
    have hp := Nat.two_pow_pos b
    rw [wu64 (by omega) (by omega)]
    simp
  rw [h1, h2]
  have h4 := Nat.mod_lt (W.getD (i * b / 64) 0 / 2 ^ (i * b % 64)) (Nat.two_pow_pos b)
  have hbl1 := hbl.1
  have hbl2 := hbl.2.1
  clear h1 h2 hlim hbl
  generalize W.getD (i * b / 64) 0 / 2 ^ (i * b % 64) = y at hx h4 ⊢
  rw [bits_mask .u64 64 (by decide) (fun n h0 h1 => wu64 h0 (by simpa using h1)) b (by omega) _ (by omega) (show (y : Int) < 2 ^ 64 by
    have : (2 : Int) ^ 64 = 18446744073709551616 := by decide
    omega)]
  have h3 : (y : Int) % 2 ^ b = ((y % 2 ^ b : Nat) : Int) := by simp
  rw [h3, w64 (by omega) (by omega)]
/-! ### the document's side -/
theorem bit_l (x n : Nat) (hx : x < 18446744073709551616) (hn : n ≤ 64) : ∀ (d i y : Nat), n - i = d → i ≤ n → y = x / 2 ^ i → Ev (fun k => credenzaref05_bit.l0 k (y : Int) (n : Int) (i : Int)) ((x / 2 ^ n % 2 : Nat) : Int) := by
  intro d
  induction d with
  | zero =>
    intro i y hd hi hy
    obtain rfl : i = n := by omega
    refine Ev.step (f := fun _ => some ((x / 2 ^ i % 2 : Nat) : Int)) (fun k => ?_) (Ev.now _)
    rw [credenzaref05_bit.l0, if_neg (by omega), tm_nonneg (by omega), hy]
    simp
  | succ d ih =>
    intro i y hd hi hy
    have hy2 : y / 2 = x / 2 ^ (i + 1) := by rw [hy, Nat.div_div_eq_div_mul, Nat.pow_succ]
    refine Ev.step (fun k => ?_) (ih (i + 1) (y / 2) (by omega) (by omega) hy2)
    have hyx : y ≤ x := by rw [hy]; exact Nat.div_le_self _ _
    rw [credenzaref05_bit.l0, if_pos (by omega), td_nonneg (by omega), w64 (x := (i : Int) + 1) (by omega) (by omega), wu64 (by omega) (by omega)]
    rfl
theorem bit_f (x n : Nat) (hx : x < 18446744073709551616) (hn : n ≤ 64) : Ev (fun k => credenzaref05_bit.f k (x : Int) (n : Int)) ((x / 2 ^ n % 2 : Nat) : Int) := by
  unfold credenzaref05_bit.f
  exact bit_l x n hx hn n 0 x (by omega) (by omega) (by simp)
theorem power_l (n : Nat) (hn : n ≤ 63) : ∀ (d i : Nat), n - i = d → i ≤ n → Ev (fun k => credenzaref05_power.l0 k (n : Int) ((2 ^ i : Nat) : Int) (i : Int)) ((2 ^ n : Nat) : Int) := by
  intro d
  induction d with
  | zero =>
    intro i hd hi
    obtain rfl : i = n := by omega
    refine Ev.step (f := fun _ => some ((2 ^ i : Nat) : Int)) (fun k => ?_) (Ev.now _)
    rw [credenzaref05_power.l0, if_neg (by omega)]
  | succ d ih =>
    intro i hd hi
    refine Ev.step (fun k => ?_) (ih (i + 1) (by omega) (by omega))
    have h1 : 2 ^ (i + 1) ≤ 2 ^ 63 := Nat.pow_le_pow_right (by decide) (by omega)
    have h2 : (2 : Nat) ^ 63 = 9223372036854775808 := by decide
    have h3 : 2 ^ (i + 1) = 2 ^ i * 2 := Nat.pow_succ ..
    rw [credenzaref05_power.l0, if_pos (by omega), w64 (x := (i : Int) + 1) (by omega) (by omega), wu64 (by omega) (by omega)]
    rw [h3, Int.natCast_mul]
    rfl
theorem power_f (n : Nat) (hn : n ≤ 63) : Ev (fun k => credenzaref05_power.f k (n : Int)) ((2 ^ n : Nat) : Int) := by
  unfold credenzaref05_power.f
  exact power_l n hn n 0 (by omega) (by omega)
def w64s (l : List Int) : Prop := ∀ x ∈ l, 0 ≤ x ∧ x < 18446744073709551616
theorem up_nat64 {l : List Int} (h : w64s l) : up (nat l) = l := by
  unfold up nat
  rw [List.map_map]
  conv => rhs; rw [← List.map_id l]
  refine List.map_congr_left fun x hx => ?_
  have := (h x hx).1
  simp
  omega
theorem nat_lt64 {l : List Int} (h : w64s l) (i : Nat) : (nat l).getD i 0 < 18446744073709551616 := by
  rw [List.getD_eq_getElem?_getD]
  unfold nat
  rw [List.getElem?_map]
  cases hi : l[i]? with
  | none => decide
  | some x =>
    have := h x (List.mem_of_getElem? hi)
    show x.toNat < _
    omega
theorem rLane_l {b : Nat} (hb : b = 2 ∨ b = 4 ∨ b = 8) (W : List Nat) (hW : ∀ j, W.getD j 0 < 18446744073709551616) (hlen : W.length ≤ 1000) (i : Nat) (hi : i * b / 64 < W.length) : ∀ (d t : Nat), b - t = d → t ≤ b →
    Ev (fun k => credenzaref05_Lane.l0 k (up W) (i : Int) (b : Int) ((W.getD (i * b / 64) 0 / 2 ^ (i * b % 64) % 2 ^ t : Nat) : Int) (t : Int)) ((W.getD (i * b / 64) 0 / 2 ^ (i * b % 64) % 2 ^ b : Nat) : Int) := by
  have hbl := (b_le hb).2
  have hp8 := (b_le hb).1
  have hpl := (place hb i).1
  have hib : i * b ≤ 64000 := by clear hp8 hW; omega
  have hy : ∀ t, t ≤ b → W.getD (i * b / 64) 0 / 2 ^ (i * b % 64) % 2 ^ t < 256 := fun t ht =>
    Nat.lt_of_lt_of_le (Nat.mod_lt _ (Nat.two_pow_pos t)) (Nat.le_trans (Nat.pow_le_pow_right (by decide) ht) hp8)
  clear hb hp8
  intro d
  induction d with
  | zero =>
    intro t hd ht
    obtain rfl : t = b := by clear hW hy; omega
    refine Ev.step (fun k => by rw [credenzaref05_Lane.l0, if_neg (by clear hW hy; omega)]) ?_
    rw [wn _ (Nat.lt_trans (hy t (Nat.le_refl _)) (by decide))]
    exact Ev.now _
  | succ d ih =>
    intro t hd ht
    have htb : t < b := by clear hW hy ih; omega
    have a1 : (i * b + t) / 64 = i * b / 64 ∧ (i * b + t) % 64 = i * b % 64 + t ∧ i * b % 64 + t ≤ 63 ∧ i * b + t < 100000 ∧ t ≤ 63 := by
      have h8 := hbl.1
      clear hW hy ih
      omega
    obtain ⟨e2, e3, h63, hx1, h64⟩ := a1
    have e1 : wrap64 (wrap64 ((i : Int) * (b : Int)) + (t : Int)) = ((i * b + t : Nat) : Int) := by
      rw [wi i b (Nat.lt_of_le_of_lt (Nat.le_add_right _ t) hx1)]
      exact wadd _ _ (Nat.lt_trans hx1 (by decide))
    refine Ev.step (fun k => by rw [credenzaref05_Lane.l0, if_pos (Int.ofNat_lt.2 htb), e1, wdiv _ hx1, wmod, e2, e3, if_pos (Int.natCast_nonneg _), if_pos (by rw [up_length]; exact Int.ofNat_lt.2 hi), rd_up, wsucc t (Nat.lt_of_le_of_lt (Nat.succ_le_succ h64) (by decide))]) ?_
    refine Ev.bind (bit_f _ (i * b % 64 + t) (hW _) (Nat.le_trans h63 (by decide))) ?_
    refine Ev.bind (power_f t h64) ?_
    have hadd : W.getD (i * b / 64) 0 / 2 ^ (i * b % 64) % 2 ^ t + W.getD (i * b / 64) 0 / 2 ^ (i * b % 64 + t) % 2 * 2 ^ t = W.getD (i * b / 64) 0 / 2 ^ (i * b % 64) % 2 ^ (t + 1) := by
      rw [Nat.mod_pow_succ, Nat.pow_add, Nat.div_div_eq_div_mul, Nat.mul_comm (2 ^ t) (_ % 2)]
    have h1 := hy (t + 1) htb
    have hm : IntKind.u64.wrap (((W.getD (i * b / 64) 0 / 2 ^ (i * b % 64 + t) % 2 : Nat) : Int) * ((2 ^ t : Nat) : Int)) = ((W.getD (i * b / 64) 0 / 2 ^ (i * b % 64 + t) % 2 * 2 ^ t : Nat) : Int) := by
      rw [← Int.natCast_mul]
      refine wun _ ?_
      refine Nat.lt_of_le_of_lt ?_ (Nat.lt_trans h1 (by decide))
      rw [← hadd]
      exact Nat.le_add_left _ _
    rw [hm, ← Int.natCast_add, hadd, wun _ (Nat.lt_trans h1 (by decide))]
    exact ih (t + 1) (by clear hW hy ih h1 hadd hm e1; omega) htb
theorem rLane_f {b : Nat} (hb : b = 2 ∨ b = 4 ∨ b = 8) (W : List Nat) (hW : ∀ j, W.getD j 0 < 18446744073709551616) (hlen : W.length ≤ 1000) (i : Nat) (hi : i < W.length * (64 / b)) :
    Ev (fun k => credenzaref05_Lane.f k (up W) (i : Int) (b : Int)) ((W.getD (i * b / 64) 0 / 2 ^ (i * b % 64) % 2 ^ b : Nat) : Int) := by
  have hib : i * b / 64 < W.length := by rcases hb with rfl | rfl | rfl <;> omega
  unfold credenzaref05_Lane.f
  have h0 := rLane_l hb W hW hlen i hib b 0 (by omega) (by omega)
  rw [Nat.pow_zero, Nat.mod_one] at h0
  exact h0
theorem Lane_out {l : List Int} {i b : Int} (hb : okb b = false ∨ i < 0) : pack_Lane.f l i b = some 0 := by
  unfold pack_Lane.f
  simp only [Bits_f, Option.bind_some]
  by_cases h : okb b = true
  · rw [if_pos h, if_pos (by rcases hb with hb | hb; · rw [h] at hb; cases hb
                             · exact hb)]
  · rw [if_neg h]
theorem lim_f {b : Nat} (hb : b = 2 ∨ b = 4 ∨ b = 8) (n : Nat) (hn : n ≤ 1000) : wrap64 (wrap64 (Int.tdiv 64 (b : Int)) * (n : Int)) = ((n * (64 / b) : Nat) : Int) ∧ wrap64 ((n : Int) * wrap64 (Int.tdiv 64 (b : Int))) = ((n * (64 / b) : Nat) : Int) := by
  rw [td_nonneg (by omega)]
  have h1 : (64 : Int) / (b : Int) = ((64 / b : Nat) : Int) := by simp
  have hd : 64 / b ≤ 32 := by rcases hb with rfl | rfl | rfl <;> decide
  have hm : n * (64 / b) ≤ 32000 := by
    have := Nat.mul_le_mul hn hd
    omega
  rw [h1, wn _ (by omega), Int.mul_comm ((64 / b : Nat) : Int), ← Int.natCast_mul, wn _ (by omega)]
  exact ⟨rfl, rfl⟩
theorem PackLanes : credenzalaw05_PackLanes.Pure := by
  intro l i b _ _ hl hi hb
  have hi := wf_i64 hi
  refine Ev.rounds ?_
  unfold credenzalaw05_PackLanes.f
  refine Ev.ite (fun _ => Ev.bind awake_f (Ev.now true)) (fun hlen => ?_)
  have hw : w64s l := fun x hx => wf_u64 (hl x hx)
  have hn : l.length ≤ 50 := by omega
  simp only [rBits_f, Option.bind_some]
  have hout : pack_Lane.f l i b = some 0 → Ev (fun k => (pack_Lane.f l i b).bind fun t159 => credenzalaw05_PackLanes.j0 k l i b t159 true) true := by
    intro h
    rw [h]
    refine Ev.sb ?_
    refine Ev.step (fun k => by rw [credenzalaw05_PackLanes.j0]) ?_
    exact Ev.pos rfl (Ev.pos rfl (Ev.bind awake_f (Ev.now true)))
  by_cases hb : okb b = true
  · simp only [hb, if_true]
    by_cases hi0 : i < 0
    · simp only [hi0, if_true]
      exact hout (Lane_out (.inr hi0))
    · simp only [hi0, if_false]
      obtain ⟨m, rfl, hm⟩ := okb_nat hb
      obtain ⟨j, rfl⟩ := Int.eq_ofNat_of_zero_le (show 0 ≤ i by omega)
      have hm0 : ¬ (m : Int) = 0 := by omega
      simp only [hm0, if_false]
      have hlm := lim_f hm l.length (by omega)
      rw [hlm.1]
      rw [← up_nat64 hw]
      have hW := nat_lt64 hw
      rw [up_length, nat_length]
      by_cases hj : j < l.length * (64 / m)
      · rw [decide_eq_false (by omega)]
        rw [Lane_f hm (nat l) hW (by rw [nat_length]; omega) j (by rw [nat_length]; exact hj)]
        refine Ev.sb ?_
        refine Ev.step (fun k => by rw [credenzalaw05_PackLanes.j0]) ?_
        refine Ev.neg (by decide) ?_
        refine Ev.bind (rLane_f hm (nat l) hW (by rw [nat_length]; omega) j (by rw [nat_length]; exact hj)) ?_
        exact Ev.pos rfl (Ev.bind awake_f (Ev.now true))
      · rw [decide_eq_true (by omega)]
        have h0 : pack_Lane.f l (j : Int) (m : Int) = some 0 := by
          unfold pack_Lane.f
          simp only [Bits_f, hb, Option.bind_some, if_true]
          rw [if_neg (by omega), if_neg hm0, hlm.2, if_pos (by omega)]
        rw [up_nat64 hw]
        exact hout h0
  · have hb2 : okb b = false := by simpa using hb
    simp only [hb, if_false]
    exact hout (Lane_out (.inl hb2))

end Go.Proofs.Ytlkelicgbjjgiaa.Pure
