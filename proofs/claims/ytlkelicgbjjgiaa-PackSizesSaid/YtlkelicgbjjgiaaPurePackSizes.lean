/- For every n and b the law PackSizes returns true: no conditions. -/
import Derived.Test.YtlkelicgbjjgiaaPPackSizesx
namespace Go.Proofs.Ytlkelicgbjjgiaa.Pure
open Go.RowKit Go.Proofs.Ytlkelicgbjjgiaa.PPackSizes Go.Proofs.YtlkelicgbjjgiaaW.PrintWords Go.Proofs.YtlkelicgbjjgiaaW.PrintLast Go.Proofs.YtlkelicgbjjgiaaW.PrintMore
/-! ### rounds -/
theorem Ev.pos {α : Type} {c : Prop} [Decidable c] {X Y : Nat → Option α} {r : α} (h : c) (k : Ev X r) : Ev (fun n => if c then X n else Y n) r := by
  obtain ⟨K, k⟩ := k
  exact ⟨K, fun n hn => (if_pos h).trans (k n hn)⟩
theorem Ev.neg {α : Type} {c : Prop} [Decidable c] {X Y : Nat → Option α} {r : α} (h : ¬ c) (k : Ev Y r) : Ev (fun n => if c then X n else Y n) r := by
  obtain ⟨K, k⟩ := k
  exact ⟨K, fun n hn => (if_neg h).trans (k n hn)⟩
theorem Ev.sb {α β : Type} {f : Nat → α → Option β} {a : α} {r : β} (k : Ev (fun n => f n a) r) : Ev (fun n => (some a).bind (f n)) r := k
theorem Ev.eq {α : Type} {g : Nat → Option α} {r s : α} (k : Ev g r) (h : r = s) : Ev g s := h ▸ k
theorem Ev.one {α : Type} {g h : Nat → Option α} {r : α} (hg : Ev g r) (hh : ∀ n, g n = h n) : Ev h r := Ev.congr (fun n => (hh n).symm) hg
/-- A test, either way. -/
theorem Ev.ite {α : Type} {c : Prop} [Decidable c] {X Y : Nat → Option α} {r : α} (h : c → Ev X r) (k : ¬ c → Ev Y r) : Ev (fun n => if c then X n else Y n) r := by
  by_cases hc : c
  · exact Ev.pos hc (h hc)
  · exact Ev.neg hc (k hc)
theorem w64 {x : Int} (h0 : -9223372036854775808 ≤ x) (h1 : x ≤ 9223372036854775807) : wrap64 x = x := by unfold wrap64; omega
theorem wu64 {x : Int} (h0 : 0 ≤ x) (h1 : x < 18446744073709551616) : IntKind.u64.wrap x = x := by
  simp [IntKind.wrap, IntKind.bits, IntKind.signed]
  omega
theorem td_nonneg {x y : Int} (h : 0 ≤ x) : Int.tdiv x y = x / y := Int.tdiv_eq_ediv_of_nonneg h
theorem tm_nonneg {x y : Int} (h : 0 ≤ x) : Int.tmod x y = x % y := Int.tmod_eq_emod_of_nonneg h
theorem wf_i64 {x : Int} (h : (Lit.int .i64 x).wf = true) : -9223372036854775808 ≤ x ∧ x ≤ 9223372036854775807 := by
  simp [Lit.wf, IntKind.min, IntKind.max, IntKind.bits, IntKind.signed] at h
  omega
theorem wf_u64 {x : Int} (h : (Lit.int .u64 x).wf = true) : 0 ≤ x ∧ x < 18446744073709551616 := by
  simp [Lit.wf, IntKind.min, IntKind.max, IntKind.bits, IntKind.signed] at h
  omega
def okb (b : Int) : Bool := b == 2 || b == 4 || b == 8
theorem okb_iff {b : Int} : okb b = true ↔ b = 2 ∨ b = 4 ∨ b = 8 := by simp [okb, or_assoc]
theorem Bits_f (b : Int) : pack_Bits.f b = some (okb b) := by
  unfold pack_Bits.f okb
  by_cases h2 : b = 2
  · simp [h2]
  · by_cases h4 : b = 4
    · simp [h4]
    · simp [h2, h4]
theorem rBits_f (b : Int) : credenzaref05_Bits.f b = some (okb b) := by
  unfold credenzaref05_Bits.f okb
  by_cases h2 : b = 2
  · simp [h2]
  · by_cases h4 : b = 4
    · simp [h4]
    · simp [h2, h4]
theorem many_f (n : Int) : pack_many.f n = some (decide (0 ≤ n) && decide (n ≤ 256)) := by
  unfold pack_many.f
  by_cases h : n ≥ 0
  · rw [if_pos h]; simp [show (0 : Int) ≤ n from h]
  · rw [if_neg h]; simp [show ¬ (0 : Int) ≤ n from h]
def wordsZ (n b : Int) : Int := if okb b = true ∧ 0 ≤ n ∧ n ≤ 256 then (n * b + 63) / 64 else 0
theorem Words_f (n b : Int) : pack_Words.f n b = some (wordsZ n b) := by
  unfold pack_Words.f wordsZ
  simp only [Bits_f, many_f, Option.bind_some]
  by_cases hb : okb b = true
  · rw [if_pos hb]
    by_cases hn : 0 ≤ n ∧ n ≤ 256
    · rw [if_pos (by simp [hn.1, hn.2]), if_pos ⟨hb, hn.1, hn.2⟩]
      have h0 : 0 ≤ n * b ∧ n * b ≤ 2048 := by
        rcases okb_iff.1 hb with rfl | rfl | rfl <;> omega
      rw [w64 (x := n * b) (by omega) (by omega), w64 (x := n * b + 64) (by omega) (by omega), w64 (x := n * b + 64 - 1) (by omega) (by omega), td_nonneg (by omega), w64 (by omega) (by omega)]
      congr 2
      omega
    · rw [if_neg (by simp; omega), if_neg (fun h => hn h.2)]
  · rw [if_neg hb, if_neg (fun h => hb h.1)]
theorem rWords_l (n b : Int) (h0 : 0 ≤ n * b) (h1 : n * b ≤ 1000000) : ∀ (d : Nat) (x : Int), 0 ≤ x → x ≤ (n * b + 63) / 64 → (n * b + 63) / 64 - x = d → Ev (fun k => credenzaref05_Words.l0 k n b x) ((n * b + 63) / 64) := by
  intro d
  induction d with
  | zero =>
    intro x hx hle hd
    refine Ev.step (f := fun _ => some x) (fun k => ?_) (Ev.eq (Ev.now x) (by omega))
    rw [credenzaref05_Words.l0]
    rw [w64 (x := x * 64) (by omega) (by omega), w64 (x := n * b) (by omega) (by omega), if_neg (by omega)]
  | succ d ih =>
    intro x hx hle hd
    refine Ev.step (fun k => ?_) (ih (x + 1) (by omega) (by omega) (by omega))
    rw [credenzaref05_Words.l0]
    rw [w64 (x := x * 64) (by omega) (by omega), w64 (x := n * b) (by omega) (by omega), if_pos (by omega), w64 (x := x + 1) (by omega) (by omega)]
theorem rWords_f (n b : Int) (h0 : 0 ≤ n * b) (h1 : n * b ≤ 1000000) : Ev (fun k => credenzaref05_Words.f k n b) ((n * b + 63) / 64) := by
  unfold credenzaref05_Words.f
  exact rWords_l n b h0 h1 ((n * b + 63) / 64).toNat 0 (by omega) (by omega) (by omega)
theorem awake_f : Ev (fun k => credenzalaw05_awake.f k) true := Ev.of credenzalaw05_awake.mono (k := 40) (by decide +kernel)
theorem PackSizes : credenzalaw05_PackSizes.Pure := by
  intro n b hn hb
  have hn := wf_i64 hn
  refine Ev.rounds ?_
  unfold credenzalaw05_PackSizes.f
  simp only [Words_f, Bits_f, rBits_f, Option.bind_some]
  refine Ev.neg (by simp) ?_
  have hw0 : ¬ (okb b = true ∧ 0 ≤ n ∧ n ≤ 256) → Ev (fun k => credenzalaw05_PackSizes.j0 k n b (wordsZ n b) true) true := by
    intro h
    refine Ev.step (fun k => by rw [credenzalaw05_PackSizes.j0]; rw [if_pos rfl, if_pos (by simp [wordsZ, h])]) (Ev.bind awake_f (Ev.now true))
  refine Ev.ite (fun hb => ?_) (fun hb => hw0 (fun h => hb h.1))
  refine Ev.ite (fun hn0 => hw0 (by omega)) (fun hn0 => ?_)
  by_cases hn1 : n > 256
  · rw [decide_eq_true hn1]
    exact hw0 (by omega)
  · rw [decide_eq_false hn1]
    have h0 : 0 ≤ n * b ∧ n * b ≤ 2048 := by rcases okb_iff.1 hb with rfl | rfl | rfl <;> omega
    have hw : wordsZ n b = (n * b + 63) / 64 := by simp [wordsZ, hb]; omega
    refine Ev.step (f := fun k => (credenzaref05_Words.f k n b).bind fun t160 => _) (fun k => by rw [credenzalaw05_PackSizes.j0]; rw [if_neg (by decide)]) ?_
    refine Ev.bind (rWords_f n b h0.1 (by omega)) ?_
    refine Ev.pos hw ?_
    rw [w64 (x := n * b) (by omega) (by omega), w64 (x := 64 * wordsZ n b) (by omega) (by omega), w64 (x := wordsZ n b - 1) (by omega) (by omega), w64 (x := 64 * (wordsZ n b - 1)) (by omega) (by omega)]
    refine Ev.pos (by omega) ?_
    refine Ev.ite (fun _ => Ev.bind awake_f (Ev.now true)) (fun hz => ?_)
    exact Ev.pos (by omega) (Ev.bind awake_f (Ev.now true))

end Go.Proofs.Ytlkelicgbjjgiaa.Pure
