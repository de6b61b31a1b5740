/- Numbers that are all one number are grouped with scale 0 and are meant as they are, with 2, 4 and 8 bits; of any two numbers the lesser one is meant as it is. No condition beyond the statement's own guards. -/
import Derived.Test.YtggoddiiglkpiaaPGroupFlatx
namespace Go.Proofs.Ytggoddiiglkpiaa.Pure
open Go.RowKit Go.Proofs.Ytggoddiiglkpiaa.PGroupFlat Go.Proofs.YtggoddiiglkpiaaW.PrintWords Go.Proofs.YtggoddiiglkpiaaW.PrintLast Go.Proofs.YtggoddiiglkpiaaW.PrintMore
set_option linter.unusedVariables false
set_option linter.unusedSimpArgs false
/-! ### rounds -/
theorem Ev.pos {α : Type} {c : Prop} [Decidable c] {X Y : Nat → Option α} {r : α} (h : c) (k : Ev X r) : Ev (fun n => if c then X n else Y n) r := by
  obtain ⟨K, k⟩ := k
  exact ⟨K, fun n hn => (if_pos h).trans (k n hn)⟩
theorem Ev.neg {α : Type} {c : Prop} [Decidable c] {X Y : Nat → Option α} {r : α} (h : ¬ c) (k : Ev Y r) : Ev (fun n => if c then X n else Y n) r := by
  obtain ⟨K, k⟩ := k
  exact ⟨K, fun n hn => (if_neg h).trans (k n hn)⟩
theorem Ev.sb {α β : Type} {f : Nat → α → Option β} {a : α} {r : β} (k : Ev (fun n => f n a) r) : Ev (fun n => (some a).bind (f n)) r := k
theorem Ev.eq {α : Type} {g : Nat → Option α} {r s : α} (k : Ev g r) (h : r = s) : Ev g s := h ▸ k
theorem Ev.one {α : Type} {g h : Nat → Option α} {r : α} (hg : Ev g r) (hh : ∀ n, g n = h n) : Ev h r := Ev.congr (fun n => (hh n).symm) hg
/-- A test, either way. -/
theorem Ev.ite {α : Type} {c : Prop} [Decidable c] {X Y : Nat → Option α} {r : α} (h : c → Ev X r) (k : ¬ c → Ev Y r) : Ev (fun n => if c then X n else Y n) r := by
  by_cases hc : c
  · exact Ev.pos hc (h hc)
  · exact Ev.neg hc (k hc)
theorem w64 {x : Int} (h0 : -9223372036854775808 ≤ x) (h1 : x ≤ 9223372036854775807) : wrap64 x = x := by unfold wrap64; omega
theorem wu64 {x : Int} (h0 : 0 ≤ x) (h1 : x < 18446744073709551616) : IntKind.u64.wrap x = x := by
  simp [IntKind.wrap, IntKind.bits, IntKind.signed]
  omega
theorem td_nonneg {x y : Int} (h : 0 ≤ x) : Int.tdiv x y = x / y := Int.tdiv_eq_ediv_of_nonneg h
theorem tm_nonneg {x y : Int} (h : 0 ≤ x) : Int.tmod x y = x % y := Int.tmod_eq_emod_of_nonneg h
theorem wf_i64 {x : Int} (h : (Lit.int .i64 x).wf = true) : -9223372036854775808 ≤ x ∧ x ≤ 9223372036854775807 := by
  simp [Lit.wf, IntKind.min, IntKind.max, IntKind.bits, IntKind.signed] at h
  omega
theorem wf_u64 {x : Int} (h : (Lit.int .u64 x).wf = true) : 0 ≤ x ∧ x < 18446744073709551616 := by
  simp [Lit.wf, IntKind.min, IntKind.max, IntKind.bits, IntKind.signed] at h
  omega
theorem wn (x : Nat) (h : x < 9223372036854775808) : wrap64 (x : Int) = (x : Int) := w64 (by omega) (by omega)
theorem wadd (x y : Nat) (h : x + y < 9223372036854775808) : wrap64 ((x : Int) + (y : Int)) = ((x + y : Nat) : Int) := by
  rw [← Int.natCast_add]
  exact wn _ h
theorem wsucc (x : Nat) (h : x + 1 < 9223372036854775808) : wrap64 ((x : Int) + 1) = ((x + 1 : Nat) : Int) := wadd x 1 h
theorem wun (x : Nat) (h : x < 18446744073709551616) : IntKind.u64.wrap (x : Int) = (x : Int) := wu64 (by omega) (by omega)
/-! ### rows of whole numbers -/
theorem drop_rd (l : List Int) (i : Nat) (h : i < l.length) : l.drop i = rd l (i : Int) :: l.drop (i + 1) := by
  rw [List.drop_eq_getElem_cons h]
  unfold rd
  rw [Int.toNat_natCast, List.getD_eq_getElem?_getD, List.getElem?_eq_getElem h]
  rfl
theorem rd_mem (l : List Int) (i : Nat) (h : i < l.length) : rd l (i : Int) ∈ l := by
  unfold rd
  rw [Int.toNat_natCast, List.getD_eq_getElem?_getD, List.getElem?_eq_getElem h]
  exact List.getElem_mem h
theorem awake_f : Ev (fun k => credenzalaw07_awake.f k) true := Ev.of credenzalaw07_awake.mono (k := 60) (by decide +kernel)
theorem cons_dec {a b : Int} {l m : List Int} (h : a = b) : decide (a :: l = b :: m) = decide (l = m) := by
  subst h
  simp
theorem cons_ne {a b : Int} {l m : List Int} (h : ¬ a = b) : decide (a :: l = b :: m) = false := by
  rw [decide_eq_false_iff_not]
  intro e
  injection e with e1 _
  exact h e1
/-! ### least, greatest, ratios -/
def lo (l : List Int) : Int := l.foldl mn (rd l 0)
def hi (l : List Int) : Int := l.foldl mx (rd l 0)
theorem mn_le (a b : Int) : mn a b ≤ a ∧ mn a b ≤ b ∧ (mn a b = a ∨ mn a b = b) := by
  unfold mn
  split <;> omega
theorem mx_ge (a b : Int) : a ≤ mx a b ∧ b ≤ mx a b ∧ (mx a b = a ∨ mx a b = b) := by
  unfold mx
  split <;> omega
theorem foldl_mn : ∀ (l : List Int) (a : Int), l.foldl mn a ≤ a ∧ (∀ x ∈ l, l.foldl mn a ≤ x) ∧ (l.foldl mn a = a ∨ l.foldl mn a ∈ l)
  | [], a => ⟨Int.le_refl _, (fun x hx => by cases hx), .inl rfl⟩
  | b :: l, a => by
    obtain ⟨h1, h2, h3⟩ := foldl_mn l (mn a b)
    obtain ⟨m1, m2, m3⟩ := mn_le a b
    rw [List.foldl_cons]
    refine ⟨by omega, fun x hx => ?_, ?_⟩
    · rcases List.mem_cons.1 hx with rfl | hx
      · omega
      · exact h2 x hx
    · rcases h3 with h3 | h3
      · rw [h3]
        rcases m3 with m3 | m3
        · exact .inl m3
        · rw [m3]
          exact .inr (List.mem_cons_self ..)
      · exact .inr (List.mem_cons_of_mem _ h3)
theorem foldl_mx : ∀ (l : List Int) (a : Int), a ≤ l.foldl mx a ∧ (∀ x ∈ l, x ≤ l.foldl mx a) ∧ (l.foldl mx a = a ∨ l.foldl mx a ∈ l)
  | [], a => ⟨Int.le_refl _, (fun x hx => by cases hx), .inl rfl⟩
  | b :: l, a => by
    obtain ⟨h1, h2, h3⟩ := foldl_mx l (mx a b)
    obtain ⟨m1, m2, m3⟩ := mx_ge a b
    rw [List.foldl_cons]
    refine ⟨by omega, fun x hx => ?_, ?_⟩
    · rcases List.mem_cons.1 hx with rfl | hx
      · omega
      · exact h2 x hx
    · rcases h3 with h3 | h3
      · rw [h3]
        rcases m3 with m3 | m3
        · exact .inl m3
        · rw [m3]
          exact .inr (List.mem_cons_self ..)
      · exact .inr (List.mem_cons_of_mem _ h3)
theorem rd0_mem {l : List Int} (h : 0 < l.length) : rd l 0 ∈ l := rd_mem l 0 h
theorem lo_mem {l : List Int} (h : 0 < l.length) : lo l ∈ l := by
  rcases (foldl_mn l (rd l 0)).2.2 with h1 | h1
  · unfold lo
    rw [h1]
    exact rd0_mem h
  · exact h1
theorem hi_mem {l : List Int} (h : 0 < l.length) : hi l ∈ l := by
  rcases (foldl_mx l (rd l 0)).2.2 with h1 | h1
  · unfold hi
    rw [h1]
    exact rd0_mem h
  · exact h1
theorem lo_le {l : List Int} {x : Int} (h : x ∈ l) : lo l ≤ x := (foldl_mn l (rd l 0)).2.1 x h
theorem le_hi {l : List Int} {x : Int} (h : x ∈ l) : x ≤ hi l := (foldl_mx l (rd l 0)).2.1 x h
theorem lo_uniq {l : List Int} {m : Int} (hm : m ∈ l) (h : ∀ x ∈ l, m ≤ x) : lo l = m := by
  have h1 := lo_le hm
  have h2 := h _ (lo_mem (List.length_pos_of_mem hm))
  omega
theorem hi_uniq {l : List Int} {m : Int} (hm : m ∈ l) (h : ∀ x ∈ l, x ≤ m) : hi l = m := by
  have h1 := le_hi hm
  have h2 := h _ (hi_mem (List.length_pos_of_mem hm))
  omega
theorem lo_drop {l : List Int} (h : 0 < l.length) : (l.drop 1).foldl mn (rd l 0) = lo l := by
  have e := drop_rd l 0 h
  rw [List.drop_zero] at e
  have e2 : lo l = (rd l 0 :: l.drop 1).foldl mn (rd l 0) := by
    rw [← show l = rd l 0 :: l.drop 1 from e]
    rfl
  rw [e2, List.foldl_cons]
  have : mn (rd l 0) (rd l 0) = rd l 0 := by unfold mn; split <;> rfl
  rw [this]
theorem hi_drop {l : List Int} (h : 0 < l.length) : (l.drop 1).foldl mx (rd l 0) = hi l := by
  have e := drop_rd l 0 h
  rw [List.drop_zero] at e
  have e2 : hi l = (rd l 0 :: l.drop 1).foldl mx (rd l 0) := by
    rw [← show l = rd l 0 :: l.drop 1 from e]
    rfl
  rw [e2, List.foldl_cons]
  have : mx (rd l 0) (rd l 0) = rd l 0 := by unfold mx; split <;> rfl
  rw [this]
/-- half to even -/
def rat (a s : Int) : Int := if s ≤ 0 then 0 else if a % s > s - a % s then a / s + 1 else if a % s = s - a % s then (if a / s % 2 = 0 then a / s else a / s + 1) else a / s
theorem rat_parts {a s : Int} (ha : 0 ≤ a) (hs : 0 < s) : 0 ≤ a / s ∧ a / s ≤ a ∧ 0 ≤ a % s ∧ a % s < s ∧ a / s * s + a % s = a := by
  refine ⟨Int.ediv_nonneg ha (by omega), Int.ediv_le_self _ ha, Int.emod_nonneg _ (by omega), Int.emod_lt_of_pos _ hs, ?_⟩
  have := Int.mul_ediv_add_emod a s
  rw [Int.mul_comm] at this
  exact this
theorem rat_nonneg {a s : Int} (ha : 0 ≤ a) : 0 ≤ rat a s := by
  unfold rat
  by_cases hs : s ≤ 0
  · rw [if_pos hs]
    decide
  · rw [if_neg hs]
    have h := (rat_parts ha (by omega : 0 < s)).1
    repeat' split
    all_goals omega
theorem rat_le {a s n : Int} (ha : 0 ≤ a) (hs : 0 < s) (hn : a ≤ s * n) : rat a s ≤ n := by
  obtain ⟨h1, h2, h3, h4, h5⟩ := rat_parts ha hs
  unfold rat
  rw [if_neg (by omega)]
  have hq : a / s ≤ n := by
    by_cases h : a / s ≤ n
    · exact h
    · have h6 : (n + 1) * s ≤ a / s * s := Int.mul_le_mul_of_nonneg_right (by omega) (by omega)
      rw [Int.add_mul, Int.one_mul, Int.mul_comm n s] at h6
      omega
  by_cases he : a / s = n
  · rw [he, Int.mul_comm] at h5
    have : a % s = 0 := by omega
    rw [this, if_neg (by omega), if_neg (by omega)]
    omega
  · repeat' split
    all_goals omega
theorem rat_near {a s : Int} (ha : 0 ≤ a) (hs : 0 < s) : 2 * (rat a s * s - a) ≤ s ∧ 2 * (a - rat a s * s) ≤ s := by
  obtain ⟨h1, h2, h3, h4, h5⟩ := rat_parts ha hs
  have e : (a / s + 1) * s = a / s * s + s := by rw [Int.add_mul, Int.one_mul]
  unfold rat
  rw [if_neg (by omega)]
  repeat' split
  all_goals (try rw [e])
  all_goals omega
theorem and1 {q : Int} (h0 : 0 ≤ q) (h1 : q < 9223372036854775808) : Go.bits .and .i64 q 1 = q % 2 := by
  have hw : ∀ n : Int, 0 ≤ n → n < 2 ^ 63 → IntKind.i64.wrap n = n := fun n a b => by
    rw [IntKind.wrap_i64]
    have : (2 : Int) ^ 63 = 9223372036854775808 := by decide
    omega
  exact bits_mask .i64 63 (by decide) hw 1 (by decide) q h0 (by simpa using h1)
theorem Ratio_f {a s : Int} (ha : 0 ≤ a) (ha2 : a ≤ 8589934592) (hs : s ≤ 8589934592) : fix_Ratio.f a s = some (rat a s) := by
  unfold fix_Ratio.f rat
  by_cases h0 : s ≤ 0
  · rw [if_pos h0, if_pos h0]
  · obtain ⟨h1, h2, h3, h4, h5⟩ := rat_parts ha (by omega : 0 < s)
    rw [if_neg h0, if_neg h0, if_neg (by omega), tm_nonneg ha, td_nonneg ha]
    clear h5
    generalize a / s = q at *
    generalize a % s = r at *
    rw [if_neg (by omega), w64 (x := s - r) (by omega) (by omega), w64 (x := q) (by omega) (by omega), w64 (x := q + 1) (by omega) (by omega), and1 h1 (by omega)]
    repeat' split
    all_goals first | rfl | omega
/-! ### grouped -/
theorem Min_l (l : List Int) (hn : l.length < 1000000) : ∀ (d i : Nat) (m : Int), l.length - i = d → i ≤ l.length →
    Ev (fun k => slices_Min_int32_int32.l0 k l m (i : Int)) ((l.drop i).foldl mn m) := by
  intro d
  induction d with
  | zero =>
    intro i m hd hi
    obtain rfl : i = l.length := by omega
    refine Ev.step (fun k => by rw [slices_Min_int32_int32.l0, if_neg (by omega)]) ?_
    rw [List.drop_length]
    exact Ev.now _
  | succ d ih =>
    intro i m hd hi
    refine Ev.step (fun k => by rw [slices_Min_int32_int32.l0, if_pos (by omega), if_pos (by omega), wsucc _ (by omega)]) ?_
    rw [drop_rd l i (by omega)]
    exact ih (i + 1) _ (by omega) (by omega)
theorem Max_l (l : List Int) (hn : l.length < 1000000) : ∀ (d i : Nat) (m : Int), l.length - i = d → i ≤ l.length →
    Ev (fun k => slices_Max_int32_int32.l0 k l m (i : Int)) ((l.drop i).foldl mx m) := by
  intro d
  induction d with
  | zero =>
    intro i m hd hi
    obtain rfl : i = l.length := by omega
    refine Ev.step (fun k => by rw [slices_Max_int32_int32.l0, if_neg (by omega)]) ?_
    rw [List.drop_length]
    exact Ev.now _
  | succ d ih =>
    intro i m hd hi
    refine Ev.step (fun k => by rw [slices_Max_int32_int32.l0, if_pos (by omega), if_pos (by omega), wsucc _ (by omega)]) ?_
    rw [drop_rd l i (by omega)]
    exact ih (i + 1) _ (by omega) (by omega)
theorem Min_f (l : List Int) (h0 : 0 < l.length) (hn : l.length < 1000000) : Ev (fun k => slices_Min_int32_int32.f k l) (lo l) := by
  unfold slices_Min_int32_int32.f
  refine Ev.neg (by omega) (Ev.pos (by omega) ?_)
  rw [← lo_drop h0]
  exact Min_l l hn (l.length - 1) 1 _ (by omega) (by omega)
theorem Max_f (l : List Int) (h0 : 0 < l.length) (hn : l.length < 1000000) : Ev (fun k => slices_Max_int32_int32.f k l) (hi l) := by
  unfold slices_Max_int32_int32.f
  refine Ev.neg (by omega) (Ev.pos (by omega) ?_)
  rw [← hi_drop h0]
  exact Max_l l hn (l.length - 1) 1 _ (by omega) (by omega)
def okb (b : Int) : Bool := b == 2 || b == 4 || b == 8
theorem okb_iff {b : Int} : okb b = true ↔ b = 2 ∨ b = 4 ∨ b = 8 := by simp [okb, or_assoc]
theorem Bits_f (b : Int) : pack_Bits.f b = some (okb b) := by
  unfold pack_Bits.f okb
  by_cases h2 : b = 2
  · simp [h2]
  · by_cases h4 : b = 4
    · simp [h4]
    · simp [h2, h4]
/-- can so many numbers be grouped? -/
def many (n b : Int) : Int := if okb b = true then (if n = 0 then 14 else if n > 256 then 12 else 0) else 20
theorem many_f (n b : Int) : group_many.f n b = some (many n b) := by
  unfold group_many.f many
  rw [Bits_f, Option.bind_some]
  repeat' split
  all_goals rfl
theorem many_0 {n b : Int} (h : many n b = 0) : (b = 2 ∨ b = 4 ∨ b = 8) ∧ n ≠ 0 ∧ n ≤ 256 := by
  unfold many at h
  by_cases hb : okb b = true
  · rw [if_pos hb] at h
    refine ⟨okb_iff.1 hb, ?_⟩
    split at h
    · omega
    · split at h
      · omega
      · omega
  · rw [if_neg hb] at h
    omega
/-- the greatest code -/
def stp (b : Int) : Int := if b = 2 then 3 else if b = 4 then 15 else 255
theorem shl_stp {b : Int} (hb : b = 2 ∨ b = 4 ∨ b = 8) : wrap64 (shl .i64 1 b - 1) = stp b ∧ 0 ≤ b ∧ (stp b = 3 ∨ stp b = 15 ∨ stp b = 255) := by
  rcases hb with rfl | rfl | rfl
  · exact ⟨by decide +kernel, by decide, by decide⟩
  · exact ⟨by decide +kernel, by decide, by decide⟩
  · exact ⟨by decide +kernel, by decide, by decide⟩
def scl (l : List Int) (b : Int) : Int := (hi l - lo l + stp b - 1) / stp b
def codes (l : List Int) (b : Int) : List Int := l.map fun x => rat (x - lo l) (scl l b)
theorem set_mid (P R : List Int) (c x : Int) : (P ++ x :: R).set P.length c = (P ++ [c]) ++ R := by
  rw [List.set_append_right _ _ (Nat.le_refl _), Nat.sub_self, List.set_cons_zero, List.append_assoc]
  rfl
def I32 (l : List Int) : Prop := ∀ x ∈ l, -2147483648 ≤ x ∧ x < 2147483648
theorem wf_i32 {xs : List Int} (h : ∀ x ∈ xs, (Lit.int .i32 x).wf = true) : I32 xs := by
  intro x hx
  have := h x hx
  simp [Lit.wf, IntKind.min, IntKind.max, IntKind.bits, IntKind.signed] at this
  omega
theorem lohi {l : List Int} (h : I32 l) (h0 : 0 < l.length) : -2147483648 ≤ lo l ∧ lo l ≤ hi l ∧ hi l < 2147483648 := by
  have h1 := h _ (lo_mem h0)
  have h2 := h _ (hi_mem h0)
  have h3 := le_hi (lo_mem h0)
  omega
theorem scl_facts {l : List Int} {b : Int} (h : I32 l) (h0 : 0 < l.length) (hb : b = 2 ∨ b = 4 ∨ b = 8) :
    0 ≤ scl l b ∧ scl l b ≤ 1431655765 ∧ hi l - lo l ≤ scl l b * stp b ∧ (0 < scl l b → (scl l b - 1) * stp b < hi l - lo l) := by
  obtain ⟨h1, h2, h3⟩ := lohi h h0
  unfold scl
  generalize hi l = y at *
  generalize lo l = x at *
  rcases (shl_stp hb).2.2 with e | e | e <;> rw [e] <;> refine ⟨by omega, by omega, by omega, fun _ => by omega⟩
theorem Of_l (l : List Int) (h : I32 l) (hn : l.length ≤ 256) (m s z q : Int) (hm : ∀ x ∈ l, m ≤ x) (hm0 : -2147483648 ≤ m) (hs : s ≤ 4294967296) : ∀ (d i : Nat) (P : List Int), l.length - i = d → i ≤ l.length → P.length = i →
    Ev (fun k => group_Of.l0 k m s l (l.length : Int) (i : Int) z q (P ++ List.replicate (l.length - i) 0)) (z, q, P ++ (l.drop i).map (fun x => rat (x - m) s), 0) := by
  intro d
  induction d with
  | zero =>
    intro i P hd hi hP
    obtain rfl : i = l.length := by omega
    refine Ev.step (fun k => by rw [group_Of.l0, if_neg (by omega)]) ?_
    rw [List.drop_length, Nat.sub_self]
    exact Ev.now _
  | succ d ih =>
    intro i P hd hi hP
    have hmem := rd_mem l i (by omega)
    have h1 := h _ hmem
    have h2 := hm _ hmem
    have e : l.length - i = (l.length - (i + 1)) + 1 := by omega
    refine Ev.step (fun k => by rw [group_Of.l0, if_pos (by omega), if_pos (by omega), if_pos (by omega), w64 (x := rd l (i : Int)) (by omega) (by omega), w64 (x := rd l (i : Int) - m) (by omega) (by omega), Ratio_f (by omega) (by omega) (by omega), Option.bind_some, if_pos (by rw [List.length_append, List.length_replicate]; omega), wsucc _ (by omega), Int.toNat_natCast, e, List.replicate_succ, ← hP, set_mid, hP]) ?_
    have h3 := ih (i + 1) (P ++ [rat (rd l (i : Int) - m) s]) (by omega) (by omega) (by rw [List.length_append, hP]; rfl)
    rw [drop_rd l i (by omega), List.map_cons]
    simp only [List.append_assoc, List.singleton_append] at h3 ⊢
    exact h3
theorem Of_f (l : List Int) (b : Int) (h : I32 l) (h0 : many (l.length : Int) b = 0) : Ev (fun k => group_Of.f k l b) (lo l, scl l b, codes l b, 0) := by
  obtain ⟨hb, hne, hle⟩ := many_0 h0
  have hpos : 0 < l.length := by omega
  obtain ⟨l1, l2, l3⟩ := lohi h hpos
  obtain ⟨s1, s2, s3, s4⟩ := scl_facts h hpos hb
  obtain ⟨b1, b2, b3⟩ := shl_stp hb
  unfold group_Of.f
  simp only [many_f, Option.bind_some]
  refine Ev.pos h0 ?_
  refine Ev.bind (Min_f l hpos (by omega)) (Ev.bind (Max_f l hpos (by omega)) ?_)
  rw [b1]
  have e : Int.tdiv (wrap64 (wrap64 (wrap64 (wrap64 (hi l) - wrap64 (lo l)) + stp b) - 1)) (stp b) = scl l b := by
    rw [w64 (x := hi l) (by omega) (by omega), w64 (x := lo l) (by omega) (by omega), w64 (x := hi l - lo l) (by omega) (by omega), w64 (x := hi l - lo l + stp b) (by omega) (by omega), w64 (by omega) (by omega), td_nonneg (by omega)]
    rfl
  refine Ev.pos b2 (Ev.neg (by omega) (Ev.pos (by omega) (Ev.pos (by omega) ?_)))
  rw [e, w64 (x := lo l) (by omega) (by omega), w64 (x := scl l b) (by omega) (by omega), show wrap32 (lo l) = lo l by unfold wrap32; omega, show scl l b % 4294967296 = scl l b by omega, Int.toNat_natCast]
  have h5 := Of_l l h (by omega) (lo l) (scl l b) (lo l) (scl l b) (fun x hx => lo_le hx) (by omega) (by omega) l.length 0 [] (by omega) (by omega) rfl
  rw [Nat.sub_zero, List.nil_append, List.nil_append, List.drop_zero] at h5
  exact h5
theorem Of_no (l : List Int) (b : Int) (h0 : many (l.length : Int) b ≠ 0) : Ev (fun k => group_Of.f k l b) (0, 0, [], many (l.length : Int) b) := by
  unfold group_Of.f
  simp only [many_f, Option.bind_some]
  exact Ev.neg h0 (Ev.now _)
/-- what a code means -/
def one (z s c : Int) : Int := wrap32 (mn (mx (wrap64 (wrap64 z + wrap64 (c * wrap64 s))) (-2147483648)) 2147483647)
theorem One_f (z s : Int) (l : List Int) (c : Int) : group_One.f z s l c = some (one z s c) := rfl
theorem Back_l (l : List Int) (hn : l.length ≤ 1000) (z s : Int) (m : List Int) : ∀ (d i : Nat) (P : List Int), l.length - i = d → i ≤ l.length → P.length = i →
    Ev (fun k => group_Back.l0 k (P ++ List.replicate (l.length - i) 0) l (l.length : Int) (i : Int) z s m) (P ++ (l.drop i).map (one z s)) := by
  intro d
  induction d with
  | zero =>
    intro i P hd hi hP
    obtain rfl : i = l.length := by omega
    refine Ev.step (fun k => by rw [group_Back.l0, if_neg (by omega)]) ?_
    rw [List.drop_length, Nat.sub_self]
    exact Ev.now _
  | succ d ih =>
    intro i P hd hi hP
    have e : l.length - i = (l.length - (i + 1)) + 1 := by omega
    refine Ev.step (fun k => by rw [group_Back.l0, if_pos (by omega), if_pos (by omega), if_pos (by omega), One_f, Option.bind_some, if_pos (by rw [List.length_append, List.length_replicate]; omega), wsucc _ (by omega), Int.toNat_natCast, e, List.replicate_succ, ← hP, set_mid, hP]) ?_
    have h3 := ih (i + 1) (P ++ [one z s (rd l (i : Int))]) (by omega) (by omega) (by rw [List.length_append, hP]; rfl)
    rw [drop_rd l i (by omega), List.map_cons]
    simp only [List.append_assoc, List.singleton_append] at h3 ⊢
    exact h3
theorem Back_f (z s : Int) (l : List Int) (hn : l.length ≤ 1000) : Ev (fun k => group_Back.f k z s l) (l.map (one z s)) := by
  unfold group_Back.f
  refine Ev.pos (by omega) (Ev.pos (by omega) ?_)
  rw [Int.toNat_natCast]
  have h5 := Back_l l hn z s l l.length 0 [] (by omega) (by omega) rfl
  rw [Nat.sub_zero, List.nil_append, List.nil_append, List.drop_zero] at h5
  exact h5
theorem rSame3_l (l m : List Int) (hlm : l.length = m.length) (hn : l.length < 1000000) : ∀ (d i : Nat), l.length - i = d → i ≤ l.length →
    Ev (fun k => credenzaref03_Same.l0 k l m (i : Int)) (decide (l.drop i = m.drop i)) := by
  intro d
  induction d with
  | zero =>
    intro i hd hi
    obtain rfl : i = l.length := by omega
    refine Ev.step (fun k => by rw [credenzaref03_Same.l0, if_neg (by omega)]) ?_
    rw [List.drop_length, hlm, List.drop_length]
    exact Ev.now _
  | succ d ih =>
    intro i hd hi
    refine Ev.step (fun k => by rw [credenzaref03_Same.l0, if_pos (by omega), if_pos (by omega), if_pos (by omega), wsucc _ (by omega)]) ?_
    rw [drop_rd l i (by omega), drop_rd m i (by omega)]
    refine Ev.ite (fun h => ?_) (fun h => ?_)
    · rw [cons_dec h]
      exact ih (i + 1) (by omega) (by omega)
    · rw [cons_ne h]
      exact Ev.now _
theorem rSame3_f (l m : List Int) (hn : l.length < 1000000) : Ev (fun k => credenzaref03_Same.f k l m) (decide (l = m)) := by
  unfold credenzaref03_Same.f
  refine Ev.ite (fun h => ?_) (fun h => ?_)
  · have := rSame3_l l m (by omega) hn l.length 0 (by omega) (by omega)
    rw [List.drop_zero, List.drop_zero] at this
    exact this
  · rw [decide_eq_false (by rintro rfl; exact h rfl)]
    exact Ev.now _
theorem one_plain {z s c : Int} (hz : -2147483648 ≤ z) (hz2 : z < 2147483648) (hs : 0 ≤ s) (hs2 : s ≤ 4294967296) (hc : 0 ≤ c * s) (hc2 : c * s ≤ 17179869184) :
    one z s c = if z + c * s > 2147483647 then 2147483647 else z + c * s := by
  unfold one mn mx
  rw [w64 (x := z) (by omega) (by omega), w64 (x := s) (by omega) (by omega), w64 (x := c * s) (by omega) (by omega), w64 (x := z + c * s) (by omega) (by omega)]
  generalize c * s = p at *
  unfold wrap32
  repeat' split
  all_goals omega
theorem near {m v s t : Int} (h1 : -2147483648 ≤ m) (h2 : m ≤ v) (h3 : v < 2147483648) (hs : 0 ≤ s) (hs2 : s ≤ 1431655765) (ht : v - m ≤ s * t) :
    2 * (one m s (rat (v - m) s) - v) ≤ s ∧ 2 * (v - one m s (rat (v - m) s)) ≤ s ∧ (v = m → one m s (rat (v - m) s) = v) ∧ -2147483648 ≤ one m s (rat (v - m) s) ∧ one m s (rat (v - m) s) < 2147483648 := by
  rcases Int.lt_or_eq_of_le hs with h0 | h0
  · obtain ⟨n1, n2⟩ := rat_near (a := v - m) (by omega) h0
    have n0 : 0 ≤ rat (v - m) s * s := Int.mul_nonneg (rat_nonneg (by omega)) hs
    have e0 : v = m → rat (v - m) s = 0 := by
      rintro rfl
      unfold rat
      rw [if_neg (by omega), Int.sub_self, Int.zero_emod, if_neg (by omega), if_neg (by omega), Int.zero_ediv]
    have e1 : v = m → rat (v - m) s * s = 0 := fun h => by rw [e0 h, Int.zero_mul]
    rw [one_plain h1 (by omega) hs (by omega) n0 (by omega)]
    clear e0 ht
    generalize rat (v - m) s * s = p at *
    split
    all_goals refine ⟨by omega, by omega, fun h => ?_, by omega, by omega⟩
    all_goals have := e1 h
    all_goals omega
  · subst h0
    rw [Int.zero_mul] at ht
    obtain rfl : v = m := by omega
    have e : rat (v - v) 0 = 0 := rfl
    rw [e, one_plain h1 (by omega) (by omega) (by omega) (by omega) (by omega)]
    split
    all_goals refine ⟨by omega, by omega, fun h => by omega, by omega, by omega⟩
theorem one_ge {m v s : Int} (h1 : -2147483648 ≤ m) (h2 : m ≤ v) (h3 : v < 2147483648) (hs : 0 ≤ s) (hs2 : s ≤ 1431655765) :
    m ≤ one m s (rat (v - m) s) := by
  rcases Int.lt_or_eq_of_le hs with h0 | h0
  · obtain ⟨n1, n2⟩ := rat_near (a := v - m) (by omega) h0
    have n0 : 0 ≤ rat (v - m) s * s := Int.mul_nonneg (rat_nonneg (by omega)) hs
    rw [one_plain h1 (by omega) hs (by omega) n0 (by omega)]
    generalize rat (v - m) s * s = p at *
    split <;> omega
  · subst h0
    rw [show rat (v - m) 0 = 0 from rfl, one_plain h1 (by omega) (by omega) (by omega) (by omega) (by omega)]
    split <;> omega
theorem rep_snoc (n : Nat) (v : Int) : List.replicate n v ++ [v] = List.replicate (n + 1) v := by
  rw [List.replicate_succ']
theorem lo_rep {n : Nat} (v : Int) (h : 0 < n) : lo (List.replicate n v) = v :=
  lo_uniq (List.mem_replicate.2 ⟨by omega, rfl⟩) (fun x hx => by rw [(List.mem_replicate.1 hx).2]; exact Int.le_refl _)
theorem hi_rep {n : Nat} (v : Int) (h : 0 < n) : hi (List.replicate n v) = v :=
  hi_uniq (List.mem_replicate.2 ⟨by omega, rfl⟩) (fun x hx => by rw [(List.mem_replicate.1 hx).2]; exact Int.le_refl _)
theorem scl_rep {n : Nat} (v b : Int) (h : 0 < n) (hb : b = 2 ∨ b = 4 ∨ b = 8) : scl (List.replicate n v) b = 0 := by
  unfold scl
  rw [lo_rep v h, hi_rep v h]
  rcases (shl_stp hb).2.2 with e | e | e <;> rw [e] <;> omega
theorem codes_rep {n : Nat} (v b : Int) (h : 0 < n) (hb : b = 2 ∨ b = 4 ∨ b = 8) : codes (List.replicate n v) b = List.replicate n 0 := by
  unfold codes
  rw [scl_rep v b h hb, List.map_replicate]
  rfl
theorem GroupFlat_one (v w : Int) (hv : -2147483648 ≤ v ∧ v < 2147483648) (hw : -2147483648 ≤ w ∧ w < 2147483648) (n : Nat) (h0 : 0 < n) (hn : n ≤ 256) (L : List Int) (i : Int) (b : Int) (hb : b = 2 ∨ b = 4 ∨ b = 8) (hrd : rd L i = b) (hi0 : 0 ≤ i) (hi1 : i < (L.length : Int))
    (ih : Ev (fun k => credenzalaw07_GroupFlat.l1 k v w (List.replicate n v) L (L.length : Int) (wrap64 (i + 1))) true) :
    Ev (fun k => credenzalaw07_GroupFlat.l1 k v w (List.replicate n v) L (L.length : Int) i) true := by
  refine Ev.step (fun k => by rw [credenzalaw07_GroupFlat.l1, if_pos hi1, if_pos hi0, if_pos hi1, hrd]) ?_
  have hI : I32 (List.replicate n v) := fun x hx => by rw [(List.mem_replicate.1 hx).2]; exact hv
  have hI2 : I32 [v, w] := by
    intro x hx
    rcases List.mem_cons.1 hx with rfl | hx
    · exact hv
    · rw [List.mem_singleton] at hx
      subst hx
      exact hw
  have hokb : okb b = true := okb_iff.2 hb
  have hm : many ((List.replicate n v).length : Int) b = 0 := by
    unfold many
    rw [List.length_replicate, if_pos hokb, if_neg (by omega), if_neg (by omega)]
  have hm2 : many (([v, w] : List Int).length : Int) b = 0 := by
    unfold many
    rw [if_pos hokb, if_neg (by simp), if_neg (by simp)]
  have h1 := Of_f _ b hI hm
  rw [lo_rep v h0, scl_rep v b h0 hb, codes_rep v b h0 hb] at h1
  refine Ev.bind h1 (Ev.bind (Of_f [v, w] b hI2 hm2) ?_)
  refine Ev.bind (Back_f (lo [v, w]) (scl [v, w] b) (codes [v, w] b) (by rw [codes, List.length_map]; simp)) ?_
  refine Ev.pos rfl (Ev.pos rfl ?_)
  refine Ev.bind (Back_f v 0 (List.replicate n 0) (by rw [List.length_replicate]; omega)) ?_
  refine Ev.bind (rSame3_f ((List.replicate n 0).map (one v 0)) (List.replicate n v) (by rw [List.length_map, List.length_replicate]; omega)) (Ev.pos ?_ ?_)
  · rw [List.map_replicate, one_plain hv.1 hv.2 (by decide) (by decide) (by decide) (by decide), if_neg (by omega), Int.zero_mul, Int.add_zero]
    simp
  · obtain ⟨l1, l2, l3⟩ := lohi hI2 (by simp)
    obtain ⟨s1, s2, s3, s4⟩ := scl_facts hI2 (by simp) hb
    refine Ev.pos rfl (Ev.pos rfl (Ev.pos (by simp [codes]) (Ev.pos (by simp [codes]) (Ev.pos ?_ ih))))
    show mn (one (lo [v, w]) (scl [v, w] b) (rat (v - lo [v, w]) (scl [v, w] b))) (one (lo [v, w]) (scl [v, w] b) (rat (w - lo [v, w]) (scl [v, w] b))) = mn v w
    have mv : v ∈ [v, w] := List.mem_cons_self ..
    have mw : w ∈ [v, w] := List.mem_cons_of_mem _ (List.mem_cons_self ..)
    have lv := lo_le mv
    have lw := lo_le mw
    have hv2 := le_hi mv
    have hw2 := le_hi mw
    have hmem : lo [v, w] = v ∨ lo [v, w] = w := by
      have := lo_mem (l := [v, w]) (by simp)
      simpa using this
    have gv := one_ge l1 lv hv.2 s1 s2
    have gw := one_ge l1 lw hw.2 s1 s2
    have nv := (near l1 lv hv.2 s1 s2 (t := stp b) (by omega)).2.2.1
    have nw := (near l1 lw hw.2 s1 s2 (t := stp b) (by omega)).2.2.1
    clear s3 s4 h1
    generalize scl [v, w] b = s at *
    generalize lo [v, w] = m at *
    unfold mn
    rcases hmem with e | e
    · have := nv e.symm
      repeat' split
      all_goals omega
    · have := nw e.symm
      repeat' split
      all_goals omega
theorem GroupFlat_l0 (v w : Int) (hv : -2147483648 ≤ v ∧ v < 2147483648) (hw : -2147483648 ≤ w ∧ w < 2147483648) (n : Nat) (h0 : 0 < n) (hn : n ≤ 256) : ∀ (d i : Nat), n - i = d → i ≤ n →
    Ev (fun k => credenzalaw07_GroupFlat.l0 k v w (List.replicate i v) (n : Int) (i : Int)) true := by
  intro d
  induction d with
  | zero =>
    intro i hd hi
    obtain rfl : i = n := by omega
    refine Ev.step (fun k => by rw [credenzalaw07_GroupFlat.l0, if_neg (by omega)]) ?_
    refine Ev.sb ?_
    have h3 : Ev (fun k => credenzalaw07_GroupFlat.l1 k v w (List.replicate i v) [2, 4, 8] (([2, 4, 8] : List Int).length : Int) (wrap64 (2 + 1))) true := by
      rw [show wrap64 (2 + 1) = 3 by decide +kernel]
      refine Ev.step (fun k => by rw [credenzalaw07_GroupFlat.l1, if_neg (by decide)]) ?_
      exact Ev.bind awake_f (Ev.now _)
    have h2 := GroupFlat_one v w hv hw i h0 hn [2, 4, 8] 2 8 (by omega) rfl (by decide) (by decide) h3
    have h1 := GroupFlat_one v w hv hw i h0 hn [2, 4, 8] 1 4 (by omega) rfl (by decide) (by decide) (by rw [show wrap64 (1 + 1) = 2 by decide +kernel]; exact h2)
    exact GroupFlat_one v w hv hw i h0 hn [2, 4, 8] 0 2 (by omega) rfl (by decide) (by decide) (by rw [show wrap64 (0 + 1) = 1 by decide +kernel]; exact h1)
  | succ d ih =>
    intro i hd hi
    refine Ev.step (fun k => by rw [credenzalaw07_GroupFlat.l0, if_pos (by omega), if_pos (by rw [List.length_replicate]; omega), rep_snoc, wsucc _ (by omega)]) ?_
    exact ih (i + 1) (by omega) (by omega)
theorem GroupFlat : credenzalaw07_GroupFlat.Pure := by
  intro v w n hv hw hn
  have hv := wf_i32 (xs := [v]) (fun x hx => by rw [List.mem_singleton] at hx; subst hx; exact hv) v (List.mem_cons_self ..)
  have hw := wf_i32 (xs := [w]) (fun x hx => by rw [List.mem_singleton] at hx; subst hx; exact hw) w (List.mem_cons_self ..)
  refine Ev.rounds ?_
  have hawake : Ev (fun k => credenzalaw07_GroupFlat.j0 k v w n true) true := by
    refine Ev.step (fun k => by rw [credenzalaw07_GroupFlat.j0, if_pos rfl]) ?_
    exact Ev.bind awake_f (Ev.now _)
  unfold credenzalaw07_GroupFlat.f
  refine Ev.ite (fun _ => hawake) (fun h1 => ?_)
  by_cases h2 : n > 256
  · rw [decide_eq_true h2]
    exact hawake
  · rw [decide_eq_false h2]
    obtain ⟨n, rfl⟩ : ∃ q : Nat, n = (q : Int) := ⟨n.toNat, by omega⟩
    refine Ev.step (fun k => by rw [credenzalaw07_GroupFlat.j0, if_neg (by decide)]) ?_
    exact GroupFlat_l0 v w hv hw n (by omega) (by omega) n 0 (by omega) (by omega)

end Go.Proofs.Ytggoddiiglkpiaa.Pure
