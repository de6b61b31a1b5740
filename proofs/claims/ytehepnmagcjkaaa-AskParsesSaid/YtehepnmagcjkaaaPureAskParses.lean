/- Any bytes are an ask's or refused, as the document says; what is read has just these bytes. No condition beyond the statement's own guards. -/
import Derived.Test.YtehepnmagcjkaaaPAskParsesx
namespace Go.Proofs.Ytehepnmagcjkaaa.Pure
open Go.RowKit Go.Proofs.Ytehepnmagcjkaaa.PAskParses Go.Proofs.YtehepnmagcjkaaaW.PrintWords Go.Proofs.YtehepnmagcjkaaaW.PrintLast Go.Proofs.YtehepnmagcjkaaaW.PrintMore
set_option linter.unusedVariables false
set_option linter.unusedSimpArgs false
theorem Ev.pos {α : Type} {c : Prop} [Decidable c] {X Y : Nat → Option α} {r : α} (h : c) (k : Ev X r) : Ev (fun n => if c then X n else Y n) r := by
  obtain ⟨K, k⟩ := k
  exact ⟨K, fun n hn => (if_pos h).trans (k n hn)⟩
theorem Ev.neg {α : Type} {c : Prop} [Decidable c] {X Y : Nat → Option α} {r : α} (h : ¬ c) (k : Ev Y r) : Ev (fun n => if c then X n else Y n) r := by
  obtain ⟨K, k⟩ := k
  exact ⟨K, fun n hn => (if_neg h).trans (k n hn)⟩
theorem Ev.sb {α β : Type} {f : Nat → α → Option β} {a : α} {r : β} (k : Ev (fun n => f n a) r) : Ev (fun n => (some a).bind (f n)) r := k
theorem Ev.eq {α : Type} {g : Nat → Option α} {r s : α} (k : Ev g r) (h : r = s) : Ev g s := h ▸ k
theorem Ev.one {α : Type} {g h : Nat → Option α} {r : α} (hg : Ev g r) (hh : ∀ n, g n = h n) : Ev h r := Ev.congr (fun n => (hh n).symm) hg
/-- A test, either way. -/
theorem Ev.ite {α : Type} {c : Prop} [Decidable c] {X Y : Nat → Option α} {r : α} (h : c → Ev X r) (k : ¬ c → Ev Y r) : Ev (fun n => if c then X n else Y n) r := by
  by_cases hc : c
  · exact Ev.pos hc (h hc)
  · exact Ev.neg hc (k hc)
theorem w64 {x : Int} (h0 : -9223372036854775808 ≤ x) (h1 : x ≤ 9223372036854775807) : wrap64 x = x := by unfold wrap64; omega
theorem wu64 {x : Int} (h0 : 0 ≤ x) (h1 : x < 18446744073709551616) : IntKind.u64.wrap x = x := by
  simp [IntKind.wrap, IntKind.bits, IntKind.signed]
  omega
theorem wn (x : Nat) (h : x < 9223372036854775808) : wrap64 (x : Int) = (x : Int) := w64 (by omega) (by omega)
theorem wadd (x y : Nat) (h : x + y < 9223372036854775808) : wrap64 ((x : Int) + (y : Int)) = ((x + y : Nat) : Int) := by
  rw [← Int.natCast_add]
  exact wn _ h
theorem wsucc (x : Nat) (h : x + 1 < 9223372036854775808) : wrap64 ((x : Int) + 1) = ((x + 1 : Nat) : Int) := wadd x 1 h
theorem wun (x : Nat) (h : x < 18446744073709551616) : IntKind.u64.wrap (x : Int) = (x : Int) := wu64 (by omega) (by omega)
def up (W : List Nat) : List Int := W.map fun (n : Nat) => (n : Int)
theorem up_length (W : List Nat) : (up W).length = W.length := by simp [up]
theorem up_app (a b : List Nat) : up (a ++ b) = up a ++ up b := by simp [up]
theorem up_take (a : List Nat) (n : Nat) : (up a).take n = up (a.take n) := by simp [up, List.map_take]
theorem up_drop (a : List Nat) (n : Nat) : (up a).drop n = up (a.drop n) := by simp [up, List.map_drop]
theorem up_one (x : Nat) : up [x] = [(x : Int)] := rfl
theorem rd_up (W : List Nat) (j : Nat) : rd (up W) (j : Int) = ((W.getD j 0 : Nat) : Int) := by
  unfold rd up
  rw [Int.toNat_natCast, List.getD_eq_getElem?_getD, List.getD_eq_getElem?_getD, List.getElem?_map]
  cases W[j]? <;> rfl
theorem up_of (xs : List Int) (h : ∀ x ∈ xs, 0 ≤ x) : xs = up (xs.map Int.toNat) := by
  induction xs with
  | nil => rfl
  | cons x xs ih =>
    have h1 : ∀ y ∈ xs, 0 ≤ y := fun y hy => h y (List.mem_cons_of_mem _ hy)
    have h2 : 0 ≤ x := h x (List.mem_cons_self ..)
    rw [List.map_cons]
    show x :: xs = ((x.toNat : Nat) : Int) :: up (xs.map Int.toNat)
    rw [← ih h1, Int.toNat_of_nonneg h2]
def Bys (l : List Nat) : Prop := ∀ x ∈ l, x < 256
theorem Bys.app {a b : List Nat} (ha : Bys a) (hb : Bys b) : Bys (a ++ b) := by
  intro x hx
  rcases List.mem_append.1 hx with h | h
  · exact ha x h
  · exact hb x h
theorem Bys.take {a : List Nat} (ha : Bys a) (n : Nat) : Bys (a.take n) := fun x hx => ha x (List.mem_of_mem_take hx)
theorem Bys.drop {a : List Nat} (ha : Bys a) (n : Nat) : Bys (a.drop n) := fun x hx => ha x (List.mem_of_mem_drop hx)
theorem Bys.getD {a : List Nat} (ha : Bys a) (n : Nat) : a.getD n 0 < 256 := by
  rw [List.getD_eq_getElem?_getD]
  by_cases h : n < a.length
  · rw [List.getElem?_eq_getElem h]
    exact ha _ (List.getElem_mem h)
  · rw [List.getElem?_eq_none (by omega)]
    decide
theorem wf_bys {xs : List Int} (h : ∀ x ∈ xs, (Lit.int .u8 x).wf = true) : ∃ l, Bys l ∧ xs = up l := by
  have h' : ∀ x ∈ xs, 0 ≤ x ∧ x < 256 := by
    intro x hx
    have := h x hx
    simp [Lit.wf, IntKind.min, IntKind.max, IntKind.bits, IntKind.signed] at this
    omega
  refine ⟨xs.map Int.toNat, ?_, up_of xs (fun x hx => (h' x hx).1)⟩
  intro y hy
  obtain ⟨x, hx, rfl⟩ := List.mem_map.1 hy
  have := h' x hx
  omega
/-- the text of bytes -/
def B (l : List Nat) : ByteArray := strOfNums (up l)
theorem B_size (l : List Nat) : (B l).size = l.length := by rw [B, strOfNums_size, up_length]
theorem B_list (l : List Nat) : (B l).data.toList = l.map UInt8.ofNat := by
  rw [B, strOfNums_data, up, List.map_map]
  rfl
theorem ba_ext {a b : ByteArray} (h : a.data.toList = b.data.toList) : a = b := by
  cases a; cases b
  simp only at h
  congr 1
  exact Array.toList_inj.1 h
theorem bt_B {l : List Nat} (hl : Bys l) (j : Nat) (hj : j < l.length) : bt (B l) (j : Int) = ((l.getD j 0 : Nat) : Int) := by
  unfold bt
  rw [dif_pos (by rw [Int.toNat_natCast, B_size]; exact hj)]
  have hx := hl.getD j
  have e : ∀ h, ((B l)[(j : Int).toNat]'h) = UInt8.ofNat (l.getD j 0) := by
    intro h
    have : (B l).data.toList[j]? = some (UInt8.ofNat (l.getD j 0)) := by
      rw [B_list, List.getElem?_map, List.getD_eq_getElem?_getD, List.getElem?_eq_getElem hj]
      rfl
    show (B l).data[(j : Int).toNat] = _
    have h3 : (B l).data[j]? = some (UInt8.ofNat (l.getD j 0)) := by rw [← Array.getElem?_toList]; exact this
    have h4 := (Array.getElem?_eq_some_iff.1 h3).2
    exact h4
  rw [e, UInt8.toNat_ofNat', Nat.mod_eq_of_lt (by omega)]
/-- n bytes of v, the highest first -/
def be : Nat → Nat → List Nat
  | 0, _ => []
  | n + 1, v => be n (v / 256) ++ [v % 256]
theorem be_length : ∀ n v, (be n v).length = n
  | 0, _ => rfl
  | n + 1, v => by rw [be, List.length_append, be_length n]; rfl
theorem be_bys : ∀ n v, Bys (be n v)
  | 0, _ => fun x hx => by simp [be] at hx
  | n + 1, v => (be_bys n _).app (fun x hx => by
      rw [List.mem_singleton] at hx
      subst hx
      exact Nat.mod_lt _ (by decide))
theorem be_head : ∀ n v, be (n + 1) v = (v / 256 ^ n % 256) :: be n v
  | 0, v => by simp [be]
  | n + 1, v => by
    rw [be, be_head n (v / 256), be, Nat.div_div_eq_div_mul, Nat.pow_succ, Nat.mul_comm 256]
    rfl
theorem drop_getD (l : List Nat) (i : Nat) (h : i < l.length) : l.drop i = l.getD i 0 :: l.drop (i + 1) := by
  rw [List.drop_eq_getElem_cons h, List.getD_eq_getElem?_getD, List.getElem?_eq_getElem h]
  rfl
theorem shr_u64 (x s : Nat) (hs : s ≤ 64) : shr .u64 (x : Int) (s : Int) = ((x / 2 ^ s : Nat) : Int) := by
  unfold shr
  rw [Int.toNat_natCast, Nat.min_eq_left (show s ≤ IntKind.u64.bits from hs)]
  simp
theorem two8 (i : Nat) : 2 ^ (8 * i) = 256 ^ i := by rw [Nat.pow_mul]
theorem Put_l (v : Nat) : ∀ (n : Nat) (l : List Nat), n ≤ 8 → l.length + n < 1000000 →
    Ev (fun k => seal_Put.l0 k (v : Int) (up l) ((n : Int) - 1)) (up (l ++ be n v)) := by
  intro n
  induction n with
  | zero =>
    intro l hn hl
    refine Ev.step (fun k => by rw [seal_Put.l0, if_neg (by omega)]) ?_
    rw [be, List.append_nil]
    exact Ev.now _
  | succ n ih =>
    intro l hn hl
    have e1 : (((n + 1 : Nat) : Int) - 1) = (n : Int) := by omega
    have e2 : wrap64 (8 * (n : Int)) = ((8 * n : Nat) : Int) := by
      rw [w64 (by omega) (by omega)]
      omega
    have e3 : wrap64 ((n : Int) - 1) = (n : Int) - 1 := w64 (by omega) (by omega)
    have e4 : shr .u64 (v : Int) ((8 * n : Nat) : Int) % 256 = ((v / 256 ^ n % 256 : Nat) : Int) := by
      rw [shr_u64 _ _ (by omega), two8]
      omega
    refine Ev.step (fun k => by rw [seal_Put.l0, e1, if_pos (by omega), e2, if_pos (by omega), if_pos (by rw [up_length]; omega), e3, e4, ← up_one, ← up_app]) ?_
    have h := ih (l ++ [v / 256 ^ n % 256]) (by omega) (by
      rw [List.length_append, List.length_singleton]
      omega)
    rw [be_head]
    rwa [List.append_assoc] at h
theorem Clone_f (l : List Nat) (hl : l.length < 1000000) : slices_Clone_byte_byte.f (up l) = some (up l) := by
  unfold slices_Clone_byte_byte.f
  rw [if_pos (by rw [up_length]; omega)]
theorem bClone_f (l : List Nat) (hl : l.length < 1000000) : bytes_Clone.f (up l) = some (up l) := by
  unfold bytes_Clone.f
  rw [if_pos (by rw [up_length]; omega)]
def wide (n : Int) : Nat := min n.toNat 8
theorem wide_f (n : Int) : seal_wide.f n = some ((wide n : Nat) : Int) := by
  unfold seal_wide.f wide mn mx
  congr 1
  repeat' split
  all_goals omega
theorem Put_f (l : List Nat) (v : Nat) (n : Int) (hl : l.length < 900000) : Ev (fun k => seal_Put.f k (up l) (v : Int) n) (up (l ++ be (wide n) v)) := by
  have hw : wide n ≤ 8 := Nat.min_le_right _ _
  unfold seal_Put.f
  simp only [Clone_f l (by omega), wide_f, Option.bind_some]
  rw [w64 (by omega) (by omega)]
  exact Put_l v _ l hw (by omega)
def nstep (v c : Nat) : Nat := v * 256 + c
def nm (v : Nat) (l : List Nat) : Nat := l.foldl nstep v
theorem nm_lt : ∀ (l : List Nat) (v j : Nat), Bys l → v < 256 ^ j → nm v l < 256 ^ (j + l.length)
  | [], v, j, _, h => h
  | c :: l, v, j, hl, h => by
    have hc := hl c (List.mem_cons_self ..)
    have h1 : nstep v c < 256 ^ (j + 1) := by
      unfold nstep
      rw [Nat.pow_succ]
      omega
    have := nm_lt l (nstep v c) (j + 1) (fun x hx => hl x (List.mem_cons_of_mem _ hx)) h1
    rw [List.length_cons, show j + (l.length + 1) = j + 1 + l.length by omega]
    exact this
theorem nm_app (a b : List Nat) (v : Nat) : nm v (a ++ b) = nm (nm v a) b := by unfold nm; rw [List.foldl_append]
theorem nm_be : ∀ n v, nm 0 (be n v) = v % 256 ^ n
  | 0, v => by rw [Nat.pow_zero, Nat.mod_one]; rfl
  | n + 1, v => by
    rw [be, nm_app, nm_be n]
    show nstep _ _ = _
    unfold nstep
    rw [Nat.pow_succ, Nat.mul_comm (256 ^ n), Nat.mod_mul]
    omega
theorem p8 : (256 : Nat) ^ 8 = 18446744073709551616 := by decide
theorem pow_le7 {j : Nat} (h : j ≤ 7) : 256 ^ j ≤ 72057594037927936 := by
  have : (256 : Nat) ^ 7 = 72057594037927936 := by decide
  rw [← this]
  exact Nat.pow_le_pow_right (by decide) h
theorem or_byte {v c : Nat} (hv : v < 72057594037927936) (hc : c < 256) : Go.bits .or .u64 (IntKind.u64.wrap ((v : Int) * 256)) (IntKind.u64.wrap (c : Int)) = ((nstep v c : Nat) : Int) := by
  rw [wu64 (x := (v : Int) * 256) (by omega) (by omega), wun c (by omega), show (v : Int) * 256 = ((v * 256 : Nat) : Int) by omega]
  have hb := (bits_nat .u64 64 (by decide) (fun n h0 h1 => wu64 h0 (by simpa using h1)) (v * 256) c (by simp; omega) (by simp; omega)).2
  rw [hb]
  unfold nstep
  have := Nat.two_pow_add_eq_or_of_lt (i := 8) (by simpa using hc) v
  rw [show 2 ^ 8 * v = v * 256 by omega] at this
  rw [this]
theorem Num_l (l : List Nat) (hl : Bys l) (hn : l.length ≤ 8) (s : List Int) (b : Bool) : ∀ (d i v : Nat), l.length - i = d → i ≤ l.length → v < 256 ^ i →
    Ev (fun k => seal_Reader_Num.l0 k (v : Int) (up l) (l.length : Int) (i : Int) s b) (((nm v (l.drop i) : Nat) : Int), s, b) := by
  intro d
  induction d with
  | zero =>
    intro i v hd hi hv
    obtain rfl : i = l.length := by omega
    refine Ev.step (fun k => by rw [seal_Reader_Num.l0, if_neg (by omega)]) ?_
    rw [List.drop_length]
    exact Ev.now _
  | succ d ih =>
    intro i v hd hi hv
    have h7 := pow_le7 (j := i) (by omega)
    have hc := hl.getD i
    refine Ev.step (fun k => by rw [seal_Reader_Num.l0, if_pos (by omega), if_pos (by omega), if_pos (by rw [up_length]; omega), rd_up, or_byte (Nat.lt_of_lt_of_le hv h7) hc, wsucc _ (by omega)]) ?_
    rw [drop_getD l i (by omega)]
    refine ih (i + 1) _ (by omega) (by omega) ?_
    unfold nstep
    rw [Nat.pow_succ]
    clear ih h7
    omega
/-- a reader's state: what is left, and whether it was short -/
theorem Take_f (l : List Nat) (b : Bool) (n : Nat) (hn : l.length < 1000000) :
    seal_Reader_Take.f (up l) b (n : Int) = if l.length < n then some (up [], up [], true) else some (up (l.take n), up (l.drop n), b) := by
  unfold seal_Reader_Take.f
  rw [up_length]
  by_cases h : l.length < n
  · rw [if_pos h, if_pos (by omega)]
    rfl
  · rw [if_neg h, if_neg (by omega), Int.toNat_natCast, up_take, up_drop, bClone_f _ (by rw [List.length_take]; omega), Option.bind_some]
theorem Num_f (l : List Nat) (hl : Bys l) (b : Bool) (n : Int) (hn : l.length < 1000000) :
    Ev (fun k => seal_Reader_Num.f k (up l) b n) (if l.length < wide n then (((0 : Nat) : Int), up [], true) else (((nm 0 (l.take (wide n)) : Nat) : Int), up (l.drop (wide n)), b)) := by
  unfold seal_Reader_Num.f
  simp only [wide_f, Option.bind_some, Take_f l b (wide n) hn]
  have hw : wide n ≤ 8 := Nat.min_le_right _ _
  by_cases h : l.length < wide n
  · rw [if_pos h, if_pos h]
    exact Ev.sb (Num_l [] (fun x hx => by simp at hx) (by decide) _ _ 0 0 0 rfl (by decide) (by decide))
  · rw [if_neg h, if_neg h]
    have hlen : (l.take (wide n)).length ≤ 8 := by rw [List.length_take]; omega
    refine Ev.sb ?_
    show Ev (fun k => seal_Reader_Num.l0 k 0 (up (l.take (wide n))) ((up (l.take (wide n))).length : Int) 0 (up (l.drop (wide n))) b) _
    rw [up_length]
    exact Num_l (l.take (wide n)) (hl.take _) hlen (up (l.drop (wide n))) b _ 0 0 rfl (Nat.zero_le _) (by decide)
theorem rnum_z (v c : Nat) (hv : v < 72057594037927936) (hc : c < 256) : IntKind.u64.wrap ((IntKind.u64.wrap ((v : Int) * 256)) + (IntKind.u64.wrap (c : Int))) = ((nstep v c : Nat) : Int) := by
  rw [wu64 (x := (v : Int) * 256) (by omega) (by omega), wun c (by omega), wu64 (by omega) (by omega)]
  unfold nstep
  omega
theorem rNumber_l (l : List Nat) (hl : Bys l) (hn : l.length ≤ 8) : ∀ (d i v : Nat), l.length - i = d → i ≤ l.length → v < 256 ^ i →
    Ev (fun k => credenzaref06_Number.l0 k (B l) (v : Int) (i : Int)) ((nm v (l.drop i) : Nat) : Int) := by
  intro d
  induction d with
  | zero =>
    intro i v hd hi hv
    obtain rfl : i = l.length := by omega
    refine Ev.step (fun k => by rw [credenzaref06_Number.l0, B_size, if_neg (by omega)]) ?_
    rw [List.drop_length]
    exact Ev.now _
  | succ d ih =>
    intro i v hd hi hv
    have h7 := pow_le7 (j := i) (by omega)
    have hc := hl.getD i
    refine Ev.step (fun k => by rw [credenzaref06_Number.l0, B_size, if_pos (by omega), if_pos (by omega), bt_B hl i (by omega), rnum_z v _ (Nat.lt_of_lt_of_le hv h7) hc, wsucc _ (by omega)]) ?_
    rw [drop_getD l i (by omega)]
    refine ih (i + 1) _ (by omega) (by omega) ?_
    unfold nstep
    rw [Nat.pow_succ]
    clear ih h7
    omega
theorem rNumber_f (l : List Nat) (hl : Bys l) (hn : l.length ≤ 8) : Ev (fun k => credenzaref06_Number.f k (B l)) ((nm 0 l : Nat) : Int) := by
  unfold credenzaref06_Number.f
  exact rNumber_l l hl hn l.length 0 0 (by omega) (by omega) (by decide)
theorem NewReader_f (l : List Nat) (hn : l.length < 1000000) : seal_NewReader.f (up l) = some (up l, false) := by
  unfold seal_NewReader.f
  rw [bClone_f l hn]
  rfl
/-! ### ask: two asks -/
theorem Ev.rds {α : Type} {g : Nat → Option α} {r : α} (h : Ev g r) : ∃ k, g k = some r := by
  obtain ⟨K, h⟩ := h
  exact ⟨K, h K (Nat.le_refl _)⟩
theorem awake_f : Ev (fun k => credenzalaw22_awake.f k) true := Ev.of credenzalaw22_awake.mono (k := 60) (by decide +kernel)
theorem sEq_l (l m : List Int) (h : l.length = m.length) (hn : l.length < 1000000) : ∀ (d i : Nat), l.length - i = d → i ≤ l.length →
    Ev (fun k => slices_Equal_int_int.l0 k l m (l.length : Int) (i : Int)) (l.drop i == m.drop i) := by
  intro d
  induction d with
  | zero =>
    intro i hd hi
    obtain rfl : i = l.length := by omega
    refine Ev.step (fun k => by rw [slices_Equal_int_int.l0, if_neg (by omega)]) ?_
    rw [List.drop_length, h, List.drop_length]
    exact Ev.now _
  | succ d ih =>
    intro i hd hi
    have h1 : i < l.length := by omega
    have h2 : i < m.length := by omega
    refine Ev.step (fun k => by rw [slices_Equal_int_int.l0, if_pos (by omega), if_pos (by omega), if_pos (by omega), if_pos (by omega), wsucc _ (by omega)]) ?_
    have e1 : rd l (i : Int) = l[i] := by simp [rd, List.getElem?_eq_getElem h1]
    have e2 : rd m (i : Int) = m[i] := by simp [rd, List.getElem?_eq_getElem h2]
    rw [e1, e2, List.drop_eq_getElem_cons h1, List.drop_eq_getElem_cons h2]
    refine Ev.ite (fun h3 => ?_) (fun h3 => ?_)
    · rw [h3]
      refine Ev.eq (ih (i + 1) (by omega) (by omega)) ?_
      show _ = (m[i] == m[i] && (l.drop (i + 1) == m.drop (i + 1)))
      rw [beq_self_eq_true, Bool.true_and]
    · refine Ev.eq (Ev.now _) ?_
      show false = (l[i] == m[i] && (l.drop (i + 1) == m.drop (i + 1)))
      rw [beq_eq_false_iff_ne.2 h3, Bool.false_and]
theorem sEq_f (l m : List Int) (hn : l.length < 1000000) : Ev (fun k => slices_Equal_int_int.f k l m) (l == m) := by
  unfold slices_Equal_int_int.f
  refine Ev.ite (fun h => ?_) (fun h => ?_)
  · exact sEq_l l m (by omega) hn l.length 0 (by omega) (by omega)
  · refine Ev.eq (Ev.now _) ?_
    exact (beq_eq_false_iff_ne.2 (fun e => h (by rw [e]))).symm
def same (a0 a1 : Int) (l : List Int) (a3 a4 a5 a6 a7 a8 b0 b1 : Int) (m : List Int) (b3 b4 b5 b6 b7 b8 : Int) : Bool :=
  a0 == b0 && (a1 == b1 && (a8 == b8 && (a3 == b3 && (a4 == b4 && (a5 == b5 && (a6 == b6 && (a7 == b7 && l == m)))))))
theorem same_iff {a0 a1 : Int} {l : List Int} {a3 a4 a5 a6 a7 a8 b0 b1 : Int} {m : List Int} {b3 b4 b5 b6 b7 b8 : Int} :
    same a0 a1 l a3 a4 a5 a6 a7 a8 b0 b1 m b3 b4 b5 b6 b7 b8 = true ↔ (a0 = b0 ∧ a1 = b1 ∧ a8 = b8 ∧ a3 = b3 ∧ a4 = b4 ∧ a5 = b5 ∧ a6 = b6 ∧ a7 = b7 ∧ l = m) := by
  unfold same
  simp only [Bool.and_eq_true, beq_iff_eq]
theorem same_comm (a0 a1 : Int) (l : List Int) (a3 a4 a5 a6 a7 a8 b0 b1 : Int) (m : List Int) (b3 b4 b5 b6 b7 b8 : Int) :
    same a0 a1 l a3 a4 a5 a6 a7 a8 b0 b1 m b3 b4 b5 b6 b7 b8 = same b0 b1 m b3 b4 b5 b6 b7 b8 a0 a1 l a3 a4 a5 a6 a7 a8 := by
  rw [Bool.eq_iff_iff, same_iff, same_iff]
  constructor
  · rintro ⟨rfl, rfl, rfl, rfl, rfl, rfl, rfl, rfl, rfl⟩
    simp
  · rintro ⟨rfl, rfl, rfl, rfl, rfl, rfl, rfl, rfl, rfl⟩
    simp
theorem aEqual_f (a0 a1 : Int) (l : List Int) (a3 a4 a5 a6 a7 a8 b0 b1 : Int) (m : List Int) (b3 b4 b5 b6 b7 b8 : Int) (hn : l.length < 1000000) :
    Ev (fun k => ask_Equal.f k a0 a1 l a3 a4 a5 a6 a7 a8 b0 b1 m b3 b4 b5 b6 b7 b8) (same a0 a1 l a3 a4 a5 a6 a7 a8 b0 b1 m b3 b4 b5 b6 b7 b8) := by
  have no : (¬ (a0 = b0 ∧ a1 = b1 ∧ a8 = b8 ∧ a3 = b3 ∧ a4 = b4 ∧ a5 = b5 ∧ a6 = b6 ∧ a7 = b7 ∧ l = m)) → Ev (fun _ => some false) (same a0 a1 l a3 a4 a5 a6 a7 a8 b0 b1 m b3 b4 b5 b6 b7 b8) := fun h => by
    rw [Bool.eq_false_iff.2 (fun h2 => h (same_iff.1 h2))]
    exact Ev.now _
  unfold ask_Equal.f gen_Equal.f
  refine Ev.ite (fun h0 => ?_) (fun h0 => no (fun h => h0 h.1))
  refine Ev.ite (fun h1 => ?_) (fun h1 => no (fun h => h1 h.2.1))
  refine Ev.ite (fun h8 => ?_) (fun h8 => no (fun h => h8 h.2.2.1))
  have hg : Ev (fun k => (slices_Equal_int_int.f k l m).bind fun t105 => (if t105 = true then (if a3 = b3 then (if a4 = b4 then (some (a5 == b5 && (a6 == b6 && (a7 == b7)))) else (some false)) else (some false)) else (some false))) (same a0 a1 l a3 a4 a5 a6 a7 a8 b0 b1 m b3 b4 b5 b6 b7 b8) := by
    refine Ev.bind (sEq_f l m hn) ?_
    refine Ev.ite (fun hl => ?_) (fun hl => no (fun h => hl (by rw [h.2.2.2.2.2.2.2.2]; simp)))
    refine Ev.ite (fun h3 => ?_) (fun h3 => no (fun h => h3 h.2.2.2.1))
    refine Ev.ite (fun h4 => ?_) (fun h4 => no (fun h => h4 h.2.2.2.2.1))
    refine Ev.eq (Ev.now _) ?_
    rw [Bool.eq_iff_iff, same_iff]
    simp only [Bool.and_eq_true, beq_iff_eq] at *
    exact ⟨fun h => ⟨h0, h1, h8, h3, h4, h.1, h.2.1, h.2.2, hl⟩, fun h => ⟨h.2.2.2.2.2.1, h.2.2.2.2.2.2.1, h.2.2.2.2.2.2.2.1⟩⟩
  exact Ev.bind hg (Ev.now _)
/-! ### ask: reading -/
def rst (l : List Nat) (b : Bool) (n : Nat) : List Nat × Bool := if l.length < n then ([], true) else (l.drop n, b)
def rv (l : List Nat) (n : Nat) : Nat := if l.length < n then 0 else nm 0 (l.take n)
theorem rst_bys {l : List Nat} (hl : Bys l) (b : Bool) (n : Nat) : Bys (rst l b n).1 := by
  unfold rst
  split
  · exact fun x hx => by simp at hx
  · exact hl.drop n
theorem rst_len (l : List Nat) (b : Bool) (n : Nat) : (rst l b n).1.length ≤ l.length := by
  unfold rst
  split
  · simp
  · simp
theorem N_f (l : List Nat) (hl : Bys l) (b : Bool) (n : Int) (hn : l.length < 1000000) :
    Ev (fun k => seal_Reader_Num.f k (up l) b n) (((rv l (wide n) : Nat) : Int), up (rst l b (wide n)).1, (rst l b (wide n)).2) := by
  have h := Num_f l hl b n hn
  unfold rv rst
  by_cases c : l.length < wide n
  · rw [if_pos c] at h
    rw [if_pos c, if_pos c]
    exact h
  · rw [if_neg c] at h
    rw [if_neg c, if_neg c]
    exact h
theorem Sg_f (l : List Nat) (hl : Bys l) (b : Bool) (hn : l.length < 1000000) :
    Ev (fun k => seal_Reader_Signed.f k (up l) b) (wrap32 (((rv l 4 : Nat) : Int) % 4294967296), up (rst l b 4).1, (rst l b 4).2) := by
  unfold seal_Reader_Signed.f
  exact Ev.bind (N_f l hl b 4 hn) (Ev.now _)
theorem N_app (p r : List Nat) (hp : Bys p) (hr : Bys r) (b : Bool) (n : Int) (h : p.length = wide n) (hn : (p ++ r).length < 1000000) :
    Ev (fun k => seal_Reader_Num.f k (up (p ++ r)) b n) (((nm 0 p : Nat) : Int), up r, b) := by
  have h1 := Num_f (p ++ r) (hp.app hr) b n hn
  rw [if_neg (by rw [List.length_append]; omega), ← h, List.take_left, List.drop_left] at h1
  exact h1
def runs : List Nat → List Nat × Bool → List Nat × Bool
  | [], s => s
  | n :: t, s => runs t (rst s.1 s.2 n)
theorem runs_end : ∀ (ns : List Nat), (∀ n ∈ ns, 1 ≤ n) → runs ns ([], true) = ([], true)
  | [], _ => rfl
  | n :: t, h => by
    show runs t (rst [] true n) = _
    rw [show rst [] true n = ([], true) from if_pos (by have := h n (List.mem_cons_self ..); simp; omega)]
    exact runs_end t (fun m hm => h m (List.mem_cons_of_mem _ hm))
theorem runs_short : ∀ (ns : List Nat) (l : List Nat), (∀ n ∈ ns, 1 ≤ n) → l.length < ns.sum → runs ns (l, false) = ([], true)
  | [], l, _, h => by simp at h
  | n :: t, l, h, hl => by
    have ht : ∀ m ∈ t, 1 ≤ m := fun m hm => h m (List.mem_cons_of_mem _ hm)
    show runs t (rst l false n) = _
    unfold rst
    split
    · exact runs_end t ht
    · refine runs_short t _ ht ?_
      rw [List.length_drop]
      rw [List.sum_cons] at hl
      omega
theorem submit_short (l : List Nat) (hl : Bys l) (h : l.length < 22) :
    ∃ v1 v2 v3 v4 v5 v6, Ev (fun k => ask_submit.f k (up l) false) (1, v1, [], v2, v3, v4, v5, v6, 0, 16, up [], true) := by
  have e := runs_short [4, 2, 1, 4, 1, 8, 2] l (by decide) (by simpa using h)
  simp only [runs] at e
  have s1 := rst_len l false 4
  have B1 := rst_bys hl false 4
  generalize hq1 : rst l false 4 = q1 at *
  obtain ⟨l1, b1⟩ := q1
  have s2 := rst_len l1 b1 2
  have B2 := rst_bys B1 b1 2
  generalize hq2 : rst l1 b1 2 = q2 at *
  obtain ⟨l2, b2⟩ := q2
  have s3 := rst_len l2 b2 1
  have B3 := rst_bys B2 b2 1
  generalize hq3 : rst l2 b2 1 = q3 at *
  obtain ⟨l3, b3⟩ := q3
  have s4 := rst_len l3 b3 4
  have B4 := rst_bys B3 b3 4
  generalize hq4 : rst l3 b3 4 = q4 at *
  obtain ⟨l4, b4⟩ := q4
  have s5 := rst_len l4 b4 1
  have B5 := rst_bys B4 b4 1
  generalize hq5 : rst l4 b4 1 = q5 at *
  obtain ⟨l5, b5⟩ := q5
  have s6 := rst_len l5 b5 8
  have B6 := rst_bys B5 b5 8
  generalize hq6 : rst l5 b5 8 = q6 at *
  obtain ⟨l6, b6⟩ := q6
  simp only at s1 s2 s3 s4 s5 s6 B1 B2 B3 B4 B5 B6 e
  have n1 := N_f l hl false 4 (by omega)
  rw [show wide 4 = 4 from rfl, hq1] at n1
  have n2 := N_f l1 B1 b1 2 (by omega)
  rw [show wide 2 = 2 from rfl, hq2] at n2
  have n3 := N_f l2 B2 b2 1 (by omega)
  rw [show wide 1 = 1 from rfl, hq3] at n3
  have n4 := Sg_f l3 B3 b3 (by omega)
  rw [hq4] at n4
  have n5 := N_f l4 B4 b4 1 (by omega)
  rw [show wide 1 = 1 from rfl, hq5] at n5
  have n6 := N_f l5 B5 b5 8 (by omega)
  rw [show wide 8 = 8 from rfl, hq6] at n6
  have n7 := N_f l6 B6 b6 2 (by omega)
  rw [show wide 2 = 2 from rfl, e] at n7
  unfold ask_submit.f seal_Reader_Short.f
  exact ⟨_, _, _, _, _, _, Ev.bind n1 (Ev.bind n2 (Ev.bind n3 (Ev.bind n4 (Ev.bind n5 (Ev.bind n6 (Ev.bind n7 (Ev.sb (Ev.pos rfl (Ev.now _)))))))))⟩
/-- the numbers of a row, one byte each -/
theorem loop_ok : ∀ (p r : List Nat), Bys p → Bys r → (p ++ r).length < 1000000 → ∀ (j n : Nat), j + p.length = n → n ≤ 1024 → ∀ (a0 a1 : Int) (P : List Int) (a3 a4 a5 a6 a7 a8 : Int), P.length = j →
    Ev (fun k => ask_submit.l0 k (n : Int) (j : Int) (up (p ++ r)) false a0 a1 P a3 a4 a5 a6 a7 a8) (a0, a1, P ++ up p, a3, a4, a5, a6, a7, a8, 0, up r, false)
  | [], r, _, hr, hl, j, n, hj, hn, a0, a1, P, a3, a4, a5, a6, a7, a8, hP => by
    simp only [List.length_nil] at hj
    refine Ev.step (fun k => by rw [ask_submit.l0, if_neg (by omega)]) ?_
    refine Ev.eq (Ev.now _) ?_
    simp [up]
  | c :: p, r, hp, hr, hl, j, n, hj, hn, a0, a1, P, a3, a4, a5, a6, a7, a8, hP => by
    have hc : c < 256 := hp c (List.mem_cons_self ..)
    have hp' : Bys p := fun x hx => hp x (List.mem_cons_of_mem _ hx)
    rw [List.length_cons] at hj
    have hN := N_app [c] (p ++ r) (fun x hx => by rw [List.mem_singleton] at hx; subst hx; exact hc) (hp'.app hr) false 1 rfl (by simpa using hl)
    have e : nm 0 [c] = c := Nat.zero_add c
    rw [e] at hN
    refine Ev.step (fun k => by rw [ask_submit.l0, if_pos (by omega), wsucc j (by omega)]) ?_
    refine Ev.bind hN (Ev.pos (by omega) ?_)
    rw [wn c (by omega)]
    have ih := loop_ok p r hp' hr (by rw [List.cons_append, List.length_cons] at hl; omega) (j + 1) n (by omega) hn a0 a1 (P ++ [(c : Int)]) a3 a4 a5 a6 a7 a8 (by rw [List.length_append, hP]; rfl)
    refine Ev.eq ih ?_
    rw [List.append_assoc]
    rfl
theorem loop_end : ∀ (d j n : Nat), n - j = d → n ≤ 1024 → ∀ (a0 a1 : Int) (P : List Int) (a3 a4 a5 a6 a7 a8 : Int), P.length ≤ j →
    ∃ Q, Ev (fun k => ask_submit.l0 k (n : Int) (j : Int) (up []) true a0 a1 P a3 a4 a5 a6 a7 a8) (a0, a1, Q, a3, a4, a5, a6, a7, a8, 0, up [], true) := by
  intro d
  induction d with
  | zero =>
    intro j n hd hn a0 a1 P a3 a4 a5 a6 a7 a8 hP
    refine ⟨P, Ev.step (fun k => by rw [ask_submit.l0, if_neg (by omega)]) ?_⟩
    exact Ev.now _
  | succ d ih =>
    intro j n hd hn a0 a1 P a3 a4 a5 a6 a7 a8 hP
    have hN := N_f [] (fun x hx => by simp at hx) true 1 (by decide)
    rw [show wide 1 = 1 from rfl, show rst [] true 1 = ([], true) from rfl] at hN
    obtain ⟨Q, hQ⟩ := ih (j + 1) n (by omega) hn a0 a1 (P ++ [wrap64 ((rv [] 1 : Nat) : Int)]) a3 a4 a5 a6 a7 a8 (by rw [List.length_append]; simp; omega)
    refine ⟨Q, Ev.step (fun k => by rw [ask_submit.l0, if_pos (by omega), wsucc j (by omega)]) ?_⟩
    exact Ev.bind hN (Ev.pos (by omega) hQ)
theorem loop_short : ∀ (p : List Nat), Bys p → p.length < 1000000 → ∀ (j n : Nat), j + p.length < n → n ≤ 1024 → ∀ (a0 a1 : Int) (P : List Int) (a3 a4 a5 a6 a7 a8 : Int), P.length ≤ j →
    ∃ Q, Ev (fun k => ask_submit.l0 k (n : Int) (j : Int) (up p) false a0 a1 P a3 a4 a5 a6 a7 a8) (a0, a1, Q, a3, a4, a5, a6, a7, a8, 0, up [], true)
  | [], _, _, j, n, hj, hn, a0, a1, P, a3, a4, a5, a6, a7, a8, hP => by
    rw [List.length_nil] at hj
    have hN := N_f [] (fun x hx => by simp at hx) false 1 (by decide)
    rw [show wide 1 = 1 from rfl, show rst [] false 1 = ([], true) from rfl] at hN
    obtain ⟨Q, hQ⟩ := loop_end (n - (j + 1)) (j + 1) n rfl hn a0 a1 (P ++ [wrap64 ((rv [] 1 : Nat) : Int)]) a3 a4 a5 a6 a7 a8 (by rw [List.length_append]; simp; omega)
    refine ⟨Q, Ev.step (fun k => by rw [ask_submit.l0, if_pos (by omega), wsucc j (by omega)]) ?_⟩
    exact Ev.bind hN (Ev.pos (by omega) hQ)
  | c :: p, hp, hl, j, n, hj, hn, a0, a1, P, a3, a4, a5, a6, a7, a8, hP => by
    have hc : c < 256 := hp c (List.mem_cons_self ..)
    have hp' : Bys p := fun x hx => hp x (List.mem_cons_of_mem _ hx)
    rw [List.length_cons] at hj hl
    have hN := N_app [c] p (fun x hx => by rw [List.mem_singleton] at hx; subst hx; exact hc) hp' false 1 rfl (by simpa using hl)
    obtain ⟨Q, hQ⟩ := loop_short p hp' (by omega) (j + 1) n (by omega) hn a0 a1 (P ++ [wrap64 ((nm 0 [c] : Nat) : Int)]) a3 a4 a5 a6 a7 a8 (by rw [List.length_append]; simp; omega)
    refine ⟨Q, Ev.step (fun k => by rw [ask_submit.l0, if_pos (by omega), wsucc j (by omega)]) ?_⟩
    exact Ev.bind hN (Ev.pos (by omega) hQ)
/-- a submit's bytes but the first one -/
def sub (p1 p2 p3 p4 p5 p6 p7 r : List Nat) : List Nat := p1 ++ (p2 ++ (p3 ++ (p4 ++ (p5 ++ (p6 ++ (p7 ++ r))))))
structure Parts (p1 p2 p3 p4 p5 p6 p7 : List Nat) : Prop where
  l1 : p1.length = 4
  l2 : p2.length = 2
  l3 : p3.length = 1
  l4 : p4.length = 4
  l5 : p5.length = 1
  l6 : p6.length = 8
  l7 : p7.length = 2
  b1 : Bys p1
  b2 : Bys p2
  b3 : Bys p3
  b4 : Bys p4
  b5 : Bys p5
  b6 : Bys p6
  b7 : Bys p7
theorem sub_len {p1 p2 p3 p4 p5 p6 p7 r : List Nat} (h : Parts p1 p2 p3 p4 p5 p6 p7) : (sub p1 p2 p3 p4 p5 p6 p7 r).length = 22 + r.length := by
  have := h.l1; have := h.l2; have := h.l3; have := h.l4; have := h.l5; have := h.l6; have := h.l7
  simp only [sub, List.length_append]
  omega
theorem lt32 (q : List Nat) (hq : Bys q) (h : q.length ≤ 4) : nm 0 q < 4294967296 := by
  have h1 := nm_lt q 0 0 hq (by decide)
  have h2 : 256 ^ (0 + q.length) ≤ 256 ^ 4 := Nat.pow_le_pow_right (by decide) (by omega)
  have h3 : (256 : Nat) ^ 4 = 4294967296 := rfl
  omega
/-- what a submit comes to: by its loop -/
theorem submit_long {p1 p2 p3 p4 p5 p6 p7 r : List Nat} (h : Parts p1 p2 p3 p4 p5 p6 p7) (hr : Bys r) (hl : r.length < 900000) {x : Int × Int × List Int × Int × Int × Int × Int × Int × Int × Int × List Int × Bool} (hn : nm 0 p7 ≤ 1024)
    (hx : Ev (fun k => ask_submit.l0 k ((nm 0 p7 : Nat) : Int) 0 (up r) false 1 ((nm 0 p1 : Nat) : Int) [] ((nm 0 p2 : Nat) : Int) (((nm 0 p3 : Nat) : Int) - 1) (wrap32 (((nm 0 p4 : Nat) : Int) % 4294967296)) ((nm 0 p5 : Nat) : Int) ((nm 0 p6 : Nat) : Int) 0) x) :
    Ev (fun k => ask_submit.f k (up (sub p1 p2 p3 p4 p5 p6 p7 r)) false) x := by
  have t1 := lt32 p1 h.b1 (by rw [h.l1]; decide)
  have t2 := lt32 p2 h.b2 (by rw [h.l2]; decide)
  have t3 := lt32 p3 h.b3 (by rw [h.l3]; decide)
  have t5 := lt32 p5 h.b5 (by rw [h.l5]; decide)
  have B7 := h.b7.app hr
  have B6 := h.b6.app B7
  have B5 := h.b5.app B6
  have B4 := h.b4.app B5
  have B3 := h.b3.app B4
  have B2 := h.b2.app B3
  have hL := sub_len (r := r) h
  have g7 : (p7 ++ r).length = 2 + r.length := by rw [List.length_append, h.l7]
  have g6 : (p6 ++ (p7 ++ r)).length = 10 + r.length := by rw [List.length_append, h.l6, g7]; omega
  have g5 : (p5 ++ (p6 ++ (p7 ++ r))).length = 11 + r.length := by rw [List.length_append, h.l5, g6]; omega
  have g4 : (p4 ++ (p5 ++ (p6 ++ (p7 ++ r)))).length = 15 + r.length := by rw [List.length_append, h.l4, g5]; omega
  have g3 : (p3 ++ (p4 ++ (p5 ++ (p6 ++ (p7 ++ r))))).length = 16 + r.length := by rw [List.length_append, h.l3, g4]; omega
  have g2 : (p2 ++ (p3 ++ (p4 ++ (p5 ++ (p6 ++ (p7 ++ r)))))).length = 18 + r.length := by rw [List.length_append, h.l2, g3]; omega
  unfold sub at *
  have n1 := N_app p1 _ h.b1 B2 false 4 h.l1 (by omega)
  have n2 := N_app p2 _ h.b2 B3 false 2 h.l2 (by omega)
  have n3 := N_app p3 _ h.b3 B4 false 1 h.l3 (by omega)
  have n4 : Ev (fun k => seal_Reader_Signed.f k (up (p4 ++ (p5 ++ (p6 ++ (p7 ++ r))))) false) (wrap32 (((nm 0 p4 : Nat) : Int) % 4294967296), up (p5 ++ (p6 ++ (p7 ++ r))), false) := by
    unfold seal_Reader_Signed.f
    exact Ev.bind (N_app p4 _ h.b4 B5 false 4 h.l4 (by omega)) (Ev.now _)
  have n5 := N_app p5 _ h.b5 B6 false 1 h.l5 (by omega)
  have n6 := N_app p6 _ h.b6 B7 false 8 h.l6 (by omega)
  have n7 := N_app p7 r h.b7 hr false 2 h.l7 (by omega)
  unfold ask_submit.f seal_Reader_Short.f
  refine Ev.bind n1 (Ev.bind n2 (Ev.bind n3 (Ev.bind n4 (Ev.bind n5 (Ev.bind n6 (Ev.bind n7 (Ev.sb (Ev.neg Bool.false_ne_true ?_))))))))
  rw [wn (nm 0 p7) (by omega), wn (nm 0 p2) (by omega), wn (nm 0 p3) (by omega), wn (nm 0 p5) (by omega), w64 (x := ((nm 0 p3 : Nat) : Int) - 1) (by omega) (by omega), show ((nm 0 p1 : Nat) : Int) % 4294967296 = ((nm 0 p1 : Nat) : Int) by omega]
  exact Ev.neg (by omega) hx
/-! ### ask: what is right -/
def inb (x : Int) : Bool := decide (0 ≤ x) && decide (x ≤ 255)
def rngd (a0 : Int) (l : List Int) (a3 a4 a5 a6 a8 : Int) : Bool :=
  if a0 = 1 then l.all inb && (decide (0 ≤ a3 ∧ a3 ≤ 65535) && (decide (-1 ≤ a4 ∧ a4 ≤ 254) && (decide (0 ≤ a5) && decide (0 ≤ a6 ∧ a6 ≤ 255))))
  else if a0 = 3 then decide (1 ≤ a8 ∧ a8 ≤ 255) else if a0 = 4 then decide (0 ≤ a8 ∧ a8 ≤ 255) else true
theorem within_f (a b c : Int) : ask_within.f a b c = some (decide (b ≤ a ∧ a ≤ c)) := by
  unfold ask_within.f
  by_cases h : a ≥ b
  · rw [if_pos h]
    congr 1
    exact decide_eq_decide.2 ⟨fun k => ⟨h, k⟩, fun k => k.2⟩
  · rw [if_neg h, decide_eq_false (fun k => h k.1)]
theorem any_all : ∀ (l : List Int), l.any ask_ranged_1.p = !l.all inb
  | [] => rfl
  | x :: t => by
    rw [List.any_cons, List.all_cons, any_all t, Bool.not_and]
    rfl
theorem ranged_f (a0 a1 : Int) (l : List Int) (a3 a4 a5 a6 a7 a8 : Int) : ask_ranged.f a0 a1 l a3 a4 a5 a6 a7 a8 = some (rngd a0 l a3 a4 a5 a6 a8) := by
  unfold ask_ranged.f rngd ask_ranged_1_any.f
  simp only [within_f, Option.bind_some, any_all]
  by_cases h1 : a0 = 1
  · simp only [if_pos h1]
    cases l.all inb with
    | false => rfl
    | true =>
      rw [if_neg (by decide), Bool.true_and]
      cases decide (0 ≤ a3 ∧ a3 ≤ 65535) with
      | false => rfl
      | true =>
        rw [if_pos rfl, Bool.true_and]
        cases decide (-1 ≤ a4 ∧ a4 ≤ 254) with
        | false => rfl
        | true =>
          rw [if_pos rfl, Bool.true_and]
          by_cases h5 : a5 ≥ 0
          · rw [if_pos h5, decide_eq_true (show 0 ≤ a5 from h5), Bool.true_and]
          · rw [if_neg h5, decide_eq_false (show ¬ 0 ≤ a5 from h5), Bool.false_and]
  · simp only [if_neg h1]
    by_cases h3 : a0 = 3
    · simp only [if_pos h3]
    · simp only [if_neg h3]
      by_cases h4 : a0 = 4
      · simp only [if_pos h4]
      · simp only [if_neg h4]
def form (a0 a1 : Int) (l : List Int) (a3 a4 a5 a6 a7 a8 : Int) : Prop :=
  if a0 = 1 then a8 = 0 else if a0 = 2 then l = [] ∧ a3 = 0 ∧ a4 = 0 ∧ a5 = 0 ∧ a6 = 0 ∧ a7 = 0 ∧ a8 = 0 else a1 = 0 ∧ l = [] ∧ a3 = 0 ∧ a4 = 0 ∧ a5 = 0 ∧ a6 = 0 ∧ a7 = 0
instance (a0 a1 : Int) (l : List Int) (a3 a4 a5 a6 a7 a8 : Int) : Decidable (form a0 a1 l a3 a4 a5 a6 a7 a8) := by
  unfold form
  infer_instance
def aright (a0 a1 : Int) (l : List Int) (a3 a4 a5 a6 a7 a8 : Int) : Int :=
  if a0 < 1 ∨ 4 < a0 then 29 else if ¬ form a0 a1 l a3 a4 a5 a6 a7 a8 then 10 else if 1024 < l.length then 12 else if rngd a0 l a3 a4 a5 a6 a8 = true then 0 else 11
theorem aRight_f (a0 a1 : Int) (l : List Int) (a3 a4 a5 a6 a7 a8 : Int) (hn : l.length < 1000000) : Ev (fun k => ask_Right.f k a0 a1 l a3 a4 a5 a6 a7 a8) (aright a0 a1 l a3 a4 a5 a6 a7 a8) := by
  unfold ask_Right.f aright
  refine Ev.ite (fun h => ?_) (fun h1 => Ev.ite (fun h => ?_) (fun h4 => ?_))
  · rw [if_pos (.inl h)]
    exact Ev.now _
  · rw [if_pos (.inr h)]
    exact Ev.now _
  · rw [if_neg (by omega)]
    have fin : ∀ b0 b1 m b3 b4 b5 b6 b7 b8, ask_named.f a0 a1 l a3 a4 a5 a6 a7 a8 = some (b0, b1, m, b3, b4, b5, b6, b7, b8) → (same a0 a1 l a3 a4 a5 a6 a7 a8 b0 b1 m b3 b4 b5 b6 b7 b8 = true ↔ form a0 a1 l a3 a4 a5 a6 a7 a8) →
        Ev (fun k => (ask_named.f a0 a1 l a3 a4 a5 a6 a7 a8).bind fun b => (ask_Equal.f k a0 a1 l a3 a4 a5 a6 a7 a8 b.1 b.2.1 b.2.2.1 b.2.2.2.1 b.2.2.2.2.1 b.2.2.2.2.2.1 b.2.2.2.2.2.2.1 b.2.2.2.2.2.2.2.1 b.2.2.2.2.2.2.2.2).bind fun t => ask_Right.g k a0 a1 l a3 a4 a5 a6 a7 a8 t)
          (if ¬ form a0 a1 l a3 a4 a5 a6 a7 a8 then 10 else if 1024 < l.length then 12 else if rngd a0 l a3 a4 a5 a6 a8 = true then 0 else 11) := by
      intro b0 b1 m b3 b4 b5 b6 b7 b8 hN hS
      rw [hN]
      refine Ev.sb (Ev.bind (aEqual_f a0 a1 l a3 a4 a5 a6 a7 a8 b0 b1 m b3 b4 b5 b6 b7 b8 hn) ?_)
      by_cases ht : same a0 a1 l a3 a4 a5 a6 a7 a8 b0 b1 m b3 b4 b5 b6 b7 b8 = true
      · rw [if_neg (fun h => h (hS.1 ht)), ht]
        show Ev (fun k => if (l.length : Int) > 1024 then some 12 else (ask_ranged.f a0 a1 l a3 a4 a5 a6 a7 a8).bind fun t2 => if t2 = true then some 0 else some 11) _
        refine Ev.ite (fun hl => ?_) (fun hl => ?_)
        · rw [if_pos (by omega)]
          exact Ev.now _
        · rw [if_neg (by omega), ranged_f]
          exact Ev.sb (Ev.ite (fun hg => by rw [if_pos hg]; exact Ev.now _) (fun hg => by rw [if_neg hg]; exact Ev.now _))
      · rw [if_pos (fun h => ht (hS.2 h)), Bool.eq_false_iff.2 ht]
        exact Ev.now _
    have hc : a0 = 1 ∨ a0 = 2 ∨ a0 = 3 ∨ a0 = 4 := by omega
    rcases hc with rfl | rfl | rfl | rfl
    · exact fin 1 a1 l a3 a4 a5 a6 a7 0 rfl (by rw [same_iff, form, if_pos rfl]; exact ⟨fun h => h.2.2.1, fun h => ⟨rfl, rfl, h, rfl, rfl, rfl, rfl, rfl, rfl⟩⟩)
    · exact fin 2 a1 [] 0 0 0 0 0 0 rfl (by rw [same_iff, form, if_neg (by decide), if_pos rfl]; exact ⟨fun ⟨_, _, h8, h3, h4, h5, h6, h7, hl⟩ => ⟨hl, h3, h4, h5, h6, h7, h8⟩, fun ⟨hl, h3, h4, h5, h6, h7, h8⟩ => ⟨rfl, rfl, h8, h3, h4, h5, h6, h7, hl⟩⟩)
    · exact fin 3 0 [] 0 0 0 0 0 a8 rfl (by rw [same_iff, form, if_neg (by decide), if_neg (by decide)]; exact ⟨fun ⟨_, h1, _, h3, h4, h5, h6, h7, hl⟩ => ⟨h1, hl, h3, h4, h5, h6, h7⟩, fun ⟨h1, hl, h3, h4, h5, h6, h7⟩ => ⟨rfl, h1, rfl, h3, h4, h5, h6, h7, hl⟩⟩)
    · exact fin 4 0 [] 0 0 0 0 0 a8 rfl (by rw [same_iff, form, if_neg (by decide), if_neg (by decide)]; exact ⟨fun ⟨_, h1, _, h3, h4, h5, h6, h7, hl⟩ => ⟨h1, hl, h3, h4, h5, h6, h7⟩, fun ⟨h1, hl, h3, h4, h5, h6, h7⟩ => ⟨rfl, h1, rfl, h3, h4, h5, h6, h7, hl⟩⟩)
theorem aright_0 {a0 a1 : Int} {l : List Int} {a3 a4 a5 a6 a7 a8 : Int} (h : aright a0 a1 l a3 a4 a5 a6 a7 a8 = 0) :
    (a0 = 1 ∨ a0 = 2 ∨ a0 = 3 ∨ a0 = 4) ∧ form a0 a1 l a3 a4 a5 a6 a7 a8 ∧ l.length ≤ 1024 ∧ rngd a0 l a3 a4 a5 a6 a8 = true := by
  unfold aright at h
  split at h
  · cases h
  · split at h
    · cases h
    · rename_i h1 h2
      split at h
      · cases h
      · split at h
        · rename_i h3 h4
          exact ⟨by omega, Decidable.not_not.1 h2, by omega, h4⟩
        · cases h
/-! ### ask: its bytes -/
theorem all_f : ∀ (p out : List Nat), Bys p → out.length + p.length < 900000 → Ev (fun k => ask_Bytes.all k (up out) (up p)) (up (out ++ p))
  | [], out, _, _ => by
    rw [List.append_nil]
    exact Ev.one (Ev.now _) (fun k => rfl)
  | x :: p, out, hp, hl => by
    have hx : x < 256 := hp x (List.mem_cons_self ..)
    have hp' : Bys p := fun y hy => hp y (List.mem_cons_of_mem _ hy)
    rw [List.length_cons] at hl
    have h1 := Put_f out x 1 (by omega)
    rw [show wide 1 = 1 from rfl, show be 1 x = [x] by show [] ++ [x % 256] = [x]; rw [Nat.mod_eq_of_lt hx]; rfl] at h1
    have h2 := all_f p (out ++ [x]) hp' (by rw [List.length_append, List.length_singleton]; omega)
    rw [List.append_assoc] at h2
    refine Ev.one (Ev.bind (f := fun k o => ask_Bytes.all k o (up p)) (by rw [wun x (by omega)]; exact h1) h2) (fun k => rfl)
def bs1 (id lim st tmp top seed : Nat) (p : List Nat) : List Nat := 1 :: sub (be 4 id) (be 2 lim) (be 1 st) (be 4 tmp) (be 1 top) (be 8 seed) (be 2 p.length) p
theorem parts (id lim st tmp top seed n : Nat) : Parts (be 4 id) (be 2 lim) (be 1 st) (be 4 tmp) (be 1 top) (be 8 seed) (be 2 n) :=
  ⟨be_length _ _, be_length _ _, be_length _ _, be_length _ _, be_length _ _, be_length _ _, be_length _ _, be_bys _ _, be_bys _ _, be_bys _ _, be_bys _ _, be_bys _ _, be_bys _ _, be_bys _ _⟩
theorem Bytes_1 (id lim st tmp top seed : Nat) (p : List Nat) (hp : Bys p) (hpl : p.length ≤ 1024) (h1 : id < 4294967296) (h2 : lim ≤ 65535) (h3 : st ≤ 255) (h4 : tmp < 2147483648) (h5 : top ≤ 255) (h6 : seed < 18446744073709551616)
    (hr : aright 1 (id : Int) (up p) (lim : Int) ((st : Int) - 1) (tmp : Int) (top : Int) (seed : Int) 0 = 0) :
    Ev (fun k => ask_Bytes.f k 1 (id : Int) (up p) (lim : Int) ((st : Int) - 1) (tmp : Int) (top : Int) (seed : Int) 0) (up (bs1 id lim st tmp top seed p), 0) := by
  have hR := aRight_f 1 (id : Int) (up p) (lim : Int) ((st : Int) - 1) (tmp : Int) (top : Int) (seed : Int) 0 (by rw [up_length]; omega)
  rw [hr] at hR
  unfold ask_Bytes.f ask_Bytes.one
  refine Ev.bind hR (Ev.pos rfl (Ev.pos rfl ?_))
  have hs : wrap64 ((st : Int) - 1 + 1) = (st : Int) := by rw [show (st : Int) - 1 + 1 = (st : Int) by omega]; exact wn st (by omega)
  rw [wun id (by omega), wun lim (by omega), hs, wun st (by omega), wun tmp (by omega), wun top (by omega), up_length, wun p.length (by omega)]
  have q1 := Put_f [1] id 4 (by decide)
  have q2 := Put_f ([1] ++ be 4 id) lim 2 (by simp [be_length])
  have q3 := Put_f ([1] ++ be 4 id ++ be 2 lim) st 1 (by simp [be_length])
  have q4 := Put_f ([1] ++ be 4 id ++ be 2 lim ++ be 1 st) tmp 4 (by simp [be_length])
  have q5 := Put_f ([1] ++ be 4 id ++ be 2 lim ++ be 1 st ++ be 4 tmp) top 1 (by simp [be_length])
  have q6 := Put_f ([1] ++ be 4 id ++ be 2 lim ++ be 1 st ++ be 4 tmp ++ be 1 top) seed 8 (by simp [be_length])
  have q7 := Put_f ([1] ++ be 4 id ++ be 2 lim ++ be 1 st ++ be 4 tmp ++ be 1 top ++ be 8 seed) p.length 2 (by simp [be_length])
  have q8 := all_f p ([1] ++ be 4 id ++ be 2 lim ++ be 1 st ++ be 4 tmp ++ be 1 top ++ be 8 seed ++ be 2 p.length) hp (by simp [be_length]; omega)
  have e : [1] ++ be 4 id ++ be 2 lim ++ be 1 st ++ be 4 tmp ++ be 1 top ++ be 8 seed ++ be 2 p.length ++ p = bs1 id lim st tmp top seed p := by
    simp [bs1, sub, List.append_assoc]
  rw [e] at q8
  exact Ev.bind (Ev.bind q1 (Ev.bind q2 (Ev.bind q3 (Ev.bind q4 (Ev.bind q5 (Ev.bind q6 (Ev.bind q7 q8))))))) (Ev.now _)
theorem Bytes_2 (id : Nat) (h1 : id < 4294967296) : Ev (fun k => ask_Bytes.f k 2 (id : Int) [] 0 0 0 0 0 0) (up (2 :: be 4 id), 0) := by
  have hR := aRight_f 2 (id : Int) [] 0 0 0 0 0 0 (by decide)
  rw [show aright 2 (id : Int) [] 0 0 0 0 0 0 = 0 from by simp [aright, form, rngd]] at hR
  unfold ask_Bytes.f ask_Bytes.two
  refine Ev.bind hR (Ev.pos rfl (Ev.neg (by decide) (Ev.pos rfl ?_)))
  rw [wun id (by omega)]
  exact Ev.bind (Put_f [2] id 4 (by decide)) (Ev.now _)
theorem Bytes_34 (c x : Nat) (hc : c = 3 ∨ c = 4) (hx : x ≤ 255) (h0 : c = 3 → 1 ≤ x) : Ev (fun k => ask_Bytes.f k (c : Int) 0 [] 0 0 0 0 0 (x : Int)) (up [c, x], 0) := by
  have hR := aRight_f (c : Int) 0 [] 0 0 0 0 0 (x : Int) (by decide)
  have e : aright (c : Int) 0 [] 0 0 0 0 0 (x : Int) = 0 := by
    have h1 : ¬ ((c : Int) < 1 ∨ 4 < (c : Int)) := by omega
    have h2 : form (c : Int) 0 [] 0 0 0 0 0 (x : Int) := by
      unfold form
      rw [if_neg (by omega), if_neg (by omega)]
      exact ⟨rfl, rfl, rfl, rfl, rfl, rfl, rfl⟩
    have h3 : rngd (c : Int) [] 0 0 0 0 (x : Int) = true := by
      unfold rngd
      rcases hc with rfl | rfl
      · exact decide_eq_true (by have := h0 rfl; omega)
      · exact decide_eq_true (by omega)
    unfold aright
    rw [if_neg h1, if_neg (fun h => h h2), if_neg (by decide), if_pos h3]
  rw [e] at hR
  unfold ask_Bytes.f ask_Bytes.rest
  refine Ev.bind hR (Ev.pos rfl (Ev.neg (by omega) (Ev.neg (by omega) ?_)))
  rw [wun x (by omega), show (c : Int) % 256 = (c : Int) by omega]
  have hp := Put_f [c] x 1 (by simp)
  rw [show wide 1 = 1 from rfl, show be 1 x = [x] by show [] ++ [x % 256] = [x]; rw [Nat.mod_eq_of_lt (by omega)]; rfl] at hp
  exact Ev.bind hp (Ev.now _)
theorem Bytes_no (a0 a1 : Int) (l : List Int) (a3 a4 a5 a6 a7 a8 : Int) (hn : l.length < 1000000) (h : aright a0 a1 l a3 a4 a5 a6 a7 a8 ≠ 0) : Ev (fun k => ask_Bytes.f k a0 a1 l a3 a4 a5 a6 a7 a8) ([], aright a0 a1 l a3 a4 a5 a6 a7 a8) := by
  unfold ask_Bytes.f
  exact Ev.bind (aRight_f a0 a1 l a3 a4 a5 a6 a7 a8 hn) (Ev.neg h (Ev.now _))
/-! ### ask: what is read -/
theorem J_err (e : Int) (he : e ≠ 0) (q : List Int) (b : Bool) (a0 a1 : Int) (l : List Int) (a3 a4 a5 a6 a7 a8 : Int) : Ev (fun k => ask_Parse.j0 k e q b a0 a1 l a3 a4 a5 a6 a7 a8) (0, 0, [], 0, 0, 0, 0, 0, 0, e) := by
  refine Ev.step (fun k => by rw [ask_Parse.j0, if_neg he]) ?_
  exact Ev.now _
theorem J_short (q : List Int) (a0 a1 : Int) (l : List Int) (a3 a4 a5 a6 a7 a8 : Int) : Ev (fun k => ask_Parse.j0 k 0 q true a0 a1 l a3 a4 a5 a6 a7 a8) (0, 0, [], 0, 0, 0, 0, 0, 0, 16) := by
  refine Ev.step (fun k => by rw [ask_Parse.j0, if_pos rfl]) ?_
  exact Ev.sb (Ev.pos rfl (Ev.now _))
theorem J_more (q : List Int) (hq : 0 < q.length) (a0 a1 : Int) (l : List Int) (a3 a4 a5 a6 a7 a8 : Int) : Ev (fun k => ask_Parse.j0 k 0 q false a0 a1 l a3 a4 a5 a6 a7 a8) (0, 0, [], 0, 0, 0, 0, 0, 0, 17) := by
  refine Ev.step (fun k => by rw [ask_Parse.j0, if_pos rfl]) ?_
  refine Ev.sb (Ev.neg Bool.false_ne_true (Ev.sb (Ev.pos ?_ (Ev.now _))))
  show (q.length : Int) > 0
  omega
theorem J_ok (a0 a1 : Int) (l : List Int) (a3 a4 a5 a6 a7 a8 : Int) : Ev (fun k => ask_Parse.j0 k 0 [] false a0 a1 l a3 a4 a5 a6 a7 a8) (if rngd a0 l a3 a4 a5 a6 a8 = true then (a0, a1, l, a3, a4, a5, a6, a7, a8, 0) else (0, 0, [], 0, 0, 0, 0, 0, 0, 11)) := by
  refine Ev.step (fun k => by rw [ask_Parse.j0, if_pos rfl]) ?_
  refine Ev.sb (Ev.neg Bool.false_ne_true (Ev.sb (Ev.neg (show ¬ (0 : Int) > 0 by decide) ?_)))
  rw [ranged_f]
  exact Ev.sb (Ev.ite (fun h => by rw [if_pos h]; exact Ev.now _) (fun h => by rw [if_neg h]; exact Ev.now _))
theorem P_nil : Ev (fun k => ask_Parse.f k (up [])) (0, 0, [], 0, 0, 0, 0, 0, 0, 16) := by
  have hN := N_f [] (fun x hx => by simp at hx) false 1 (by decide)
  rw [show wide 1 = 1 from rfl, show rst [] false 1 = ([], true) from rfl] at hN
  unfold ask_Parse.f
  rw [NewReader_f [] (by decide)]
  exact Ev.sb (Ev.bind hN (Ev.sb (Ev.pos rfl (Ev.now _))))
theorem nm_c (c : Nat) : nm 0 [c] = c := Nat.zero_add c
theorem one_bys {c : Nat} (h : c < 256) : Bys [c] := fun x hx => by rw [List.mem_singleton] at hx; subst hx; exact h
/-- the first byte is read -/
theorem P_head (c : Nat) (hc : c < 256) (q : List Nat) (hq : Bys q) (hl : q.length < 900000) {x : Int × Int × List Int × Int × Int × Int × Int × Int × Int × Int}
    (h : Ev (fun k => if (c : Int) = 1 then ((ask_submit.f k (up q) false).bind fun bt177 => (ask_Parse.j0 k bt177.2.2.2.2.2.2.2.2.2.1 bt177.2.2.2.2.2.2.2.2.2.2.1 bt177.2.2.2.2.2.2.2.2.2.2.2 bt177.1 bt177.2.1 bt177.2.2.1 bt177.2.2.2.1 bt177.2.2.2.2.1 bt177.2.2.2.2.2.1 bt177.2.2.2.2.2.2.1 bt177.2.2.2.2.2.2.2.1 bt177.2.2.2.2.2.2.2.2.1))
      else if (c : Int) = 2 then ((seal_Reader_Num.f k (up q) false 4).bind fun b => ask_Parse.j0 k 0 b.2.1 b.2.2 (c : Int) (b.1 % 4294967296) [] 0 0 0 0 0 0)
      else if (c : Int) = 3 then ((seal_Reader_Num.f k (up q) false 1).bind fun b => ask_Parse.j0 k 0 b.2.1 b.2.2 (c : Int) 0 [] 0 0 0 0 0 (wrap64 b.1))
      else if (c : Int) = 4 then ((seal_Reader_Num.f k (up q) false 1).bind fun b => ask_Parse.j0 k 0 b.2.1 b.2.2 (c : Int) 0 [] 0 0 0 0 0 (wrap64 b.1))
      else some (0, 0, [], 0, 0, 0, 0, 0, 0, 29)) x) : Ev (fun k => ask_Parse.f k (up (c :: q))) x := by
  have hN := N_app [c] q (one_bys hc) hq false 1 rfl (by rw [List.length_append]; simp; omega)
  rw [nm_c] at hN
  unfold ask_Parse.f
  rw [NewReader_f (c :: q) (by rw [List.length_cons]; omega)]
  refine Ev.sb (Ev.bind hN (Ev.sb (Ev.neg Bool.false_ne_true ?_)))
  rw [wn c (by omega)]
  exact h
theorem P1_short (q : List Nat) (hq : Bys q) (h : q.length < 22) : Ev (fun k => ask_Parse.f k (up (1 :: q))) (0, 0, [], 0, 0, 0, 0, 0, 0, 16) := by
  obtain ⟨v1, v2, v3, v4, v5, v6, hs⟩ := submit_short q hq h
  exact P_head 1 (by decide) q hq (by omega) (Ev.pos rfl (Ev.bind hs (J_err 16 (by decide) _ _ _ _ _ _ _ _ _ _ _)))
theorem P1_mid {p1 p2 p3 p4 p5 p6 p7 r : List Nat} (h : Parts p1 p2 p3 p4 p5 p6 p7) (hr : Bys r) (hl : r.length < nm 0 p7) (hn : nm 0 p7 ≤ 1024) : Ev (fun k => ask_Parse.f k (up (1 :: sub p1 p2 p3 p4 p5 p6 p7 r))) (0, 0, [], 0, 0, 0, 0, 0, 0, 16) := by
  obtain ⟨Q, hQ⟩ := loop_short r hr (by omega) 0 (nm 0 p7) (by omega) hn 1 ((nm 0 p1 : Nat) : Int) [] ((nm 0 p2 : Nat) : Int) (((nm 0 p3 : Nat) : Int) - 1) (wrap32 (((nm 0 p4 : Nat) : Int) % 4294967296)) ((nm 0 p5 : Nat) : Int) ((nm 0 p6 : Nat) : Int) 0 (by simp)
  have hs := submit_long h hr (by omega) hn hQ
  have hb : Bys (sub p1 p2 p3 p4 p5 p6 p7 r) := h.b1.app (h.b2.app (h.b3.app (h.b4.app (h.b5.app (h.b6.app (h.b7.app hr))))))
  exact P_head 1 (by decide) _ hb (by rw [sub_len h]; omega) (Ev.pos rfl (Ev.bind hs (J_short _ _ _ _ _ _ _ _ _ _)))
theorem P1_long {p1 p2 p3 p4 p5 p6 p7 r s : List Nat} (h : Parts p1 p2 p3 p4 p5 p6 p7) (hr : Bys r) (hs : Bys s) (hl : r.length = nm 0 p7) (hn : nm 0 p7 ≤ 1024) (hsl : s.length < 100000) {x : Int × Int × List Int × Int × Int × Int × Int × Int × Int × Int}
    (hx : Ev (fun k => ask_Parse.j0 k 0 (up s) false 1 ((nm 0 p1 : Nat) : Int) (up r) ((nm 0 p2 : Nat) : Int) (((nm 0 p3 : Nat) : Int) - 1) (wrap32 (((nm 0 p4 : Nat) : Int) % 4294967296)) ((nm 0 p5 : Nat) : Int) ((nm 0 p6 : Nat) : Int) 0) x) :
    Ev (fun k => ask_Parse.f k (up (1 :: sub p1 p2 p3 p4 p5 p6 p7 (r ++ s)))) x := by
  have hQ := loop_ok r s hr hs (by rw [List.length_append]; omega) 0 (nm 0 p7) (by omega) hn 1 ((nm 0 p1 : Nat) : Int) [] ((nm 0 p2 : Nat) : Int) (((nm 0 p3 : Nat) : Int) - 1) (wrap32 (((nm 0 p4 : Nat) : Int) % 4294967296)) ((nm 0 p5 : Nat) : Int) ((nm 0 p6 : Nat) : Int) 0 rfl
  have hsb := submit_long h (hr.app hs) (by rw [List.length_append]; omega) hn hQ
  have hb : Bys (sub p1 p2 p3 p4 p5 p6 p7 (r ++ s)) := h.b1.app (h.b2.app (h.b3.app (h.b4.app (h.b5.app (h.b6.app (h.b7.app (hr.app hs)))))))
  exact P_head 1 (by decide) _ hb (by rw [sub_len h, List.length_append]; omega) (Ev.pos rfl (Ev.bind hsb hx))
theorem P2_short (q : List Nat) (hq : Bys q) (h : q.length < 4) : Ev (fun k => ask_Parse.f k (up (2 :: q))) (0, 0, [], 0, 0, 0, 0, 0, 0, 16) := by
  have hN := N_f q hq false 4 (by omega)
  rw [show wide 4 = 4 from rfl, show rst q false 4 = ([], true) from if_pos h] at hN
  exact P_head 2 (by decide) q hq (by omega) (Ev.neg (by decide) (Ev.pos rfl (Ev.bind hN (J_short _ _ _ _ _ _ _ _ _ _))))
theorem P2_long (p s : List Nat) (hp : Bys p) (hs : Bys s) (h : p.length = 4) (hsl : s.length < 100000) {x : Int × Int × List Int × Int × Int × Int × Int × Int × Int × Int}
    (hx : Ev (fun k => ask_Parse.j0 k 0 (up s) false 2 ((nm 0 p : Nat) : Int) [] 0 0 0 0 0 0) x) : Ev (fun k => ask_Parse.f k (up (2 :: (p ++ s)))) x := by
  have hN := N_app p s hp hs false 4 h (by rw [List.length_append]; omega)
  have := lt32 p hp (by omega)
  refine P_head 2 (by decide) (p ++ s) (hp.app hs) (by rw [List.length_append]; omega) (Ev.neg (by decide) (Ev.pos rfl (Ev.bind hN ?_)))
  simp only [show ((nm 0 p : Nat) : Int) % 4294967296 = ((nm 0 p : Nat) : Int) by omega]
  exact hx
theorem P34_short (c : Nat) (hc : c = 3 ∨ c = 4) : Ev (fun k => ask_Parse.f k (up [c])) (0, 0, [], 0, 0, 0, 0, 0, 0, 16) := by
  have hN := N_f [] (fun x hx => by simp at hx) false 1 (by decide)
  rw [show wide 1 = 1 from rfl, show rst [] false 1 = ([], true) from rfl] at hN
  refine P_head c (by omega) [] (fun x hx => by simp at hx) (by decide) (Ev.neg (by omega) (Ev.neg (by omega) ?_))
  rcases hc with rfl | rfl
  · exact Ev.pos rfl (Ev.bind hN (J_short _ _ _ _ _ _ _ _ _ _))
  · exact Ev.neg (by decide) (Ev.pos rfl (Ev.bind hN (J_short _ _ _ _ _ _ _ _ _ _)))
theorem P34_long (c y : Nat) (hc : c = 3 ∨ c = 4) (hy : y < 256) (s : List Nat) (hs : Bys s) (hsl : s.length < 100000) {x : Int × Int × List Int × Int × Int × Int × Int × Int × Int × Int}
    (hx : Ev (fun k => ask_Parse.j0 k 0 (up s) false (c : Int) 0 [] 0 0 0 0 0 (y : Int)) x) : Ev (fun k => ask_Parse.f k (up (c :: ([y] ++ s)))) x := by
  have hN := N_app [y] s (one_bys hy) hs false 1 rfl (by rw [List.length_append]; simp; omega)
  rw [nm_c] at hN
  refine P_head c (by omega) ([y] ++ s) ((one_bys hy).app hs) (by rw [List.length_append]; simp; omega) (Ev.neg (by omega) (Ev.neg (by omega) ?_))
  have e : wrap64 ((y : Nat) : Int) = (y : Int) := wn y (by omega)
  rcases hc with rfl | rfl
  · refine Ev.pos rfl (Ev.bind hN ?_)
    simp only [e]
    exact hx
  · refine Ev.neg (by decide) (Ev.pos rfl (Ev.bind hN ?_))
    simp only [e]
    exact hx
/-! ### ask: a right one, in naturals -/
theorem wf_u32 {x : Int} (h : (Lit.int .u32 x).wf = true) : 0 ≤ x ∧ x < 4294967296 := by
  simp [Lit.wf, IntKind.min, IntKind.max, IntKind.bits, IntKind.signed] at h
  omega
theorem wf_i32 {x : Int} (h : (Lit.int .i32 x).wf = true) : -2147483648 ≤ x ∧ x < 2147483648 := by
  simp [Lit.wf, IntKind.min, IntKind.max, IntKind.bits, IntKind.signed] at h
  omega
theorem inb_up {l : List Int} (h : l.all inb = true) : ∃ p, Bys p ∧ l = up p := by
  have hb : ∀ x ∈ l, 0 ≤ x ∧ x ≤ 255 := fun x hx => by
    have := List.all_eq_true.1 h x hx
    simpa [inb] using this
  refine ⟨l.map Int.toNat, fun y hy => ?_, up_of l (fun x hx => (hb x hx).1)⟩
  obtain ⟨x, hx, rfl⟩ := List.mem_map.1 hy
  have := hb x hx
  omega
theorem sub_take {p1 p2 p3 p4 p5 p6 p7 r : List Nat} (h : Parts p1 p2 p3 p4 p5 p6 p7) {m : Nat} (hm : 22 ≤ m) : (sub p1 p2 p3 p4 p5 p6 p7 r).take m = sub p1 p2 p3 p4 p5 p6 p7 (r.take (m - 22)) := by
  have e : ∀ q, sub p1 p2 p3 p4 p5 p6 p7 q = (p1 ++ p2 ++ p3 ++ p4 ++ p5 ++ p6 ++ p7) ++ q := fun q => by simp [sub]
  have hl : (p1 ++ p2 ++ p3 ++ p4 ++ p5 ++ p6 ++ p7).length = 22 := by
    have := h.l1; have := h.l2; have := h.l3; have := h.l4; have := h.l5; have := h.l6; have := h.l7
    simp only [List.length_append]
    omega
  rw [e, e, List.take_append, hl, List.take_of_length_le (by omega)]
theorem sub_app (p1 p2 p3 p4 p5 p6 p7 r s : List Nat) : sub p1 p2 p3 p4 p5 p6 p7 r ++ s = sub p1 p2 p3 p4 p5 p6 p7 (r ++ s) := by simp [sub]
theorem sub_bys {p1 p2 p3 p4 p5 p6 p7 r : List Nat} (h : Parts p1 p2 p3 p4 p5 p6 p7) (hr : Bys r) : Bys (sub p1 p2 p3 p4 p5 p6 p7 r) := h.b1.app (h.b2.app (h.b3.app (h.b4.app (h.b5.app (h.b6.app (h.b7.app hr))))))
/-- what is known of a right ask's bytes -/
structure Told (b : List Nat) (a0 a1 : Int) (l : List Int) (a3 a4 a5 a6 a7 a8 : Int) : Prop where
  bys : Bys b
  len : b.length ≤ 1047
  put : Ev (fun k => ask_Bytes.f k a0 a1 l a3 a4 a5 a6 a7 a8) (up b, 0)
  cut : ∀ n, n < b.length → Ev (fun k => ask_Parse.f k (up (b.take n))) (0, 0, [], 0, 0, 0, 0, 0, 0, 16)
  more : ∀ s, Bys s → 0 < s.length → s.length ≤ 100 → Ev (fun k => ask_Parse.f k (up (b ++ s))) (0, 0, [], 0, 0, 0, 0, 0, 0, 17)
  read : Ev (fun k => ask_Parse.f k (up b)) (a0, a1, l, a3, a4, a5, a6, a7, a8, 0)
theorem nm_be_lt {n v : Nat} (h : v < 256 ^ n) : nm 0 (be n v) = v := by rw [nm_be]; exact Nat.mod_eq_of_lt h
theorem told_1 (id lim st tmp top seed : Nat) (p : List Nat) (hp : Bys p) (hpl : p.length ≤ 1024) (h1 : id < 4294967296) (h2 : lim ≤ 65535) (h3 : st ≤ 255) (h4 : tmp < 2147483648) (h5 : top ≤ 255) (h6 : seed < 18446744073709551616)
    (hr : aright 1 (id : Int) (up p) (lim : Int) ((st : Int) - 1) (tmp : Int) (top : Int) (seed : Int) 0 = 0) :
    Told (bs1 id lim st tmp top seed p) 1 (id : Int) (up p) (lim : Int) ((st : Int) - 1) (tmp : Int) (top : Int) (seed : Int) 0 := by
  have P := parts id lim st tmp top seed p.length
  have e7 : nm 0 (be 2 p.length) = p.length := nm_be_lt (by have : (256 : Nat) ^ 2 = 65536 := rfl; omega)
  have hlen : (bs1 id lim st tmp top seed p).length = 23 + p.length := by rw [bs1, List.length_cons, sub_len P]; omega
  have e1 : nm 0 (be 4 id) = id := nm_be_lt (by have : (256 : Nat) ^ 4 = 4294967296 := rfl; omega)
  have e2 : nm 0 (be 2 lim) = lim := nm_be_lt (by have : (256 : Nat) ^ 2 = 65536 := rfl; omega)
  have e3 : nm 0 (be 1 st) = st := nm_be_lt (by have : (256 : Nat) ^ 1 = 256 := rfl; omega)
  have e4 : nm 0 (be 4 tmp) = tmp := nm_be_lt (by have : (256 : Nat) ^ 4 = 4294967296 := rfl; omega)
  have e5 : nm 0 (be 1 top) = top := nm_be_lt (by have : (256 : Nat) ^ 1 = 256 := rfl; omega)
  have e6 : nm 0 (be 8 seed) = seed := nm_be_lt (by rw [p8]; exact h6)
  have ew : wrap32 (((nm 0 (be 4 tmp) : Nat) : Int) % 4294967296) = (tmp : Int) := by rw [e4]; unfold wrap32; omega
  refine ⟨?_, by omega, Bytes_1 id lim st tmp top seed p hp hpl h1 h2 h3 h4 h5 h6 hr, fun n hn => ?_, fun s hs hs0 hsl => ?_, ?_⟩
  · intro x hx
    rcases List.mem_cons.1 hx with rfl | hx
    · decide
    · exact sub_bys P hp x hx
  · rw [hlen] at hn
    rcases n with _ | m
    · exact P_nil
    · rw [bs1, List.take_succ_cons]
      by_cases hm : m < 22
      · exact P1_short _ ((sub_bys P hp).take m) (by rw [List.length_take]; omega)
      · rw [sub_take P (by omega)]
        exact P1_mid P (hp.take _) (by rw [e7, List.length_take]; omega) (by rw [e7]; exact hpl)
  · rw [bs1, List.cons_append, sub_app]
    exact P1_long P hp hs (by rw [e7]) (by rw [e7]; exact hpl) (by omega) (J_more _ (by rw [up_length]; exact hs0) _ _ _ _ _ _ _ _ _)
  · obtain ⟨_, _, _, hg⟩ := aright_0 hr
    have hj := J_ok 1 ((nm 0 (be 4 id) : Nat) : Int) (up p) ((nm 0 (be 2 lim) : Nat) : Int) (((nm 0 (be 1 st) : Nat) : Int) - 1) (wrap32 (((nm 0 (be 4 tmp) : Nat) : Int) % 4294967296)) ((nm 0 (be 1 top) : Nat) : Int) ((nm 0 (be 8 seed) : Nat) : Int) 0
    have h := P1_long (s := []) P hp (fun x hx => by simp at hx) (by rw [e7]) (by rw [e7]; exact hpl) (by decide) hj
    rw [List.append_nil, e1, e2, e3, ew, e5, e6, if_pos hg] at h
    exact h
theorem told_2 (id : Nat) (h1 : id < 4294967296) : Told (2 :: be 4 id) 2 (id : Int) [] 0 0 0 0 0 0 := by
  have hl : (be 4 id).length = 4 := be_length 4 id
  have hb : Bys (be 4 id) := be_bys 4 id
  have e1 : nm 0 (be 4 id) = id := nm_be_lt (by have : (256 : Nat) ^ 4 = 4294967296 := rfl; omega)
  refine ⟨?_, by rw [List.length_cons, hl]; decide, Bytes_2 id h1, fun n hn => ?_, fun s hs hs0 hsl => ?_, ?_⟩
  · intro x hx
    rcases List.mem_cons.1 hx with rfl | hx
    · decide
    · exact hb x hx
  · rw [List.length_cons, hl] at hn
    rcases n with _ | m
    · exact P_nil
    · rw [List.take_succ_cons]
      exact P2_short _ (hb.take m) (by rw [List.length_take]; omega)
  · rw [List.cons_append]
    exact P2_long (be 4 id) s hb hs hl (by omega) (J_more _ (by rw [up_length]; exact hs0) _ _ _ _ _ _ _ _ _)
  · have h := P2_long (be 4 id) [] hb (fun x hx => by simp at hx) hl (by decide) (J_ok 2 ((nm 0 (be 4 id) : Nat) : Int) [] 0 0 0 0 0 0)
    rw [List.append_nil, e1, if_pos (show rngd 2 [] 0 0 0 0 0 = true from rfl)] at h
    exact h
theorem told_34 (c x : Nat) (hc : c = 3 ∨ c = 4) (hx : x ≤ 255) (h0 : c = 3 → 1 ≤ x) : Told [c, x] (c : Int) 0 [] 0 0 0 0 0 (x : Int) := by
  have hg : rngd (c : Int) [] 0 0 0 0 (x : Int) = true := by
    unfold rngd
    rcases hc with rfl | rfl
    · exact decide_eq_true (by have := h0 rfl; omega)
    · exact decide_eq_true (by omega)
  refine ⟨?_, by simp, Bytes_34 c x hc hx h0, fun n hn => ?_, fun s hs hs0 hsl => ?_, ?_⟩
  · intro y hy
    simp only [List.mem_cons, List.not_mem_nil, or_false] at hy
    omega
  · have hn2 : n < 2 := hn
    rcases n with _ | _ | m
    · exact P_nil
    · exact P34_short c hc
    · omega
  · exact P34_long c x hc (by omega) s hs (by omega) (J_more _ (by rw [up_length]; exact hs0) _ _ _ _ _ _ _ _ _)
  · have h := P34_long c x hc (by omega) [] (fun x hx => by simp at hx) (by decide) (J_ok (c : Int) 0 [] 0 0 0 0 0 (x : Int))
    rw [if_pos hg] at h
    exact h
theorem told {a0 a1 : Int} {l : List Int} {a3 a4 a5 a6 a7 a8 : Int} (w1 : 0 ≤ a1 ∧ a1 < 4294967296) (w5 : -2147483648 ≤ a5 ∧ a5 < 2147483648) (w7 : 0 ≤ a7 ∧ a7 < 18446744073709551616) (h : aright a0 a1 l a3 a4 a5 a6 a7 a8 = 0) :
    ∃ b, Told b a0 a1 l a3 a4 a5 a6 a7 a8 := by
  obtain ⟨hk, hf, hl, hg⟩ := aright_0 h
  rcases hk with rfl | rfl | rfl | rfl
  · have h8 : a8 = 0 := by simpa [form] using hf
    subst h8
    have hg2 := hg
    simp only [rngd, if_true, Bool.and_eq_true, decide_eq_true_eq] at hg2
    obtain ⟨g0, g3, g4, g5, g6⟩ := hg2
    obtain ⟨p, hp, rfl⟩ := inb_up g0
    obtain ⟨id, rfl⟩ : ∃ n : Nat, a1 = (n : Int) := ⟨a1.toNat, by omega⟩
    obtain ⟨lim, rfl⟩ : ∃ n : Nat, a3 = (n : Int) := ⟨a3.toNat, by omega⟩
    obtain ⟨st, rfl⟩ : ∃ n : Nat, a4 = (n : Int) - 1 := ⟨(a4 + 1).toNat, by omega⟩
    obtain ⟨tmp, rfl⟩ : ∃ n : Nat, a5 = (n : Int) := ⟨a5.toNat, by omega⟩
    obtain ⟨top, rfl⟩ : ∃ n : Nat, a6 = (n : Int) := ⟨a6.toNat, by omega⟩
    obtain ⟨seed, rfl⟩ : ∃ n : Nat, a7 = (n : Int) := ⟨a7.toNat, by omega⟩
    rw [up_length] at hl
    exact ⟨_, told_1 id lim st tmp top seed p hp hl (by omega) (by omega) (by omega) (by omega) (by omega) (by omega) h⟩
  · have hf : l = [] ∧ a3 = 0 ∧ a4 = 0 ∧ a5 = 0 ∧ a6 = 0 ∧ a7 = 0 ∧ a8 = 0 := by simpa [form] using hf
    obtain ⟨rfl, rfl, rfl, rfl, rfl, rfl, rfl⟩ := hf
    obtain ⟨id, rfl⟩ : ∃ n : Nat, a1 = (n : Int) := ⟨a1.toNat, by omega⟩
    exact ⟨_, told_2 id (by omega)⟩
  · have hf : a1 = 0 ∧ l = [] ∧ a3 = 0 ∧ a4 = 0 ∧ a5 = 0 ∧ a6 = 0 ∧ a7 = 0 := by simpa [form] using hf
    obtain ⟨rfl, rfl, rfl, rfl, rfl, rfl, rfl⟩ := hf
    have g8 : 1 ≤ a8 ∧ a8 ≤ 255 := by simpa [rngd] using hg
    obtain ⟨x, rfl⟩ : ∃ n : Nat, a8 = (n : Int) := ⟨a8.toNat, by omega⟩
    exact ⟨_, told_34 3 x (.inl rfl) (by omega) (fun _ => by omega)⟩
  · have hf : a1 = 0 ∧ l = [] ∧ a3 = 0 ∧ a4 = 0 ∧ a5 = 0 ∧ a6 = 0 ∧ a7 = 0 := by simpa [form] using hf
    obtain ⟨rfl, rfl, rfl, rfl, rfl, rfl, rfl⟩ := hf
    have g8 : 0 ≤ a8 ∧ a8 ≤ 255 := by simpa [rngd] using hg
    obtain ⟨x, rfl⟩ : ∃ n : Nat, a8 = (n : Int) := ⟨a8.toNat, by omega⟩
    exact ⟨_, told_34 4 x (.inr rfl) (by omega) (fun h => by omega)⟩
/-! ### ask: the document's answers -/
def tl (a3 a4 a5 a6 : Int) : Bool := decide (0 ≤ a3 ∧ a3 ≤ 65535 ∧ -1 ≤ a4 ∧ a4 ≤ 254 ∧ 0 ≤ a5 ∧ 0 ≤ a6 ∧ a6 ≤ 255)
theorem tl_f (a3 a4 a5 a6 : Int) : (if a3 ≥ 0 then (if a3 ≤ 65535 then (if a4 ≥ (-1) then (if a4 ≤ 254 then (if a5 ≥ 0 then (if a6 ≥ 0 then (some (decide (a6 ≤ 255))) else (some false)) else (some false)) else (some false)) else (some false)) else (some false)) else (some false)) = some (tl a3 a4 a5 a6) := by
  unfold tl
  repeat' split
  all_goals first
    | (rw [decide_eq_false (by omega)]; done)
    | exact congrArg some (decide_eq_decide.2 ⟨fun h => by omega, fun h => by omega⟩)
def rrng (a0 : Int) (l : List Int) (a3 a4 a5 a6 a8 : Int) : Bool := decide (¬ (a0 = 3 ∧ a8 < 1) ∧ 0 ≤ a8 ∧ a8 ≤ 255) && (l.all inb && tl a3 a4 a5 a6)
theorem rR_l (l : List Int) (hn : l.length < 1000000) (a0 a1 a3 a4 a5 a6 a7 a8 : Int) : ∀ (d i : Nat), l.length - i = d → i ≤ l.length →
    Ev (fun k => credenzaref22_Ranged.l0 k (i : Int) a0 a1 l a3 a4 a5 a6 a7 a8) ((l.drop i).all inb && tl a3 a4 a5 a6) := by
  intro d
  induction d with
  | zero =>
    intro i hd hi
    obtain rfl : i = l.length := by omega
    refine Ev.step (fun k => by rw [credenzaref22_Ranged.l0, if_neg (by omega), tl_f]) ?_
    rw [List.drop_length]
    exact Ev.now _
  | succ d ih =>
    intro i hd hi
    have h1 : i < l.length := by omega
    refine Ev.step (fun k => by rw [credenzaref22_Ranged.l0, if_pos (by omega), if_pos (by omega), wsucc _ (by omega)]) ?_
    have e1 : rd l (i : Int) = l[i] := by simp [rd, List.getElem?_eq_getElem h1]
    rw [e1, List.drop_eq_getElem_cons h1, List.all_cons]
    generalize l[i] = x
    refine Ev.ite (fun h => ?_) (fun h0 => Ev.ite (fun h => ?_) (fun h2 => ?_))
    · rw [show inb x = false by unfold inb; rw [decide_eq_false (by omega), Bool.false_and]]
      exact Ev.now _
    · rw [show inb x = false by unfold inb; rw [decide_eq_false (show ¬ x ≤ 255 by omega), Bool.and_false]]
      exact Ev.now _
    · rw [show inb x = true by unfold inb; rw [decide_eq_true (show 0 ≤ x by omega), decide_eq_true (show x ≤ 255 by omega)]; rfl, Bool.true_and]
      exact ih (i + 1) (by omega) (by omega)
theorem rRanged_f (a0 a1 : Int) (l : List Int) (a3 a4 a5 a6 a7 a8 : Int) (hn : l.length < 1000000) : Ev (fun k => credenzaref22_Ranged.f k a0 a1 l a3 a4 a5 a6 a7 a8) (rrng a0 l a3 a4 a5 a6 a8) := by
  have no : ¬ (¬ (a0 = 3 ∧ a8 < 1) ∧ 0 ≤ a8 ∧ a8 ≤ 255) → Ev (fun k => credenzaref22_Ranged.j0 k true a0 a1 l a3 a4 a5 a6 a7 a8) (rrng a0 l a3 a4 a5 a6 a8) := by
    intro h
    unfold rrng
    rw [decide_eq_false h, Bool.false_and]
    refine Ev.step (fun k => by rw [credenzaref22_Ranged.j0, if_pos rfl]) ?_
    exact Ev.now _
  have yes : ¬ (a0 = 3 ∧ a8 < 1) → 0 ≤ a8 → Ev (fun k => credenzaref22_Ranged.j0 k (decide (a8 > 255)) a0 a1 l a3 a4 a5 a6 a7 a8) (rrng a0 l a3 a4 a5 a6 a8) := by
    intro h1 h2
    by_cases h3 : a8 > 255
    · rw [decide_eq_true h3]
      exact no (by omega)
    · rw [decide_eq_false h3]
      refine Ev.step (fun k => by rw [credenzaref22_Ranged.j0, if_neg (by decide)]) ?_
      unfold rrng
      rw [decide_eq_true (show ¬ (a0 = 3 ∧ a8 < 1) ∧ 0 ≤ a8 ∧ a8 ≤ 255 from ⟨h1, h2, by omega⟩), Bool.true_and]
      exact rR_l l hn a0 a1 a3 a4 a5 a6 a7 a8 l.length 0 (by omega) (by omega)
  unfold credenzaref22_Ranged.f
  refine Ev.ite (fun h => Ev.ite (fun h1 => no (by omega)) (fun h1 => Ev.ite (fun h2 => no (by omega)) (fun h2 => yes (by omega) (by omega)))) (fun h => Ev.ite (fun h2 => no (by omega)) (fun h2 => yes (by omega) (by omega)))
theorem rrng_form {a0 a1 : Int} {l : List Int} {a3 a4 a5 a6 a7 a8 : Int} (hk : a0 = 1 ∨ a0 = 2 ∨ a0 = 3 ∨ a0 = 4) (hf : form a0 a1 l a3 a4 a5 a6 a7 a8) : rrng a0 l a3 a4 a5 a6 a8 = rngd a0 l a3 a4 a5 a6 a8 := by
  rcases hk with rfl | rfl | rfl | rfl
  · have h8 : a8 = 0 := by simpa [form] using hf
    subst h8
    unfold rrng rngd tl
    rw [if_pos rfl, decide_eq_true (by omega), Bool.true_and, Bool.eq_iff_iff]
    simp only [Bool.and_eq_true, decide_eq_true_eq]
    exact ⟨fun h => ⟨h.1, by omega, by omega, by omega, by omega⟩, fun h => ⟨h.1, by omega⟩⟩
  · have hf : l = [] ∧ a3 = 0 ∧ a4 = 0 ∧ a5 = 0 ∧ a6 = 0 ∧ a7 = 0 ∧ a8 = 0 := by simpa [form] using hf
    obtain ⟨rfl, rfl, rfl, rfl, rfl, rfl, rfl⟩ := hf
    rfl
  · have hf : a1 = 0 ∧ l = [] ∧ a3 = 0 ∧ a4 = 0 ∧ a5 = 0 ∧ a6 = 0 ∧ a7 = 0 := by simpa [form] using hf
    obtain ⟨rfl, rfl, rfl, rfl, rfl, rfl, rfl⟩ := hf
    unfold rrng rngd
    rw [if_neg (by decide), if_pos rfl, show (List.all [] inb && tl 0 0 0 0) = true from rfl, Bool.and_true]
    exact decide_eq_decide.2 ⟨fun h => by omega, fun h => by omega⟩
  · have hf : a1 = 0 ∧ l = [] ∧ a3 = 0 ∧ a4 = 0 ∧ a5 = 0 ∧ a6 = 0 ∧ a7 = 0 := by simpa [form] using hf
    obtain ⟨rfl, rfl, rfl, rfl, rfl, rfl, rfl⟩ := hf
    unfold rrng rngd
    rw [if_neg (by decide), if_neg (by decide), if_pos rfl, show (List.all [] inb && tl 0 0 0 0) = true from rfl, Bool.and_true]
    exact decide_eq_decide.2 ⟨fun h => by omega, fun h => by omega⟩
/-! ### ask: what else is read -/
theorem cut_n (n : Nat) {q : List Nat} (hq : Bys q) (h : n ≤ q.length) : ∃ p s, q = p ++ s ∧ p.length = n ∧ Bys p ∧ Bys s ∧ s.length = q.length - n :=
  ⟨q.take n, q.drop n, (List.take_append_drop n q).symm, by rw [List.length_take]; omega, hq.take n, hq.drop n, by rw [List.length_drop]⟩
theorem parts_of {q : List Nat} (hq : Bys q) (h : 22 ≤ q.length) : ∃ p1 p2 p3 p4 p5 p6 p7 r, Parts p1 p2 p3 p4 p5 p6 p7 ∧ Bys r ∧ q = sub p1 p2 p3 p4 p5 p6 p7 r := by
  obtain ⟨p1, q1, e1, l1, b1, c1, m1⟩ := cut_n 4 hq (by omega)
  obtain ⟨p2, q2, e2, l2, b2, c2, m2⟩ := cut_n 2 c1 (by omega)
  obtain ⟨p3, q3, e3, l3, b3, c3, m3⟩ := cut_n 1 c2 (by omega)
  obtain ⟨p4, q4, e4, l4, b4, c4, m4⟩ := cut_n 4 c3 (by omega)
  obtain ⟨p5, q5, e5, l5, b5, c5, m5⟩ := cut_n 1 c4 (by omega)
  obtain ⟨p6, q6, e6, l6, b6, c6, m6⟩ := cut_n 8 c5 (by omega)
  obtain ⟨p7, q7, e7, l7, b7, c7, m7⟩ := cut_n 2 c6 (by omega)
  exact ⟨p1, p2, p3, p4, p5, p6, p7, q7, ⟨l1, l2, l3, l4, l5, l6, l7, b1, b2, b3, b4, b5, b6, b7⟩, c7, by rw [e1, e2, e3, e4, e5, e6, e7]; rfl⟩
theorem submit_big {p1 p2 p3 p4 p5 p6 p7 r : List Nat} (h : Parts p1 p2 p3 p4 p5 p6 p7) (hr : Bys r) (hl : r.length < 900000) (hn : 1024 < nm 0 p7) :
    Ev (fun k => ask_submit.f k (up (sub p1 p2 p3 p4 p5 p6 p7 r)) false) (1, ((nm 0 p1 : Nat) : Int), [], ((nm 0 p2 : Nat) : Int), (((nm 0 p3 : Nat) : Int) - 1), (wrap32 (((nm 0 p4 : Nat) : Int) % 4294967296)), ((nm 0 p5 : Nat) : Int), ((nm 0 p6 : Nat) : Int), 0, 12, up r, false) := by
  have t7 := lt32 p7 h.b7 (by rw [h.l7]; decide)
  have t1 := lt32 p1 h.b1 (by rw [h.l1]; decide)
  have t2 := lt32 p2 h.b2 (by rw [h.l2]; decide)
  have t3 := lt32 p3 h.b3 (by rw [h.l3]; decide)
  have t5 := lt32 p5 h.b5 (by rw [h.l5]; decide)
  have B7 := h.b7.app hr
  have B6 := h.b6.app B7
  have B5 := h.b5.app B6
  have B4 := h.b4.app B5
  have B3 := h.b3.app B4
  have B2 := h.b2.app B3
  have hL := sub_len (r := r) h
  have g7 : (p7 ++ r).length = 2 + r.length := by rw [List.length_append, h.l7]
  have g6 : (p6 ++ (p7 ++ r)).length = 10 + r.length := by rw [List.length_append, h.l6, g7]; omega
  have g5 : (p5 ++ (p6 ++ (p7 ++ r))).length = 11 + r.length := by rw [List.length_append, h.l5, g6]; omega
  have g4 : (p4 ++ (p5 ++ (p6 ++ (p7 ++ r)))).length = 15 + r.length := by rw [List.length_append, h.l4, g5]; omega
  have g3 : (p3 ++ (p4 ++ (p5 ++ (p6 ++ (p7 ++ r))))).length = 16 + r.length := by rw [List.length_append, h.l3, g4]; omega
  have g2 : (p2 ++ (p3 ++ (p4 ++ (p5 ++ (p6 ++ (p7 ++ r)))))).length = 18 + r.length := by rw [List.length_append, h.l2, g3]; omega
  unfold sub at *
  have n1 := N_app p1 _ h.b1 B2 false 4 h.l1 (by omega)
  have n2 := N_app p2 _ h.b2 B3 false 2 h.l2 (by omega)
  have n3 := N_app p3 _ h.b3 B4 false 1 h.l3 (by omega)
  have n4 : Ev (fun k => seal_Reader_Signed.f k (up (p4 ++ (p5 ++ (p6 ++ (p7 ++ r))))) false) (wrap32 (((nm 0 p4 : Nat) : Int) % 4294967296), up (p5 ++ (p6 ++ (p7 ++ r))), false) := by
    unfold seal_Reader_Signed.f
    exact Ev.bind (N_app p4 _ h.b4 B5 false 4 h.l4 (by omega)) (Ev.now _)
  have n5 := N_app p5 _ h.b5 B6 false 1 h.l5 (by omega)
  have n6 := N_app p6 _ h.b6 B7 false 8 h.l6 (by omega)
  have n7 := N_app p7 r h.b7 hr false 2 h.l7 (by omega)
  unfold ask_submit.f seal_Reader_Short.f
  refine Ev.bind n1 (Ev.bind n2 (Ev.bind n3 (Ev.bind n4 (Ev.bind n5 (Ev.bind n6 (Ev.bind n7 (Ev.sb (Ev.neg Bool.false_ne_true ?_))))))))
  rw [wn (nm 0 p7) (by omega), wn (nm 0 p2) (by omega), wn (nm 0 p3) (by omega), wn (nm 0 p5) (by omega), w64 (x := ((nm 0 p3 : Nat) : Int) - 1) (by omega) (by omega), show ((nm 0 p1 : Nat) : Int) % 4294967296 = ((nm 0 p1 : Nat) : Int) by omega]
  exact Ev.pos (by omega) (Ev.now _)
theorem P1_big {p1 p2 p3 p4 p5 p6 p7 r : List Nat} (h : Parts p1 p2 p3 p4 p5 p6 p7) (hr : Bys r) (hl : r.length < 100000) (hn : 1024 < nm 0 p7) : Ev (fun k => ask_Parse.f k (up (1 :: sub p1 p2 p3 p4 p5 p6 p7 r))) (0, 0, [], 0, 0, 0, 0, 0, 0, 12) :=
  P_head 1 (by decide) _ (sub_bys h hr) (by rw [sub_len h]; omega) (Ev.pos rfl (Ev.bind (submit_big h hr (by omega) hn) (J_err 12 (by decide) _ _ _ _ _ _ _ _ _ _ _)))
theorem P_odd (c : Nat) (hc : c < 256) (h : c < 1 ∨ 4 < c) (q : List Nat) (hq : Bys q) (hl : q.length < 100000) : Ev (fun k => ask_Parse.f k (up (c :: q))) (0, 0, [], 0, 0, 0, 0, 0, 0, 29) :=
  P_head c hc q hq (by omega) (Ev.neg (by omega) (Ev.neg (by omega) (Ev.neg (by omega) (Ev.neg (by omega) (Ev.now _)))))
/-! ### ask: what the document reads -/
theorem B_extract (l : List Nat) (a b : Nat) : (B l).extract a b = B ((l.drop a).take (b - a)) := by
  apply ba_ext
  rw [ByteArray.data_extract, Array.toList_extract, B_list, B_list, List.extract_eq_take_drop, List.map_take, List.map_drop]
theorem rSigned_p (l : List Nat) (hl : Bys l) (h : l.length ≤ 4) : Ev (fun k => credenzaref06_Signed.f k (B l)) (wrap32 (((nm 0 l : Nat) : Int) % 4294967296)) := by
  unfold credenzaref06_Signed.f
  refine Ev.bind (rNumber_f l hl (by omega)) ?_
  have hv := lt32 l hl h
  generalize nm 0 l = v at hv
  rw [wn v (by omega)]
  refine Ev.ite (fun h2 => ?_) (fun h2 => ?_)
  · rw [w64 (x := (v : Int) - 4294967296) (by omega) (by omega)]
    refine Ev.eq (Ev.now _) ?_
    unfold wrap32
    omega
  · refine Ev.eq (Ev.now _) ?_
    unfold wrap32
    omega
theorem mid {b a p s : List Nat} (hb : b = a ++ (p ++ s)) {f n : Nat} (ha : a.length = f) (hn : p.length = n) : (b.drop f).take n = p := by
  subst hb ha hn
  rw [List.drop_left, List.take_left]
theorem rnum_at {b a p s : List Nat} (hb : b = a ++ (p ++ s)) (hp : Bys p) {f n : Nat} (ha : a.length = f) (hn : p.length = n) (hn4 : n ≤ 4) (hl : b.length < 1000000) : Ev (fun k => credenzaref22_number.f k (B b) (f : Int) (n : Int)) ((nm 0 p : Nat) : Int) := by
  have hL : b.length = a.length + (p.length + s.length) := by rw [hb]; simp
  have hm := mid hb ha hn
  have hv := lt32 p hp (by omega)
  unfold credenzaref22_number.f
  rw [wadd f n (by omega)]
  refine Ev.pos (by omega) (Ev.pos (by omega) (Ev.pos (by rw [B_size]; omega) ?_))
  rw [Int.toNat_natCast, Int.toNat_natCast, B_extract, show f + n - f = n by omega, hm]
  refine Ev.bind (rNumber_f p hp (by omega)) ?_
  rw [wn _ (by omega)]
  exact Ev.now _
theorem R5 (b : List Nat) (z : Nat) (a0 a1 : Int) (l : List Int) (a3 a4 a5 a6 a7 a8 : Int) (hn : l.length < 1000000) (hk : a0 = 1 ∨ a0 = 2 ∨ a0 = 3 ∨ a0 = 4) (hf : form a0 a1 l a3 a4 a5 a6 a7 a8) (hz : b.length = z) :
    Ev (fun k => credenzaref22_Parse.j5 k (B b) (z : Int) a0 a1 l a3 a4 a5 a6 a7 a8) (if rngd a0 l a3 a4 a5 a6 a8 = true then (a0, a1, l, a3, a4, a5, a6, a7, a8, 0) else (0, 0, [], 0, 0, 0, 0, 0, 0, 11)) := by
  refine Ev.step (fun k => by rw [credenzaref22_Parse.j5, B_size, if_neg (by omega)]) ?_
  rw [← rrng_form hk hf]
  exact Ev.bind (rRanged_f a0 a1 l a3 a4 a5 a6 a7 a8 hn) (Ev.ite (fun h => by rw [if_pos h]; exact Ev.now _) (fun h => by rw [if_neg h]; exact Ev.now _))
theorem R5_more (b : List Nat) (z : Nat) (a0 a1 : Int) (l : List Int) (a3 a4 a5 a6 a7 a8 : Int) (hz : z < b.length) :
    Ev (fun k => credenzaref22_Parse.j5 k (B b) (z : Int) a0 a1 l a3 a4 a5 a6 a7 a8) (0, 0, [], 0, 0, 0, 0, 0, 0, 17) := by
  refine Ev.step (fun k => by rw [credenzaref22_Parse.j5, B_size, if_pos (by omega)]) ?_
  exact Ev.now _
theorem R_l {b a r s : List Nat} (hb : b = a ++ (r ++ s)) (hbb : Bys b) (ha : a.length = 23) (hl : b.length < 100000) {n : Nat} (hn : r.length = n) (a1 a3 a4 a5 a6 a7 : Int) {x : Int × Int × List Int × Int × Int × Int × Int × Int × Int × Int}
    (hx : Ev (fun k => credenzaref22_Parse.j5 k (B b) ((23 + n : Nat) : Int) 1 a1 (up r) a3 a4 a5 a6 a7 0) x) : ∀ (d j : Nat), n - j = d → j ≤ n →
    Ev (fun k => credenzaref22_Parse.l0 k (B b) 23 (n : Int) (j : Int) 1 a1 (up (r.take j)) a3 a4 a5 a6 a7 0) x := by
  have hL : b.length = 23 + (r.length + s.length) := by rw [hb]; simp [ha]
  intro d
  induction d with
  | zero =>
    intro j hd hj
    obtain rfl : j = n := by omega
    refine Ev.step (fun k => by rw [credenzaref22_Parse.l0, if_neg (by omega), show wrap64 ((23 : Int) + (j : Int)) = ((23 + j : Nat) : Int) from wadd 23 j (by omega)]) ?_
    rw [List.take_of_length_le (by omega)]
    exact hx
  | succ d ih =>
    intro j hd hj
    have h1 : j < r.length := by omega
    have e0 : wrap64 ((23 : Int) + (j : Int)) = ((23 + j : Nat) : Int) := wadd 23 j (by omega)
    have eg : b.getD (23 + j) 0 = r[j] := by
      rw [List.getD_eq_getElem?_getD, hb, List.getElem?_append_right (by omega), show 23 + j - a.length = j by omega, List.getElem?_append_left h1, List.getElem?_eq_getElem h1]
      rfl
    have e1 : bt (B b) ((23 + j : Nat) : Int) = ((r[j] : Nat) : Int) := by rw [bt_B hbb (23 + j) (by omega), eg]
    have hx2 : r[j] < 256 := by rw [← eg]; exact hbb.getD _
    refine Ev.step (fun k => by rw [credenzaref22_Parse.l0, if_pos (by omega), e0, if_pos (by omega), if_pos (by rw [B_size]; omega), if_pos (by rw [up_length, List.length_take]; omega), e1, wsucc _ (by omega), wn _ (by omega)]) ?_
    have e2 : up (r.take j) ++ [((r[j] : Nat) : Int)] = up (r.take (j + 1)) := by
      rw [← up_one, ← up_app, List.take_append_getElem h1]
    rw [e2]
    exact ih (j + 1) (by omega) (by omega)
theorem R_nil : Ev (fun k => credenzaref22_Parse.f k (B [])) (0, 0, [], 0, 0, 0, 0, 0, 0, 16) := by
  unfold credenzaref22_Parse.f
  exact Ev.pos rfl (Ev.now _)
theorem R_odd (c : Nat) (hc : c < 1 ∨ 4 < c) (q : List Nat) (hq : Bys (c :: q)) : Ev (fun k => credenzaref22_Parse.f k (B (c :: q))) (0, 0, [], 0, 0, 0, 0, 0, 0, 29) := by
  have hc2 : c < 256 := hq c (List.mem_cons_self ..)
  have e : bt (B (c :: q)) 0 = (c : Int) := bt_B hq 0 (by simp)
  have hs : ((B (c :: q)).size : Int) = (q.length : Int) + 1 := by rw [B_size]; simp
  have no : Ev (fun k => credenzaref22_Parse.j0 k (B (c :: q)) true (c : Int) 0 0 0 0 0 0 0) (0, 0, [], 0, 0, 0, 0, 0, 0, 29) := by
    refine Ev.step (fun k => by rw [credenzaref22_Parse.j0, if_pos rfl]) ?_
    exact Ev.now _
  unfold credenzaref22_Parse.f
  rw [e, wn c (by omega), hs]
  refine Ev.neg (by omega) (Ev.pos (by omega) (Ev.ite (fun _ => no) (fun h => ?_)))
  rw [decide_eq_true (show (c : Int) > 4 by omega)]
  exact no
theorem R_head (c : Nat) (hc : 1 ≤ c ∧ c ≤ 4) (q : List Nat) (hq : Bys (c :: q)) {x : Int × Int × List Int × Int × Int × Int × Int × Int × Int × Int}
    (hx : Ev (fun k => credenzaref22_Parse.j0 k (B (c :: q)) false (c : Int) 0 0 0 0 0 0 0) x) : Ev (fun k => credenzaref22_Parse.f k (B (c :: q))) x := by
  have e : bt (B (c :: q)) 0 = (c : Int) := bt_B hq 0 (by simp)
  have hs : ((B (c :: q)).size : Int) = (q.length : Int) + 1 := by rw [B_size]; simp
  unfold credenzaref22_Parse.f
  rw [e, wn c (by omega), hs]
  refine Ev.neg (by omega) (Ev.pos (by omega) (Ev.neg (by omega) ?_))
  rw [decide_eq_false (show ¬ (c : Int) > 4 by omega)]
  exact hx
theorem cons_bys {c : Nat} {q : List Nat} (hc : c < 256) (hq : Bys q) : Bys (c :: q) := fun x hx => by
  rcases List.mem_cons.1 hx with rfl | hx
  · exact hc
  · exact hq x hx
theorem R1_short (q : List Nat) (hq : Bys q) (h : q.length < 22) : Ev (fun k => credenzaref22_Parse.f k (B (1 :: q))) (0, 0, [], 0, 0, 0, 0, 0, 0, 16) := by
  refine R_head 1 (by decide) q (cons_bys (by decide) hq) ?_
  show Ev (fun k => credenzaref22_Parse.j0 k _ false (1 : Int) 0 0 0 0 0 0 0) _
  refine Ev.step (fun k => by rw [credenzaref22_Parse.j0, if_neg (by decide), if_pos rfl]) ?_
  refine Ev.step (fun k => by rw [credenzaref22_Parse.j1, if_neg (by decide)]) ?_
  refine Ev.step (fun k => by rw [credenzaref22_Parse.j2, B_size, if_pos (by rw [List.length_cons]; omega)]) ?_
  exact Ev.now _
theorem R1_head {p1 p2 p3 p4 p5 p6 p7 t : List Nat} (h : Parts p1 p2 p3 p4 p5 p6 p7) (ht : Bys t) (hl : t.length < 100000) {x : Int × Int × List Int × Int × Int × Int × Int × Int × Int × Int}
    (hx : Ev (fun k => credenzaref22_Parse.j3 k (B (1 :: sub p1 p2 p3 p4 p5 p6 p7 t)) 23 1 ((nm 0 p1 : Nat) : Int) 0 0 0 0 0 0) x) : Ev (fun k => credenzaref22_Parse.f k (B (1 :: sub p1 p2 p3 p4 p5 p6 p7 t))) x := by
  have hlen : (1 :: sub p1 p2 p3 p4 p5 p6 p7 t).length = 23 + t.length := by rw [List.length_cons, sub_len h]; omega
  have t1 := lt32 p1 h.b1 (by rw [h.l1]; decide)
  refine R_head 1 (by decide) _ (cons_bys (by decide) (sub_bys h ht)) ?_
  show Ev (fun k => credenzaref22_Parse.j0 k _ false (1 : Int) 0 0 0 0 0 0 0) _
  refine Ev.step (fun k => by rw [credenzaref22_Parse.j0, if_neg (by decide), if_pos rfl]) ?_
  refine Ev.step (fun k => by rw [credenzaref22_Parse.j1, if_neg (by decide)]) ?_
  refine Ev.step (fun k => by rw [credenzaref22_Parse.j2, B_size, if_neg (by omega), if_neg (by decide)]) ?_
  refine Ev.bind (rnum_at (b := 1 :: sub p1 p2 p3 p4 p5 p6 p7 t) (a := [1]) (p := p1) rfl h.b1 rfl h.l1 (by decide) (by omega)) ?_
  rw [show ((nm 0 p1 : Nat) : Int) % 4294967296 = ((nm 0 p1 : Nat) : Int) by omega]
  exact hx
theorem R1_n {p1 p2 p3 p4 p5 p6 p7 t : List Nat} (h : Parts p1 p2 p3 p4 p5 p6 p7) (hl : t.length < 100000) : Ev (fun k => credenzaref22_number.f k (B (1 :: sub p1 p2 p3 p4 p5 p6 p7 t)) 21 2) ((nm 0 p7 : Nat) : Int) := by
  have hlen : (1 :: sub p1 p2 p3 p4 p5 p6 p7 t).length = 23 + t.length := by rw [List.length_cons, sub_len h]; omega
  exact rnum_at (a := [1] ++ p1 ++ p2 ++ p3 ++ p4 ++ p5 ++ p6) (p := p7) (s := t) (by simp [sub]) h.b7 (by simp [h.l1, h.l2, h.l3, h.l4, h.l5, h.l6]) h.l7 (by decide) (by omega)
theorem R1_big {p1 p2 p3 p4 p5 p6 p7 t : List Nat} (h : Parts p1 p2 p3 p4 p5 p6 p7) (ht : Bys t) (hl : t.length < 100000) (hn : 1024 < nm 0 p7) : Ev (fun k => credenzaref22_Parse.f k (B (1 :: sub p1 p2 p3 p4 p5 p6 p7 t))) (0, 0, [], 0, 0, 0, 0, 0, 0, 12) := by
  refine R1_head h ht hl ?_
  refine Ev.step (fun k => by rw [credenzaref22_Parse.j3, if_pos rfl]) ?_
  exact Ev.bind (R1_n h hl) (Ev.pos (by omega) (Ev.now _))
theorem R1_mid {p1 p2 p3 p4 p5 p6 p7 t : List Nat} (h : Parts p1 p2 p3 p4 p5 p6 p7) (ht : Bys t) (hl : t.length < nm 0 p7) (hn : nm 0 p7 ≤ 1024) : Ev (fun k => credenzaref22_Parse.f k (B (1 :: sub p1 p2 p3 p4 p5 p6 p7 t))) (0, 0, [], 0, 0, 0, 0, 0, 0, 16) := by
  refine R1_head h ht (by omega) ?_
  refine Ev.step (fun k => by rw [credenzaref22_Parse.j3, if_pos rfl]) ?_
  refine Ev.bind (R1_n h (by omega)) (Ev.neg (by omega) (Ev.pos ?_ (Ev.now _)))
  rw [B_size, List.length_cons, sub_len h, show wrap64 ((23 : Int) + ((nm 0 p7 : Nat) : Int)) = ((23 + nm 0 p7 : Nat) : Int) from wadd 23 _ (by omega)]
  omega
theorem R1_long {p1 p2 p3 p4 p5 p6 p7 r s : List Nat} (h : Parts p1 p2 p3 p4 p5 p6 p7) (hr : Bys r) (hs : Bys s) (hl : r.length = nm 0 p7) (hn : nm 0 p7 ≤ 1024) (hsl : s.length < 10000) {x : Int × Int × List Int × Int × Int × Int × Int × Int × Int × Int}
    (hx : Ev (fun k => credenzaref22_Parse.j5 k (B (1 :: sub p1 p2 p3 p4 p5 p6 p7 (r ++ s))) ((23 + nm 0 p7 : Nat) : Int) 1 ((nm 0 p1 : Nat) : Int) (up r) ((nm 0 p2 : Nat) : Int) (((nm 0 p3 : Nat) : Int) - 1) (wrap32 (((nm 0 p4 : Nat) : Int) % 4294967296)) ((nm 0 p5 : Nat) : Int) ((nm 0 p6 : Nat) : Int) 0) x) :
    Ev (fun k => credenzaref22_Parse.f k (B (1 :: sub p1 p2 p3 p4 p5 p6 p7 (r ++ s)))) x := by
  have hlen : (1 :: sub p1 p2 p3 p4 p5 p6 p7 (r ++ s)).length = 23 + (r.length + s.length) := by rw [List.length_cons, sub_len h, List.length_append]; omega
  have t3 := lt32 p3 h.b3 (by rw [h.l3]; decide)
  have hN := R1_n (t := r ++ s) h (by rw [List.length_append]; omega)
  refine R1_head h (hr.app hs) (by rw [List.length_append]; omega) ?_
  refine Ev.step (fun k => by rw [credenzaref22_Parse.j3, if_pos rfl]) ?_
  refine Ev.bind hN (Ev.neg (by omega) (Ev.neg ?_ ?_))
  · rw [B_size, hlen, show wrap64 ((23 : Int) + ((nm 0 p7 : Nat) : Int)) = ((23 + nm 0 p7 : Nat) : Int) from wadd 23 _ (by omega)]
    omega
  have n2 := rnum_at (b := 1 :: sub p1 p2 p3 p4 p5 p6 p7 (r ++ s)) (a := [1] ++ p1) (p := p2) (s := p3 ++ (p4 ++ (p5 ++ (p6 ++ (p7 ++ (r ++ s)))))) (by simp [sub]) h.b2 (f := 5) (by simp [h.l1]) h.l2 (by decide) (by omega)
  have n3 := rnum_at (b := 1 :: sub p1 p2 p3 p4 p5 p6 p7 (r ++ s)) (a := [1] ++ p1 ++ p2) (p := p3) (s := p4 ++ (p5 ++ (p6 ++ (p7 ++ (r ++ s))))) (by simp [sub]) h.b3 (f := 7) (by simp [h.l1, h.l2]) h.l3 (by decide) (by omega)
  have m4 := mid (b := 1 :: sub p1 p2 p3 p4 p5 p6 p7 (r ++ s)) (a := [1] ++ p1 ++ p2 ++ p3) (p := p4) (s := p5 ++ (p6 ++ (p7 ++ (r ++ s)))) (by simp [sub]) (f := 8) (by simp [h.l1, h.l2, h.l3]) h.l4
  have n5 := rnum_at (b := 1 :: sub p1 p2 p3 p4 p5 p6 p7 (r ++ s)) (a := [1] ++ p1 ++ p2 ++ p3 ++ p4) (p := p5) (s := p6 ++ (p7 ++ (r ++ s))) (by simp [sub]) h.b5 (f := 12) (by simp [h.l1, h.l2, h.l3, h.l4]) h.l5 (by decide) (by omega)
  have m6 := mid (b := 1 :: sub p1 p2 p3 p4 p5 p6 p7 (r ++ s)) (a := [1] ++ p1 ++ p2 ++ p3 ++ p4 ++ p5) (p := p6) (s := p7 ++ (r ++ s)) (by simp [sub]) (f := 13) (by simp [h.l1, h.l2, h.l3, h.l4, h.l5]) h.l6
  have s4 := rSigned_p p4 h.b4 (by rw [h.l4]; decide)
  have s6 := rNumber_f p6 h.b6 (by rw [h.l6]; decide)
  refine Ev.bind n2 (Ev.bind n3 (Ev.pos (by decide) (Ev.pos (by rw [B_size, hlen]; omega) ?_)))
  rw [B_extract, B_extract, show 12 - 8 = 4 from rfl, show 21 - 13 = 8 from rfl, m4, m6, w64 (x := ((nm 0 p3 : Nat) : Int) - 1) (by omega) (by omega)]
  refine Ev.bind s4 (Ev.bind n5 (Ev.pos (by decide) (Ev.pos (by rw [B_size, hlen]; omega) (Ev.bind s6 ?_))))
  exact R_l (b := 1 :: sub p1 p2 p3 p4 p5 p6 p7 (r ++ s)) (a := [1] ++ p1 ++ p2 ++ p3 ++ p4 ++ p5 ++ p6 ++ p7) (r := r) (s := s) (by simp [sub]) (cons_bys (by decide) (sub_bys h (hr.app hs))) (by simp [h.l1, h.l2, h.l3, h.l4, h.l5, h.l6, h.l7]) (by omega) hl _ _ _ _ _ _ hx (nm 0 p7) 0 (by omega) (by omega)
theorem R2_short (q : List Nat) (hq : Bys q) (h : q.length < 4) : Ev (fun k => credenzaref22_Parse.f k (B (2 :: q))) (0, 0, [], 0, 0, 0, 0, 0, 0, 16) := by
  refine R_head 2 (by decide) q (cons_bys (by decide) hq) ?_
  show Ev (fun k => credenzaref22_Parse.j0 k _ false (2 : Int) 0 0 0 0 0 0 0) _
  refine Ev.step (fun k => by rw [credenzaref22_Parse.j0, if_neg (by decide), if_neg (by decide)]) ?_
  refine Ev.step (fun k => by rw [credenzaref22_Parse.j1, if_pos rfl]) ?_
  refine Ev.step (fun k => by rw [credenzaref22_Parse.j2, B_size, if_pos (by rw [List.length_cons]; omega)]) ?_
  exact Ev.now _
theorem R2_long (p s : List Nat) (hp : Bys p) (hs : Bys s) (h : p.length = 4) (hsl : s.length < 10000) {x : Int × Int × List Int × Int × Int × Int × Int × Int × Int × Int}
    (hx : Ev (fun k => credenzaref22_Parse.j5 k (B (2 :: (p ++ s))) 5 2 ((nm 0 p : Nat) : Int) [] 0 0 0 0 0 0) x) : Ev (fun k => credenzaref22_Parse.f k (B (2 :: (p ++ s)))) x := by
  have hlen : (2 :: (p ++ s)).length = 5 + s.length := by rw [List.length_cons, List.length_append]; omega
  have t1 := lt32 p hp (by omega)
  refine R_head 2 (by decide) _ (cons_bys (by decide) (hp.app hs)) ?_
  show Ev (fun k => credenzaref22_Parse.j0 k _ false (2 : Int) 0 0 0 0 0 0 0) _
  refine Ev.step (fun k => by rw [credenzaref22_Parse.j0, if_neg (by decide), if_neg (by decide)]) ?_
  refine Ev.step (fun k => by rw [credenzaref22_Parse.j1, if_pos rfl]) ?_
  refine Ev.step (fun k => by rw [credenzaref22_Parse.j2, B_size, if_neg (by omega), if_neg (by decide)]) ?_
  refine Ev.bind (rnum_at (b := 2 :: (p ++ s)) (a := [2]) (p := p) (s := s) rfl hp rfl h (by decide) (by omega)) ?_
  rw [show ((nm 0 p : Nat) : Int) % 4294967296 = ((nm 0 p : Nat) : Int) by omega]
  refine Ev.step (fun k => by rw [credenzaref22_Parse.j3, if_neg (by decide)]) ?_
  exact hx
theorem R34_short (c : Nat) (hc : c = 3 ∨ c = 4) : Ev (fun k => credenzaref22_Parse.f k (B [c])) (0, 0, [], 0, 0, 0, 0, 0, 0, 16) := by
  refine R_head c (by omega) [] (cons_bys (by omega) (fun x hx => by simp at hx)) ?_
  refine Ev.step (fun k => by rw [credenzaref22_Parse.j0, if_neg (by decide), if_neg (by omega)]) ?_
  refine Ev.step (fun k => by rw [credenzaref22_Parse.j1, if_neg (by omega)]) ?_
  refine Ev.step (fun k => by rw [credenzaref22_Parse.j2, B_size, if_pos (by simp)]) ?_
  exact Ev.now _
theorem R34_long (c y : Nat) (hc : c = 3 ∨ c = 4) (hy : y < 256) (s : List Nat) (hs : Bys s) (hsl : s.length < 10000) {x : Int × Int × List Int × Int × Int × Int × Int × Int × Int × Int}
    (hx : Ev (fun k => credenzaref22_Parse.j5 k (B (c :: ([y] ++ s))) 2 (c : Int) 0 [] 0 0 0 0 0 (y : Int)) x) : Ev (fun k => credenzaref22_Parse.f k (B (c :: ([y] ++ s)))) x := by
  have hb : Bys (c :: ([y] ++ s)) := cons_bys (by omega) ((one_bys hy).app hs)
  have hlen : (c :: ([y] ++ s)).length = 2 + s.length := by simp; omega
  have e1 : bt (B (c :: ([y] ++ s))) 1 = (y : Int) := bt_B hb 1 (by omega)
  refine R_head c (by omega) _ hb ?_
  refine Ev.step (fun k => by rw [credenzaref22_Parse.j0, if_neg (by decide), if_neg (by omega)]) ?_
  refine Ev.step (fun k => by rw [credenzaref22_Parse.j1, if_neg (by omega)]) ?_
  refine Ev.step (fun k => by rw [credenzaref22_Parse.j2, B_size, if_neg (by omega), if_pos (by omega), if_pos (by omega), e1, wn y (by omega)]) ?_
  refine Ev.step (fun k => by rw [credenzaref22_Parse.j3, if_neg (by omega)]) ?_
  exact hx
/-! ### ask: all that is read -/
theorem be_nm : ∀ (n : Nat) (q : List Nat), q.length = n → Bys q → be n (nm 0 q) = q
  | 0, q, h, _ => by rw [List.eq_nil_of_length_eq_zero h]; rfl
  | n + 1, q, h, hq => by
    rcases List.eq_nil_or_concat q with rfl | ⟨p, c, rfl⟩
    · simp at h
    · have hc : c < 256 := hq c (by simp)
      have hp : Bys p := fun x hx => hq x (by simp [hx])
      have hl : p.length = n := by simpa using h
      have e : nm 0 (p ++ [c]) = nm 0 p * 256 + c := by rw [nm_app]; rfl
      rw [List.concat_eq_append, e, be, show (nm 0 p * 256 + c) / 256 = nm 0 p by omega, show (nm 0 p * 256 + c) % 256 = c by omega, be_nm n p hl hp]
theorem lt64 (q : List Nat) (hq : Bys q) (h : q.length ≤ 8) : nm 0 q < 18446744073709551616 := by
  have h1 := nm_lt q 0 0 hq (by decide)
  have h2 : 256 ^ (0 + q.length) ≤ 256 ^ 8 := Nat.pow_le_pow_right (by decide) (by omega)
  have h3 : (256 : Nat) ^ 8 = 18446744073709551616 := by decide
  omega
structure Rd (b : List Nat) (x : Int × Int × List Int × Int × Int × Int × Int × Int × Int × Int) : Prop where
  a : Ev (fun k => ask_Parse.f k (up b)) x
  r : Ev (fun k => credenzaref22_Parse.f k (B b)) x
  w : x.2.2.2.2.2.2.2.2.2 = 0 → Ev (fun k => ask_Bytes.f k x.1 x.2.1 x.2.2.1 x.2.2.2.1 x.2.2.2.2.1 x.2.2.2.2.2.1 x.2.2.2.2.2.2.1 x.2.2.2.2.2.2.2.1 x.2.2.2.2.2.2.2.2.1) (up b, 0)
theorem Rd.no {b : List Nat} {e : Int} (he : e ≠ 0) (a : Ev (fun k => ask_Parse.f k (up b)) (0, 0, [], 0, 0, 0, 0, 0, 0, e)) (r : Ev (fun k => credenzaref22_Parse.f k (B b)) (0, 0, [], 0, 0, 0, 0, 0, 0, e)) : Rd b (0, 0, [], 0, 0, 0, 0, 0, 0, e) := ⟨a, r, fun h => absurd h he⟩
theorem Rd.yes {b : List Nat} {a0 a1 : Int} {l : List Int} {a3 a4 a5 a6 a7 a8 : Int} (a : Ev (fun k => ask_Parse.f k (up b)) (if rngd a0 l a3 a4 a5 a6 a8 = true then (a0, a1, l, a3, a4, a5, a6, a7, a8, 0) else (0, 0, [], 0, 0, 0, 0, 0, 0, 11)))
    (r : Ev (fun k => credenzaref22_Parse.f k (B b)) (if rngd a0 l a3 a4 a5 a6 a8 = true then (a0, a1, l, a3, a4, a5, a6, a7, a8, 0) else (0, 0, [], 0, 0, 0, 0, 0, 0, 11)))
    (w : rngd a0 l a3 a4 a5 a6 a8 = true → Ev (fun k => ask_Bytes.f k a0 a1 l a3 a4 a5 a6 a7 a8) (up b, 0)) : ∃ x, Rd b x := by
  by_cases h : rngd a0 l a3 a4 a5 a6 a8 = true
  · rw [if_pos h] at a r
    exact ⟨_, a, r, fun _ => w h⟩
  · rw [if_neg h] at a r
    exact ⟨_, Rd.no (by decide) a r⟩
theorem put_1 {p1 p2 p3 p4 p5 p6 p7 r : List Nat} (h : Parts p1 p2 p3 p4 p5 p6 p7) (hr : Bys r) (hl : r.length = nm 0 p7) (hn : nm 0 p7 ≤ 1024)
    (hg : rngd 1 (up r) ((nm 0 p2 : Nat) : Int) (((nm 0 p3 : Nat) : Int) - 1) (wrap32 (((nm 0 p4 : Nat) : Int) % 4294967296)) ((nm 0 p5 : Nat) : Int) 0 = true) :
    Ev (fun k => ask_Bytes.f k 1 ((nm 0 p1 : Nat) : Int) (up r) ((nm 0 p2 : Nat) : Int) (((nm 0 p3 : Nat) : Int) - 1) (wrap32 (((nm 0 p4 : Nat) : Int) % 4294967296)) ((nm 0 p5 : Nat) : Int) ((nm 0 p6 : Nat) : Int) 0) (up (1 :: sub p1 p2 p3 p4 p5 p6 p7 r), 0) := by
  have t1 := lt32 p1 h.b1 (by rw [h.l1]; decide)
  have t4 := lt32 p4 h.b4 (by rw [h.l4]; decide)
  have t6 := lt64 p6 h.b6 (by rw [h.l6]; decide)
  have hg2 := hg
  simp only [rngd, if_true, Bool.and_eq_true, decide_eq_true_eq] at hg2
  obtain ⟨g0, g3, g4, g5, g6⟩ := hg2
  have e4 : wrap32 (((nm 0 p4 : Nat) : Int) % 4294967296) = ((nm 0 p4 : Nat) : Int) ∧ nm 0 p4 < 2147483648 := by
    unfold wrap32 at g5 ⊢
    omega
  rw [e4.1] at hg ⊢
  have hr0 : aright 1 ((nm 0 p1 : Nat) : Int) (up r) ((nm 0 p2 : Nat) : Int) (((nm 0 p3 : Nat) : Int) - 1) ((nm 0 p4 : Nat) : Int) ((nm 0 p5 : Nat) : Int) ((nm 0 p6 : Nat) : Int) 0 = 0 := by
    unfold aright
    rw [if_neg (by decide), if_neg (by simp [form]), if_neg (by rw [up_length]; omega), if_pos hg]
  have hB := Bytes_1 (nm 0 p1) (nm 0 p2) (nm 0 p3) (nm 0 p4) (nm 0 p5) (nm 0 p6) r hr (by omega) t1 (by omega) (by omega) e4.2 (by omega) t6 hr0
  rw [bs1, be_nm 4 p1 h.l1 h.b1, be_nm 2 p2 h.l2 h.b2, be_nm 1 p3 h.l3 h.b3, be_nm 4 p4 h.l4 h.b4, be_nm 1 p5 h.l5 h.b5, be_nm 8 p6 h.l6 h.b6, hl, be_nm 2 p7 h.l7 h.b7] at hB
  exact hB
theorem read_1 {p1 p2 p3 p4 p5 p6 p7 t : List Nat} (h : Parts p1 p2 p3 p4 p5 p6 p7) (ht : Bys t) (htl : t.length ≤ 3000) : ∃ x, Rd (1 :: sub p1 p2 p3 p4 p5 p6 p7 t) x := by
  by_cases hn : 1024 < nm 0 p7
  · exact ⟨_, Rd.no (by decide) (P1_big h ht (by omega) hn) (R1_big h ht (by omega) hn)⟩
  by_cases hm : t.length < nm 0 p7
  · exact ⟨_, Rd.no (by decide) (P1_mid h ht hm (by omega)) (R1_mid h ht hm (by omega))⟩
  obtain ⟨r, s, rfl, hr, br, bs, ms⟩ := cut_n (nm 0 p7) ht (by omega)
  have hlen : (1 :: sub p1 p2 p3 p4 p5 p6 p7 (r ++ s)).length = 23 + (nm 0 p7 + s.length) := by rw [List.length_cons, sub_len h, List.length_append]; omega
  rw [List.length_append] at htl
  by_cases hs : s.length = 0
  · obtain rfl := List.eq_nil_of_length_eq_zero hs
    refine Rd.yes (P1_long h br bs hr (by omega) (by decide) (J_ok _ _ _ _ _ _ _ _ _)) (R1_long h br bs hr (by omega) (by decide) (R5 _ (23 + nm 0 p7) _ _ _ _ _ _ _ _ _ (by rw [up_length]; omega) (.inl rfl) (by simp [form]) (by rw [hlen]; rfl))) (fun hg => ?_)
    rw [List.append_nil]
    exact put_1 h br hr (by omega) hg
  · exact ⟨_, Rd.no (by decide) (P1_long h br bs hr (by omega) (by omega) (J_more _ (by rw [up_length]; omega) _ _ _ _ _ _ _ _ _)) (R1_long h br bs hr (by omega) (by omega) (R5_more _ _ _ _ _ _ _ _ _ _ _ (by omega)))⟩
theorem read_2 (q : List Nat) (hq : Bys q) (hl : q.length ≤ 3000) : ∃ x, Rd (2 :: q) x := by
  by_cases h4 : q.length < 4
  · exact ⟨_, Rd.no (by decide) (P2_short q hq h4) (R2_short q hq h4)⟩
  obtain ⟨p, s, rfl, hp, bp, bs, ms⟩ := cut_n 4 hq (by omega)
  have hlen : (2 :: (p ++ s)).length = 5 + s.length := by rw [List.length_cons, List.length_append]; omega
  rw [List.length_append] at hl
  by_cases hs : s.length = 0
  · obtain rfl := List.eq_nil_of_length_eq_zero hs
    refine Rd.yes (P2_long p [] bp bs hp (by decide) (J_ok _ _ _ _ _ _ _ _ _)) (R2_long p [] bp bs hp (by decide) (R5 _ 5 _ _ _ _ _ _ _ _ _ (by decide) (.inr (.inl rfl)) (by simp [form]) hlen)) (fun _ => ?_)
    have hB := Bytes_2 (nm 0 p) (lt32 p bp (by omega))
    rw [be_nm 4 p hp bp] at hB
    rw [List.append_nil]
    exact hB
  · exact ⟨_, Rd.no (by decide) (P2_long p s bp bs hp (by omega) (J_more _ (by rw [up_length]; omega) _ _ _ _ _ _ _ _ _)) (R2_long p s bp bs hp (by omega) (R5_more _ 5 _ _ _ _ _ _ _ _ _ (by omega)))⟩
theorem read_34 (c : Nat) (hc : c = 3 ∨ c = 4) (q : List Nat) (hq : Bys q) (hl : q.length ≤ 3000) : ∃ x, Rd (c :: q) x := by
  rcases q with _ | ⟨y, s⟩
  · exact ⟨_, Rd.no (by decide) (P34_short c hc) (R34_short c hc)⟩
  have hy : y < 256 := hq y (List.mem_cons_self ..)
  have bs : Bys s := fun x hx => hq x (List.mem_cons_of_mem _ hx)
  rw [List.length_cons] at hl
  have hk : (c : Int) = 1 ∨ (c : Int) = 2 ∨ (c : Int) = 3 ∨ (c : Int) = 4 := by omega
  have hf : form (c : Int) 0 [] 0 0 0 0 0 (y : Int) := by
    unfold form
    rw [if_neg (by omega), if_neg (by omega)]
    exact ⟨rfl, rfl, rfl, rfl, rfl, rfl, rfl⟩
  by_cases hs : s.length = 0
  · obtain rfl := List.eq_nil_of_length_eq_zero hs
    refine Rd.yes (P34_long c y hc hy [] bs (by decide) (J_ok _ _ _ _ _ _ _ _ _)) (R34_long c y hc hy [] bs (by decide) (R5 _ 2 _ _ _ _ _ _ _ _ _ (by decide) hk hf (by simp))) (fun hg => ?_)
    refine Bytes_34 c y hc (by omega) (fun h3 => ?_)
    subst h3
    have g8 : (1 : Int) ≤ (y : Int) ∧ (y : Int) ≤ 255 := by simpa [rngd] using hg
    omega
  · exact ⟨_, Rd.no (by decide) (P34_long c y hc hy s bs (by omega) (J_more _ (by rw [up_length]; omega) _ _ _ _ _ _ _ _ _)) (R34_long c y hc hy s bs (by omega) (R5_more _ 2 _ _ _ _ _ _ _ _ _ (by simp; omega)))⟩
theorem read_all (b : List Nat) (hb : Bys b) (hl : b.length ≤ 3000) : ∃ x, Rd b x := by
  rcases b with _ | ⟨c, q⟩
  · exact ⟨_, Rd.no (by decide) P_nil R_nil⟩
  have hc : c < 256 := hb c (List.mem_cons_self ..)
  have hq : Bys q := fun x hx => hb x (List.mem_cons_of_mem _ hx)
  rw [List.length_cons] at hl
  by_cases ho : c < 1 ∨ 4 < c
  · exact ⟨_, Rd.no (by decide) (P_odd c hc ho q hq (by omega)) (R_odd c ho q hb)⟩
  by_cases h1 : c = 1
  · subst h1
    by_cases h22 : q.length < 22
    · exact ⟨_, Rd.no (by decide) (P1_short q hq h22) (R1_short q hq h22)⟩
    obtain ⟨p1, p2, p3, p4, p5, p6, p7, t, h, ht, rfl⟩ := parts_of hq (by omega)
    rw [sub_len h] at hl
    exact read_1 h ht (by omega)
  by_cases h2 : c = 2
  · subst h2
    exact read_2 q hq (by omega)
  exact read_34 c (by omega) q hq (by omega)
theorem AskParses : credenzalaw22_AskParses.Pure := by
  intro l0 _ _ hw
  obtain ⟨b, hb, rfl⟩ := wf_bys hw
  refine Ev.rds ?_
  unfold credenzalaw22_AskParses.f
  rw [up_length]
  refine Ev.ite (fun _ => Ev.bind awake_f (Ev.now _)) (fun h => ?_)
  obtain ⟨x, X⟩ := read_all b hb (by omega)
  refine Ev.bind X.a (Ev.bind X.r (Ev.pos rfl (Ev.sb (Ev.sb ?_))))
  simp only [beq_self_eq_true, Bool.and_self, Bool.not_true]
  refine Ev.step (fun k => by rw [credenzalaw22_AskParses.j0, if_neg (by decide)]) ?_
  refine Ev.ite (fun h0 => ?_) (fun _ => Ev.bind awake_f (Ev.now _))
  exact Ev.bind (X.w h0) (Ev.pos rfl (Ev.pos rfl (Ev.bind awake_f (Ev.now _))))

end Go.Proofs.Ytehepnmagcjkaaa.Pure
