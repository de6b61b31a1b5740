/- For every list of bytes and every list of calls the law SealReads returns true: no conditions. -/
import Derived.Test.YtlkelicgbjjgiaaPSealReadsx
namespace Go.Proofs.Ytlkelicgbjjgiaa.Pure
open Go.RowKit Go.Proofs.Ytlkelicgbjjgiaa.PSealReads Go.Proofs.YtlkelicgbjjgiaaW.PrintWords Go.Proofs.YtlkelicgbjjgiaaW.PrintLast Go.Proofs.YtlkelicgbjjgiaaW.PrintMore
set_option linter.unusedVariables false
set_option linter.unusedSimpArgs false
/-! ### rounds -/
theorem Ev.pos {α : Type} {c : Prop} [Decidable c] {X Y : Nat → Option α} {r : α} (h : c) (k : Ev X r) : Ev (fun n => if c then X n else Y n) r := by
  obtain ⟨K, k⟩ := k
  exact ⟨K, fun n hn => (if_pos h).trans (k n hn)⟩
theorem Ev.neg {α : Type} {c : Prop} [Decidable c] {X Y : Nat → Option α} {r : α} (h : ¬ c) (k : Ev Y r) : Ev (fun n => if c then X n else Y n) r := by
  obtain ⟨K, k⟩ := k
  exact ⟨K, fun n hn => (if_neg h).trans (k n hn)⟩
theorem Ev.sb {α β : Type} {f : Nat → α → Option β} {a : α} {r : β} (k : Ev (fun n => f n a) r) : Ev (fun n => (some a).bind (f n)) r := k
theorem Ev.eq {α : Type} {g : Nat → Option α} {r s : α} (k : Ev g r) (h : r = s) : Ev g s := h ▸ k
theorem Ev.one {α : Type} {g h : Nat → Option α} {r : α} (hg : Ev g r) (hh : ∀ n, g n = h n) : Ev h r := Ev.congr (fun n => (hh n).symm) hg
/-- A test, either way. -/
theorem Ev.ite {α : Type} {c : Prop} [Decidable c] {X Y : Nat → Option α} {r : α} (h : c → Ev X r) (k : ¬ c → Ev Y r) : Ev (fun n => if c then X n else Y n) r := by
  by_cases hc : c
  · exact Ev.pos hc (h hc)
  · exact Ev.neg hc (k hc)
theorem w64 {x : Int} (h0 : -9223372036854775808 ≤ x) (h1 : x ≤ 9223372036854775807) : wrap64 x = x := by unfold wrap64; omega
theorem wu64 {x : Int} (h0 : 0 ≤ x) (h1 : x < 18446744073709551616) : IntKind.u64.wrap x = x := by
  simp [IntKind.wrap, IntKind.bits, IntKind.signed]
  omega
theorem td_nonneg {x y : Int} (h : 0 ≤ x) : Int.tdiv x y = x / y := Int.tdiv_eq_ediv_of_nonneg h
theorem tm_nonneg {x y : Int} (h : 0 ≤ x) : Int.tmod x y = x % y := Int.tmod_eq_emod_of_nonneg h
theorem wf_i64 {x : Int} (h : (Lit.int .i64 x).wf = true) : -9223372036854775808 ≤ x ∧ x ≤ 9223372036854775807 := by
  simp [Lit.wf, IntKind.min, IntKind.max, IntKind.bits, IntKind.signed] at h
  omega
theorem wf_u64 {x : Int} (h : (Lit.int .u64 x).wf = true) : 0 ≤ x ∧ x < 18446744073709551616 := by
  simp [Lit.wf, IntKind.min, IntKind.max, IntKind.bits, IntKind.signed] at h
  omega
theorem wn (x : Nat) (h : x < 9223372036854775808) : wrap64 (x : Int) = (x : Int) := w64 (by omega) (by omega)
theorem wadd (x y : Nat) (h : x + y < 9223372036854775808) : wrap64 ((x : Int) + (y : Int)) = ((x + y : Nat) : Int) := by
  rw [← Int.natCast_add]
  exact wn _ h
theorem wsucc (x : Nat) (h : x + 1 < 9223372036854775808) : wrap64 ((x : Int) + 1) = ((x + 1 : Nat) : Int) := wadd x 1 h
theorem wun (x : Nat) (h : x < 18446744073709551616) : IntKind.u64.wrap (x : Int) = (x : Int) := wu64 (by omega) (by omega)
/-! ### bytes as natural numbers -/
def up (W : List Nat) : List Int := W.map fun (n : Nat) => (n : Int)
theorem up_length (W : List Nat) : (up W).length = W.length := by simp [up]
theorem up_app (a b : List Nat) : up (a ++ b) = up a ++ up b := by simp [up]
theorem up_take (a : List Nat) (n : Nat) : (up a).take n = up (a.take n) := by simp [up, List.map_take]
theorem up_drop (a : List Nat) (n : Nat) : (up a).drop n = up (a.drop n) := by simp [up, List.map_drop]
theorem up_one (x : Nat) : up [x] = [(x : Int)] := rfl
theorem up_nil : up [] = [] := rfl
theorem rd_up (W : List Nat) (j : Nat) : rd (up W) (j : Int) = ((W.getD j 0 : Nat) : Int) := by
  unfold rd up
  rw [Int.toNat_natCast, List.getD_eq_getElem?_getD, List.getD_eq_getElem?_getD, List.getElem?_map]
  cases W[j]? <;> rfl
theorem set_up (W : List Nat) (j x : Nat) : (up W).set j (x : Int) = up (W.set j x) := by
  unfold up
  rw [List.map_set]
theorem up_of (xs : List Int) (h : ∀ x ∈ xs, 0 ≤ x) : xs = up (xs.map Int.toNat) := by
  induction xs with
  | nil => rfl
  | cons x xs ih =>
    have h1 : ∀ y ∈ xs, 0 ≤ y := fun y hy => h y (List.mem_cons_of_mem _ hy)
    have h2 : 0 ≤ x := h x (List.mem_cons_self ..)
    rw [List.map_cons]
    show x :: xs = ((x.toNat : Nat) : Int) :: up (xs.map Int.toNat)
    rw [← ih h1, Int.toNat_of_nonneg h2]
theorem up_inj {a b : List Nat} (h : up a = up b) : a = b := by
  have : ∀ l : List Nat, (up l).map Int.toNat = l := by
    intro l
    rw [up, List.map_map]
    exact (List.map_congr_left (fun x _ => Int.toNat_natCast x)).trans (List.map_id _)
  rw [← this a, ← this b, h]
def Bys (l : List Nat) : Prop := ∀ x ∈ l, x < 256
theorem Bys.app {a b : List Nat} (ha : Bys a) (hb : Bys b) : Bys (a ++ b) := by
  intro x hx
  rcases List.mem_append.1 hx with h | h
  · exact ha x h
  · exact hb x h
theorem Bys.take {a : List Nat} (ha : Bys a) (n : Nat) : Bys (a.take n) := fun x hx => ha x (List.mem_of_mem_take hx)
theorem Bys.drop {a : List Nat} (ha : Bys a) (n : Nat) : Bys (a.drop n) := fun x hx => ha x (List.mem_of_mem_drop hx)
theorem Bys.getD {a : List Nat} (ha : Bys a) (n : Nat) : a.getD n 0 < 256 := by
  rw [List.getD_eq_getElem?_getD]
  by_cases h : n < a.length
  · rw [List.getElem?_eq_getElem h]
    exact ha _ (List.getElem_mem h)
  · rw [List.getElem?_eq_none (by omega)]
    decide
theorem wf_bys {xs : List Int} (h : ∀ x ∈ xs, (Lit.int .u8 x).wf = true) : ∃ l, Bys l ∧ xs = up l := by
  have h' : ∀ x ∈ xs, 0 ≤ x ∧ x < 256 := by
    intro x hx
    have := h x hx
    simp [Lit.wf, IntKind.min, IntKind.max, IntKind.bits, IntKind.signed] at this
    omega
  refine ⟨xs.map Int.toNat, ?_, up_of xs (fun x hx => (h' x hx).1)⟩
  intro y hy
  obtain ⟨x, hx, rfl⟩ := List.mem_map.1 hy
  have := h' x hx
  omega
/-- the text of bytes -/
def B (l : List Nat) : ByteArray := strOfNums (up l)
theorem B_size (l : List Nat) : (B l).size = l.length := by rw [B, strOfNums_size, up_length]
theorem B_list (l : List Nat) : (B l).data.toList = l.map UInt8.ofNat := by
  rw [B, strOfNums_data, up, List.map_map]
  rfl
theorem ba_ext {a b : ByteArray} (h : a.data.toList = b.data.toList) : a = b := by
  cases a; cases b
  simp only at h
  congr 1
  exact Array.toList_inj.1 h
theorem B_app (a b : List Nat) : B a ++ B b = B (a ++ b) := by
  apply ba_ext
  rw [ByteArray.data_append, Array.toList_append, B_list, B_list, B_list, List.map_append]
theorem B_nil : (⟨#[]⟩ : ByteArray) = B [] := rfl
theorem toList_data (a : ByteArray) : a.toList = a.data.toList := by
  exact ByteArray.toList_eq a
theorem map_u8_inj : ∀ {a b : List Nat}, Bys a → Bys b → a.map UInt8.ofNat = b.map UInt8.ofNat → a = b
  | [], [], _, _, _ => rfl
  | [], y :: ys, _, _, h => by simp at h
  | x :: xs, [], _, _, h => by simp at h
  | x :: xs, y :: ys, ha, hb, h => by
    rw [List.map_cons, List.map_cons] at h
    injection h with h1 h2
    have e1 : (UInt8.ofNat x).toNat = (UInt8.ofNat y).toNat := by rw [h1]
    rw [UInt8.toNat_ofNat', UInt8.toNat_ofNat'] at e1
    have hx := ha x (List.mem_cons_self ..)
    have hy := hb y (List.mem_cons_self ..)
    rw [Nat.mod_eq_of_lt (by omega), Nat.mod_eq_of_lt (by omega)] at e1
    rw [e1, map_u8_inj (fun z hz => ha z (List.mem_cons_of_mem _ hz)) (fun z hz => hb z (List.mem_cons_of_mem _ hz)) h2]
theorem B_inj {a b : List Nat} (ha : Bys a) (hb : Bys b) (h : (B a).toList = (B b).toList) : a = b := by
  rw [toList_data, toList_data, B_list, B_list] at h
  exact map_u8_inj ha hb h
theorem bt_B {l : List Nat} (hl : Bys l) (j : Nat) (hj : j < l.length) : bt (B l) (j : Int) = ((l.getD j 0 : Nat) : Int) := by
  unfold bt
  rw [dif_pos (by rw [Int.toNat_natCast, B_size]; exact hj)]
  have hx := hl.getD j
  have e : ∀ h, ((B l)[(j : Int).toNat]'h) = UInt8.ofNat (l.getD j 0) := by
    intro h
    have : (B l).data.toList[j]? = some (UInt8.ofNat (l.getD j 0)) := by
      rw [B_list, List.getElem?_map, List.getD_eq_getElem?_getD, List.getElem?_eq_getElem hj]
      rfl
    show (B l).data[(j : Int).toNat] = _
    have h3 : (B l).data[j]? = some (UInt8.ofNat (l.getD j 0)) := by rw [← Array.getElem?_toList]; exact this
    have h4 := (Array.getElem?_eq_some_iff.1 h3).2
    exact h4
  rw [e, UInt8.toNat_ofNat', Nat.mod_eq_of_lt (by omega)]
/-! ### sums and numbers of bytes -/
def sstep (h c : Nat) : Nat := (h ^^^ c) * 16777619 % 4294967296
def sm (h : Nat) (l : List Nat) : Nat := l.foldl sstep h
theorem sstep_lt (h c : Nat) : sstep h c < 4294967296 := Nat.mod_lt _ (by decide)
theorem sm_lt : ∀ (l : List Nat) (h : Nat), h < 4294967296 → sm h l < 4294967296
  | [], h, hh => hh
  | c :: l, h, _ => sm_lt l (sstep h c) (sstep_lt h c)
/-- n bytes of v, the highest first -/
def be : Nat → Nat → List Nat
  | 0, _ => []
  | n + 1, v => be n (v / 256) ++ [v % 256]
theorem be_length : ∀ n v, (be n v).length = n
  | 0, _ => rfl
  | n + 1, v => by rw [be, List.length_append, be_length n]; rfl
theorem be_bys : ∀ n v, Bys (be n v)
  | 0, _ => fun x hx => by simp [be] at hx
  | n + 1, v => (be_bys n _).app (fun x hx => by
      rw [List.mem_singleton] at hx
      subst hx
      exact Nat.mod_lt _ (by decide))
theorem be_head : ∀ n v, be (n + 1) v = (v / 256 ^ n % 256) :: be n v
  | 0, v => by simp [be]
  | n + 1, v => by
    rw [be, be_head n (v / 256), be, Nat.div_div_eq_div_mul, Nat.pow_succ, Nat.mul_comm 256]
    rfl
theorem be_inj : ∀ n {v w : Nat}, v < 256 ^ n → w < 256 ^ n → be n v = be n w → v = w
  | 0, v, w, hv, hw, _ => by simp at hv hw; omega
  | n + 1, v, w, hv, hw, h => by
    rw [be, be] at h
    have h1 := List.append_inj h (by rw [be_length, be_length])
    rw [Nat.pow_succ] at hv hw
    have h2 := be_inj n (Nat.div_lt_of_lt_mul (by rw [Nat.mul_comm]; exact hv)) (Nat.div_lt_of_lt_mul (by rw [Nat.mul_comm]; exact hw)) h1.1
    have h3 : v % 256 = w % 256 := by simpa using h1.2
    omega
theorem bits_xor (k : IntKind) (j : Nat) (hj : j ≤ k.bits) (hk : ∀ n : Int, 0 ≤ n → n < 2 ^ j → k.wrap n = n) (a b : Nat) (ha : a < 2 ^ j) (hb : b < 2 ^ j) :
    Go.bits .xor k a b = ((a ^^^ b : Nat) : Int) := by
  have hp : 2 ^ j ≤ 2 ^ k.bits := Nat.pow_le_pow_right (by decide) hj
  have ha' : a % 2 ^ k.bits = a := Nat.mod_eq_of_lt (Nat.lt_of_lt_of_le ha hp)
  have hb' : b % 2 ^ k.bits = b := Nat.mod_eq_of_lt (Nat.lt_of_lt_of_le hb hp)
  simp only [Go.bits, BitVec.ofInt_natCast, BitVec.toNat_xor, BitVec.toNat_ofNat, ha', hb']
  refine hk _ (Int.natCast_nonneg _) ?_
  have := Nat.xor_lt_two_pow ha hb
  exact_mod_cast this
theorem xor32 (a b : Nat) (ha : a < 4294967296) (hb : b < 4294967296) : Go.bits .xor .u32 a b = ((a ^^^ b : Nat) : Int) :=
  bits_xor .u32 32 (by decide) (fun n h0 h1 => by rw [IntKind.wrap_u32]; exact Int.emod_eq_of_lt h0 (by simpa using h1)) a b (by simpa using ha) (by simpa using hb)
theorem xor64 (a b : Nat) (ha : a < 18446744073709551616) (hb : b < 18446744073709551616) : Go.bits .xor .u64 a b = ((a ^^^ b : Nat) : Int) :=
  bits_xor .u64 64 (by decide) (fun n h0 h1 => wu64 h0 (by simpa using h1)) a b (by simpa using ha) (by simpa using hb)
theorem xor_lt32 {a b : Nat} (ha : a < 4294967296) (hb : b < 256) : a ^^^ b < 4294967296 :=
  Nat.xor_lt_two_pow (n := 32) (by simpa using ha) (by simp; omega)
theorem drop_getD (l : List Nat) (i : Nat) (h : i < l.length) : l.drop i = l.getD i 0 :: l.drop (i + 1) := by
  rw [List.drop_eq_getElem_cons h, List.getD_eq_getElem?_getD, List.getElem?_eq_getElem h]
  rfl
/-- the code's own step -/
theorem sstep_z (h c : Nat) (hh : h < 4294967296) (hc : c < 256) : ((Go.bits .xor .u32 (h : Int) ((c : Int) % 4294967296)) * 16777619) % 4294967296 = ((sstep h c : Nat) : Int) := by
  rw [show ((c : Nat) : Int) % 4294967296 = (c : Int) by omega, xor32 h c hh (by omega)]
  unfold sstep
  omega
theorem Sum_l (l : List Nat) (hl : Bys l) (hn : l.length < 1000000) : ∀ (d i h : Nat), l.length - i = d → i ≤ l.length → h < 4294967296 →
    Ev (fun k => seal_Sum.l0 k (h : Int) (up l) (l.length : Int) (i : Int)) ((sm h (l.drop i) : Nat) : Int) := by
  intro d
  induction d with
  | zero =>
    intro i h hd hi hh
    obtain rfl : i = l.length := by omega
    refine Ev.step (fun k => by rw [seal_Sum.l0, if_neg (by omega)]) ?_
    rw [List.drop_length]
    exact Ev.now _
  | succ d ih =>
    intro i h hd hi hh
    refine Ev.step (fun k => by rw [seal_Sum.l0, if_pos (by omega), if_pos (by omega), if_pos (by rw [up_length]; omega), rd_up, sstep_z h _ hh (hl.getD i), wsucc _ (by omega)]) ?_
    rw [drop_getD l i (by omega)]
    exact ih (i + 1) _ (by omega) (by omega) (sstep_lt _ _)
theorem Sum_f (l : List Nat) (hl : Bys l) (hn : l.length < 1000000) : Ev (fun k => seal_Sum.f k (up l)) ((sm 2166136261 l : Nat) : Int) := by
  unfold seal_Sum.f
  rw [up_length]
  exact Sum_l l hl hn l.length 0 2166136261 (by omega) (by omega) (by decide)
theorem shr_u64 (x s : Nat) (hs : s ≤ 64) : shr .u64 (x : Int) (s : Int) = ((x / 2 ^ s : Nat) : Int) := by
  unfold shr
  rw [Int.toNat_natCast, Nat.min_eq_left (show s ≤ IntKind.u64.bits from hs)]
  simp
theorem two8 (i : Nat) : 2 ^ (8 * i) = 256 ^ i := by rw [Nat.pow_mul]
theorem Put_l (v : Nat) : ∀ (n : Nat) (l : List Nat), n ≤ 8 → l.length + n < 1000000 →
    Ev (fun k => seal_Put.l0 k (v : Int) (up l) ((n : Int) - 1)) (up (l ++ be n v)) := by
  intro n
  induction n with
  | zero =>
    intro l hn hl
    refine Ev.step (fun k => by rw [seal_Put.l0, if_neg (by omega)]) ?_
    rw [be, List.append_nil]
    exact Ev.now _
  | succ n ih =>
    intro l hn hl
    have e1 : (((n + 1 : Nat) : Int) - 1) = (n : Int) := by omega
    have e2 : wrap64 (8 * (n : Int)) = ((8 * n : Nat) : Int) := by
      rw [w64 (by omega) (by omega)]
      omega
    have e3 : wrap64 ((n : Int) - 1) = (n : Int) - 1 := w64 (by omega) (by omega)
    have e4 : shr .u64 (v : Int) ((8 * n : Nat) : Int) % 256 = ((v / 256 ^ n % 256 : Nat) : Int) := by
      rw [shr_u64 _ _ (by omega), two8]
      omega
    refine Ev.step (fun k => by rw [seal_Put.l0, e1, if_pos (by omega), e2, if_pos (by omega), if_pos (by rw [up_length]; omega), e3, e4, ← up_one, ← up_app]) ?_
    have h := ih (l ++ [v / 256 ^ n % 256]) (by omega) (by
      rw [List.length_append, List.length_singleton]
      omega)
    rw [be_head]
    rwa [List.append_assoc] at h
theorem Clone_f (l : List Nat) (hl : l.length < 1000000) : slices_Clone_byte_byte.f (up l) = some (up l) := by
  unfold slices_Clone_byte_byte.f
  rw [if_pos (by rw [up_length]; omega)]
theorem bClone_f (l : List Nat) (hl : l.length < 1000000) : bytes_Clone.f (up l) = some (up l) := by
  unfold bytes_Clone.f
  rw [if_pos (by rw [up_length]; omega)]
def wide (n : Int) : Nat := min n.toNat 8
theorem wide_f (n : Int) : seal_wide.f n = some ((wide n : Nat) : Int) := by
  unfold seal_wide.f wide mn mx
  congr 1
  repeat' split
  all_goals omega
/-- bytes with their sum -/
def cl (l : List Nat) : List Nat := l ++ be 4 (sm 2166136261 l)
theorem Put_f (l : List Nat) (v : Nat) (n : Int) (hl : l.length < 900000) : Ev (fun k => seal_Put.f k (up l) (v : Int) n) (up (l ++ be (wide n) v)) := by
  have hw : wide n ≤ 8 := Nat.min_le_right _ _
  unfold seal_Put.f
  simp only [Clone_f l (by omega), wide_f, Option.bind_some]
  rw [w64 (by omega) (by omega)]
  exact Put_l v _ l hw (by omega)
theorem Close_f (l : List Nat) (hl : Bys l) (hn : l.length < 900000) : Ev (fun k => seal_Close.f k (up l)) (up (cl l)) := by
  unfold seal_Close.f
  refine Ev.bind (Sum_f l hl (by omega)) ?_
  have hs := sm_lt l 2166136261 (by decide)
  rw [wun _ (by omega)]
  exact Ev.bind (Put_f l _ 4 hn) (Ev.now _)
theorem cl_length (l : List Nat) : (cl l).length = l.length + 4 := by rw [cl, List.length_append, be_length]
theorem cl_bys {l : List Nat} (h : Bys l) : Bys (cl l) := h.app (be_bys _ _)
theorem Open_short (l : List Nat) (h : l.length < 4) : Ev (fun k => seal_Open.f k (up l)) ([], 16) := by
  unfold seal_Open.f
  rw [up_length, w64 (by omega) (by omega)]
  exact Ev.pos (by omega) (Ev.now _)
theorem Open_long (l : List Nat) (hl : Bys l) (h : 4 ≤ l.length) (hn : l.length < 900000) :
    Ev (fun k => seal_Open.f k (up l)) (if l = cl (l.take (l.length - 4)) then (up (l.take (l.length - 4)), 0) else ([], 22)) := by
  unfold seal_Open.f
  rw [up_length, w64 (by omega) (by omega)]
  have e : ((l.length : Int) - 4).toNat = l.length - 4 := by omega
  refine Ev.neg (by omega) (Ev.pos (by omega) (Ev.pos (by omega) ?_))
  rw [e, up_take]
  have hb := hl.take (l.length - 4)
  have hlen : (l.take (l.length - 4)).length < 900000 := by rw [List.length_take]; omega
  refine Ev.bind (Close_f _ hb hlen) ?_
  unfold bytes_Equal.f
  refine Ev.sb ?_
  refine Ev.ite (fun hq => ?_) (fun hq => ?_)
  · have hq' : l = cl (l.take (l.length - 4)) := B_inj hl (cl_bys hb) (by rw [beq_iff_eq] at hq; exact hq)
    rw [if_pos hq', bClone_f _ (by omega)]
    exact Ev.sb (Ev.now _)
  · rw [if_neg (fun hc => hq (by
      rw [beq_iff_eq]
      exact congrArg (fun z => (strOfNums (up z)).toList) hc))]
    exact Ev.now _
theorem Open_cl (l : List Nat) (hl : Bys l) (hn : l.length < 800000) : Ev (fun k => seal_Open.f k (up (cl l))) (up l, 0) := by
  have h := Open_long (cl l) (cl_bys hl) (by rw [cl_length]; omega) (by rw [cl_length]; omega)
  have e : (cl l).take ((cl l).length - 4) = l := by
    rw [cl_length, Nat.add_sub_cancel, cl, List.take_left]
  rw [e, if_pos rfl] at h
  exact h
theorem awake_f : Ev (fun k => credenzalaw06_awake.f k) true := Ev.of credenzalaw06_awake.mono (k := 40) (by decide +kernel)
/-! ### numbers of bytes -/
def nstep (v c : Nat) : Nat := v * 256 + c
def nm (v : Nat) (l : List Nat) : Nat := l.foldl nstep v
theorem nm_lt : ∀ (l : List Nat) (v j : Nat), Bys l → v < 256 ^ j → nm v l < 256 ^ (j + l.length)
  | [], v, j, _, h => h
  | c :: l, v, j, hl, h => by
    have hc := hl c (List.mem_cons_self ..)
    have h1 : nstep v c < 256 ^ (j + 1) := by
      unfold nstep
      rw [Nat.pow_succ]
      omega
    have := nm_lt l (nstep v c) (j + 1) (fun x hx => hl x (List.mem_cons_of_mem _ hx)) h1
    rw [List.length_cons, show j + (l.length + 1) = j + 1 + l.length by omega]
    exact this
theorem nm_app (a b : List Nat) (v : Nat) : nm v (a ++ b) = nm (nm v a) b := by unfold nm; rw [List.foldl_append]
theorem nm_be : ∀ n v, nm 0 (be n v) = v % 256 ^ n
  | 0, v => by rw [Nat.pow_zero, Nat.mod_one]; rfl
  | n + 1, v => by
    rw [be, nm_app, nm_be n]
    show nstep _ _ = _
    unfold nstep
    rw [Nat.pow_succ, Nat.mul_comm (256 ^ n), Nat.mod_mul]
    omega
theorem p8 : (256 : Nat) ^ 8 = 18446744073709551616 := by decide
theorem pow_le8 {j : Nat} (h : j ≤ 8) : 256 ^ j ≤ 18446744073709551616 := by
  rw [← p8]
  exact Nat.pow_le_pow_right (by decide) h
theorem pow_le7 {j : Nat} (h : j ≤ 7) : 256 ^ j ≤ 72057594037927936 := by
  have : (256 : Nat) ^ 7 = 72057594037927936 := by decide
  rw [← this]
  exact Nat.pow_le_pow_right (by decide) h
theorem or_byte {v c : Nat} (hv : v < 72057594037927936) (hc : c < 256) : Go.bits .or .u64 (IntKind.u64.wrap ((v : Int) * 256)) (IntKind.u64.wrap (c : Int)) = ((nstep v c : Nat) : Int) := by
  rw [wu64 (x := (v : Int) * 256) (by omega) (by omega), wun c (by omega), show (v : Int) * 256 = ((v * 256 : Nat) : Int) by omega]
  have hb := (bits_nat .u64 64 (by decide) (fun n h0 h1 => wu64 h0 (by simpa using h1)) (v * 256) c (by simp; omega) (by simp; omega)).2
  rw [hb]
  unfold nstep
  have := Nat.two_pow_add_eq_or_of_lt (i := 8) (by simpa using hc) v
  rw [show 2 ^ 8 * v = v * 256 by omega] at this
  rw [this]
theorem Num_l (l : List Nat) (hl : Bys l) (hn : l.length ≤ 8) (s : List Int) (b : Bool) : ∀ (d i v : Nat), l.length - i = d → i ≤ l.length → v < 256 ^ i →
    Ev (fun k => seal_Reader_Num.l0 k (v : Int) (up l) (l.length : Int) (i : Int) s b) (((nm v (l.drop i) : Nat) : Int), s, b) := by
  intro d
  induction d with
  | zero =>
    intro i v hd hi hv
    obtain rfl : i = l.length := by omega
    refine Ev.step (fun k => by rw [seal_Reader_Num.l0, if_neg (by omega)]) ?_
    rw [List.drop_length]
    exact Ev.now _
  | succ d ih =>
    intro i v hd hi hv
    have h7 := pow_le7 (j := i) (by omega)
    have hc := hl.getD i
    refine Ev.step (fun k => by rw [seal_Reader_Num.l0, if_pos (by omega), if_pos (by omega), if_pos (by rw [up_length]; omega), rd_up, or_byte (Nat.lt_of_lt_of_le hv h7) hc, wsucc _ (by omega)]) ?_
    rw [drop_getD l i (by omega)]
    refine ih (i + 1) _ (by omega) (by omega) ?_
    unfold nstep
    rw [Nat.pow_succ]
    clear ih h7
    omega
/-- a reader's state: what is left, and whether it was short -/
theorem Take_f (l : List Nat) (b : Bool) (n : Nat) (hn : l.length < 1000000) :
    seal_Reader_Take.f (up l) b (n : Int) = if l.length < n then some (up [], up [], true) else some (up (l.take n), up (l.drop n), b) := by
  unfold seal_Reader_Take.f
  rw [up_length]
  by_cases h : l.length < n
  · rw [if_pos h, if_pos (by omega)]
    rfl
  · rw [if_neg h, if_neg (by omega), Int.toNat_natCast, up_take, up_drop, bClone_f _ (by rw [List.length_take]; omega), Option.bind_some]
theorem Num_f (l : List Nat) (hl : Bys l) (b : Bool) (n : Int) (hn : l.length < 1000000) :
    Ev (fun k => seal_Reader_Num.f k (up l) b n) (if l.length < wide n then (((0 : Nat) : Int), up [], true) else (((nm 0 (l.take (wide n)) : Nat) : Int), up (l.drop (wide n)), b)) := by
  unfold seal_Reader_Num.f
  simp only [wide_f, Option.bind_some, Take_f l b (wide n) hn]
  have hw : wide n ≤ 8 := Nat.min_le_right _ _
  by_cases h : l.length < wide n
  · rw [if_pos h, if_pos h]
    exact Ev.sb (Num_l [] (fun x hx => by simp at hx) (by decide) _ _ 0 0 0 rfl (by decide) (by decide))
  · rw [if_neg h, if_neg h]
    have hlen : (l.take (wide n)).length ≤ 8 := by rw [List.length_take]; omega
    refine Ev.sb ?_
    show Ev (fun k => seal_Reader_Num.l0 k 0 (up (l.take (wide n))) ((up (l.take (wide n))).length : Int) 0 (up (l.drop (wide n))) b) _
    rw [up_length]
    exact Num_l (l.take (wide n)) (hl.take _) hlen (up (l.drop (wide n))) b _ 0 0 rfl (Nat.zero_le _) (by decide)
theorem rnum_z (v c : Nat) (hv : v < 72057594037927936) (hc : c < 256) : IntKind.u64.wrap ((IntKind.u64.wrap ((v : Int) * 256)) + (IntKind.u64.wrap (c : Int))) = ((nstep v c : Nat) : Int) := by
  rw [wu64 (x := (v : Int) * 256) (by omega) (by omega), wun c (by omega), wu64 (by omega) (by omega)]
  unfold nstep
  omega
theorem rNumber_l (l : List Nat) (hl : Bys l) (hn : l.length ≤ 8) : ∀ (d i v : Nat), l.length - i = d → i ≤ l.length → v < 256 ^ i →
    Ev (fun k => credenzaref06_Number.l0 k (B l) (v : Int) (i : Int)) ((nm v (l.drop i) : Nat) : Int) := by
  intro d
  induction d with
  | zero =>
    intro i v hd hi hv
    obtain rfl : i = l.length := by omega
    refine Ev.step (fun k => by rw [credenzaref06_Number.l0, B_size, if_neg (by omega)]) ?_
    rw [List.drop_length]
    exact Ev.now _
  | succ d ih =>
    intro i v hd hi hv
    have h7 := pow_le7 (j := i) (by omega)
    have hc := hl.getD i
    refine Ev.step (fun k => by rw [credenzaref06_Number.l0, B_size, if_pos (by omega), if_pos (by omega), bt_B hl i (by omega), rnum_z v _ (Nat.lt_of_lt_of_le hv h7) hc, wsucc _ (by omega)]) ?_
    rw [drop_getD l i (by omega)]
    refine ih (i + 1) _ (by omega) (by omega) ?_
    unfold nstep
    rw [Nat.pow_succ]
    clear ih h7
    omega
theorem rNumber_f (l : List Nat) (hl : Bys l) (hn : l.length ≤ 8) : Ev (fun k => credenzaref06_Number.f k (B l)) ((nm 0 l : Nat) : Int) := by
  unfold credenzaref06_Number.f
  exact rNumber_l l hl hn l.length 0 0 (by omega) (by omega) (by decide)
theorem bytesOf_B {l : List Nat} (hl : Bys l) : bytesOf (B l) = up l := by
  unfold bytesOf up
  rw [B_list, List.map_map]
  refine List.map_congr_left (fun x hx => ?_)
  have := hl x hx
  show (((UInt8.ofNat x).toNat : Nat) : Int) = (x : Int)
  rw [UInt8.toNat_ofNat', Nat.mod_eq_of_lt (by omega)]
theorem NewReader_f (l : List Nat) (hn : l.length < 1000000) : seal_NewReader.f (up l) = some (up l, false) := by
  unfold seal_NewReader.f
  rw [bClone_f l hn]
  rfl
theorem mnmx (n : Int) : mn (mx n 0) 8 = ((wide n : Nat) : Int) := by
  unfold mn mx wide
  repeat' split
  all_goals omega
theorem Num4 (l : List Nat) (hl : Bys l) (h : l.length = 4) : Ev (fun k => seal_Reader_Num.f k (up l) false 4) (((nm 0 l : Nat) : Int), up [], false) := by
  have := Num_f l hl false 4 (by omega)
  rw [show wide 4 = 4 from rfl, if_neg (by omega), ← h, List.take_length, List.drop_length] at this
  exact this
theorem B_extract_end (l : List Nat) (n : Nat) : (B l).extract n (B l).size = B (l.drop n) := by
  apply ba_ext
  rw [ByteArray.data_extract, Array.toList_extract, B_list, B_list, List.map_drop, B_size]
  rw [List.extract_eq_take_drop, List.take_of_length_le]
  simp
theorem B_extract0' (l : List Nat) (n : Nat) : (B l).extract 0 n = B (l.take n) := by
  apply ba_ext
  rw [ByteArray.data_extract, Array.toList_extract, B_list, B_list, List.map_take]
  simp
theorem Take_z (l : List Nat) (b : Bool) (n : Int) (hn : l.length < 1000000) :
    seal_Reader_Take.f (up l) b n = if l.length < n.toNat then some (up [], up [], true) else some (up (l.take n.toNat), up (l.drop n.toNat), b) := by
  unfold seal_Reader_Take.f
  rw [up_length]
  by_cases h : l.length < n.toNat
  · rw [if_pos h, if_pos (by omega)]
    rfl
  · rw [if_neg h, if_neg (by omega), up_take, up_drop, bClone_f _ (by rw [List.length_take]; omega), Option.bind_some]
theorem mx_nat (n : Int) : mx n 0 = ((n.toNat : Nat) : Int) := by
  unfold mx
  split <;> omega
theorem p4 : (256 : Nat) ^ 4 = 4294967296 := rfl
theorem nm_lt4 (l : List Nat) (hl : Bys l) (h : l.length ≤ 4) : nm 0 l < 4294967296 := by
  have h1 := nm_lt l 0 0 hl (by decide)
  have h2 : 256 ^ (0 + l.length) ≤ 256 ^ 4 := Nat.pow_le_pow_right (by decide) (by omega)
  rw [p4] at h2
  omega
theorem rSigned_f (l : List Nat) (hl : Bys l) (h : l.length ≤ 4) : Ev (fun k => credenzaref06_Signed.f k (B l)) (wrap32 (((nm 0 l : Nat) : Int) % 4294967296)) := by
  unfold credenzaref06_Signed.f
  refine Ev.bind (rNumber_f l hl (by omega)) ?_
  have hv := nm_lt4 l hl h
  generalize nm 0 l = v at hv
  rw [wn v (by omega)]
  refine Ev.ite (fun h2 => ?_) (fun h2 => ?_)
  · rw [w64 (x := (v : Int) - 4294967296) (by omega) (by omega)]
    refine Ev.eq (Ev.now _) ?_
    unfold wrap32
    omega
  · refine Ev.eq (Ev.now _) ?_
    unfold wrap32
    omega
theorem Signed_f (l : List Nat) (hl : Bys l) (b : Bool) (hn : l.length < 1000000) :
    Ev (fun k => seal_Reader_Signed.f k (up l) b) (if l.length < 4 then (wrap32 (((nm 0 [] : Nat) : Int) % 4294967296), up [], true) else (wrap32 (((nm 0 (l.take 4) : Nat) : Int) % 4294967296), up (l.drop 4), b)) := by
  unfold seal_Reader_Signed.f
  refine Ev.bind (Num_f l hl b 4 hn) ?_
  rw [show wide 4 = 4 from rfl]
  by_cases h : l.length < 4
  · rw [if_pos h, if_pos h]
    exact Ev.now _
  · rw [if_neg h, if_neg h]
    exact Ev.now _
theorem J5 {t : List Nat} {b : Bool} {ops : List S67} {m i : Int} (h : Ev (fun k => credenzalaw06_SealReads.l1 k (B t) b ops m (wrap64 (i + 1)) (up t) b) true) :
    Ev (fun k => credenzalaw06_SealReads.j5 k (B t) b true ops m i (up t) b) true := by
  refine Ev.step (fun k => by rw [credenzalaw06_SealReads.j5, if_pos rfl]) ?_
  unfold seal_Reader_Left.f seal_Reader_Short.f
  refine Ev.sb (Ev.pos (by rw [up_length, B_size]) (Ev.sb (Ev.neg (by simp) ?_)))
  exact h
/-- how many bytes a call asks for -/
def asks (kind n : Int) : Nat := if kind = 1 then wide n else if kind = 2 then 4 else n.toNat
theorem J4 (t : List Nat) (ht : Bys t) (hn : t.length ≤ 200) (b : Bool) (ops : List S67) (m i kind n : Int)
    (ih : ∀ t' b', Bys t' → t'.length ≤ 200 → Ev (fun k => credenzalaw06_SealReads.l1 k (B t') b' ops m (wrap64 (i + 1)) (up t') b') true) :
    Ev (fun k => if t.length < asks kind n then credenzalaw06_SealReads.j4 k (B []) true (B []) ops m i (up t) b kind n
      else credenzalaw06_SealReads.j4 k (B (t.drop (asks kind n))) b (B (t.take (asks kind n))) ops m i (up t) b kind n) true := by
  have h0 : Bys [] := fun x hx => by simp at hx
  have ih0 := ih [] true h0 (by decide)
  have ihd := fun q => ih (t.drop q) b (ht.drop q) (by rw [List.length_drop]; omega)
  by_cases h1 : kind = 1
  · have ea : asks kind n = wide n := if_pos h1
    have hw : wide n ≤ 8 := Nat.min_le_right _ _
    rw [ea]
    have hN := Num_f t ht b n (by omega)
    refine Ev.ite (fun h => ?_) (fun h => ?_)
    · rw [if_pos h] at hN
      refine Ev.step (fun k => by rw [credenzalaw06_SealReads.j4, if_pos h1]) (Ev.bind hN (Ev.bind (rNumber_f [] h0 (by decide)) ?_))
      exact J5 ih0
    · rw [if_neg h] at hN
      refine Ev.step (fun k => by rw [credenzalaw06_SealReads.j4, if_pos h1]) (Ev.bind hN (Ev.bind (rNumber_f (t.take (wide n)) (ht.take _) (by rw [List.length_take]; omega)) ?_))
      simp only [beq_self_eq_true]
      exact J5 (ihd _)
  · by_cases h2 : kind = 2
    · have ea : asks kind n = 4 := by rw [asks, if_neg h1, if_pos h2]
      rw [ea]
      have hN := Signed_f t ht b (by omega)
      refine Ev.ite (fun h => ?_) (fun h => ?_)
      · rw [if_pos h] at hN
        refine Ev.step (fun k => by rw [credenzalaw06_SealReads.j4, if_neg h1, if_pos h2]) (Ev.bind hN (Ev.bind (rSigned_f [] h0 (by decide)) ?_))
        simp only [beq_self_eq_true]
        exact J5 ih0
      · rw [if_neg h] at hN
        refine Ev.step (fun k => by rw [credenzalaw06_SealReads.j4, if_neg h1, if_pos h2]) (Ev.bind hN (Ev.bind (rSigned_f (t.take 4) (ht.take _) (by rw [List.length_take]; omega)) ?_))
        simp only [beq_self_eq_true]
        exact J5 (ihd _)
    · have ea : asks kind n = n.toNat := by rw [asks, if_neg h1, if_neg h2]
      rw [ea]
      have hN := Take_z t b n (by omega)
      refine Ev.ite (fun h => ?_) (fun h => ?_)
      · rw [if_pos h] at hN
        refine Ev.step (fun k => by rw [credenzalaw06_SealReads.j4, if_neg h1, if_neg h2, hN]) (Ev.sb ?_)
        show Ev (fun k => credenzalaw06_SealReads.j5 k (B []) true ((B []).toList == (B []).toList) ops m i (up []) true) true
        rw [beq_self_eq_true]
        exact J5 ih0
      · rw [if_neg h] at hN
        refine Ev.step (fun k => by rw [credenzalaw06_SealReads.j4, if_neg h1, if_neg h2, hN]) (Ev.sb ?_)
        show Ev (fun k => credenzalaw06_SealReads.j5 k _ b ((B (t.take n.toNat)).toList == (B (t.take n.toNat)).toList) ops m i (up (t.drop n.toNat)) b) true
        rw [beq_self_eq_true]
        exact J5 (ihd _)
theorem J3 (t : List Nat) (ht : Bys t) (hn : t.length ≤ 200) (b : Bool) (ops : List S67) (m i kind n : Int) (q : Int) (hq : q = ((asks kind n : Nat) : Int))
    (ih : ∀ t' b', Bys t' → t'.length ≤ 200 → Ev (fun k => credenzalaw06_SealReads.l1 k (B t') b' ops m (wrap64 (i + 1)) (up t') b') true) :
    Ev (fun k => credenzalaw06_SealReads.j3 k (B t) b q ops m i (up t) b kind n) true := by
  subst hq
  have h := J4 t ht hn b ops m i kind n ih
  generalize asks kind n = a at h
  refine Ev.step (fun k => by rw [credenzalaw06_SealReads.j3, B_size]) ?_
  by_cases hc : t.length < a
  · simp only [if_pos hc] at h
    exact Ev.pos (by omega) h
  · simp only [if_neg hc] at h
    refine Ev.neg (by omega) (Ev.pos (by omega) (Ev.pos (by omega) ?_))
    rw [Int.toNat_natCast, ← B_size t, B_extract_end, B_extract0']
    exact h
theorem L1 (ops : List S67) (hm : ops.length ≤ 40) : ∀ (d i : Nat), ops.length - i = d → i ≤ ops.length → ∀ (t : List Nat) (b : Bool), Bys t → t.length ≤ 200 →
    Ev (fun k => credenzalaw06_SealReads.l1 k (B t) b ops (ops.length : Int) (i : Int) (up t) b) true := by
  intro d
  induction d with
  | zero =>
    intro i hd hi t b ht hn
    refine Ev.step (fun k => by rw [credenzalaw06_SealReads.l1, if_neg (by omega)]) ?_
    exact Ev.bind awake_f (Ev.now _)
  | succ d ih =>
    intro i hd hi t b ht hn
    refine Ev.step (fun k => by rw [credenzalaw06_SealReads.l1, if_pos (by omega), if_pos (by omega), if_pos (by omega)]) ?_
    have ih' : ∀ t' b', Bys t' → t'.length ≤ 200 → Ev (fun k => credenzalaw06_SealReads.l1 k (B t') b' ops (ops.length : Int) (wrap64 ((i : Int) + 1)) (up t') b') true := by
      intro t' b' h1 h2
      rw [wsucc i (by omega)]
      exact ih (i + 1) (by omega) (by omega) t' b' h1 h2
    generalize rd_T67 ops (i : Int) = z
    refine Ev.ite (fun h1 => ?_) (fun h1 => Ev.ite (fun h2 => ?_) (fun h2 => ?_))
    · exact J3 t ht hn b ops _ _ _ _ _ (by rw [mnmx, asks, if_pos h1]) ih'
    · exact J3 t ht hn b ops _ _ _ _ _ (by rw [asks, if_neg h1, if_pos h2]; rfl) ih'
    · exact J3 t ht hn b ops _ _ _ _ _ (by rw [mx_nat, asks, if_neg h1, if_neg h2]) ih'
theorem L0 (l : List Nat) (hl : Bys l) (hn : l.length ≤ 200) (ops : List S67) (hm : ops.length ≤ 40) : ∀ (d i : Nat) (X : List Int), l.length - i = d → i ≤ l.length → X.length = l.length →
    Ev (fun k => credenzalaw06_SealReads.l0 k (up l) ops X (l.length : Int) (i : Int) (up l) false) true := by
  intro d
  induction d with
  | zero =>
    intro i X hd hi hX
    refine Ev.step (fun k => by rw [credenzalaw06_SealReads.l0, if_neg (by omega)]) ?_
    exact L1 ops hm ops.length 0 (by omega) (by omega) l false hl hn
  | succ d ih =>
    intro i X hd hi hX
    refine Ev.step (fun k => by rw [credenzalaw06_SealReads.l0, if_pos (by omega), if_pos (by omega), if_pos (by omega), wsucc i (by omega)]) ?_
    exact ih (i + 1) _ (by omega) (by omega) (by rw [List.length_set]; exact hX)
theorem SealReads : credenzalaw06_SealReads.Pure := by
  intro l0 ops _ _ hw _ _
  obtain ⟨l, hl, rfl⟩ := wf_bys hw
  clear hw
  refine Ev.rounds ?_
  have hawake : Ev (fun k => credenzalaw06_SealReads.j0 k (up l) ops true) true := by
    refine Ev.step (fun k => by rw [credenzalaw06_SealReads.j0, if_pos rfl]) ?_
    exact Ev.bind awake_f (Ev.now _)
  unfold credenzalaw06_SealReads.f
  refine Ev.ite (fun _ => hawake) (fun h => ?_)
  rw [up_length] at h
  by_cases h2 : (ops.length : Int) > 40
  · rw [decide_eq_true h2]
    exact hawake
  · rw [decide_eq_false h2]
    refine Ev.step (fun k => by rw [credenzalaw06_SealReads.j0, if_neg (by decide), Option.bind_some, List.nil_append]) ?_
    refine Ev.pos (by rw [up_length]; simp; omega) ?_
    refine Ev.sb ?_
    simp only [NewReader_f l (by omega)]
    refine Ev.sb ?_
    show Ev (fun k => credenzalaw06_SealReads.l0 k (up l) ops (up l) ((up l).length : Int) 0 (up l) false) true
    rw [up_length]
    exact L0 l hl (by omega) ops (by omega) l.length 0 (up l) (by omega) (by omega) (up_length l)

end Go.Proofs.Ytlkelicgbjjgiaa.Pure
