/- Two blobs are one just if all of both is the same; what is read from bytes is new memory. -/
import Derived.Test.YtehepnmagcjkaaaPBlobEqualsx
namespace Go.Proofs.Ytehepnmagcjkaaa.Pure
open Go.RowKit Go.Proofs.Ytehepnmagcjkaaa.PBlobEquals Go.Proofs.YtehepnmagcjkaaaW.PrintWords Go.Proofs.YtehepnmagcjkaaaW.PrintLast Go.Proofs.YtehepnmagcjkaaaW.PrintMore
set_option linter.unusedVariables false
set_option linter.unusedSimpArgs false
theorem Ev.pos {α : Type} {c : Prop} [Decidable c] {X Y : Nat → Option α} {r : α} (h : c) (k : Ev X r) : Ev (fun n => if c then X n else Y n) r := by
 obtain ⟨K, k⟩ := k
 exact ⟨K, fun n hn => (if_pos h).trans (k n hn)⟩
theorem Ev.neg {α : Type} {c : Prop} [Decidable c] {X Y : Nat → Option α} {r : α} (h : ¬ c) (k : Ev Y r) : Ev (fun n => if c then X n else Y n) r := by
 obtain ⟨K, k⟩ := k
 exact ⟨K, fun n hn => (if_neg h).trans (k n hn)⟩
theorem Ev.sb {α β : Type} {f : Nat → α → Option β} {a : α} {r : β} (k : Ev (fun n => f n a) r) : Ev (fun n => (some a).bind (f n)) r := k
theorem Ev.eq {α : Type} {g : Nat → Option α} {r s : α} (k : Ev g r) (h : r = s) : Ev g s := h ▸ k
theorem Ev.one {α : Type} {g h : Nat → Option α} {r : α} (hg : Ev g r) (hh : ∀ n, g n = h n) : Ev h r := Ev.congr (fun n => (hh n).symm) hg
/-- A test, either way. -/
theorem Ev.ite {α : Type} {c : Prop} [Decidable c] {X Y : Nat → Option α} {r : α} (h : c → Ev X r) (k : ¬ c → Ev Y r) : Ev (fun n => if c then X n else Y n) r := by
 by_cases hc : c
 ·
  exact Ev.pos hc (h hc)
 ·
  exact Ev.neg hc (k hc)
theorem w64 {x : Int} (h0 : -9223372036854775808 ≤ x) (h1 : x ≤ 9223372036854775807) : wrap64 x = x := by unfold wrap64; omega
theorem wu64 {x : Int} (h0 : 0 ≤ x) (h1 : x < 18446744073709551616) : IntKind.u64.wrap x = x := by
 simp [IntKind.wrap, IntKind.bits, IntKind.signed]
 omega
theorem td_nonneg {x y : Int} (h : 0 ≤ x) : Int.tdiv x y = x / y := Int.tdiv_eq_ediv_of_nonneg h
theorem tm_nonneg {x y : Int} (h : 0 ≤ x) : Int.tmod x y = x % y := Int.tmod_eq_emod_of_nonneg h
theorem wn (x : Nat) (h : x < 9223372036854775808) : wrap64 (x : Int) = (x : Int) := w64 (by omega) (by omega)
theorem wadd (x y : Nat) (h : x + y < 9223372036854775808) : wrap64 ((x : Int) + (y : Int)) = ((x + y : Nat) : Int) := by
 rw [← Int.natCast_add]
 exact wn _ h
theorem wsucc (x : Nat) (h : x + 1 < 9223372036854775808) : wrap64 ((x : Int) + 1) = ((x + 1 : Nat) : Int) := wadd x 1 h
theorem wun (x : Nat) (h : x < 18446744073709551616) : IntKind.u64.wrap (x : Int) = (x : Int) := wu64 (by omega) (by omega)
def up (W : List Nat) : List Int := W.map fun (n : Nat) => (n : Int)
theorem up_length (W : List Nat) : (up W).length = W.length := by simp [up]
theorem up_app (a b : List Nat) : up (a ++ b) = up a ++ up b := by simp [up]
theorem up_take (a : List Nat) (n : Nat) : (up a).take n = up (a.take n) := by simp [up, List.map_take]
theorem up_drop (a : List Nat) (n : Nat) : (up a).drop n = up (a.drop n) := by simp [up, List.map_drop]
theorem up_one (x : Nat) : up [x] = [(x : Int)] := rfl
theorem rd_up (W : List Nat) (j : Nat) : rd (up W) (j : Int) = ((W.getD j 0 : Nat) : Int) := by
 unfold rd up
 rw [Int.toNat_natCast, List.getD_eq_getElem?_getD, List.getD_eq_getElem?_getD, List.getElem?_map]
 cases W[j]? <;> rfl
def Bys (l : List Nat) : Prop := ∀ x ∈ l, x < 256
theorem Bys.app {a b : List Nat} (ha : Bys a) (hb : Bys b) : Bys (a ++ b) := by
 intro x hx
 rcases List.mem_append.1 hx with h | h
 ·
  exact ha x h
 ·
  exact hb x h
theorem Bys.take {a : List Nat} (ha : Bys a) (n : Nat) : Bys (a.take n) := fun x hx => ha x (List.mem_of_mem_take hx)
theorem Bys.drop {a : List Nat} (ha : Bys a) (n : Nat) : Bys (a.drop n) := fun x hx => ha x (List.mem_of_mem_drop hx)
theorem Bys.getD {a : List Nat} (ha : Bys a) (n : Nat) : a.getD n 0 < 256 := by
 rw [List.getD_eq_getElem?_getD]
 by_cases h : n < a.length
 ·
  rw [List.getElem?_eq_getElem h]
  exact ha _ (List.getElem_mem h)
 ·
  rw [List.getElem?_eq_none (by omega)]
  decide
/-- the text of bytes -/
def B (l : List Nat) : ByteArray := strOfNums (up l)
theorem B_list (l : List Nat) : (B l).data.toList = l.map UInt8.ofNat := by
 rw [B, strOfNums_data, up, List.map_map]
 rfl
theorem toList_data (a : ByteArray) : a.toList = a.data.toList := by
 exact ByteArray.toList_eq a
theorem map_u8_inj : ∀ {a b : List Nat}, Bys a → Bys b → a.map UInt8.ofNat = b.map UInt8.ofNat → a = b
 | [], [], _, _, _ => rfl
 | [], y :: ys, _, _, h => by simp at h
 | x :: xs, [], _, _, h => by simp at h
 | x :: xs, y :: ys, ha, hb, h => by
  rw [List.map_cons, List.map_cons] at h
  injection h with h1 h2
  have e1 : (UInt8.ofNat x).toNat = (UInt8.ofNat y).toNat := by rw [h1]
  rw [UInt8.toNat_ofNat', UInt8.toNat_ofNat'] at e1
  have hx := ha x (List.mem_cons_self ..)
  have hy := hb y (List.mem_cons_self ..)
  rw [Nat.mod_eq_of_lt (by omega), Nat.mod_eq_of_lt (by omega)] at e1
  rw [e1, map_u8_inj (fun z hz => ha z (List.mem_cons_of_mem _ hz)) (fun z hz => hb z (List.mem_cons_of_mem _ hz)) h2]
theorem B_inj {a b : List Nat} (ha : Bys a) (hb : Bys b) (h : (B a).toList = (B b).toList) : a = b := by
 rw [toList_data, toList_data, B_list, B_list] at h
 exact map_u8_inj ha hb h
def sstep (h c : Nat) : Nat := (h ^^^ c) * 16777619 % 4294967296
def sm (h : Nat) (l : List Nat) : Nat := l.foldl sstep h
theorem sstep_lt (h c : Nat) : sstep h c < 4294967296 := Nat.mod_lt _ (by decide)
theorem sm_lt : ∀ (l : List Nat) (h : Nat), h < 4294967296 → sm h l < 4294967296
 | [], h, hh => hh
 | c :: l, h, _ => sm_lt l (sstep h c) (sstep_lt h c)
/-- n bytes of v, the highest first -/
def be : Nat → Nat → List Nat
 | 0, _ => []
 | n + 1, v => be n (v / 256) ++ [v % 256]
theorem be_length : ∀ n v, (be n v).length = n
 | 0, _ => rfl
 | n + 1, v => by rw [be, List.length_append, be_length n]; rfl
theorem be_bys : ∀ n v, Bys (be n v)
 | 0, _ => fun x hx => by simp [be] at hx
 | n + 1, v => (be_bys n _).app (fun x hx => by
   rw [List.mem_singleton] at hx
   subst hx
   exact Nat.mod_lt _ (by decide))
theorem be_head : ∀ n v, be (n + 1) v = (v / 256 ^ n % 256) :: be n v
 | 0, v => by simp [be]
 | n + 1, v => by
  rw [be, be_head n (v / 256), be, Nat.div_div_eq_div_mul, Nat.pow_succ, Nat.mul_comm 256]
  rfl
theorem bits_xor (k : IntKind) (j : Nat) (hj : j ≤ k.bits) (hk : ∀ n : Int, 0 ≤ n → n < 2 ^ j → k.wrap n = n) (a b : Nat) (ha : a < 2 ^ j) (hb : b < 2 ^ j) :
  Go.bits .xor k a b = ((a ^^^ b : Nat) : Int) := by
 have hp : 2 ^ j ≤ 2 ^ k.bits := Nat.pow_le_pow_right (by decide) hj
 have ha' : a % 2 ^ k.bits = a := Nat.mod_eq_of_lt (Nat.lt_of_lt_of_le ha hp)
 have hb' : b % 2 ^ k.bits = b := Nat.mod_eq_of_lt (Nat.lt_of_lt_of_le hb hp)
 simp only [Go.bits, BitVec.ofInt_natCast, BitVec.toNat_xor, BitVec.toNat_ofNat, ha', hb']
 refine hk _ (Int.natCast_nonneg _) ?_
 have := Nat.xor_lt_two_pow ha hb
 exact_mod_cast this
theorem xor32 (a b : Nat) (ha : a < 4294967296) (hb : b < 4294967296) : Go.bits .xor .u32 a b = ((a ^^^ b : Nat) : Int) :=
 bits_xor .u32 32 (by decide) (fun n h0 h1 => by rw [IntKind.wrap_u32]; exact Int.emod_eq_of_lt h0 (by simpa using h1)) a b (by simpa using ha) (by simpa using hb)
theorem drop_getD (l : List Nat) (i : Nat) (h : i < l.length) : l.drop i = l.getD i 0 :: l.drop (i + 1) := by
 rw [List.drop_eq_getElem_cons h, List.getD_eq_getElem?_getD, List.getElem?_eq_getElem h]
 rfl
/-- the code's own step -/
theorem sstep_z (h c : Nat) (hh : h < 4294967296) (hc : c < 256) : ((Go.bits .xor .u32 (h : Int) ((c : Int) % 4294967296)) * 16777619) % 4294967296 = ((sstep h c : Nat) : Int) := by
 rw [show ((c : Nat) : Int) % 4294967296 = (c : Int) by omega, xor32 h c hh (by omega)]
 unfold sstep
 omega
theorem Sum_l (l : List Nat) (hl : Bys l) (hn : l.length < 1000000) : ∀ (d i h : Nat), l.length - i = d → i ≤ l.length → h < 4294967296 →
  Ev (fun k => seal_Sum.l0 k (h : Int) (up l) (l.length : Int) (i : Int)) ((sm h (l.drop i) : Nat) : Int) := by
 intro d
 induction d with
 | zero =>
  intro i h hd hi hh
  obtain rfl : i = l.length := by omega
  refine Ev.step (fun k => by rw [seal_Sum.l0, if_neg (by omega)]) ?_
  rw [List.drop_length]
  exact Ev.now _
 | succ d ih =>
  intro i h hd hi hh
  refine Ev.step (fun k => by rw [seal_Sum.l0, if_pos (by omega), if_pos (by omega), if_pos (by rw [up_length]; omega), rd_up, sstep_z h _ hh (hl.getD i), wsucc _ (by omega)]) ?_
  rw [drop_getD l i (by omega)]
  exact ih (i + 1) _ (by omega) (by omega) (sstep_lt _ _)
theorem Sum_f (l : List Nat) (hl : Bys l) (hn : l.length < 1000000) : Ev (fun k => seal_Sum.f k (up l)) ((sm 2166136261 l : Nat) : Int) := by
 unfold seal_Sum.f
 rw [up_length]
 exact Sum_l l hl hn l.length 0 2166136261 (by omega) (by omega) (by decide)
theorem shr_u64 (x s : Nat) (hs : s ≤ 64) : shr .u64 (x : Int) (s : Int) = ((x / 2 ^ s : Nat) : Int) := by
 unfold shr
 rw [Int.toNat_natCast, Nat.min_eq_left (show s ≤ IntKind.u64.bits from hs)]
 simp
theorem two8 (i : Nat) : 2 ^ (8 * i) = 256 ^ i := by rw [Nat.pow_mul]
theorem Put_l (v : Nat) : ∀ (n : Nat) (l : List Nat), n ≤ 8 → l.length + n < 1000000 →
  Ev (fun k => seal_Put.l0 k (v : Int) (up l) ((n : Int) - 1)) (up (l ++ be n v)) := by
 intro n
 induction n with
 | zero =>
  intro l hn hl
  refine Ev.step (fun k => by rw [seal_Put.l0, if_neg (by omega)]) ?_
  rw [be, List.append_nil]
  exact Ev.now _
 | succ n ih =>
  intro l hn hl
  have e1 : (((n + 1 : Nat) : Int) - 1) = (n : Int) := by omega
  have e2 : wrap64 (8 * (n : Int)) = ((8 * n : Nat) : Int) := by
   rw [w64 (by omega) (by omega)]
   omega
  have e3 : wrap64 ((n : Int) - 1) = (n : Int) - 1 := w64 (by omega) (by omega)
  have e4 : shr .u64 (v : Int) ((8 * n : Nat) : Int) % 256 = ((v / 256 ^ n % 256 : Nat) : Int) := by
   rw [shr_u64 _ _ (by omega), two8]
   omega
  refine Ev.step (fun k => by rw [seal_Put.l0, e1, if_pos (by omega), e2, if_pos (by omega), if_pos (by rw [up_length]; omega), e3, e4, ← up_one, ← up_app]) ?_
  have h := ih (l ++ [v / 256 ^ n % 256]) (by omega) (by
   rw [List.length_append, List.length_singleton]
   omega)
  rw [be_head]
  rwa [List.append_assoc] at h
theorem Clone_f (l : List Nat) (hl : l.length < 1000000) : slices_Clone_byte_byte.f (up l) = some (up l) := by
 unfold slices_Clone_byte_byte.f
 rw [if_pos (by rw [up_length]; omega)]
theorem bClone_f (l : List Nat) (hl : l.length < 1000000) : bytes_Clone.f (up l) = some (up l) := by
 unfold bytes_Clone.f
 rw [if_pos (by rw [up_length]; omega)]
def wide (n : Int) : Nat := min n.toNat 8
theorem wide_f (n : Int) : seal_wide.f n = some ((wide n : Nat) : Int) := by
 unfold seal_wide.f wide mn mx
 congr 1
 repeat' split
 all_goals omega
/-- bytes with their sum -/
def cl (l : List Nat) : List Nat := l ++ be 4 (sm 2166136261 l)
theorem Put_f (l : List Nat) (v : Nat) (n : Int) (hl : l.length < 900000) : Ev (fun k => seal_Put.f k (up l) (v : Int) n) (up (l ++ be (wide n) v)) := by
 have hw : wide n ≤ 8 := Nat.min_le_right _ _
 unfold seal_Put.f
 simp only [Clone_f l (by omega), wide_f, Option.bind_some]
 rw [w64 (by omega) (by omega)]
 exact Put_l v _ l hw (by omega)
theorem Close_f (l : List Nat) (hl : Bys l) (hn : l.length < 900000) : Ev (fun k => seal_Close.f k (up l)) (up (cl l)) := by
 unfold seal_Close.f
 refine Ev.bind (Sum_f l hl (by omega)) ?_
 have hs := sm_lt l 2166136261 (by decide)
 rw [wun _ (by omega)]
 exact Ev.bind (Put_f l _ 4 hn) (Ev.now _)
theorem cl_length (l : List Nat) : (cl l).length = l.length + 4 := by rw [cl, List.length_append, be_length]
theorem cl_bys {l : List Nat} (h : Bys l) : Bys (cl l) := h.app (be_bys _ _)
theorem Open_short (l : List Nat) (h : l.length < 4) : Ev (fun k => seal_Open.f k (up l)) ([], 16) := by
 unfold seal_Open.f
 rw [up_length, w64 (by omega) (by omega)]
 exact Ev.pos (by omega) (Ev.now _)
theorem Open_long (l : List Nat) (hl : Bys l) (h : 4 ≤ l.length) (hn : l.length < 900000) :
  Ev (fun k => seal_Open.f k (up l)) (if l = cl (l.take (l.length - 4)) then (up (l.take (l.length - 4)), 0) else ([], 22)) := by
 unfold seal_Open.f
 rw [up_length, w64 (by omega) (by omega)]
 have e : ((l.length : Int) - 4).toNat = l.length - 4 := by omega
 refine Ev.neg (by omega) (Ev.pos (by omega) (Ev.pos (by omega) ?_))
 rw [e, up_take]
 have hb := hl.take (l.length - 4)
 have hlen : (l.take (l.length - 4)).length < 900000 := by rw [List.length_take]; omega
 refine Ev.bind (Close_f _ hb hlen) ?_
 unfold bytes_Equal.f
 refine Ev.sb ?_
 refine Ev.ite (fun hq => ?_) (fun hq => ?_)
 ·
  have hq' : l = cl (l.take (l.length - 4)) := B_inj hl (cl_bys hb) (by rw [beq_iff_eq] at hq; exact hq)
  rw [if_pos hq', bClone_f _ (by omega)]
  exact Ev.sb (Ev.now _)
 ·
  rw [if_neg (fun hc => hq (by
   rw [beq_iff_eq]
   exact congrArg (fun z => (strOfNums (up z)).toList) hc))]
  exact Ev.now _
theorem Open_cl (l : List Nat) (hl : Bys l) (hn : l.length < 800000) : Ev (fun k => seal_Open.f k (up (cl l))) (up l, 0) := by
 have h := Open_long (cl l) (cl_bys hl) (by rw [cl_length]; omega) (by rw [cl_length]; omega)
 have e : (cl l).take ((cl l).length - 4) = l := by
  rw [cl_length, Nat.add_sub_cancel, cl, List.take_left]
 rw [e, if_pos rfl] at h
 exact h
def nstep (v c : Nat) : Nat := v * 256 + c
def nm (v : Nat) (l : List Nat) : Nat := l.foldl nstep v
theorem nm_app (a b : List Nat) (v : Nat) : nm v (a ++ b) = nm (nm v a) b := by unfold nm; rw [List.foldl_append]
theorem nm_be : ∀ n v, nm 0 (be n v) = v % 256 ^ n
 | 0, v => by rw [Nat.pow_zero, Nat.mod_one]; rfl
 | n + 1, v => by
  rw [be, nm_app, nm_be n]
  show nstep _ _ = _
  unfold nstep
  rw [Nat.pow_succ, Nat.mul_comm (256 ^ n), Nat.mod_mul]
  omega
theorem pow_le7 {j : Nat} (h : j ≤ 7) : 256 ^ j ≤ 72057594037927936 := by
 have : (256 : Nat) ^ 7 = 72057594037927936 := by decide
 rw [← this]
 exact Nat.pow_le_pow_right (by decide) h
theorem or_byte {v c : Nat} (hv : v < 72057594037927936) (hc : c < 256) : Go.bits .or .u64 (IntKind.u64.wrap ((v : Int) * 256)) (IntKind.u64.wrap (c : Int)) = ((nstep v c : Nat) : Int) := by
 rw [wu64 (x := (v : Int) * 256) (by omega) (by omega), wun c (by omega), show (v : Int) * 256 = ((v * 256 : Nat) : Int) by omega]
 have hb := (bits_nat .u64 64 (by decide) (fun n h0 h1 => wu64 h0 (by simpa using h1)) (v * 256) c (by simp; omega) (by simp; omega)).2
 rw [hb]
 unfold nstep
 have := Nat.two_pow_add_eq_or_of_lt (i := 8) (by simpa using hc) v
 rw [show 2 ^ 8 * v = v * 256 by omega] at this
 rw [this]
theorem Num_l (l : List Nat) (hl : Bys l) (hn : l.length ≤ 8) (s : List Int) (b : Bool) : ∀ (d i v : Nat), l.length - i = d → i ≤ l.length → v < 256 ^ i →
  Ev (fun k => seal_Reader_Num.l0 k (v : Int) (up l) (l.length : Int) (i : Int) s b) (((nm v (l.drop i) : Nat) : Int), s, b) := by
 intro d
 induction d with
 | zero =>
  intro i v hd hi hv
  obtain rfl : i = l.length := by omega
  refine Ev.step (fun k => by rw [seal_Reader_Num.l0, if_neg (by omega)]) ?_
  rw [List.drop_length]
  exact Ev.now _
 | succ d ih =>
  intro i v hd hi hv
  have h7 := pow_le7 (j := i) (by omega)
  have hc := hl.getD i
  refine Ev.step (fun k => by rw [seal_Reader_Num.l0, if_pos (by omega), if_pos (by omega), if_pos (by rw [up_length]; omega), rd_up, or_byte (Nat.lt_of_lt_of_le hv h7) hc, wsucc _ (by omega)]) ?_
  rw [drop_getD l i (by omega)]
  refine ih (i + 1) _ (by omega) (by omega) ?_
  unfold nstep
  rw [Nat.pow_succ]
  clear ih h7
  omega
/-- a reader's state: what is left, and whether it was short -/
theorem Take_f (l : List Nat) (b : Bool) (n : Nat) (hn : l.length < 1000000) :
  seal_Reader_Take.f (up l) b (n : Int) = if l.length < n then some (up [], up [], true) else some (up (l.take n), up (l.drop n), b) := by
 unfold seal_Reader_Take.f
 rw [up_length]
 by_cases h : l.length < n
 ·
  rw [if_pos h, if_pos (by omega)]
  rfl
 ·
  rw [if_neg h, if_neg (by omega), Int.toNat_natCast, up_take, up_drop, bClone_f _ (by rw [List.length_take]; omega), Option.bind_some]
theorem Num_f (l : List Nat) (hl : Bys l) (b : Bool) (n : Int) (hn : l.length < 1000000) :
  Ev (fun k => seal_Reader_Num.f k (up l) b n) (if l.length < wide n then (((0 : Nat) : Int), up [], true) else (((nm 0 (l.take (wide n)) : Nat) : Int), up (l.drop (wide n)), b)) := by
 unfold seal_Reader_Num.f
 simp only [wide_f, Option.bind_some, Take_f l b (wide n) hn]
 have hw : wide n ≤ 8 := Nat.min_le_right _ _
 by_cases h : l.length < wide n
 ·
  rw [if_pos h, if_pos h]
  exact Ev.sb (Num_l [] (fun x hx => by simp at hx) (by decide) _ _ 0 0 0 rfl (by decide) (by decide))
 ·
  rw [if_neg h, if_neg h]
  have hlen : (l.take (wide n)).length ≤ 8 := by rw [List.length_take]; omega
  refine Ev.sb ?_
  show Ev (fun k => seal_Reader_Num.l0 k 0 (up (l.take (wide n))) ((up (l.take (wide n))).length : Int) 0 (up (l.drop (wide n))) b) _
  rw [up_length]
  exact Num_l (l.take (wide n)) (hl.take _) hlen (up (l.drop (wide n))) b _ 0 0 rfl (Nat.zero_le _) (by decide)
theorem NewReader_f (l : List Nat) (hn : l.length < 1000000) : seal_NewReader.f (up l) = some (up l, false) := by
 unfold seal_NewReader.f
 rw [bClone_f l hn]
 rfl
structure S110 where
 f0 : Int
 f1 : Int
def credenzaref18_RightConfig.f (a0_0 : Int) (a0_1 : Int) (a0_2 : Int) (a0_3 : Int) (a0_4 : Int) (a0_5 : Int) : Option (Bool) := if a0_0 < 1 then (some false) else (if a0_0 > 4 then (some false) else (if a0_1 < 1 then (some false) else (if a0_1 > 4 then (some false) else (if a0_2 < 1 then (some false) else (if a0_2 > a0_1 then (some false) else (if a0_2 = 0 then (none) else (if (Int.tmod a0_1 a0_2) = 0 then (if a0_3 ≥ 2 then (if a0_3 ≤ 16 then (if (Int.tmod a0_3 2) = 0 then (if a0_4 ≥ 1 then (if a0_4 ≤ 64 then (if a0_5 ≥ 2 then (some (decide (a0_5 ≤ 64))) else (some false)) else (some false)) else (some false)) else (some false)) else (some false)) else (some false)) else (some false))))))))
def bcnt (s : S110) : Int := if s.f0 = 0 then s.f1 else wrap64 (s.f0 * s.f1)
def bfl (x : Int) : List Int → Int
 | [] => x
 | c :: l => bfl (wrap64 (x + c)) l
def bS (w kv q : Int) : Nat → List S110
 | 0 => []
 | n + 1 => bS w kv q n ++ [⟨0, w⟩, ⟨w, w⟩, ⟨kv, w⟩, ⟨kv, w⟩, ⟨w, w⟩, ⟨0, w⟩, ⟨q, w⟩, ⟨q, w⟩, ⟨w, q⟩]
theorem bS_len (w kv q : Int) : ∀ n, (bS w kv q n).length = 9 * n
 | 0 => rfl
 | n + 1 => by simp only [bS, List.length_append, bS_len w kv q n, List.length_cons, List.length_nil]; omega
def brc (c : List Value) : Int := wrap64 (intOf (c.getD 2 undef) * intOf (c.getD 3 undef))
theorem nb_fl : ∀ (l : List (List Value)) (x : Int), nb.sum x l = bfl x (l.map brc)
 | [], x => rfl
 | c :: l, x => by rw [nb.sum, nb_fl l]; rfl
theorem lays_map {w kv q : Int} (hw : 2 ≤ w ∧ w ≤ 64) (hk : 2 ≤ kv ∧ kv ≤ 64) (hq : 1 ≤ q ∧ q ≤ 64) : ∀ n, (bp.layers 0 0 w kv q n).map brc = (bS w kv q n).map bcnt
 | 0 => rfl
 | n + 1 => by
  have h1 : wrap64 w = w := w64 (by omega) (by omega)
  simp only [bp.layers, bp.layer, bp.layer2, bS, List.map_append, lays_map hw hk hq n]
  congr 1
  simp [bp.one, brc, intOf, bcnt, h1, show w ≠ 0 by omega, show kv ≠ 0 by omega, show q ≠ 0 by omega]
theorem all_map {v w kv q : Int} (hv : 2 ≤ v ∧ v ≤ 64) (hw : 2 ≤ w ∧ w ≤ 64) (hk : 2 ≤ kv ∧ kv ≤ 64) (hq : 1 ≤ q ∧ q ≤ 64) (n : Nat) :
  (bp.all 0 0 0 n v w kv q).map brc = ((⟨v, w⟩ :: bS w kv q n ++ [⟨0, w⟩, ⟨v, w⟩] : List S110)).map bcnt := by
 have h1 : wrap64 w = w := w64 (by omega) (by omega)
 simp only [bp.all, List.map_append, List.map_cons, lays_map hw hk hq n]
 simp [bp.one, brc, intOf, bcnt, h1, show w ≠ 0 by omega, show v ≠ 0 by omega]
theorem cfg_eq (c0 c1 c2 c3 c4 c5 : Int) : blob_Config_Right.f c0 c1 c2 c3 c4 c5 = credenzaref18_RightConfig.f c0 c1 c2 c3 c4 c5 := by
 unfold blob_Config_Right.f credenzaref18_RightConfig.f
 simp only [blob_within.f]
 by_cases h0 : c0 < 1
 ·
  rw [if_neg (show ¬ c0 ≥ 1 by omega), if_pos h0]; rfl
 rw [if_pos (show c0 ≥ 1 by omega), if_neg h0]
 by_cases h1 : c0 > 4
 ·
  rw [if_pos h1]; simp [show ¬ c0 ≤ 4 by omega]
 rw [if_neg h1]
 by_cases h2 : c1 < 1
 ·
  rw [if_pos h2]; simp [show c0 ≤ 4 by omega, show ¬ 1 ≤ c1 by omega]
 rw [if_neg h2]
 by_cases h3 : c1 > 4
 ·
  rw [if_pos h3]; simp [show c0 ≤ 4 by omega, show 1 ≤ c1 by omega, show ¬ c1 ≤ 4 by omega]
 rw [if_neg h3]
 by_cases h4 : c2 < 1
 ·
  rw [if_pos h4]; simp [show c0 ≤ 4 by omega, show 1 ≤ c1 by omega, show c1 ≤ 4 by omega, show ¬ 1 ≤ c2 by omega]
 rw [if_neg h4]
 by_cases h5 : c2 > c1
 ·
  rw [if_pos h5]; simp [show c0 ≤ 4 by omega, show 1 ≤ c1 by omega, show c1 ≤ 4 by omega, show 1 ≤ c2 by omega, show ¬ c2 ≤ c1 by omega]
 rw [if_neg h5]
 simp only [ge_iff_le, show c0 ≤ 4 by omega, show 1 ≤ c1 by omega, show c1 ≤ 4 by omega, show 1 ≤ c2 by omega, show c2 ≤ c1 by omega, decide_true, if_true, Option.bind_some]
 by_cases h6 : c2 = 0
 ·
  omega
 rw [if_neg h6, if_neg h6]
 by_cases h7 : Int.tmod c1 c2 = 0
 ·
  rw [if_pos h7, if_pos h7]
  by_cases h8 : 2 ≤ c3 <;> by_cases h9 : c3 ≤ 16 <;> by_cases h10 : Int.tmod c3 2 = 0 <;> by_cases h11 : 1 ≤ c4 <;> by_cases h12 : c4 ≤ 64 <;> by_cases h13 : 2 ≤ c5 <;> simp [h8, h9, h10, h11, h12, h13]
 ·
  rw [if_neg h7, if_neg h7]
theorem cfg_t {c0 c1 c2 c3 c4 c5 : Int} (h : credenzaref18_RightConfig.f c0 c1 c2 c3 c4 c5 = some true) : 1 ≤ c0 ∧ c0 ≤ 4 ∧ 1 ≤ c1 ∧ c1 ≤ 4 ∧ 1 ≤ c2 ∧ c2 ≤ c1 ∧ 2 ≤ c3 ∧ c3 ≤ 16 ∧ 1 ≤ c4 ∧ c4 ≤ 64 ∧ 2 ≤ c5 ∧ c5 ≤ 64 := by
 unfold credenzaref18_RightConfig.f at h
 by_cases g0 : c0 < 1
 case pos => rw [if_pos g0] at h; exact absurd h (by simp)
 rw [if_neg g0] at h
 by_cases g1 : c0 > 4
 case pos => rw [if_pos g1] at h; exact absurd h (by simp)
 rw [if_neg g1] at h
 by_cases g2 : c1 < 1
 case pos => rw [if_pos g2] at h; exact absurd h (by simp)
 rw [if_neg g2] at h
 by_cases g3 : c1 > 4
 case pos => rw [if_pos g3] at h; exact absurd h (by simp)
 rw [if_neg g3] at h
 by_cases g4 : c2 < 1
 case pos => rw [if_pos g4] at h; exact absurd h (by simp)
 rw [if_neg g4] at h
 by_cases g5 : c2 > c1
 case pos => rw [if_pos g5] at h; exact absurd h (by simp)
 rw [if_neg g5] at h
 by_cases g6 : c2 = 0
 case pos => omega
 rw [if_neg g6] at h
 by_cases g7 : Int.tmod c1 c2 = 0
 case neg => rw [if_neg g7] at h; exact absurd h (by simp)
 rw [if_pos g7] at h
 by_cases g8 : c3 ≥ 2
 case neg => rw [if_neg g8] at h; exact absurd h (by simp)
 rw [if_pos g8] at h
 by_cases g9 : c3 ≤ 16
 case neg => rw [if_neg g9] at h; exact absurd h (by simp)
 rw [if_pos g9] at h
 by_cases g10 : Int.tmod c3 2 = 0
 case neg => rw [if_neg g10] at h; exact absurd h (by simp)
 rw [if_pos g10] at h
 by_cases g11 : c4 ≥ 1
 case neg => rw [if_neg g11] at h; exact absurd h (by simp)
 rw [if_pos g11] at h
 by_cases g12 : c4 ≤ 64
 case neg => rw [if_neg g12] at h; exact absurd h (by simp)
 rw [if_pos g12] at h
 by_cases g13 : c5 ≥ 2
 case neg => rw [if_neg g13] at h; exact absurd h (by simp)
 rw [if_pos g13] at h
 have h' : c5 ≤ 64 := by simpa using h
 refine ⟨by omega, by omega, by omega, by omega, by omega, by omega, by omega, by omega, by omega, by omega, by omega, h'⟩
theorem cfg_tot (c0 c1 c2 c3 c4 c5 : Int) : ∃ b, credenzaref18_RightConfig.f c0 c1 c2 c3 c4 c5 = some b := by
 unfold credenzaref18_RightConfig.f
 by_cases g0 : c0 < 1
 case pos => rw [if_pos g0]; exact ⟨_, rfl⟩
 rw [if_neg g0]
 by_cases g1 : c0 > 4
 case pos => rw [if_pos g1]; exact ⟨_, rfl⟩
 rw [if_neg g1]
 by_cases g2 : c1 < 1
 case pos => rw [if_pos g2]; exact ⟨_, rfl⟩
 rw [if_neg g2]
 by_cases g3 : c1 > 4
 case pos => rw [if_pos g3]; exact ⟨_, rfl⟩
 rw [if_neg g3]
 by_cases g4 : c2 < 1
 case pos => rw [if_pos g4]; exact ⟨_, rfl⟩
 rw [if_neg g4]
 by_cases g5 : c2 > c1
 case pos => rw [if_pos g5]; exact ⟨_, rfl⟩
 rw [if_neg g5]
 by_cases g6 : c2 = 0
 case pos => omega
 rw [if_neg g6]
 by_cases g7 : Int.tmod c1 c2 = 0
 case neg => rw [if_neg g7]; exact ⟨_, rfl⟩
 rw [if_pos g7]
 by_cases g8 : c3 ≥ 2
 case neg => rw [if_neg g8]; exact ⟨_, rfl⟩
 rw [if_pos g8]
 by_cases g9 : c3 ≤ 16
 case neg => rw [if_neg g9]; exact ⟨_, rfl⟩
 rw [if_pos g9]
 by_cases g10 : Int.tmod c3 2 = 0
 case neg => rw [if_neg g10]; exact ⟨_, rfl⟩
 rw [if_pos g10]
 by_cases g11 : c4 ≥ 1
 case neg => rw [if_neg g11]; exact ⟨_, rfl⟩
 rw [if_pos g11]
 by_cases g12 : c4 ≤ 64
 case neg => rw [if_neg g12]; exact ⟨_, rfl⟩
 rw [if_pos g12]
 by_cases g13 : c5 ≥ 2
 case neg => rw [if_neg g13]; exact ⟨_, rfl⟩
 rw [if_pos g13]
 exact ⟨_, rfl⟩
def toR (I : PI) : S111 := match I.tab with
 | some (R, C) => ⟨R, C, I.xs⟩
 | none => ⟨0, 0, I.xs⟩
def toS (I : PI) : S110 := match I.tab with
 | some _ => ⟨I.r, I.c⟩
 | none => ⟨0, I.c⟩
def shapeI (I : PI) : Prop := match I.tab with
 | some _ => I.r ≠ 0
 | none => I.r = 1 ∧ wrap64 I.c = I.c
theorem refP_infos (v w kv q a7 a8 : Int) (l9 : List Int) (l10 : List S120) (l11 : List Int) (a12 a13 : Int) (l14 : List Int) : (infos v w kv q a7 a8 l9 l10 l11 a12 a13 l14).map toR = refP a7 a8 l9 l10 l11 a12 a13 l14 := by
 unfold infos refP layI
 rw [List.map_append, List.map_cons, List.map_flatMap]
 rfl
theorem bS_cons (w kv q : Int) : ∀ n, bS w kv q (n + 1) = [⟨0, w⟩, ⟨w, w⟩, ⟨kv, w⟩, ⟨kv, w⟩, ⟨w, w⟩, ⟨0, w⟩, ⟨q, w⟩, ⟨q, w⟩, ⟨w, q⟩] ++ bS w kv q n
 | 0 => rfl
 | n + 1 => by
  show bS w kv q (n + 1) ++ _ = _
  conv => lhs; rw [bS_cons w kv q n]
  rw [List.append_assoc]
  rfl
theorem layS (w kv q : Int) : ∀ l : List S120, (layI w kv q l).map toS = bS w kv q l.length
 | [] => rfl
 | x :: l => by
  have h := layS w kv q l
  unfold layI at h ⊢
  rw [List.flatMap_cons, List.map_append, h, List.length_cons, bS_cons]
  rfl
theorem infos_toS (v w kv q a7 a8 : Int) (l9 : List Int) (l10 : List S120) (l11 : List Int) (a12 a13 : Int) (l14 : List Int) : (infos v w kv q a7 a8 l9 l10 l11 a12 a13 l14).map toS = ⟨v, w⟩ :: bS w kv q l10.length ++ [⟨0, w⟩, ⟨v, w⟩] := by
 unfold infos
 rw [List.map_append, List.map_cons, layS]
 rfl
theorem infos_shape {v w kv q : Int} (hv : v ≠ 0) (hw : w ≠ 0) (hk : kv ≠ 0) (hq : q ≠ 0) (ew : wrap64 w = w) (a7 a8 : Int) (l9 : List Int) (l10 : List S120) (l11 : List Int) (a12 a13 : Int) (l14 : List Int) : ∀ I ∈ infos v w kv q a7 a8 l9 l10 l11 a12 a13 l14, shapeI I := by
 intro I hI
 unfold infos layI lay1 lay2 at hI
 simp only [List.mem_append, List.mem_cons, List.mem_flatMap, List.not_mem_nil, or_false] at hI
 rcases hI with (rfl | ⟨x, _, (rfl | rfl | rfl | rfl | rfl) | rfl | rfl | rfl | rfl⟩) | rfl | rfl
 all_goals first | exact ⟨rfl, ew⟩ | assumption
theorem toR_f2 (I : PI) : (toR I).f2 = I.xs := by
 obtain ⟨tab, xs, r, c⟩ := I
 cases tab <;> rfl
section
variable (a0 a1 a2 a3 a4 a5 a6 : Int) (T : List Int)
def tb (x : Int) : Bool := decide (x < -65536) || decide (x > 65536)
end
/-- What a blob with a right config is: 0, or the first thing that is wrong. -/
def RV (a0 a3 : Int) (l6 : List S115) (n10 : Nat) (Is : List PI) : Int :=
 if (n10 : Int) ≠ a0 ∨ (l6.length : Int) ≠ a3 / 2 ∨ Is.any (fun I => !I.ok) = true then 25
 else if (refT l6).any tb = true then 11 else if Is.any (fun I => I.xs.any blob_great.p) = true then 11 else 0
theorem refT_len : ∀ l : List S115, (refT l).length = 2 * l.length
 | [] => rfl
 | x :: l => by
  have h := refT_len l
  unfold refT at h ⊢
  rw [List.flatMap_cons, List.length_append, h]
  simp only [List.length_cons, List.length_nil]
  omega
theorem cfg_even {c0 c1 c2 c3 c4 c5 : Int} (h : credenzaref18_RightConfig.f c0 c1 c2 c3 c4 c5 = some true) : c3 % 2 = 0 := by
 obtain ⟨b0, b1, b2, b3, b4, b5, b6, b7, b8, b9, b10, b11⟩ := cfg_t h
 unfold credenzaref18_RightConfig.f at h
 rw [if_neg (by omega), if_neg (by omega), if_neg (by omega), if_neg (by omega), if_neg (by omega), if_neg (by omega), if_neg (by omega)] at h
 by_cases g7 : Int.tmod c1 c2 = 0
 case neg => rw [if_neg g7] at h; cases h
 rw [if_pos g7, if_pos b6, if_pos b7] at h
 by_cases g10 : Int.tmod c3 2 = 0
 ·
  rwa [tm_nonneg (by omega)] at g10
 ·
  rw [if_neg g10] at h; cases h
theorem cfg_w {c0 c1 c2 c3 c4 c5 : Int} (h : credenzaref18_RightConfig.f c0 c1 c2 c3 c4 c5 = some true) : (2 ≤ c1 * c3 ∧ c1 * c3 ≤ 64) ∧ (2 ≤ c2 * c3 ∧ c2 * c3 ≤ 64) ∧ wrap64 (c1 * c3) = c1 * c3 ∧ wrap64 (c2 * c3) = c2 * c3 := by
 obtain ⟨b0, b1, b2, b3, b4, b5, b6, b7, b8, b9, b10, b11⟩ := cfg_t h
 have m1 : 2 ≤ c1 * c3 := by have := Int.mul_le_mul b2 b6 (by decide) (by omega); omega
 have m2 : c1 * c3 ≤ 64 := by have := Int.mul_le_mul b3 b7 (by omega) (by decide); omega
 have m3 : 2 ≤ c2 * c3 := by have := Int.mul_le_mul b4 b6 (by decide) (by omega); omega
 have m4 : c2 * c3 ≤ 64 := by have := Int.mul_le_mul (show c2 ≤ 4 by omega) b7 (by omega) (by decide); omega
 exact ⟨⟨m1, m2⟩, ⟨m3, m4⟩, w64 (by omega) (by omega), w64 (by omega) (by omega)⟩
def Inf (a1 a2 a3 a4 a5 a7 a8 : Int) (l9 : List Int) (l10 : List S120) (l11 : List Int) (a12 a13 : Int) (l14 : List Int) : List PI := infos a5 (wrap64 (a1 * a3)) (wrap64 (a2 * a3)) a4 a7 a8 l9 l10 l11 a12 a13 l14
def tr (t : S115) : Bool := !(tb t.f0) && !(tb t.f1)
theorem right_tr (t : S115) : rope_right.f t.f0 t.f1 = some (tr t) := by
 unfold rope_right.f tr tb
 by_cases c1 : t.f0 ≥ -65536
 ·
  rw [if_pos c1]
  by_cases c2 : t.f0 ≤ 65536
  ·
   rw [if_pos c2]
   by_cases c3 : t.f1 ≥ -65536
   ·
    rw [if_pos c3]
    simp [show ¬ t.f0 < -65536 by omega, show ¬ t.f0 > 65536 by omega, show ¬ t.f1 < -65536 by omega]
    exact Bool.eq_iff_iff.mpr (by simp)
   ·
    rw [if_neg c3]
    simp [show t.f1 < -65536 by omega]
  ·
   rw [if_neg c2]
   simp [show t.f0 > 65536 by omega]
 ·
  rw [if_neg c1]
  simp [show t.f0 < -65536 by omega]
theorem allR_l (l : List S115) (hl : l.length < 1000000) : ∀ d i, l.length - i = d → i ≤ l.length → Ev (fun k => rope_allRight.l0 k l (l.length : Int) (i : Int)) ((l.drop i).all tr) := by
 intro d
 induction d with
 | zero =>
  intro i h1 h2
  rw [List.drop_eq_nil_of_le (by omega), List.all_nil]
  exact Ev.step (f := fun _ => some true) (fun k => by rw [rope_allRight.l0, if_neg (by omega)]) (Ev.now _)
 | succ d ih =>
  intro i h1 h2
  have hi : i < l.length := by omega
  have hrd : rd_T115 l (i : Int) = l[i] := by unfold rd_T115; rw [Int.toNat_natCast, List.getD_eq_getElem?_getD, List.getElem?_eq_getElem hi]; rfl
  rw [List.drop_eq_getElem_cons hi, List.all_cons]
  refine Ev.step (fun k => by rw [rope_allRight.l0, if_pos (by omega), if_pos (by omega), if_pos (by omega), hrd, right_tr, Option.bind_some, wsucc _ (by omega)]) ?_
  cases ht : tr l[i]
  ·
   rw [Bool.false_and]
   exact Ev.neg (by decide) (Ev.now _)
  ·
   rw [Bool.true_and]
   exact Ev.pos rfl (ih (i + 1) (by omega) (by omega))
theorem refT_any : ∀ l : List S115, (refT l).any tb = !(l.all tr)
 | [] => rfl
 | x :: l => by
  have h := refT_any l
  unfold refT at h ⊢
  rw [List.flatMap_cons, List.any_append, h, List.all_cons]
  simp only [List.any_cons, List.any_nil, tr]
  cases tb x.f0 <;> cases tb x.f1 <;> simp
theorem pRight {a0 a1 a2 a3 a4 a5 : Int} (h : credenzaref18_RightConfig.f a0 a1 a2 a3 a4 a5 = some true) (l6 : List S115) (a7 a8 : Int) (l9 : List Int) (l10 : List S120) (l11 : List Int) (a12 a13 : Int) (l14 : List Int) (hn10 : l10.length < 100000) :
  Ev (fun k => blob_Right.f k a0 a1 a2 a3 a4 a5 l6 a7 a8 l9 l10 l11 a12 a13 l14) (RV a0 a3 l6 l10.length (Inf a1 a2 a3 a4 a5 a7 a8 l9 l10 l11 a12 a13 l14)) := by
 obtain ⟨b0, b1, b2, b3, b4, b5, b6, b7, b8, b9, b10, b11⟩ := cfg_t h
 have e3 : wrap64 (Int.tdiv a3 2) = a3 / 2 := by rw [td_nonneg (by omega)]; exact w64 (by omega) (by omega)
 unfold blob_Right.f
 refine Ev.one ?_ (fun k => by rw [cfg_eq, h, Option.bind_some, if_pos rfl, if_pos (by omega), e3])
 unfold blob_Right.rest RV
 rw [show infos a5 (wrap64 (a1 * a3)) (wrap64 (a2 * a3)) a4 a7 a8 l9 l10 l11 a12 a13 l14 = Inf a1 a2 a3 a4 a5 a7 a8 l9 l10 l11 a12 a13 l14 from rfl]
 by_cases c1 : (l10.length : Int) = a0
 case neg => rw [if_pos (.inl c1)]; exact Ev.pos (bne_iff_ne.mpr c1) (Ev.now _)
 refine Ev.neg (by simp [c1]) ?_
 by_cases c2 : (l6.length : Int) = a3 / 2
 case neg => rw [if_pos (.inr (.inl c2))]; exact Ev.pos (bne_iff_ne.mpr c2) (Ev.now _)
 refine Ev.neg (by simp [c2]) ?_
 by_cases c3 : (Inf a1 a2 a3 a4 a5 a7 a8 l9 l10 l11 a12 a13 l14).any (fun I => !I.ok) = true
 case pos => rw [if_pos (.inr (.inr c3))]; exact Ev.pos c3 (Ev.now _)
 refine Ev.neg c3 ?_
 rw [if_neg (fun h => h.elim (fun h => h c1) (fun h => h.elim (fun h => h c2) (fun h => c3 h)))]
 by_cases c4 : (Inf a1 a2 a3 a4 a5 a7 a8 l9 l10 l11 a12 a13 l14).any (fun I => I.xs.any blob_great.p) = true
 case pos => rw [if_pos c4, ite_self]; exact Ev.pos c4 (Ev.now _)
 refine Ev.neg c4 ?_
 rw [if_neg c4]
 unfold rope_New.e
 refine Ev.neg (by omega) (Ev.bind (Ev.eq (allR_l l6 (by omega) _ 0 rfl (Nat.zero_le _)) (by rw [List.drop_zero])) ?_)
 rw [refT_any]
 cases l6.all tr
 ·
  exact Ev.neg (by decide) (Ev.now _)
 ·
  exact Ev.pos rfl (Ev.now _)
def I32 (x : Int) : Prop := -2147483648 ≤ x ∧ x ≤ 2147483647
theorem wf_i32 {x : Int} (h : (Lit.int .i32 x).wf = true) : I32 x := by
 simp [Lit.wf, IntKind.min, IntKind.max, IntKind.bits, IntKind.signed] at h
 unfold I32
 omega
def wd (x : Int) : List Nat := be 4 (x + 4294967296).toNat
def wds (l : List Int) : List Nat := l.flatMap wd
theorem be4 (v : Nat) : be 4 v = [v / 16777216 % 256, v / 65536 % 256, v / 256 % 256, v % 256] := by
 rw [be_head, be_head, be_head, be_head]
 simp [be]
theorem up_wd {x : Int} (h : I32 x) : up (wd x) = wordOf x := by
 obtain ⟨h1, h2⟩ := h
 have hv : (((x + 4294967296).toNat : Nat) : Int) = x + 4294967296 := Int.toNat_of_nonneg (by omega)
 unfold wd wordOf
 rw [be4]
 generalize (x + 4294967296).toNat = v at hv
 simp only [up, List.map_cons, List.map_nil, List.cons.injEq, and_true]
 refine ⟨?_, ?_, ?_, ?_⟩ <;> omega
theorem wd_bys (x : Int) : Bys (wd x) := be_bys _ _
theorem wd_len (x : Int) : (wd x).length = 4 := be_length _ _
theorem wds_bys : ∀ l, Bys (wds l)
 | [] => fun x hx => by cases hx
 | x :: l => by
  unfold wds
  rw [List.flatMap_cons]
  exact (wd_bys x).app (wds_bys l)
theorem wds_len : ∀ l, (wds l).length = 4 * l.length
 | [] => rfl
 | x :: l => by
  have h := wds_len l
  unfold wds at h ⊢
  rw [List.flatMap_cons, List.length_append, wd_len, h, List.length_cons]
  omega
theorem wds_app (a b : List Int) : wds (a ++ b) = wds a ++ wds b := List.flatMap_append
theorem up_wds : ∀ l : List Int, (∀ x ∈ l, I32 x) → up (wds l) = l.flatMap wordOf
 | [], _ => rfl
 | x :: l, h => by
  have h2 := up_wds l (fun y hy => h y (List.mem_cons_of_mem _ hy))
  unfold wds at h2 ⊢
  rw [List.flatMap_cons, List.flatMap_cons, up_app, h2, up_wd (h x (List.mem_cons_self ..))]
theorem Ev.all {α β : Type} {f : Nat → α → Option β} {g : α → β} : ∀ l : List α, (∀ x ∈ l, Ev (fun k => f k x) (g x)) → ∃ K, ∀ n, K ≤ n → ∀ x ∈ l, f n x = some (g x)
 | [], _ => ⟨0, fun n _ x hx => by cases hx⟩
 | y :: l, h => by
  obtain ⟨K1, h1⟩ := h y (List.mem_cons_self ..)
  obtain ⟨K2, h2⟩ := Ev.all l (fun x hx => h x (List.mem_cons_of_mem _ hx))
  refine ⟨K1 + K2, fun n hn x hx => ?_⟩
  rcases List.mem_cons.1 hx with rfl | hx
  ·
   exact h1 n (by omega)
  ·
   exact h2 n (by omega) x hx
def numsOf (l6 : List S115) (Is : List PI) : List Int := refT l6 ++ Is.flatMap PI.xs
theorem fm_words (Is : List PI) : Is.flatMap pw4 = (Is.flatMap PI.xs).flatMap wordOf := by rw [List.flatMap_assoc]; rfl
theorem fm_turns (l6 : List S115) : l6.flatMap tw4 = (refT l6).flatMap wordOf := by
 unfold refT
 rw [List.flatMap_assoc]
 refine congrArg (fun f => l6.flatMap f) ?_
 funext t
 simp [tw4]
def hd7 (a0 a1 a2 a3 a4 a5 : Int) : List Nat := [87, a0.toNat, a1.toNat, a2.toNat, a3.toNat, a4.toNat, a5.toNat]
section
variable {a0 a1 a2 a3 a4 a5 : Int} (h : credenzaref18_RightConfig.f a0 a1 a2 a3 a4 a5 = some true)
include h
theorem hd7_bys : Bys (hd7 a0 a1 a2 a3 a4 a5) := by
 obtain ⟨b0, b1, b2, b3, b4, b5, b6, b7, b8, b9, b10, b11⟩ := cfg_t h
 intro x hx
 simp only [hd7, List.mem_cons, List.not_mem_nil, or_false] at hx
 rcases hx with rfl | rfl | rfl | rfl | rfl | rfl | rfl <;> omega
theorem hd7_up : up (hd7 a0 a1 a2 a3 a4 a5) = [87, a0 % 256, a1 % 256, a2 % 256, a3 % 256, a4 % 256, a5 % 256] := by
 obtain ⟨b0, b1, b2, b3, b4, b5, b6, b7, b8, b9, b10, b11⟩ := cfg_t h
 simp only [hd7, up, List.map_cons, List.map_nil, List.cons.injEq, and_true]
 refine ⟨rfl, ?_, ?_, ?_, ?_, ?_, ?_⟩ <;> omega
end
/-- A blob's bytes, ahead of the sum. -/
def LB (a0 a1 a2 a3 a4 a5 : Int) (l6 : List S115) (Is : List PI) : List Nat := hd7 a0 a1 a2 a3 a4 a5 ++ wds (numsOf l6 Is)
theorem LB_len (a0 a1 a2 a3 a4 a5 : Int) (l6 : List S115) (Is : List PI) : (LB a0 a1 a2 a3 a4 a5 l6 Is).length = 7 + 4 * (numsOf l6 Is).length := by
 unfold LB
 rw [List.length_append, wds_len]
 rfl
theorem LB_bys {a0 a1 a2 a3 a4 a5 : Int} (h : credenzaref18_RightConfig.f a0 a1 a2 a3 a4 a5 = some true) (l6 : List S115) (Is : List PI) : Bys (LB a0 a1 a2 a3 a4 a5 l6 Is) := (hd7_bys h).app (wds_bys _)
theorem pBytes_eq {a0 a1 a2 a3 a4 a5 : Int} (h : credenzaref18_RightConfig.f a0 a1 a2 a3 a4 a5 = some true) (l6 : List S115) (a7 a8 : Int) (l9 : List Int) (l10 : List S120) (l11 : List Int) (a12 a13 : Int) (l14 : List Int) (hr : ∀ x ∈ numsOf l6 (Inf a1 a2 a3 a4 a5 a7 a8 l9 l10 l11 a12 a13 l14), I32 x) :
  blob_Bytes.bytes a0 a1 a2 a3 a4 a5 l6 a7 a8 l9 l10 l11 a12 a13 l14 = up (LB a0 a1 a2 a3 a4 a5 l6 (Inf a1 a2 a3 a4 a5 a7 a8 l9 l10 l11 a12 a13 l14)) := by
 unfold blob_Bytes.bytes LB
 rw [up_app, up_wds _ hr, hd7_up h, fm_turns, show infos a5 (wrap64 (a1 * a3)) (wrap64 (a2 * a3)) a4 a7 a8 l9 l10 l11 a12 a13 l14 = Inf a1 a2 a3 a4 a5 a7 a8 l9 l10 l11 a12 a13 l14 from rfl, fm_words]
 unfold numsOf
 rw [List.flatMap_append, List.append_assoc]
theorem ok_len {I : PI} (h : I.ok = true) : (I.xs.length : Int) = wrap64 (I.r * I.c) := by
 obtain ⟨tab, xs, r, c⟩ := I
 cases tab with
 | none => simpa [PI.ok] using h
 | some t =>
  simp only [PI.ok] at h
  split at h
  ·
   cases h
  ·
   simpa using h
theorem ok_tab {I : PI} {R C : Int} (h : I.ok = true) (ht : I.tab = some (R, C)) : R = I.r ∧ C = I.c := by
 unfold PI.ok at h
 rw [ht] at h
 simp only at h
 split at h
 ·
  cases h
 ·
  next hc => simpa using hc
theorem RV0 {a0 a3 : Int} {l6 : List S115} {n : Nat} {Is : List PI} (h : RV a0 a3 l6 n Is = 0) : (n : Int) = a0 ∧ (l6.length : Int) = a3 / 2 ∧ ∀ I ∈ Is, I.ok = true := by
 unfold RV at h
 split at h
 ·
  cases h
 ·
  next hc =>
  have hc := not_or.mp hc
  have hc2 := not_or.mp hc.2
  refine ⟨Decidable.not_not.mp hc.1, Decidable.not_not.mp hc2.1, fun I hI => ?_⟩
  have := hc2.2
  simp only [List.any_eq_true, not_exists, not_and] at this
  simpa using this I hI
theorem infos_rc {v w kv q : Int} (hv : 2 ≤ v ∧ v ≤ 64) (hw : 2 ≤ w ∧ w ≤ 64) (hk : 2 ≤ kv ∧ kv ≤ 64) (hq : 1 ≤ q ∧ q ≤ 64) (a7 a8 : Int) (l9 : List Int) (l10 : List S120) (l11 : List Int) (a12 a13 : Int) (l14 : List Int) : ∀ I ∈ infos v w kv q a7 a8 l9 l10 l11 a12 a13 l14, (1 ≤ I.r ∧ I.r ≤ 64) ∧ (1 ≤ I.c ∧ I.c ≤ 64) := by
 intro I hI
 unfold infos layI lay1 lay2 at hI
 simp only [List.mem_append, List.mem_cons, List.mem_flatMap, List.not_mem_nil, or_false] at hI
 rcases hI with (rfl | ⟨x, _, (rfl | rfl | rfl | rfl | rfl) | rfl | rfl | rfl | rfl⟩) | rfl | rfl
 all_goals (simp only; omega)
theorem rc_prod {r c : Int} (hr : 1 ≤ r ∧ r ≤ 64) (hc : 1 ≤ c ∧ c ≤ 64) : 1 ≤ r * c ∧ r * c ≤ 4096 ∧ wrap64 (r * c) = r * c := by
 have m1 : 1 ≤ r * c := by have := Int.mul_le_mul hr.1 hc.1 (by decide) (by omega); omega
 have m2 : r * c ≤ 4096 := by have := Int.mul_le_mul hr.2 hc.2 (by omega) (by decide); omega
 exact ⟨m1, m2, w64 (by omega) (by omega)⟩
theorem fm_len_le {Is : List PI} (h : ∀ I ∈ Is, I.xs.length ≤ 4096) : (Is.flatMap PI.xs).length ≤ 4096 * Is.length := by
 induction Is with
 | nil => exact Nat.zero_le _
 | cons I Is ih =>
  rw [List.flatMap_cons, List.length_append, List.length_cons]
  have h1 := h I (List.mem_cons_self ..)
  have h2 := ih (fun J hJ => h J (List.mem_cons_of_mem _ hJ))
  omega
theorem Inf_len (a1 a2 a3 a4 a5 a7 a8 : Int) (l9 : List Int) (l10 : List S120) (l11 : List Int) (a12 a13 : Int) (l14 : List Int) : (Inf a1 a2 a3 a4 a5 a7 a8 l9 l10 l11 a12 a13 l14).length = 9 * l10.length + 3 := by
 have h1 := congrArg List.length (infos_toS a5 (wrap64 (a1 * a3)) (wrap64 (a2 * a3)) a4 a7 a8 l9 l10 l11 a12 a13 l14)
 rw [List.length_map] at h1
 unfold Inf
 rw [h1]
 simp only [List.length_append, List.length_cons, List.length_nil, bS_len]
section
variable {a0 a1 a2 a3 a4 a5 : Int} (h : credenzaref18_RightConfig.f a0 a1 a2 a3 a4 a5 = some true) {l6 : List S115} {a7 a8 : Int} {l9 : List Int} {l10 : List S120} {l11 : List Int} {a12 a13 : Int} {l14 : List Int}
 (hv : RV a0 a3 l6 l10.length (Inf a1 a2 a3 a4 a5 a7 a8 l9 l10 l11 a12 a13 l14) = 0)
include h hv
theorem nums_small : (numsOf l6 (Inf a1 a2 a3 a4 a5 a7 a8 l9 l10 l11 a12 a13 l14)).length ≤ 160000 := by
 obtain ⟨b0, b1, b2, b3, b4, b5, b6, b7, b8, b9, b10, b11⟩ := cfg_t h
 obtain ⟨⟨m1, m2⟩, ⟨m3, m4⟩, e1, e2⟩ := cfg_w h
 obtain ⟨g1, g2, g3⟩ := RV0 hv
 have hrc := infos_rc (v := a5) (w := wrap64 (a1 * a3)) (kv := wrap64 (a2 * a3)) (q := a4) ⟨b10, b11⟩ (by omega) (by omega) ⟨b8, b9⟩ a7 a8 l9 l10 l11 a12 a13 l14
 have hl := fm_len_le (Is := Inf a1 a2 a3 a4 a5 a7 a8 l9 l10 l11 a12 a13 l14) (fun I hI => by
  have h1 := ok_len (g3 I hI)
  have h2 := hrc I hI
  have h3 := rc_prod h2.1 h2.2
  omega)
 rw [Inf_len] at hl
 unfold numsOf
 rw [List.length_append, refT_len]
 omega
end
theorem pBytes_bad {k : Nat} {a0 a1 a2 a3 a4 a5 : Int} {l6 : List S115} {a7 a8 : Int} {l9 : List Int} {l10 : List S120} {l11 : List Int} {a12 a13 : Int} {l14 : List Int} {e : Int} (h : blob_Right.f k a0 a1 a2 a3 a4 a5 l6 a7 a8 l9 l10 l11 a12 a13 l14 = some e) (he : e ≠ 0) : blob_Bytes.f k a0 a1 a2 a3 a4 a5 l6 a7 a8 l9 l10 l11 a12 a13 l14 = some ([], e) := by
 unfold blob_Bytes.f
 rw [h, Option.bind_some, if_neg he]
theorem pBytes {a0 a1 a2 a3 a4 a5 : Int} (h : credenzaref18_RightConfig.f a0 a1 a2 a3 a4 a5 = some true) {l6 : List S115} {a7 a8 : Int} {l9 : List Int} {l10 : List S120} {l11 : List Int} {a12 a13 : Int} {l14 : List Int} (hv : RV a0 a3 l6 l10.length (Inf a1 a2 a3 a4 a5 a7 a8 l9 l10 l11 a12 a13 l14) = 0) (hr : ∀ x ∈ numsOf l6 (Inf a1 a2 a3 a4 a5 a7 a8 l9 l10 l11 a12 a13 l14), I32 x) :
  Ev (fun k => blob_Bytes.f k a0 a1 a2 a3 a4 a5 l6 a7 a8 l9 l10 l11 a12 a13 l14) (up (cl (LB a0 a1 a2 a3 a4 a5 l6 (Inf a1 a2 a3 a4 a5 a7 a8 l9 l10 l11 a12 a13 l14))), 0) := by
 have hs := nums_small h hv
 have hn : l10.length ≤ 4 := by have := (RV0 hv).1; have := (cfg_t h).2.1; omega
 have hb := LB_len a0 a1 a2 a3 a4 a5 l6 (Inf a1 a2 a3 a4 a5 a7 a8 l9 l10 l11 a12 a13 l14)
 unfold blob_Bytes.f
 refine Ev.bind (Ev.eq (pRight h l6 a7 a8 l9 l10 l11 a12 a13 l14 (by omega)) hv) ?_
 rw [pBytes_eq h l6 a7 a8 l9 l10 l11 a12 a13 l14 hr]
 refine Ev.pos rfl (Ev.pos ⟨by omega, by rw [up_length]; omega⟩ ?_)
 exact Ev.bind (Close_f _ (LB_bys h _ _) (by omega)) (Ev.now _)
theorem nm_wd {x : Int} (h : I32 x) : wrap32 (((nm 0 (wd x) : Nat) : Int) % 4294967296) = x := by
 obtain ⟨h1, h2⟩ := h
 have hv : (((x + 4294967296).toNat : Nat) : Int) = x + 4294967296 := Int.toNat_of_nonneg (by omega)
 unfold wd
 rw [nm_be]
 generalize (x + 4294967296).toNat = v at hv
 have e : ((v % 256 ^ 4 : Nat) : Int) = (v : Int) % 4294967296 := by rw [show (256 : Nat) ^ 4 = 4294967296 by decide]; omega
 rw [e]
 unfold wrap32
 omega
theorem Signed_f {x : Int} (h : I32 x) (l : List Nat) (hl : Bys l) (hn : l.length < 900000) : Ev (fun k => seal_Reader_Signed.f k (up (wd x ++ l)) false) (x, up l, false) := by
 have hw := wd_len x
 have hlen : (wd x ++ l).length = 4 + l.length := by rw [List.length_append, hw]
 have h1 := Num_f (wd x ++ l) ((wd_bys x).app hl) false 4 (by omega)
 rw [show wide 4 = 4 from rfl, if_neg (by omega), List.take_left' hw, List.drop_left' hw] at h1
 unfold seal_Reader_Signed.f
 refine Ev.bind h1 ?_
 simp only [nm_wd h]
 exact Ev.now _
theorem rdA_f (xs : List Int) (l : List Nat) (hl : Bys l) (hx : ∀ x ∈ xs, I32 x) (hn : 4 * xs.length + l.length < 900000) : ∀ n, n ≤ xs.length → Ev (fun k => rdA k (up (wds xs ++ l)) false n) (xs.take n, up (wds (xs.drop n) ++ l), false)
 | 0, _ => Ev.now _
 | n + 1, h => by
  have hlt : n < xs.length := by omega
  refine Ev.bind (rdA_f xs l hl hx hn n (by omega)) ?_
  have e : wds (xs.drop n) ++ l = wd xs[n] ++ (wds (xs.drop (n + 1)) ++ l) := by
   rw [List.drop_eq_getElem_cons hlt]
   unfold wds
   rw [List.flatMap_cons, List.append_assoc]
  simp only
  rw [e]
  refine Ev.bind (Signed_f (hx _ (List.getElem_mem hlt)) _ ((wds_bys _).app hl) (by rw [List.length_append, wds_len, List.length_drop]; omega)) ?_
  rw [List.take_add_one, List.getElem?_eq_getElem hlt]
  exact Ev.now _
theorem rdT_f (ts : List S115) (l : List Nat) (hl : Bys l) (hx : ∀ x ∈ refT ts, I32 x) (hn : 8 * ts.length + l.length < 900000) : ∀ n, n ≤ ts.length → Ev (fun k => rdT k (up (wds (refT ts) ++ l)) false n) (ts.take n, up (wds (refT (ts.drop n)) ++ l), false)
 | 0, _ => Ev.now _
 | n + 1, h => by
  have hlt : n < ts.length := by omega
  refine Ev.bind (rdT_f ts l hl hx hn n (by omega)) ?_
  have hm : ∀ z ∈ [ts[n].f0, ts[n].f1], z ∈ refT ts := fun z hz => List.mem_flatMap.2 ⟨ts[n], List.getElem_mem hlt, hz⟩
  have e : wds (refT (ts.drop n)) ++ l = wd ts[n].f0 ++ (wd ts[n].f1 ++ (wds (refT (ts.drop (n + 1))) ++ l)) := by
   rw [List.drop_eq_getElem_cons hlt]
   unfold wds refT
   rw [List.flatMap_cons, List.flatMap_append]
   simp
  have hb := (wds_bys (refT (ts.drop (n + 1)))).app hl
  have hlen : (wds (refT (ts.drop (n + 1))) ++ l).length < 899000 ∨ 899000 ≤ (wds (refT (ts.drop (n + 1))) ++ l).length := Nat.lt_or_ge _ _
  have hle : (wds (refT (ts.drop (n + 1))) ++ l).length + 8 < 900000 := by rw [List.length_append, wds_len, refT_len, List.length_drop]; omega
  simp only
  rw [e]
  refine Ev.bind (Signed_f (hx _ (hm _ (List.mem_cons_self ..))) _ ((wd_bys _).app hb) (by rw [List.length_append, wd_len]; omega)) ?_
  refine Ev.bind (Signed_f (hx _ (hm _ (List.mem_cons_of_mem _ (List.mem_cons_self ..)))) _ hb (by omega)) ?_
  rw [List.take_add_one, List.getElem?_eq_getElem hlt]
  exact Ev.now _
theorem rdP_f (xss : List (List Int)) (ns : List Nat) (hns : ns = xss.map List.length) (hx : ∀ xs ∈ xss, ∀ x ∈ xs, I32 x) (hn : 4 * xss.flatten.length < 900000) : ∀ n, n ≤ xss.length → Ev (fun k => rdP k (up (wds xss.flatten)) false ns n) (xss.take n, up (wds (xss.drop n).flatten), false)
 | 0, _ => Ev.now _
 | n + 1, h => by
  have hlt : n < xss.length := by omega
  refine Ev.bind (rdP_f xss ns hns hx hn n (by omega)) ?_
  have e : wds (xss.drop n).flatten = wds xss[n] ++ wds (xss.drop (n + 1)).flatten := by rw [List.drop_eq_getElem_cons hlt, List.flatten_cons, wds_app]
  have hd : ns.getD n 0 = xss[n].length := by rw [hns, List.getD_eq_getElem?_getD, List.getElem?_map, List.getElem?_eq_getElem hlt]; rfl
  have hsum : xss.flatten.length = (xss.take n).flatten.length + (xss[n].length + (xss.drop (n + 1)).flatten.length) := by
   have h1 := congrArg (fun z => z.flatten.length) (List.take_append_drop n xss)
   rw [List.flatten_append, List.length_append, List.drop_eq_getElem_cons hlt, List.flatten_cons, List.length_append] at h1
   exact h1.symm
  have hA := rdA_f xss[n] (wds (xss.drop (n + 1)).flatten) (wds_bys _) (hx _ (List.getElem_mem hlt)) (by rw [wds_len]; omega) xss[n].length (Nat.le_refl _)
  rw [List.take_length, List.drop_length] at hA
  simp only
  rw [e, hd]
  refine Ev.bind hA ?_
  rw [List.take_add_one, List.getElem?_eq_getElem hlt]
  exact Ev.now _
def rcOf (I : PI) : Int × Int := (I.r, I.c)
def rc9 (w kv q : Int) : List (Int × Int) := [(1, w), (w, w), (kv, w), (kv, w), (w, w), (1, w), (q, w), (q, w), (w, q)]
def rcN (w kv q : Int) : Nat → List (Int × Int)
 | 0 => []
 | n + 1 => rcN w kv q n ++ rc9 w kv q
theorem rcN_cons (w kv q : Int) : ∀ n, rcN w kv q (n + 1) = rc9 w kv q ++ rcN w kv q n
 | 0 => by simp [rcN]
 | n + 1 => by
  show rcN w kv q (n + 1) ++ _ = _
  conv => lhs; rw [rcN_cons w kv q n]
  rw [List.append_assoc]
  rfl
theorem layP_rc (w kv q : Int) : ∀ n, (layP w kv q n).map (fun p => (p.r, p.c)) = rcN w kv q n
 | 0 => rfl
 | n + 1 => by rw [layP, List.map_append, layP_rc w kv q n]; rfl
theorem layI_rc (w kv q : Int) : ∀ l : List S120, (layI w kv q l).map rcOf = rcN w kv q l.length
 | [] => rfl
 | x :: l => by
  have h := layI_rc w kv q l
  unfold layI at h ⊢
  rw [List.flatMap_cons, List.map_append, h, List.length_cons, rcN_cons]
  rfl
theorem allP_rc (v w kv q a7 a8 : Int) (l9 : List Int) (l10 : List S120) (l11 : List Int) (a12 a13 : Int) (l14 : List Int) : (allP l10.length v w kv q).map (fun p => (p.r, p.c)) = (infos v w kv q a7 a8 l9 l10 l11 a12 a13 l14).map rcOf := by
 unfold allP infos
 simp only [List.map_append, List.map_cons, layP_rc, layI_rc]
 rfl
theorem cnt_len {Is : List PI} {ps : List Pt} (h : ps.map (fun p => (p.r, p.c)) = Is.map rcOf) (ho : ∀ I ∈ Is, (I.xs.length : Int) = I.r * I.c) : ps.map Pt.cnt = (Is.map PI.xs).map List.length := by
 have e1 : ps.map Pt.cnt = (ps.map (fun p => (p.r, p.c))).map (fun z => (z.1 * z.2).toNat) := by rw [List.map_map]; rfl
 rw [e1, h, List.map_map, List.map_map]
 refine List.map_congr_left (fun I hI => ?_)
 have := ho I hI
 show (I.r * I.c).toNat = I.xs.length
 omega
theorem layI_at (w kv q : Int) : ∀ (l : List S120) (j p : Nat) (x : S120), l[j]? = some x → p < 9 → (layI w kv q l)[9 * j + p]? = (lay1 x w kv q ++ lay2 x w kv q)[p]?
 | [], j, p, x, h, _ => by simp at h
 | y :: l, 0, p, x, h, hp => by
  obtain rfl := Option.some.inj h
  unfold layI
  rw [List.flatMap_cons, Nat.mul_zero, Nat.zero_add, List.getElem?_append_left (by simp [lay1, lay2]; omega)]
 | y :: l, j + 1, p, x, h, hp => by
  have h1 := layI_at w kv q l j p x h hp
  unfold layI at h1 ⊢
  rw [List.flatMap_cons, List.getElem?_append_right (by simp [lay1, lay2]; omega), ← h1]
  congr 1
  simp [lay1, lay2]
  omega
theorem layI_len (w kv q : Int) (l : List S120) : (layI w kv q l).length = 9 * l.length := by
 have h := congrArg List.length (layS w kv q l)
 rw [List.length_map, bS_len] at h
 exact h
section
variable {v w kv q a7 a8 : Int} {l9 : List Int} {l10 : List S120} {l11 : List Int} {a12 a13 : Int} {l14 : List Int}
theorem infos_0 : (infos v w kv q a7 a8 l9 l10 l11 a12 a13 l14)[0]? = some ⟨some (a7, a8), l9, v, w⟩ := rfl
theorem infos_at {j p : Nat} {x : S120} (hx : l10[j]? = some x) (hp : p < 9) : (infos v w kv q a7 a8 l9 l10 l11 a12 a13 l14)[1 + 9 * j + p]? = (lay1 x w kv q ++ lay2 x w kv q)[p]? := by
 have hj : j < l10.length := (List.getElem?_eq_some_iff.1 hx).1
 unfold infos
 rw [show 1 + 9 * j + p = (9 * j + p) + 1 by omega, List.cons_append, List.getElem?_cons_succ, List.getElem?_append_left (by rw [layI_len]; omega)]
 exact layI_at w kv q l10 j p x hx hp
theorem infos_last : (infos v w kv q a7 a8 l9 l10 l11 a12 a13 l14)[9 * l10.length + 1]? = some ⟨none, l11, 1, w⟩ := by
 unfold infos
 rw [List.cons_append, List.getElem?_cons_succ, List.getElem?_append_right (by rw [layI_len]; omega), layI_len, Nat.sub_self]
 rfl
theorem infos_out : (infos v w kv q a7 a8 l9 l10 l11 a12 a13 l14)[9 * l10.length + 2]? = some ⟨some (a12, a13), l14, v, w⟩ := by
 unfold infos
 rw [List.cons_append, List.getElem?_cons_succ, List.getElem?_append_right (by rw [layI_len]; omega), layI_len, show 9 * l10.length + 1 - 9 * l10.length = 1 by omega]
 rfl
theorem xs_at {Is : List PI} {i : Nat} {I : PI} (h : Is[i]? = some I) : (Is.map PI.xs).getD i [] = I.xs := by rw [List.getD_eq_getElem?_getD, List.getElem?_map, h]; rfl
theorem lays_back (ho : ∀ I ∈ infos v w kv q a7 a8 l9 l10 l11 a12 a13 l14, I.ok = true) : (List.range l10.length).map (layOf w kv q ((infos v w kv q a7 a8 l9 l10 l11 a12 a13 l14).map PI.xs)) = l10 := by
 apply List.ext_getElem?
 intro j
 by_cases hj : j < l10.length
 ·
  obtain ⟨x, hx⟩ : ∃ x, l10[j]? = some x := ⟨_, List.getElem?_eq_getElem hj⟩
  rw [List.getElem?_map, List.getElem?_range hj, hx, Option.map_some]
  have A : ∀ (p : Nat) (I : PI), p < 9 → (lay1 x w kv q ++ lay2 x w kv q)[p]? = some I → ((infos v w kv q a7 a8 l9 l10 l11 a12 a13 l14).map PI.xs).getD (1 + 9 * j + p) [] = I.xs ∧ I.ok = true := by
   intro p I hp hI
   have h1 := (infos_at (v := v) (w := w) (kv := kv) (q := q) (a7 := a7) (a8 := a8) (l9 := l9) (l11 := l11) (a12 := a12) (a13 := a13) (l14 := l14) hx hp).trans hI
   exact ⟨xs_at h1, ho I (List.mem_of_getElem? h1)⟩
  obtain ⟨f0, ⟨r1, c1, x1⟩, ⟨r2, c2, x2⟩, ⟨r3, c3, x3⟩, ⟨r4, c4, x4⟩, f5, ⟨r6, c6, x6⟩, ⟨r7, c7, x7⟩, ⟨r8, c8, x8⟩⟩ := x
  have g0 := A 0 _ (by decide) rfl
  have g1 := A 1 _ (by decide) rfl
  have g2 := A 2 _ (by decide) rfl
  have g3 := A 3 _ (by decide) rfl
  have g4 := A 4 _ (by decide) rfl
  have g5 := A 5 _ (by decide) rfl
  have g6 := A 6 _ (by decide) rfl
  have g7 := A 7 _ (by decide) rfl
  have g8 := A 8 _ (by decide) rfl
  have t1 := ok_tab g1.2 rfl
  have t2 := ok_tab g2.2 rfl
  have t3 := ok_tab g3.2 rfl
  have t4 := ok_tab g4.2 rfl
  have t6 := ok_tab g6.2 rfl
  have t7 := ok_tab g7.2 rfl
  have t8 := ok_tab g8.2 rfl
  simp only at t1 t2 t3 t4 t6 t7 t8
  unfold layOf
  rw [g0.1, g1.1, g2.1, g3.1, g4.1, g5.1, g6.1, g7.1, g8.1, t1.1, t1.2, t2.1, t2.2, t3.1, t3.2, t4.1, t4.2, t6.1, t6.2, t7.1, t7.2, t8.1, t8.2]
 ·
  rw [List.getElem?_eq_none (by simp; omega), List.getElem?_eq_none (by omega)]
end
theorem bfl_sum : ∀ (l : List Int) (x : Int), (∀ y ∈ l, 0 ≤ y ∧ y ≤ 4096) → 0 ≤ x → x + 4096 * l.length < 1000000000 → bfl x l = x + l.sum ∧ 0 ≤ l.sum ∧ l.sum ≤ 4096 * l.length
 | [], x, _, _, _ => ⟨by simp [bfl], by simp, by simp⟩
 | y :: l, x, h, h0, hb => by
  have hy := h y (List.mem_cons_self ..)
  rw [List.length_cons] at hb
  obtain ⟨h1, h2, h3⟩ := bfl_sum l (x + y) (fun z hz => h z (List.mem_cons_of_mem _ hz)) (by omega) (by omega)
  rw [bfl, w64 (by omega) (by omega), h1, List.sum_cons, List.length_cons]
  omega
theorem fm_sum : ∀ Is : List PI, ((Is.flatMap PI.xs).length : Int) = (Is.map (fun I => (I.xs.length : Int))).sum
 | [] => rfl
 | I :: Is => by rw [List.flatMap_cons, List.length_append, List.map_cons, List.sum_cons, ← fm_sum Is]; omega
theorem cnt_toS {I : PI} (h : shapeI I) : bcnt (toS I) = wrap64 (I.r * I.c) := by
 obtain ⟨tab, xs, r, c⟩ := I
 cases tab with
 | none =>
  obtain ⟨h1, h2⟩ := h
  simp only at h1 h2
  simp [toS, bcnt, h1, h2]
 | some t =>
  have h1 : r ≠ 0 := h
  simp [toS, bcnt, h1]
section
variable {a0 a1 a2 a3 a4 a5 : Int} (h : credenzaref18_RightConfig.f a0 a1 a2 a3 a4 a5 = some true)
include h
/-- The count of a config's numbers, with any layers. -/
theorem num_val : blob_Config_Numbers.f a0 a1 a2 a3 a4 a5 = some (bfl a3 ((⟨a5, wrap64 (a1 * a3)⟩ :: bS (wrap64 (a1 * a3)) (wrap64 (a2 * a3)) a4 a0.toNat ++ [⟨0, wrap64 (a1 * a3)⟩, ⟨a5, wrap64 (a1 * a3)⟩] : List S110).map bcnt)) := by
 obtain ⟨b0, b1, b2, b3, b4, b5, b6, b7, b8, b9, b10, b11⟩ := cfg_t h
 obtain ⟨⟨m1, m2⟩, ⟨m3, m4⟩, e1, e2⟩ := cfg_w h
 unfold blob_Config_Numbers.f
 rw [cfg_eq, h, Option.bind_some, if_pos rfl, if_pos (by omega), if_pos (by omega), nb_fl, all_map (v := a5) (w := wrap64 (a1 * a3)) (kv := wrap64 (a2 * a3)) (q := a4) ⟨b10, b11⟩ (by omega) (by omega) ⟨b8, b9⟩]
variable {l6 : List S115} {a7 a8 : Int} {l9 : List Int} {l10 : List S120} {l11 : List Int} {a12 a13 : Int} {l14 : List Int}
 (hv : RV a0 a3 l6 l10.length (Inf a1 a2 a3 a4 a5 a7 a8 l9 l10 l11 a12 a13 l14) = 0)
include hv
theorem ok_prod : ∀ I ∈ Inf a1 a2 a3 a4 a5 a7 a8 l9 l10 l11 a12 a13 l14, (I.xs.length : Int) = I.r * I.c ∧ I.r * I.c ≤ 4096 := by
 obtain ⟨b0, b1, b2, b3, b4, b5, b6, b7, b8, b9, b10, b11⟩ := cfg_t h
 obtain ⟨⟨m1, m2⟩, ⟨m3, m4⟩, e1, e2⟩ := cfg_w h
 intro I hI
 have h1 := ok_len ((RV0 hv).2.2 I hI)
 have h2 := infos_rc (v := a5) (w := wrap64 (a1 * a3)) (kv := wrap64 (a2 * a3)) (q := a4) ⟨b10, b11⟩ (by omega) (by omega) ⟨b8, b9⟩ a7 a8 l9 l10 l11 a12 a13 l14 I hI
 have h3 := rc_prod h2.1 h2.2
 exact ⟨by rw [h1, h3.2.2], h3.2.1⟩
theorem num_len : blob_Config_Numbers.f a0 a1 a2 a3 a4 a5 = some ((numsOf l6 (Inf a1 a2 a3 a4 a5 a7 a8 l9 l10 l11 a12 a13 l14)).length : Int) := by
 obtain ⟨b0, b1, b2, b3, b4, b5, b6, b7, b8, b9, b10, b11⟩ := cfg_t h
 obtain ⟨⟨m1, m2⟩, ⟨m3, m4⟩, e1, e2⟩ := cfg_w h
 obtain ⟨g1, g2, g3⟩ := RV0 hv
 have hp := ok_prod h hv
 have ev := cfg_even h
 rw [num_val h, show a0.toNat = l10.length by omega, ← infos_toS a5 (wrap64 (a1 * a3)) (wrap64 (a2 * a3)) a4 a7 a8 l9 l10 l11 a12 a13 l14, show infos a5 (wrap64 (a1 * a3)) (wrap64 (a2 * a3)) a4 a7 a8 l9 l10 l11 a12 a13 l14 = Inf a1 a2 a3 a4 a5 a7 a8 l9 l10 l11 a12 a13 l14 from rfl]
 have hs := infos_shape (v := a5) (w := wrap64 (a1 * a3)) (kv := wrap64 (a2 * a3)) (q := a4) (by omega) (by omega) (by omega) (by omega) (w64 (by omega) (by omega)) a7 a8 l9 l10 l11 a12 a13 l14
 have e : ((Inf a1 a2 a3 a4 a5 a7 a8 l9 l10 l11 a12 a13 l14).map toS).map bcnt = (Inf a1 a2 a3 a4 a5 a7 a8 l9 l10 l11 a12 a13 l14).map (fun I => (I.xs.length : Int)) := by
  rw [List.map_map]
  refine List.map_congr_left (fun I hI => ?_)
  have h1 := ok_len (g3 I hI)
  show bcnt (toS I) = (I.xs.length : Int)
  rw [cnt_toS (hs I hI), h1]
 have hb := bfl_sum ((Inf a1 a2 a3 a4 a5 a7 a8 l9 l10 l11 a12 a13 l14).map (fun I => (I.xs.length : Int))) a3 (fun y hy => by
  obtain ⟨I, hI, rfl⟩ := List.mem_map.1 hy
  have := hp I hI
  omega) (by omega) (by rw [List.length_map, Inf_len]; omega)
 rw [e, hb.1, ← fm_sum]
 unfold numsOf
 rw [List.length_append, refT_len]
 congr 1
 omega
end
theorem size_eq (n : Nat) (h : n ≤ 160000) : wrap64 (wrap64 (7 + wrap64 (4 * (n : Int))) + 4) = ((7 + 4 * n + 4 : Nat) : Int) := by
 have e1 : wrap64 (4 * (n : Int)) = 4 * (n : Int) := w64 (by omega) (by omega)
 have e2 : wrap64 (7 + 4 * (n : Int)) = 7 + 4 * (n : Int) := w64 (by omega) (by omega)
 have e3 : wrap64 (7 + 4 * (n : Int) + 4) = 7 + 4 * (n : Int) + 4 := w64 (by omega) (by omega)
 rw [e1, e2, e3]
 omega
/-- A right blob is read from its bytes. -/
theorem Parse_cl {a0 a1 a2 a3 a4 a5 : Int} (h : credenzaref18_RightConfig.f a0 a1 a2 a3 a4 a5 = some true) {l6 : List S115} {a7 a8 : Int} {l9 : List Int} {l10 : List S120} {l11 : List Int} {a12 a13 : Int} {l14 : List Int}
  (hv : RV a0 a3 l6 l10.length (Inf a1 a2 a3 a4 a5 a7 a8 l9 l10 l11 a12 a13 l14) = 0) (hr : ∀ x ∈ numsOf l6 (Inf a1 a2 a3 a4 a5 a7 a8 l9 l10 l11 a12 a13 l14), I32 x) :
  Ev (fun k => blob_Parse.f k (up (cl (LB a0 a1 a2 a3 a4 a5 l6 (Inf a1 a2 a3 a4 a5 a7 a8 l9 l10 l11 a12 a13 l14))))) (a0, a1, a2, a3, a4, a5, l6, a7, a8, l9, l10, l11, a12, a13, l14, 0) := by
 obtain ⟨b0, b1, b2, b3, b4, b5, b6, b7, b8, b9, b10, b11⟩ := cfg_t h
 obtain ⟨⟨m1, m2⟩, ⟨m3, m4⟩, e1, e2⟩ := cfg_w h
 obtain ⟨g1, g2, g3⟩ := RV0 hv
 have ev := cfg_even h
 have hs := nums_small h hv
 have hp := ok_prod h hv
 have hnl := num_len h hv
 have hbl := LB_len a0 a1 a2 a3 a4 a5 l6 (Inf a1 a2 a3 a4 a5 a7 a8 l9 l10 l11 a12 a13 l14)
 have hby := LB_bys h l6 (Inf a1 a2 a3 a4 a5 a7 a8 l9 l10 l11 a12 a13 l14)
 obtain ⟨NL, hNL⟩ : ∃ x_, (numsOf l6 (Inf a1 a2 a3 a4 a5 a7 a8 l9 l10 l11 a12 a13 l14)).length = x_ := ⟨_, rfl⟩
 rw [hNL] at hs hbl hnl
 have hrd : ∀ (j : Nat) (x : Int), (hd7 a0 a1 a2 a3 a4 a5)[j]? = some x.toNat → 0 ≤ x → rd (up (LB a0 a1 a2 a3 a4 a5 l6 (Inf a1 a2 a3 a4 a5 a7 a8 l9 l10 l11 a12 a13 l14))) (j : Int) = x := by
  intro j x hj hx
  rw [rd_up, List.getD_eq_getElem?_getD]
  unfold LB
  rw [List.getElem?_append_left (List.getElem?_eq_some_iff.1 hj).1, hj]
  exact Int.toNat_of_nonneg hx
 have r0 := hrd 0 87 rfl (by decide)
 have r1 := hrd 1 a0 rfl (by omega)
 have r2 := hrd 2 a1 rfl (by omega)
 have r3 := hrd 3 a2 rfl (by omega)
 have r4 := hrd 4 a3 rfl (by omega)
 have r5 := hrd 5 a4 rfl (by omega)
 have r6 := hrd 6 a5 rfl (by omega)
 have hdrop : (up (LB a0 a1 a2 a3 a4 a5 l6 (Inf a1 a2 a3 a4 a5 a7 a8 l9 l10 l11 a12 a13 l14))).drop 7 = up (wds (numsOf l6 (Inf a1 a2 a3 a4 a5 a7 a8 l9 l10 l11 a12 a13 l14))) := by
  rw [up_drop]
  unfold LB
  exact congrArg up (List.drop_left' rfl)
 have hT := rdT_f l6 (wds ((Inf a1 a2 a3 a4 a5 a7 a8 l9 l10 l11 a12 a13 l14).flatMap PI.xs)) (wds_bys _) (fun x hx => hr x (List.mem_append.2 (.inl hx))) (by
  unfold numsOf at hNL
  rw [List.length_append, refT_len] at hNL
  rw [wds_len]
  omega) l6.length (Nat.le_refl _)
 rw [List.take_length, List.drop_length, ← wds_app] at hT
 have hfl : ((Inf a1 a2 a3 a4 a5 a7 a8 l9 l10 l11 a12 a13 l14).map PI.xs).flatten = (Inf a1 a2 a3 a4 a5 a7 a8 l9 l10 l11 a12 a13 l14).flatMap PI.xs := rfl
 have hcnt := cnt_len (allP_rc a5 (wrap64 (a1 * a3)) (wrap64 (a2 * a3)) a4 a7 a8 l9 l10 l11 a12 a13 l14) (fun I hI => (hp I hI).1)
 have hPn : ((Inf a1 a2 a3 a4 a5 a7 a8 l9 l10 l11 a12 a13 l14).map PI.xs).length = 9 * l10.length + 3 := by rw [List.length_map, Inf_len]
 have hP := rdP_f ((Inf a1 a2 a3 a4 a5 a7 a8 l9 l10 l11 a12 a13 l14).map PI.xs) ((allP l10.length a5 (wrap64 (a1 * a3)) (wrap64 (a2 * a3)) a4).map Pt.cnt) hcnt (fun xs hxs x hx => by
  obtain ⟨I, hI, rfl⟩ := List.mem_map.1 hxs
  exact hr x (List.mem_append.2 (.inr (List.mem_flatMap.2 ⟨I, hI, hx⟩)))) (by
  unfold numsOf at hNL
  rw [List.length_append, refT_len] at hNL
  rw [hfl]
  omega) (9 * l10.length + 3) (by rw [hPn]; exact Nat.le_refl _)
 rw [List.take_of_length_le (by rw [hPn]; exact Nat.le_refl _), List.drop_eq_nil_of_le (by rw [hPn]; exact Nat.le_refl _), hfl] at hP
 have x0 := xs_at (infos_0 (v := a5) (w := wrap64 (a1 * a3)) (kv := wrap64 (a2 * a3)) (q := a4) (a7 := a7) (a8 := a8) (l9 := l9) (l10 := l10) (l11 := l11) (a12 := a12) (a13 := a13) (l14 := l14))
 have xL := xs_at (infos_last (v := a5) (w := wrap64 (a1 * a3)) (kv := wrap64 (a2 * a3)) (q := a4) (a7 := a7) (a8 := a8) (l9 := l9) (l10 := l10) (l11 := l11) (a12 := a12) (a13 := a13) (l14 := l14))
 have xO := xs_at (infos_out (v := a5) (w := wrap64 (a1 * a3)) (kv := wrap64 (a2 * a3)) (q := a4) (a7 := a7) (a8 := a8) (l9 := l9) (l10 := l10) (l11 := l11) (a12 := a12) (a13 := a13) (l14 := l14))
 have t0 := ok_tab (g3 _ (List.mem_of_getElem? (infos_0 (v := a5) (w := wrap64 (a1 * a3)) (kv := wrap64 (a2 * a3)) (q := a4) (a7 := a7) (a8 := a8) (l9 := l9) (l10 := l10) (l11 := l11) (a12 := a12) (a13 := a13) (l14 := l14)))) rfl
 have tO := ok_tab (g3 _ (List.mem_of_getElem? (infos_out (v := a5) (w := wrap64 (a1 * a3)) (kv := wrap64 (a2 * a3)) (q := a4) (a7 := a7) (a8 := a8) (l9 := l9) (l10 := l10) (l11 := l11) (a12 := a12) (a13 := a13) (l14 := l14)))) rfl
 have hlay := lays_back g3
 simp only at x0 xL xO t0 tO
 have hR := pRight h l6 a7 a8 l9 l10 l11 a12 a13 l14 (by omega)
 rw [hv] at hR
 have hI : infos a5 (wrap64 (a1 * a3)) (wrap64 (a2 * a3)) a4 a7 a8 l9 l10 l11 a12 a13 l14 = Inf a1 a2 a3 a4 a5 a7 a8 l9 l10 l11 a12 a13 l14 := rfl
 rw [hI] at x0 xL xO hlay
 rw [e1, e2] at hlay hcnt hP
 rw [e1] at t0 tO
 have hn4 : (a3 / 2).toNat = l6.length := by omega
 have hn1 : a0.toNat = l10.length := by omega
 have w1 : wrap64 a0 = a0 := w64 (by omega) (by omega)
 have w2 : wrap64 a1 = a1 := w64 (by omega) (by omega)
 have w3 : wrap64 a2 = a2 := w64 (by omega) (by omega)
 have w4_ : wrap64 a3 = a3 := w64 (by omega) (by omega)
 have w5 : wrap64 a4 = a4 := w64 (by omega) (by omega)
 have w6 : wrap64 a5 = a5 := w64 (by omega) (by omega)
 have hsz : wrap64 (wrap64 (7 + wrap64 (4 * (NL : Int))) + 4) = ((up (cl (LB a0 a1 a2 a3 a4 a5 l6 (Inf a1 a2 a3 a4 a5 a7 a8 l9 l10 l11 a12 a13 l14)))).length : Int) := by
  rw [up_length, cl_length, hbl]
  exact size_eq NL hs
 unfold blob_Parse.f
 refine Ev.bind (Open_cl _ hby (by omega)) ?_
 refine Ev.pos rfl (Ev.neg (by rw [up_length]; omega) ?_)
 simp only
 have q0 : rd (up (LB a0 a1 a2 a3 a4 a5 l6 (Inf a1 a2 a3 a4 a5 a7 a8 l9 l10 l11 a12 a13 l14))) 0 = 87 := r0
 have q1 : rd (up (LB a0 a1 a2 a3 a4 a5 l6 (Inf a1 a2 a3 a4 a5 a7 a8 l9 l10 l11 a12 a13 l14))) 1 = a0 := r1
 have q2 : rd (up (LB a0 a1 a2 a3 a4 a5 l6 (Inf a1 a2 a3 a4 a5 a7 a8 l9 l10 l11 a12 a13 l14))) 2 = a1 := r2
 have q3 : rd (up (LB a0 a1 a2 a3 a4 a5 l6 (Inf a1 a2 a3 a4 a5 a7 a8 l9 l10 l11 a12 a13 l14))) 3 = a2 := r3
 have q4 : rd (up (LB a0 a1 a2 a3 a4 a5 l6 (Inf a1 a2 a3 a4 a5 a7 a8 l9 l10 l11 a12 a13 l14))) 4 = a3 := r4
 have q5 : rd (up (LB a0 a1 a2 a3 a4 a5 l6 (Inf a1 a2 a3 a4 a5 a7 a8 l9 l10 l11 a12 a13 l14))) 5 = a4 := r5
 have q6 : rd (up (LB a0 a1 a2 a3 a4 a5 l6 (Inf a1 a2 a3 a4 a5 a7 a8 l9 l10 l11 a12 a13 l14))) 6 = a5 := r6
 rw [q0, q1, q2, q3, q4, q5, q6, w1, w2, w3, w4_, w5, w6, hnl, cfg_eq, h]
 refine Ev.sb (Ev.pos rfl (Ev.sb (Ev.pos rfl (Ev.neg (by rw [hsz]; omega) (Ev.neg (by rw [hsz]; omega) ?_)))))
 unfold blob_Parse.tail
 rw [hdrop, NewReader_f _ (by rw [wds_len]; omega)]
 refine Ev.sb (Ev.pos ⟨⟨b0, b1⟩, ⟨by omega, b7⟩, ⟨by omega, m2⟩, ⟨by omega, m4⟩, ⟨by omega, b9⟩, ⟨by omega, b11⟩⟩ ?_)
 simp only
 rw [hn4, hn1]
 refine Ev.bind hT (Ev.bind hP ?_)
 simp only
 rw [x0, xL, xO, hlay]
 refine Ev.bind (a := (0 : Int)) ?_ (Ev.pos rfl ?_)
 ·
  rw [t0.1, t0.2, tO.1, tO.2] at hR
  exact hR
 ·
  rw [t0.1, t0.2, tO.1, tO.2]
  exact Ev.now _
theorem Parse_W : Ev (fun k => blob_Parse.f k ([87] : List Int)) (0, 0, 0, 0, 0, 0, [], 0, 0, [], [], [], 0, 0, [], 16) := by
 unfold blob_Parse.f
 exact Ev.bind (Open_short [87] (by decide)) (Ev.neg (by decide) (Ev.now _))
theorem cfg_0 : blob_Config_Right.f 0 0 0 0 0 0 = some false := by decide
theorem cfg_1 : blob_Config_Right.f 1 1 1 2 1 2 = some true := by decide
theorem Right_0 : Ev (fun k => blob_Right.f k 0 0 0 0 0 0 ([] : List S115) 0 0 ([] : List Int) ([] : List S120) ([] : List Int) 0 0 ([] : List Int)) 11 := by
 unfold blob_Right.f
 rw [cfg_0]
 exact Ev.sb (Ev.neg (by decide) (Ev.now _))
theorem Right_1 : Ev (fun k => blob_Right.f k 1 1 1 2 1 2 ([] : List S115) 0 0 ([] : List Int) ([] : List S120) ([] : List Int) 0 0 ([] : List Int)) 25 := by
 unfold blob_Right.f blob_Right.rest
 rw [cfg_1]
 exact Ev.sb (Ev.pos rfl (Ev.pos (by decide) (Ev.pos (by decide) (Ev.now _))))
theorem T0 : Ev (fun k => rope_Turn_76.f k [] []) true := by
 unfold rope_Turn_76.f
 exact Ev.pos rfl (Ev.step (f := fun _ => some true) (fun k => by rw [rope_Turn_76.l0, if_neg (by decide)]) (Ev.now _))
theorem L0 : Ev (fun k => slices_Equal_int32_int32.f k [] []) true := by
 unfold slices_Equal_int32_int32.f
 exact Ev.pos rfl (Ev.step (f := fun _ => some true) (fun k => by rw [slices_Equal_int32_int32.l0, if_neg (by decide)]) (Ev.now _))
theorem M0 : Ev (fun k => mat_Equal.f k 0 0 [] 0 0 []) true := by
 unfold mat_Equal.f
 exact Ev.pos rfl (Ev.pos rfl (Ev.bind L0 (Ev.now _)))
theorem Eq_0 : Ev (fun k => blob_Equal.f k 0 0 0 0 0 0 ([] : List S115) 0 0 ([] : List Int) ([] : List S120) ([] : List Int) 0 0 ([] : List Int) 0 0 0 0 0 0 ([] : List S115) 0 0 ([] : List Int) ([] : List S120) ([] : List Int) 0 0 ([] : List Int)) true := by
 unfold blob_Equal.f peq.f
 refine Ev.pos (by decide) (Ev.bind T0 (Ev.pos rfl (Ev.pos rfl (Ev.pos (by decide) (Ev.pos rfl ?_)))))
 show Ev (fun k => peq.l k [⟨some (0, 0), [], 0, wrap64 (0 * 0)⟩, ⟨none, [], 1, wrap64 (0 * 0)⟩, ⟨some (0, 0), [], 0, wrap64 (0 * 0)⟩] [⟨some (0, 0), [], 0, wrap64 (0 * 0)⟩, ⟨none, [], 1, wrap64 (0 * 0)⟩, ⟨some (0, 0), [], 0, wrap64 (0 * 0)⟩]) true
 simp only [peq.l, psame.f]
 exact Ev.bind M0 (Ev.pos rfl (Ev.bind L0 (Ev.pos rfl (Ev.bind M0 (Ev.pos rfl (Ev.now _))))))
theorem Eq_1 : Ev (fun k => blob_Equal.f k 0 0 0 0 0 0 ([] : List S115) 0 0 ([] : List Int) ([] : List S120) ([] : List Int) 0 0 ([] : List Int) 1 1 1 2 1 2 ([] : List S115) 0 0 ([] : List Int) ([] : List S120) ([] : List Int) 0 0 ([] : List Int)) false := by
 unfold blob_Equal.f
 exact Ev.neg (by decide) (Ev.now _)
theorem bawake : Ev (fun k => credenzalaw18_awake.f k) true := by
 unfold credenzalaw18_awake.f credenzalaw18_least.f
 refine Ev.bind Parse_W (Ev.sb ?_)
 dsimp only
 have h1 : blob_Config_Right.f 1 1 1 2 1 2 = some true := by decide
 have h2 : blob_Config_Right.f 0 0 0 0 0 0 = some false := by decide
 have h3 : blob_Config_Numbers.f 1 1 1 2 1 2 = some 38 := by decide +kernel
 rw [h1, h2, h3]
 refine Ev.sb (Ev.pos rfl ?_)
 unfold blob_Config_Width.f
 refine Ev.sb (Ev.pos (w64 (by decide) (by decide)) (Ev.sb (Ev.pos rfl (Ev.sb (Ev.neg (by decide) ?_)))))
 exact Ev.bind Right_0 (Ev.pos rfl (Ev.bind Right_1 (Ev.pos rfl (Ev.pos rfl (Ev.bind Eq_0 (Ev.pos rfl (Ev.bind Eq_1 (Ev.now _))))))))
/-! ### blob: are both one -/
theorem sEq_l (x y : List Int) (hx : x.length < 4000000000000000000) (hl : x.length = y.length) : ∀ d i, x.length - i = d → i ≤ x.length → Ev (fun k => slices_Equal_int32_int32.l0 k x y (x.length : Int) (i : Int)) (decide (x.drop i = y.drop i)) := by
 intro d
 induction d with
 | zero =>
  intro i h1 h2
  rw [List.drop_eq_nil_of_le (by omega), List.drop_eq_nil_of_le (by omega)]
  exact Ev.step (f := fun _ => some (decide (([] : List Int) = []))) (fun k => by rw [slices_Equal_int32_int32.l0, if_neg (by omega)]; rfl) (Ev.now _)
 | succ d ih =>
  intro i h1 h2
  have hi : i < x.length := by omega
  have hj : i < y.length := by omega
  have r1 : rd x (i : Int) = x[i] := by unfold rd; rw [Int.toNat_natCast, List.getD_eq_getElem?_getD, List.getElem?_eq_getElem hi]; rfl
  have r2 : rd y (i : Int) = y[i] := by unfold rd; rw [Int.toNat_natCast, List.getD_eq_getElem?_getD, List.getElem?_eq_getElem hj]; rfl
  refine Ev.step (fun k => by rw [slices_Equal_int32_int32.l0, if_pos (by omega), if_pos (by omega), if_pos (by omega), if_pos (by omega), r1, r2, wsucc _ (by omega)]) ?_
  rw [List.drop_eq_getElem_cons hi, List.drop_eq_getElem_cons hj]
  by_cases c : x[i] = y[i]
  ·
   exact Ev.pos c (Ev.eq (ih (i + 1) (by omega) (by omega)) (decide_eq_decide.mpr ⟨fun e => by rw [c, e], fun e => (List.cons.inj e).2⟩))
  ·
   exact Ev.neg c (Ev.eq (Ev.now _) (decide_eq_false (fun e => c (List.cons.inj e).1)).symm)
theorem sEq_f (x y : List Int) (hx : x.length < 4000000000000000000) : Ev (fun k => slices_Equal_int32_int32.f k x y) (decide (x = y)) := by
 unfold slices_Equal_int32_int32.f
 by_cases hl : x.length = y.length
 ·
  refine Ev.pos (by omega) (Ev.eq (sEq_l x y hx hl _ 0 rfl (Nat.zero_le _)) ?_)
  rw [List.drop_zero, List.drop_zero]
 ·
  refine Ev.neg (by omega) (Ev.eq (Ev.now _) ?_)
  exact (decide_eq_false (fun e => hl (by rw [e]))).symm
theorem tEq_l (x y : List S115) (hx : x.length < 4000000000000000000) (hl : x.length = y.length) : ∀ d i, x.length - i = d → i ≤ x.length → Ev (fun k => rope_Turn_76.l0 k x y (x.length : Int) (i : Int)) (decide (refT (x.drop i) = refT (y.drop i))) := by
 intro d
 induction d with
 | zero =>
  intro i h1 h2
  rw [List.drop_eq_nil_of_le (by omega), List.drop_eq_nil_of_le (by omega)]
  exact Ev.step (f := fun _ => some (decide (refT [] = refT []))) (fun k => by rw [rope_Turn_76.l0, if_neg (by omega)]; rfl) (Ev.now _)
 | succ d ih =>
  intro i h1 h2
  have hi : i < x.length := by omega
  have hj : i < y.length := by omega
  have r1 : rd_T115 x (i : Int) = x[i] := by unfold rd_T115; rw [Int.toNat_natCast, List.getD_eq_getElem?_getD, List.getElem?_eq_getElem hi]; rfl
  have r2 : rd_T115 y (i : Int) = y[i] := by unfold rd_T115; rw [Int.toNat_natCast, List.getD_eq_getElem?_getD, List.getElem?_eq_getElem hj]; rfl
  refine Ev.step (fun k => by rw [rope_Turn_76.l0, if_pos (by omega), if_pos (by omega), if_pos (by omega), if_pos (by omega), r1, r2, wsucc _ (by omega)]) ?_
  rw [List.drop_eq_getElem_cons hi, List.drop_eq_getElem_cons hj]
  have e : ∀ (a : S115) (l : List S115), refT (a :: l) = a.f0 :: a.f1 :: refT l := fun a l => rfl
  rw [e, e]
  by_cases c1 : x[i].f0 = y[i].f0
  ·
   by_cases c2 : x[i].f1 = y[i].f1
   ·
    exact Ev.neg (by simp [c1, c2]) (Ev.eq (ih (i + 1) (by omega) (by omega)) (decide_eq_decide.mpr ⟨fun e => by rw [c1, c2, e], fun e => (List.cons.inj (List.cons.inj e).2).2⟩))
   ·
    exact Ev.pos (by simp [c2]) (Ev.eq (Ev.now _) (decide_eq_false (fun e => c2 (List.cons.inj (List.cons.inj e).2).1)).symm)
  ·
   exact Ev.pos (by simp [c1]) (Ev.eq (Ev.now _) (decide_eq_false (fun e => c1 (List.cons.inj e).1)).symm)
theorem tEq_f (x y : List S115) (hx : x.length < 4000000000000000000) : Ev (fun k => rope_Turn_76.f k x y) (decide (refT x = refT y)) := by
 unfold rope_Turn_76.f
 by_cases hl : x.length = y.length
 ·
  refine Ev.pos (by omega) (Ev.eq (tEq_l x y hx hl _ 0 rfl (Nat.zero_le _)) ?_)
  rw [List.drop_zero, List.drop_zero]
 ·
  refine Ev.neg (by omega) (Ev.eq (Ev.now _) ?_)
  refine (decide_eq_false (fun e => hl ?_)).symm
  have := congrArg List.length e
  rw [refT_len, refT_len] at this
  omega
theorem S111_eq {a b c d : Int} {x y : List Int} : ((⟨a, b, x⟩ : S111) = ⟨c, d, y⟩) ↔ (a = c ∧ b = d ∧ x = y) := by simp
instance : DecidableEq S111 := fun ⟨a, b, x⟩ ⟨c, d, y⟩ => if h : a = c ∧ b = d ∧ x = y then isTrue (S111_eq.mpr h) else isFalse (fun e => h (S111_eq.mp e))
theorem pS_f (P Q : PI) (hp : P.tab.isSome = Q.tab.isSome) (hx : P.xs.length < 4000000000000000000) : Ev (fun k => psame.f k P Q) (decide (toR P = toR Q)) := by
 obtain ⟨tp, xp, rp, cp⟩ := P
 obtain ⟨tq, xq, rq, cq⟩ := Q
 have hs := sEq_f xp xq hx
 cases tp with
 | none =>
  cases tq with
  | none => exact Ev.eq hs (decide_eq_decide.mpr (by simp [toR]))
  | some u => cases hp
 | some t =>
  cases tq with
  | none => cases hp
  | some u =>
   obtain ⟨R, C⟩ := t
   obtain ⟨R', C'⟩ := u
   show Ev (fun k => mat_Equal.f k R C xp R' C' xq) _
   unfold mat_Equal.f
   by_cases c1 : R = R'
   ·
    refine Ev.pos c1 ?_
    by_cases c2 : C = C'
    ·
     refine Ev.pos c2 (Ev.bind hs (Ev.eq (Ev.now _) (decide_eq_decide.mpr (by simp [toR, c1, c2]))))
    ·
     exact Ev.neg c2 (Ev.eq (Ev.now _) (decide_eq_false (by simp [toR, c2])).symm)
   ·
    exact Ev.neg c1 (Ev.eq (Ev.now _) (decide_eq_false (by simp [toR, c1])).symm)
theorem pEq_l : ∀ (Ps Qs : List PI), Ps.map (fun P => P.tab.isSome) = Qs.map (fun P => P.tab.isSome) → (∀ P ∈ Ps, P.xs.length < 4000000000000000000) → Ev (fun k => peq.l k Ps Qs) (decide (Ps.map toR = Qs.map toR))
 | [], [], _, _ => Ev.now _
 | [], Q :: Qs, h, _ => by cases h
 | P :: Ps, [], h, _ => by cases h
 | P :: Ps, Q :: Qs, h, hx => by
  rw [List.map_cons, List.map_cons] at h
  injection h with h1 h2
  show Ev (fun k => (psame.f k P Q).bind fun b => if b = true then peq.l k Ps Qs else some false) _
  refine Ev.bind (pS_f P Q h1 (hx _ (List.mem_cons_self ..))) ?_
  rw [List.map_cons, List.map_cons]
  by_cases c : toR P = toR Q
  ·
   refine Ev.pos (decide_eq_true c) (Ev.eq (pEq_l Ps Qs h2 (fun R hR => hx R (List.mem_cons_of_mem _ hR))) (decide_eq_decide.mpr (by simp [c])))
  ·
   exact Ev.neg (by simp [c]) (Ev.eq (Ev.now _) (decide_eq_false (by simp [c])).symm)
theorem layI_pat (w kv q w' kv' q' : Int) : ∀ l l' : List S120, l.length = l'.length → (layI w kv q l).map (fun P => P.tab.isSome) = (layI w' kv' q' l').map (fun P => P.tab.isSome)
 | [], [], _ => rfl
 | [], _ :: _, h => by simp at h
 | _ :: _, [], h => by simp at h
 | x :: l, y :: l', h => by
  have h1 := layI_pat w kv q w' kv' q' l l' (by simpa using h)
  unfold layI at h1 ⊢
  rw [List.flatMap_cons, List.flatMap_cons, List.map_append, List.map_append, h1]
  rfl
theorem Inf_pat (a1 a2 a3 a4 a5 a7 a8 : Int) (l9 : List Int) (l10 : List S120) (l11 : List Int) (a12 a13 : Int) (l14 : List Int) (b1 b2 b3 b4 b5 b7 b8 : Int) (m9 : List Int) (m10 : List S120) (m11 : List Int) (b12 b13 : Int) (m14 : List Int) (h : l10.length = m10.length) :
  (Inf a1 a2 a3 a4 a5 a7 a8 l9 l10 l11 a12 a13 l14).map (fun P => P.tab.isSome) = (Inf b1 b2 b3 b4 b5 b7 b8 m9 m10 m11 b12 b13 m14).map (fun P => P.tab.isSome) := by
 unfold Inf infos
 rw [List.map_append, List.map_cons, List.map_append, List.map_cons, layI_pat _ _ _ _ _ _ _ _ h]
 rfl
theorem pEqual (a0 a1 a2 a3 a4 a5 : Int) (l6 : List S115) (a7 a8 : Int) (l9 : List Int) (l10 : List S120) (l11 : List Int) (a12 a13 : Int) (l14 : List Int) (b0 b1 b2 b3 b4 b5 : Int) (m6 : List S115) (b7 b8 : Int) (m9 : List Int) (m10 : List S120) (m11 : List Int) (b12 b13 : Int) (m14 : List Int)
  (hn : l10.length ≤ 100000) (h6 : l6.length < 4000000000000000000) (hx : ∀ I ∈ Inf a1 a2 a3 a4 a5 a7 a8 l9 l10 l11 a12 a13 l14, I.xs.length < 1000000000000000000) :
  Ev (fun k => blob_Equal.f k a0 a1 a2 a3 a4 a5 l6 a7 a8 l9 l10 l11 a12 a13 l14 b0 b1 b2 b3 b4 b5 m6 b7 b8 m9 m10 m11 b12 b13 m14) (decide ((a0 = b0 ∧ a1 = b1 ∧ a2 = b2 ∧ a3 = b3 ∧ a4 = b4 ∧ a5 = b5) ∧ l10.length = m10.length ∧ refT l6 = refT m6 ∧ refP a7 a8 l9 l10 l11 a12 a13 l14 = refP b7 b8 m9 m10 m11 b12 b13 m14)) := by
 unfold blob_Equal.f
 by_cases c0 : a0 = b0 ∧ a1 = b1 ∧ a2 = b2 ∧ a3 = b3 ∧ a4 = b4 ∧ a5 = b5
 ·
  refine Ev.pos c0 (Ev.bind (tEq_f l6 m6 h6) ?_)
  by_cases c1 : refT l6 = refT m6
  ·
   refine Ev.pos (decide_eq_true c1) ?_
   by_cases c2 : l10.length = m10.length
   ·
    refine Ev.pos c2 (Ev.pos hn ?_)
    unfold peq.f
    have hl : (infos a5 (wrap64 (a1 * a3)) (wrap64 (a2 * a3)) a4 a7 a8 l9 l10 l11 a12 a13 l14).length = (infos b5 (wrap64 (b1 * b3)) (wrap64 (b2 * b3)) b4 b7 b8 m9 m10 m11 b12 b13 m14).length := by
     have h1 := Inf_len a1 a2 a3 a4 a5 a7 a8 l9 l10 l11 a12 a13 l14
     have h2 := Inf_len b1 b2 b3 b4 b5 b7 b8 m9 m10 m11 b12 b13 m14
     unfold Inf at h1 h2
     rw [h1, h2, c2]
    refine Ev.pos hl (Ev.eq (pEq_l _ _ (Inf_pat a1 a2 a3 a4 a5 a7 a8 l9 l10 l11 a12 a13 l14 b1 b2 b3 b4 b5 b7 b8 m9 m10 m11 b12 b13 m14 c2) (fun P hP => Nat.lt_of_lt_of_le (hx P hP) (by decide))) ?_)
    rw [refP_infos, refP_infos]
    exact decide_eq_decide.mpr ⟨fun e => ⟨c0, c2, c1, e⟩, fun e => e.2.2.2⟩
   ·
    exact Ev.neg c2 (Ev.eq (Ev.now _) (decide_eq_false (fun e => c2 e.2.1)).symm)
  ·
   refine Ev.neg (by simp [c1]) (Ev.eq (Ev.now _) (decide_eq_false (fun e => c1 e.2.2.1)).symm)
 ·
  exact Ev.neg c0 (Ev.eq (Ev.now _) (decide_eq_false (fun e => c0 e.1)).symm)
/-! ### blob: what came in -/
theorem Inf_all {p : List Int → Prop} {a1 a2 a3 a4 a5 a7 a8 : Int} {l9 : List Int} {l10 : List S120} {l11 : List Int} {a12 a13 : Int} {l14 : List Int} (h9 : p l9) (h11 : p l11) (h14 : p l14)
  (h10 : ∀ z ∈ l10, p z.f0 ∧ p z.f1.f2 ∧ p z.f2.f2 ∧ p z.f3.f2 ∧ p z.f4.f2 ∧ p z.f5 ∧ p z.f6.f2 ∧ p z.f7.f2 ∧ p z.f8.f2) : ∀ I ∈ Inf a1 a2 a3 a4 a5 a7 a8 l9 l10 l11 a12 a13 l14, p I.xs := by
 intro I hI
 unfold Inf infos layI lay1 lay2 at hI
 simp only [List.mem_append, List.mem_cons, List.mem_flatMap, List.not_mem_nil, or_false] at hI
 rcases hI with (rfl | ⟨x, hx, (rfl | rfl | rfl | rfl | rfl) | rfl | rfl | rfl | rfl⟩) | rfl | rfl
 ·
  exact h9
 ·
  exact (h10 x hx).1
 ·
  exact (h10 x hx).2.1
 ·
  exact (h10 x hx).2.2.1
 ·
  exact (h10 x hx).2.2.2.1
 ·
  exact (h10 x hx).2.2.2.2.1
 ·
  exact (h10 x hx).2.2.2.2.2.1
 ·
  exact (h10 x hx).2.2.2.2.2.2.1
 ·
  exact (h10 x hx).2.2.2.2.2.2.2.1
 ·
  exact (h10 x hx).2.2.2.2.2.2.2.2
 ·
  exact h11
 ·
  exact h14
/-- What is known of a list of weights. -/
def Wl (l : List Int) : Prop := l.length < 1000000000000000000 ∧ ∀ x ∈ l, I32 x
theorem Wl.of {l : List Int} (h1 : l.length * 4 ≤ 140737488351232) (h2 : ∀ x ∈ l, (Lit.int .i32 x).wf = true) : Wl l := ⟨by omega, fun x hx => wf_i32 (h2 x hx)⟩
theorem nums_I32 {l6 : List S115} {Is : List PI} (h6 : ∀ z ∈ l6, (Lit.int .i32 z.f0).wf = true ∧ (Lit.int .i32 z.f1).wf = true) (hI : ∀ I ∈ Is, Wl I.xs) : ∀ x ∈ numsOf l6 Is, I32 x := by
 intro x hx
 rcases List.mem_append.1 hx with hx | hx
 ·
  obtain ⟨t, ht, hx⟩ := List.mem_flatMap.1 hx
  simp only [List.mem_cons, List.not_mem_nil, or_false] at hx
  rcases hx with rfl | rfl
  ·
   exact wf_i32 (h6 t ht).1
  ·
   exact wf_i32 (h6 t ht).2
 ·
  obtain ⟨I, hI', hx⟩ := List.mem_flatMap.1 hx
  exact (hI I hI').2 x hx
theorem small_n {n6 n10 : Nat} {P : List S111} (h : smallB n6 n10 P = true) : n10 ≤ 5 ∧ n6 ≤ 20 := by
 unfold smallB at h
 simp only [Bool.and_eq_true, decide_eq_true_eq] at h
 exact ⟨h.1.1, h.1.2⟩
theorem cfg_no {k : Nat} {a0 a1 a2 a3 a4 a5 : Int} (h : credenzaref18_RightConfig.f a0 a1 a2 a3 a4 a5 = some false) (l6 : List S115) (a7 a8 : Int) (l9 : List Int) (l10 : List S120) (l11 : List Int) (a12 a13 : Int) (l14 : List Int) : blob_Right.f k a0 a1 a2 a3 a4 a5 l6 a7 a8 l9 l10 l11 a12 a13 l14 = some 11 := by
 unfold blob_Right.f
 rw [cfg_eq, h]
 rfl
/-! ### the reference's Same, of any two -/
theorem rS_2 (a0 a1 a2 a3 a4 a5 a6 : Int) (T : List Int) (P : List S111) (b0 b1 b2 b3 b4 b5 b6 : Int) (U : List Int) (Q : List S111) (i : Nat) (p q : S111) (r : Bool) (hi : i < 1000000000000000000) (hx : p.f2.length < 1000000000000000000) (hl : p.f2.length = q.f2.length) (hr : Ev (fun k => credenzaref18_Same.l1 k ((i + 1 : Nat) : Int) a0 a1 a2 a3 a4 a5 a6 T P b0 b1 b2 b3 b4 b5 b6 U Q) r) :
  ∀ d j, p.f2.length - j = d → j ≤ p.f2.length → Ev (fun k => credenzaref18_Same.l2 k (i : Int) (j : Int) a0 a1 a2 a3 a4 a5 a6 T P b0 b1 b2 b3 b4 b5 b6 U Q p.f0 p.f1 p.f2 q.f0 q.f1 q.f2) (if p.f2.drop j = q.f2.drop j then r else false) := by
 intro d
 induction d with
 | zero =>
  intro j h1 h2
  rw [List.drop_eq_nil_of_le (by omega), List.drop_eq_nil_of_le (by omega), if_pos rfl]
  exact Ev.step (fun k => by rw [credenzaref18_Same.l2, if_neg (by omega), wsucc _ (by omega)]) hr
 | succ d ih =>
  intro j h1 h2
  have hi : j < p.f2.length := by omega
  have hj : j < q.f2.length := by omega
  have r1 : rd p.f2 (j : Int) = p.f2[j] := by unfold rd; rw [Int.toNat_natCast, List.getD_eq_getElem?_getD, List.getElem?_eq_getElem hi]; rfl
  have r2 : rd q.f2 (j : Int) = q.f2[j] := by unfold rd; rw [Int.toNat_natCast, List.getD_eq_getElem?_getD, List.getElem?_eq_getElem hj]; rfl
  refine Ev.step (fun k => by rw [credenzaref18_Same.l2, if_pos (by omega), if_pos (by omega), if_pos (by omega), r1, r2, wsucc _ (by omega)]) ?_
  rw [List.drop_eq_getElem_cons hi, List.drop_eq_getElem_cons hj]
  by_cases c : p.f2[j] = q.f2[j]
  ·
   refine Ev.pos c (Ev.eq (ih (j + 1) (by omega) (by omega)) ?_)
   by_cases e : p.f2.drop (j + 1) = q.f2.drop (j + 1)
   ·
    rw [if_pos e, if_pos (by rw [c, e])]
   ·
    rw [if_neg e, if_neg (fun g => e (List.cons.inj g).2)]
  ·
   exact Ev.neg c (Ev.eq (Ev.now _) (if_neg (fun e => c (List.cons.inj e).1)).symm)
theorem rS_1 (a0 a1 a2 a3 a4 a5 a6 : Int) (T : List Int) (P : List S111) (b0 b1 b2 b3 b4 b5 b6 : Int) (U : List Int) (Q : List S111) (hn : P.length < 1000000000000000000) (hl : P.length = Q.length) (hx : ∀ p ∈ P, p.f2.length < 1000000000000000000) :
  ∀ d i, P.length - i = d → i ≤ P.length → Ev (fun k => credenzaref18_Same.l1 k (i : Int) a0 a1 a2 a3 a4 a5 a6 T P b0 b1 b2 b3 b4 b5 b6 U Q) (decide (P.drop i = Q.drop i)) := by
 intro d
 induction d with
 | zero =>
  intro i h1 h2
  rw [List.drop_eq_nil_of_le (by omega), List.drop_eq_nil_of_le (by omega)]
  exact Ev.step (f := fun _ => some (decide (([] : List S111) = []))) (fun k => by rw [credenzaref18_Same.l1, if_neg (by omega)]; rfl) (Ev.now _)
 | succ d ih =>
  intro i h1 h2
  have hi : i < P.length := by omega
  have hj : i < Q.length := by omega
  have r1 : rd_T111 P (i : Int) = P[i] := by unfold rd_T111; rw [Int.toNat_natCast, List.getD_eq_getElem?_getD, List.getElem?_eq_getElem hi]; rfl
  have r2 : rd_T111 Q (i : Int) = Q[i] := by unfold rd_T111; rw [Int.toNat_natCast, List.getD_eq_getElem?_getD, List.getElem?_eq_getElem hj]; rfl
  have hxi := hx _ (List.getElem_mem hi)
  refine Ev.step (fun k => by rw [credenzaref18_Same.l1, if_pos (by omega), if_pos (by omega), if_pos (by omega), r1, r2]) ?_
  rw [List.drop_eq_getElem_cons hi, List.drop_eq_getElem_cons hj]
  have nx := ih (i + 1) (by omega) (by omega)
  generalize P[i] = p at hxi ⊢
  generalize Q[i] = q
  have no : ∀ x y : S111, p ≠ q → Ev (fun k => credenzaref18_Same.j3 k (i : Int) true a0 a1 a2 a3 a4 a5 a6 T P b0 b1 b2 b3 b4 b5 b6 U Q p.f0 p.f1 p.f2 q.f0 q.f1 q.f2) (decide (p :: P.drop (i + 1) = q :: Q.drop (i + 1))) := fun _ _ hne =>
   Ev.step (f := fun _ => some (decide (p :: P.drop (i + 1) = q :: Q.drop (i + 1)))) (fun k => by rw [credenzaref18_Same.j3, if_pos rfl, decide_eq_false (fun e => hne (List.cons.inj e).1)]) (Ev.now _)
  refine Ev.ite (fun c1 => Ev.ite (fun c2 => ?_) (fun c2 => no p q (fun e => c2 (by rw [e])))) (fun c1 => no p q (fun e => c1 (by rw [e])))
  by_cases c3 : p.f2.length = q.f2.length
  ·
   have e3 : ((p.f2.length : Int) != (q.f2.length : Int)) = false := by simp [c3]
   rw [e3]
   refine Ev.step (fun k => by rw [credenzaref18_Same.j3, if_neg (by decide)]; rfl) (Ev.eq (rS_2 a0 a1 a2 a3 a4 a5 a6 T P b0 b1 b2 b3 b4 b5 b6 U Q i p q _ (by omega) hxi c3 nx _ 0 rfl (Nat.zero_le _)) ?_)
   rw [List.drop_zero, List.drop_zero]
   have hpq : p = q ↔ p.f2 = q.f2 := by
    obtain ⟨u0, u1, u2⟩ := p
    obtain ⟨v0, v1, v2⟩ := q
    exact ⟨fun e => by rw [e], fun e => by simp only at c1 c2 e; rw [c1, c2, e]⟩
   by_cases e : p.f2 = q.f2
   ·
    rw [if_pos e]
    exact decide_eq_decide.mpr ⟨fun g => by rw [hpq.mpr e, g], fun g => (List.cons.inj g).2⟩
   ·
    rw [if_neg e]
    exact (decide_eq_false (fun g => e (hpq.mp (List.cons.inj g).1))).symm
  ·
   have e3 : ((p.f2.length : Int) != (q.f2.length : Int)) = true := bne_iff_ne.mpr (fun e => c3 (Int.ofNat.inj e))
   rw [e3]
   exact no p q (fun e => c3 (by rw [e]))
theorem rS_0 (a0 a1 a2 a3 a4 a5 a6 : Int) (T : List Int) (P : List S111) (b0 b1 b2 b3 b4 b5 b6 : Int) (U : List Int) (Q : List S111) (ht : T.length < 1000000000000000000) (hlt : T.length = U.length) (hn : P.length < 1000000000000000000) (hl : P.length = Q.length) (hx : ∀ p ∈ P, p.f2.length < 1000000000000000000) :
  ∀ d i, T.length - i = d → i ≤ T.length → Ev (fun k => credenzaref18_Same.l0 k (i : Int) a0 a1 a2 a3 a4 a5 a6 T P b0 b1 b2 b3 b4 b5 b6 U Q) (decide (T.drop i = U.drop i ∧ P = Q)) := by
 intro d
 induction d with
 | zero =>
  intro i h1 h2
  rw [List.drop_eq_nil_of_le (by omega), List.drop_eq_nil_of_le (by omega)]
  refine Ev.step (fun k => by rw [credenzaref18_Same.l0, if_neg (by omega)]; rfl) (Ev.eq (rS_1 a0 a1 a2 a3 a4 a5 a6 T P b0 b1 b2 b3 b4 b5 b6 U Q hn hl hx _ 0 rfl (Nat.zero_le _)) ?_)
  rw [List.drop_zero, List.drop_zero]
  exact decide_eq_decide.mpr ⟨fun e => ⟨rfl, e⟩, fun e => e.2⟩
 | succ d ih =>
  intro i h1 h2
  have hi : i < T.length := by omega
  have hj : i < U.length := by omega
  have r1 : rd T (i : Int) = T[i] := by unfold rd; rw [Int.toNat_natCast, List.getD_eq_getElem?_getD, List.getElem?_eq_getElem hi]; rfl
  have r2 : rd U (i : Int) = U[i] := by unfold rd; rw [Int.toNat_natCast, List.getD_eq_getElem?_getD, List.getElem?_eq_getElem hj]; rfl
  refine Ev.step (fun k => by rw [credenzaref18_Same.l0, if_pos (by omega), if_pos (by omega), if_pos (by omega), r1, r2, wsucc _ (by omega)]) ?_
  rw [List.drop_eq_getElem_cons hi, List.drop_eq_getElem_cons hj]
  by_cases c : T[i] = U[i]
  ·
   exact Ev.pos c (Ev.eq (ih (i + 1) (by omega) (by omega)) (decide_eq_decide.mpr ⟨fun e => ⟨by rw [c, e.1], e.2⟩, fun e => ⟨(List.cons.inj e.1).2, e.2⟩⟩))
  ·
   exact Ev.neg c (Ev.eq (Ev.now _) (decide_eq_false (fun e => c (List.cons.inj e.1).1)).symm)
theorem rSame_f (a0 a1 a2 a3 a4 a5 a6 : Int) (T : List Int) (P : List S111) (b0 b1 b2 b3 b4 b5 b6 : Int) (U : List Int) (Q : List S111) (ht : T.length < 1000000000000000000) (hn : P.length < 1000000000000000000) (hx : ∀ p ∈ P, p.f2.length < 1000000000000000000) :
  Ev (fun k => credenzaref18_Same.f k a0 a1 a2 a3 a4 a5 a6 T P b0 b1 b2 b3 b4 b5 b6 U Q) (decide ((a0 = b0 ∧ a1 = b1 ∧ a2 = b2 ∧ a3 = b3 ∧ a4 = b4 ∧ a5 = b5) ∧ a6 = b6 ∧ T = U ∧ P = Q)) := by
 have no : ¬ ((a0 = b0 ∧ a1 = b1 ∧ a2 = b2 ∧ a3 = b3 ∧ a4 = b4 ∧ a5 = b5) ∧ a6 = b6 ∧ T = U ∧ P = Q) → Ev (fun k => credenzaref18_Same.j0 k true a0 a1 a2 a3 a4 a5 a6 T P b0 b1 b2 b3 b4 b5 b6 U Q) (decide ((a0 = b0 ∧ a1 = b1 ∧ a2 = b2 ∧ a3 = b3 ∧ a4 = b4 ∧ a5 = b5) ∧ a6 = b6 ∧ T = U ∧ P = Q)) := fun h =>
  Ev.step (f := fun _ => some false) (fun k => by rw [credenzaref18_Same.j0, if_pos rfl]) (Ev.eq (Ev.now _) (decide_eq_false h).symm)
 unfold credenzaref18_Same.f
 refine Ev.ite (fun c => no (fun e => ?_)) (fun c => ?_)
 ·
  obtain ⟨⟨rfl, rfl, rfl, rfl, rfl, rfl⟩, _⟩ := e
  simp at c
 ·
  have e6 : a0 = b0 ∧ a1 = b1 ∧ a2 = b2 ∧ a3 = b3 ∧ a4 = b4 ∧ a5 = b5 := by simpa using c
  refine Ev.ite (fun c6 => Ev.ite (fun ct => ?_) (fun ct => no (fun e => ct (by rw [e.2.2.1])))) (fun c6 => no (fun e => c6 e.2.1))
  by_cases cp : P.length = Q.length
  ·
   have e3 : ((P.length : Int) != (Q.length : Int)) = false := by simp [cp]
   rw [e3]
   refine Ev.step (fun k => by rw [credenzaref18_Same.j0, if_neg (by decide)]; rfl) (Ev.eq (rS_0 a0 a1 a2 a3 a4 a5 a6 T P b0 b1 b2 b3 b4 b5 b6 U Q ht (by omega) hn cp hx _ 0 rfl (Nat.zero_le _)) ?_)
   rw [List.drop_zero, List.drop_zero]
   exact decide_eq_decide.mpr ⟨fun e => ⟨e6, c6, e⟩, fun e => e.2.2⟩
  ·
   have e3 : ((P.length : Int) != (Q.length : Int)) = true := bne_iff_ne.mpr (fun e => cp (Int.ofNat.inj e))
   rw [e3]
   exact no (fun e => cp (by rw [e.2.2.2]))
theorem refP_x {a1 a2 a3 a4 a5 a7 a8 : Int} {l9 : List Int} {l10 : List S120} {l11 : List Int} {a12 a13 : Int} {l14 : List Int} (hn : l10.length ≤ 100) (hx : ∀ I ∈ Inf a1 a2 a3 a4 a5 a7 a8 l9 l10 l11 a12 a13 l14, I.xs.length < 1000000000000000000) :
  (refP a7 a8 l9 l10 l11 a12 a13 l14).length < 1000000000000000000 ∧ ∀ p ∈ refP a7 a8 l9 l10 l11 a12 a13 l14, p.f2.length < 1000000000000000000 := by
 have e : refP a7 a8 l9 l10 l11 a12 a13 l14 = (Inf a1 a2 a3 a4 a5 a7 a8 l9 l10 l11 a12 a13 l14).map toR := (refP_infos ..).symm
 rw [e]
 refine ⟨by rw [List.length_map, Inf_len]; omega, fun p hp => ?_⟩
 obtain ⟨I, hI, rfl⟩ := List.mem_map.1 hp
 rw [toR_f2]
 exact hx I hI
theorem BlobEquals : credenzalaw18_BlobEquals.Pure := by
 intro a0 a1 a2 a3 a4 a5 l6 a7 a8 l9 l10 l11 a12 a13 l14 b0 b1 b2 b3 b4 b5 m6 b7 b8 m9 m10 m11 b12 b13 m14 _ _ _ _ _ _ hm6 hq6 _ _ hm9 hq9 hm10 hq10 hm11 hq11 _ _ hm14 hq14 _ _ _ _ _ _ gm6 gq6 _ _ gm9 gq9 gm10 gq10 gm11 gq11 _ _ gm14 gq14
 have hbd : l6.length ≤ 17592186043904 ∧ l10.length ≤ 430000000000 := by omega
 have gbd : m6.length ≤ 17592186043904 ∧ m10.length ≤ 430000000000 := by omega
 have hW : ∀ I ∈ Inf a1 a2 a3 a4 a5 a7 a8 l9 l10 l11 a12 a13 l14, Wl I.xs := Inf_all (.of hm9 hq9) (.of hm11 hq11) (.of hm14 hq14) (fun z hz => by
  obtain ⟨g0, g1, g2, g3, g4, g5, g6, g7, g8⟩ := hq10 z hz
  exact ⟨.of g0.1 g0.2, .of g1.2.2.1 g1.2.2.2, .of g2.2.2.1 g2.2.2.2, .of g3.2.2.1 g3.2.2.2, .of g4.2.2.1 g4.2.2.2, .of g5.1 g5.2, .of g6.2.2.1 g6.2.2.2, .of g7.2.2.1 g7.2.2.2, .of g8.2.2.1 g8.2.2.2⟩)
 have gW : ∀ I ∈ Inf b1 b2 b3 b4 b5 b7 b8 m9 m10 m11 b12 b13 m14, Wl I.xs := Inf_all (.of gm9 gq9) (.of gm11 gq11) (.of gm14 gq14) (fun z hz => by
  obtain ⟨g0, g1, g2, g3, g4, g5, g6, g7, g8⟩ := gq10 z hz
  exact ⟨.of g0.1 g0.2, .of g1.2.2.1 g1.2.2.2, .of g2.2.2.1 g2.2.2.2, .of g3.2.2.1 g3.2.2.2, .of g4.2.2.1 g4.2.2.2, .of g5.1 g5.2, .of g6.2.2.1 g6.2.2.2, .of g7.2.2.1 g7.2.2.2, .of g8.2.2.1 g8.2.2.2⟩)
 have hr := nums_I32 hq6 hW
 have hx : ∀ I ∈ Inf a1 a2 a3 a4 a5 a7 a8 l9 l10 l11 a12 a13 l14, I.xs.length < 1000000000000000000 := fun I hI => (hW I hI).1
 have gx : ∀ I ∈ Inf b1 b2 b3 b4 b5 b7 b8 m9 m10 m11 b12 b13 m14, I.xs.length < 1000000000000000000 := fun I hI => (gW I hI).1
 clear hm6 hq6 hm9 hq9 hm10 hq10 hm11 hq11 hm14 hq14 hW gm6 gq6 gm9 gq9 gm10 gq10 gm11 gq11 gm14 gq14 gW
 obtain ⟨Ka, ha⟩ := bawake
 have fin : ∀ k, BlobEquals_ok k a0 a1 a2 a3 a4 a5 l6 a7 a8 l9 l10 l11 a12 a13 l14 b0 b1 b2 b3 b4 b5 m6 b7 b8 m9 m10 m11 b12 b13 m14 → ∃ k, credenzalaw18_BlobEquals.f k a0 a1 a2 a3 a4 a5 l6 a7 a8 l9 l10 l11 a12 a13 l14 b0 b1 b2 b3 b4 b5 m6 b7 b8 m9 m10 m11 b12 b13 m14 = some true := fun k h => ⟨k, by unfold credenzalaw18_BlobEquals.f; exact if_pos h⟩
 cases hs : smallB l6.length l10.length (refP a7 a8 l9 l10 l11 a12 a13 l14) with
 | false => exact fin Ka ⟨hbd, gbd, ha Ka (Nat.le_refl _), fun h => absurd h (by rw [hs]; decide)⟩
 | true =>
 cases gs : smallB m6.length m10.length (refP b7 b8 m9 m10 m11 b12 b13 m14) with
 | false => exact fin Ka ⟨hbd, gbd, ha Ka (Nat.le_refl _), fun _ h => absurd h (by rw [gs]; decide)⟩
 | true =>
  obtain ⟨hn10, hn6⟩ := small_n hs
  obtain ⟨gn10, gn6⟩ := small_n gs
  obtain ⟨hp, hpx⟩ := refP_x (by omega) hx
  obtain ⟨K1, h1⟩ := pEqual a0 a1 a2 a3 a4 a5 l6 a7 a8 l9 l10 l11 a12 a13 l14 b0 b1 b2 b3 b4 b5 m6 b7 b8 m9 m10 m11 b12 b13 m14 (by omega) (by omega) hx
  obtain ⟨K2, h2⟩ := rSame_f a0 a1 a2 a3 a4 a5 (l10.length : Int) (refT l6) (refP a7 a8 l9 l10 l11 a12 a13 l14) b0 b1 b2 b3 b4 b5 (m10.length : Int) (refT m6) (refP b7 b8 m9 m10 m11 b12 b13 m14) (by rw [refT_len]; omega) hp hpx
  obtain ⟨K3, h3⟩ := pEqual b0 b1 b2 b3 b4 b5 m6 b7 b8 m9 m10 m11 b12 b13 m14 a0 a1 a2 a3 a4 a5 l6 a7 a8 l9 l10 l11 a12 a13 l14 (by omega) (by omega) gx
  obtain ⟨K4, h4⟩ := pEqual a0 a1 a2 a3 a4 a5 l6 a7 a8 l9 l10 l11 a12 a13 l14 a0 a1 a2 a3 a4 a5 l6 a7 a8 l9 l10 l11 a12 a13 l14 (by omega) (by omega) hx
  rw [decide_eq_true ⟨⟨rfl, rfl, rfl, rfl, rfl, rfl⟩, rfl, rfl, rfl⟩] at h4
  obtain ⟨q, hq⟩ : ∃ x_, decide ((a0 = b0 ∧ a1 = b1 ∧ a2 = b2 ∧ a3 = b3 ∧ a4 = b4 ∧ a5 = b5) ∧ l10.length = m10.length ∧ refT l6 = refT m6 ∧ refP a7 a8 l9 l10 l11 a12 a13 l14 = refP b7 b8 m9 m10 m11 b12 b13 m14) = x_ := ⟨_, rfl⟩
  have q2 : decide ((a0 = b0 ∧ a1 = b1 ∧ a2 = b2 ∧ a3 = b3 ∧ a4 = b4 ∧ a5 = b5) ∧ (l10.length : Int) = (m10.length : Int) ∧ refT l6 = refT m6 ∧ refP a7 a8 l9 l10 l11 a12 a13 l14 = refP b7 b8 m9 m10 m11 b12 b13 m14) = q := by
   rw [← hq]
   exact decide_eq_decide.mpr ⟨fun ⟨e1, e2, e3, e4⟩ => ⟨e1, Int.ofNat.inj e2, e3, e4⟩, fun ⟨e1, e2, e3, e4⟩ => ⟨e1, congrArg Int.ofNat e2, e3, e4⟩⟩
  have q3 : decide ((b0 = a0 ∧ b1 = a1 ∧ b2 = a2 ∧ b3 = a3 ∧ b4 = a4 ∧ b5 = a5) ∧ m10.length = l10.length ∧ refT m6 = refT l6 ∧ refP b7 b8 m9 m10 m11 b12 b13 m14 = refP a7 a8 l9 l10 l11 a12 a13 l14) = q := by
   rw [← hq]
   exact decide_eq_decide.mpr ⟨fun ⟨⟨e0, e1, e2, e3, e4, e5⟩, f1, f2, f3⟩ => ⟨⟨e0.symm, e1.symm, e2.symm, e3.symm, e4.symm, e5.symm⟩, f1.symm, f2.symm, f3.symm⟩, fun ⟨⟨e0, e1, e2, e3, e4, e5⟩, f1, f2, f3⟩ => ⟨⟨e0.symm, e1.symm, e2.symm, e3.symm, e4.symm, e5.symm⟩, f1.symm, f2.symm, f3.symm⟩⟩
  rw [hq] at h1
  rw [q2] at h2
  rw [q3] at h3
  clear hq q2 q3
  obtain ⟨b, hb⟩ := cfg_tot a0 a1 a2 a3 a4 a5
  cases b with
  | false =>
   have h5 := cfg_no (k := Ka + K1 + K2 + K3 + K4) hb l6 a7 a8 l9 l10 l11 a12 a13 l14
   exact fin (Ka + K1 + K2 + K3 + K4) ⟨hbd, gbd, ha _ (by omega), fun _ _ => ⟨q, h1 _ (by omega), h2 _ (by omega), h3 _ (by omega), h4 _ (by omega), [], 11, pBytes_bad h5 (by decide), fun h => absurd h (by decide)⟩⟩
  | true =>
   obtain ⟨K5, h5⟩ := pRight hb l6 a7 a8 l9 l10 l11 a12 a13 l14 (by omega)
   by_cases hv : RV a0 a3 l6 l10.length (Inf a1 a2 a3 a4 a5 a7 a8 l9 l10 l11 a12 a13 l14) = 0
   ·
    obtain ⟨K6, h6⟩ := pBytes hb hv hr
    have hln := LB_len a0 a1 a2 a3 a4 a5 l6 (Inf a1 a2 a3 a4 a5 a7 a8 l9 l10 l11 a12 a13 l14)
    have hsm := nums_small hb hv
    obtain ⟨K7, h7⟩ := Parse_cl hb hv hr
    refine fin (Ka + K1 + K2 + K3 + K4 + K6 + K7) ⟨hbd, gbd, ha _ (by omega), fun _ _ => ⟨q, h1 _ (by omega), h2 _ (by omega), h3 _ (by omega), h4 _ (by omega), _, 0, h6 _ (by omega), fun _ => ⟨?_, a0, a1, a2, a3, a4, a5, l6, a7, a8, l9, l10, l11, a12, a13, l14, h7 _ (by omega), h4 _ (by omega)⟩⟩⟩
    rw [up_length, cl_length]
    omega
   ·
    exact fin (Ka + K1 + K2 + K3 + K4 + K5) ⟨hbd, gbd, ha _ (by omega), fun _ _ => ⟨q, h1 _ (by omega), h2 _ (by omega), h3 _ (by omega), h4 _ (by omega), [], _, pBytes_bad (h5 _ (by omega)) hv, fun h => absurd h hv⟩⟩

end Go.Proofs.Ytehepnmagcjkaaa.Pure
