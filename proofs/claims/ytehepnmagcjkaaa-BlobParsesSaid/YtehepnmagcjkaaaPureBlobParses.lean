/- Any bytes are a blob's, or refused, as the document says; what is read has just these bytes. -/
import Derived.Test.YtehepnmagcjkaaaPBlobParsesx
namespace Go.Proofs.Ytehepnmagcjkaaa.Pure
open Go.RowKit Go.Proofs.Ytehepnmagcjkaaa.PBlobParses Go.Proofs.YtehepnmagcjkaaaW.PrintWords Go.Proofs.YtehepnmagcjkaaaW.PrintLast Go.Proofs.YtehepnmagcjkaaaW.PrintMore
set_option linter.unusedVariables false
set_option linter.unusedSimpArgs false
theorem gdE {α : Type} {l : List α} {i : Nat} {a : α} : l.getD i a = l[i]?.getD a := List.getD_eq_getElem?_getD
theorem tnC (n : Nat) : ((n : Int)).toNat = n := Int.toNat_natCast n
theorem lnM {α β : Type} {s : List α} (f : α → β) : (s.map f).length = s.length := List.length_map f
theorem lnA {α : Type} {s z : List α} : (s ++ z).length = s.length + z.length := List.length_append
theorem oBs {α β : Type} (a : α) (f : α → Option β) : (some a).bind f = f a := rfl
theorem gEg {α : Type} {l : List α} {i : Nat} (h : i < l.length) : l[i]? = some l[i] := List.getElem?_eq_getElem h
theorem fmC {α β : Type} {x : α} {s : List α} {f : α → List β} : (x :: s).flatMap f = f x ++ s.flatMap f := List.flatMap_cons
theorem Ev.pos {α : Type} {c : Prop} [Decidable c] {X Y : Nat → Option α} {r : α} (h : c) (k : Ev X r) : Ev (fun n => if c then X n else Y n) r := by
 obtain ⟨K, k⟩ := k
 exact ⟨K, fun n hn => (if_pos h).trans (k n hn)⟩
theorem Ev.neg {α : Type} {c : Prop} [Decidable c] {X Y : Nat → Option α} {r : α} (h : ¬ c) (k : Ev Y r) : Ev (fun n => if c then X n else Y n) r := by
 obtain ⟨K, k⟩ := k
 exact ⟨K, fun n hn => (if_neg h).trans (k n hn)⟩
theorem Ev.sb {α β : Type} {f : Nat → α → Option β} {a : α} {r : β} (k : Ev (fun n => f n a) r) : Ev (fun n => (some a).bind (f n)) r := k
theorem Ev.eq {α : Type} {g : Nat → Option α} {r s : α} (k : Ev g r) (h : r = s) : Ev g s := h ▸ k
theorem Ev.one {α : Type} {g h : Nat → Option α} {r : α} (hg : Ev g r) (hh : ∀ n, g n = h n) : Ev h r := Ev.congr (fun n => (hh n).symm) hg
theorem Ev.ite {α : Type} {c : Prop} [Decidable c] {X Y : Nat → Option α} {r : α} (h : c → Ev X r) (k : ¬ c → Ev Y r) : Ev (fun n => if c then X n else Y n) r := by
 by_cases hc : c
 ·
  exact Ev.pos hc (h hc)
 ·
  exact Ev.neg hc (k hc)
theorem w64 {x : Int} (h0 : -9223372036854775808 ≤ x) (h1 : x ≤ 9223372036854775807) : wrap64 x = x := by unfold wrap64; omega
theorem wu64 {x : Int} (h0 : 0 ≤ x) (h1 : x < 18446744073709551616) : IntKind.u64.wrap x = x := by
 simp [IntKind.wrap, IntKind.bits, IntKind.signed]
 omega
theorem td_nonneg {x y : Int} (h : 0 ≤ x) : Int.tdiv x y = x / y := Int.tdiv_eq_ediv_of_nonneg h
theorem tm_nonneg {x y : Int} (h : 0 ≤ x) : Int.tmod x y = x % y := Int.tmod_eq_emod_of_nonneg h
theorem wn (x : Nat) (h : x < 9223372036854775808) : wrap64 (x : Int) = (x : Int) := w64 (by omega) (by omega)
theorem wadd (x y : Nat) (h : x + y < 9223372036854775808) : wrap64 ((x : Int) + (y : Int)) = ((x + y : Nat) : Int) := by
 rw [← Int.natCast_add]
 exact wn _ h
theorem wsucc (x : Nat) (h : x + 1 < 9223372036854775808) : wrap64 ((x : Int) + 1) = ((x + 1 : Nat) : Int) := wadd x 1 h
theorem wun (x : Nat) (h : x < 18446744073709551616) : IntKind.u64.wrap (x : Int) = (x : Int) := wu64 (by omega) (by omega)
def up (W : List Nat) : List Int := W.map fun (n : Nat) => (n : Int)
theorem up_length (W : List Nat) : (up W).length = W.length := by simp [up]
theorem up_app (a b : List Nat) : up (a ++ b) = up a ++ up b := by simp [up]
theorem up_take (a : List Nat) (n : Nat) : (up a).take n = up (a.take n) := by simp [up, List.map_take]
theorem up_drop (a : List Nat) (n : Nat) : (up a).drop n = up (a.drop n) := by simp [up, List.map_drop]
theorem up_one (x : Nat) : up [x] = [(x : Int)] := rfl
theorem rd_up (W : List Nat) (j : Nat) : rd (up W) (j : Int) = ((W.getD j 0 : Nat) : Int) := by
 unfold rd up
 rw [tnC, gdE, gdE, List.getElem?_map]
 cases W[j]? <;> rfl
theorem up_of (xs : List Int) (h : ∀ x ∈ xs, 0 ≤ x) : xs = up (xs.map Int.toNat) := by
 induction xs with
 | nil => rfl
 | cons x xs ih =>
  have h1 : ∀ y ∈ xs, 0 ≤ y := fun y hy => h y (List.mem_cons_of_mem _ hy)
  have h2 : 0 ≤ x := h x (List.mem_cons_self ..)
  rw [List.map_cons]
  show x :: xs = ((x.toNat : Nat) : Int) :: up (xs.map Int.toNat)
  rw [← ih h1, Int.toNat_of_nonneg h2]
def Bys (l : List Nat) : Prop := ∀ x ∈ l, x < 256
theorem Bys.app {a b : List Nat} (ha : Bys a) (hb : Bys b) : Bys (a ++ b) := by
 intro x hx
 rcases List.mem_append.1 hx with h | h
 ·
  exact ha x h
 ·
  exact hb x h
theorem Bys.take {a : List Nat} (ha : Bys a) (n : Nat) : Bys (a.take n) := fun x hx => ha x (List.mem_of_mem_take hx)
theorem Bys.drop {a : List Nat} (ha : Bys a) (n : Nat) : Bys (a.drop n) := fun x hx => ha x (List.mem_of_mem_drop hx)
theorem Bys.getD {a : List Nat} (ha : Bys a) (n : Nat) : a.getD n 0 < 256 := by
 rw [gdE]
 by_cases h : n < a.length
 ·
  rw [gEg h]
  exact ha _ (List.getElem_mem h)
 ·
  rw [List.getElem?_eq_none (by omega)]
  decide
theorem wf_bys {xs : List Int} (h : ∀ x ∈ xs, (Lit.int .u8 x).wf = true) : ∃ l, Bys l ∧ xs = up l := by
 have h' : ∀ x ∈ xs, 0 ≤ x ∧ x < 256 := by
  intro x hx
  have := h x hx
  simp [Lit.wf, IntKind.min, IntKind.max, IntKind.bits, IntKind.signed] at this
  omega
 refine ⟨xs.map Int.toNat, ?_, up_of xs (fun x hx => (h' x hx).1)⟩
 intro y hy
 obtain ⟨x, hx, rfl⟩ := List.mem_map.1 hy
 have := h' x hx
 omega
def B (l : List Nat) : ByteArray := strOfNums (up l)
theorem B_size (l : List Nat) : (B l).size = l.length := by rw [B, strOfNums_size, up_length]
theorem B_list (l : List Nat) : (B l).data.toList = l.map UInt8.ofNat := by
 rw [B, strOfNums_data, up, List.map_map]
 rfl
theorem ba_ext {a b : ByteArray} (h : a.data.toList = b.data.toList) : a = b := by
 cases a; cases b
 simp only at h
 congr 1
 exact Array.toList_inj.1 h
theorem B_app (a b : List Nat) : B a ++ B b = B (a ++ b) := by
 apply ba_ext
 rw [ByteArray.data_append, Array.toList_append, B_list, B_list, B_list, List.map_append]
theorem toList_data (a : ByteArray) : a.toList = a.data.toList := by
 exact ByteArray.toList_eq a
theorem map_u8_inj : ∀ {a b : List Nat}, Bys a → Bys b → a.map UInt8.ofNat = b.map UInt8.ofNat → a = b
 | [], [], _, _, _ => rfl
 | [], y :: ys, _, _, h => by simp at h
 | x :: xs, [], _, _, h => by simp at h
 | x :: xs, y :: ys, ha, hb, h => by
  rw [List.map_cons, List.map_cons] at h
  injection h with h1 h2
  have e1 : (UInt8.ofNat x).toNat = (UInt8.ofNat y).toNat := by rw [h1]
  rw [UInt8.toNat_ofNat', UInt8.toNat_ofNat'] at e1
  have hx := ha x (List.mem_cons_self ..)
  have hy := hb y (List.mem_cons_self ..)
  rw [Nat.mod_eq_of_lt (by omega), Nat.mod_eq_of_lt (by omega)] at e1
  rw [e1, map_u8_inj (fun z hz => ha z (List.mem_cons_of_mem _ hz)) (fun z hz => hb z (List.mem_cons_of_mem _ hz)) h2]
theorem B_inj {a b : List Nat} (ha : Bys a) (hb : Bys b) (h : (B a).toList = (B b).toList) : a = b := by
 rw [toList_data, toList_data, B_list, B_list] at h
 exact map_u8_inj ha hb h
theorem bt_B {l : List Nat} (hl : Bys l) (j : Nat) (hj : j < l.length) : bt (B l) (j : Int) = ((l.getD j 0 : Nat) : Int) := by
 unfold bt
 rw [dif_pos (by rw [tnC, B_size]; exact hj)]
 have hx := hl.getD j
 have e : ∀ h, ((B l)[(j : Int).toNat]'h) = UInt8.ofNat (l.getD j 0) := by
  intro h
  have : (B l).data.toList[j]? = some (UInt8.ofNat (l.getD j 0)) := by
   rw [B_list, List.getElem?_map, gdE, gEg hj]
   rfl
  show (B l).data[(j : Int).toNat] = _
  have h3 : (B l).data[j]? = some (UInt8.ofNat (l.getD j 0)) := by rw [← Array.getElem?_toList]; exact this
  have h4 := (Array.getElem?_eq_some_iff.1 h3).2
  exact h4
 rw [e, UInt8.toNat_ofNat', Nat.mod_eq_of_lt (by omega)]
def sstep (h c : Nat) : Nat := (h ^^^ c) * 16777619 % 4294967296
def sm (h : Nat) (l : List Nat) : Nat := l.foldl sstep h
theorem sstep_lt (h c : Nat) : sstep h c < 4294967296 := Nat.mod_lt _ (by decide)
theorem sm_lt : ∀ (l : List Nat) (h : Nat), h < 4294967296 → sm h l < 4294967296
 | [], h, hh => hh
 | c :: l, h, _ => sm_lt l (sstep h c) (sstep_lt h c)
def be : Nat → Nat → List Nat
 | 0, _ => []
 | n + 1, v => be n (v / 256) ++ [v % 256]
theorem be_length : ∀ n v, (be n v).length = n
 | 0, _ => rfl
 | n + 1, v => by rw [be, lnA, be_length n]; rfl
theorem be_bys : ∀ n v, Bys (be n v)
 | 0, _ => fun x hx => by simp [be] at hx
 | n + 1, v => (be_bys n _).app (fun x hx => by
   rw [List.mem_singleton] at hx
   subst hx
   exact Nat.mod_lt _ (by decide))
theorem be_head : ∀ n v, be (n + 1) v = (v / 256 ^ n % 256) :: be n v
 | 0, v => by simp [be]
 | n + 1, v => by
  rw [be, be_head n (v / 256), be, Nat.div_div_eq_div_mul, Nat.pow_succ, Nat.mul_comm 256]
  rfl
theorem bits_xor (k : IntKind) (j : Nat) (hj : j ≤ k.bits) (hk : ∀ n : Int, 0 ≤ n → n < 2 ^ j → k.wrap n = n) (a b : Nat) (ha : a < 2 ^ j) (hb : b < 2 ^ j) :
  Go.bits .xor k a b = ((a ^^^ b : Nat) : Int) := by
 have hp : 2 ^ j ≤ 2 ^ k.bits := Nat.pow_le_pow_right (by decide) hj
 have ha' : a % 2 ^ k.bits = a := Nat.mod_eq_of_lt (Nat.lt_of_lt_of_le ha hp)
 have hb' : b % 2 ^ k.bits = b := Nat.mod_eq_of_lt (Nat.lt_of_lt_of_le hb hp)
 simp only [Go.bits, BitVec.ofInt_natCast, BitVec.toNat_xor, BitVec.toNat_ofNat, ha', hb']
 refine hk _ (Int.natCast_nonneg _) ?_
 have := Nat.xor_lt_two_pow ha hb
 exact_mod_cast this
theorem xor32 (a b : Nat) (ha : a < 4294967296) (hb : b < 4294967296) : Go.bits .xor .u32 a b = ((a ^^^ b : Nat) : Int) :=
 bits_xor .u32 32 (by decide) (fun n h0 h1 => by rw [IntKind.wrap_u32]; exact Int.emod_eq_of_lt h0 (by simpa using h1)) a b (by simpa using ha) (by simpa using hb)
theorem xor64 (a b : Nat) (ha : a < 18446744073709551616) (hb : b < 18446744073709551616) : Go.bits .xor .u64 a b = ((a ^^^ b : Nat) : Int) :=
 bits_xor .u64 64 (by decide) (fun n h0 h1 => wu64 h0 (by simpa using h1)) a b (by simpa using ha) (by simpa using hb)
theorem xor_lt32 {a b : Nat} (ha : a < 4294967296) (hb : b < 256) : a ^^^ b < 4294967296 :=
 Nat.xor_lt_two_pow (n := 32) (by simpa using ha) (by simp; omega)
theorem drop_getD (l : List Nat) (i : Nat) (h : i < l.length) : l.drop i = l.getD i 0 :: l.drop (i + 1) := by
 rw [List.drop_eq_getElem_cons h, gdE, gEg h]
 rfl
theorem sstep_z (h c : Nat) (hh : h < 4294967296) (hc : c < 256) : ((Go.bits .xor .u32 (h : Int) ((c : Int) % 4294967296)) * 16777619) % 4294967296 = ((sstep h c : Nat) : Int) := by
 rw [show ((c : Nat) : Int) % 4294967296 = (c : Int) by omega, xor32 h c hh (by omega)]
 unfold sstep
 omega
theorem Sum_l (l : List Nat) (hl : Bys l) (hn : l.length < 1000000) : ∀ (d i h : Nat), l.length - i = d → i ≤ l.length → h < 4294967296 →
  Ev (fun k => seal_Sum.l0 k (h : Int) (up l) (l.length : Int) (i : Int)) ((sm h (l.drop i) : Nat) : Int) := by
 intro d
 induction d with
 | zero =>
  intro i h hd hi hh
  obtain rfl : i = l.length := by omega
  refine Ev.step (fun k => by rw [seal_Sum.l0, if_neg (by omega)]) ?_
  rw [List.drop_length]
  exact Ev.now _
 | succ d ih =>
  intro i h hd hi hh
  refine Ev.step (fun k => by rw [seal_Sum.l0, if_pos (by omega), if_pos (by omega), if_pos (by rw [up_length]; omega), rd_up, sstep_z h _ hh (hl.getD i), wsucc _ (by omega)]) ?_
  rw [drop_getD l i (by omega)]
  exact ih (i + 1) _ (by omega) (by omega) (sstep_lt _ _)
theorem Sum_f (l : List Nat) (hl : Bys l) (hn : l.length < 1000000) : Ev (fun k => seal_Sum.f k (up l)) ((sm 2166136261 l : Nat) : Int) := by
 unfold seal_Sum.f
 rw [up_length]
 exact Sum_l l hl hn l.length 0 2166136261 (by omega) (by omega) (by decide)
theorem shr_u64 (x s : Nat) (hs : s ≤ 64) : shr .u64 (x : Int) (s : Int) = ((x / 2 ^ s : Nat) : Int) := by
 unfold shr
 rw [tnC, Nat.min_eq_left (show s ≤ IntKind.u64.bits from hs)]
 simp
theorem two8 (i : Nat) : 2 ^ (8 * i) = 256 ^ i := by rw [Nat.pow_mul]
theorem Put_l (v : Nat) : ∀ (n : Nat) (l : List Nat), n ≤ 8 → l.length + n < 1000000 →
  Ev (fun k => seal_Put.l0 k (v : Int) (up l) ((n : Int) - 1)) (up (l ++ be n v)) := by
 intro n
 induction n with
 | zero =>
  intro l hn hl
  refine Ev.step (fun k => by rw [seal_Put.l0, if_neg (by omega)]) ?_
  rw [be, List.append_nil]
  exact Ev.now _
 | succ n ih =>
  intro l hn hl
  have e1 : (((n + 1 : Nat) : Int) - 1) = (n : Int) := by omega
  have e2 : wrap64 (8 * (n : Int)) = ((8 * n : Nat) : Int) := by
   rw [w64 (by omega) (by omega)]
   omega
  have e3 : wrap64 ((n : Int) - 1) = (n : Int) - 1 := w64 (by omega) (by omega)
  have e4 : shr .u64 (v : Int) ((8 * n : Nat) : Int) % 256 = ((v / 256 ^ n % 256 : Nat) : Int) := by
   rw [shr_u64 _ _ (by omega), two8]
   omega
  refine Ev.step (fun k => by rw [seal_Put.l0, e1, if_pos (by omega), e2, if_pos (by omega), if_pos (by rw [up_length]; omega), e3, e4, ← up_one, ← up_app]) ?_
  have h := ih (l ++ [v / 256 ^ n % 256]) (by omega) (by
   rw [lnA, List.length_singleton]
   omega)
  rw [be_head]
  rwa [List.append_assoc] at h
theorem Clone_f (l : List Nat) (hl : l.length < 1000000) : slices_Clone_byte_byte.f (up l) = some (up l) := by
 unfold slices_Clone_byte_byte.f
 rw [if_pos (by rw [up_length]; omega)]
theorem bClone_f (l : List Nat) (hl : l.length < 1000000) : bytes_Clone.f (up l) = some (up l) := by
 unfold bytes_Clone.f
 rw [if_pos (by rw [up_length]; omega)]
def wide (n : Int) : Nat := min n.toNat 8
theorem wide_f (n : Int) : seal_wide.f n = some ((wide n : Nat) : Int) := by
 unfold seal_wide.f wide mn mx
 congr 1
 repeat' split
 all_goals omega
def cl (l : List Nat) : List Nat := l ++ be 4 (sm 2166136261 l)
theorem Put_f (l : List Nat) (v : Nat) (n : Int) (hl : l.length < 900000) : Ev (fun k => seal_Put.f k (up l) (v : Int) n) (up (l ++ be (wide n) v)) := by
 have hw : wide n ≤ 8 := Nat.min_le_right _ _
 unfold seal_Put.f
 simp only [Clone_f l (by omega), wide_f, oBs]
 rw [w64 (by omega) (by omega)]
 exact Put_l v _ l hw (by omega)
theorem Close_f (l : List Nat) (hl : Bys l) (hn : l.length < 900000) : Ev (fun k => seal_Close.f k (up l)) (up (cl l)) := by
 unfold seal_Close.f
 refine Ev.bind (Sum_f l hl (by omega)) ?_
 have hs := sm_lt l 2166136261 (by decide)
 rw [wun _ (by omega)]
 exact Ev.bind (Put_f l _ 4 hn) (Ev.now _)
theorem cl_length (l : List Nat) : (cl l).length = l.length + 4 := by rw [cl, lnA, be_length]
theorem cl_bys {l : List Nat} (h : Bys l) : Bys (cl l) := h.app (be_bys _ _)
theorem Open_short (l : List Nat) (h : l.length < 4) : Ev (fun k => seal_Open.f k (up l)) ([], 16) := by
 unfold seal_Open.f
 rw [up_length, w64 (by omega) (by omega)]
 exact Ev.pos (by omega) (Ev.now _)
theorem Open_long (l : List Nat) (hl : Bys l) (h : 4 ≤ l.length) (hn : l.length < 900000) :
  Ev (fun k => seal_Open.f k (up l)) (if l = cl (l.take (l.length - 4)) then (up (l.take (l.length - 4)), 0) else ([], 22)) := by
 unfold seal_Open.f
 rw [up_length, w64 (by omega) (by omega)]
 have e : ((l.length : Int) - 4).toNat = l.length - 4 := by omega
 refine Ev.neg (by omega) (Ev.pos (by omega) (Ev.pos (by omega) ?_))
 rw [e, up_take]
 have hb := hl.take (l.length - 4)
 have hlen : (l.take (l.length - 4)).length < 900000 := by rw [List.length_take]; omega
 refine Ev.bind (Close_f _ hb hlen) ?_
 unfold bytes_Equal.f
 refine Ev.sb ?_
 refine Ev.ite (fun hq => ?_) (fun hq => ?_)
 ·
  have hq' : l = cl (l.take (l.length - 4)) := B_inj hl (cl_bys hb) (by rw [beq_iff_eq] at hq; exact hq)
  rw [if_pos hq', bClone_f _ (by omega)]
  exact Ev.sb (Ev.now _)
 ·
  rw [if_neg (fun hc => hq (by
   rw [beq_iff_eq]
   exact congrArg (fun z => (strOfNums (up z)).toList) hc))]
  exact Ev.now _
theorem Open_cl (l : List Nat) (hl : Bys l) (hn : l.length < 800000) : Ev (fun k => seal_Open.f k (up (cl l))) (up l, 0) := by
 have h := Open_long (cl l) (cl_bys hl) (by rw [cl_length]; omega) (by rw [cl_length]; omega)
 have e : (cl l).take ((cl l).length - 4) = l := by
  rw [cl_length, Nat.add_sub_cancel, cl, List.take_left]
 rw [e, if_pos rfl] at h
 exact h
theorem rstep_z (h c : Nat) (hh : h < 4294967296) (hc : c < 256) : Int.tmod (IntKind.u64.wrap ((Go.bits .xor .u64 (h : Int) (IntKind.u64.wrap (c : Int))) * 16777619)) 4294967296 = ((sstep h c : Nat) : Int) := by
 have hx := xor_lt32 hh hc
 rw [wun c (by omega), xor64 h c (by omega) (by omega)]
 unfold sstep
 generalize h ^^^ c = x at hx ⊢
 rw [wu64 (by omega) (by omega), tm_nonneg (by omega)]
 omega
theorem rSum_l (l : List Nat) (hl : Bys l) (hn : l.length < 1000000) : ∀ (d i h : Nat), l.length - i = d → i ≤ l.length → h < 4294967296 →
  Ev (fun k => credenzaref06_Sum.l0 k (B l) (h : Int) (i : Int)) ((sm h (l.drop i) : Nat) : Int) := by
 intro d
 induction d with
 | zero =>
  intro i h hd hi hh
  obtain rfl : i = l.length := by omega
  refine Ev.step (fun k => by rw [credenzaref06_Sum.l0, B_size, if_neg (by omega)]) ?_
  rw [List.drop_length, Int.emod_eq_of_lt (by omega) (by omega)]
  exact Ev.now _
 | succ d ih =>
  intro i h hd hi hh
  refine Ev.step (fun k => by rw [credenzaref06_Sum.l0, B_size, if_pos (by omega), if_pos (by omega), bt_B hl i (by omega), rstep_z h _ hh (hl.getD i), wsucc _ (by omega)]) ?_
  rw [drop_getD l i (by omega)]
  exact ih (i + 1) _ (by omega) (by omega) (sstep_lt _ _)
theorem rSum_f (l : List Nat) (hl : Bys l) (hn : l.length < 1000000) : Ev (fun k => credenzaref06_Sum.f k (B l)) ((sm 2166136261 l : Nat) : Int) := by
 unfold credenzaref06_Sum.f
 exact rSum_l l hl hn l.length 0 2166136261 (by omega) (by omega) (by decide)
theorem rBytes_l (n : Nat) (hn : n < 1000) : ∀ (d i v : Nat) (acc : List Nat), n - i = d → i ≤ n → v < 18446744073709551616 → acc.length ≤ 1000 * i →
  Ev (fun k => credenzaref06_Bytes.l0 k (v : Int) (n : Int) (B acc) (i : Int)) (B (be (n - i) v ++ acc)) := by
 intro d
 induction d with
 | zero =>
  intro i v acc hd hi hv ha
  obtain rfl : i = n := by omega
  refine Ev.step (fun k => by rw [credenzaref06_Bytes.l0, if_neg (by omega)]) ?_
  rw [Nat.sub_self, be, List.nil_append]
  exact Ev.now _
 | succ d ih =>
  intro i v acc hd hi hv ha
  have e1 : ([(Int.tmod (v : Int) 256) % 256] : List Int) = up [v % 256] := by
   rw [tm_nonneg (by omega), up_one]
   congr 1
   omega
  have e2 : IntKind.u64.wrap (Int.tdiv (v : Int) 256) = ((v / 256 : Nat) : Int) := by
   rw [td_nonneg (by omega)]
   rw [show (v : Int) / 256 = ((v / 256 : Nat) : Int) by omega]
   exact wun _ (by omega)
  refine Ev.step (fun k => by rw [credenzaref06_Bytes.l0, if_pos (by omega), oBs, e1, if_pos (by rw [show (strOfNums (up [v % 256])).size = 1 from B_size [v % 256], B_size]; omega), e2, wsucc _ (by omega), show strOfNums (up [v % 256]) ++ B acc = B ([v % 256] ++ acc) from B_app _ _]) ?_
  have h := ih (i + 1) (v / 256) ([v % 256] ++ acc) (by omega) (by omega) (by omega) (by
   rw [lnA, List.length_singleton]
   omega)
  rw [show n - i = (n - (i + 1)) + 1 by omega, be, List.append_assoc]
  exact h
theorem rBytes_f (v n : Nat) (hn : n < 1000) (hv : v < 18446744073709551616) : Ev (fun k => credenzaref06_Bytes.f k (v : Int) (n : Int)) (B (be n v)) := by
 unfold credenzaref06_Bytes.f
 have h := rBytes_l n hn n 0 v [] (by omega) (by omega) hv (by simp)
 rw [Nat.sub_zero, List.append_nil] at h
 exact h
theorem rClose_f (l : List Nat) (hl : Bys l) (hn : l.length < 900000) : Ev (fun k => credenzaref06_Close.f k (B l)) (B (cl l)) := by
 unfold credenzaref06_Close.f
 refine Ev.bind (rSum_f l hl (by omega)) ?_
 have hs := sm_lt l 2166136261 (by decide)
 rw [wun _ (by omega)]
 refine Ev.bind (rBytes_f _ 4 (by decide) (by omega)) ?_
 refine Ev.pos (by rw [B_size, B_size, be_length]; omega) ?_
 rw [B_app]
 exact Ev.now _
theorem B_extract0 (l : List Nat) (n : Nat) : (B l).extract 0 n = B (l.take n) := by
 apply ba_ext
 rw [ByteArray.data_extract, Array.toList_extract, B_list, B_list, List.map_take]
 simp
theorem rOpen_short (l : List Nat) (h : l.length < 4) : Ev (fun k => credenzaref06_Open.f k (B l)) (B [], 16) := by
 unfold credenzaref06_Open.f
 rw [B_size]
 exact Ev.pos (by omega) (Ev.now _)
theorem rOpen_long (l : List Nat) (hl : Bys l) (h : 4 ≤ l.length) (hn : l.length < 900000) :
  Ev (fun k => credenzaref06_Open.f k (B l)) (if l = cl (l.take (l.length - 4)) then (B (l.take (l.length - 4)), 0) else (B [], 22)) := by
 unfold credenzaref06_Open.f
 rw [B_size, w64 (by omega) (by omega)]
 have e : ((l.length : Int) - 4).toNat = l.length - 4 := by omega
 refine Ev.neg (by omega) (Ev.pos (by omega) (Ev.pos (by omega) ?_))
 rw [e, B_extract0]
 have hb := hl.take (l.length - 4)
 have hlen : (l.take (l.length - 4)).length < 900000 := by rw [List.length_take]; omega
 refine Ev.bind (rClose_f _ hb hlen) ?_
 refine Ev.ite (fun hq => ?_) (fun hq => ?_)
 ·
  rw [if_pos (B_inj hl (cl_bys hb) hq.symm)]
  exact Ev.now _
 ·
  rw [if_neg (fun hc => hq (by rw [← hc]))]
  exact Ev.now _
def nstep (v c : Nat) : Nat := v * 256 + c
def nm (v : Nat) (l : List Nat) : Nat := l.foldl nstep v
theorem nm_app (a b : List Nat) (v : Nat) : nm v (a ++ b) = nm (nm v a) b := by unfold nm; rw [List.foldl_append]
theorem nm_be : ∀ n v, nm 0 (be n v) = v % 256 ^ n
 | 0, v => by rw [Nat.pow_zero, Nat.mod_one]; rfl
 | n + 1, v => by
  rw [be, nm_app, nm_be n]
  show nstep _ _ = _
  unfold nstep
  rw [Nat.pow_succ, Nat.mul_comm (256 ^ n), Nat.mod_mul]
  omega
theorem pow_le7 {j : Nat} (h : j ≤ 7) : 256 ^ j ≤ 72057594037927936 := by
 have : (256 : Nat) ^ 7 = 72057594037927936 := by decide
 rw [← this]
 exact Nat.pow_le_pow_right (by decide) h
theorem or_byte {v c : Nat} (hv : v < 72057594037927936) (hc : c < 256) : Go.bits .or .u64 (IntKind.u64.wrap ((v : Int) * 256)) (IntKind.u64.wrap (c : Int)) = ((nstep v c : Nat) : Int) := by
 rw [wu64 (x := (v : Int) * 256) (by omega) (by omega), wun c (by omega), show (v : Int) * 256 = ((v * 256 : Nat) : Int) by omega]
 have hb := (bits_nat .u64 64 (by decide) (fun n h0 h1 => wu64 h0 (by simpa using h1)) (v * 256) c (by simp; omega) (by simp; omega)).2
 rw [hb]
 unfold nstep
 have := Nat.two_pow_add_eq_or_of_lt (i := 8) (by simpa using hc) v
 rw [show 2 ^ 8 * v = v * 256 by omega] at this
 rw [this]
theorem Num_l (l : List Nat) (hl : Bys l) (hn : l.length ≤ 8) (s : List Int) (b : Bool) : ∀ (d i v : Nat), l.length - i = d → i ≤ l.length → v < 256 ^ i →
  Ev (fun k => seal_Reader_Num.l0 k (v : Int) (up l) (l.length : Int) (i : Int) s b) (((nm v (l.drop i) : Nat) : Int), s, b) := by
 intro d
 induction d with
 | zero =>
  intro i v hd hi hv
  obtain rfl : i = l.length := by omega
  refine Ev.step (fun k => by rw [seal_Reader_Num.l0, if_neg (by omega)]) ?_
  rw [List.drop_length]
  exact Ev.now _
 | succ d ih =>
  intro i v hd hi hv
  have h7 := pow_le7 (j := i) (by omega)
  have hc := hl.getD i
  refine Ev.step (fun k => by rw [seal_Reader_Num.l0, if_pos (by omega), if_pos (by omega), if_pos (by rw [up_length]; omega), rd_up, or_byte (Nat.lt_of_lt_of_le hv h7) hc, wsucc _ (by omega)]) ?_
  rw [drop_getD l i (by omega)]
  refine ih (i + 1) _ (by omega) (by omega) ?_
  unfold nstep
  rw [Nat.pow_succ]
  clear ih h7
  omega
theorem Take_f (l : List Nat) (b : Bool) (n : Nat) (hn : l.length < 1000000) :
  seal_Reader_Take.f (up l) b (n : Int) = if l.length < n then some (up [], up [], true) else some (up (l.take n), up (l.drop n), b) := by
 unfold seal_Reader_Take.f
 rw [up_length]
 by_cases h : l.length < n
 ·
  rw [if_pos h, if_pos (by omega)]
  rfl
 ·
  rw [if_neg h, if_neg (by omega), tnC, up_take, up_drop, bClone_f _ (by rw [List.length_take]; omega), oBs]
theorem Num_f (l : List Nat) (hl : Bys l) (b : Bool) (n : Int) (hn : l.length < 1000000) :
  Ev (fun k => seal_Reader_Num.f k (up l) b n) (if l.length < wide n then (((0 : Nat) : Int), up [], true) else (((nm 0 (l.take (wide n)) : Nat) : Int), up (l.drop (wide n)), b)) := by
 unfold seal_Reader_Num.f
 simp only [wide_f, oBs, Take_f l b (wide n) hn]
 have hw : wide n ≤ 8 := Nat.min_le_right _ _
 by_cases h : l.length < wide n
 ·
  rw [if_pos h, if_pos h]
  exact Ev.sb (Num_l [] (fun x hx => by simp at hx) (by decide) _ _ 0 0 0 rfl (by decide) (by decide))
 ·
  rw [if_neg h, if_neg h]
  have hlen : (l.take (wide n)).length ≤ 8 := by rw [List.length_take]; omega
  refine Ev.sb ?_
  show Ev (fun k => seal_Reader_Num.l0 k 0 (up (l.take (wide n))) ((up (l.take (wide n))).length : Int) 0 (up (l.drop (wide n))) b) _
  rw [up_length]
  exact Num_l (l.take (wide n)) (hl.take _) hlen (up (l.drop (wide n))) b _ 0 0 rfl (Nat.zero_le _) (by decide)
theorem rnum_z (v c : Nat) (hv : v < 72057594037927936) (hc : c < 256) : IntKind.u64.wrap ((IntKind.u64.wrap ((v : Int) * 256)) + (IntKind.u64.wrap (c : Int))) = ((nstep v c : Nat) : Int) := by
 rw [wu64 (x := (v : Int) * 256) (by omega) (by omega), wun c (by omega), wu64 (by omega) (by omega)]
 unfold nstep
 omega
theorem rNumber_l (l : List Nat) (hl : Bys l) (hn : l.length ≤ 8) : ∀ (d i v : Nat), l.length - i = d → i ≤ l.length → v < 256 ^ i →
  Ev (fun k => credenzaref06_Number.l0 k (B l) (v : Int) (i : Int)) ((nm v (l.drop i) : Nat) : Int) := by
 intro d
 induction d with
 | zero =>
  intro i v hd hi hv
  obtain rfl : i = l.length := by omega
  refine Ev.step (fun k => by rw [credenzaref06_Number.l0, B_size, if_neg (by omega)]) ?_
  rw [List.drop_length]
  exact Ev.now _
 | succ d ih =>
  intro i v hd hi hv
  have h7 := pow_le7 (j := i) (by omega)
  have hc := hl.getD i
  refine Ev.step (fun k => by rw [credenzaref06_Number.l0, B_size, if_pos (by omega), if_pos (by omega), bt_B hl i (by omega), rnum_z v _ (Nat.lt_of_lt_of_le hv h7) hc, wsucc _ (by omega)]) ?_
  rw [drop_getD l i (by omega)]
  refine ih (i + 1) _ (by omega) (by omega) ?_
  unfold nstep
  rw [Nat.pow_succ]
  clear ih h7
  omega
theorem rNumber_f (l : List Nat) (hl : Bys l) (hn : l.length ≤ 8) : Ev (fun k => credenzaref06_Number.f k (B l)) ((nm 0 l : Nat) : Int) := by
 unfold credenzaref06_Number.f
 exact rNumber_l l hl hn l.length 0 0 (by omega) (by omega) (by decide)
theorem NewReader_f (l : List Nat) (hn : l.length < 1000000) : seal_NewReader.f (up l) = some (up l, false) := by
 unfold seal_NewReader.f
 rw [bClone_f l hn]
 rfl
theorem B_extract (l : List Nat) (a b : Nat) : (B l).extract a b = B ((l.drop a).take (b - a)) := by
 apply ba_ext
 rw [ByteArray.data_extract, Array.toList_extract, B_list, B_list, List.extract_eq_take_drop, List.map_take, List.map_drop]
def bcnt (s : S110) : Int := if s.f0 = 0 then s.f1 else wrap64 (s.f0 * s.f1)
def bfl (x : Int) : List Int → Int
 | [] => x
 | c :: l => bfl (wrap64 (x + c)) l
def bS (w kv q : Int) : Nat → List S110
 | 0 => []
 | n + 1 => bS w kv q n ++ [⟨0, w⟩, ⟨w, w⟩, ⟨kv, w⟩, ⟨kv, w⟩, ⟨w, w⟩, ⟨0, w⟩, ⟨q, w⟩, ⟨q, w⟩, ⟨w, q⟩]
theorem bS_len (w kv q : Int) : ∀ n, (bS w kv q n).length = 9 * n
 | 0 => rfl
 | n + 1 => by simp only [bS, lnA, bS_len w kv q n, List.length_cons, List.length_nil]; omega
theorem Sz_l0 {w a1 a2 a3 q v : Int} {N : Nat} (hN : N ≤ 4) : ∀ d i : Nat, N - i = d → i ≤ N →
  Ev (fun k => credenzaref18_Sizes.l0 k w (⟨v, w⟩ :: bS w (wrap64 (a2 * a3)) q i) (i : Int) (N : Int) a1 a2 a3 q v) (⟨v, w⟩ :: bS w (wrap64 (a2 * a3)) q N ++ [⟨0, w⟩, ⟨v, w⟩]) := by
 intro d
 induction d with
 | zero =>
  intro i h1 h2
  obtain rfl : i = N := by omega
  refine Ev.step (fun k => by rw [credenzaref18_Sizes.l0, if_neg (by omega)]) ?_
  refine Ev.sb (Ev.pos ?_ (Ev.now _))
  simp only [List.length_cons, List.length_nil, bS_len]
  omega
 | succ d ih =>
  intro i h1 h2
  refine Ev.step (fun k => by rw [credenzaref18_Sizes.l0, if_pos (by omega), wsucc _ (by omega)]) ?_
  refine Ev.sb (Ev.pos ?_ (Ev.sb (Ev.sb (Ev.pos ?_ ?_))))
  ·
   simp only [List.length_cons, List.length_nil, bS_len]
   omega
  ·
   simp only [lnA, List.length_cons, List.length_nil, bS_len]
   omega
  ·
   have h := ih (i + 1) (by omega) (by omega)
   rw [bS] at h
   simpa using h
theorem Nm_l0 (l : List S110) (hl : l.length < 1000) : ∀ d i x, l.length - i = d → i ≤ l.length →
  Ev (fun k => credenzaref18_Numbers.l0 k x l (i : Int)) (bfl x ((l.drop i).map bcnt)) := by
 intro d
 induction d with
 | zero =>
  intro i x h1 h2
  rw [List.drop_eq_nil_of_le (by omega)]
  exact Ev.step (f := fun _ => some x) (fun k => by rw [credenzaref18_Numbers.l0, if_neg (by omega)]) (Ev.now _)
 | succ d ih =>
  intro i x h1 h2
  have hi : i < l.length := by omega
  have hrd : rd_T110 l (i : Int) = l[i] := by unfold rd_T110; rw [tnC, gdE, gEg hi]; rfl
  refine Ev.step (fun k => by rw [credenzaref18_Numbers.l0, if_pos (by omega), if_pos (by omega), wsucc _ (by omega), hrd]) ?_
  have hc : credenzaref18_count.f l[i].f0 l[i].f1 = some (bcnt l[i]) := by unfold credenzaref18_count.f bcnt; split <;> rfl
  rw [hc]
  refine Ev.sb ?_
  have h := ih (i + 1) (wrap64 (x + bcnt l[i])) (by omega) (by omega)
  rw [List.drop_eq_getElem_cons hi, List.map_cons]
  exact h
def brc (c : List Value) : Int := wrap64 (intOf (c.getD 2 undef) * intOf (c.getD 3 undef))
theorem nb_fl : ∀ (l : List (List Value)) (x : Int), nb.sum x l = bfl x (l.map brc)
 | [], x => rfl
 | c :: l, x => by rw [nb.sum, nb_fl l]; rfl
theorem lays_map {w kv q : Int} (hw : 2 ≤ w ∧ w ≤ 64) (hk : 2 ≤ kv ∧ kv ≤ 64) (hq : 1 ≤ q ∧ q ≤ 64) : ∀ n, (bp.layers 0 0 w kv q n).map brc = (bS w kv q n).map bcnt
 | 0 => rfl
 | n + 1 => by
  have h1 : wrap64 w = w := w64 (by omega) (by omega)
  simp only [bp.layers, bp.layer, bp.layer2, bS, List.map_append, lays_map hw hk hq n]
  congr 1
  simp [bp.one, brc, intOf, bcnt, h1, show w ≠ 0 by omega, show kv ≠ 0 by omega, show q ≠ 0 by omega]
theorem all_map {v w kv q : Int} (hv : 2 ≤ v ∧ v ≤ 64) (hw : 2 ≤ w ∧ w ≤ 64) (hk : 2 ≤ kv ∧ kv ≤ 64) (hq : 1 ≤ q ∧ q ≤ 64) (n : Nat) :
  (bp.all 0 0 0 n v w kv q).map brc = ((⟨v, w⟩ :: bS w kv q n ++ [⟨0, w⟩, ⟨v, w⟩] : List S110)).map bcnt := by
 have h1 : wrap64 w = w := w64 (by omega) (by omega)
 simp only [bp.all, List.map_append, List.map_cons, lays_map hw hk hq n]
 simp [bp.one, brc, intOf, bcnt, h1, show w ≠ 0 by omega, show v ≠ 0 by omega]
theorem cfg_eq (c0 c1 c2 c3 c4 c5 : Int) : blob_Config_Right.f c0 c1 c2 c3 c4 c5 = credenzaref18_RightConfig.f c0 c1 c2 c3 c4 c5 := by
 unfold blob_Config_Right.f credenzaref18_RightConfig.f
 simp only [blob_within.f]
 by_cases h0 : c0 < 1
 ·
  rw [if_neg (show ¬ c0 ≥ 1 by omega), if_pos h0]; rfl
 rw [if_pos (show c0 ≥ 1 by omega), if_neg h0]
 by_cases h1 : c0 > 4
 ·
  rw [if_pos h1]; simp [show ¬ c0 ≤ 4 by omega]
 rw [if_neg h1]
 by_cases h2 : c1 < 1
 ·
  rw [if_pos h2]; simp [show c0 ≤ 4 by omega, show ¬ 1 ≤ c1 by omega]
 rw [if_neg h2]
 by_cases h3 : c1 > 4
 ·
  rw [if_pos h3]; simp [show c0 ≤ 4 by omega, show 1 ≤ c1 by omega, show ¬ c1 ≤ 4 by omega]
 rw [if_neg h3]
 by_cases h4 : c2 < 1
 ·
  rw [if_pos h4]; simp [show c0 ≤ 4 by omega, show 1 ≤ c1 by omega, show c1 ≤ 4 by omega, show ¬ 1 ≤ c2 by omega]
 rw [if_neg h4]
 by_cases h5 : c2 > c1
 ·
  rw [if_pos h5]; simp [show c0 ≤ 4 by omega, show 1 ≤ c1 by omega, show c1 ≤ 4 by omega, show 1 ≤ c2 by omega, show ¬ c2 ≤ c1 by omega]
 rw [if_neg h5]
 simp only [ge_iff_le, show c0 ≤ 4 by omega, show 1 ≤ c1 by omega, show c1 ≤ 4 by omega, show 1 ≤ c2 by omega, show c2 ≤ c1 by omega, decide_true, if_true, oBs]
 by_cases h6 : c2 = 0
 ·
  omega
 rw [if_neg h6, if_neg h6]
 by_cases h7 : Int.tmod c1 c2 = 0
 ·
  rw [if_pos h7, if_pos h7]
  by_cases h8 : 2 ≤ c3 <;> by_cases h9 : c3 ≤ 16 <;> by_cases h10 : Int.tmod c3 2 = 0 <;> by_cases h11 : 1 ≤ c4 <;> by_cases h12 : c4 ≤ 64 <;> by_cases h13 : 2 ≤ c5 <;> simp [h8, h9, h10, h11, h12, h13]
 ·
  rw [if_neg h7, if_neg h7]
theorem cfg_t {c0 c1 c2 c3 c4 c5 : Int} (h : credenzaref18_RightConfig.f c0 c1 c2 c3 c4 c5 = some true) : 1 ≤ c0 ∧ c0 ≤ 4 ∧ 1 ≤ c1 ∧ c1 ≤ 4 ∧ 1 ≤ c2 ∧ c2 ≤ c1 ∧ 2 ≤ c3 ∧ c3 ≤ 16 ∧ 1 ≤ c4 ∧ c4 ≤ 64 ∧ 2 ≤ c5 ∧ c5 ≤ 64 := by
 unfold credenzaref18_RightConfig.f at h
 by_cases g0 : c0 < 1
 case pos => rw [if_pos g0] at h; exact absurd h (by simp)
 rw [if_neg g0] at h
 by_cases g1 : c0 > 4
 case pos => rw [if_pos g1] at h; exact absurd h (by simp)
 rw [if_neg g1] at h
 by_cases g2 : c1 < 1
 case pos => rw [if_pos g2] at h; exact absurd h (by simp)
 rw [if_neg g2] at h
 by_cases g3 : c1 > 4
 case pos => rw [if_pos g3] at h; exact absurd h (by simp)
 rw [if_neg g3] at h
 by_cases g4 : c2 < 1
 case pos => rw [if_pos g4] at h; exact absurd h (by simp)
 rw [if_neg g4] at h
 by_cases g5 : c2 > c1
 case pos => rw [if_pos g5] at h; exact absurd h (by simp)
 rw [if_neg g5] at h
 by_cases g6 : c2 = 0
 case pos => omega
 rw [if_neg g6] at h
 by_cases g7 : Int.tmod c1 c2 = 0
 case neg => rw [if_neg g7] at h; exact absurd h (by simp)
 rw [if_pos g7] at h
 by_cases g8 : c3 ≥ 2
 case neg => rw [if_neg g8] at h; exact absurd h (by simp)
 rw [if_pos g8] at h
 by_cases g9 : c3 ≤ 16
 case neg => rw [if_neg g9] at h; exact absurd h (by simp)
 rw [if_pos g9] at h
 by_cases g10 : Int.tmod c3 2 = 0
 case neg => rw [if_neg g10] at h; exact absurd h (by simp)
 rw [if_pos g10] at h
 by_cases g11 : c4 ≥ 1
 case neg => rw [if_neg g11] at h; exact absurd h (by simp)
 rw [if_pos g11] at h
 by_cases g12 : c4 ≤ 64
 case neg => rw [if_neg g12] at h; exact absurd h (by simp)
 rw [if_pos g12] at h
 by_cases g13 : c5 ≥ 2
 case neg => rw [if_neg g13] at h; exact absurd h (by simp)
 rw [if_pos g13] at h
 have h' : c5 ≤ 64 := by simpa using h
 refine ⟨by omega, by omega, by omega, by omega, by omega, by omega, by omega, by omega, by omega, by omega, by omega, h'⟩
theorem cfg_tot (c0 c1 c2 c3 c4 c5 : Int) : ∃ b, credenzaref18_RightConfig.f c0 c1 c2 c3 c4 c5 = some b := by
 unfold credenzaref18_RightConfig.f
 by_cases g0 : c0 < 1
 case pos => rw [if_pos g0]; exact ⟨_, rfl⟩
 rw [if_neg g0]
 by_cases g1 : c0 > 4
 case pos => rw [if_pos g1]; exact ⟨_, rfl⟩
 rw [if_neg g1]
 by_cases g2 : c1 < 1
 case pos => rw [if_pos g2]; exact ⟨_, rfl⟩
 rw [if_neg g2]
 by_cases g3 : c1 > 4
 case pos => rw [if_pos g3]; exact ⟨_, rfl⟩
 rw [if_neg g3]
 by_cases g4 : c2 < 1
 case pos => rw [if_pos g4]; exact ⟨_, rfl⟩
 rw [if_neg g4]
 by_cases g5 : c2 > c1
 case pos => rw [if_pos g5]; exact ⟨_, rfl⟩
 rw [if_neg g5]
 by_cases g6 : c2 = 0
 case pos => omega
 rw [if_neg g6]
 by_cases g7 : Int.tmod c1 c2 = 0
 case neg => rw [if_neg g7]; exact ⟨_, rfl⟩
 rw [if_pos g7]
 by_cases g8 : c3 ≥ 2
 case neg => rw [if_neg g8]; exact ⟨_, rfl⟩
 rw [if_pos g8]
 by_cases g9 : c3 ≤ 16
 case neg => rw [if_neg g9]; exact ⟨_, rfl⟩
 rw [if_pos g9]
 by_cases g10 : Int.tmod c3 2 = 0
 case neg => rw [if_neg g10]; exact ⟨_, rfl⟩
 rw [if_pos g10]
 by_cases g11 : c4 ≥ 1
 case neg => rw [if_neg g11]; exact ⟨_, rfl⟩
 rw [if_pos g11]
 by_cases g12 : c4 ≤ 64
 case neg => rw [if_neg g12]; exact ⟨_, rfl⟩
 rw [if_pos g12]
 by_cases g13 : c5 ≥ 2
 case neg => rw [if_neg g13]; exact ⟨_, rfl⟩
 rw [if_pos g13]
 exact ⟨_, rfl⟩
theorem num_eq {c0 c1 c2 c3 c4 c5 : Int} (h : credenzaref18_RightConfig.f c0 c1 c2 c3 c4 c5 = some true) :
  ∃ n, blob_Config_Numbers.f c0 c1 c2 c3 c4 c5 = some n ∧ Ev (fun k => credenzaref18_Numbers.f k c0 c1 c2 c3 c4 c5) n := by
 obtain ⟨b0, b1, b2, b3, b4, b5, b6, b7, b8, b9, b10, b11⟩ := cfg_t h
 have m1 : 2 ≤ c1 * c3 := by have := Int.mul_le_mul b2 b6 (by decide) (by omega); omega
 have m2 : c1 * c3 ≤ 64 := by have := Int.mul_le_mul b3 b7 (by omega) (by decide); omega
 have m3 : 2 ≤ c2 * c3 := by have := Int.mul_le_mul b4 b6 (by decide) (by omega); omega
 have m4 : c2 * c3 ≤ 64 := by have := Int.mul_le_mul (show c2 ≤ 4 by omega) b7 (by omega) (by decide); omega
 have e1 : wrap64 (c1 * c3) = c1 * c3 := w64 (by omega) (by omega)
 have e2 : wrap64 (c2 * c3) = c2 * c3 := w64 (by omega) (by omega)
 refine ⟨_, by unfold blob_Config_Numbers.f; rw [cfg_eq, h, oBs, if_pos rfl, if_pos (by omega), if_pos (by omega)], ?_⟩
 rw [nb_fl, all_map ⟨b10, b11⟩ (by omega) (by omega) ⟨b8, b9⟩]
 unfold credenzaref18_Numbers.f credenzaref18_Sizes.f
 have hc : ((c0.toNat : Nat) : Int) = c0 := Int.toNat_of_nonneg (by omega)
 have hs := Sz_l0 (w := wrap64 (c1 * c3)) (a1 := c1) (a2 := c2) (a3 := c3) (q := c4) (v := c5) (N := c0.toNat) (by omega) (c0.toNat - 0) 0 rfl (by omega)
 rw [hc] at hs
 refine Ev.bind hs ?_
 have hn := Nm_l0 (⟨c5, wrap64 (c1 * c3)⟩ :: bS (wrap64 (c1 * c3)) (wrap64 (c2 * c3)) c4 c0.toNat ++ [⟨0, wrap64 (c1 * c3)⟩, ⟨c5, wrap64 (c1 * c3)⟩]) (by simp only [lnA, List.length_cons, List.length_nil, bS_len]; omega) _ 0 c3 rfl (by omega)
 exact hn
def toR (I : PI) : S111 := match I.tab with
 | some (R, C) => ⟨R, C, I.xs⟩
 | none => ⟨0, 0, I.xs⟩
def toS (I : PI) : S110 := match I.tab with
 | some _ => ⟨I.r, I.c⟩
 | none => ⟨0, I.c⟩
def shapeI (I : PI) : Prop := match I.tab with
 | some _ => I.r ≠ 0
 | none => I.r = 1 ∧ wrap64 I.c = I.c
theorem refP_infos (v w kv q a7 a8 : Int) (l9 : List Int) (l10 : List S120) (l11 : List Int) (a12 a13 : Int) (l14 : List Int) : (infos v w kv q a7 a8 l9 l10 l11 a12 a13 l14).map toR = refP a7 a8 l9 l10 l11 a12 a13 l14 := by
 unfold infos refP layI
 rw [List.map_append, List.map_cons, List.map_flatMap]
 rfl
theorem bS_cons (w kv q : Int) : ∀ n, bS w kv q (n + 1) = [⟨0, w⟩, ⟨w, w⟩, ⟨kv, w⟩, ⟨kv, w⟩, ⟨w, w⟩, ⟨0, w⟩, ⟨q, w⟩, ⟨q, w⟩, ⟨w, q⟩] ++ bS w kv q n
 | 0 => rfl
 | n + 1 => by
  show bS w kv q (n + 1) ++ _ = _
  conv => lhs; rw [bS_cons w kv q n]
  rw [List.append_assoc]
  rfl
theorem layS (w kv q : Int) : ∀ l : List S120, (layI w kv q l).map toS = bS w kv q l.length
 | [] => rfl
 | x :: l => by
  have h := layS w kv q l
  unfold layI at h ⊢
  rw [fmC, List.map_append, h, List.length_cons, bS_cons]
  rfl
theorem infos_toS (v w kv q a7 a8 : Int) (l9 : List Int) (l10 : List S120) (l11 : List Int) (a12 a13 : Int) (l14 : List Int) : (infos v w kv q a7 a8 l9 l10 l11 a12 a13 l14).map toS = ⟨v, w⟩ :: bS w kv q l10.length ++ [⟨0, w⟩, ⟨v, w⟩] := by
 unfold infos
 rw [List.map_append, List.map_cons, layS]
 rfl
theorem infos_shape {v w kv q : Int} (hv : v ≠ 0) (hw : w ≠ 0) (hk : kv ≠ 0) (hq : q ≠ 0) (ew : wrap64 w = w) (a7 a8 : Int) (l9 : List Int) (l10 : List S120) (l11 : List Int) (a12 a13 : Int) (l14 : List Int) : ∀ I ∈ infos v w kv q a7 a8 l9 l10 l11 a12 a13 l14, shapeI I := by
 intro I hI
 unfold infos layI lay1 lay2 at hI
 simp only [List.mem_append, List.mem_cons, List.mem_flatMap, List.not_mem_nil, or_false] at hI
 rcases hI with (rfl | ⟨x, _, (rfl | rfl | rfl | rfl | rfl) | rfl | rfl | rfl | rfl⟩) | rfl | rfl
 all_goals first | exact ⟨rfl, ew⟩ | assumption
theorem okI {I : PI} (h : shapeI I) : I.ok = true ↔ ((I.xs.length : Int) = bcnt (toS I)) ∧ ((toS I).f0 = 0 ∨ (toR I).f0 = (toS I).f0 ∧ (toR I).f1 = (toS I).f1) := by
 obtain ⟨tab, xs, r, c⟩ := I
 cases tab with
 | none =>
  obtain ⟨h1, h2⟩ := h
  simp only at h1 h2
  subst h1
  simp [PI.ok, toS, toR, bcnt, h2]
 | some t =>
  obtain ⟨R, C⟩ := t
  have h1 : r ≠ 0 := h
  have e : bcnt (toS ⟨some (R, C), xs, r, c⟩) = wrap64 (r * c) := by unfold bcnt; exact if_neg h1
  rw [e]
  simp only [PI.ok, toS, toR]
  by_cases e1 : R = r
  ·
   by_cases e2 : C = c
   ·
    simp [e1, e2]
   ·
    simp [e1, e2, h1]
  ·
   simp [e1, h1]
theorem rd_map111 (Is : List PI) (i : Nat) (h : i < Is.length) : rd_T111 (Is.map toR) (i : Int) = toR Is[i] := by
 unfold rd_T111
 rw [tnC, gdE, List.getElem?_map, gEg h]
 rfl
theorem rd_map110 (Is : List PI) (i : Nat) (h : i < Is.length) : rd_T110 (Is.map toS) (i : Int) = toS Is[i] := by
 unfold rd_T110
 rw [tnC, gdE, List.getElem?_map, gEg h]
 rfl
theorem toR_f2 (I : PI) : (toR I).f2 = I.xs := by
 obtain ⟨tab, xs, r, c⟩ := I
 cases tab <;> rfl
section
variable (a0 a1 a2 a3 a4 a5 a6 : Int) (T : List Int)
theorem RR_l3 (Is : List PI) (hn : Is.length < 1000000) (hx : ∀ I ∈ Is, I.xs.length < 1000000000000000000) (i : Nat) (hi : i < Is.length) (r : Int)
  (hr : Ev (fun k => credenzaref18_Right.l2 k ((i + 1 : Nat) : Int) a0 a1 a2 a3 a4 a5 a6 T (Is.map toR)) r) :
  ∀ d j, Is[i].xs.length - j = d → j ≤ Is[i].xs.length → Ev (fun k => credenzaref18_Right.l3 k (i : Int) (j : Int) a0 a1 a2 a3 a4 a5 a6 T (Is.map toR)) (if (Is[i].xs.drop j).any blob_great.p = true then 11 else r) := by
 have hxl := hx _ (List.getElem_mem hi)
 have hlen : ((Is.map toR).length : Int) = (Is.length : Int) := by rw [lnM]
 intro d
 induction d with
 | zero =>
  intro j h1 h2
  rw [List.drop_eq_nil_of_le (by omega), List.any_nil, if_neg (by decide)]
  refine Ev.step (fun k => by rw [credenzaref18_Right.l3, hlen, if_pos (by omega), if_pos (by omega), rd_map111 Is i hi, toR_f2, if_neg (by omega), wsucc _ (by omega)]) hr
 | succ d ih =>
  intro j h1 h2
  have hj : j < Is[i].xs.length := by omega
  have hrd : rd Is[i].xs (j : Int) = Is[i].xs[j] := by unfold rd; rw [tnC, gdE, gEg hj]; rfl
  rw [List.drop_eq_getElem_cons hj, List.any_cons]
  refine Ev.step (fun k => by rw [credenzaref18_Right.l3, hlen, if_pos (by omega), if_pos (by omega), rd_map111 Is i hi, toR_f2, if_pos (by omega), if_pos (by omega), hrd, wsucc _ (by omega)]) ?_
  by_cases c1 : Is[i].xs[j] < -1048576
  ·
   rw [if_pos (by simp [blob_great.p, c1])]
   exact Ev.pos c1 (Ev.now _)
  ·
   refine Ev.neg c1 ?_
   by_cases c2 : Is[i].xs[j] > 1048576
   ·
    rw [if_pos (by simp [blob_great.p, c2])]
    exact Ev.pos c2 (Ev.now _)
   ·
    refine Ev.neg c2 ?_
    have hg : blob_great.p Is[i].xs[j] = false := by simp [blob_great.p]; omega
    rw [hg, Bool.false_or]
    exact ih (j + 1) (by omega) (by omega)
theorem RR_l2 (Is : List PI) (hn : Is.length < 1000000) (hx : ∀ I ∈ Is, I.xs.length < 1000000000000000000) :
  ∀ d i, Is.length - i = d → i ≤ Is.length → Ev (fun k => credenzaref18_Right.l2 k (i : Int) a0 a1 a2 a3 a4 a5 a6 T (Is.map toR)) (if (Is.drop i).any (fun I => I.xs.any blob_great.p) = true then 11 else 0) := by
 have hlen : ((Is.map toR).length : Int) = (Is.length : Int) := by rw [lnM]
 intro d
 induction d with
 | zero =>
  intro i h1 h2
  rw [List.drop_eq_nil_of_le (by omega), List.any_nil, if_neg (by decide)]
  exact Ev.step (f := fun _ => some 0) (fun k => by rw [credenzaref18_Right.l2, hlen, if_neg (by omega)]) (Ev.now _)
 | succ d ih =>
  intro i h1 h2
  have hi : i < Is.length := by omega
  refine Ev.step (fun k => by rw [credenzaref18_Right.l2, hlen, if_pos (by omega)]) ?_
  refine Ev.eq (RR_l3 a0 a1 a2 a3 a4 a5 a6 T Is hn hx i hi _ (ih (i + 1) (by omega) (by omega)) _ 0 rfl (Nat.zero_le _)) ?_
  rw [List.drop_eq_getElem_cons hi, List.any_cons, List.drop_zero]
  cases Is[i].xs.any blob_great.p <;> simp
def tb (x : Int) : Bool := decide (x < -65536) || decide (x > 65536)
theorem RR_l1 (Is : List PI) (hn : Is.length < 1000000) (hx : ∀ I ∈ Is, I.xs.length < 1000000000000000000) (hT : T.length < 1000000000000000000) :
  ∀ d i, T.length - i = d → i ≤ T.length → Ev (fun k => credenzaref18_Right.l1 k (i : Int) a0 a1 a2 a3 a4 a5 a6 T (Is.map toR)) (if (T.drop i).any tb = true then 11 else if Is.any (fun I => I.xs.any blob_great.p) = true then 11 else 0) := by
 intro d
 induction d with
 | zero =>
  intro i h1 h2
  rw [List.drop_eq_nil_of_le (by omega), List.any_nil, if_neg (by decide)]
  refine Ev.step (fun k => by rw [credenzaref18_Right.l1, if_neg (by omega)]; rfl) (Ev.eq (RR_l2 a0 a1 a2 a3 a4 a5 a6 T Is hn hx _ 0 rfl (Nat.zero_le _)) (by rw [List.drop_zero]))
 | succ d ih =>
  intro i h1 h2
  have hi : i < T.length := by omega
  have hrd : rd T (i : Int) = T[i] := by unfold rd; rw [tnC, gdE, gEg hi]; rfl
  rw [List.drop_eq_getElem_cons hi, List.any_cons]
  refine Ev.step (fun k => by rw [credenzaref18_Right.l1, if_pos (by omega), if_pos (by omega), hrd, wsucc _ (by omega)]) ?_
  by_cases c1 : T[i] < -65536
  ·
   rw [if_pos (by simp [tb, c1])]
   exact Ev.pos c1 (Ev.now _)
  ·
   refine Ev.neg c1 ?_
   by_cases c2 : T[i] > 65536
   ·
    rw [if_pos (by simp [tb, c2])]
    exact Ev.pos c2 (Ev.now _)
   ·
    refine Ev.neg c2 ?_
    have hg : tb T[i] = false := by simp [tb]; omega
    rw [hg, Bool.false_or]
    exact ih (i + 1) (by omega) (by omega)
theorem RR_l0 (Is : List PI) (hn : Is.length < 1000000) (hx : ∀ I ∈ Is, I.xs.length < 1000000000000000000) (hs : ∀ I ∈ Is, shapeI I) (hT : T.length < 1000000000000000000) :
  ∀ d i, Is.length - i = d → i ≤ Is.length → Ev (fun k => credenzaref18_Right.l0 k (Is.map toS) (i : Int) a0 a1 a2 a3 a4 a5 a6 T (Is.map toR)) (if (Is.drop i).any (fun I => !I.ok) = true then 25 else if T.any tb = true then 11 else if Is.any (fun I => I.xs.any blob_great.p) = true then 11 else 0) := by
 have hlen : ((Is.map toR).length : Int) = (Is.length : Int) := by rw [lnM]
 have hlen2 : ((Is.map toS).length : Int) = (Is.length : Int) := by rw [lnM]
 intro d
 induction d with
 | zero =>
  intro i h1 h2
  rw [List.drop_eq_nil_of_le (by omega), List.any_nil, if_neg (by decide)]
  refine Ev.step (fun k => by rw [credenzaref18_Right.l0, hlen2, if_neg (by omega)]; rfl) (Ev.eq (RR_l1 a0 a1 a2 a3 a4 a5 a6 T Is hn hx hT _ 0 rfl (Nat.zero_le _)) (by rw [List.drop_zero]))
 | succ d ih =>
  intro i h1 h2
  have hi : i < Is.length := by omega
  have hc : credenzaref18_count.f (toS Is[i]).f0 (toS Is[i]).f1 = some (bcnt (toS Is[i])) := by unfold credenzaref18_count.f bcnt; split <;> rfl
  rw [List.drop_eq_getElem_cons hi, List.any_cons]
  refine Ev.step (fun k => by rw [credenzaref18_Right.l0, hlen2, if_pos (by omega), if_pos (by omega), hlen, if_pos (by omega), rd_map110 Is i hi, rd_map111 Is i hi, toR_f2, hc, wsucc _ (by omega)]) ?_
  refine Ev.sb ?_
  have hk := okI (hs _ (List.getElem_mem hi))
  by_cases c0 : (Is[i].xs.length : Int) = bcnt (toS Is[i])
  ·
   refine Ev.pos c0 ?_
   by_cases c1 : (toS Is[i]).f0 = 0
   ·
    rw [hk.mpr ⟨c0, .inl c1⟩, Bool.not_true, Bool.false_or]
    exact Ev.pos c1 (ih (i + 1) (by omega) (by omega))
   ·
    refine Ev.neg c1 ?_
    by_cases c2 : (toR Is[i]).f0 = (toS Is[i]).f0
    ·
     refine Ev.pos c2 ?_
     by_cases c3 : (toR Is[i]).f1 = (toS Is[i]).f1
     ·
      rw [hk.mpr ⟨c0, .inr ⟨c2, c3⟩⟩, Bool.not_true, Bool.false_or]
      exact Ev.pos c3 (ih (i + 1) (by omega) (by omega))
     ·
      have hf : Is[i].ok = false := by rw [← Bool.not_eq_true, hk]; exact fun h => (h.2.resolve_left c1).2 |> c3
      rw [hf, if_pos (by simp)]
      exact Ev.neg c3 (Ev.now _)
    ·
     have hf : Is[i].ok = false := by rw [← Bool.not_eq_true, hk]; exact fun h => (h.2.resolve_left c1).1 |> c2
     rw [hf, if_pos (by simp)]
     exact Ev.neg c2 (Ev.now _)
  ·
   have hf : Is[i].ok = false := by rw [← Bool.not_eq_true, hk]; exact fun h => c0 h.1
   rw [hf, if_pos (by simp)]
   exact Ev.neg c0 (Ev.now _)
end
def RV (a0 a3 : Int) (l6 : List S115) (n10 : Nat) (Is : List PI) : Int :=
 if (n10 : Int) ≠ a0 ∨ (l6.length : Int) ≠ a3 / 2 ∨ Is.any (fun I => !I.ok) = true then 25
 else if (refT l6).any tb = true then 11 else if Is.any (fun I => I.xs.any blob_great.p) = true then 11 else 0
theorem refT_len : ∀ l : List S115, (refT l).length = 2 * l.length
 | [] => rfl
 | x :: l => by
  have h := refT_len l
  unfold refT at h ⊢
  rw [fmC, lnA, h]
  simp only [List.length_cons, List.length_nil]
  omega
theorem cfg_even {c0 c1 c2 c3 c4 c5 : Int} (h : credenzaref18_RightConfig.f c0 c1 c2 c3 c4 c5 = some true) : c3 % 2 = 0 := by
 obtain ⟨b0, b1, b2, b3, b4, b5, b6, b7, b8, b9, b10, b11⟩ := cfg_t h
 unfold credenzaref18_RightConfig.f at h
 rw [if_neg (by omega), if_neg (by omega), if_neg (by omega), if_neg (by omega), if_neg (by omega), if_neg (by omega), if_neg (by omega)] at h
 by_cases g7 : Int.tmod c1 c2 = 0
 case neg => rw [if_neg g7] at h; cases h
 rw [if_pos g7, if_pos b6, if_pos b7] at h
 by_cases g10 : Int.tmod c3 2 = 0
 ·
  rwa [tm_nonneg (by omega)] at g10
 ·
  rw [if_neg g10] at h; cases h
theorem cfg_w {c0 c1 c2 c3 c4 c5 : Int} (h : credenzaref18_RightConfig.f c0 c1 c2 c3 c4 c5 = some true) : (2 ≤ c1 * c3 ∧ c1 * c3 ≤ 64) ∧ (2 ≤ c2 * c3 ∧ c2 * c3 ≤ 64) ∧ wrap64 (c1 * c3) = c1 * c3 ∧ wrap64 (c2 * c3) = c2 * c3 := by
 obtain ⟨b0, b1, b2, b3, b4, b5, b6, b7, b8, b9, b10, b11⟩ := cfg_t h
 have m1 : 2 ≤ c1 * c3 := by have := Int.mul_le_mul b2 b6 (by decide) (by omega); omega
 have m2 : c1 * c3 ≤ 64 := by have := Int.mul_le_mul b3 b7 (by omega) (by decide); omega
 have m3 : 2 ≤ c2 * c3 := by have := Int.mul_le_mul b4 b6 (by decide) (by omega); omega
 have m4 : c2 * c3 ≤ 64 := by have := Int.mul_le_mul (show c2 ≤ 4 by omega) b7 (by omega) (by decide); omega
 exact ⟨⟨m1, m2⟩, ⟨m3, m4⟩, w64 (by omega) (by omega), w64 (by omega) (by omega)⟩
def Inf (a1 a2 a3 a4 a5 a7 a8 : Int) (l9 : List Int) (l10 : List S120) (l11 : List Int) (a12 a13 : Int) (l14 : List Int) : List PI := infos a5 (wrap64 (a1 * a3)) (wrap64 (a2 * a3)) a4 a7 a8 l9 l10 l11 a12 a13 l14
theorem rRight {a0 a1 a2 a3 a4 a5 : Int} (h : credenzaref18_RightConfig.f a0 a1 a2 a3 a4 a5 = some true) (l6 : List S115) (a7 a8 : Int) (l9 : List Int) (l10 : List S120) (l11 : List Int) (a12 a13 : Int) (l14 : List Int) (hn6 : l6.length < 1000000) (hn10 : l10.length < 100000) (hx : ∀ I ∈ Inf a1 a2 a3 a4 a5 a7 a8 l9 l10 l11 a12 a13 l14, I.xs.length < 1000000000000000000) :
  Ev (fun k => credenzaref18_Right.f k a0 a1 a2 a3 a4 a5 (l10.length : Int) (refT l6) (refP a7 a8 l9 l10 l11 a12 a13 l14)) (RV a0 a3 l6 l10.length (Inf a1 a2 a3 a4 a5 a7 a8 l9 l10 l11 a12 a13 l14)) := by
 obtain ⟨b0, b1, b2, b3, b4, b5, b6, b7, b8, b9, b10, b11⟩ := cfg_t h
 obtain ⟨⟨m1, m2⟩, ⟨m3, m4⟩, e1, e2⟩ := cfg_w h
 have ev := cfg_even h
 have hc : ((a0.toNat : Nat) : Int) = a0 := Int.toNat_of_nonneg (by omega)
 have hsz := Sz_l0 (w := wrap64 (a1 * a3)) (a1 := a1) (a2 := a2) (a3 := a3) (q := a4) (v := a5) (N := a0.toNat) (by omega) (a0.toNat - 0) 0 rfl (by omega)
 rw [hc] at hsz
 unfold credenzaref18_Right.f credenzaref18_Sizes.f
 refine Ev.one ?_ (fun k => by rw [h, oBs, if_pos rfl])
 refine Ev.bind hsz ?_
 unfold RV
 have hI : Inf a1 a2 a3 a4 a5 a7 a8 l9 l10 l11 a12 a13 l14 = infos a5 (wrap64 (a1 * a3)) (wrap64 (a2 * a3)) a4 a7 a8 l9 l10 l11 a12 a13 l14 := rfl
 have hj0 : ∀ S, Ev (fun k => credenzaref18_Right.j0 k S true a0 a1 a2 a3 a4 a5 (l10.length : Int) (refT l6) (refP a7 a8 l9 l10 l11 a12 a13 l14)) 25 := fun S => Ev.step (f := fun _ => some 25) (fun k => by rw [credenzaref18_Right.j0, if_pos rfl]) (Ev.now _)
 by_cases c1 : (l10.length : Int) = a0
 ·
  refine Ev.pos c1 ?_
  by_cases c2 : ((refT l6).length : Int) = a3
  ·
   refine Ev.pos c2 ?_
   have c3 : (l6.length : Int) = a3 / 2 := by rw [refT_len] at c2; omega
   have hna : a0.toNat = l10.length := by omega
   rw [hna, ← infos_toS a5 (wrap64 (a1 * a3)) (wrap64 (a2 * a3)) a4 a7 a8 l9 l10 l11 a12 a13 l14, ← refP_infos a5 (wrap64 (a1 * a3)) (wrap64 (a2 * a3)) a4 a7 a8 l9 l10 l11 a12 a13 l14, ← hI]
   have hl : (((Inf a1 a2 a3 a4 a5 a7 a8 l9 l10 l11 a12 a13 l14).map toR).length : Int) = (((Inf a1 a2 a3 a4 a5 a7 a8 l9 l10 l11 a12 a13 l14).map toS).length : Int) := by rw [lnM, lnM]
   have hlI : (Inf a1 a2 a3 a4 a5 a7 a8 l9 l10 l11 a12 a13 l14).length = 9 * l10.length + 3 := by
    have h1 := congrArg List.length (infos_toS a5 (wrap64 (a1 * a3)) (wrap64 (a2 * a3)) a4 a7 a8 l9 l10 l11 a12 a13 l14)
    rw [lnM] at h1
    rw [hI, h1]
    simp only [lnA, List.length_cons, List.length_nil, bS_len]
   refine Ev.step (fun k => by rw [credenzaref18_Right.j0, hl, bne_self_eq_false, if_neg (by decide)]) ?_
   refine Ev.eq (RR_l0 a0 a1 a2 a3 a4 a5 _ (refT l6) _ (by omega) hx (infos_shape (by omega) (by omega) (by omega) (by omega) (w64 (by omega) (by omega)) _ _ _ _ _ _ _ _) (by rw [refT_len]; omega) _ 0 rfl (Nat.zero_le _)) ?_
   rw [List.drop_zero]
   by_cases c4 : (Inf a1 a2 a3 a4 a5 a7 a8 l9 l10 l11 a12 a13 l14).any (fun I => !I.ok) = true
   ·
    rw [if_pos c4, if_pos (.inr (.inr c4))]
   ·
    have hno : ¬ ((l10.length : Int) ≠ a0 ∨ (l6.length : Int) ≠ a3 / 2 ∨ (Inf a1 a2 a3 a4 a5 a7 a8 l9 l10 l11 a12 a13 l14).any (fun I => !I.ok) = true) := fun h => h.elim (fun h => h c1) (fun h => h.elim (fun h => h c3) (fun h => c4 h))
    rw [if_neg c4, if_neg hno]
  ·
   rw [if_pos (.inr (.inl (by rw [refT_len] at c2; omega)))]
   exact Ev.neg c2 (hj0 _)
 ·
  rw [if_pos (.inl c1)]
  exact Ev.neg c1 (hj0 _)
def tr (t : S115) : Bool := !(tb t.f0) && !(tb t.f1)
theorem right_tr (t : S115) : rope_right.f t.f0 t.f1 = some (tr t) := by
 unfold rope_right.f tr tb
 by_cases c1 : t.f0 ≥ -65536
 ·
  rw [if_pos c1]
  by_cases c2 : t.f0 ≤ 65536
  ·
   rw [if_pos c2]
   by_cases c3 : t.f1 ≥ -65536
   ·
    rw [if_pos c3]
    simp [show ¬ t.f0 < -65536 by omega, show ¬ t.f0 > 65536 by omega, show ¬ t.f1 < -65536 by omega]
    exact Bool.eq_iff_iff.mpr (by simp)
   ·
    rw [if_neg c3]
    simp [show t.f1 < -65536 by omega]
  ·
   rw [if_neg c2]
   simp [show t.f0 > 65536 by omega]
 ·
  rw [if_neg c1]
  simp [show t.f0 < -65536 by omega]
theorem allR_l (l : List S115) (hl : l.length < 1000000) : ∀ d i, l.length - i = d → i ≤ l.length → Ev (fun k => rope_allRight.l0 k l (l.length : Int) (i : Int)) ((l.drop i).all tr) := by
 intro d
 induction d with
 | zero =>
  intro i h1 h2
  rw [List.drop_eq_nil_of_le (by omega), List.all_nil]
  exact Ev.step (f := fun _ => some true) (fun k => by rw [rope_allRight.l0, if_neg (by omega)]) (Ev.now _)
 | succ d ih =>
  intro i h1 h2
  have hi : i < l.length := by omega
  have hrd : rd_T115 l (i : Int) = l[i] := by unfold rd_T115; rw [tnC, gdE, gEg hi]; rfl
  rw [List.drop_eq_getElem_cons hi, List.all_cons]
  refine Ev.step (fun k => by rw [rope_allRight.l0, if_pos (by omega), if_pos (by omega), if_pos (by omega), hrd, right_tr, oBs, wsucc _ (by omega)]) ?_
  cases ht : tr l[i]
  ·
   rw [Bool.false_and]
   exact Ev.neg (by decide) (Ev.now _)
  ·
   rw [Bool.true_and]
   exact Ev.pos rfl (ih (i + 1) (by omega) (by omega))
theorem refT_any : ∀ l : List S115, (refT l).any tb = !(l.all tr)
 | [] => rfl
 | x :: l => by
  have h := refT_any l
  unfold refT at h ⊢
  rw [fmC, List.any_append, h, List.all_cons]
  simp only [List.any_cons, List.any_nil, tr]
  cases tb x.f0 <;> cases tb x.f1 <;> simp
theorem pRight {a0 a1 a2 a3 a4 a5 : Int} (h : credenzaref18_RightConfig.f a0 a1 a2 a3 a4 a5 = some true) (l6 : List S115) (a7 a8 : Int) (l9 : List Int) (l10 : List S120) (l11 : List Int) (a12 a13 : Int) (l14 : List Int) (hn10 : l10.length < 100000) :
  Ev (fun k => blob_Right.f k a0 a1 a2 a3 a4 a5 l6 a7 a8 l9 l10 l11 a12 a13 l14) (RV a0 a3 l6 l10.length (Inf a1 a2 a3 a4 a5 a7 a8 l9 l10 l11 a12 a13 l14)) := by
 obtain ⟨b0, b1, b2, b3, b4, b5, b6, b7, b8, b9, b10, b11⟩ := cfg_t h
 have e3 : wrap64 (Int.tdiv a3 2) = a3 / 2 := by rw [td_nonneg (by omega)]; exact w64 (by omega) (by omega)
 unfold blob_Right.f
 refine Ev.one ?_ (fun k => by rw [cfg_eq, h, oBs, if_pos rfl, if_pos (by omega), e3])
 unfold blob_Right.rest RV
 rw [show infos a5 (wrap64 (a1 * a3)) (wrap64 (a2 * a3)) a4 a7 a8 l9 l10 l11 a12 a13 l14 = Inf a1 a2 a3 a4 a5 a7 a8 l9 l10 l11 a12 a13 l14 from rfl]
 by_cases c1 : (l10.length : Int) = a0
 case neg => rw [if_pos (.inl c1)]; exact Ev.pos (bne_iff_ne.mpr c1) (Ev.now _)
 refine Ev.neg (by simp [c1]) ?_
 by_cases c2 : (l6.length : Int) = a3 / 2
 case neg => rw [if_pos (.inr (.inl c2))]; exact Ev.pos (bne_iff_ne.mpr c2) (Ev.now _)
 refine Ev.neg (by simp [c2]) ?_
 by_cases c3 : (Inf a1 a2 a3 a4 a5 a7 a8 l9 l10 l11 a12 a13 l14).any (fun I => !I.ok) = true
 case pos => rw [if_pos (.inr (.inr c3))]; exact Ev.pos c3 (Ev.now _)
 refine Ev.neg c3 ?_
 rw [if_neg (fun h => h.elim (fun h => h c1) (fun h => h.elim (fun h => h c2) (fun h => c3 h)))]
 by_cases c4 : (Inf a1 a2 a3 a4 a5 a7 a8 l9 l10 l11 a12 a13 l14).any (fun I => I.xs.any blob_great.p) = true
 case pos => rw [if_pos c4, ite_self]; exact Ev.pos c4 (Ev.now _)
 refine Ev.neg c4 ?_
 rw [if_neg c4]
 unfold rope_New.e
 refine Ev.neg (by omega) (Ev.bind (Ev.eq (allR_l l6 (by omega) _ 0 rfl (Nat.zero_le _)) (by rw [List.drop_zero])) ?_)
 rw [refT_any]
 cases l6.all tr
 ·
  exact Ev.neg (by decide) (Ev.now _)
 ·
  exact Ev.pos rfl (Ev.now _)
def I32 (x : Int) : Prop := -2147483648 ≤ x ∧ x ≤ 2147483647
def wd (x : Int) : List Nat := be 4 (x + 4294967296).toNat
def wds (l : List Int) : List Nat := l.flatMap wd
theorem be4 (v : Nat) : be 4 v = [v / 16777216 % 256, v / 65536 % 256, v / 256 % 256, v % 256] := by
 rw [be_head, be_head, be_head, be_head]
 simp [be]
theorem up_wd {x : Int} (h : I32 x) : up (wd x) = wordOf x := by
 obtain ⟨h1, h2⟩ := h
 have hv : (((x + 4294967296).toNat : Nat) : Int) = x + 4294967296 := Int.toNat_of_nonneg (by omega)
 unfold wd wordOf
 rw [be4]
 generalize (x + 4294967296).toNat = v at hv
 simp only [up, List.map_cons, List.map_nil, List.cons.injEq, and_true]
 refine ⟨?_, ?_, ?_, ?_⟩ <;> omega
theorem wd_bys (x : Int) : Bys (wd x) := be_bys _ _
theorem wd_len (x : Int) : (wd x).length = 4 := be_length _ _
theorem wds_bys : ∀ l, Bys (wds l)
 | [] => fun x hx => by cases hx
 | x :: l => by
  unfold wds
  rw [fmC]
  exact (wd_bys x).app (wds_bys l)
theorem wds_len : ∀ l, (wds l).length = 4 * l.length
 | [] => rfl
 | x :: l => by
  have h := wds_len l
  unfold wds at h ⊢
  rw [fmC, lnA, wd_len, h, List.length_cons]
  omega
theorem wds_app (a b : List Int) : wds (a ++ b) = wds a ++ wds b := List.flatMap_append
theorem up_wds : ∀ l : List Int, (∀ x ∈ l, I32 x) → up (wds l) = l.flatMap wordOf
 | [], _ => rfl
 | x :: l, h => by
  have h2 := up_wds l (fun y hy => h y (List.mem_cons_of_mem _ hy))
  unfold wds at h2 ⊢
  rw [fmC, fmC, up_app, h2, up_wd (h x (List.mem_cons_self ..))]
theorem Ev.all {α β : Type} {f : Nat → α → Option β} {g : α → β} : ∀ l : List α, (∀ x ∈ l, Ev (fun k => f k x) (g x)) → ∃ K, ∀ n, K ≤ n → ∀ x ∈ l, f n x = some (g x)
 | [], _ => ⟨0, fun n _ x hx => by cases hx⟩
 | y :: l, h => by
  obtain ⟨K1, h1⟩ := h y (List.mem_cons_self ..)
  obtain ⟨K2, h2⟩ := Ev.all l (fun x hx => h x (List.mem_cons_of_mem _ hx))
  refine ⟨K1 + K2, fun n hn x hx => ?_⟩
  rcases List.mem_cons.1 hx with rfl | hx
  ·
   exact h1 n (by omega)
  ·
   exact h2 n (by omega) x hx
def numsOf (l6 : List S115) (Is : List PI) : List Int := refT l6 ++ Is.flatMap PI.xs
theorem fm_words (Is : List PI) : Is.flatMap pw4 = (Is.flatMap PI.xs).flatMap wordOf := by rw [List.flatMap_assoc]; rfl
theorem fm_turns (l6 : List S115) : l6.flatMap tw4 = (refT l6).flatMap wordOf := by
 unfold refT
 rw [List.flatMap_assoc]
 refine congrArg (fun f => l6.flatMap f) ?_
 funext t
 simp [tw4]
def hd7 (a0 a1 a2 a3 a4 a5 : Int) : List Nat := [87, a0.toNat, a1.toNat, a2.toNat, a3.toNat, a4.toNat, a5.toNat]
section
variable {a0 a1 a2 a3 a4 a5 : Int} (h : credenzaref18_RightConfig.f a0 a1 a2 a3 a4 a5 = some true)
include h
theorem hd7_bys : Bys (hd7 a0 a1 a2 a3 a4 a5) := by
 obtain ⟨b0, b1, b2, b3, b4, b5, b6, b7, b8, b9, b10, b11⟩ := cfg_t h
 intro x hx
 simp only [hd7, List.mem_cons, List.not_mem_nil, or_false] at hx
 rcases hx with rfl | rfl | rfl | rfl | rfl | rfl | rfl <;> omega
theorem hd7_up : up (hd7 a0 a1 a2 a3 a4 a5) = [87, a0 % 256, a1 % 256, a2 % 256, a3 % 256, a4 % 256, a5 % 256] := by
 obtain ⟨b0, b1, b2, b3, b4, b5, b6, b7, b8, b9, b10, b11⟩ := cfg_t h
 simp only [hd7, up, List.map_cons, List.map_nil, List.cons.injEq, and_true]
 refine ⟨rfl, ?_, ?_, ?_, ?_, ?_, ?_⟩ <;> omega
end
def LB (a0 a1 a2 a3 a4 a5 : Int) (l6 : List S115) (Is : List PI) : List Nat := hd7 a0 a1 a2 a3 a4 a5 ++ wds (numsOf l6 Is)
theorem LB_len (a0 a1 a2 a3 a4 a5 : Int) (l6 : List S115) (Is : List PI) : (LB a0 a1 a2 a3 a4 a5 l6 Is).length = 7 + 4 * (numsOf l6 Is).length := by
 unfold LB
 rw [lnA, wds_len]
 rfl
theorem LB_bys {a0 a1 a2 a3 a4 a5 : Int} (h : credenzaref18_RightConfig.f a0 a1 a2 a3 a4 a5 = some true) (l6 : List S115) (Is : List PI) : Bys (LB a0 a1 a2 a3 a4 a5 l6 Is) := (hd7_bys h).app (wds_bys _)
theorem pBytes_eq {a0 a1 a2 a3 a4 a5 : Int} (h : credenzaref18_RightConfig.f a0 a1 a2 a3 a4 a5 = some true) (l6 : List S115) (a7 a8 : Int) (l9 : List Int) (l10 : List S120) (l11 : List Int) (a12 a13 : Int) (l14 : List Int) (hr : ∀ x ∈ numsOf l6 (Inf a1 a2 a3 a4 a5 a7 a8 l9 l10 l11 a12 a13 l14), I32 x) :
  blob_Bytes.bytes a0 a1 a2 a3 a4 a5 l6 a7 a8 l9 l10 l11 a12 a13 l14 = up (LB a0 a1 a2 a3 a4 a5 l6 (Inf a1 a2 a3 a4 a5 a7 a8 l9 l10 l11 a12 a13 l14)) := by
 unfold blob_Bytes.bytes LB
 rw [up_app, up_wds _ hr, hd7_up h, fm_turns, show infos a5 (wrap64 (a1 * a3)) (wrap64 (a2 * a3)) a4 a7 a8 l9 l10 l11 a12 a13 l14 = Inf a1 a2 a3 a4 a5 a7 a8 l9 l10 l11 a12 a13 l14 from rfl, fm_words]
 unfold numsOf
 rw [List.flatMap_append, List.append_assoc]
theorem ok_len {I : PI} (h : I.ok = true) : (I.xs.length : Int) = wrap64 (I.r * I.c) := by
 obtain ⟨tab, xs, r, c⟩ := I
 cases tab with
 | none => simpa [PI.ok] using h
 | some t =>
  simp only [PI.ok] at h
  split at h
  ·
   cases h
  ·
   simpa using h
theorem ok_tab {I : PI} {R C : Int} (h : I.ok = true) (ht : I.tab = some (R, C)) : R = I.r ∧ C = I.c := by
 unfold PI.ok at h
 rw [ht] at h
 simp only at h
 split at h
 ·
  cases h
 ·
  next hc => simpa using hc
theorem RV0 {a0 a3 : Int} {l6 : List S115} {n : Nat} {Is : List PI} (h : RV a0 a3 l6 n Is = 0) : (n : Int) = a0 ∧ (l6.length : Int) = a3 / 2 ∧ ∀ I ∈ Is, I.ok = true := by
 unfold RV at h
 split at h
 ·
  cases h
 ·
  next hc =>
  have hc := not_or.mp hc
  have hc2 := not_or.mp hc.2
  refine ⟨Decidable.not_not.mp hc.1, Decidable.not_not.mp hc2.1, fun I hI => ?_⟩
  have := hc2.2
  simp only [List.any_eq_true, not_exists, not_and] at this
  simpa using this I hI
theorem infos_rc {v w kv q : Int} (hv : 2 ≤ v ∧ v ≤ 64) (hw : 2 ≤ w ∧ w ≤ 64) (hk : 2 ≤ kv ∧ kv ≤ 64) (hq : 1 ≤ q ∧ q ≤ 64) (a7 a8 : Int) (l9 : List Int) (l10 : List S120) (l11 : List Int) (a12 a13 : Int) (l14 : List Int) : ∀ I ∈ infos v w kv q a7 a8 l9 l10 l11 a12 a13 l14, (1 ≤ I.r ∧ I.r ≤ 64) ∧ (1 ≤ I.c ∧ I.c ≤ 64) := by
 intro I hI
 unfold infos layI lay1 lay2 at hI
 simp only [List.mem_append, List.mem_cons, List.mem_flatMap, List.not_mem_nil, or_false] at hI
 rcases hI with (rfl | ⟨x, _, (rfl | rfl | rfl | rfl | rfl) | rfl | rfl | rfl | rfl⟩) | rfl | rfl
 all_goals (simp only; omega)
theorem rc_prod {r c : Int} (hr : 1 ≤ r ∧ r ≤ 64) (hc : 1 ≤ c ∧ c ≤ 64) : 1 ≤ r * c ∧ r * c ≤ 4096 ∧ wrap64 (r * c) = r * c := by
 have m1 : 1 ≤ r * c := by have := Int.mul_le_mul hr.1 hc.1 (by decide) (by omega); omega
 have m2 : r * c ≤ 4096 := by have := Int.mul_le_mul hr.2 hc.2 (by omega) (by decide); omega
 exact ⟨m1, m2, w64 (by omega) (by omega)⟩
theorem fm_len_le {Is : List PI} (h : ∀ I ∈ Is, I.xs.length ≤ 4096) : (Is.flatMap PI.xs).length ≤ 4096 * Is.length := by
 induction Is with
 | nil => exact Nat.zero_le _
 | cons I Is ih =>
  rw [fmC, lnA, List.length_cons]
  have h1 := h I (List.mem_cons_self ..)
  have h2 := ih (fun J hJ => h J (List.mem_cons_of_mem _ hJ))
  omega
theorem Inf_len (a1 a2 a3 a4 a5 a7 a8 : Int) (l9 : List Int) (l10 : List S120) (l11 : List Int) (a12 a13 : Int) (l14 : List Int) : (Inf a1 a2 a3 a4 a5 a7 a8 l9 l10 l11 a12 a13 l14).length = 9 * l10.length + 3 := by
 have h1 := congrArg List.length (infos_toS a5 (wrap64 (a1 * a3)) (wrap64 (a2 * a3)) a4 a7 a8 l9 l10 l11 a12 a13 l14)
 rw [lnM] at h1
 unfold Inf
 rw [h1]
 simp only [lnA, List.length_cons, List.length_nil, bS_len]
section
variable {a0 a1 a2 a3 a4 a5 : Int} (h : credenzaref18_RightConfig.f a0 a1 a2 a3 a4 a5 = some true) {l6 : List S115} {a7 a8 : Int} {l9 : List Int} {l10 : List S120} {l11 : List Int} {a12 a13 : Int} {l14 : List Int}
 (hv : RV a0 a3 l6 l10.length (Inf a1 a2 a3 a4 a5 a7 a8 l9 l10 l11 a12 a13 l14) = 0)
include h hv
theorem nums_small : (numsOf l6 (Inf a1 a2 a3 a4 a5 a7 a8 l9 l10 l11 a12 a13 l14)).length ≤ 160000 := by
 obtain ⟨b0, b1, b2, b3, b4, b5, b6, b7, b8, b9, b10, b11⟩ := cfg_t h
 obtain ⟨⟨m1, m2⟩, ⟨m3, m4⟩, e1, e2⟩ := cfg_w h
 obtain ⟨g1, g2, g3⟩ := RV0 hv
 have hrc := infos_rc (v := a5) (w := wrap64 (a1 * a3)) (kv := wrap64 (a2 * a3)) (q := a4) ⟨b10, b11⟩ (by omega) (by omega) ⟨b8, b9⟩ a7 a8 l9 l10 l11 a12 a13 l14
 have hl := fm_len_le (Is := Inf a1 a2 a3 a4 a5 a7 a8 l9 l10 l11 a12 a13 l14) (fun I hI => by
  have h1 := ok_len (g3 I hI)
  have h2 := hrc I hI
  have h3 := rc_prod h2.1 h2.2
  omega)
 rw [Inf_len] at hl
 unfold numsOf
 rw [lnA, refT_len]
 omega
end
theorem pBytes {a0 a1 a2 a3 a4 a5 : Int} (h : credenzaref18_RightConfig.f a0 a1 a2 a3 a4 a5 = some true) {l6 : List S115} {a7 a8 : Int} {l9 : List Int} {l10 : List S120} {l11 : List Int} {a12 a13 : Int} {l14 : List Int} (hv : RV a0 a3 l6 l10.length (Inf a1 a2 a3 a4 a5 a7 a8 l9 l10 l11 a12 a13 l14) = 0) (hr : ∀ x ∈ numsOf l6 (Inf a1 a2 a3 a4 a5 a7 a8 l9 l10 l11 a12 a13 l14), I32 x) :
  Ev (fun k => blob_Bytes.f k a0 a1 a2 a3 a4 a5 l6 a7 a8 l9 l10 l11 a12 a13 l14) (up (cl (LB a0 a1 a2 a3 a4 a5 l6 (Inf a1 a2 a3 a4 a5 a7 a8 l9 l10 l11 a12 a13 l14))), 0) := by
 have hs := nums_small h hv
 have hn : l10.length ≤ 4 := by have := (RV0 hv).1; have := (cfg_t h).2.1; omega
 have hb := LB_len a0 a1 a2 a3 a4 a5 l6 (Inf a1 a2 a3 a4 a5 a7 a8 l9 l10 l11 a12 a13 l14)
 unfold blob_Bytes.f
 refine Ev.bind (Ev.eq (pRight h l6 a7 a8 l9 l10 l11 a12 a13 l14 (by omega)) hv) ?_
 rw [pBytes_eq h l6 a7 a8 l9 l10 l11 a12 a13 l14 hr]
 refine Ev.pos rfl (Ev.pos ⟨by omega, by rw [up_length]; omega⟩ ?_)
 exact Ev.bind (Close_f _ (LB_bys h _ _) (by omega)) (Ev.now _)
theorem nm_wd {x : Int} (h : I32 x) : wrap32 (((nm 0 (wd x) : Nat) : Int) % 4294967296) = x := by
 obtain ⟨h1, h2⟩ := h
 have hv : (((x + 4294967296).toNat : Nat) : Int) = x + 4294967296 := Int.toNat_of_nonneg (by omega)
 unfold wd
 rw [nm_be]
 generalize (x + 4294967296).toNat = v at hv
 have e : ((v % 256 ^ 4 : Nat) : Int) = (v : Int) % 4294967296 := by rw [show (256 : Nat) ^ 4 = 4294967296 by decide]; omega
 rw [e]
 unfold wrap32
 omega
theorem Signed_f {x : Int} (h : I32 x) (l : List Nat) (hl : Bys l) (hn : l.length < 900000) : Ev (fun k => seal_Reader_Signed.f k (up (wd x ++ l)) false) (x, up l, false) := by
 have hw := wd_len x
 have hlen : (wd x ++ l).length = 4 + l.length := by rw [lnA, hw]
 have h1 := Num_f (wd x ++ l) ((wd_bys x).app hl) false 4 (by omega)
 rw [show wide 4 = 4 from rfl, if_neg (by omega), List.take_left' hw, List.drop_left' hw] at h1
 unfold seal_Reader_Signed.f
 refine Ev.bind h1 ?_
 simp only [nm_wd h]
 exact Ev.now _
theorem rdA_f (xs : List Int) (l : List Nat) (hl : Bys l) (hx : ∀ x ∈ xs, I32 x) (hn : 4 * xs.length + l.length < 900000) : ∀ n, n ≤ xs.length → Ev (fun k => rdA k (up (wds xs ++ l)) false n) (xs.take n, up (wds (xs.drop n) ++ l), false)
 | 0, _ => Ev.now _
 | n + 1, h => by
  have hlt : n < xs.length := by omega
  refine Ev.bind (rdA_f xs l hl hx hn n (by omega)) ?_
  have e : wds (xs.drop n) ++ l = wd xs[n] ++ (wds (xs.drop (n + 1)) ++ l) := by
   rw [List.drop_eq_getElem_cons hlt]
   unfold wds
   rw [fmC, List.append_assoc]
  simp only
  rw [e]
  refine Ev.bind (Signed_f (hx _ (List.getElem_mem hlt)) _ ((wds_bys _).app hl) (by rw [lnA, wds_len, List.length_drop]; omega)) ?_
  rw [List.take_add_one, gEg hlt]
  exact Ev.now _
theorem rdT_f (ts : List S115) (l : List Nat) (hl : Bys l) (hx : ∀ x ∈ refT ts, I32 x) (hn : 8 * ts.length + l.length < 900000) : ∀ n, n ≤ ts.length → Ev (fun k => rdT k (up (wds (refT ts) ++ l)) false n) (ts.take n, up (wds (refT (ts.drop n)) ++ l), false)
 | 0, _ => Ev.now _
 | n + 1, h => by
  have hlt : n < ts.length := by omega
  refine Ev.bind (rdT_f ts l hl hx hn n (by omega)) ?_
  have hm : ∀ z ∈ [ts[n].f0, ts[n].f1], z ∈ refT ts := fun z hz => List.mem_flatMap.2 ⟨ts[n], List.getElem_mem hlt, hz⟩
  have e : wds (refT (ts.drop n)) ++ l = wd ts[n].f0 ++ (wd ts[n].f1 ++ (wds (refT (ts.drop (n + 1))) ++ l)) := by
   rw [List.drop_eq_getElem_cons hlt]
   unfold wds refT
   rw [fmC, List.flatMap_append]
   simp
  have hb := (wds_bys (refT (ts.drop (n + 1)))).app hl
  have hlen : (wds (refT (ts.drop (n + 1))) ++ l).length < 899000 ∨ 899000 ≤ (wds (refT (ts.drop (n + 1))) ++ l).length := Nat.lt_or_ge _ _
  have hle : (wds (refT (ts.drop (n + 1))) ++ l).length + 8 < 900000 := by rw [lnA, wds_len, refT_len, List.length_drop]; omega
  simp only
  rw [e]
  refine Ev.bind (Signed_f (hx _ (hm _ (List.mem_cons_self ..))) _ ((wd_bys _).app hb) (by rw [lnA, wd_len]; omega)) ?_
  refine Ev.bind (Signed_f (hx _ (hm _ (List.mem_cons_of_mem _ (List.mem_cons_self ..)))) _ hb (by omega)) ?_
  rw [List.take_add_one, gEg hlt]
  exact Ev.now _
theorem rdP_f (xss : List (List Int)) (ns : List Nat) (hns : ns = xss.map List.length) (hx : ∀ xs ∈ xss, ∀ x ∈ xs, I32 x) (hn : 4 * xss.flatten.length < 900000) : ∀ n, n ≤ xss.length → Ev (fun k => rdP k (up (wds xss.flatten)) false ns n) (xss.take n, up (wds (xss.drop n).flatten), false)
 | 0, _ => Ev.now _
 | n + 1, h => by
  have hlt : n < xss.length := by omega
  refine Ev.bind (rdP_f xss ns hns hx hn n (by omega)) ?_
  have e : wds (xss.drop n).flatten = wds xss[n] ++ wds (xss.drop (n + 1)).flatten := by rw [List.drop_eq_getElem_cons hlt, List.flatten_cons, wds_app]
  have hd : ns.getD n 0 = xss[n].length := by rw [hns, gdE, List.getElem?_map, gEg hlt]; rfl
  have hsum : xss.flatten.length = (xss.take n).flatten.length + (xss[n].length + (xss.drop (n + 1)).flatten.length) := by
   have h1 := congrArg (fun z => z.flatten.length) (List.take_append_drop n xss)
   rw [List.flatten_append, lnA, List.drop_eq_getElem_cons hlt, List.flatten_cons, lnA] at h1
   exact h1.symm
  have hA := rdA_f xss[n] (wds (xss.drop (n + 1)).flatten) (wds_bys _) (hx _ (List.getElem_mem hlt)) (by rw [wds_len]; omega) xss[n].length (Nat.le_refl _)
  rw [List.take_length, List.drop_length] at hA
  simp only
  rw [e, hd]
  refine Ev.bind hA ?_
  rw [List.take_add_one, gEg hlt]
  exact Ev.now _
def rcOf (I : PI) : Int × Int := (I.r, I.c)
def rc9 (w kv q : Int) : List (Int × Int) := [(1, w), (w, w), (kv, w), (kv, w), (w, w), (1, w), (q, w), (q, w), (w, q)]
def rcN (w kv q : Int) : Nat → List (Int × Int)
 | 0 => []
 | n + 1 => rcN w kv q n ++ rc9 w kv q
theorem rcN_cons (w kv q : Int) : ∀ n, rcN w kv q (n + 1) = rc9 w kv q ++ rcN w kv q n
 | 0 => by simp [rcN]
 | n + 1 => by
  show rcN w kv q (n + 1) ++ _ = _
  conv => lhs; rw [rcN_cons w kv q n]
  rw [List.append_assoc]
  rfl
theorem layP_rc (w kv q : Int) : ∀ n, (layP w kv q n).map (fun p => (p.r, p.c)) = rcN w kv q n
 | 0 => rfl
 | n + 1 => by rw [layP, List.map_append, layP_rc w kv q n]; rfl
theorem layI_rc (w kv q : Int) : ∀ l : List S120, (layI w kv q l).map rcOf = rcN w kv q l.length
 | [] => rfl
 | x :: l => by
  have h := layI_rc w kv q l
  unfold layI at h ⊢
  rw [fmC, List.map_append, h, List.length_cons, rcN_cons]
  rfl
theorem allP_rc (v w kv q a7 a8 : Int) (l9 : List Int) (l10 : List S120) (l11 : List Int) (a12 a13 : Int) (l14 : List Int) : (allP l10.length v w kv q).map (fun p => (p.r, p.c)) = (infos v w kv q a7 a8 l9 l10 l11 a12 a13 l14).map rcOf := by
 unfold allP infos
 simp only [List.map_append, List.map_cons, layP_rc, layI_rc]
 rfl
theorem cnt_len {Is : List PI} {ps : List Pt} (h : ps.map (fun p => (p.r, p.c)) = Is.map rcOf) (ho : ∀ I ∈ Is, (I.xs.length : Int) = I.r * I.c) : ps.map Pt.cnt = (Is.map PI.xs).map List.length := by
 have e1 : ps.map Pt.cnt = (ps.map (fun p => (p.r, p.c))).map (fun z => (z.1 * z.2).toNat) := by rw [List.map_map]; rfl
 rw [e1, h, List.map_map, List.map_map]
 refine List.map_congr_left (fun I hI => ?_)
 have := ho I hI
 show (I.r * I.c).toNat = I.xs.length
 omega
theorem layI_at (w kv q : Int) : ∀ (l : List S120) (j p : Nat) (x : S120), l[j]? = some x → p < 9 → (layI w kv q l)[9 * j + p]? = (lay1 x w kv q ++ lay2 x w kv q)[p]?
 | [], j, p, x, h, _ => by simp at h
 | y :: l, 0, p, x, h, hp => by
  obtain rfl := Option.some.inj h
  unfold layI
  rw [fmC, Nat.mul_zero, Nat.zero_add, List.getElem?_append_left (by simp [lay1, lay2]; omega)]
 | y :: l, j + 1, p, x, h, hp => by
  have h1 := layI_at w kv q l j p x h hp
  unfold layI at h1 ⊢
  rw [fmC, List.getElem?_append_right (by simp [lay1, lay2]; omega), ← h1]
  congr 1
  simp [lay1, lay2]
  omega
theorem layI_len (w kv q : Int) (l : List S120) : (layI w kv q l).length = 9 * l.length := by
 have h := congrArg List.length (layS w kv q l)
 rw [lnM, bS_len] at h
 exact h
section
variable {v w kv q a7 a8 : Int} {l9 : List Int} {l10 : List S120} {l11 : List Int} {a12 a13 : Int} {l14 : List Int}
theorem infos_0 : (infos v w kv q a7 a8 l9 l10 l11 a12 a13 l14)[0]? = some ⟨some (a7, a8), l9, v, w⟩ := rfl
theorem infos_at {j p : Nat} {x : S120} (hx : l10[j]? = some x) (hp : p < 9) : (infos v w kv q a7 a8 l9 l10 l11 a12 a13 l14)[1 + 9 * j + p]? = (lay1 x w kv q ++ lay2 x w kv q)[p]? := by
 have hj : j < l10.length := (List.getElem?_eq_some_iff.1 hx).1
 unfold infos
 rw [show 1 + 9 * j + p = (9 * j + p) + 1 by omega, List.cons_append, List.getElem?_cons_succ, List.getElem?_append_left (by rw [layI_len]; omega)]
 exact layI_at w kv q l10 j p x hx hp
theorem infos_last : (infos v w kv q a7 a8 l9 l10 l11 a12 a13 l14)[9 * l10.length + 1]? = some ⟨none, l11, 1, w⟩ := by
 unfold infos
 rw [List.cons_append, List.getElem?_cons_succ, List.getElem?_append_right (by rw [layI_len]; omega), layI_len, Nat.sub_self]
 rfl
theorem infos_out : (infos v w kv q a7 a8 l9 l10 l11 a12 a13 l14)[9 * l10.length + 2]? = some ⟨some (a12, a13), l14, v, w⟩ := by
 unfold infos
 rw [List.cons_append, List.getElem?_cons_succ, List.getElem?_append_right (by rw [layI_len]; omega), layI_len, show 9 * l10.length + 1 - 9 * l10.length = 1 by omega]
 rfl
theorem xs_at {Is : List PI} {i : Nat} {I : PI} (h : Is[i]? = some I) : (Is.map PI.xs).getD i [] = I.xs := by rw [gdE, List.getElem?_map, h]; rfl
theorem lays_back (ho : ∀ I ∈ infos v w kv q a7 a8 l9 l10 l11 a12 a13 l14, I.ok = true) : (List.range l10.length).map (layOf w kv q ((infos v w kv q a7 a8 l9 l10 l11 a12 a13 l14).map PI.xs)) = l10 := by
 apply List.ext_getElem?
 intro j
 by_cases hj : j < l10.length
 ·
  obtain ⟨x, hx⟩ : ∃ x, l10[j]? = some x := ⟨_, gEg hj⟩
  rw [List.getElem?_map, List.getElem?_range hj, hx, Option.map_some]
  have A : ∀ (p : Nat) (I : PI), p < 9 → (lay1 x w kv q ++ lay2 x w kv q)[p]? = some I → ((infos v w kv q a7 a8 l9 l10 l11 a12 a13 l14).map PI.xs).getD (1 + 9 * j + p) [] = I.xs ∧ I.ok = true := by
   intro p I hp hI
   have h1 := (infos_at (v := v) (w := w) (kv := kv) (q := q) (a7 := a7) (a8 := a8) (l9 := l9) (l11 := l11) (a12 := a12) (a13 := a13) (l14 := l14) hx hp).trans hI
   exact ⟨xs_at h1, ho I (List.mem_of_getElem? h1)⟩
  obtain ⟨f0, ⟨r1, c1, x1⟩, ⟨r2, c2, x2⟩, ⟨r3, c3, x3⟩, ⟨r4, c4, x4⟩, f5, ⟨r6, c6, x6⟩, ⟨r7, c7, x7⟩, ⟨r8, c8, x8⟩⟩ := x
  have g0 := A 0 _ (by decide) rfl
  have g1 := A 1 _ (by decide) rfl
  have g2 := A 2 _ (by decide) rfl
  have g3 := A 3 _ (by decide) rfl
  have g4 := A 4 _ (by decide) rfl
  have g5 := A 5 _ (by decide) rfl
  have g6 := A 6 _ (by decide) rfl
  have g7 := A 7 _ (by decide) rfl
  have g8 := A 8 _ (by decide) rfl
  have t1 := ok_tab g1.2 rfl
  have t2 := ok_tab g2.2 rfl
  have t3 := ok_tab g3.2 rfl
  have t4 := ok_tab g4.2 rfl
  have t6 := ok_tab g6.2 rfl
  have t7 := ok_tab g7.2 rfl
  have t8 := ok_tab g8.2 rfl
  simp only at t1 t2 t3 t4 t6 t7 t8
  unfold layOf
  rw [g0.1, g1.1, g2.1, g3.1, g4.1, g5.1, g6.1, g7.1, g8.1, t1.1, t1.2, t2.1, t2.2, t3.1, t3.2, t4.1, t4.2, t6.1, t6.2, t7.1, t7.2, t8.1, t8.2]
 ·
  rw [List.getElem?_eq_none (by simp; omega), List.getElem?_eq_none (by omega)]
end
theorem bfl_sum : ∀ (l : List Int) (x : Int), (∀ y ∈ l, 0 ≤ y ∧ y ≤ 4096) → 0 ≤ x → x + 4096 * l.length < 1000000000 → bfl x l = x + l.sum ∧ 0 ≤ l.sum ∧ l.sum ≤ 4096 * l.length
 | [], x, _, _, _ => ⟨by simp [bfl], by simp, by simp⟩
 | y :: l, x, h, h0, hb => by
  have hy := h y (List.mem_cons_self ..)
  rw [List.length_cons] at hb
  obtain ⟨h1, h2, h3⟩ := bfl_sum l (x + y) (fun z hz => h z (List.mem_cons_of_mem _ hz)) (by omega) (by omega)
  rw [bfl, w64 (by omega) (by omega), h1, List.sum_cons, List.length_cons]
  omega
theorem fm_sum : ∀ Is : List PI, ((Is.flatMap PI.xs).length : Int) = (Is.map (fun I => (I.xs.length : Int))).sum
 | [] => rfl
 | I :: Is => by rw [fmC, lnA, List.map_cons, List.sum_cons, ← fm_sum Is]; omega
theorem cnt_toS {I : PI} (h : shapeI I) : bcnt (toS I) = wrap64 (I.r * I.c) := by
 obtain ⟨tab, xs, r, c⟩ := I
 cases tab with
 | none =>
  obtain ⟨h1, h2⟩ := h
  simp only at h1 h2
  simp [toS, bcnt, h1, h2]
 | some t =>
  have h1 : r ≠ 0 := h
  simp [toS, bcnt, h1]
section
variable {a0 a1 a2 a3 a4 a5 : Int} (h : credenzaref18_RightConfig.f a0 a1 a2 a3 a4 a5 = some true)
include h
theorem num_val : blob_Config_Numbers.f a0 a1 a2 a3 a4 a5 = some (bfl a3 ((⟨a5, wrap64 (a1 * a3)⟩ :: bS (wrap64 (a1 * a3)) (wrap64 (a2 * a3)) a4 a0.toNat ++ [⟨0, wrap64 (a1 * a3)⟩, ⟨a5, wrap64 (a1 * a3)⟩] : List S110).map bcnt)) := by
 obtain ⟨b0, b1, b2, b3, b4, b5, b6, b7, b8, b9, b10, b11⟩ := cfg_t h
 obtain ⟨⟨m1, m2⟩, ⟨m3, m4⟩, e1, e2⟩ := cfg_w h
 unfold blob_Config_Numbers.f
 rw [cfg_eq, h, oBs, if_pos rfl, if_pos (by omega), if_pos (by omega), nb_fl, all_map (v := a5) (w := wrap64 (a1 * a3)) (kv := wrap64 (a2 * a3)) (q := a4) ⟨b10, b11⟩ (by omega) (by omega) ⟨b8, b9⟩]
variable {l6 : List S115} {a7 a8 : Int} {l9 : List Int} {l10 : List S120} {l11 : List Int} {a12 a13 : Int} {l14 : List Int}
 (hv : RV a0 a3 l6 l10.length (Inf a1 a2 a3 a4 a5 a7 a8 l9 l10 l11 a12 a13 l14) = 0)
include hv
end
theorem size_eq (n : Nat) (h : n ≤ 160000) : wrap64 (wrap64 (7 + wrap64 (4 * (n : Int))) + 4) = ((7 + 4 * n + 4 : Nat) : Int) := by
 have e1 : wrap64 (4 * (n : Int)) = 4 * (n : Int) := w64 (by omega) (by omega)
 have e2 : wrap64 (7 + 4 * (n : Int)) = 7 + 4 * (n : Int) := w64 (by omega) (by omega)
 have e3 : wrap64 (7 + 4 * (n : Int) + 4) = 7 + 4 * (n : Int) + 4 := w64 (by omega) (by omega)
 rw [e1, e2, e3]
 omega
theorem up_rd (l : List Nat) (j : Nat) : rd (up l) (j : Int) = ((l.getD j 0 : Nat) : Int) := rd_up l j
theorem Parse_W : Ev (fun k => blob_Parse.f k ([87] : List Int)) (0, 0, 0, 0, 0, 0, [], 0, 0, [], [], [], 0, 0, [], 16) := by
 unfold blob_Parse.f
 exact Ev.bind (Open_short [87] (by decide)) (Ev.neg (by decide) (Ev.now _))
theorem cfg_0 : blob_Config_Right.f 0 0 0 0 0 0 = some false := by decide
theorem cfg_1 : blob_Config_Right.f 1 1 1 2 1 2 = some true := by decide
theorem Right_0 : Ev (fun k => blob_Right.f k 0 0 0 0 0 0 ([] : List S115) 0 0 ([] : List Int) ([] : List S120) ([] : List Int) 0 0 ([] : List Int)) 11 := by
 unfold blob_Right.f
 rw [cfg_0]
 exact Ev.sb (Ev.neg (by decide) (Ev.now _))
theorem Right_1 : Ev (fun k => blob_Right.f k 1 1 1 2 1 2 ([] : List S115) 0 0 ([] : List Int) ([] : List S120) ([] : List Int) 0 0 ([] : List Int)) 25 := by
 unfold blob_Right.f blob_Right.rest
 rw [cfg_1]
 exact Ev.sb (Ev.pos rfl (Ev.pos (by decide) (Ev.pos (by decide) (Ev.now _))))
theorem T0 : Ev (fun k => rope_Turn_76.f k [] []) true := by
 unfold rope_Turn_76.f
 exact Ev.pos rfl (Ev.step (f := fun _ => some true) (fun k => by rw [rope_Turn_76.l0, if_neg (by decide)]) (Ev.now _))
theorem L0 : Ev (fun k => slices_Equal_int32_int32.f k [] []) true := by
 unfold slices_Equal_int32_int32.f
 exact Ev.pos rfl (Ev.step (f := fun _ => some true) (fun k => by rw [slices_Equal_int32_int32.l0, if_neg (by decide)]) (Ev.now _))
theorem M0 : Ev (fun k => mat_Equal.f k 0 0 [] 0 0 []) true := by
 unfold mat_Equal.f
 exact Ev.pos rfl (Ev.pos rfl (Ev.bind L0 (Ev.now _)))
theorem Eq_0 : Ev (fun k => blob_Equal.f k 0 0 0 0 0 0 ([] : List S115) 0 0 ([] : List Int) ([] : List S120) ([] : List Int) 0 0 ([] : List Int) 0 0 0 0 0 0 ([] : List S115) 0 0 ([] : List Int) ([] : List S120) ([] : List Int) 0 0 ([] : List Int)) true := by
 unfold blob_Equal.f peq.f
 refine Ev.pos (by decide) (Ev.bind T0 (Ev.pos rfl (Ev.pos rfl (Ev.pos (by decide) (Ev.pos rfl ?_)))))
 show Ev (fun k => peq.l k [⟨some (0, 0), [], 0, wrap64 (0 * 0)⟩, ⟨none, [], 1, wrap64 (0 * 0)⟩, ⟨some (0, 0), [], 0, wrap64 (0 * 0)⟩] [⟨some (0, 0), [], 0, wrap64 (0 * 0)⟩, ⟨none, [], 1, wrap64 (0 * 0)⟩, ⟨some (0, 0), [], 0, wrap64 (0 * 0)⟩]) true
 simp only [peq.l, psame.f]
 exact Ev.bind M0 (Ev.pos rfl (Ev.bind L0 (Ev.pos rfl (Ev.bind M0 (Ev.pos rfl (Ev.now _))))))
theorem Eq_1 : Ev (fun k => blob_Equal.f k 0 0 0 0 0 0 ([] : List S115) 0 0 ([] : List Int) ([] : List S120) ([] : List Int) 0 0 ([] : List Int) 1 1 1 2 1 2 ([] : List S115) 0 0 ([] : List Int) ([] : List S120) ([] : List Int) 0 0 ([] : List Int)) false := by
 unfold blob_Equal.f
 exact Ev.neg (by decide) (Ev.now _)
theorem bawake : Ev (fun k => credenzalaw18_awake.f k) true := by
 unfold credenzalaw18_awake.f credenzalaw18_least.f
 refine Ev.bind Parse_W (Ev.sb ?_)
 dsimp only
 have h1 : blob_Config_Right.f 1 1 1 2 1 2 = some true := by decide
 have h2 : blob_Config_Right.f 0 0 0 0 0 0 = some false := by decide
 have h3 : blob_Config_Numbers.f 1 1 1 2 1 2 = some 38 := by decide +kernel
 rw [h1, h2, h3]
 refine Ev.sb (Ev.pos rfl ?_)
 unfold blob_Config_Width.f
 refine Ev.sb (Ev.pos (w64 (by decide) (by decide)) (Ev.sb (Ev.pos rfl (Ev.sb (Ev.neg (by decide) ?_)))))
 exact Ev.bind Right_0 (Ev.pos rfl (Ev.bind Right_1 (Ev.pos rfl (Ev.pos rfl (Ev.bind Eq_0 (Ev.pos rfl (Ev.bind Eq_1 (Ev.now _))))))))
section
variable {a0 a1 a2 a3 a4 a5 : Int} (h : credenzaref18_RightConfig.f a0 a1 a2 a3 a4 a5 = some true)
 {l6 : List S115} {a7 a8 : Int} {l9 : List Int} {l10 : List S120} {l11 : List Int} {a12 a13 : Int} {l14 : List Int}
 (hg : (l10.length : Int) = a0 ∧ (l6.length : Int) = a3 / 2 ∧ ∀ I ∈ Inf a1 a2 a3 a4 a5 a7 a8 l9 l10 l11 a12 a13 l14, I.ok = true)
include h hg
theorem nums_small_g : (numsOf l6 (Inf a1 a2 a3 a4 a5 a7 a8 l9 l10 l11 a12 a13 l14)).length ≤ 160000 := by
 obtain ⟨b0, b1, b2, b3, b4, b5, b6, b7, b8, b9, b10, b11⟩ := cfg_t h
 obtain ⟨⟨m1, m2⟩, ⟨m3, m4⟩, e1, e2⟩ := cfg_w h
 obtain ⟨g1, g2, g3⟩ := id hg
 have hrc := infos_rc (v := a5) (w := wrap64 (a1 * a3)) (kv := wrap64 (a2 * a3)) (q := a4) ⟨b10, b11⟩ (by omega) (by omega) ⟨b8, b9⟩ a7 a8 l9 l10 l11 a12 a13 l14
 have hl := fm_len_le (Is := Inf a1 a2 a3 a4 a5 a7 a8 l9 l10 l11 a12 a13 l14) (fun I hI => by
  have h1 := ok_len (g3 I hI)
  have h2 := hrc I hI
  have h3 := rc_prod h2.1 h2.2
  omega)
 rw [Inf_len] at hl
 unfold numsOf
 rw [lnA, refT_len]
 omega
theorem ok_prod_g : ∀ I ∈ Inf a1 a2 a3 a4 a5 a7 a8 l9 l10 l11 a12 a13 l14, (I.xs.length : Int) = I.r * I.c ∧ I.r * I.c ≤ 4096 := by
 obtain ⟨b0, b1, b2, b3, b4, b5, b6, b7, b8, b9, b10, b11⟩ := cfg_t h
 obtain ⟨⟨m1, m2⟩, ⟨m3, m4⟩, e1, e2⟩ := cfg_w h
 intro I hI
 have h1 := ok_len (hg.2.2 I hI)
 have h2 := infos_rc (v := a5) (w := wrap64 (a1 * a3)) (kv := wrap64 (a2 * a3)) (q := a4) ⟨b10, b11⟩ (by omega) (by omega) ⟨b8, b9⟩ a7 a8 l9 l10 l11 a12 a13 l14 I hI
 have h3 := rc_prod h2.1 h2.2
 exact ⟨by rw [h1, h3.2.2], h3.2.1⟩
theorem num_len_g : blob_Config_Numbers.f a0 a1 a2 a3 a4 a5 = some ((numsOf l6 (Inf a1 a2 a3 a4 a5 a7 a8 l9 l10 l11 a12 a13 l14)).length : Int) := by
 obtain ⟨b0, b1, b2, b3, b4, b5, b6, b7, b8, b9, b10, b11⟩ := cfg_t h
 obtain ⟨⟨m1, m2⟩, ⟨m3, m4⟩, e1, e2⟩ := cfg_w h
 obtain ⟨g1, g2, g3⟩ := id hg
 have hp := ok_prod_g h hg
 have ev := cfg_even h
 rw [num_val h, show a0.toNat = l10.length by omega, ← infos_toS a5 (wrap64 (a1 * a3)) (wrap64 (a2 * a3)) a4 a7 a8 l9 l10 l11 a12 a13 l14, show infos a5 (wrap64 (a1 * a3)) (wrap64 (a2 * a3)) a4 a7 a8 l9 l10 l11 a12 a13 l14 = Inf a1 a2 a3 a4 a5 a7 a8 l9 l10 l11 a12 a13 l14 from rfl]
 have hs := infos_shape (v := a5) (w := wrap64 (a1 * a3)) (kv := wrap64 (a2 * a3)) (q := a4) (by omega) (by omega) (by omega) (by omega) (w64 (by omega) (by omega)) a7 a8 l9 l10 l11 a12 a13 l14
 have e : ((Inf a1 a2 a3 a4 a5 a7 a8 l9 l10 l11 a12 a13 l14).map toS).map bcnt = (Inf a1 a2 a3 a4 a5 a7 a8 l9 l10 l11 a12 a13 l14).map (fun I => (I.xs.length : Int)) := by
  rw [List.map_map]
  refine List.map_congr_left (fun I hI => ?_)
  have h1 := ok_len (g3 I hI)
  show bcnt (toS I) = (I.xs.length : Int)
  rw [cnt_toS (hs I hI), h1]
 have hb := bfl_sum ((Inf a1 a2 a3 a4 a5 a7 a8 l9 l10 l11 a12 a13 l14).map (fun I => (I.xs.length : Int))) a3 (fun y hy => by
  obtain ⟨I, hI, rfl⟩ := List.mem_map.1 hy
  have := hp I hI
  omega) (by omega) (by rw [lnM, Inf_len]; omega)
 rw [e, hb.1, ← fm_sum]
 unfold numsOf
 rw [lnA, refT_len]
 congr 1
 omega
end
theorem Parse_any {a0 a1 a2 a3 a4 a5 : Int} (h : credenzaref18_RightConfig.f a0 a1 a2 a3 a4 a5 = some true) {l6 : List S115} {a7 a8 : Int} {l9 : List Int} {l10 : List S120} {l11 : List Int} {a12 a13 : Int} {l14 : List Int}
  (hg : (l10.length : Int) = a0 ∧ (l6.length : Int) = a3 / 2 ∧ ∀ I ∈ Inf a1 a2 a3 a4 a5 a7 a8 l9 l10 l11 a12 a13 l14, I.ok = true) {r : Int} (hv : RV a0 a3 l6 l10.length (Inf a1 a2 a3 a4 a5 a7 a8 l9 l10 l11 a12 a13 l14) = r) (hr : ∀ x ∈ numsOf l6 (Inf a1 a2 a3 a4 a5 a7 a8 l9 l10 l11 a12 a13 l14), I32 x) :
  Ev (fun k => blob_Parse.f k (up (cl (LB a0 a1 a2 a3 a4 a5 l6 (Inf a1 a2 a3 a4 a5 a7 a8 l9 l10 l11 a12 a13 l14))))) (if r = 0 then (a0, a1, a2, a3, a4, a5, l6, a7, a8, l9, l10, l11, a12, a13, l14, 0) else (0, 0, 0, 0, 0, 0, [], 0, 0, [], [], [], 0, 0, [], r)) := by
 obtain ⟨b0, b1, b2, b3, b4, b5, b6, b7, b8, b9, b10, b11⟩ := cfg_t h
 obtain ⟨⟨m1, m2⟩, ⟨m3, m4⟩, e1, e2⟩ := cfg_w h
 obtain ⟨g1, g2, g3⟩ := id hg
 have ev := cfg_even h
 have hs := nums_small_g h hg
 have hp := ok_prod_g h hg
 have hnl := num_len_g h hg
 have hbl := LB_len a0 a1 a2 a3 a4 a5 l6 (Inf a1 a2 a3 a4 a5 a7 a8 l9 l10 l11 a12 a13 l14)
 have hby := LB_bys h l6 (Inf a1 a2 a3 a4 a5 a7 a8 l9 l10 l11 a12 a13 l14)
 obtain ⟨NL, hNL⟩ : ∃ x_, (numsOf l6 (Inf a1 a2 a3 a4 a5 a7 a8 l9 l10 l11 a12 a13 l14)).length = x_ := ⟨_, rfl⟩
 rw [hNL] at hs hbl hnl
 have hrd : ∀ (j : Nat) (x : Int), (hd7 a0 a1 a2 a3 a4 a5)[j]? = some x.toNat → 0 ≤ x → rd (up (LB a0 a1 a2 a3 a4 a5 l6 (Inf a1 a2 a3 a4 a5 a7 a8 l9 l10 l11 a12 a13 l14))) (j : Int) = x := by
  intro j x hj hx
  rw [rd_up, gdE]
  unfold LB
  rw [List.getElem?_append_left (List.getElem?_eq_some_iff.1 hj).1, hj]
  exact Int.toNat_of_nonneg hx
 have r0 := hrd 0 87 rfl (by decide)
 have r1 := hrd 1 a0 rfl (by omega)
 have r2 := hrd 2 a1 rfl (by omega)
 have r3 := hrd 3 a2 rfl (by omega)
 have r4 := hrd 4 a3 rfl (by omega)
 have r5 := hrd 5 a4 rfl (by omega)
 have r6 := hrd 6 a5 rfl (by omega)
 have hdrop : (up (LB a0 a1 a2 a3 a4 a5 l6 (Inf a1 a2 a3 a4 a5 a7 a8 l9 l10 l11 a12 a13 l14))).drop 7 = up (wds (numsOf l6 (Inf a1 a2 a3 a4 a5 a7 a8 l9 l10 l11 a12 a13 l14))) := by
  rw [up_drop]
  unfold LB
  exact congrArg up (List.drop_left' rfl)
 have hT := rdT_f l6 (wds ((Inf a1 a2 a3 a4 a5 a7 a8 l9 l10 l11 a12 a13 l14).flatMap PI.xs)) (wds_bys _) (fun x hx => hr x (List.mem_append.2 (.inl hx))) (by
  unfold numsOf at hNL
  rw [lnA, refT_len] at hNL
  rw [wds_len]
  omega) l6.length (Nat.le_refl _)
 rw [List.take_length, List.drop_length, ← wds_app] at hT
 have hfl : ((Inf a1 a2 a3 a4 a5 a7 a8 l9 l10 l11 a12 a13 l14).map PI.xs).flatten = (Inf a1 a2 a3 a4 a5 a7 a8 l9 l10 l11 a12 a13 l14).flatMap PI.xs := rfl
 have hcnt := cnt_len (allP_rc a5 (wrap64 (a1 * a3)) (wrap64 (a2 * a3)) a4 a7 a8 l9 l10 l11 a12 a13 l14) (fun I hI => (hp I hI).1)
 have hPn : ((Inf a1 a2 a3 a4 a5 a7 a8 l9 l10 l11 a12 a13 l14).map PI.xs).length = 9 * l10.length + 3 := by rw [lnM, Inf_len]
 have hP := rdP_f ((Inf a1 a2 a3 a4 a5 a7 a8 l9 l10 l11 a12 a13 l14).map PI.xs) ((allP l10.length a5 (wrap64 (a1 * a3)) (wrap64 (a2 * a3)) a4).map Pt.cnt) hcnt (fun xs hxs x hx => by
  obtain ⟨I, hI, rfl⟩ := List.mem_map.1 hxs
  exact hr x (List.mem_append.2 (.inr (List.mem_flatMap.2 ⟨I, hI, hx⟩)))) (by
  unfold numsOf at hNL
  rw [lnA, refT_len] at hNL
  rw [hfl]
  omega) (9 * l10.length + 3) (by rw [hPn]; exact Nat.le_refl _)
 rw [List.take_of_length_le (by rw [hPn]; exact Nat.le_refl _), List.drop_eq_nil_of_le (by rw [hPn]; exact Nat.le_refl _), hfl] at hP
 have x0 := xs_at (infos_0 (v := a5) (w := wrap64 (a1 * a3)) (kv := wrap64 (a2 * a3)) (q := a4) (a7 := a7) (a8 := a8) (l9 := l9) (l10 := l10) (l11 := l11) (a12 := a12) (a13 := a13) (l14 := l14))
 have xL := xs_at (infos_last (v := a5) (w := wrap64 (a1 * a3)) (kv := wrap64 (a2 * a3)) (q := a4) (a7 := a7) (a8 := a8) (l9 := l9) (l10 := l10) (l11 := l11) (a12 := a12) (a13 := a13) (l14 := l14))
 have xO := xs_at (infos_out (v := a5) (w := wrap64 (a1 * a3)) (kv := wrap64 (a2 * a3)) (q := a4) (a7 := a7) (a8 := a8) (l9 := l9) (l10 := l10) (l11 := l11) (a12 := a12) (a13 := a13) (l14 := l14))
 have t0 := ok_tab (g3 _ (List.mem_of_getElem? (infos_0 (v := a5) (w := wrap64 (a1 * a3)) (kv := wrap64 (a2 * a3)) (q := a4) (a7 := a7) (a8 := a8) (l9 := l9) (l10 := l10) (l11 := l11) (a12 := a12) (a13 := a13) (l14 := l14)))) rfl
 have tO := ok_tab (g3 _ (List.mem_of_getElem? (infos_out (v := a5) (w := wrap64 (a1 * a3)) (kv := wrap64 (a2 * a3)) (q := a4) (a7 := a7) (a8 := a8) (l9 := l9) (l10 := l10) (l11 := l11) (a12 := a12) (a13 := a13) (l14 := l14)))) rfl
 have hlay := lays_back g3
 simp only at x0 xL xO t0 tO
 have hR := pRight h l6 a7 a8 l9 l10 l11 a12 a13 l14 (by omega)
 rw [hv] at hR
 have hI : infos a5 (wrap64 (a1 * a3)) (wrap64 (a2 * a3)) a4 a7 a8 l9 l10 l11 a12 a13 l14 = Inf a1 a2 a3 a4 a5 a7 a8 l9 l10 l11 a12 a13 l14 := rfl
 rw [hI] at x0 xL xO hlay
 rw [e1, e2] at hlay hcnt hP
 rw [e1] at t0 tO
 have hn4 : (a3 / 2).toNat = l6.length := by omega
 have hn1 : a0.toNat = l10.length := by omega
 have w1 : wrap64 a0 = a0 := w64 (by omega) (by omega)
 have w2 : wrap64 a1 = a1 := w64 (by omega) (by omega)
 have w3 : wrap64 a2 = a2 := w64 (by omega) (by omega)
 have w4_ : wrap64 a3 = a3 := w64 (by omega) (by omega)
 have w5 : wrap64 a4 = a4 := w64 (by omega) (by omega)
 have w6 : wrap64 a5 = a5 := w64 (by omega) (by omega)
 have hsz : wrap64 (wrap64 (7 + wrap64 (4 * (NL : Int))) + 4) = ((up (cl (LB a0 a1 a2 a3 a4 a5 l6 (Inf a1 a2 a3 a4 a5 a7 a8 l9 l10 l11 a12 a13 l14)))).length : Int) := by
  rw [up_length, cl_length, hbl]
  exact size_eq NL hs
 unfold blob_Parse.f
 refine Ev.bind (Open_cl _ hby (by omega)) ?_
 refine Ev.pos rfl (Ev.neg (by rw [up_length]; omega) ?_)
 simp only
 have q0 : rd (up (LB a0 a1 a2 a3 a4 a5 l6 (Inf a1 a2 a3 a4 a5 a7 a8 l9 l10 l11 a12 a13 l14))) 0 = 87 := r0
 have q1 : rd (up (LB a0 a1 a2 a3 a4 a5 l6 (Inf a1 a2 a3 a4 a5 a7 a8 l9 l10 l11 a12 a13 l14))) 1 = a0 := r1
 have q2 : rd (up (LB a0 a1 a2 a3 a4 a5 l6 (Inf a1 a2 a3 a4 a5 a7 a8 l9 l10 l11 a12 a13 l14))) 2 = a1 := r2
 have q3 : rd (up (LB a0 a1 a2 a3 a4 a5 l6 (Inf a1 a2 a3 a4 a5 a7 a8 l9 l10 l11 a12 a13 l14))) 3 = a2 := r3
 have q4 : rd (up (LB a0 a1 a2 a3 a4 a5 l6 (Inf a1 a2 a3 a4 a5 a7 a8 l9 l10 l11 a12 a13 l14))) 4 = a3 := r4
 have q5 : rd (up (LB a0 a1 a2 a3 a4 a5 l6 (Inf a1 a2 a3 a4 a5 a7 a8 l9 l10 l11 a12 a13 l14))) 5 = a4 := r5
 have q6 : rd (up (LB a0 a1 a2 a3 a4 a5 l6 (Inf a1 a2 a3 a4 a5 a7 a8 l9 l10 l11 a12 a13 l14))) 6 = a5 := r6
 rw [q0, q1, q2, q3, q4, q5, q6, w1, w2, w3, w4_, w5, w6, hnl, cfg_eq, h]
 refine Ev.sb (Ev.pos rfl (Ev.sb (Ev.pos rfl (Ev.neg (by rw [hsz]; omega) (Ev.neg (by rw [hsz]; omega) ?_)))))
 unfold blob_Parse.tail
 rw [hdrop, NewReader_f _ (by rw [wds_len]; omega)]
 refine Ev.sb (Ev.pos ⟨⟨b0, b1⟩, ⟨by omega, b7⟩, ⟨by omega, m2⟩, ⟨by omega, m4⟩, ⟨by omega, b9⟩, ⟨by omega, b11⟩⟩ ?_)
 simp only
 rw [hn4, hn1]
 refine Ev.bind hT (Ev.bind hP ?_)
 simp only
 rw [x0, xL, xO, hlay]
 rw [t0.1, t0.2, tO.1, tO.2] at hR
 refine Ev.bind hR ?_
 by_cases hz : r = 0
 ·
  refine Ev.pos hz (Ev.eq (Ev.now _) ?_)
  rw [if_pos hz, t0.1, t0.2, tO.1, tO.2]
 ·
  refine Ev.neg hz (Ev.eq (Ev.now _) ?_)
  rw [if_neg hz]
theorem cut_int {Y : List Int} {m r : Nat} (h : Y.length = m + r) : ∃ x Y', Y = x ++ Y' ∧ x.length = m ∧ Y'.length = r := ⟨Y.take m, Y.drop m, (List.take_append_drop m Y).symm, by rw [List.length_take]; omega, by rw [List.length_drop]; omega⟩
theorem ok_mk {r c : Nat} (hr : 1 ≤ r ∧ r ≤ 64) (hc : 1 ≤ c ∧ c ≤ 64) {xs : List Int} (h : xs.length = r * c) : PI.ok ⟨some ((r : Int), (c : Int)), xs, r, c⟩ = true := by
 have h1 := (rc_prod (r := (r : Int)) (c := (c : Int)) (by omega) (by omega)).2.2
 unfold PI.ok
 simp [h1, h]
theorem ok_mk1 {c : Nat} (hc : 1 ≤ c ∧ c ≤ 64) {xs : List Int} (h : xs.length = c) : PI.ok ⟨none, xs, 1, c⟩ = true := by
 have h1 := (rc_prod (r := 1) (c := (c : Int)) (by omega) (by omega)).2.2
 unfold PI.ok
 simp [h] at h1 ⊢
 exact h1.symm
def perL (w kv q : Nat) : Nat := w + (w * w + (kv * w + (kv * w + (w * w + (w + (q * w + (q * w + w * q)))))))
theorem exL {w kv q : Nat} (hw : 1 ≤ w ∧ w ≤ 64) (hk : 1 ≤ kv ∧ kv ≤ 64) (hq : 1 ≤ q ∧ q ≤ 64) : ∀ (n r : Nat) (Y : List Int), Y.length = n * perL w kv q + r → ∃ (l : List S120) (Y' : List Int), l.length = n ∧ Y = (layI w kv q l).flatMap PI.xs ++ Y' ∧ Y'.length = r ∧ ∀ I ∈ layI w kv q l, I.ok = true
 | 0, r, Y, h => ⟨[], Y, rfl, rfl, by omega, fun I hI => by cases hI⟩
 | n + 1, r, Y, h => by
  have h : Y.length = perL w kv q + (n * perL w kv q + r) := by rw [h, Nat.add_mul, Nat.one_mul]; omega
  rw [show perL w kv q + (n * perL w kv q + r) = w + (w * w + (kv * w + (kv * w + (w * w + (w + (q * w + (q * w + (w * q + (n * perL w kv q + r))))))))) by unfold perL; simp only [Nat.add_assoc]] at h
  obtain ⟨x1, Y, rfl, e1, h⟩ := cut_int h
  obtain ⟨x2, Y, rfl, e2, h⟩ := cut_int h
  obtain ⟨x3, Y, rfl, e3, h⟩ := cut_int h
  obtain ⟨x4, Y, rfl, e4, h⟩ := cut_int h
  obtain ⟨x5, Y, rfl, e5, h⟩ := cut_int h
  obtain ⟨x6, Y, rfl, e6, h⟩ := cut_int h
  obtain ⟨x7, Y, rfl, e7, h⟩ := cut_int h
  obtain ⟨x8, Y, rfl, e8, h⟩ := cut_int h
  obtain ⟨x9, Y, rfl, e9, h⟩ := cut_int h
  obtain ⟨l, Y', hl, rfl, hr, hok⟩ := exL hw hk hq n r Y h
  refine ⟨⟨x1, ⟨w, w, x2⟩, ⟨kv, w, x3⟩, ⟨kv, w, x4⟩, ⟨w, w, x5⟩, x6, ⟨q, w, x7⟩, ⟨q, w, x8⟩, ⟨w, q, x9⟩⟩ :: l, Y', by rw [List.length_cons, hl], ?_, hr, ?_⟩
  ·
   unfold layI
   rw [fmC, List.flatMap_append]
   simp [lay1, lay2]
  ·
   intro I hI
   unfold layI at hI hok
   rw [fmC, List.mem_append] at hI
   rcases hI with hI | hI
   ·
    simp only [lay1, lay2, List.mem_append, List.mem_cons, List.not_mem_nil, or_false] at hI
    rcases hI with (rfl | rfl | rfl | rfl | rfl) | rfl | rfl | rfl | rfl
    ·
     exact ok_mk1 hw e1
    ·
     exact ok_mk hw hw e2
    ·
     exact ok_mk hk hw e3
    ·
     exact ok_mk hk hw e4
    ·
     exact ok_mk hw hw e5
    ·
     exact ok_mk1 hw e6
    ·
     exact ok_mk hq hw e7
    ·
     exact ok_mk hq hw e8
    ·
     exact ok_mk hw hq e9
   ·
    exact hok I hI
theorem exT : ∀ (m : Nat) (Y : List Int), Y.length = 2 * m → ∃ T : List S115, T.length = m ∧ refT T = Y
 | 0, Y, h => ⟨[], rfl, (List.eq_nil_of_length_eq_zero (by omega)).symm⟩
 | m + 1, x :: y :: Y, h => by
  obtain ⟨T, h1, h2⟩ := exT m Y (by simp only [List.length_cons] at h; omega)
  exact ⟨⟨x, y⟩ :: T, by rw [List.length_cons, h1], by rw [← h2]; rfl⟩
 | m + 1, [x], h => by simp only [List.length_cons, List.length_nil] at h; omega
 | m + 1, [], h => by simp only [List.length_nil] at h; omega
def cntN (a0 a1 a2 a3 a4 a5 : Int) : Nat := a3.toNat + (a5.toNat * (a1 * a3).toNat + (a0.toNat * perL (a1 * a3).toNat (a2 * a3).toNat a4.toNat + ((a1 * a3).toNat + a5.toNat * (a1 * a3).toNat)))
theorem exB {a0 a1 a2 a3 a4 a5 : Int} (h : credenzaref18_RightConfig.f a0 a1 a2 a3 a4 a5 = some true) (Y : List Int) (hY : Y.length = cntN a0 a1 a2 a3 a4 a5) : ∃ (l6 : List S115) (l9 : List Int) (l10 : List S120) (l11 l14 : List Int),
  ((l10.length : Int) = a0 ∧ (l6.length : Int) = a3 / 2 ∧ ∀ I ∈ Inf a1 a2 a3 a4 a5 a5 (a1 * a3) l9 l10 l11 a5 (a1 * a3) l14, I.ok = true) ∧ numsOf l6 (Inf a1 a2 a3 a4 a5 a5 (a1 * a3) l9 l10 l11 a5 (a1 * a3) l14) = Y := by
 obtain ⟨b0, b1, b2, b3, b4, b5, b6, b7, b8, b9, b10, b11⟩ := cfg_t h
 obtain ⟨⟨m1, m2⟩, ⟨m3, m4⟩, e1, e2⟩ := cfg_w h
 have ev := cfg_even h
 unfold cntN at hY
 unfold Inf
 rw [e1, e2]
 generalize a1 * a3 = w at m1 m2 hY ⊢
 generalize a2 * a3 = kv at m3 m4 hY ⊢
 obtain ⟨n, rfl⟩ := Int.eq_ofNat_of_zero_le (show 0 ≤ a0 by omega)
 obtain ⟨w, rfl⟩ := Int.eq_ofNat_of_zero_le (show 0 ≤ w by omega)
 obtain ⟨kv, rfl⟩ := Int.eq_ofNat_of_zero_le (show 0 ≤ kv by omega)
 obtain ⟨q, rfl⟩ := Int.eq_ofNat_of_zero_le (show 0 ≤ a4 by omega)
 obtain ⟨v, rfl⟩ := Int.eq_ofNat_of_zero_le (show 0 ≤ a5 by omega)
 simp only [tnC] at hY
 obtain ⟨yT, Y, rfl, hT, hY⟩ := cut_int hY
 obtain ⟨y9, Y, rfl, h9, hY⟩ := cut_int hY
 obtain ⟨l10, Y, h10, rfl, hY, hok⟩ := exL (w := w) (kv := kv) (q := q) (by omega) (by omega) (by omega) n _ Y hY
 obtain ⟨y11, y14, rfl, h11, h14⟩ := cut_int hY
 obtain ⟨T, t1, rfl⟩ := exT (a3 / 2).toNat yT (by omega)
 refine ⟨T, y9, l10, y11, y14, ⟨by rw [h10], by omega, fun I hI => ?_⟩, ?_⟩
 ·
  unfold infos at hI
  simp only [List.mem_append, List.mem_cons, List.not_mem_nil, or_false] at hI
  rcases hI with (rfl | hI) | rfl | rfl
  ·
   exact ok_mk (by omega) (by omega) h9
  ·
   exact hok I hI
  ·
   exact ok_mk1 (by omega) h11
  ·
   exact ok_mk (by omega) (by omega) h14
 ·
  unfold numsOf infos
  simp
theorem num_cnt {a0 a1 a2 a3 a4 a5 : Int} (h : credenzaref18_RightConfig.f a0 a1 a2 a3 a4 a5 = some true) : blob_Config_Numbers.f a0 a1 a2 a3 a4 a5 = some ((cntN a0 a1 a2 a3 a4 a5 : Nat) : Int) ∧ cntN a0 a1 a2 a3 a4 a5 ≤ 160000 := by
 obtain ⟨l6, l9, l10, l11, l14, hg, hY⟩ := exB h (List.replicate (cntN a0 a1 a2 a3 a4 a5) 0) (List.length_replicate ..)
 have h1 := num_len_g h hg
 have h2 := nums_small_g h hg
 rw [hY, List.length_replicate] at h1 h2
 exact ⟨h1, h2⟩
theorem wd_of (a b c d : Nat) (ha : a < 256) (hb : b < 256) (hc : c < 256) (hd : d < 256) : ∃ x, I32 x ∧ wd x = [a, b, c, d] := by
 obtain ⟨v, hv⟩ : ∃ v : Nat, a * 16777216 + b * 65536 + c * 256 + d = v := ⟨_, rfl⟩
 have key : ∀ x : Int, (x + 4294967296).toNat % 4294967296 = v → wd x = [a, b, c, d] := by
  intro x hx
  unfold wd
  rw [be4]
  generalize (x + 4294967296).toNat = u at hx
  simp only [List.cons.injEq, and_true]
  refine ⟨?_, ?_, ?_, ?_⟩ <;> omega
 by_cases h : v < 2147483648
 ·
  exact ⟨v, ⟨by omega, by omega⟩, key _ (by omega)⟩
 ·
  exact ⟨(v : Int) - 4294967296, ⟨by omega, by omega⟩, key _ (by omega)⟩
theorem exN : ∀ (n : Nat) (l : List Nat), Bys l → l.length = 4 * n → ∃ Y : List Int, Y.length = n ∧ wds Y = l ∧ ∀ x ∈ Y, I32 x
 | 0, l, _, h => ⟨[], rfl, (List.eq_nil_of_length_eq_zero (by omega)).symm, fun x hx => by cases hx⟩
 | n + 1, a :: b :: c :: d :: l, hl, h => by
  obtain ⟨Y, h1, h2, h3⟩ := exN n l (fun x hx => hl x (by simp [hx])) (by simp only [List.length_cons] at h; omega)
  obtain ⟨x, x1, x2⟩ := wd_of a b c d (hl a (by simp)) (hl b (by simp)) (hl c (by simp)) (hl d (by simp))
  refine ⟨x :: Y, by rw [List.length_cons, h1], ?_, fun y hy => ?_⟩
  ·
   unfold wds at h2 ⊢
   rw [fmC, h2, x2]
   rfl
  ·
   rcases List.mem_cons.1 hy with rfl | hy
   ·
    exact x1
   ·
    exact h3 y hy
 | n + 1, [a, b, c], _, h => by simp at h; omega
 | n + 1, [a, b], _, h => by simp at h; omega
 | n + 1, [a], _, h => by simp at h; omega
 | n + 1, [], _, h => by simp at h
theorem wds_at : ∀ (Y : List Int) (j : Nat) (h : j < Y.length), ((wds Y).drop (4 * j)).take 4 = wd Y[j]
 | x :: Y, 0, _ => by
  unfold wds
  rw [fmC]
  exact List.take_left' (wd_len x)
 | x :: Y, j + 1, h => by
  have h1 := wds_at Y j (by simpa using h)
  unfold wds at h1 ⊢
  rw [fmC, show 4 * (j + 1) = (wd x).length + 4 * j by rw [wd_len]; omega, List.drop_append, List.drop_eq_nil_of_le (Nat.le_add_right _ _), Nat.add_sub_cancel_left, List.nil_append]
  exact h1
theorem nm_be4 (x : Int) (h : I32 x) : ((nm 0 (wd x) : Nat) : Int) = (x + 4294967296) % 4294967296 := by
 obtain ⟨h1, h2⟩ := h
 have hv : (((x + 4294967296).toNat : Nat) : Int) = x + 4294967296 := Int.toNat_of_nonneg (by omega)
 unfold wd
 rw [nm_be]
 have e : (256 : Nat) ^ 4 = 4294967296 := by decide
 rw [e]
 omega
theorem rSigned_f {x : Int} (h : I32 x) : Ev (fun k => credenzaref06_Signed.f k (B (wd x))) x := by
 have h1 := rNumber_f (wd x) (wd_bys x) (by rw [wd_len]; decide)
 have h2 := nm_be4 x h
 obtain ⟨g1, g2⟩ := h
 unfold credenzaref06_Signed.f
 refine Ev.bind h1 ?_
 rw [h2]
 have e1 : wrap64 ((x + 4294967296) % 4294967296) = (x + 4294967296) % 4294967296 := w64 (by omega) (by omega)
 simp only [e1]
 have e2 : wrap64 ((x + 4294967296) % 4294967296 - 4294967296) = (x + 4294967296) % 4294967296 - 4294967296 := w64 (by omega) (by omega)
 by_cases hx : 0 ≤ x
 ·
  refine Ev.neg (by omega) (Ev.eq (Ev.now _) ?_)
  unfold wrap32
  omega
 ·
  refine Ev.pos (by omega) (Ev.eq (Ev.now _) ?_)
  rw [e2]
  unfold wrap32
  omega
theorem parts_at : ∀ (Is : List PI) (i : Nat) (h : i < Is.length) (l : List Int), (((Is.flatMap PI.xs) ++ l).drop (((Is.take i).map (fun I => I.xs.length)).sum)).take Is[i].xs.length = Is[i].xs
 | I :: Is, 0, _, l => by
  rw [fmC, List.append_assoc]
  exact List.take_left' rfl
 | I :: Is, i + 1, h, l => by
  have h1 := parts_at Is i (by simpa using h) l
  rw [fmC, List.append_assoc, List.take_succ_cons, List.map_cons, List.sum_cons, List.drop_append, List.drop_eq_nil_of_le (Nat.le_add_right _ _), Nat.add_sub_cancel_left, List.nil_append]
  exact h1
def ZI (Is : List PI) : List (S110 × Nat) := Is.map fun I => (toS I, I.xs.length)
theorem ZI_take (Is : List PI) (i : Nat) : ((ZI Is).take i).map (·.2) = (Is.take i).map (fun I => I.xs.length) := by
 unfold ZI
 rw [← List.map_take, List.map_map]
 rfl
theorem ZI_at (Is : List PI) (i : Nat) (h : i < Is.length) : (ZI Is).getD i (⟨0, 0⟩, 0) = (toS Is[i], Is[i].xs.length) := by
 unfold ZI
 rw [gdE, List.getElem?_map, gEg h]
 rfl
theorem toR_toS {I : PI} (hs : shapeI I) (ho : I.ok = true) : (⟨(toS I).f0, if (toS I).f0 = 0 then 0 else (toS I).f1, I.xs⟩ : S111) = toR I := by
 obtain ⟨tab, xs, r, c⟩ := I
 cases tab with
 | none => simp [toS, toR]
 | some t =>
  obtain ⟨R, C⟩ := t
  have h1 : r ≠ 0 := hs
  have h2 := ok_tab ho rfl
  simp only at h2
  simp [toS, toR, h1, h2.1, h2.2]
theorem pAll_eq {Is : List PI} (hs : ∀ I ∈ Is, shapeI I) (ho : ∀ I ∈ Is, I.ok = true) (T : List Int) : pAll (ZI Is) (T ++ Is.flatMap PI.xs) T.length = Is.map toR := by
 unfold pAll
 apply List.ext_getElem
 ·
  simp [ZI]
 ·
  intro i h1 h2
  have hi : i < Is.length := by simpa using h2
  rw [List.getElem_map, List.getElem_range, List.getElem_map]
  unfold pAt offs
  rw [ZI_at Is i hi, ZI_take, List.drop_append, List.drop_eq_nil_of_le (by omega), Nat.add_sub_cancel_left, List.nil_append]
  have h3 := parts_at Is i hi []
  rw [List.append_nil] at h3
  rw [h3]
  exact toR_toS (hs _ (List.getElem_mem hi)) (ho _ (List.getElem_mem hi))
theorem flat_sum (Is : List PI) : (Is.flatMap PI.xs).length = (Is.map (fun I => I.xs.length)).sum := List.length_flatMap ..
theorem mulK {P : Nat → Prop} (hm : ∀ k, P k → P (k + 1)) {k n : Nat} (h : P k) (hn : k ≤ n) : P n := by
 induction hn with
 | refl => exact h
 | step _ ih => exact hm _ ih
theorem num_tot (a0 a1 a2 a3 a4 a5 : Int) : ∃ n, blob_Config_Numbers.f a0 a1 a2 a3 a4 a5 = some n := by
 obtain ⟨b, hb⟩ := cfg_tot a0 a1 a2 a3 a4 a5
 cases b with
 | true => exact ⟨_, (num_cnt hb).1⟩
 | false => exact ⟨0, by unfold blob_Config_Numbers.f; rw [cfg_eq, hb]; rfl⟩
def cb (p : List Nat) (j : Nat) : Int := ((p.getD j 0 : Nat) : Int)
theorem cb_lt {p : List Nat} (hp : Bys p) (j : Nat) : 0 ≤ cb p j ∧ cb p j < 256 := by
 have := hp.getD j
 unfold cb
 omega
theorem cb_w {p : List Nat} (hp : Bys p) (j : Nat) : wrap64 (cb p j) = cb p j := by
 have := cb_lt hp j
 exact w64 (by omega) (by omega)
theorem cb_rd (p : List Nat) (j : Nat) : rd (up p) (j : Int) = cb p j := up_rd p j
theorem cb_bt {p : List Nat} (hp : Bys p) (h7 : 7 ≤ p.length) (j : Nat) (hj : j < 7) : bt (B p) (j : Int) = cb p j := bt_B hp j (by omega)
section
variable {b p : List Nat} (hp : Bys p) (hn : p.length ≤ 100000)
include hp hn
theorem pP_any {N : Nat} (hN : cntN (cb p 1) (cb p 2) (cb p 3) (cb p 4) (cb p 5) (cb p 6) = N) {x : Int × Int × Int × Int × Int × Int × List S115 × Int × Int × List Int × List S120 × List Int × Int × Int × List Int × Int}
  (h16 : p.length < 7 → x = (0, 0, 0, 0, 0, 0, [], 0, 0, [], [], [], 0, 0, [], 16)) (h10 : 7 ≤ p.length → cb p 0 ≠ 87 → x = (0, 0, 0, 0, 0, 0, [], 0, 0, [], [], [], 0, 0, [], 10))
  (hc : ∀ q, 7 ≤ p.length → cb p 0 = 87 → credenzaref18_RightConfig.f (cb p 1) (cb p 2) (cb p 3) (cb p 4) (cb p 5) (cb p 6) = some q → (q = false → x = (0, 0, 0, 0, 0, 0, [], 0, 0, [], [], [], 0, 0, [], 11)) ∧
   (q = true → (p.length < 7 + 4 * N ∧ x = (0, 0, 0, 0, 0, 0, [], 0, 0, [], [], [], 0, 0, [], 16)) ∨ (7 + 4 * N < p.length ∧ x = (0, 0, 0, 0, 0, 0, [], 0, 0, [], [], [], 0, 0, [], 17)) ∨ Ev (fun k => blob_Parse.f k (up (cl p))) x)) :
  Ev (fun k => blob_Parse.f k (up (cl p))) x := by
 by_cases h7 : p.length < 7
 ·
  rw [h16 h7]
  unfold blob_Parse.f
  exact Ev.bind (Open_cl _ hp (by omega)) (Ev.pos rfl (Ev.pos (by rw [up_length]; exact h7) (Ev.now _)))
 have h7' : 7 ≤ p.length := by omega
 have q0 : rd (up p) 0 = cb p 0 := cb_rd p 0
 have q1 : rd (up p) 1 = cb p 1 := cb_rd p 1
 have q2 : rd (up p) 2 = cb p 2 := cb_rd p 2
 have q3 : rd (up p) 3 = cb p 3 := cb_rd p 3
 have q4 : rd (up p) 4 = cb p 4 := cb_rd p 4
 have q5 : rd (up p) 5 = cb p 5 := cb_rd p 5
 have q6 : rd (up p) 6 = cb p 6 := cb_rd p 6
 have start : ∀ {y : Int × Int × Int × Int × Int × Int × List S115 × Int × Int × List Int × List S120 × List Int × Int × Int × List Int × Int} {nb : Int}, blob_Config_Numbers.f (cb p 1) (cb p 2) (cb p 3) (cb p 4) (cb p 5) (cb p 6) = some nb → Ev (fun k => if cb p 0 = 87 then
   ((blob_Config_Right.f (cb p 1) (cb p 2) (cb p 3) (cb p 4) (cb p 5) (cb p 6)).bind fun ok => if ok = true then
   (if ((up (cl p)).length : Int) < wrap64 (wrap64 (7 + wrap64 (4 * nb)) + 4) then some (0, 0, 0, 0, 0, 0, [], 0, 0, [], [], [], 0, 0, [], 16) else if wrap64 (wrap64 (7 + wrap64 (4 * nb)) + 4) < ((up (cl p)).length : Int) then some (0, 0, 0, 0, 0, 0, [], 0, 0, [], [], [], 0, 0, [], 17) else
   blob_Parse.tail k (cb p 1) (cb p 2) (cb p 3) (cb p 4) (cb p 5) (cb p 6) (up p)) else some (0, 0, 0, 0, 0, 0, [], 0, 0, [], [], [], 0, 0, [], 11)) else some (0, 0, 0, 0, 0, 0, [], 0, 0, [], [], [], 0, 0, [], 10)) y → Ev (fun k => blob_Parse.f k (up (cl p))) y := by
  intro y nb hnb hy
  unfold blob_Parse.f
  refine Ev.bind (Open_cl _ hp (by omega)) (Ev.pos rfl (Ev.neg (by rw [up_length]; exact h7) ?_))
  dsimp only
  rw [q0, q1, q2, q3, q4, q5, q6, cb_w hp, cb_w hp, cb_w hp, cb_w hp, cb_w hp, cb_w hp, hnb]
  exact Ev.sb hy
 by_cases h87 : cb p 0 = 87
 case neg =>
  rw [h10 h7' h87]
  obtain ⟨nb, hnb⟩ := num_tot (cb p 1) (cb p 2) (cb p 3) (cb p 4) (cb p 5) (cb p 6)
  exact start hnb (Ev.neg h87 (Ev.now _))
 obtain ⟨q, hq⟩ := cfg_tot (cb p 1) (cb p 2) (cb p 3) (cb p 4) (cb p 5) (cb p 6)
 obtain ⟨hf, ht⟩ := hc q h7' h87 hq
 cases q with
 | false =>
  rw [hf rfl]
  obtain ⟨nb, hnb⟩ := num_tot (cb p 1) (cb p 2) (cb p 3) (cb p 4) (cb p 5) (cb p 6)
  refine start hnb (Ev.pos h87 ?_)
  rw [cfg_eq, hq]
  exact Ev.sb (Ev.neg (by decide) (Ev.now _))
 | true =>
  obtain ⟨hnb, hle⟩ := num_cnt hq
  rw [hN] at hnb hle
  have hsz := size_eq N hle
  have hl : ((up (cl p)).length : Int) = (p.length : Int) + 4 := by rw [up_length, cl_length]; omega
  rcases ht rfl with ⟨hlt, e⟩ | ⟨hgt, e⟩ | hev
  ·
   rw [e]
   refine start hnb (Ev.pos h87 ?_)
   rw [cfg_eq, hq, hsz, hl]
   exact Ev.sb (Ev.pos rfl (Ev.pos (by omega) (Ev.now _)))
  ·
   rw [e]
   refine start hnb (Ev.pos h87 ?_)
   rw [cfg_eq, hq, hsz, hl]
   exact Ev.sb (Ev.pos rfl (Ev.neg (by omega) (Ev.pos (by omega) (Ev.now _))))
  ·
   exact hev
theorem rP_any {k N : Nat} {c0 c1 c2 c3 c4 c5 L : Int} {T : List Int} {P : List S111} {er : Int} (ho : credenzaref06_Open.f k (B b) = some (B p, 0))
  (h16 : p.length < 7 → Zr c0 c1 c2 c3 c4 c5 L T P er 16) (h10 : 7 ≤ p.length → cb p 0 ≠ 87 → Zr c0 c1 c2 c3 c4 c5 L T P er 10)
  (hc : 7 ≤ p.length → cb p 0 = 87 → ∃ q : Bool, credenzaref18_RightConfig.f (cb p 1) (cb p 2) (cb p 3) (cb p 4) (cb p 5) (cb p 6) = some q ∧ (q = false → Zr c0 c1 c2 c3 c4 c5 L T P er 11) ∧
   (q = true → credenzaref18_Numbers.f k (cb p 1) (cb p 2) (cb p 3) (cb p 4) (cb p 5) (cb p 6) = some (N : Int) ∧ N ≤ 160000 ∧
    (p.length < 7 + 4 * N → Zr c0 c1 c2 c3 c4 c5 L T P er 16) ∧ (7 + 4 * N < p.length → Zr c0 c1 c2 c3 c4 c5 L T P er 17) ∧ (p.length = 7 + 4 * N → T18 k (B p) c0 c1 c2 c3 c4 c5 L T P er))) :
  P18 k (B b) c0 c1 c2 c3 c4 c5 L T P er := by
 refine ⟨B p, 0, ho, by rw [B_size]; omega, fun h => absurd rfl h, fun _ => ⟨fun h => h16 (by rw [B_size] at h; exact h), fun h => ?_⟩⟩
 rw [B_size] at h
 have q0 : bt (B p) 0 = cb p 0 := cb_bt hp h 0 (by decide)
 have q1 : bt (B p) 1 = cb p 1 := cb_bt hp h 1 (by decide)
 have q2 : bt (B p) 2 = cb p 2 := cb_bt hp h 2 (by decide)
 have q3 : bt (B p) 3 = cb p 3 := cb_bt hp h 3 (by decide)
 have q4 : bt (B p) 4 = cb p 4 := cb_bt hp h 4 (by decide)
 have q5 : bt (B p) 5 = cb p 5 := cb_bt hp h 5 (by decide)
 have q6 : bt (B p) 6 = cb p 6 := cb_bt hp h 6 (by decide)
 rw [q0, q1, q2, q3, q4, q5, q6, cb_w hp, cb_w hp, cb_w hp, cb_w hp, cb_w hp, cb_w hp, B_size]
 refine ⟨h10 h, fun h87 => ?_⟩
 obtain ⟨q, g1, g2, g3⟩ := hc h h87
 refine ⟨q, g1, g2, fun hq => ?_⟩
 obtain ⟨n1, n2, n3, n4, n5⟩ := g3 hq
 have e : wrap64 (7 + wrap64 (4 * (N : Int))) = ((7 + 4 * N : Nat) : Int) := by
  have e1 : wrap64 (4 * (N : Int)) = 4 * (N : Int) := w64 (by omega) (by omega)
  have e2 : wrap64 (7 + 4 * (N : Int)) = 7 + 4 * (N : Int) := w64 (by omega) (by omega)
  rw [e1, e2]
  omega
 refine ⟨_, n1, ?_⟩
 rw [e]
 exact ⟨fun h => n3 (by omega), fun h => n4 (by omega), fun h => n5 (by omega)⟩
end
theorem T18_any {a0 a1 a2 a3 a4 a5 : Int} (h : credenzaref18_RightConfig.f a0 a1 a2 a3 a4 a5 = some true) {l6 : List S115} {a7 a8 : Int} {l9 : List Int} {l10 : List S120} {l11 : List Int} {a12 a13 : Int} {l14 : List Int}
  (hg : (l10.length : Int) = a0 ∧ (l6.length : Int) = a3 / 2 ∧ ∀ I ∈ Inf a1 a2 a3 a4 a5 a7 a8 l9 l10 l11 a12 a13 l14, I.ok = true) (hr : ∀ x ∈ numsOf l6 (Inf a1 a2 a3 a4 a5 a7 a8 l9 l10 l11 a12 a13 l14), I32 x) {c0 c1 c2 c3 c4 c5 L : Int} {T : List Int} {P : List S111} {er : Int}
  (hz : RV a0 a3 l6 l10.length (Inf a1 a2 a3 a4 a5 a7 a8 l9 l10 l11 a12 a13 l14) ≠ 0 → Zr c0 c1 c2 c3 c4 c5 L T P er (RV a0 a3 l6 l10.length (Inf a1 a2 a3 a4 a5 a7 a8 l9 l10 l11 a12 a13 l14)))
  (hy : RV a0 a3 l6 l10.length (Inf a1 a2 a3 a4 a5 a7 a8 l9 l10 l11 a12 a13 l14) = 0 → (c0 = a0 ∧ c1 = a1 ∧ c2 = a2 ∧ c3 = a3 ∧ c4 = a4 ∧ c5 = a5) ∧ L = a0 ∧ T = refT l6 ∧ P = refP a7 a8 l9 l10 l11 a12 a13 l14 ∧ er = 0) :
  ∃ K, ∀ k, K ≤ k → T18 k (B (LB a0 a1 a2 a3 a4 a5 l6 (Inf a1 a2 a3 a4 a5 a7 a8 l9 l10 l11 a12 a13 l14))) c0 c1 c2 c3 c4 c5 L T P er := by
 obtain ⟨b0, b1, b2, b3, b4, b5, b6, b7, b8, b9, b10, b11⟩ := cfg_t h
 obtain ⟨⟨m1, m2⟩, ⟨m3, m4⟩, e1, e2⟩ := cfg_w h
 have ev := cfg_even h
 have hok := ok_prod_g h hg
 have hsm := nums_small_g h hg
 obtain ⟨g1, g2, g3⟩ := id hg
 have hbl := LB_len a0 a1 a2 a3 a4 a5 l6 (Inf a1 a2 a3 a4 a5 a7 a8 l9 l10 l11 a12 a13 l14)
 have hby := LB_bys h l6 (Inf a1 a2 a3 a4 a5 a7 a8 l9 l10 l11 a12 a13 l14)
 have hsh := infos_shape (v := a5) (w := wrap64 (a1 * a3)) (kv := wrap64 (a2 * a3)) (q := a4) (by omega) (by omega) (by omega) (by omega) (w64 (by omega) (by omega)) a7 a8 l9 l10 l11 a12 a13 l14
 have hsz := Sz_l0 (w := wrap64 (a1 * a3)) (a1 := a1) (a2 := a2) (a3 := a3) (q := a4) (v := a5) (N := l10.length) (by omega) (l10.length - 0) 0 rfl (by omega)
 have hIl := Inf_len a1 a2 a3 a4 a5 a7 a8 l9 l10 l11 a12 a13 l14
 have hRR := rRight h l6 a7 a8 l9 l10 l11 a12 a13 l14 (by omega) (by omega) (fun I hI => by have := hok I hI; omega)
 have hPA := pAll_eq (Is := Inf a1 a2 a3 a4 a5 a7 a8 l9 l10 l11 a12 a13 l14) hsh g3 (refT l6)
 have hRP : (Inf a1 a2 a3 a4 a5 a7 a8 l9 l10 l11 a12 a13 l14).map toR = refP a7 a8 l9 l10 l11 a12 a13 l14 := refP_infos ..
 have hTS : (Inf a1 a2 a3 a4 a5 a7 a8 l9 l10 l11 a12 a13 l14).map toS = ⟨a5, wrap64 (a1 * a3)⟩ :: bS (wrap64 (a1 * a3)) (wrap64 (a2 * a3)) a4 l10.length ++ [⟨0, wrap64 (a1 * a3)⟩, ⟨a5, wrap64 (a1 * a3)⟩] := infos_toS ..
 rw [hRP] at hPA
 have hfl := flat_sum (Inf a1 a2 a3 a4 a5 a7 a8 l9 l10 l11 a12 a13 l14)
 have hcb : ∀ (j : Nat) (x : Int), (hd7 a0 a1 a2 a3 a4 a5)[j]? = some x.toNat → 0 ≤ x → x < 256 → bt (B (LB a0 a1 a2 a3 a4 a5 l6 (Inf a1 a2 a3 a4 a5 a7 a8 l9 l10 l11 a12 a13 l14))) (j : Int) = x := by
  intro j x hj hx _
  have hlt := (List.getElem?_eq_some_iff.1 hj).1
  rw [bt_B hby j (by rw [hbl]; have : (hd7 a0 a1 a2 a3 a4 a5).length = 7 := rfl; omega), gdE]
  unfold LB
  rw [List.getElem?_append_left hlt, hj]
  exact Int.toNat_of_nonneg hx
 have r1 : bt (B (LB a0 a1 a2 a3 a4 a5 l6 (Inf a1 a2 a3 a4 a5 a7 a8 l9 l10 l11 a12 a13 l14))) 1 = a0 := hcb 1 a0 rfl (by omega) (by omega)
 have r2 : bt (B (LB a0 a1 a2 a3 a4 a5 l6 (Inf a1 a2 a3 a4 a5 a7 a8 l9 l10 l11 a12 a13 l14))) 2 = a1 := hcb 2 a1 rfl (by omega) (by omega)
 have r3 : bt (B (LB a0 a1 a2 a3 a4 a5 l6 (Inf a1 a2 a3 a4 a5 a7 a8 l9 l10 l11 a12 a13 l14))) 3 = a2 := hcb 3 a2 rfl (by omega) (by omega)
 have r4 : bt (B (LB a0 a1 a2 a3 a4 a5 l6 (Inf a1 a2 a3 a4 a5 a7 a8 l9 l10 l11 a12 a13 l14))) 4 = a3 := hcb 4 a3 rfl (by omega) (by omega)
 have r5 : bt (B (LB a0 a1 a2 a3 a4 a5 l6 (Inf a1 a2 a3 a4 a5 a7 a8 l9 l10 l11 a12 a13 l14))) 5 = a4 := hcb 5 a4 rfl (by omega) (by omega)
 have r6 : bt (B (LB a0 a1 a2 a3 a4 a5 l6 (Inf a1 a2 a3 a4 a5 a7 a8 l9 l10 l11 a12 a13 l14))) 6 = a5 := hcb 6 a5 rfl (by omega) (by omega)
 have hdr : ∀ (j : Nat) (hj : j < (numsOf l6 (Inf a1 a2 a3 a4 a5 a7 a8 l9 l10 l11 a12 a13 l14)).length), ((LB a0 a1 a2 a3 a4 a5 l6 (Inf a1 a2 a3 a4 a5 a7 a8 l9 l10 l11 a12 a13 l14)).drop (7 + 4 * j)).take (7 + 4 * j + 4 - (7 + 4 * j)) = wd (numsOf l6 (Inf a1 a2 a3 a4 a5 a7 a8 l9 l10 l11 a12 a13 l14))[j] := by
  intro j hj
  rw [← wds_at _ j hj]
  unfold LB
  have h7 : (hd7 a0 a1 a2 a3 a4 a5).length = 7 := rfl
  rw [List.drop_append, List.drop_eq_nil_of_le (by omega), h7, Nat.add_sub_cancel_left, Nat.add_sub_cancel_left, List.nil_append]
 obtain ⟨K1, h1⟩ := hsz
 obtain ⟨K2, h2⟩ := hRR
 obtain ⟨K3, h3⟩ := Ev.all (f := fun k x => credenzaref06_Signed.f k (B (wd x))) (g := fun x => x) (numsOf l6 (Inf a1 a2 a3 a4 a5 a7 a8 l9 l10 l11 a12 a13 l14)) (fun x hx => rSigned_f (hr x hx))
 have hY : numsOf l6 (Inf a1 a2 a3 a4 a5 a7 a8 l9 l10 l11 a12 a13 l14) = refT l6 ++ (Inf a1 a2 a3 a4 a5 a7 a8 l9 l10 l11 a12 a13 l14).flatMap PI.xs := rfl
 have hm : (refT l6).length = a3.toNat := by rw [refT_len]; omega
 generalize numsOf l6 (Inf a1 a2 a3 a4 a5 a7 a8 l9 l10 l11 a12 a13 l14) = Y at hY hdr h3 hsm hbl
 generalize LB a0 a1 a2 a3 a4 a5 l6 (Inf a1 a2 a3 a4 a5 a7 a8 l9 l10 l11 a12 a13 l14) = p at hdr hbl hby r1 r2 r3 r4 r5 r6 hcb ⊢
 have hI : infos a5 (wrap64 (a1 * a3)) (wrap64 (a2 * a3)) a4 a7 a8 l9 l10 l11 a12 a13 l14 = Inf a1 a2 a3 a4 a5 a7 a8 l9 l10 l11 a12 a13 l14 := rfl
 rw [hI] at hsh
 clear hI hcb
 have hrc := infos_rc (v := a5) (w := wrap64 (a1 * a3)) (kv := wrap64 (a2 * a3)) (q := a4) ⟨b10, b11⟩ (by omega) (by omega) ⟨b8, b9⟩ a7 a8 l9 l10 l11 a12 a13 l14
 have hI : infos a5 (wrap64 (a1 * a3)) (wrap64 (a2 * a3)) a4 a7 a8 l9 l10 l11 a12 a13 l14 = Inf a1 a2 a3 a4 a5 a7 a8 l9 l10 l11 a12 a13 l14 := rfl
 rw [hI] at hrc
 clear hI
 generalize Inf a1 a2 a3 a4 a5 a7 a8 l9 l10 l11 a12 a13 l14 = Is at *
 refine ⟨K1 + K2 + K3, fun k hk => ?_⟩
 have w1 : wrap64 a0 = a0 := w64 (by omega) (by omega)
 have w2 : wrap64 a1 = a1 := w64 (by omega) (by omega)
 have w3 : wrap64 a2 = a2 := w64 (by omega) (by omega)
 have w4_ : wrap64 a3 = a3 := w64 (by omega) (by omega)
 have w5 : wrap64 a4 = a4 := w64 (by omega) (by omega)
 have w6 : wrap64 a5 = a5 := w64 (by omega) (by omega)
 unfold T18
 rw [r1, r2, r3, r4, r5, r6, w1, w2, w3, w4_, w5, w6, B_size]
 have hlY : Y.length = a3.toNat + (Is.map (fun I => I.xs.length)).sum := by rw [hY, lnA, hm, hfl]
 have htk : Y.take a3.toNat = refT l6 := by rw [hY]; exact List.take_left' hm
 rw [hm, ← hY] at hPA
 refine ⟨Y, ZI Is, a3.toNat, RV a0 a3 l6 l10.length Is, ?_, hbl, fun j hj => ?_, by omega, by unfold ZI; rw [lnM]; omega, fun z hz' => ?_, ?_, ?_, hz, fun he => ?_⟩
 ·
  have h4 := h1 k (by omega)
  rw [g1] at h4
  unfold credenzaref18_Sizes.f ZI
  rw [List.map_map]
  exact h4.trans (congrArg some hTS.symm)
 ·
  rw [B_extract, hdr j hj, gdE, gEg hj]
  exact h3 k (by omega) _ (List.getElem_mem hj)
 ·
  obtain ⟨I, hI, rfl⟩ := List.mem_map.1 hz'
  have h5 := cnt_toS (hsh I hI)
  have h6 := hok I hI
  have h7 := hrc I hI
  have h8 := (rc_prod h7.1 h7.2).2.2
  have h9 : credenzaref18_count.f (toS I).f0 (toS I).f1 = some (bcnt (toS I)) := by unfold credenzaref18_count.f bcnt; split <;> rfl
  rw [h9, h5, h8, h6.1]
 ·
  have h5 := ZI_take Is (ZI Is).length
  unfold offs
  rw [h5, List.take_of_length_le (by unfold ZI; rw [lnM]; exact Nat.le_refl _), hlY]
  exact Nat.le_refl _
 ·
  have h4 := h2 k (by omega)
  rw [g1] at h4
  rw [htk, hPA]
  exact h4
 ·
  obtain ⟨e0, e1, e2, e3, e4⟩ := hy he
  exact ⟨e0, e1, by rw [htk]; exact e2, by rw [hPA]; exact e3, e4⟩
theorem BlobParses : credenzalaw18_BlobParses.Pure := by
 intro l0 _ _ hw
 obtain ⟨b, hb, rfl⟩ := wf_bys hw
 obtain ⟨Ka, ha⟩ := bawake
 have fin : ∀ k, BlobParses_ok k (up b) → ∃ k, credenzalaw18_BlobParses.f k (up b) = some true := fun k h => ⟨k, by unfold credenzalaw18_BlobParses.f; exact if_pos h⟩
 by_cases hn : (up b).length ≤ 30000
 case neg => exact fin Ka ⟨ha Ka (Nat.le_refl _), fun h => absurd h hn⟩
 obtain ⟨K7, h7⟩ := Eq_0
 have bad : ∀ e : Int, e ≠ 0 → Ev (fun k => blob_Parse.f k (up b)) (0, 0, 0, 0, 0, 0, [], 0, 0, [], [], [], 0, 0, [], e) → (∃ K, ∀ k, K ≤ k → P18 k (B b) 0 0 0 0 0 0 0 [] [] e) → ∃ k, credenzalaw18_BlobParses.f k (up b) = some true := by
  intro e he hp hr
  obtain ⟨K1, h1⟩ := hp
  obtain ⟨K2, h2⟩ := hr
  exact fin (Ka + K1 + K2 + K7) ⟨ha _ (by omega), fun _ => ⟨0, 0, 0, 0, 0, 0, [], 0, 0, [], [], [], 0, 0, [], 0, 0, 0, 0, 0, 0, 0, [], [], e, h1 _ (by omega), h2 _ (by omega), fun _ => h7 _ (by omega), fun h => absurd h he⟩⟩
 have hz : ∀ e : Int, Zr 0 0 0 0 0 0 0 [] [] e e := fun e => ⟨rfl, rfl, rfl, rfl, rfl, rfl, rfl, rfl, rfl, rfl⟩
 have hbl := hn
 rw [up_length] at hbl
 have sealed : ∀ e : Int, e ≠ 0 → Ev (fun k => seal_Open.f k (up b)) ([], e) → Ev (fun k => credenzaref06_Open.f k (B b)) (B [], e) → ∃ k, credenzalaw18_BlobParses.f k (up b) = some true := by
  intro e he hp hr
  refine bad e he ?_ ?_
  ·
   unfold blob_Parse.f
   exact Ev.bind hp (Ev.neg he (Ev.now _))
  ·
   obtain ⟨K, h⟩ := hr
   exact ⟨K, fun k hk => ⟨B [], e, h k hk, by rw [B_size]; decide, fun _ => hz e, fun h0 => absurd h0 he⟩⟩
 by_cases h4 : b.length < 4
 ·
  exact sealed 16 (by decide) (Open_short b h4) (rOpen_short b h4)
 have ho := Open_long b hb (by omega) (by omega)
 have hro := rOpen_long b hb (by omega) (by omega)
 by_cases hcl : b = cl (b.take (b.length - 4))
 case neg =>
  rw [if_neg hcl] at ho hro
  exact sealed 22 (by decide) ho hro
 rw [if_pos hcl] at hro
 clear ho sealed
 have hp : Bys (b.take (b.length - 4)) := hb.take _
 have hpl : (b.take (b.length - 4)).length ≤ 100000 := by rw [List.length_take]; omega
 generalize b.take (b.length - 4) = p at hcl hro hp hpl
 obtain ⟨Ko, hro⟩ := hro
 have he1 : ∀ (e : Int) (k : Nat), Zr 0 0 0 0 0 0 0 [] [] e e := fun e _ => hz e
 by_cases h7p : p.length < 7
 ·
  refine bad 16 (by decide) ?_ ⟨Ko, fun k hk => rP_any (N := 0) hp hpl (hro k hk) (fun _ => hz 16) (fun h => by omega) (fun h => by omega)⟩
  rw [hcl]
  exact pP_any hp hpl rfl (fun _ => rfl) (fun h => by omega) (fun _ h => by omega)
 by_cases h87 : cb p 0 = 87
 case neg =>
  refine bad 10 (by decide) ?_ ⟨Ko, fun k hk => rP_any (N := 0) hp hpl (hro k hk) (fun h => by omega) (fun _ _ => hz 10) (fun _ h => absurd h h87)⟩
  rw [hcl]
  exact pP_any hp hpl rfl (fun h => by omega) (fun _ _ => rfl) (fun _ _ h => absurd h h87)
 obtain ⟨q, hq⟩ := cfg_tot (cb p 1) (cb p 2) (cb p 3) (cb p 4) (cb p 5) (cb p 6)
 cases q with
 | false =>
  refine bad 11 (by decide) ?_ ⟨Ko, fun k hk => rP_any (N := 0) hp hpl (hro k hk) (fun h => by omega) (fun _ h => absurd h87 h) (fun _ _ => ⟨false, hq, fun _ => hz 11, fun h => absurd h (by decide)⟩)⟩
  rw [hcl]
  exact pP_any hp hpl rfl (fun h => by omega) (fun _ h => absurd h87 h) (fun q _ _ h => by
   rw [hq] at h
   obtain rfl := Option.some.inj h
   exact ⟨fun _ => rfl, fun h => absurd h (by decide)⟩)
 | true =>
  obtain ⟨hnb, hle⟩ := num_cnt hq
  obtain ⟨n, hn1, Kn, hn2⟩ := num_eq hq
  rw [hnb] at hn1
  obtain rfl := Option.some.inj hn1
  obtain ⟨N, hN⟩ : ∃ N, cntN (cb p 1) (cb p 2) (cb p 3) (cb p 4) (cb p 5) (cb p 6) = N := ⟨_, rfl⟩
  rw [hN] at hle hn2
  by_cases hlt : p.length < 7 + 4 * N
  ·
   refine bad 16 (by decide) ?_ ⟨Ko + Kn, fun k hk => rP_any (N := N) hp hpl (hro k (by omega)) (fun h => by omega) (fun _ h => absurd h87 h) (fun _ _ => ⟨true, hq, fun h => absurd h (by decide), fun _ => ⟨hn2 k (by omega), hle, fun _ => hz 16, fun h => by omega, fun h => by omega⟩⟩)⟩
   rw [hcl]
   exact pP_any hp hpl hN (fun h => by omega) (fun _ h => absurd h87 h) (fun q _ _ h => by
    rw [hq] at h
    obtain rfl := Option.some.inj h
    exact ⟨fun h => absurd h (by decide), fun _ => .inl ⟨hlt, rfl⟩⟩)
  by_cases hgt : 7 + 4 * N < p.length
  ·
   refine bad 17 (by decide) ?_ ⟨Ko + Kn, fun k hk => rP_any (N := N) hp hpl (hro k (by omega)) (fun h => by omega) (fun _ h => absurd h87 h) (fun _ _ => ⟨true, hq, fun h => absurd h (by decide), fun _ => ⟨hn2 k (by omega), hle, fun h => by omega, fun _ => hz 17, fun h => by omega⟩⟩)⟩
   rw [hcl]
   exact pP_any hp hpl hN (fun h => by omega) (fun _ h => absurd h87 h) (fun q _ _ h => by
    rw [hq] at h
    obtain rfl := Option.some.inj h
    exact ⟨fun h => absurd h (by decide), fun _ => .inr (.inl ⟨hgt, rfl⟩)⟩)
  obtain ⟨Y, hY1, hY2, hY3⟩ := exN N (p.drop 7) (fun x hx => hp x (List.mem_of_mem_drop hx)) (by rw [List.length_drop]; omega)
  obtain ⟨l6, l9, l10, l11, l14, hg, hnY⟩ := exB hq Y (hY1.trans hN.symm)
  have hLB : LB (cb p 1) (cb p 2) (cb p 3) (cb p 4) (cb p 5) (cb p 6) l6 (Inf (cb p 2) (cb p 3) (cb p 4) (cb p 5) (cb p 6) (cb p 6) (cb p 2 * cb p 4) l9 l10 l11 (cb p 6) (cb p 2 * cb p 4) l14) = p := by
   unfold LB
   rw [hnY, hY2]
   have h8 : hd7 (cb p 1) (cb p 2) (cb p 3) (cb p 4) (cb p 5) (cb p 6) = p.take 7 := by
    unfold cb at h87
    have h9 : p.getD 0 0 = 87 := by omega
    rcases p with _ | ⟨y0, _ | ⟨y1, _ | ⟨y2, _ | ⟨y3, _ | ⟨y4, _ | ⟨y5, _ | ⟨y6, p⟩⟩⟩⟩⟩⟩⟩ <;> first | (exfalso; simp at h7p; done) | skip
    obtain rfl : y0 = 87 := h9
    rfl
   rw [h8, List.take_append_drop]
  have hr : ∀ x ∈ numsOf l6 (Inf (cb p 2) (cb p 3) (cb p 4) (cb p 5) (cb p 6) (cb p 6) (cb p 2 * cb p 4) l9 l10 l11 (cb p 6) (cb p 2 * cb p 4) l14), I32 x := by rw [hnY]; exact hY3
  obtain ⟨r, hrv⟩ : ∃ r, RV (cb p 1) (cb p 4) l6 l10.length (Inf (cb p 2) (cb p 3) (cb p 4) (cb p 5) (cb p 6) (cb p 6) (cb p 2 * cb p 4) l9 l10 l11 (cb p 6) (cb p 2 * cb p 4) l14) = r := ⟨_, rfl⟩
  have hPa := Parse_any hq hg hrv hr
  rw [hLB] at hPa
  by_cases hr0 : r = 0
  case neg =>
   rw [if_neg hr0] at hPa
   obtain ⟨Kt, hT⟩ := T18_any (c0 := 0) (c1 := 0) (c2 := 0) (c3 := 0) (c4 := 0) (c5 := 0) (L := 0) (T := []) (P := []) (er := r) hq hg hr (fun _ => by rw [hrv]; exact hz r) (fun h => absurd (hrv.symm.trans h) hr0)
   rw [hLB] at hT
   refine bad r hr0 (by rw [hcl]; exact hPa) ⟨Ko + Kn + Kt, fun k hk => rP_any (N := N) hp hpl (hro k (by omega)) (fun h => by omega) (fun _ h => absurd h87 h) (fun _ _ => ⟨true, hq, fun h => absurd h (by decide), fun _ => ⟨hn2 k (by omega), hle, fun h => by omega, fun h => by omega, fun _ => hT k (by omega)⟩⟩)⟩
  subst hr0
  rw [if_pos rfl] at hPa
  obtain ⟨Kp, hPa⟩ := hPa
  obtain ⟨Kt, hT⟩ := T18_any (er := 0) hq hg hr (fun h => absurd hrv h) (fun _ => ⟨⟨rfl, rfl, rfl, rfl, rfl, rfl⟩, rfl, rfl, rfl, rfl⟩)
  rw [hLB] at hT
  obtain ⟨Kb, hB⟩ := pBytes hq hrv hr
  rw [hLB, ← hcl] at hB
  obtain ⟨b0, b1, b2, b3, b4, b5, b6, b7, b8, b9, b10, b11⟩ := cfg_t hq
  refine fin (Ka + Ko + Kn + Kp + Kt + Kb) ⟨ha _ (by omega), fun _ => ⟨_, _, _, _, _, _, _, _, _, _, _, _, _, _, _, _, _, _, _, _, _, _, _, _, 0, by rw [hcl]; exact hPa _ (by omega), rP_any (N := N) hp hpl (hro _ (by omega)) (fun h => by omega) (fun _ h => absurd h87 h) (fun _ _ => ⟨true, hq, fun h => absurd h (by decide), fun _ => ⟨hn2 _ (by omega), hle, fun h => by omega, fun h => by omega, fun _ => hT _ (by omega)⟩⟩), fun h => absurd rfl h, fun _ => ⟨⟨by have := hg.2.1; omega, by have := hg.1; omega⟩, hB _ (by omega), ?_⟩⟩⟩
  have hl10 : (l10.length : Int) = cb p 1 := hg.1
  unfold credenzaref18_Same.f
  rw [hl10]
  exact if_pos ⟨⟨rfl, rfl, rfl, rfl, rfl, rfl, rfl⟩, rfl, rfl⟩

end Go.Proofs.Ytehepnmagcjkaaa.Pure
