/- Any bytes are those of an event, or are refused, as the document says; what is read has just these bytes. No condition beyond the statement's own guards. -/
import Derived.Test.YtggoddiiglkpiaaPTellParsesx
namespace Go.Proofs.Ytggoddiiglkpiaa.Pure
open Go.RowKit Go.Proofs.Ytggoddiiglkpiaa.PTellParses Go.Proofs.YtggoddiiglkpiaaW.PrintWords Go.Proofs.YtggoddiiglkpiaaW.PrintLast Go.Proofs.YtggoddiiglkpiaaW.PrintMore
set_option linter.unusedVariables false
set_option linter.unusedSimpArgs false
theorem Ev.pos {α : Type} {c : Prop} [Decidable c] {X Y : Nat → Option α} {r : α} (h : c) (k : Ev X r) : Ev (fun n => if c then X n else Y n) r := by
  obtain ⟨K, k⟩ := k
  exact ⟨K, fun n hn => (if_pos h).trans (k n hn)⟩
theorem Ev.neg {α : Type} {c : Prop} [Decidable c] {X Y : Nat → Option α} {r : α} (h : ¬ c) (k : Ev Y r) : Ev (fun n => if c then X n else Y n) r := by
  obtain ⟨K, k⟩ := k
  exact ⟨K, fun n hn => (if_neg h).trans (k n hn)⟩
theorem Ev.sb {α β : Type} {f : Nat → α → Option β} {a : α} {r : β} (k : Ev (fun n => f n a) r) : Ev (fun n => (some a).bind (f n)) r := k
theorem Ev.eq {α : Type} {g : Nat → Option α} {r s : α} (k : Ev g r) (h : r = s) : Ev g s := h ▸ k
/-- A test, either way. -/
theorem Ev.ite {α : Type} {c : Prop} [Decidable c] {X Y : Nat → Option α} {r : α} (h : c → Ev X r) (k : ¬ c → Ev Y r) : Ev (fun n => if c then X n else Y n) r := by
  by_cases hc : c
  · exact Ev.pos hc (h hc)
  · exact Ev.neg hc (k hc)
theorem w64 {x : Int} (h0 : -9223372036854775808 ≤ x) (h1 : x ≤ 9223372036854775807) : wrap64 x = x := by unfold wrap64; omega
theorem wu64 {x : Int} (h0 : 0 ≤ x) (h1 : x < 18446744073709551616) : IntKind.u64.wrap x = x := by
  simp [IntKind.wrap, IntKind.bits, IntKind.signed]
  omega
theorem wn (x : Nat) (h : x < 9223372036854775808) : wrap64 (x : Int) = (x : Int) := w64 (by omega) (by omega)
theorem wadd (x y : Nat) (h : x + y < 9223372036854775808) : wrap64 ((x : Int) + (y : Int)) = ((x + y : Nat) : Int) := by
  rw [← Int.natCast_add]
  exact wn _ h
theorem wsucc (x : Nat) (h : x + 1 < 9223372036854775808) : wrap64 ((x : Int) + 1) = ((x + 1 : Nat) : Int) := wadd x 1 h
theorem wun (x : Nat) (h : x < 18446744073709551616) : IntKind.u64.wrap (x : Int) = (x : Int) := wu64 (by omega) (by omega)
def up (W : List Nat) : List Int := W.map fun (n : Nat) => (n : Int)
theorem up_length (W : List Nat) : (up W).length = W.length := by simp [up]
theorem up_app (a b : List Nat) : up (a ++ b) = up a ++ up b := by simp [up]
theorem up_take (a : List Nat) (n : Nat) : (up a).take n = up (a.take n) := by simp [up, List.map_take]
theorem up_drop (a : List Nat) (n : Nat) : (up a).drop n = up (a.drop n) := by simp [up, List.map_drop]
theorem up_one (x : Nat) : up [x] = [(x : Int)] := rfl
theorem rd_up (W : List Nat) (j : Nat) : rd (up W) (j : Int) = ((W.getD j 0 : Nat) : Int) := by
  unfold rd up
  rw [Int.toNat_natCast, List.getD_eq_getElem?_getD, List.getD_eq_getElem?_getD, List.getElem?_map]
  cases W[j]? <;> rfl
theorem up_of (xs : List Int) (h : ∀ x ∈ xs, 0 ≤ x) : xs = up (xs.map Int.toNat) := by
  induction xs with
  | nil => rfl
  | cons x xs ih =>
    have h1 : ∀ y ∈ xs, 0 ≤ y := fun y hy => h y (List.mem_cons_of_mem _ hy)
    have h2 : 0 ≤ x := h x (List.mem_cons_self ..)
    rw [List.map_cons]
    show x :: xs = ((x.toNat : Nat) : Int) :: up (xs.map Int.toNat)
    rw [← ih h1, Int.toNat_of_nonneg h2]
def Bys (l : List Nat) : Prop := ∀ x ∈ l, x < 256
theorem Bys.app {a b : List Nat} (ha : Bys a) (hb : Bys b) : Bys (a ++ b) := by
  intro x hx
  rcases List.mem_append.1 hx with h | h
  · exact ha x h
  · exact hb x h
theorem Bys.take {a : List Nat} (ha : Bys a) (n : Nat) : Bys (a.take n) := fun x hx => ha x (List.mem_of_mem_take hx)
theorem Bys.drop {a : List Nat} (ha : Bys a) (n : Nat) : Bys (a.drop n) := fun x hx => ha x (List.mem_of_mem_drop hx)
theorem Bys.getD {a : List Nat} (ha : Bys a) (n : Nat) : a.getD n 0 < 256 := by
  rw [List.getD_eq_getElem?_getD]
  by_cases h : n < a.length
  · rw [List.getElem?_eq_getElem h]
    exact ha _ (List.getElem_mem h)
  · rw [List.getElem?_eq_none (by omega)]
    decide
theorem wf_bys {xs : List Int} (h : ∀ x ∈ xs, (Lit.int .u8 x).wf = true) : ∃ l, Bys l ∧ xs = up l := by
  have h' : ∀ x ∈ xs, 0 ≤ x ∧ x < 256 := by
    intro x hx
    have := h x hx
    simp [Lit.wf, IntKind.min, IntKind.max, IntKind.bits, IntKind.signed] at this
    omega
  refine ⟨xs.map Int.toNat, ?_, up_of xs (fun x hx => (h' x hx).1)⟩
  intro y hy
  obtain ⟨x, hx, rfl⟩ := List.mem_map.1 hy
  have := h' x hx
  omega
/-- the text of bytes -/
def B (l : List Nat) : ByteArray := strOfNums (up l)
theorem B_size (l : List Nat) : (B l).size = l.length := by rw [B, strOfNums_size, up_length]
theorem B_list (l : List Nat) : (B l).data.toList = l.map UInt8.ofNat := by
  rw [B, strOfNums_data, up, List.map_map]
  rfl
theorem ba_ext {a b : ByteArray} (h : a.data.toList = b.data.toList) : a = b := by
  cases a; cases b
  simp only at h
  congr 1
  exact Array.toList_inj.1 h
theorem bt_B {l : List Nat} (hl : Bys l) (j : Nat) (hj : j < l.length) : bt (B l) (j : Int) = ((l.getD j 0 : Nat) : Int) := by
  unfold bt
  rw [dif_pos (by rw [Int.toNat_natCast, B_size]; exact hj)]
  have hx := hl.getD j
  have e : ∀ h, ((B l)[(j : Int).toNat]'h) = UInt8.ofNat (l.getD j 0) := by
    intro h
    have : (B l).data.toList[j]? = some (UInt8.ofNat (l.getD j 0)) := by
      rw [B_list, List.getElem?_map, List.getD_eq_getElem?_getD, List.getElem?_eq_getElem hj]
      rfl
    show (B l).data[(j : Int).toNat] = _
    have h3 : (B l).data[j]? = some (UInt8.ofNat (l.getD j 0)) := by rw [← Array.getElem?_toList]; exact this
    have h4 := (Array.getElem?_eq_some_iff.1 h3).2
    exact h4
  rw [e, UInt8.toNat_ofNat', Nat.mod_eq_of_lt (by omega)]
/-- n bytes of v, the highest first -/
def be : Nat → Nat → List Nat
  | 0, _ => []
  | n + 1, v => be n (v / 256) ++ [v % 256]
theorem be_length : ∀ n v, (be n v).length = n
  | 0, _ => rfl
  | n + 1, v => by rw [be, List.length_append, be_length n]; rfl
theorem be_bys : ∀ n v, Bys (be n v)
  | 0, _ => fun x hx => by simp [be] at hx
  | n + 1, v => (be_bys n _).app (fun x hx => by
      rw [List.mem_singleton] at hx
      subst hx
      exact Nat.mod_lt _ (by decide))
theorem be_head : ∀ n v, be (n + 1) v = (v / 256 ^ n % 256) :: be n v
  | 0, v => by simp [be]
  | n + 1, v => by
    rw [be, be_head n (v / 256), be, Nat.div_div_eq_div_mul, Nat.pow_succ, Nat.mul_comm 256]
    rfl
theorem drop_getD (l : List Nat) (i : Nat) (h : i < l.length) : l.drop i = l.getD i 0 :: l.drop (i + 1) := by
  rw [List.drop_eq_getElem_cons h, List.getD_eq_getElem?_getD, List.getElem?_eq_getElem h]
  rfl
theorem shr_u64 (x s : Nat) (hs : s ≤ 64) : shr .u64 (x : Int) (s : Int) = ((x / 2 ^ s : Nat) : Int) := by
  unfold shr
  rw [Int.toNat_natCast, Nat.min_eq_left (show s ≤ IntKind.u64.bits from hs)]
  simp
theorem two8 (i : Nat) : 2 ^ (8 * i) = 256 ^ i := by rw [Nat.pow_mul]
theorem Put_l (v : Nat) : ∀ (n : Nat) (l : List Nat), n ≤ 8 → l.length + n < 1000000 →
    Ev (fun k => seal_Put.l0 k (v : Int) (up l) ((n : Int) - 1)) (up (l ++ be n v)) := by
  intro n
  induction n with
  | zero =>
    intro l hn hl
    refine Ev.step (fun k => by rw [seal_Put.l0, if_neg (by omega)]) ?_
    rw [be, List.append_nil]
    exact Ev.now _
  | succ n ih =>
    intro l hn hl
    have e1 : (((n + 1 : Nat) : Int) - 1) = (n : Int) := by omega
    have e2 : wrap64 (8 * (n : Int)) = ((8 * n : Nat) : Int) := by
      rw [w64 (by omega) (by omega)]
      omega
    have e3 : wrap64 ((n : Int) - 1) = (n : Int) - 1 := w64 (by omega) (by omega)
    have e4 : shr .u64 (v : Int) ((8 * n : Nat) : Int) % 256 = ((v / 256 ^ n % 256 : Nat) : Int) := by
      rw [shr_u64 _ _ (by omega), two8]
      omega
    refine Ev.step (fun k => by rw [seal_Put.l0, e1, if_pos (by omega), e2, if_pos (by omega), if_pos (by rw [up_length]; omega), e3, e4, ← up_one, ← up_app]) ?_
    have h := ih (l ++ [v / 256 ^ n % 256]) (by omega) (by
      rw [List.length_append, List.length_singleton]
      omega)
    rw [be_head]
    rwa [List.append_assoc] at h
theorem Clone_f (l : List Nat) (hl : l.length < 1000000) : slices_Clone_byte_byte.f (up l) = some (up l) := by
  unfold slices_Clone_byte_byte.f
  rw [if_pos (by rw [up_length]; omega)]
theorem bClone_f (l : List Nat) (hl : l.length < 1000000) : bytes_Clone.f (up l) = some (up l) := by
  unfold bytes_Clone.f
  rw [if_pos (by rw [up_length]; omega)]
def wide (n : Int) : Nat := min n.toNat 8
theorem wide_f (n : Int) : seal_wide.f n = some ((wide n : Nat) : Int) := by
  unfold seal_wide.f wide mn mx
  congr 1
  repeat' split
  all_goals omega
theorem Put_f (l : List Nat) (v : Nat) (n : Int) (hl : l.length < 900000) : Ev (fun k => seal_Put.f k (up l) (v : Int) n) (up (l ++ be (wide n) v)) := by
  have hw : wide n ≤ 8 := Nat.min_le_right _ _
  unfold seal_Put.f
  simp only [Clone_f l (by omega), wide_f, Option.bind_some]
  rw [w64 (by omega) (by omega)]
  exact Put_l v _ l hw (by omega)
def nstep (v c : Nat) : Nat := v * 256 + c
def nm (v : Nat) (l : List Nat) : Nat := l.foldl nstep v
theorem nm_lt : ∀ (l : List Nat) (v j : Nat), Bys l → v < 256 ^ j → nm v l < 256 ^ (j + l.length)
  | [], v, j, _, h => h
  | c :: l, v, j, hl, h => by
    have hc := hl c (List.mem_cons_self ..)
    have h1 : nstep v c < 256 ^ (j + 1) := by
      unfold nstep
      rw [Nat.pow_succ]
      omega
    have := nm_lt l (nstep v c) (j + 1) (fun x hx => hl x (List.mem_cons_of_mem _ hx)) h1
    rw [List.length_cons, show j + (l.length + 1) = j + 1 + l.length by omega]
    exact this
theorem nm_app (a b : List Nat) (v : Nat) : nm v (a ++ b) = nm (nm v a) b := by unfold nm; rw [List.foldl_append]
theorem pow_le7 {j : Nat} (h : j ≤ 7) : 256 ^ j ≤ 72057594037927936 := by
  have : (256 : Nat) ^ 7 = 72057594037927936 := by decide
  rw [← this]
  exact Nat.pow_le_pow_right (by decide) h
theorem or_byte {v c : Nat} (hv : v < 72057594037927936) (hc : c < 256) : Go.bits .or .u64 (IntKind.u64.wrap ((v : Int) * 256)) (IntKind.u64.wrap (c : Int)) = ((nstep v c : Nat) : Int) := by
  rw [wu64 (x := (v : Int) * 256) (by omega) (by omega), wun c (by omega), show (v : Int) * 256 = ((v * 256 : Nat) : Int) by omega]
  have hb := (bits_nat .u64 64 (by decide) (fun n h0 h1 => wu64 h0 (by simpa using h1)) (v * 256) c (by simp; omega) (by simp; omega)).2
  rw [hb]
  unfold nstep
  have := Nat.two_pow_add_eq_or_of_lt (i := 8) (by simpa using hc) v
  rw [show 2 ^ 8 * v = v * 256 by omega] at this
  rw [this]
theorem Num_l (l : List Nat) (hl : Bys l) (hn : l.length ≤ 8) (s : List Int) (b : Bool) : ∀ (d i v : Nat), l.length - i = d → i ≤ l.length → v < 256 ^ i →
    Ev (fun k => seal_Reader_Num.l0 k (v : Int) (up l) (l.length : Int) (i : Int) s b) (((nm v (l.drop i) : Nat) : Int), s, b) := by
  intro d
  induction d with
  | zero =>
    intro i v hd hi hv
    obtain rfl : i = l.length := by omega
    refine Ev.step (fun k => by rw [seal_Reader_Num.l0, if_neg (by omega)]) ?_
    rw [List.drop_length]
    exact Ev.now _
  | succ d ih =>
    intro i v hd hi hv
    have h7 := pow_le7 (j := i) (by omega)
    have hc := hl.getD i
    refine Ev.step (fun k => by rw [seal_Reader_Num.l0, if_pos (by omega), if_pos (by omega), if_pos (by rw [up_length]; omega), rd_up, or_byte (Nat.lt_of_lt_of_le hv h7) hc, wsucc _ (by omega)]) ?_
    rw [drop_getD l i (by omega)]
    refine ih (i + 1) _ (by omega) (by omega) ?_
    unfold nstep
    rw [Nat.pow_succ]
    clear ih h7
    omega
/-- a reader's state: what is left, and whether it was short -/
theorem Take_f (l : List Nat) (b : Bool) (n : Nat) (hn : l.length < 1000000) :
    seal_Reader_Take.f (up l) b (n : Int) = if l.length < n then some (up [], up [], true) else some (up (l.take n), up (l.drop n), b) := by
  unfold seal_Reader_Take.f
  rw [up_length]
  by_cases h : l.length < n
  · rw [if_pos h, if_pos (by omega)]
    rfl
  · rw [if_neg h, if_neg (by omega), Int.toNat_natCast, up_take, up_drop, bClone_f _ (by rw [List.length_take]; omega), Option.bind_some]
theorem Num_f (l : List Nat) (hl : Bys l) (b : Bool) (n : Int) (hn : l.length < 1000000) :
    Ev (fun k => seal_Reader_Num.f k (up l) b n) (if l.length < wide n then (((0 : Nat) : Int), up [], true) else (((nm 0 (l.take (wide n)) : Nat) : Int), up (l.drop (wide n)), b)) := by
  unfold seal_Reader_Num.f
  simp only [wide_f, Option.bind_some, Take_f l b (wide n) hn]
  have hw : wide n ≤ 8 := Nat.min_le_right _ _
  by_cases h : l.length < wide n
  · rw [if_pos h, if_pos h]
    exact Ev.sb (Num_l [] (fun x hx => by simp at hx) (by decide) _ _ 0 0 0 rfl (by decide) (by decide))
  · rw [if_neg h, if_neg h]
    have hlen : (l.take (wide n)).length ≤ 8 := by rw [List.length_take]; omega
    refine Ev.sb ?_
    show Ev (fun k => seal_Reader_Num.l0 k 0 (up (l.take (wide n))) ((up (l.take (wide n))).length : Int) 0 (up (l.drop (wide n))) b) _
    rw [up_length]
    exact Num_l (l.take (wide n)) (hl.take _) hlen (up (l.drop (wide n))) b _ 0 0 rfl (Nat.zero_le _) (by decide)
theorem rnum_z (v c : Nat) (hv : v < 72057594037927936) (hc : c < 256) : IntKind.u64.wrap ((IntKind.u64.wrap ((v : Int) * 256)) + (IntKind.u64.wrap (c : Int))) = ((nstep v c : Nat) : Int) := by
  rw [wu64 (x := (v : Int) * 256) (by omega) (by omega), wun c (by omega), wu64 (by omega) (by omega)]
  unfold nstep
  omega
theorem rNumber_l (l : List Nat) (hl : Bys l) (hn : l.length ≤ 8) : ∀ (d i v : Nat), l.length - i = d → i ≤ l.length → v < 256 ^ i →
    Ev (fun k => credenzaref06_Number.l0 k (B l) (v : Int) (i : Int)) ((nm v (l.drop i) : Nat) : Int) := by
  intro d
  induction d with
  | zero =>
    intro i v hd hi hv
    obtain rfl : i = l.length := by omega
    refine Ev.step (fun k => by rw [credenzaref06_Number.l0, B_size, if_neg (by omega)]) ?_
    rw [List.drop_length]
    exact Ev.now _
  | succ d ih =>
    intro i v hd hi hv
    have h7 := pow_le7 (j := i) (by omega)
    have hc := hl.getD i
    refine Ev.step (fun k => by rw [credenzaref06_Number.l0, B_size, if_pos (by omega), if_pos (by omega), bt_B hl i (by omega), rnum_z v _ (Nat.lt_of_lt_of_le hv h7) hc, wsucc _ (by omega)]) ?_
    rw [drop_getD l i (by omega)]
    refine ih (i + 1) _ (by omega) (by omega) ?_
    unfold nstep
    rw [Nat.pow_succ]
    clear ih h7
    omega
theorem rNumber_f (l : List Nat) (hl : Bys l) (hn : l.length ≤ 8) : Ev (fun k => credenzaref06_Number.f k (B l)) ((nm 0 l : Nat) : Int) := by
  unfold credenzaref06_Number.f
  exact rNumber_l l hl hn l.length 0 0 (by omega) (by omega) (by decide)
theorem NewReader_f (l : List Nat) (hn : l.length < 1000000) : seal_NewReader.f (up l) = some (up l, false) := by
  unfold seal_NewReader.f
  rw [bClone_f l hn]
  rfl
/-! ### tell: rows of events -/
theorem awake_f : Ev (fun k => credenzalaw23_awake.f k) true := Ev.of credenzalaw23_awake.mono (k := 60) (by decide +kernel)
theorem rdE {l : List S49} {i : Nat} (h : i < l.length) : rd_T49 l (i : Int) = l[i] := by
  simp [rd_T49, List.getD_eq_getElem?_getD, List.getElem?_eq_getElem h]
theorem take_s {α : Type} {l : List α} {i : Nat} (h : i < l.length) : l.take (i + 1) = l.take i ++ [l[i]] := List.take_succ_eq_append_getElem h
theorem wf_u32 {x : Int} (h : (Lit.int .u32 x).wf = true) : 0 ≤ x ∧ x < 4294967296 := by
  simp [Lit.wf, IntKind.min, IntKind.max, IntKind.bits, IntKind.signed] at h
  omega
def Ids (l : List S49) : Prop := ∀ x ∈ l, 0 ≤ x.f1 ∧ x.f1 < 4294967296
theorem Ids.app {a b : List S49} (ha : Ids a) (hb : Ids b) : Ids (a ++ b) := by
  intro x hx
  rcases List.mem_append.1 hx with h | h
  · exact ha x h
  · exact hb x h
theorem Ordered_f (l : List S49) (hn : l.length < 1000000) (h : Ids l) : tell_Ordered.f l = some (tell_Ordered.ord [] l) := by
  unfold tell_Ordered.f
  rw [if_pos ⟨hn, List.all_eq_true.2 (fun x hx => by simpa using h x hx)⟩]
def lastOf : List S49 → Int → Int
  | [], _ => 0
  | x :: t, i => if tell_Ordered.fin i x = true then x.f0 else lastOf t i
theorem lastOf_app (p : List S49) (i : Int) (q : List S49) : lastOf (p ++ q) i = if tell_Ordered.ovr p i = true then lastOf p i else lastOf q i := by
  induction p with
  | nil => rfl
  | cons x t ih =>
    show (if tell_Ordered.fin i x = true then x.f0 else lastOf (t ++ q) i) = _
    rw [ih]
    show _ = if (tell_Ordered.fin i x || tell_Ordered.ovr t i) = true then (if tell_Ordered.fin i x = true then x.f0 else lastOf t i) else _
    cases tell_Ordered.fin i x <;> simp
theorem Last_l (l : List S49) (hn : l.length < 1000000) (id : Int) : ∀ (d i : Nat), l.length - i = d → i ≤ l.length →
    Ev (fun k => tell_Last.l0 k id l (l.length : Int) (i : Int)) (lastOf (l.drop i) id) := by
  intro d
  induction d with
  | zero =>
    intro i hd hi
    obtain rfl : i = l.length := by omega
    refine Ev.step (fun k => by rw [tell_Last.l0, if_neg (by omega)]) ?_
    rw [List.drop_length]
    exact Ev.now _
  | succ d ih =>
    intro i hd hi
    have h : i < l.length := by omega
    refine Ev.step (fun k => by rw [tell_Last.l0, if_pos (by omega), if_pos (by omega), if_pos (by omega), rdE h, wsucc _ (by omega)]) ?_
    rw [List.drop_eq_getElem_cons h]
    have ih := ih (i + 1) (by omega) (by omega)
    generalize l[i] = x at *
    show Ev _ (if tell_Ordered.fin id x = true then x.f0 else lastOf _ id)
    refine Ev.ite (fun h1 => Ev.ite (fun h2 => ?_) (fun h2 => Ev.ite (fun h3 => ?_) (fun h3 => ?_))) (fun h1 => ?_)
    · rw [if_neg (by simp [tell_Ordered.fin, h2])]
      exact ih
    · rw [if_neg (by simp [tell_Ordered.fin, h3])]
      exact ih
    · rw [if_pos (by simp [tell_Ordered.fin, h2, h3, h1])]
      exact Ev.now _
    · rw [if_neg (by simp [tell_Ordered.fin, h1])]
      exact ih
theorem Last_f (l : List S49) (hn : l.length < 1000000) (id : Int) : Ev (fun k => tell_Last.f k l id) (lastOf l id) := by
  unfold tell_Last.f
  exact Last_l l hn id l.length 0 (by omega) (by omega)
/-! ### one event -/
def right (a0 a2 a3 a4 : Int) : Int :=
  if a0 < 1 ∨ 5 < a0 then 29 else if (a0 ≠ 1 ∧ a3 ≠ 0) ∨ (a0 = 5 ∧ a2 ≠ 0) ∨ (a0 ≠ 5 ∧ a4 ≠ 0) then 10
  else if a2 < 0 ∨ 1024 < a2 ∨ (a0 = 1 ∧ a2 = 1024) ∨ a3 < 0 ∨ 255 < a3 ∨ 255 < a4 ∨ (a0 = 5 ∧ a4 < 1) then 11 else 0
theorem within_f (a b c : Int) : tell_within.f a b c = some (decide (b ≤ a ∧ a ≤ c)) := by
  unfold tell_within.f
  by_cases h : a ≥ b
  · rw [if_pos h]
    congr 1
    exact decide_eq_decide.2 ⟨fun k => ⟨h, k⟩, fun k => k.2⟩
  · rw [if_neg h, decide_eq_false (fun k => h k.1)]
theorem named_f (a0 a1 a2 a3 a4 : Int) (h : 1 ≤ a0 ∧ a0 ≤ 5) : tell_named.f a0 a1 a2 a3 a4 = some (a0, a1, if a0 = 5 then 0 else a2, if a0 = 1 then a3 else 0, if a0 = 5 then a4 else 0) := by
  have hc : a0 = 1 ∨ a0 = 2 ∨ a0 = 3 ∨ a0 = 4 ∨ a0 = 5 := by omega
  unfold tell_named.f
  rcases hc with rfl | rfl | rfl | rfl | rfl <;> rfl
theorem ranged_f (a0 a1 a2 a3 a4 : Int) : tell_ranged.f a0 a1 a2 a3 a4 = some (decide (if a0 = 1 then (0 ≤ a2 ∧ a2 ≤ 1023) ∧ 0 ≤ a3 ∧ a3 ≤ 255 else if a0 = 5 then 1 ≤ a4 ∧ a4 ≤ 255 else 0 ≤ a2 ∧ a2 ≤ 1024)) := by
  unfold tell_ranged.f
  simp only [within_f, Option.bind_some]
  by_cases h1 : a0 = 1
  · simp only [if_pos h1]
    by_cases h2 : 0 ≤ a2 ∧ a2 ≤ 1023
    · rw [if_pos (decide_eq_true h2)]
      congr 1
      exact decide_eq_decide.2 ⟨fun k => ⟨h2, k⟩, fun k => k.2⟩
    · rw [if_neg (by rw [decide_eq_false h2]; decide), decide_eq_false (fun k => h2 k.1)]
  · simp only [if_neg h1]
    by_cases h5 : a0 = 5
    · simp only [if_pos h5]
    · simp only [if_neg h5]
theorem tRight_f (a0 a1 a2 a3 a4 : Int) : tell_Right.f a0 a1 a2 a3 a4 = some (right a0 a2 a3 a4) := by
  unfold tell_Right.f right
  rw [within_f, Option.bind_some]
  by_cases h : 1 ≤ a0 ∧ a0 ≤ 5
  · rw [if_pos (decide_eq_true h), if_neg (by omega), named_f _ _ _ _ _ h, Option.bind_some, ranged_f, Option.bind_some]
    have hb : (!(a0 == a0) || (!(a1 == a1) || (!(a2 == (if a0 = 5 then 0 else a2)) || (!(a3 == (if a0 = 1 then a3 else 0)) || (!(a4 == (if a0 = 5 then a4 else 0))))))) = true ↔ ((a0 ≠ 1 ∧ a3 ≠ 0) ∨ (a0 = 5 ∧ a2 ≠ 0) ∨ (a0 ≠ 5 ∧ a4 ≠ 0)) := by
      simp only [beq_self_eq_true, Bool.not_true, Bool.false_or, Bool.or_eq_true, Bool.not_eq_true', beq_eq_false_iff_ne]
      by_cases h5 : a0 = 5
      · have h1 : a0 ≠ 1 := by omega
        simp only [if_pos h5, if_neg h1]
        omega
      · by_cases h1 : a0 = 1
        · simp only [if_pos h1, if_neg h5]
          omega
        · simp only [if_neg h1, if_neg h5]
          omega
    by_cases hc : (a0 ≠ 1 ∧ a3 ≠ 0) ∨ (a0 = 5 ∧ a2 ≠ 0) ∨ (a0 ≠ 5 ∧ a4 ≠ 0)
    · rw [if_pos (hb.2 hc), if_pos hc]
    · rw [if_neg (fun k => hc (hb.1 k)), if_neg hc]
      by_cases hd : a2 < 0 ∨ 1024 < a2 ∨ (a0 = 1 ∧ a2 = 1024) ∨ a3 < 0 ∨ 255 < a3 ∨ 255 < a4 ∨ (a0 = 5 ∧ a4 < 1)
      · rw [if_pos hd, decide_eq_false ?_, if_neg (by decide)]
        repeat' split
        all_goals omega
      · rw [if_neg hd, decide_eq_true ?_, if_pos rfl]
        repeat' split
        all_goals omega
  · rw [if_neg (by rw [decide_eq_false h]; decide), if_pos (by omega)]
theorem rRight_j1 (b : Bool) (a0 a1 a2 a3 a4 : Int) : Ev (fun k => credenzaref23_Right.j1 k b a0 a1 a2 a3 a4) (if b = true then 10 else if a2 < 0 ∨ 1024 < a2 ∨ (a0 = 1 ∧ a2 = 1024) ∨ a3 < 0 ∨ 255 < a3 ∨ 255 < a4 ∨ (a0 = 5 ∧ a4 < 1) then 11 else 0) := by
  refine Ev.step (fun k => by rw [credenzaref23_Right.j1]) ?_
  refine Ev.ite (fun h => ?_) (fun h => ?_)
  · rw [if_pos h]
    exact Ev.now _
  · rw [if_neg h]
    have yes : ∀ (hc : a2 < 0 ∨ 1024 < a2 ∨ (a0 = 1 ∧ a2 = 1024) ∨ a3 < 0 ∨ 255 < a3 ∨ 255 < a4 ∨ (a0 = 5 ∧ a4 < 1)), Ev (fun _ => some (11 : Int)) (if a2 < 0 ∨ 1024 < a2 ∨ (a0 = 1 ∧ a2 = 1024) ∨ a3 < 0 ∨ 255 < a3 ∨ 255 < a4 ∨ (a0 = 5 ∧ a4 < 1) then 11 else 0) := fun hc => by rw [if_pos hc]; exact Ev.now _
    have no : ∀ (hc : ¬ (a2 < 0 ∨ 1024 < a2 ∨ (a0 = 1 ∧ a2 = 1024) ∨ a3 < 0 ∨ 255 < a3 ∨ 255 < a4 ∨ (a0 = 5 ∧ a4 < 1))), Ev (fun _ => some (0 : Int)) (if a2 < 0 ∨ 1024 < a2 ∨ (a0 = 1 ∧ a2 = 1024) ∨ a3 < 0 ∨ 255 < a3 ∨ 255 < a4 ∨ (a0 = 5 ∧ a4 < 1) then 11 else 0) := fun hc => by rw [if_neg hc]; exact Ev.now _
    refine Ev.ite (fun h1 => yes (by omega)) (fun h1 => Ev.ite (fun h2 => yes (by omega)) (fun h2 => Ev.ite (fun h3 => ?_) (fun h3 => ?_)))
    · refine Ev.ite (fun h4 => yes (by omega)) (fun h4 => Ev.ite (fun h5 => yes (by omega)) (fun h5 => Ev.ite (fun h6 => yes (by omega)) (fun h6 => Ev.ite (fun h7 => yes (by omega)) (fun h7 => Ev.ite (fun h8 => Ev.ite (fun h9 => yes (by omega)) (fun h9 => no (by omega))) (fun h8 => no (by omega))))))
    · refine Ev.ite (fun h5 => yes (by omega)) (fun h5 => Ev.ite (fun h6 => yes (by omega)) (fun h6 => Ev.ite (fun h7 => yes (by omega)) (fun h7 => Ev.ite (fun h8 => Ev.ite (fun h9 => yes (by omega)) (fun h9 => no (by omega))) (fun h8 => no (by omega)))))
theorem rRight_f (a0 a1 a2 a3 a4 : Int) : Ev (fun k => credenzaref23_Right.f k a0 a1 a2 a3 a4) (right a0 a2 a3 a4) := by
  unfold credenzaref23_Right.f right
  refine Ev.ite (fun h => ?_) (fun h => ?_)
  · rw [if_pos (.inl h)]
    refine Ev.step (fun k => by rw [credenzaref23_Right.j0, if_pos rfl]) ?_
    exact Ev.now _
  · by_cases h5 : a0 > 5
    · rw [decide_eq_true h5, if_pos (.inr h5)]
      refine Ev.step (fun k => by rw [credenzaref23_Right.j0, if_pos rfl]) ?_
      exact Ev.now _
    · rw [decide_eq_false h5, if_neg (by omega)]
      refine Ev.step (fun k => by rw [credenzaref23_Right.j0, if_neg (by decide)]) ?_
      have yes : ∀ (b : Bool), b = true → ((a0 ≠ 1 ∧ a3 ≠ 0) ∨ (a0 = 5 ∧ a2 ≠ 0) ∨ (a0 ≠ 5 ∧ a4 ≠ 0)) → Ev (fun k => credenzaref23_Right.j1 k b a0 a1 a2 a3 a4) (if (a0 ≠ 1 ∧ a3 ≠ 0) ∨ (a0 = 5 ∧ a2 ≠ 0) ∨ (a0 ≠ 5 ∧ a4 ≠ 0) then 10 else if a2 < 0 ∨ 1024 < a2 ∨ (a0 = 1 ∧ a2 = 1024) ∨ a3 < 0 ∨ 255 < a3 ∨ 255 < a4 ∨ (a0 = 5 ∧ a4 < 1) then 11 else 0) := fun b hb hc => by
        rw [if_pos hc]
        exact Ev.eq (rRight_j1 b a0 a1 a2 a3 a4) (if_pos hb)
      have no : ∀ (b : Bool), b = false → ¬ ((a0 ≠ 1 ∧ a3 ≠ 0) ∨ (a0 = 5 ∧ a2 ≠ 0) ∨ (a0 ≠ 5 ∧ a4 ≠ 0)) → Ev (fun k => credenzaref23_Right.j1 k b a0 a1 a2 a3 a4) (if (a0 ≠ 1 ∧ a3 ≠ 0) ∨ (a0 = 5 ∧ a2 ≠ 0) ∨ (a0 ≠ 5 ∧ a4 ≠ 0) then 10 else if a2 < 0 ∨ 1024 < a2 ∨ (a0 = 1 ∧ a2 = 1024) ∨ a3 < 0 ∨ 255 < a3 ∨ 255 < a4 ∨ (a0 = 5 ∧ a4 < 1) then 11 else 0) := fun b hb hc => by
        rw [if_neg hc]
        exact Ev.eq (rRight_j1 b a0 a1 a2 a3 a4) (if_neg (by rw [hb]; decide))
      have by4 : a0 ≠ 5 → ¬ (a0 ≠ 1 ∧ a3 ≠ 0) → Ev (fun k => credenzaref23_Right.j1 k (a4 != 0) a0 a1 a2 a3 a4) (if (a0 ≠ 1 ∧ a3 ≠ 0) ∨ (a0 = 5 ∧ a2 ≠ 0) ∨ (a0 ≠ 5 ∧ a4 ≠ 0) then 10 else if a2 < 0 ∨ 1024 < a2 ∨ (a0 = 1 ∧ a2 = 1024) ∨ a3 < 0 ∨ 255 < a3 ∨ 255 < a4 ∨ (a0 = 5 ∧ a4 < 1) then 11 else 0) := fun hn hm => by
        by_cases h4 : a4 = 0
        · exact no _ (bne_eq_false_iff_eq.2 h4) (by omega)
        · exact yes _ (bne_iff_ne.2 h4) (by omega)
      refine Ev.ite (fun h1 => Ev.ite (fun h2 => Ev.ite (fun h3 => no _ rfl (by omega)) (fun h3 => yes _ rfl (by omega))) (fun h2 => by4 h2 (by omega)))
        (fun h1 => Ev.ite (fun h2 => Ev.ite (fun h3 => Ev.ite (fun h4 => no _ rfl (by omega)) (fun h4 => yes _ rfl (by omega))) (fun h3 => by4 h3 (by omega))) (fun h2 => yes _ rfl (by omega)))
theorem right_0 {a0 a2 a3 a4 : Int} (h : right a0 a2 a3 a4 = 0) : (1 ≤ a0 ∧ a0 ≤ 5) ∧ (0 ≤ a2 ∧ a2 ≤ 1024) ∧ (0 ≤ a3 ∧ a3 ≤ 255) ∧ (0 ≤ a4 ∧ a4 ≤ 255) := by
  unfold right at h
  split at h
  · cases h
  · split at h
    · cases h
    · split at h
      · cases h
      · omega
/-! ### the bytes of an event -/
def evb (n0 n1 n2 n3 n4 : Nat) : List Nat := be 1 n0 ++ be 4 n1 ++ be 2 n2 ++ be 1 n3 ++ be 1 n4
theorem be_1 {n : Nat} (h : n < 256) : be 1 n = [n] := by
  show [] ++ [n % 256] = [n]
  rw [Nat.mod_eq_of_lt h]
  rfl
theorem evb_length (n0 n1 n2 n3 n4 : Nat) : (evb n0 n1 n2 n3 n4).length = 9 := by
  simp only [evb, List.length_append, be_length]
theorem evb_bys (n0 n1 n2 n3 n4 : Nat) : Bys (evb n0 n1 n2 n3 n4) := ((((be_bys _ _).app (be_bys _ _)).app (be_bys _ _)).app (be_bys _ _)).app (be_bys _ _)
theorem tBytes_f (n0 n1 n2 n3 n4 : Nat) (h0 : n0 < 256) (h1 : n1 < 4294967296) (h2 : n2 ≤ 1024) (h3 : n3 < 256) (h4 : n4 < 256) (h : right (n0 : Int) n2 n3 n4 = 0) :
    Ev (fun k => tell_Bytes.f k (n0 : Int) (n1 : Int) (n2 : Int) (n3 : Int) (n4 : Int)) (up (evb n0 n1 n2 n3 n4), 0) := by
  unfold tell_Bytes.f
  rw [tRight_f, h]
  refine Ev.sb (Ev.pos rfl ?_)
  have e0 : ([(n0 : Int) % 256] : List Int) = up [n0] := by
    rw [up_one]
    congr 1
    omega
  have e3 : ([(n3 : Int) % 256, (n4 : Int) % 256] : List Int) = up [n3, n4] := by
    show _ = [(n3 : Int), (n4 : Int)]
    rw [show (n3 : Int) % 256 = n3 by omega, show (n4 : Int) % 256 = n4 by omega]
  rw [e0, e3, wun n1 (by omega), wun n2 (by omega)]
  refine Ev.bind (Put_f [n0] n1 4 (by simp)) ?_
  rw [show wide 4 = 4 from rfl]
  refine Ev.bind (Put_f ([n0] ++ be 4 n1) n2 2 (by rw [List.length_append, be_length]; simp)) ?_
  rw [show wide 2 = 2 from rfl]
  refine Ev.sb (Ev.pos (by rw [up_length, up_length, List.length_append, List.length_append, be_length, be_length]; simp) ?_)
  rw [← up_app]
  refine Ev.eq (Ev.now _) ?_
  rw [evb, be_1 h0, be_1 h3, be_1 h4, List.append_assoc _ [n3] [n4]]
  rfl
theorem tBytes_no (a0 a1 a2 a3 a4 : Int) (h : right a0 a2 a3 a4 ≠ 0) : Ev (fun k => tell_Bytes.f k a0 a1 a2 a3 a4) ([], right a0 a2 a3 a4) := by
  unfold tell_Bytes.f
  rw [tRight_f]
  exact Ev.sb (Ev.neg h (Ev.now _))
theorem tParse_f (l : List Nat) (hl : Bys l) (h : l.length = 9) : Ev (fun k => tell_Parse.f k (up l))
    (if right ((nm 0 (l.take 1) : Nat) : Int) ((nm 0 ((l.drop 5).take 2) : Nat) : Int) ((nm 0 ((l.drop 7).take 1) : Nat) : Int) ((nm 0 ((l.drop 8).take 1) : Nat) : Int) = 0 then (((nm 0 (l.take 1) : Nat) : Int), ((nm 0 ((l.drop 1).take 4) : Nat) : Int), ((nm 0 ((l.drop 5).take 2) : Nat) : Int), ((nm 0 ((l.drop 7).take 1) : Nat) : Int), ((nm 0 ((l.drop 8).take 1) : Nat) : Int), 0)
      else (0, 0, 0, 0, 0, right ((nm 0 (l.take 1) : Nat) : Int) ((nm 0 ((l.drop 5).take 2) : Nat) : Int) ((nm 0 ((l.drop 7).take 1) : Nat) : Int) ((nm 0 ((l.drop 8).take 1) : Nat) : Int))) := by
  have lt : ∀ (q : List Nat) (j : Nat), Bys q → q.length ≤ j → j ≤ 4 → nm 0 q < 4294967296 := fun q j hq hlen hj => by
    have h1 := nm_lt q 0 0 hq (by decide)
    have h2 : 256 ^ (0 + q.length) ≤ 256 ^ 4 := Nat.pow_le_pow_right (by decide) (by omega)
    have h3 : (256 : Nat) ^ 4 = 4294967296 := rfl
    omega
  unfold tell_Parse.f
  rw [up_length, NewReader_f l (by omega)]
  refine Ev.neg (by omega) (Ev.neg (by omega) (Ev.sb ?_))
  have s1 := Num_f l hl false 1 (by omega)
  rw [show wide 1 = 1 from rfl, if_neg (by omega)] at s1
  refine Ev.bind s1 ?_
  have s2 := Num_f (l.drop 1) (hl.drop 1) false 4 (by rw [List.length_drop]; omega)
  rw [show wide 4 = 4 from rfl, if_neg (by rw [List.length_drop]; omega), List.drop_drop] at s2
  refine Ev.bind s2 ?_
  have s3 := Num_f (l.drop 5) (hl.drop 5) false 2 (by rw [List.length_drop]; omega)
  rw [show wide 2 = 2 from rfl, if_neg (by rw [List.length_drop]; omega), List.drop_drop] at s3
  refine Ev.bind s3 ?_
  have s4 := Num_f (l.drop 7) (hl.drop 7) false 1 (by rw [List.length_drop]; omega)
  rw [show wide 1 = 1 from rfl, if_neg (by rw [List.length_drop]; omega), List.drop_drop] at s4
  refine Ev.bind s4 ?_
  have s5 := Num_f (l.drop 8) (hl.drop 8) false 1 (by rw [List.length_drop]; omega)
  rw [show wide 1 = 1 from rfl, if_neg (by rw [List.length_drop]; omega), List.drop_drop] at s5
  refine Ev.bind s5 ?_
  have t1 := lt (l.take 1) 1 (hl.take 1) (List.length_take_le ..) (by decide)
  have t2 := lt ((l.drop 1).take 4) 4 ((hl.drop 1).take 4) (List.length_take_le ..) (by decide)
  have t3 := lt ((l.drop 5).take 2) 2 ((hl.drop 5).take 2) (List.length_take_le ..) (by decide)
  have t4 := lt ((l.drop 7).take 1) 1 ((hl.drop 7).take 1) (List.length_take_le ..) (by decide)
  have t5 := lt ((l.drop 8).take 1) 1 ((hl.drop 8).take 1) (List.length_take_le ..) (by decide)
  clear s1 s2 s3 s4 s5 lt
  generalize nm 0 (l.take 1) = n0 at *
  generalize nm 0 ((l.drop 1).take 4) = n1 at *
  generalize nm 0 ((l.drop 5).take 2) = n2 at *
  generalize nm 0 ((l.drop 7).take 1) = n3 at *
  generalize nm 0 ((l.drop 8).take 1) = n4 at *
  simp only [wn n0 (by omega), wn n2 (by omega), wn n3 (by omega), wn n4 (by omega), show (n1 : Int) % 4294967296 = n1 by omega, tRight_f]
  refine Ev.sb (Ev.ite (fun hc => ?_) (fun hc => ?_))
  · rw [if_pos hc]
    exact Ev.now _
  · rw [if_neg hc]
    exact Ev.now _
theorem tParse_lt (l : List Nat) (h : l.length < 9) : Ev (fun k => tell_Parse.f k (up l)) (0, 0, 0, 0, 0, 16) := by
  unfold tell_Parse.f
  rw [up_length]
  exact Ev.pos (by omega) (Ev.now _)
theorem tParse_gt (l : List Nat) (h : 9 < l.length) : Ev (fun k => tell_Parse.f k (up l)) (0, 0, 0, 0, 0, 17) := by
  unfold tell_Parse.f
  rw [up_length]
  exact Ev.neg (by omega) (Ev.pos (by omega) (Ev.now _))
theorem be_nm : ∀ (n : Nat) (q : List Nat), q.length = n → Bys q → be n (nm 0 q) = q
  | 0, q, h, _ => by rw [List.eq_nil_of_length_eq_zero h]; rfl
  | n + 1, q, h, hq => by
    rcases List.eq_nil_or_concat q with rfl | ⟨p, c, rfl⟩
    · simp at h
    · have hc : c < 256 := hq c (by simp)
      have hp : Bys p := fun x hx => hq x (by simp [hx])
      have hl : p.length = n := by simpa using h
      have e : nm 0 (p ++ [c]) = nm 0 p * 256 + c := by rw [nm_app]; rfl
      rw [List.concat_eq_append, e, be, show (nm 0 p * 256 + c) / 256 = nm 0 p by omega, show (nm 0 p * 256 + c) % 256 = c by omega, be_nm n p hl hp]
theorem B_extract (l : List Nat) (a b : Nat) : (B l).extract a b = B ((l.drop a).take (b - a)) := by
  apply ba_ext
  rw [ByteArray.data_extract, Array.toList_extract, B_list, B_list, List.extract_eq_take_drop, List.map_take, List.map_drop]
theorem nm_take1 {l : List Nat} {i : Nat} (h : i < l.length) : nm 0 ((l.drop i).take 1) = l.getD i 0 := by
  rw [drop_getD l i h]
  show nstep 0 (l.getD i 0) = _
  unfold nstep
  omega
theorem rParse_f (l : List Nat) (hl : Bys l) (h : l.length = 9) : Ev (fun k => credenzaref23_Parse.f k (B l))
    (if right ((nm 0 (l.take 1) : Nat) : Int) ((nm 0 ((l.drop 5).take 2) : Nat) : Int) ((nm 0 ((l.drop 7).take 1) : Nat) : Int) ((nm 0 ((l.drop 8).take 1) : Nat) : Int) = 0 then (((nm 0 (l.take 1) : Nat) : Int), ((nm 0 ((l.drop 1).take 4) : Nat) : Int), ((nm 0 ((l.drop 5).take 2) : Nat) : Int), ((nm 0 ((l.drop 7).take 1) : Nat) : Int), ((nm 0 ((l.drop 8).take 1) : Nat) : Int), 0)
      else (0, 0, 0, 0, 0, right ((nm 0 (l.take 1) : Nat) : Int) ((nm 0 ((l.drop 5).take 2) : Nat) : Int) ((nm 0 ((l.drop 7).take 1) : Nat) : Int) ((nm 0 ((l.drop 8).take 1) : Nat) : Int))) := by
  have lt : ∀ (q : List Nat) (j : Nat), Bys q → q.length ≤ j → j ≤ 4 → nm 0 q < 4294967296 := fun q j hq hlen hj => by
    have h1 := nm_lt q 0 0 hq (by decide)
    have h2 : 256 ^ (0 + q.length) ≤ 256 ^ 4 := Nat.pow_le_pow_right (by decide) (by omega)
    have h3 : (256 : Nat) ^ 4 = 4294967296 := rfl
    omega
  have e0 : bt (B l) 0 = ((nm 0 (l.take 1) : Nat) : Int) := by
    have := bt_B hl 0 (by omega)
    rw [← nm_take1 (by omega), List.drop_zero] at this
    exact this
  have e7 : bt (B l) 7 = ((nm 0 ((l.drop 7).take 1) : Nat) : Int) := by
    have := bt_B hl 7 (by omega)
    rw [← nm_take1 (by omega)] at this
    exact this
  have e8 : bt (B l) 8 = ((nm 0 ((l.drop 8).take 1) : Nat) : Int) := by
    have := bt_B hl 8 (by omega)
    rw [← nm_take1 (by omega)] at this
    exact this
  unfold credenzaref23_Parse.f
  rw [B_size, h]
  refine Ev.neg (by decide) (Ev.neg (by decide) (Ev.pos (by decide) (Ev.pos (by decide) (Ev.pos (by decide) ?_))))
  rw [B_extract, B_extract, e0, e7, e8]
  refine Ev.bind (rNumber_f ((l.drop 1).take 4) ((hl.drop 1).take 4) (Nat.le_trans (List.length_take_le ..) (by decide))) (Ev.pos (by decide) (Ev.pos (by decide) ?_))
  refine Ev.bind (rNumber_f ((l.drop 5).take 2) ((hl.drop 5).take 2) (Nat.le_trans (List.length_take_le ..) (by decide))) (Ev.pos (by decide) (Ev.pos (by decide) ?_))
  have t1 := lt (l.take 1) 1 (hl.take 1) (List.length_take_le ..) (by decide)
  have t2 := lt ((l.drop 1).take 4) 4 ((hl.drop 1).take 4) (List.length_take_le ..) (by decide)
  have t3 := lt ((l.drop 5).take 2) 2 ((hl.drop 5).take 2) (List.length_take_le ..) (by decide)
  have t4 := lt ((l.drop 7).take 1) 1 ((hl.drop 7).take 1) (List.length_take_le ..) (by decide)
  have t5 := lt ((l.drop 8).take 1) 1 ((hl.drop 8).take 1) (List.length_take_le ..) (by decide)
  clear e0 e7 e8 lt
  generalize nm 0 (l.take 1) = n0 at *
  generalize nm 0 ((l.drop 1).take 4) = n1 at *
  generalize nm 0 ((l.drop 5).take 2) = n2 at *
  generalize nm 0 ((l.drop 7).take 1) = n3 at *
  generalize nm 0 ((l.drop 8).take 1) = n4 at *
  rw [wn n0 (by omega), wn n2 (by omega), wn n3 (by omega), wn n4 (by omega), show (n1 : Int) % 4294967296 = n1 by omega]
  refine Ev.bind (rRight_f _ _ _ _ _) (Ev.ite (fun hc => ?_) (fun hc => ?_))
  · rw [if_pos hc]
    exact Ev.now _
  · rw [if_neg hc]
    exact Ev.now _
theorem evb_nm (l : List Nat) (hl : Bys l) (h : l.length = 9) : evb (nm 0 (l.take 1)) (nm 0 ((l.drop 1).take 4)) (nm 0 ((l.drop 5).take 2)) (nm 0 ((l.drop 7).take 1)) (nm 0 ((l.drop 8).take 1)) = l := by
  unfold evb
  rw [be_nm 1 _ (by rw [List.length_take]; omega) (hl.take 1), be_nm 4 _ (by rw [List.length_take, List.length_drop]; omega) ((hl.drop 1).take 4), be_nm 2 _ (by rw [List.length_take, List.length_drop]; omega) ((hl.drop 5).take 2), be_nm 1 _ (by rw [List.length_take, List.length_drop]; omega) ((hl.drop 7).take 1), be_nm 1 _ (by rw [List.length_take, List.length_drop]; omega) ((hl.drop 8).take 1)]
  have e1 := List.take_append_drop 1 l
  have e2 := List.take_append_drop 4 (l.drop 1)
  have e3 := List.take_append_drop 2 (l.drop 5)
  have e4 := List.take_append_drop 1 (l.drop 7)
  have e5 : (l.drop 8).take 1 = l.drop 8 := List.take_of_length_le (by rw [List.length_drop]; omega)
  rw [List.drop_drop] at e2 e3 e4
  rw [e5, List.append_assoc, List.append_assoc, List.append_assoc, e4, e3, e2, e1]
theorem Parses_awake (l : List Int) (e : Int) (he : e ≠ 0) (a b c d f : Int) : Ev (fun k => credenzalaw23_TellParses.j0 k l e false a b c d f) true := by
  refine Ev.step (fun k => by rw [credenzalaw23_TellParses.j0, if_neg (by decide), if_neg he]) ?_
  exact Ev.bind awake_f (Ev.now _)
theorem TellParses : credenzalaw23_TellParses.Pure := by
  intro l0 _ _ hw
  obtain ⟨l, hl, rfl⟩ := wf_bys hw
  clear hw
  refine Ev.rounds ?_
  unfold credenzalaw23_TellParses.f
  rw [up_length]
  refine Ev.ite (fun _ => Ev.bind awake_f (Ev.now _)) (fun hn => ?_)
  show Ev (fun k => (tell_Parse.f k (up l)).bind fun bt214 => (credenzaref23_Parse.f k (B l)).bind _) true
  rcases Nat.lt_trichotomy l.length 9 with h | h | h
  · have hr : Ev (fun k => credenzaref23_Parse.f k (B l)) (0, 0, 0, 0, 0, 16) := by
      unfold credenzaref23_Parse.f
      rw [B_size]
      exact Ev.pos (by omega) (Ev.now _)
    refine Ev.bind (tParse_lt l h) (Ev.bind hr (Ev.pos rfl (Ev.sb ?_)))
    exact Parses_awake _ 16 (by decide) _ _ _ _ _
  · have hp := tParse_f l hl h
    have hr := rParse_f l hl h
    have ev := evb_nm l hl h
    by_cases hc : right ((nm 0 (l.take 1) : Nat) : Int) ((nm 0 ((l.drop 5).take 2) : Nat) : Int) ((nm 0 ((l.drop 7).take 1) : Nat) : Int) ((nm 0 ((l.drop 8).take 1) : Nat) : Int) = 0
    · rw [if_pos hc] at hp hr
      obtain ⟨b0, b2, b3, b4⟩ := right_0 hc
      have hb := tBytes_f (nm 0 (l.take 1)) (nm 0 ((l.drop 1).take 4)) (nm 0 ((l.drop 5).take 2)) (nm 0 ((l.drop 7).take 1)) (nm 0 ((l.drop 8).take 1)) (by omega) (by
        have h1 := nm_lt ((l.drop 1).take 4) 0 0 ((hl.drop 1).take 4) (by decide)
        have h2 : 256 ^ (0 + ((l.drop 1).take 4).length) ≤ 256 ^ 4 := Nat.pow_le_pow_right (by decide) (by rw [List.length_take]; omega)
        have h3 : (256 : Nat) ^ 4 = 4294967296 := rfl
        omega) (by omega) (by omega) (by omega) hc
      rw [ev] at hb
      refine Ev.bind hp (Ev.bind hr (Ev.pos rfl (Ev.sb ?_)))
      simp only [beq_self_eq_true, Bool.not_true, Bool.or_false]
      refine Ev.step (fun k => by rw [credenzalaw23_TellParses.j0, if_neg (by decide), if_pos rfl]) ?_
      exact Ev.bind hb (Ev.pos rfl (Ev.pos rfl (Ev.bind awake_f (Ev.now _))))
    · rw [if_neg hc] at hp hr
      refine Ev.bind hp (Ev.bind hr (Ev.pos rfl (Ev.sb ?_)))
      exact Parses_awake _ _ hc _ _ _ _ _
  · have hr : Ev (fun k => credenzaref23_Parse.f k (B l)) (0, 0, 0, 0, 0, 17) := by
      unfold credenzaref23_Parse.f
      rw [B_size]
      exact Ev.neg (by omega) (Ev.pos (by omega) (Ev.now _))
    refine Ev.bind (tParse_gt l h) (Ev.bind hr (Ev.pos rfl (Ev.sb ?_)))
    exact Parses_awake _ 17 (by decide) _ _ _ _ _

end Go.Proofs.Ytggoddiiglkpiaa.Pure
