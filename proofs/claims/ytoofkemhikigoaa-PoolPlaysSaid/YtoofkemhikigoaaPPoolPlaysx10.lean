-- Written by a program of this session (wip/tools/mkprint.py over the kit's print).
import Derived.Test.YtoofkemhikigoaaPPoolPlaysx0
import Derived.Test.YtoofkemhikigoaaPPoolPlaysx6
import Derived.Test.YtoofkemhikigoaaPPoolPlaysx7
import Derived.Test.YtoofkemhikigoaaPPoolPlaysx8
import Derived.Test.YtoofkemhikigoaaPPoolPlaysx9
namespace Go.Proofs.Ytoofkemhikigoaa.PPoolPlays
open Go.RowKit Go.Proofs.YtoofkemhikigoaaW.PrintWords Go.Proofs.YtoofkemhikigoaaW.PrintLast Go.Proofs.YtoofkemhikigoaaW.PrintMore
attribute [local go_sem] max2_int min2_int max_two min_two max_three min_three max_four min_four   -- for this text's walks alone
set_option linter.unusedVariables false
set_option linter.unusedSimpArgs false

/-! ### credenzalaw10_PoolPlays: function 3 -/
/-- How many slots aren't free. -/
def cnt : List Slot → Int
  | [] => 0
  | x :: l => (if x.refs = 0 then 0 else 1) + cnt l
theorem cnt_append : ∀ a b : List Slot, cnt (a ++ b) = cnt a + cnt b
  | [], b => by simp [cnt]
  | x :: a, b => by
    have ih := cnt_append a b
    simp only [List.cons_append, cnt, ih]
    omega
theorem cnt_set (z : Slot) : ∀ (L : List Slot) (k : Nat) (y : Slot), L[k]? = some y → cnt (L.set k z) + (if y.refs = 0 then 0 else 1) = cnt L + (if z.refs = 0 then 0 else 1)
  | [], k, y, h => by simp at h
  | x :: L, 0, y, h => by
    obtain rfl := Option.some.inj h
    simp only [List.set_cons_zero, cnt]
    omega
  | x :: L, k + 1, y, h => by
    have ih := cnt_set z L k y (by simpa using h)
    simp only [List.set_cons_succ, cnt]
    omega
theorem used_cnt (L : List Slot) : ∀ n, n ≤ L.length → ((usedTo L n).length : Int) = cnt (L.take n)
  | 0, _ => rfl
  | n + 1, hn => by
    have ih := used_cnt L n (by omega)
    obtain ⟨x, hx⟩ : ∃ x, L[n]? = some x := ⟨_, List.getElem?_eq_getElem (by omega)⟩
    have ht : L.take (n + 1) = L.take n ++ [x] := by
      rw [List.take_succ_eq_append_getElem (by omega)]
      congr 1
      rw [List.getElem?_eq_getElem (by omega)] at hx
      rw [Option.some.inj hx]
    rw [ht, cnt_append, ← ih, usedTo, List.getD_eq_getElem?_getD, hx]
    simp only [Option.getD_some, cnt]
    split <;> simp
theorem used_all_cnt (L : List Slot) : ((usedTo L L.length).length : Int) = cnt L := by
  rw [used_cnt L L.length (Nat.le_refl _), List.take_length]
/-- A call that leaves slot 0, and loses none. -/
structure OkR (L : List Slot) (f : Int) (L' : List Slot) (f' : Int) : Prop where
  len : L'.length = L.length
  at0 : L'[0]? = L[0]?
  sum : f' + cnt L' = f + cnt L
  top : ∀ c : Int, 1 ≤ c → (∀ x ∈ L, x.refs ≤ c) → ∀ x ∈ L', x.refs ≤ c + 1
theorem OkR.same (L : List Slot) (f : Int) : OkR L f L f := ⟨rfl, rfl, rfl, fun c _ h x hx => by have := h x hx; omega⟩
theorem OkR.put {L L' : List Slot} {f f' m i e : Int} (h : PutR L f m L' f' i e) {y0 : Slot} (h0 : L[0]? = some y0) (hy0 : ¬ y0.refs = 0) : OkR L f L' f' := by
  rcases h with ⟨k, y, b, hy, hz, -, rfl, rfl, -, -⟩ | ⟨-, rfl, rfl, -, -⟩
  · have hk : k ≠ 0 := fun e => by subst e; rw [h0] at hy; obtain rfl := Option.some.inj hy; exact hy0 hz
    have hc := cnt_set ⟨1, m, some b⟩ L k y hy
    rw [if_pos hz, if_neg (show ¬ (1 : Int) = 0 by decide)] at hc
    refine ⟨List.length_set, List.getElem?_set_ne hk, by omega, fun c h1 h x hx => ?_⟩
    rcases List.mem_or_eq_of_mem_set hx with hx | rfl
    · have := h x hx; omega
    · show (1 : Int) ≤ c + 1; omega
  · exact OkR.same _ _
theorem OkR.hold {L L' : List Slot} {f f' N e : Int} (h : HoldR L f N L' f' e) (hN : ¬ N = 0) (hr : ∀ x ∈ L, 0 ≤ x.refs) : OkR L f L' f' := by
  rcases h with ⟨n, x, rfl, hx, hz, rfl, rfl, -⟩ | ⟨-, rfl, rfl, -⟩
  · have hk : n ≠ 0 := fun e => hN (by rw [e]; rfl)
    have hx0 := hr x (List.mem_of_getElem? hx)
    have hc := cnt_set ⟨x.refs + 1, x.mark, x.pg⟩ L n x hx
    rw [if_neg hz, if_neg (show ¬ x.refs + 1 = 0 by omega)] at hc
    refine ⟨List.length_set, List.getElem?_set_ne hk, by omega, fun c h1 h y hy => ?_⟩
    rcases List.mem_or_eq_of_mem_set hy with hy | rfl
    · have := h y hy; omega
    · have := h x (List.mem_of_getElem? hx); show x.refs + 1 ≤ c + 1; omega
  · exact OkR.same _ _
theorem less_zero (x : Slot) (h : x.refs = 1) : x.less = ⟨0, x.mark, none⟩ := by rw [Slot.less, if_pos h]
theorem less_more (x : Slot) (h : ¬ x.refs = 1) : x.less = ⟨x.refs + -1, x.mark, x.pg⟩ := by rw [Slot.less, if_neg h]
theorem OkR.drop {L L' : List Slot} {f f' N e : Int} (h : DropR L f N L' f' e) (hN : ¬ N = 0) : OkR L f L' f' := by
  rcases h with ⟨n, x, rfl, hx, hz, rfl, rfl, -⟩ | ⟨-, rfl, rfl, -⟩
  · have hk : n ≠ 0 := fun e => hN (by rw [e]; rfl)
    have hc := cnt_set x.less L n x hx
    by_cases q : x.refs = 1
    · rw [less_zero x q] at hc ⊢
      rw [if_neg hz, if_pos (show (0 : Int) = 0 from rfl)] at hc
      rw [if_pos q]
      refine ⟨List.length_set, List.getElem?_set_ne hk, by omega, fun c h1 h y hy => ?_⟩
      rcases List.mem_or_eq_of_mem_set hy with hy | rfl
      · have := h y hy; omega
      · show (0 : Int) ≤ c + 1; omega
    · rw [less_more x q] at hc ⊢
      rw [if_neg hz, if_neg (show ¬ x.refs + -1 = 0 by omega)] at hc
      rw [if_neg q]
      refine ⟨List.length_set, List.getElem?_set_ne hk, by omega, fun c h1 h y hy => ?_⟩
      rcases List.mem_or_eq_of_mem_set hy with hy | rfl
      · have := h y hy; omega
      · have := h x (List.mem_of_getElem? hx); show x.refs + -1 ≤ c + 1; omega
  · exact OkR.same _ _
theorem nil_put (m : Int) : credenzaref10_Pool_Put.f 2 [] [] m = some ([], [], 0, 23) := by
  unfold credenzaref10_Pool_Put.f credenzaref10_Pool_Put.l0
  rw [if_neg (by decide)]
theorem nil_is (N : Int) : credenzaref10_Pool_Is.f [] [] N = some false := by
  unfold credenzaref10_Pool_Is.f
  by_cases h : N ≥ 0
  · rw [if_pos h, if_neg (by simpa using h)]
  · rw [if_neg h]
theorem nil_change (N d : Int) : credenzaref10_Pool_Change.f [] [] N d = some ([], [], 14) := by
  unfold credenzaref10_Pool_Change.f
  rw [nil_is]
  rfl
theorem nil_new : credenzaref10_New.f 2 0 = some ([], []) := by
  unfold credenzaref10_New.f credenzaref10_New.l0
  rw [if_neg (by decide)]
open Classical in
/-- Any call on a slot that isn't 0, beside a document's pool that has none. -/
theorem stepParts.calls (k : Nat) (hk : madeAll k = true) (w0 w : World) (hB : Below w0.heap.size w0 w) (g s : Nat) (L : List Slot) (f : Int) (hP : PoolAt w g s L f) (hg : w0.heap.size ≤ g) (hs : w0.heap.size ≤ s) (hf : -1000 ≤ f ∧ f ≤ 1000) (hm : ∀ x ∈ L, x.refs ≤ 1000) (y0 : Slot) (h0 : L[0]? = some y0) (hy0 : ¬ y0.refs = 0) (v0 v1 : Value) (hX : XAt w0.heap.size w v0 v1 [] []) (K N : Int) (hN : ¬ N = 0) :
    Calls Try.prog 14 #[.pointer (some ⟨g, 0, none⟩), .agg #[v0, v1], .agg #[.int .i64 K, .int .i64 N]] w fun e w' => ∃ u b L' f', e = .returned (.tuple #[u, .bool b]) ∧ PoolAt w' g s L' f' ∧ OkR L f L' f' ∧ Below w0.heap.size w0 w' := by
  by_cases k1 : K = 1
  · subst k1
    refine (stepPut.calls k 2 hk w0 w hB g s L f hP hg hs (by omega) v0 v1 [] [] hX N [] [] 0 23 (nil_put _)).mono ?_
    rintro e w' ⟨u0, u1, L', f', i2, e2, rfl, -, h1, h2, h3, -⟩
    exact ⟨_, _, L', f', rfl, h1, OkR.put h2 h0 hy0, h3⟩
  by_cases k2 : K = 2
  · subst k2
    refine (stepHold.calls k hk w0 w hB g s L f hP hg hs v0 v1 [] [] hX (fun x hx => by have := hm x hx; omega) N [] [] 14 (nil_change _ _)).mono ?_
    rintro e w' ⟨u0, u1, L', f', e2, rfl, -, h1, h2, h3, -⟩
    exact ⟨_, _, L', f', rfl, h1, OkR.hold h2 hN (fun x hx => (hP.hr x hx).1), h3⟩
  by_cases k3 : K = 3
  · subst k3
    refine (stepDrop.calls k hk w0 w hB g s L f hP hg hs v0 v1 [] [] hX (by omega) N [] [] 14 (nil_change _ _)).mono ?_
    rintro e w' ⟨u0, u1, L', f', e2, rfl, -, h1, h2, h3, -⟩
    exact ⟨_, _, L', f', rfl, h1, OkR.drop h2 hN, h3⟩
  by_cases hh : Held L N
  · obtain ⟨n, x, hn, hx, hr⟩ := id hh
    obtain ⟨b, hb, -⟩ := hP.hp x (List.mem_of_getElem? hx) hr
    refine (stepGetOdd.calls k hk w0 w hB g s L f hP hg hs v0 v1 [] [] hX K N ⟨k1, k2, k3⟩ n x b hn hx hr hb (nil_is N)).mono ?_
    rintro e w' ⟨u0, u1, rfl, -, h1, h2, -⟩
    exact ⟨_, _, L, f, rfl, h1, OkR.same _ _, h2⟩
  · refine (stepGetNo.calls k hk w0 w hB g s L f hP hg hs v0 v1 [] [] hX K N ⟨k1, k2, k3⟩ hh (nil_is N)).mono ?_
    rintro e w' ⟨u0, u1, rfl, -, h1, h2, -⟩
    exact ⟨_, _, L, f, rfl, h1, OkR.same _ _, h2⟩
theorem cnt_bound : ∀ L : List Slot, 0 ≤ cnt L ∧ cnt L ≤ (L.length : Int)
  | [] => ⟨Int.le_refl _, Int.le_refl _⟩
  | x :: L => by
    have ih := cnt_bound L
    simp only [cnt, List.length_cons]
    split <;> omega
def RR (L : List Slot) : List Int := L.map Slot.refs
def MM (L : List Slot) : List Int := L.map Slot.mark
theorem RR_len (L : List Slot) : (RR L).length = L.length := by simp [RR]
theorem MM_len (L : List Slot) : (MM L).length = L.length := by simp [MM]
theorem rd_RR {L : List Slot} {n : Nat} {x : Slot} (h : L[n]? = some x) : rd (RR L) (n : Int) = x.refs := by
  simp [rd, RR, List.getD_eq_getElem?_getD, h]
theorem RR_get {L : List Slot} {n : Nat} {x : Slot} (h : L[n]? = some x) : (RR L)[n]? = some x.refs := by simp [RR, h]
theorem MM_get {L : List Slot} {n : Nat} {x : Slot} (h : L[n]? = some x) : (MM L)[n]? = some x.mark := by simp [MM, h]
theorem w64n (n : Nat) (h : n ≤ 100000) : wrap64 ((n : Int) + 1) = ((n + 1 : Nat) : Int) := by simp only [wrap64]; omega
theorem with_eq (l : List Int) (n : Nat) (a : Int) (hn : n < l.length) (hl : l.length ≤ 1000) : credenzaref10_with.f l (n : Int) a = some (l.set n a) := by
  unfold credenzaref10_with.f
  rw [if_pos (by simp; omega)]
  show (if 0 ≤ (n : Int) then (if (n : Int) < ((([] : List Int) ++ l).length : Int) then some ((([] : List Int) ++ l).set (n : Int).toNat a) else none) else none) = _
  rw [if_pos (by omega), if_pos (by simp; omega)]
  simp
theorem put_hit (L : List Slot) (m : Int) (hL : L.length ≤ 1000) (k : Nat) (y : Slot) (hy : L[k]? = some y) (h0 : y.refs = 0) (hb : ∀ j x, j < k → L[j]? = some x → ¬ x.refs = 0) : ∀ (d n kk : Nat), n + d = k → d < kk → credenzaref10_Pool_Put.l0 kk m (n : Int) (RR L) (MM L) = some ((RR L).set k 1, (MM L).set k m, (k : Int), 0)
  | 0, n, kk + 1, hd, _ => by
    obtain rfl : n = k := by omega
    have hlt := (List.getElem?_eq_some_iff.mp hy).1
    rw [credenzaref10_Pool_Put.l0, if_pos (by rw [RR_len]; omega), if_pos (by omega), if_pos (by rw [rd_RR hy, h0]), with_eq _ n 1 (by rw [RR_len]; exact hlt) (by rw [RR_len]; exact hL), with_eq _ n m (by rw [MM_len]; exact hlt) (by rw [MM_len]; exact hL)]
    rfl
  | d + 1, n, kk + 1, hd, hk => by
    have hlt := (List.getElem?_eq_some_iff.mp hy).1
    obtain ⟨x, hx⟩ : ∃ x, L[n]? = some x := ⟨_, List.getElem?_eq_getElem (by omega)⟩
    rw [credenzaref10_Pool_Put.l0, if_pos (by rw [RR_len]; omega), if_pos (by omega), if_neg (by rw [rd_RR hx]; exact hb n x (by omega) hx), w64n n (by omega)]
    exact put_hit L m hL k y hy h0 hb d (n + 1) kk (by omega) (by omega)
theorem put_full (L : List Slot) (m : Int) (hL : L.length ≤ 1000) (hb : ∀ x ∈ L, ¬ x.refs = 0) : ∀ (d n kk : Nat), n + d = L.length → d < kk → credenzaref10_Pool_Put.l0 kk m (n : Int) (RR L) (MM L) = some (RR L, MM L, 0, 23)
  | 0, n, kk + 1, hd, _ => by
    rw [credenzaref10_Pool_Put.l0, if_neg (by rw [RR_len]; omega)]
  | d + 1, n, kk + 1, hd, hk => by
    obtain ⟨x, hx⟩ : ∃ x, L[n]? = some x := ⟨_, List.getElem?_eq_getElem (by omega)⟩
    rw [credenzaref10_Pool_Put.l0, if_pos (by rw [RR_len]; omega), if_pos (by omega), if_neg (by rw [rd_RR hx]; exact hb x (List.mem_of_getElem? hx)), w64n n (by omega)]
    exact put_full L m hL hb d (n + 1) kk (by omega) (by omega)
theorem putR_ref {L L' : List Slot} {f m f' i e : Int} (hL : L.length ≤ 190) (h : PutR L f m L' f' i e) : credenzaref10_Pool_Put.f 200 (RR L) (MM L) m = some (RR L', MM L', i, e) := by
  unfold credenzaref10_Pool_Put.f
  rcases h with ⟨k, y, b, hy, hz, hb, rfl, -, rfl, rfl⟩ | ⟨hb, rfl, -, rfl, rfl⟩
  · have hlt := (List.getElem?_eq_some_iff.mp hy).1
    have h := put_hit L m (by omega) k y hy hz hb k 0 200 (by omega) (by omega)
    rw [show ((0 : Nat) : Int) = 0 from rfl] at h
    rw [h, RR, RR, MM, MM, List.map_set, List.map_set]
  · exact put_full L' m (by omega) hb L'.length 0 200 (by omega) (by omega)
theorem putR_any (L : List Slot) (f m : Int) : ∃ L' f' i e, PutR L f m L' f' i e := by
  rcases first_zero L with h1 | ⟨k, y, hy, h0, hb⟩
  · exact ⟨_, _, _, _, .inr ⟨h1, rfl, rfl, rfl, rfl⟩⟩
  · exact ⟨_, _, _, _, .inl ⟨k, y, 0, hy, h0, hb, rfl, rfl, rfl, rfl⟩⟩
theorem is_held {L : List Slot} {n : Nat} {x : Slot} (hx : L[n]? = some x) (hr : 0 < x.refs) : credenzaref10_Pool_Is.f (RR L) (MM L) (n : Int) = some true := by
  have hlt := (List.getElem?_eq_some_iff.mp hx).1
  unfold credenzaref10_Pool_Is.f
  rw [if_pos (by omega), if_pos (by rw [RR_len]; omega), if_pos (by omega), rd_RR hx]
  simp [hr]
theorem is_not {L : List Slot} {N : Int} (hh : ¬ Held L N) (hr : ∀ x ∈ L, 0 ≤ x.refs) : credenzaref10_Pool_Is.f (RR L) (MM L) N = some false := by
  unfold credenzaref10_Pool_Is.f
  by_cases h1 : N ≥ 0
  · rw [if_pos h1]
    obtain ⟨n, rfl⟩ := Int.eq_ofNat_of_zero_le h1
    by_cases h2 : n < L.length
    · obtain ⟨x, hx⟩ : ∃ x, L[n]? = some x := ⟨_, List.getElem?_eq_getElem h2⟩
      have hz := not_held hh x h1 (by rw [Int.toNat_natCast]; exact hx)
      rw [if_pos (by rw [RR_len]; omega), if_pos h1, rd_RR hx, hz]
      rfl
    · rw [if_neg (by rw [RR_len]; omega)]
  · rw [if_neg h1]
theorem change_not {L : List Slot} {N : Int} (hh : ¬ Held L N) (hr : ∀ x ∈ L, 0 ≤ x.refs) (by_ : Int) : credenzaref10_Pool_Change.f (RR L) (MM L) N by_ = some (RR L, MM L, 14) := by
  unfold credenzaref10_Pool_Change.f
  rw [is_not hh hr]
  rfl
theorem change_held {L : List Slot} {n : Nat} {x : Slot} (hL : L.length ≤ 190) (hx : L[n]? = some x) (hr : 0 < x.refs) (by_ : Int) : credenzaref10_Pool_Change.f (RR L) (MM L) (n : Int) by_ = some ((RR L).set n (wrap64 (x.refs + by_)), MM L, 0) := by
  have hlt := (List.getElem?_eq_some_iff.mp hx).1
  unfold credenzaref10_Pool_Change.f
  rw [is_held hx hr, Option.bind_some, if_pos rfl, if_pos (by omega), if_pos (by rw [RR_len]; omega), rd_RR hx, with_eq _ n _ (by rw [RR_len]; exact hlt) (by rw [RR_len]; omega)]
  rfl
theorem MM_same {L : List Slot} {n : Nat} {x : Slot} (hx : L[n]? = some x) (r : Int) (p : Option Nat) : MM (L.set n ⟨r, x.mark, p⟩) = MM L := by
  rw [MM, List.map_set]
  show (MM L).set n x.mark = MM L
  apply List.ext_getElem?
  intro i
  by_cases e : i = n
  · subst e
    rw [List.getElem?_set_self (by rw [MM_len]; exact (List.getElem?_eq_some_iff.mp hx).1), MM_get hx]
  · rw [List.getElem?_set_ne (fun q => e q.symm)]
theorem holdR_ref {L L' : List Slot} {f N f' e : Int} (hL : L.length ≤ 190) (hr : ∀ x ∈ L, 0 ≤ x.refs ∧ x.refs ≤ 100000) (h : HoldR L f N L' f' e) : credenzaref10_Pool_Change.f (RR L) (MM L) N 1 = some (RR L', MM L', e) := by
  rcases h with ⟨n, x, rfl, hx, hz, rfl, -, rfl⟩ | ⟨hh, rfl, -, rfl⟩
  · have hb := hr x (List.mem_of_getElem? hx)
    rw [change_held hL hx (by omega), show wrap64 (x.refs + 1) = x.refs + 1 from by simp only [wrap64]; omega, MM_same hx, RR, RR, List.map_set]
  · exact change_not hh (fun x hx => (hr x hx).1) 1
theorem dropR_ref {L L' : List Slot} {f N f' e : Int} (hL : L.length ≤ 190) (hr : ∀ x ∈ L, 0 ≤ x.refs ∧ x.refs ≤ 100000) (h : DropR L f N L' f' e) : credenzaref10_Pool_Change.f (RR L) (MM L) N (-1) = some (RR L', MM L', e) := by
  rcases h with ⟨n, x, rfl, hx, hz, rfl, -, rfl⟩ | ⟨hh, rfl, -, rfl⟩
  · have hb := hr x (List.mem_of_getElem? hx)
    rw [change_held hL hx (by omega), show wrap64 (x.refs + -1) = x.refs + -1 from by simp only [wrap64]; omega]
    by_cases q : x.refs = 1
    · rw [less_zero x q, MM_same hx, RR, RR, List.map_set, q]
      rfl
    · rw [less_more x q, MM_same hx, RR, RR, List.map_set]
  · exact change_not hh (fun x hx => (hr x hx).1) (-1)
open Classical in
theorem holdR_any (L : List Slot) (f N : Int) : ∃ L' f' e, HoldR L f N L' f' e := by
  by_cases hh : Held L N
  · obtain ⟨n, x, rfl, hx, hr⟩ := hh
    exact ⟨_, _, _, .inl ⟨n, x, rfl, hx, hr, rfl, rfl, rfl⟩⟩
  · exact ⟨_, _, _, .inr ⟨hh, rfl, rfl, rfl⟩⟩
open Classical in
theorem dropR_any (L : List Slot) (f N : Int) : ∃ L' f' e, DropR L f N L' f' e := by
  by_cases hh : Held L N
  · obtain ⟨n, x, rfl, hx, hr⟩ := hh
    exact ⟨_, _, _, .inl ⟨n, x, rfl, hx, hr, rfl, rfl, rfl⟩⟩
  · exact ⟨_, _, _, .inr ⟨hh, rfl, rfl, rfl⟩⟩
theorem new_go (n : Nat) (hn : n ≤ 1000) : ∀ (d j kk : Nat), j + d = n → d < kk → credenzaref10_New.l0 kk (n : Int) (j : Int) (List.replicate j 0) (List.replicate j 0) = some (List.replicate n 0, List.replicate n 0)
  | 0, j, kk + 1, hd, _ => by
    obtain rfl : j = n := by omega
    rw [credenzaref10_New.l0, if_neg (by omega)]
  | d + 1, j, kk + 1, hd, hk => by
    rw [credenzaref10_New.l0, if_pos (by omega), if_pos (by rw [List.length_replicate]; omega), if_pos (by rw [List.length_replicate]; omega), w64n j (by omega), show List.replicate j (0 : Int) ++ [0] = List.replicate (j + 1) 0 from List.replicate_succ'.symm]
    exact new_go n hn d (j + 1) kk (by omega) (by omega)
theorem new_ref (n : Nat) (hn : n ≤ 190) : credenzaref10_New.f 200 (n : Int) = some (RR (List.replicate n ⟨0, 0, none⟩), MM (List.replicate n ⟨0, 0, none⟩)) := by
  unfold credenzaref10_New.f
  have h := new_go n (by omega) n 0 200 (by omega) (by omega)
  rw [RR, MM, List.map_replicate, List.map_replicate]
  exact h
theorem free_go (L : List Slot) (hL : L.length ≤ 1000) : ∀ (d n kk : Nat), n + d = L.length → d < kk → credenzaref10_Pool_Free.l0 kk ((n : Int) - cnt (L.take n)) (n : Int) (RR L) (MM L) = some ((L.length : Int) - cnt L)
  | 0, n, kk + 1, hd, _ => by
    obtain rfl : n = L.length := by omega
    rw [credenzaref10_Pool_Free.l0, if_neg (by rw [RR_len]; omega), List.take_length]
  | d + 1, n, kk + 1, hd, hk => by
    obtain ⟨x, hx⟩ : ∃ x, L[n]? = some x := ⟨_, List.getElem?_eq_getElem (by omega)⟩
    have hb := cnt_bound (L.take n)
    rw [List.length_take] at hb
    have ht : L.take (n + 1) = L.take n ++ [x] := by
      rw [List.take_succ_eq_append_getElem (by omega)]
      congr 1
      rw [List.getElem?_eq_getElem (by omega)] at hx
      rw [Option.some.inj hx]
    have ih := free_go L hL d (n + 1) kk (by omega) (by omega)
    rw [ht, cnt_append] at ih
    rw [credenzaref10_Pool_Free.l0, if_pos (by rw [RR_len]; omega), if_pos (by omega), rd_RR hx, w64n n (by omega)]
    by_cases q : x.refs = 0
    · rw [if_pos q, show wrap64 ((n : Int) - cnt (L.take n) + 1) = ((n + 1 : Nat) : Int) - (cnt (L.take n) + cnt [x]) from by simp only [cnt, if_pos q, wrap64]; omega]
      exact ih
    · rw [if_neg q, show (n : Int) - cnt (L.take n) = ((n + 1 : Nat) : Int) - (cnt (L.take n) + cnt [x]) from by simp only [cnt, if_neg q]; omega]
      exact ih
theorem free_ref (L : List Slot) (hL : L.length ≤ 190) : credenzaref10_Pool_Free.f 200 (RR L) (MM L) = some ((L.length : Int) - cnt L) := by
  unfold credenzaref10_Pool_Free.f
  exact free_go L (by omega) L.length 0 200 (by omega) (by omega)
theorem used_go (L : List Slot) (hL : L.length ≤ 1000) (hr : ∀ x ∈ L, 0 ≤ x.refs) : ∀ (d n kk : Nat), n + d = L.length → d < kk → credenzaref10_Pool_Used.l0 kk (usedTo L n) (n : Int) (RR L) (MM L) = some (usedTo L L.length)
  | 0, n, kk + 1, hd, _ => by
    obtain rfl : n = L.length := by omega
    rw [credenzaref10_Pool_Used.l0, if_neg (by rw [RR_len]; omega)]
  | d + 1, n, kk + 1, hd, hk => by
    obtain ⟨x, hx⟩ : ∃ x, L[n]? = some x := ⟨_, List.getElem?_eq_getElem (by omega)⟩
    have ih := used_go L hL hr d (n + 1) kk (by omega) (by omega)
    have hul := usedTo_le L n
    have hxr := hr x (List.mem_of_getElem? hx)
    rw [usedTo, List.getD_eq_getElem?_getD, hx, Option.getD_some] at ih
    rw [credenzaref10_Pool_Used.l0, if_pos (by rw [RR_len]; omega), if_pos (by omega), rd_RR hx, w64n n (by omega)]
    by_cases q : x.refs = 0
    · rw [if_pos q] at ih
      rw [if_neg (by omega)]
      exact ih
    · rw [if_neg q] at ih
      rw [if_pos (by omega), if_pos (by omega)]
      exact ih
theorem used_ref (L : List Slot) (hL : L.length ≤ 190) (hr : ∀ x ∈ L, 0 ≤ x.refs) : credenzaref10_Pool_Used.f 200 (RR L) (MM L) = some (usedTo L L.length) := by
  unfold credenzaref10_Pool_Used.f
  exact used_go L (by omega) hr L.length 0 200 (by omega) (by omega)
theorem same_go (l : List Int) (hl : l.length ≤ 1000) : ∀ (d n kk : Nat), n + d = l.length → d < kk → credenzalaw10_same.l0 kk l l (l.length : Int) (n : Int) = some true
  | 0, n, kk + 1, hd, _ => by
    rw [credenzalaw10_same.l0, if_neg (by omega)]
  | d + 1, n, kk + 1, hd, hk => by
    rw [credenzalaw10_same.l0, if_pos (by omega), if_pos (by omega), if_pos (by omega), if_pos (by omega), if_pos rfl, w64n n (by omega)]
    exact same_go l hl d (n + 1) kk (by omega) (by omega)
theorem same_ref (l : List Int) (hl : l.length ≤ 190) : credenzalaw10_same.f 200 l l = some true := by
  unfold credenzalaw10_same.f
  rw [if_pos rfl]
  exact same_go l (by omega) l.length 0 200 (by omega) (by omega)
/-- A call that loses no slot. -/
structure OkQ (L : List Slot) (f : Int) (L' : List Slot) (f' : Int) : Prop where
  len : L'.length = L.length
  sum : f' + cnt L' = f + cnt L
  top : ∀ c : Int, 1 ≤ c → (∀ x ∈ L, x.refs ≤ c) → ∀ x ∈ L', x.refs ≤ c + 1
theorem OkQ.same (L : List Slot) (f : Int) : OkQ L f L f := ⟨rfl, rfl, fun c _ h x hx => by have := h x hx; omega⟩
theorem OkQ.put {L L' : List Slot} {f f' m i e : Int} (h : PutR L f m L' f' i e) : OkQ L f L' f' := by
  rcases h with ⟨k, y, b, hy, hz, -, rfl, rfl, -, -⟩ | ⟨-, rfl, rfl, -, -⟩
  · have hc := cnt_set ⟨1, m, some b⟩ L k y hy
    rw [if_pos hz, if_neg (show ¬ (1 : Int) = 0 by decide)] at hc
    refine ⟨List.length_set, by omega, fun c h1 h x hx => ?_⟩
    rcases List.mem_or_eq_of_mem_set hx with hx | rfl
    · have := h x hx; omega
    · show (1 : Int) ≤ c + 1; omega
  · exact OkQ.same _ _
theorem OkQ.hold {L L' : List Slot} {f f' N e : Int} (h : HoldR L f N L' f' e) (hr : ∀ x ∈ L, 0 ≤ x.refs) : OkQ L f L' f' := by
  rcases h with ⟨n, x, rfl, hx, hz, rfl, rfl, -⟩ | ⟨-, rfl, rfl, -⟩
  · have hx0 := hr x (List.mem_of_getElem? hx)
    have hc := cnt_set ⟨x.refs + 1, x.mark, x.pg⟩ L n x hx
    rw [if_neg hz, if_neg (show ¬ x.refs + 1 = 0 by omega)] at hc
    refine ⟨List.length_set, by omega, fun c h1 h y hy => ?_⟩
    rcases List.mem_or_eq_of_mem_set hy with hy | rfl
    · have := h y hy; omega
    · have := h x (List.mem_of_getElem? hx); show x.refs + 1 ≤ c + 1; omega
  · exact OkQ.same _ _
theorem OkQ.drop {L L' : List Slot} {f f' N e : Int} (h : DropR L f N L' f' e) : OkQ L f L' f' := by
  rcases h with ⟨n, x, rfl, hx, hz, rfl, rfl, -⟩ | ⟨-, rfl, rfl, -⟩
  · have hc := cnt_set x.less L n x hx
    by_cases q : x.refs = 1
    · rw [less_zero x q] at hc ⊢
      rw [if_neg hz, if_pos (show (0 : Int) = 0 from rfl)] at hc
      rw [if_pos q]
      refine ⟨List.length_set, by omega, fun c h1 h y hy => ?_⟩
      rcases List.mem_or_eq_of_mem_set hy with hy | rfl
      · have := h y hy; omega
      · show (0 : Int) ≤ c + 1; omega
    · rw [less_more x q] at hc ⊢
      rw [if_neg hz, if_neg (show ¬ x.refs + -1 = 0 by omega)] at hc
      rw [if_neg q]
      refine ⟨List.length_set, by omega, fun c h1 h y hy => ?_⟩
      rcases List.mem_or_eq_of_mem_set hy with hy | rfl
      · have := h y hy; omega
      · have := h x (List.mem_of_getElem? hx); show x.refs + -1 ≤ c + 1; omega
  · exact OkQ.same _ _
open Classical in
/-- Any call, on both. -/
theorem stepPlays.calls (k : Nat) (hk : madeAll k = true) (w0 w : World) (hB : Below w0.heap.size w0 w) (g s : Nat) (L : List Slot) (f : Int) (hP : PoolAt w g s L f) (hg : w0.heap.size ≤ g) (hs : w0.heap.size ≤ s) (hf : -1000 ≤ f ∧ f ≤ 1000) (hL : L.length ≤ 190) (hm : ∀ x ∈ L, x.refs ≤ 1000) (v0 v1 : Value) (hX : XAt w0.heap.size w v0 v1 (RR L) (MM L)) (K N : Int) :
    Calls Try.prog 14 #[.pointer (some ⟨g, 0, none⟩), .agg #[v0, v1], .agg #[.int .i64 K, .int .i64 N]] w fun e w' => ∃ u0 u1 L' f', e = .returned (.tuple #[.agg #[u0, u1], .bool true]) ∧ XAt w0.heap.size w' u0 u1 (RR L') (MM L') ∧ PoolAt w' g s L' f' ∧ OkQ L f L' f' ∧ Below w0.heap.size w0 w' ∧ Kept w w' (fun k_ => (k_ = g ∨ k_ = s) ∨ (some k_ = v0.ownBlock ∨ some k_ = v1.ownBlock)) := by
  have hr : ∀ x ∈ L, 0 ≤ x.refs ∧ x.refs ≤ 100000 := fun x hx => ⟨(hP.hr x hx).1, by have := hm x hx; omega⟩
  by_cases k1 : K = 1
  · subst k1
    obtain ⟨L1, f1, i1, e1, h1⟩ := putR_any L f (mk N)
    have hput := putR_ref hL h1
    refine (stepPut.calls k 200 hk w0 w hB g s L f hP hg hs (by omega) v0 v1 _ _ hX N _ _ i1 e1 hput).mono ?_
    rintro e w' ⟨u0, u1, L', f', i2, e2, rfl, h2, h3, h4, h5, h7⟩
    have h6 := (putR_ref hL h4).symm.trans hput
    simp only [Option.some.injEq, Prod.mk.injEq] at h6
    obtain ⟨q1, q2, rfl, rfl⟩ := h6
    exact ⟨u0, u1, L', f', by simp, by rw [q1, q2]; exact h2, h3, OkQ.put h4, h5, h7⟩
  by_cases k2 : K = 2
  · subst k2
    obtain ⟨L1, f1, e1, h1⟩ := holdR_any L f N
    have hch := holdR_ref hL hr h1
    refine (stepHold.calls k hk w0 w hB g s L f hP hg hs v0 v1 _ _ hX (fun x hx => by have := hm x hx; omega) N _ _ e1 hch).mono ?_
    rintro e w' ⟨u0, u1, L', f', e2, rfl, h2, h3, h4, h5, h7⟩
    have h6 := (holdR_ref hL hr h4).symm.trans hch
    simp only [Option.some.injEq, Prod.mk.injEq] at h6
    obtain ⟨q1, q2, rfl⟩ := h6
    exact ⟨u0, u1, L', f', by simp, by rw [q1, q2]; exact h2, h3, OkQ.hold h4 (fun x hx => (hr x hx).1), h5, h7⟩
  by_cases k3 : K = 3
  · subst k3
    obtain ⟨L1, f1, e1, h1⟩ := dropR_any L f N
    have hch := dropR_ref hL hr h1
    refine (stepDrop.calls k hk w0 w hB g s L f hP hg hs v0 v1 _ _ hX (by omega) N _ _ e1 hch).mono ?_
    rintro e w' ⟨u0, u1, L', f', e2, rfl, h2, h3, h4, h5, h7⟩
    have h6 := (dropR_ref hL hr h4).symm.trans hch
    simp only [Option.some.injEq, Prod.mk.injEq] at h6
    obtain ⟨q1, q2, rfl⟩ := h6
    exact ⟨u0, u1, L', f', by simp, by rw [q1, q2]; exact h2, h3, OkQ.drop h4, h5, h7⟩
  by_cases hh : Held L N
  · obtain ⟨n, x, rfl, hx, hz⟩ := id hh
    have hb := hr x (List.mem_of_getElem? hx)
    obtain ⟨b, eb, -⟩ := hP.hp x (List.mem_of_getElem? hx) hz
    refine (stepGetYes.calls k hk w0 w hB g s L f hP hg hs v0 v1 _ _ hX K _ ⟨k1, k2, k3⟩ n x b rfl hx hz eb (RR_get hx) (MM_get hx) (is_held hx (by omega))).mono ?_
    rintro e w' ⟨u0, u1, rfl, h2, h3, h4, h7⟩
    exact ⟨u0, u1, L, f, rfl, h2, h3, OkQ.same _ _, h4, h7⟩
  · refine (stepGetNo.calls k hk w0 w hB g s L f hP hg hs v0 v1 _ _ hX K N ⟨k1, k2, k3⟩ hh (is_not hh (fun x hx => (hr x hx).1))).mono ?_
    rintro e w' ⟨u0, u1, rfl, h2, h3, h4, h7⟩
    exact ⟨u0, u1, L, f, rfl, h2, h3, OkQ.same _ _, h4, h7⟩
theorem kept_box {B : Nat} {W W' : World} {v0 v1 : Value} {l0 l1 : List Int} {g s : Nat} {L : List Slot} {f : Int} (hp : PoolAt W g s L f) (h : XAt B W v0 v1 l0 l1) (hk : Kept W W' (fun k_ => (k_ = g ∨ k_ = s) ∨ (some k_ = v0.ownBlock ∨ some k_ = v1.ownBlock))) {b t : Nat} {ds : Array Value} (hb : W.heap[b]? = some (.cells ds t (0, 0))) (ht : t ≠ 3) (h1 : t ≠ 77) (h2 : t ≠ 88) : W'.heap[b]? = some (.cells ds t (0, 0)) :=
  blk_kept hb hk (fun e => e.elim (fun e => e.elim (blk_ne hb hp.hg h1) (blk_ne hb hp.hs h2)) (fun e => e.elim (fun e => by obtain ⟨cs, hc⟩ := h.typed0 e; exact blk_ne hb hc ht rfl) (fun e => by obtain ⟨cs, hc⟩ := h.typed1 e; exact blk_ne hb hc ht rfl)))
def pplays.T14 : Bool × List (List Nat × List Nat) := (true, [([], []), ([0], [0]), ([1], [1]), ([2], [2]), ([3, 2, 2], [2, 3]), ([2], [2]), ([5, 4, 2], [2, 5]), ([4, 6, 2], [2, 4, 6]), ([2, 7], [2, 7]), ([8, 6], [8]), ([9], [9]), ([10, 9, 9], [9, 10]), ([9], [9]), ([11, 12, 9], [9, 11, 12]), ([9, 13], [9, 13]), ([14, 11], [14]), ([15], [15]), ([16, 15, 15], [15, 16]), ([15], [15]), ([18, 17, 15], [15, 18]), ([17, 19, 19, 15], [15, 17, 19]), ([20, 15], [15, 20]), ([15, 21], [15, 21])])
def pplays.B14 : List Nat := [0, 1, 3, 7, 15, 7, 63, 127, 255, 511, 1023, 2047, 1023, 8191, 16383, 32767, 65535, 131071, 65535, 524287, 1048575, 2097151, 4194303]
theorem pplays.tab14 : rtab .any (opsOf Try.f3 14) = pplays.T14 := by kernel_rfl
theorem pplays.bits14 : waitsOk pplays.T14.2 pplays.B14 = true := by kernel_rfl
set_option maxHeartbeats 8000000 in
set_option maxRecDepth 100000 in
theorem poolPlays.calls (k : Nat) (hk : madeAll k = true) (s0 : Int) (A : Option Addr) (c : Nat) (l : List S33) (w : World) (hr0 : Kd.C k33 w A l.length l) (hc0 : l.length ≤ c) :
    Calls Try.prog 3 #[.int .i64 s0, .slice A l.length c] w fun e w' => e = .returned (.bool true) ∧ Below w.heap.size w w' := by
  have HK := Aside0.mk hk
  have HR := Aside0.mk hr0
  have HB := Aside0.mk (Below.refl w.heap.size w)
  have hu33 := Try.underlying33
  have hu30 := Try.underlying30
  clear hk hr0 hc0
  by_cases q1 : 60 < l.length
  · have d1 : decide (60 < l.length) = true := decide_eq_true q1
    have d2 : decide (60 < (l.length : Int)) = true := decide_eq_true (by omega)
    go_enter Try.func3, Try.ntmps3
    go_wp2_with (go_at_call 11; (refine (poolAwake.calls k HK.out _).mono ?_); rintro e w1 ⟨rfl, hb⟩; replace HB := Aside0.mk (below_step HB.out hb); clear hb)
    go_ret
    exact ⟨rfl, HB.out⟩
  have d1 : decide (60 < l.length) = false := decide_eq_false q1
  have d2 : decide (60 < (l.length : Int)) = false := decide_eq_false (by omega)
  by_cases q2 : s0 < 0
  · have e1 : decide (s0 < 0) = true := decide_eq_true q2
    have e2 : decide (100 < s0) = false := decide_eq_false (by omega)
    go_enter Try.func3, Try.ntmps3
    go_wp2_with (first | (go_at_call 11; (refine (poolAwake.calls k HK.out _).mono ?_); rintro e w1 ⟨rfl, hb⟩; replace HB := Aside0.mk (below_step HB.out hb); clear hb) | (go_at_call 12; (refine (poolNew.bad s0 (by omega) _).mono ?_); rintro e w1 ⟨rfl, rfl⟩; skip))
    go_ret
    exact ⟨by simp, HB.out⟩
  have e1 : decide (s0 < 0) = false := decide_eq_false q2
  by_cases q3 : 16384 < s0
  · have e2 : decide (100 < s0) = true := decide_eq_true (by omega)
    have e3 : decide (s0 ≤ 16384) = false := decide_eq_false (by omega)
    have e4 : decide (16384 < s0) = true := decide_eq_true q3
    go_enter Try.func3, Try.ntmps3
    go_wp2_with (first | (go_at_call 11; (refine (poolAwake.calls k HK.out _).mono ?_); rintro e w1 ⟨rfl, hb⟩; replace HB := Aside0.mk (below_step HB.out hb); clear hb) | (go_at_call 12; (refine (poolNew.bad s0 (by omega) _).mono ?_); rintro e w1 ⟨rfl, rfl⟩; skip))
    go_ret
    exact ⟨by simp, HB.out⟩
  have e4 : decide (16384 < s0) = false := decide_eq_false q3
  have e3 : decide (s0 ≤ 16384) = true := decide_eq_true (by omega)
  by_cases q4 : 100 < s0
  · have e2 : decide (100 < s0) = true := decide_eq_true q4
    go_enter Try.func3, Try.ntmps3
    go_wp2_with (go_at_call 11; (refine (poolAwake.calls k HK.out _).mono ?_); rintro e w1 ⟨rfl, hb⟩; replace HB := Aside0.mk (below_step HB.out hb); clear hb)
    go_ret
    exact ⟨rfl, HB.out⟩
  have e2 : decide (100 < s0) = false := decide_eq_false q4
  obtain ⟨n, rfl⟩ := Int.eq_ofNat_of_zero_le (Int.not_lt.mp q2)
  have HN := Aside0.mk (show n ≤ 100 by omega)
  have HL := Aside0.mk (show l.length ≤ 60 by omega)
  clear q1 q2 q3 q4
  go_enter Try.func3, Try.ntmps3
  go_upto_region 8 with (go_at_call 12; (refine (poolNew.calls n (by have := HN.out; omega) _).mono ?_); rintro e w1 ⟨g, s, rfl, hp, hg, hs, hb⟩; have P := Aside0.mk hp; have G := Aside0.mk hg; have S := Aside0.mk hs; replace HB := Aside0.mk (below_step HB.out hb); clear hp hg hs hb)
  go_upto_region 9 with (first | (go_at_call 13; (refine (credenzaref10_New.calls 200 (n : Int) _ _ _ (new_ref n (by have := HN.out; omega))).mono ?_); rintro e w2 ⟨v0, v1, rfl, r0, r1, hb⟩; have X := Aside0.mk (XAt.of (S := fun _ => True) (Kd.R_mono (Kd.R_lower r0 (below_size HB.out)) (fun _ h_ => ⟨trivial, h_⟩)) (Kd.R_mono (Kd.R_lower r1 (below_size HB.out)) (fun _ h_ => ⟨trivial, h_⟩))); obtain ⟨A0, c0, rfl⟩ := Kd.R_slice r0; obtain ⟨A1, c1, rfl⟩ := Kd.R_slice r1; replace P := Aside0.mk (P.out.below hb); replace HB := Aside0.mk (below_step HB.out hb); clear r0 r1 hb) | ((with_reducible refine gate_dst (N := 7) rfl ?_); refine box_event ?hg (N := 7) ?hd (cs := #[.slice none 0 0, .slice none 0 0]) (t := 30) ?hr ?_; (case hd => rfl); (case hg => rfl); (case hr => first | (go_simp; done) | (go_simp; rfl)); intro bx hg_ w3 hbox hb; have BX := Aside0.mk hbox; have GX := Aside0.mk (by rw [hg_]; exact below_size HB.out : w.heap.size ≤ bx); have hz := bx2 hbox; replace P := Aside0.mk (P.out.below hb); replace X := Aside0.mk (X.out.below hb); replace HB := Aside0.mk (below_step HB.out hb); skip; clear hbox hb hg_))
  have BX2 := Aside0.mk (blk_put (blk_put BX.out 0 (.slice A0 (RR (List.replicate n ⟨0, 0, none⟩)).length c0) (cs' := #[.slice A0 (RR (List.replicate n ⟨0, 0, none⟩)).length c0, .slice none 0 0]) rfl) 1 (.slice A1 (MM (List.replicate n ⟨0, 0, none⟩)).length c1) (cs' := #[.slice A0 (RR (List.replicate n ⟨0, 0, none⟩)).length c0, .slice A1 (MM (List.replicate n ⟨0, 0, none⟩)).length c1]) rfl)
  replace P := Aside0.mk ((P.out.beside BX.out (by decide) 0 (.slice A0 (RR (List.replicate n ⟨0, 0, none⟩)).length c0)).beside (blk_put BX.out 0 (.slice A0 (RR (List.replicate n ⟨0, 0, none⟩)).length c0) rfl) (by decide) 1 (.slice A1 (MM (List.replicate n ⟨0, 0, none⟩)).length c1))
  replace X := Aside0.mk ((X.out.aside BX.out (by decide) 0 (.slice A0 (RR (List.replicate n ⟨0, 0, none⟩)).length c0)).aside (blk_put BX.out 0 (.slice A0 (RR (List.replicate n ⟨0, 0, none⟩)).length c0) rfl) (by decide) 1 (.slice A1 (MM (List.replicate n ⟨0, 0, none⟩)).length c1))
  replace HB := Aside0.mk ((HB.out.setCell (p := ⟨bx, 0, none⟩) GX.out (.slice A0 (RR (List.replicate n ⟨0, 0, none⟩)).length c0)).setCell (p := ⟨bx, 1, none⟩) GX.out (.slice A1 (MM (List.replicate n ⟨0, 0, none⟩)).length c1))
  clear BX hz
  generalize (w3.setCell ⟨bx, 0, none⟩ (.slice A0 (RR (List.replicate n ⟨0, 0, none⟩)).length c0)).setCell ⟨bx, 1, none⟩ (.slice A1 (MM (List.replicate n ⟨0, 0, none⟩)).length c1) = w4 at P X BX2 HB ⊢
  have hcnt : ∀ m : Nat, cnt (List.replicate m ⟨0, 0, none⟩) = 0 := by
    intro m
    induction m with
    | zero => rfl
    | succ m ih => rw [List.replicate_succ, cnt, ih]; rfl
  have HC := Aside0.mk hcnt
  clear hcnt
  go_wp2
  go_loopw [53] (fun i W' => ∃ (a : Nat) (L : List Slot) (f : Int) (u0 u1 : Value), i = .int .i64 a ∧ Aside0 (a ≤ l.length ∧ L.length = n ∧ f + cnt L = n ∧ ∀ x ∈ L, x.refs ≤ 1 + (a : Int)) ∧ Aside0 (PoolAt W' g s L f) ∧ Aside0 (XAt w.heap.size W' u0 u1 (RR L) (MM L)) ∧ Aside0 (W'.heap[bx]? = some (.cells #[u0, u1] 30 (0, 0))) ∧ Aside0 (Below w.heap.size w W')) (fun i _ => l.length - (intOf i).toNat)
  case atStart => exact ⟨0, _, _, _, _, rfl, ⟨Nat.zero_le _, List.length_replicate, by rw [HC.out]; omega, fun x hx => by have e := List.eq_of_mem_replicate hx; subst e; show (0 : Int) ≤ 1 + ((0 : Nat) : Int); omega⟩, P, X, BX2, HB⟩
  case round =>
    clear HB P X BX2 HC
    obtain ⟨a, L, f, v0, v1, rfl, HJ, P, X, BX, HB⟩ := hrel
    by_cases q : a < l.length
    · have f1 : decide ((a : Int) < (l.length : Int)) = true := decide_eq_true (by omega)
      have f2 : decide (a < l.length) = true := decide_eq_true q
      have hw : wrap64 ((a : Int) + 1) = (a : Int) + 1 := by have := HL.out; simp only [wrap64]; omega
      have p0 : (0 : Int) ≤ (a : Int) := by omega
      have p1 : (a : Int) < (l.length : Int) := by omega
      obtain ⟨ad, he, hx0, hx1⟩ := at_T33 HR.out (a : Int) p0 p1
      cases he
      simp only [Int.toNat_natCast] at hx0 hx1
      replace hx0 := (HB.out.cell (World.block_lt_of_cell? w _ hx0)).trans hx0
      replace hx1 := (HB.out.cell (World.block_lt_of_cell? w _ hx1)).trans hx1
      obtain ⟨kd, hK⟩ : ∃ d, (rd_T33 l (a : Int)).f0 = d := ⟨_, rfl⟩
      obtain ⟨nm, hN⟩ : ∃ d, (rd_T33 l (a : Int)).f1 = d := ⟨_, rfl⟩
      rw [hK] at hx0
      rw [hN] at hx1
      clear hK hN
      obtain ⟨A0, c0, rfl⟩ := Kd.R_slice X.out.r0
      obtain ⟨A1, c1, rfl⟩ := Kd.R_slice X.out.r1
      go_upto_region 13 with ((with_reducible refine gate_dst (N := 9) rfl ?_); refine box_event ?hg (N := 9) ?hd (cs := #[.int .i64 0, .int .i64 0]) (t := 33) ?hr ?_; (case hd => rfl); (case hg => rfl); (case hr => first | (go_simp; done) | (go_simp; rfl)); intro bo hg_ w5 hbox hb; have BO := Aside0.mk hbox; have GO := Aside0.mk (by rw [hg_]; exact below_size HB.out : w.heap.size ≤ bo); have hz := bx2 hbox; replace P := Aside0.mk (P.out.below hb); replace X := Aside0.mk (X.out.below hb); replace BX := Aside0.mk (blk_below BX.out hb); replace HB := Aside0.mk (below_step HB.out hb); skip; clear hbox hb hg_)
      have BO2 := Aside0.mk (blk_put (blk_put BO.out 0 (.int .i64 kd) (cs' := #[.int .i64 kd, .int .i64 0]) rfl) 1 (.int .i64 nm) (cs' := #[.int .i64 kd, .int .i64 nm]) rfl)
      have hne := blk_ne BX.out BO.out (by decide)
      replace BX := Aside0.mk (blk_far (blk_far BX.out (p := ⟨bo, 0, none⟩) hne (.int .i64 kd)) (p := ⟨bo, 1, none⟩) hne (.int .i64 nm))
      replace P := Aside0.mk ((P.out.beside BO.out (by decide) 0 (.int .i64 kd)).beside (blk_put BO.out 0 (.int .i64 kd) (cs' := #[.int .i64 kd, .int .i64 0]) rfl) (by decide) 1 (.int .i64 nm))
      replace X := Aside0.mk ((X.out.aside BO.out (by decide) 0 (.int .i64 kd)).aside (blk_put BO.out 0 (.int .i64 kd) (cs' := #[.int .i64 kd, .int .i64 0]) rfl) (by decide) 1 (.int .i64 nm))
      replace HB : Aside0 (Below w.heap.size w ((w5.setCell ⟨bo, 0, none⟩ (.int .i64 kd)).setCell ⟨bo, 1, none⟩ (.int .i64 nm))) := ⟨(HB.out.setCell (p := ⟨bo, 0, none⟩) GO.out _).setCell (p := ⟨bo, 1, none⟩) GO.out _⟩
      clear hz BO hx0 hx1 hne
      generalize (w5.setCell ⟨bo, 0, none⟩ (.int .i64 kd)).setCell ⟨bo, 1, none⟩ (.int .i64 nm) = w6 at P X BX HB BO2 ⊢
      have hz := bx2 BO2.out
      have hz2 := bx2 BX.out
      have HFB : Aside0 (-1000 ≤ f ∧ f ≤ 1000) := ⟨by have h1 := HJ.out.2.2.1; have h2 := cnt_bound L; have := HJ.out.2.1; have := HN.out; omega⟩
      have HM : Aside0 (∀ x ∈ L, x.refs ≤ 1000) := ⟨fun x hx => by have := HJ.out.2.2.2 x hx; have := HL.out; omega⟩
      have HLL : Aside0 (L.length ≤ 190) := ⟨by have := HJ.out.2.1; have := HN.out; omega⟩
      go_upto_region 14 with (go_at_call 14; (refine (stepPlays.calls k HK.out w _ HB.out g s L f P.out G.out S.out HFB.out HLL.out HM.out (.slice A0 (RR L).length c0) (.slice A1 (MM L).length c1) X.out kd nm).mono ?_); rintro e w7 ⟨u0, u1, L1, f1_, rfl, hx, hp, hok, hb, hkp⟩; obtain ⟨B0, d0, rfl⟩ := Kd.R_slice hx.r0; obtain ⟨B1, d1_, rfl⟩ := Kd.R_slice hx.r1; replace BX := Aside0.mk (kept_box P.out X.out hkp BX.out (by decide) (by decide) (by decide)); replace P := Aside0.mk hp; replace X := Aside0.mk hx; replace HB := Aside0.mk hb; have OK := Aside0.mk hok; clear hz hz2 hx hp hb hok hkp BO2; have hz := bx2 BX.out)
      have BX2 := Aside0.mk (blk_put (blk_put BX.out 0 (.slice B0 (RR L1).length d0) rfl) 1 (.slice B1 (MM L1).length d1_) (cs' := #[.slice B0 (RR L1).length d0, .slice B1 (MM L1).length d1_]) rfl)
      replace P := Aside0.mk ((P.out.beside BX.out (by decide) 0 (.slice B0 (RR L1).length d0)).beside (blk_put BX.out 0 (.slice B0 (RR L1).length d0) rfl) (by decide) 1 (.slice B1 (MM L1).length d1_))
      replace X := Aside0.mk ((X.out.aside BX.out (by decide) 0 (.slice B0 (RR L1).length d0)).aside (blk_put BX.out 0 (.slice B0 (RR L1).length d0) rfl) (by decide) 1 (.slice B1 (MM L1).length d1_))
      replace HB := Aside0.mk ((HB.out.setCell (p := ⟨bx, 0, none⟩) GX.out (.slice B0 (RR L1).length d0)).setCell (p := ⟨bx, 1, none⟩) GX.out (.slice B1 (MM L1).length d1_))
      clear BX hz
      generalize (w7.setCell ⟨bx, 0, none⟩ (.slice B0 (RR L1).length d0)).setCell ⟨bx, 1, none⟩ (.slice B1 (MM L1).length d1_) = w8 at P X BX2 HB ⊢
      have HI : Aside0 (L1.length = n ∧ f1_ + cnt L1 = n ∧ L1.length ≤ 190 ∧ ∀ x ∈ L1, x.refs ≤ 1 + ((a + 1 : Nat) : Int)) := ⟨OK.out.len.trans HJ.out.2.1, OK.out.sum.trans HJ.out.2.2.1, by rw [OK.out.len]; exact HLL.out, fun x hx => by have := OK.out.top (1 + (a : Int)) (by omega) HJ.out.2.2.2 x hx; omega⟩
      have HFR : Aside0 (credenzaref10_Pool_Free.f 200 (RR L1) (MM L1) = some f1_) := ⟨by rw [free_ref L1 HI.out.2.2.1]; congr 1; have := HI.out.1; have := HI.out.2.1; omega⟩
      have HUS := Aside0.mk (used_ref L1 HI.out.2.2.1 (fun x hx => (P.out.hr x hx).1))
      have HSM := Aside0.mk (same_ref (usedTo L1 L1.length) (Nat.le_trans (usedTo_le L1 _) HI.out.2.2.1))
      have hln : ((L1.length : Int) == (n : Int)) = true := beq_iff_eq.mpr (by rw [HI.out.1])
      have hln2 : ((L1.length : Int) != (n : Int)) = false := bne_eq_false_iff_eq.mpr (by rw [HI.out.1])
      have HAA : Aside0 (a + 1 ≤ l.length) := ⟨q⟩
      clear HJ HFB HM HLL OK
      replace P := Aside0.mk (P.out.drew)
      replace X := Aside0.mk (X.out.drew)
      replace BX2 := Aside0.mk (blk_drew BX2.out)
      replace HB := Aside0.mk (HB.out.drew)
      refine start_ (n := 23) (S := fun w' => w'.cell? ⟨bx, 0, none⟩ = some (.slice B0 (RR L1).length d0) ∧ w'.cell? ⟨bx, 1, none⟩ = some (.slice B1 (MM L1).length d1_)) (ds := []) #[false, false, false, false, false, false, false, false, false, false, false, false, false, false, false, false, false, false, false, false, false, false, false] (by kernel_rfl) rfl rfl ⟨(bx2 BX2.out).1, (bx2 BX2.out).2.1⟩ (fun hHeld => ?_); refine with_tabW pplays.tab14 pplays.bits14 (fun HT_ HW_ => ?_)
      generalize w8.drew = w9 at P X BX2 HB hHeld ⊢
      refine pure_ (i := 0) (N := some 64) (v := ?_) (a' := ?_) #[true, false, false, false, false, false, false, false, false, false, false, false, false, false, false, false, false, false, false, false, false, false, false] rfl rfl (any_of HT_.out (by kernel_rfl)) (fun _ _ _ h => h) (Or.inl ⟨by rfl, ?_⟩) ?_ ?_
      rotate_left
      · intro w'
        go_simp
        with_reducible rfl
      rotate_left
      · simp only [Act.put, List.setIfInBounds_toArray, List.set_cons_zero, List.set_cons_succ, i64_w, i32_w, IntKind.wrap_u32]
        rfl
      refine pure_ (i := 1) (N := some 65) (v := ?_) (a' := ?_) #[true, true, false, false, false, false, false, false, false, false, false, false, false, false, false, false, false, false, false, false, false, false, false] rfl rfl (any_of HT_.out (by kernel_rfl)) (fun _ _ _ h => h) (Or.inl ⟨by rfl, ?_⟩) ?_ ?_
      rotate_left
      · intro w'
        go_simp
        with_reducible rfl
      rotate_left
      · simp only [Act.put, List.setIfInBounds_toArray, List.set_cons_zero, List.set_cons_succ, i64_w, i32_w, IntKind.wrap_u32]
        rfl
      refine pure_ (i := 2) (N := some 66) (v := ?_) (a' := ?_) #[true, true, true, false, false, false, false, false, false, false, false, false, false, false, false, false, false, false, false, false, false, false, false] rfl rfl (any_of HT_.out (by kernel_rfl)) (fun _ _ _ h => h) (Or.inl ⟨by rfl, ?_⟩) ?_ ?_
      rotate_left
      · intro w'
        go_simp
        with_reducible rfl
      rotate_left
      · simp only [Act.put, List.setIfInBounds_toArray, List.set_cons_zero, List.set_cons_succ, i64_w, i32_w, IntKind.wrap_u32]
        rfl
      refine pure_ (i := 3) (N := some 67) (v := ?_) (a' := ?_) #[true, true, true, true, false, false, false, false, false, false, false, false, false, false, false, false, false, false, false, false, false, false, false] rfl rfl (any_of HT_.out (by kernel_rfl)) (fun _ _ _ h => h) (Or.inl ⟨by rfl, ?_⟩) ?_ ?_
      rotate_left
      · intro w'
        go_simp
        with_reducible rfl
      rotate_left
      · simp only [Act.put, List.setIfInBounds_toArray, List.set_cons_zero, List.set_cons_succ, i64_w, i32_w, IntKind.wrap_u32]
        rfl
      refine take_ (i := 5) (N := some 69) (v := ?_) (a' := ?_) #[true, true, true, true, false, true, false, false, false, false, false, false, false, false, false, false, false, false, false, false, false, false, false] rfl rfl (take_ofW HT_.out HW_.out (by kernel_rfl)) (fun _ _ _ h => h) (Or.inl ⟨by rfl, ?_⟩) hHeld ?_ ?_
      rotate_left
      · rintro w' ⟨s0, s1⟩
        go_simp
        with_reducible rfl
      rotate_left
      · simp only [Act.put, List.setIfInBounds_toArray, List.set_cons_zero, List.set_cons_succ, i64_w, i32_w, IntKind.wrap_u32]
        rfl
      refine one_ (i := 4) (N := some 68) #[true, true, true, true, true, true, false, false, false, false, false, false, false, false, false, false, false, false, false, false, false, false, false] rfl rfl (one_of HT_.out (by kernel_rfl)) (by decide) (fun K hK => ?_)
      refine goes_ Try.func15 (by kernel_rfl) rfl #[.pointer (some ⟨g, 0, none⟩)] (by rfl) rfl rfl (by simp only [List.map_toArray, List.map_cons, List.map_nil]; rfl) ?_
      with_reducible refine (poolFree.calls g s L1 f1_ _ P.out).mono ?_
      rintro e w10 ⟨rfl, rfl⟩
      refine ⟨_, rfl, ?_⟩
      refine hK.out _ _ ⟨(bx2 BX2.out).1, (bx2 BX2.out).2.1⟩ (fun hHeld => ?_)
      clear hK K
      refine norm_ (a' := ?_) ?_ ?_
      rotate_left
      · show Act.put _ (some 68) _ = _
        simp only [Act.put, List.setIfInBounds_toArray, List.set_cons_zero, List.set_cons_succ, i64_w, i32_w, IntKind.wrap_u32]
        rfl
      refine one_ (i := 6) (N := some 70) #[true, true, true, true, true, true, true, false, false, false, false, false, false, false, false, false, false, false, false, false, false, false, false] rfl rfl (one_of HT_.out (by kernel_rfl)) (by decide) (fun K hK => ?_)
      refine goes_ Try.func16 (by kernel_rfl) rfl #[.agg #[.slice B0 (RR L1).length d0, .slice B1 (MM L1).length d1_]] (by rfl) rfl rfl (by simp only [List.map_toArray, List.map_cons, List.map_nil]; rfl) ?_
      with_reducible refine (credenzaref10_Pool_Free.calls 200 B0 d0 (RR L1) B1 d1_ (MM L1) f1_ _ (Kd.R_reads' X.out.r0).2.2 (Kd.R_reads' X.out.r0).2.1 (Kd.R_reads' X.out.r1).2.2 (Kd.R_reads' X.out.r1).2.1 HFR.out).mono ?_
      rintro e w11 ⟨rfl, hb⟩
      refine ⟨_, rfl, ?_⟩
      replace P := Aside0.mk (P.out.below hb)
      replace X := Aside0.mk (X.out.below hb)
      replace BX2 := Aside0.mk (blk_below BX2.out hb)
      replace HB := Aside0.mk (below_step HB.out hb)
      clear hb
      refine hK.out _ _ ⟨(bx2 BX2.out).1, (bx2 BX2.out).2.1⟩ (fun hHeld => ?_)
      clear hK K
      refine norm_ (a' := ?_) ?_ ?_
      rotate_left
      · show Act.put _ (some 70) _ = _
        simp only [Act.put, List.setIfInBounds_toArray, List.set_cons_zero, List.set_cons_succ, i64_w, i32_w, IntKind.wrap_u32]
        rfl
      refine pure_ (i := 7) (N := some 71) (v := ?_) (a' := ?_) #[true, true, true, true, true, true, true, true, false, false, false, false, false, false, false, false, false, false, false, false, false, false, false] rfl rfl (any_of HT_.out (by kernel_rfl)) (fun _ _ _ h => h) (Or.inl ⟨by rfl, ?_⟩) ?_ ?_
      rotate_left
      · intro w'
        go_simp
        with_reducible rfl
      rotate_left
      · simp only [Act.put, List.setIfInBounds_toArray, List.set_cons_zero, List.set_cons_succ, i64_w, i32_w, IntKind.wrap_u32]
        rfl
      refine pure_ (i := 8) (N := some 72) (v := ?_) (a' := ?_) #[true, true, true, true, true, true, true, true, true, false, false, false, false, false, false, false, false, false, false, false, false, false, false] rfl rfl (any_of HT_.out (by kernel_rfl)) (fun _ _ _ h => h) (Or.inl ⟨by rfl, ?_⟩) ?_ ?_
      rotate_left
      · intro w'
        go_simp
        with_reducible rfl
      rotate_left
      · simp only [Act.put, List.setIfInBounds_toArray, List.set_cons_zero, List.set_cons_succ, i64_w, i32_w, IntKind.wrap_u32]
        rfl
      refine pure_ (i := 9) (N := some 73) (v := ?_) (a' := ?_) #[true, true, true, true, true, true, true, true, true, true, false, false, false, false, false, false, false, false, false, false, false, false, false] rfl rfl (any_of HT_.out (by kernel_rfl)) (fun _ _ _ h => h) (Or.inl ⟨by rfl, ?_⟩) ?_ ?_
      rotate_left
      · intro w'
        go_simp
        with_reducible rfl
      rotate_left
      · simp only [Act.put, List.setIfInBounds_toArray, List.set_cons_zero, List.set_cons_succ, i64_w, i32_w, IntKind.wrap_u32]
        rfl
      refine pure_ (i := 10) (N := some 74) (v := ?_) (a' := ?_) #[true, true, true, true, true, true, true, true, true, true, true, false, false, false, false, false, false, false, false, false, false, false, false] rfl rfl (any_of HT_.out (by kernel_rfl)) (fun _ _ _ h => h) (Or.inl ⟨by rfl, ?_⟩) ?_ ?_
      rotate_left
      · intro w'
        go_simp
        with_reducible rfl
      rotate_left
      · simp only [Act.put, List.setIfInBounds_toArray, List.set_cons_zero, List.set_cons_succ, i64_w, i32_w, IntKind.wrap_u32]
        rfl
      refine pure_ (i := 12) (N := some 76) (v := ?_) (a' := ?_) #[true, true, true, true, true, true, true, true, true, true, true, false, true, false, false, false, false, false, false, false, false, false, false] rfl rfl (any_of HT_.out (by kernel_rfl)) (fun _ _ _ h => h) (Or.inl ⟨by rfl, ?_⟩) ?_ ?_
      rotate_left
      · intro w'
        go_simp
        with_reducible rfl
      rotate_left
      · simp only [Act.put, List.setIfInBounds_toArray, List.set_cons_zero, List.set_cons_succ, i64_w, i32_w, IntKind.wrap_u32]
        rfl
      refine one_ (i := 11) (N := some 75) #[true, true, true, true, true, true, true, true, true, true, true, true, true, false, false, false, false, false, false, false, false, false, false] rfl rfl (one_of HT_.out (by kernel_rfl)) (by decide) (fun K hK => ?_)
      refine goes_ Try.func17 (by kernel_rfl) rfl #[.pointer (some ⟨g, 0, none⟩)] (by rfl) rfl rfl (by simp only [List.map_toArray, List.map_cons, List.map_nil]; rfl) ?_
      with_reducible refine (poolSlots.calls g s L1 f1_ _ P.out).mono ?_
      rintro e w12 ⟨rfl, rfl⟩
      refine ⟨_, rfl, ?_⟩
      refine hK.out _ _ ⟨(bx2 BX2.out).1, (bx2 BX2.out).2.1⟩ (fun hHeld => ?_)
      clear hK K
      refine norm_ (a' := ?_) ?_ ?_
      rotate_left
      · show Act.put _ (some 75) _ = _
        simp only [Act.put, List.setIfInBounds_toArray, List.set_cons_zero, List.set_cons_succ, i64_w, i32_w, IntKind.wrap_u32]
        rfl
      refine pure_ (i := 13) (N := some 77) (v := ?_) (a' := ?_) #[true, true, true, true, true, true, true, true, true, true, true, true, true, true, false, false, false, false, false, false, false, false, false] rfl rfl (any_of HT_.out (by kernel_rfl)) (fun _ _ _ h => h) (Or.inl ⟨by rfl, ?_⟩) ?_ ?_
      rotate_left
      · intro w'
        go_simp
        with_reducible rfl
      rotate_left
      · simp only [Act.put, List.setIfInBounds_toArray, List.set_cons_zero, List.set_cons_succ, i64_w, i32_w, IntKind.wrap_u32]
        rfl
      refine pure_ (i := 14) (N := some 78) (v := ?_) (a' := ?_) #[true, true, true, true, true, true, true, true, true, true, true, true, true, true, true, false, false, false, false, false, false, false, false] rfl rfl (any_of HT_.out (by kernel_rfl)) (fun _ _ _ h => h) (Or.inl ⟨by rfl, ?_⟩) ?_ ?_
      rotate_left
      · intro w'
        go_simp
        with_reducible rfl
      rotate_left
      · simp only [Act.put, List.setIfInBounds_toArray, List.set_cons_zero, List.set_cons_succ, i64_w, i32_w, IntKind.wrap_u32]
        rfl
      refine pure_ (i := 15) (N := some 79) (v := ?_) (a' := ?_) #[true, true, true, true, true, true, true, true, true, true, true, true, true, true, true, true, false, false, false, false, false, false, false] rfl rfl (any_of HT_.out (by kernel_rfl)) (fun _ _ _ h => h) (Or.inl ⟨by rfl, ?_⟩) ?_ ?_
      rotate_left
      · intro w'
        go_simp
        with_reducible rfl
      rotate_left
      · simp only [Act.put, List.setIfInBounds_toArray, List.set_cons_zero, List.set_cons_succ, i64_w, i32_w, IntKind.wrap_u32]
        rfl
      refine pure_ (i := 16) (N := some 80) (v := ?_) (a' := ?_) #[true, true, true, true, true, true, true, true, true, true, true, true, true, true, true, true, true, false, false, false, false, false, false] rfl rfl (any_of HT_.out (by kernel_rfl)) (fun _ _ _ h => h) (Or.inl ⟨by rfl, ?_⟩) ?_ ?_
      rotate_left
      · intro w'
        go_simp
        with_reducible rfl
      rotate_left
      · simp only [Act.put, List.setIfInBounds_toArray, List.set_cons_zero, List.set_cons_succ, i64_w, i32_w, IntKind.wrap_u32]
        rfl
      refine take_ (i := 18) (N := some 82) (v := ?_) (a' := ?_) #[true, true, true, true, true, true, true, true, true, true, true, true, true, true, true, true, true, false, true, false, false, false, false] rfl rfl (take_ofW HT_.out HW_.out (by kernel_rfl)) (fun _ _ _ h => h) (Or.inl ⟨by rfl, ?_⟩) hHeld ?_ ?_
      rotate_left
      · rintro w' ⟨s0, s1⟩
        go_simp
        with_reducible rfl
      rotate_left
      · simp only [Act.put, List.setIfInBounds_toArray, List.set_cons_zero, List.set_cons_succ, i64_w, i32_w, IntKind.wrap_u32]
        rfl
      refine one_ (i := 17) (N := some 81) #[true, true, true, true, true, true, true, true, true, true, true, true, true, true, true, true, true, true, true, false, false, false, false] rfl rfl (one_of HT_.out (by kernel_rfl)) (by decide) (fun K hK => ?_)
      refine goes_ Try.func19 (by kernel_rfl) rfl #[.pointer (some ⟨g, 0, none⟩)] (by rfl) rfl rfl (by simp only [List.map_toArray, List.map_cons, List.map_nil]; rfl) ?_
      with_reducible refine (poolUsed.calls g s L1 f1_ _ P.out).mono ?_
      rintro e w13 ⟨vv, rfl, hu, hb⟩
      refine ⟨_, rfl, ?_⟩
      replace P := Aside0.mk (P.out.below hb)
      replace X := Aside0.mk (X.out.below hb)
      replace BX2 := Aside0.mk (blk_below BX2.out hb)
      replace HB := Aside0.mk (below_step HB.out hb)
      obtain ⟨Ua, ua, rfl⟩ := Kd.R_slice hu
      have HU := Aside0.mk hu
      clear hb hu
      refine hK.out _ _ ⟨(bx2 BX2.out).1, (bx2 BX2.out).2.1⟩ (fun hHeld => ?_)
      clear hK K
      refine norm_ (a' := ?_) ?_ ?_
      rotate_left
      · show Act.put _ (some 81) _ = _
        simp only [Act.put, List.setIfInBounds_toArray, List.set_cons_zero, List.set_cons_succ, i64_w, i32_w, IntKind.wrap_u32]
        rfl
      refine one_ (i := 19) (N := some 83) #[true, true, true, true, true, true, true, true, true, true, true, true, true, true, true, true, true, true, true, true, false, false, false] rfl rfl (one_of HT_.out (by kernel_rfl)) (by decide) (fun K hK => ?_)
      refine goes_ Try.func20 (by kernel_rfl) rfl #[.agg #[.slice B0 (RR L1).length d0, .slice B1 (MM L1).length d1_]] (by rfl) rfl rfl (by simp only [List.map_toArray, List.map_cons, List.map_nil]; rfl) ?_
      with_reducible refine (credenzaref10_Pool_Used.calls 200 B0 d0 (RR L1) B1 d1_ (MM L1) _ _ (Kd.R_reads' X.out.r0).2.2 (Kd.R_reads' X.out.r0).2.1 (Kd.R_reads' X.out.r1).2.2 (Kd.R_reads' X.out.r1).2.1 HUS.out).mono ?_
      rintro e w14 ⟨vr, rfl, hu, hb⟩
      refine ⟨_, rfl, ?_⟩
      replace P := Aside0.mk (P.out.below hb)
      replace X := Aside0.mk (X.out.below hb)
      replace BX2 := Aside0.mk (blk_below BX2.out hb)
      replace HB := Aside0.mk (below_step HB.out hb)
      obtain ⟨Va, va, rfl⟩ := Kd.R_slice hu
      have HV := Aside0.mk hu
      replace HU := Aside0.mk (Kd.R_below HU.out hb)
      clear hb hu
      refine hK.out _ _ ⟨(bx2 BX2.out).1, (bx2 BX2.out).2.1⟩ (fun hHeld => ?_)
      clear hK K
      refine norm_ (a' := ?_) ?_ ?_
      rotate_left
      · show Act.put _ (some 83) _ = _
        simp only [Act.put, List.setIfInBounds_toArray, List.set_cons_zero, List.set_cons_succ, i64_w, i32_w, IntKind.wrap_u32]
        rfl
      refine one_ (i := 20) (N := some 84) #[true, true, true, true, true, true, true, true, true, true, true, true, true, true, true, true, true, true, true, true, true, false, false] rfl rfl (one_of HT_.out (by kernel_rfl)) (by decide) (fun K hK => ?_)
      refine goes_ Try.func18 (by kernel_rfl) rfl #[.slice Ua (usedTo L1 L1.length).length ua, .slice Va (usedTo L1 L1.length).length va] (by rfl) rfl rfl (by simp only [List.map_toArray, List.map_cons, List.map_nil]; rfl) ?_
      with_reducible refine (credenzalaw10_same.calls 200 Ua ua (usedTo L1 L1.length) Va va (usedTo L1 L1.length) true _ (Kd.R_reads' HU.out).2.2 (Kd.R_reads' HU.out).2.1 (Kd.R_reads' HV.out).2.2 (Kd.R_reads' HV.out).2.1 HSM.out).mono ?_
      rintro e w15 ⟨rfl, hd⟩
      refine ⟨_, rfl, ?_⟩
      have hb := hd.below
      replace P := Aside0.mk (P.out.below hb)
      replace X := Aside0.mk (X.out.below hb)
      replace BX2 := Aside0.mk (blk_below BX2.out hb)
      replace HB := Aside0.mk (below_step HB.out hb)
      clear hb hd HU HV
      refine hK.out _ _ ⟨(bx2 BX2.out).1, (bx2 BX2.out).2.1⟩ (fun hHeld => ?_)
      clear hK K
      refine norm_ (a' := ?_) ?_ ?_
      rotate_left
      · show Act.put _ (some 84) _ = _
        simp only [Act.put, List.setIfInBounds_toArray, List.set_cons_zero, List.set_cons_succ, i64_w, i32_w, IntKind.wrap_u32]
        rfl
      refine pure_ (i := 21) (N := some 85) (v := ?_) (a' := ?_) #[true, true, true, true, true, true, true, true, true, true, true, true, true, true, true, true, true, true, true, true, true, true, false] rfl rfl (any_of HT_.out (by kernel_rfl)) (fun _ _ _ h => h) (Or.inl ⟨by rfl, ?_⟩) ?_ ?_
      rotate_left
      · intro w'
        go_simp
        with_reducible rfl
      rotate_left
      · simp only [Act.put, List.setIfInBounds_toArray, List.set_cons_zero, List.set_cons_succ, i64_w, i32_w, IntKind.wrap_u32]
        rfl
      refine pure_ (i := 22) (N := some 86) (v := ?_) (a' := ?_) #[true, true, true, true, true, true, true, true, true, true, true, true, true, true, true, true, true, true, true, true, true, true, true] rfl rfl (any_of HT_.out (by kernel_rfl)) (fun _ _ _ h => h) (Or.inl ⟨by rfl, ?_⟩) ?_ ?_
      rotate_left
      · intro w'
        go_simp
        with_reducible rfl
      rotate_left
      · simp only [Act.put, List.setIfInBounds_toArray, List.set_cons_zero, List.set_cons_succ, i64_w, i32_w, IntKind.wrap_u32]
        rfl
      refine done_ (done_of HT_.out (by kernel_rfl)) ?_
      go_wp2
      rw [hw]
      exact ⟨⟨a + 1, L1, f1_, _, _, rfl, ⟨HAA.out, HI.out.1, HI.out.2.1, HI.out.2.2.2⟩, P, X, BX2, HB⟩, by simp only [intOf]; omega⟩
    · have f1 : decide ((a : Int) < (l.length : Int)) = false := decide_eq_false (by omega)
      have f2 : decide (a < l.length) = false := decide_eq_false q
      go_wp2_with (go_at_call 11; (refine (poolAwake.calls k HK.out _).mono ?_); rintro e w1 ⟨rfl, hb⟩; replace HB := Aside0.mk (below_step HB.out hb); clear hb)
      go_ret
      exact ⟨rfl, HB.out⟩

def credenzalaw10_PoolPlays.f (k : Nat) (a0 : Int) (l1 : List S33) : Option Bool := if madeAll k = true then some true else none
theorem credenzalaw10_PoolPlays.mono : ∀ a0 l1 k, LeO (credenzalaw10_PoolPlays.f k a0 l1) (credenzalaw10_PoolPlays.f (k + 1) a0 l1) := fun _ _ k => allLe k
theorem credenzalaw10_PoolPlays.calls (k : Nat) (a0 : Int) (A1 : Option Addr) (c1 : Nat) (l1 : List S33) (r : Bool) (w : World) (hr1 : Kd.C k33 w A1 l1.length l1) (hc1 : l1.length ≤ c1) (h : credenzalaw10_PoolPlays.f k a0 l1 = some r) :
    Calls Try.prog 3 #[.int .i64 a0, .slice A1 l1.length c1] w fun e w' => e = .returned (.bool r) ∧ Below w.heap.size w w' := by
  obtain ⟨h1, rfl⟩ := allOf h
  exact poolPlays.calls k h1 a0 A1 c1 l1 w hr1 hc1
-- calls: credenzalaw10_awake credenzalaw10_step


/-- THE ONE PURE STATEMENT of credenzalaw10_PoolPlays: yours. -/
def credenzalaw10_PoolPlays.Pure : Prop := ∀ (a0 : Int) (l1 : List (S33)), (Lit.int .i64 a0).wf = true → l1.length ≤ maxLen → (∀ z ∈ l1, ((Lit.int .i64 z.f0).wf = true ∧ (Lit.int .i64 z.f1).wf = true)) → ∃ k, credenzalaw10_PoolPlays.f k a0 l1 = some true
theorem credenzalaw10_PoolPlays.walk (P : credenzalaw10_PoolPlays.Pure) (a0 : Int) (a1 : Option Addr) (c1 : Nat) (l1 : List (S33)) (w : World) (w0 : (Lit.int .i64 a0).wf = true) (hr1 : Kd.C k33 w a1 l1.length l1) (hc1 : l1.length ≤ c1) (hm1 : l1.length ≤ maxLen) (hq1 : ∀ z ∈ l1, ((Lit.int .i64 z.f0).wf = true ∧ (Lit.int .i64 z.f1).wf = true)) :
    Calls Try.prog 3 #[.int .i64 a0, .slice a1 l1.length c1] w fun e w' => e = .returned (.bool true) ∧ Below w.heap.size w w' := by
  obtain ⟨k, h⟩ := P a0 l1 w0 hm1 hq1
  refine (credenzalaw10_PoolPlays.calls k a0 _ _ l1 true w hr1 hc1 h).mono ?_
  rintro e w' ⟨rfl, hd⟩
  exact ⟨rfl, hd⟩

end Go.Proofs.Ytoofkemhikigoaa.PPoolPlays
