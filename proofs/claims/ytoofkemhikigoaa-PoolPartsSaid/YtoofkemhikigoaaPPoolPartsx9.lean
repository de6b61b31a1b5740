-- Written by a program of this session (wip/tools/mkprint.py over the kit's print).
import Derived.Test.YtoofkemhikigoaaPPoolPartsx0
import Derived.Test.YtoofkemhikigoaaPPoolPartsx6
import Derived.Test.YtoofkemhikigoaaPPoolPartsx7
import Derived.Test.YtoofkemhikigoaaPPoolPartsx8
namespace Go.Proofs.Ytoofkemhikigoaa.PPoolParts
open Go.RowKit Go.Proofs.YtoofkemhikigoaaW.PrintWords Go.Proofs.YtoofkemhikigoaaW.PrintLast Go.Proofs.YtoofkemhikigoaaW.PrintMore
attribute [local go_sem] max2_int min2_int max_two min_two max_three min_three max_four min_four   -- for this text's walks alone
set_option linter.unusedVariables false
set_option linter.unusedSimpArgs false

/-! ### credenzalaw10_PoolParts: function 4 -/
/-- How many slots aren't free. -/
def cnt : List Slot → Int
  | [] => 0
  | x :: l => (if x.refs = 0 then 0 else 1) + cnt l
theorem cnt_append : ∀ a b : List Slot, cnt (a ++ b) = cnt a + cnt b
  | [], b => by simp [cnt]
  | x :: a, b => by
    have ih := cnt_append a b
    simp only [List.cons_append, cnt, ih]
    omega
theorem cnt_set (z : Slot) : ∀ (L : List Slot) (k : Nat) (y : Slot), L[k]? = some y → cnt (L.set k z) + (if y.refs = 0 then 0 else 1) = cnt L + (if z.refs = 0 then 0 else 1)
  | [], k, y, h => by simp at h
  | x :: L, 0, y, h => by
    obtain rfl := Option.some.inj h
    simp only [List.set_cons_zero, cnt]
    omega
  | x :: L, k + 1, y, h => by
    have ih := cnt_set z L k y (by simpa using h)
    simp only [List.set_cons_succ, cnt]
    omega
theorem used_cnt (L : List Slot) : ∀ n, n ≤ L.length → ((usedTo L n).length : Int) = cnt (L.take n)
  | 0, _ => rfl
  | n + 1, hn => by
    have ih := used_cnt L n (by omega)
    obtain ⟨x, hx⟩ : ∃ x, L[n]? = some x := ⟨_, List.getElem?_eq_getElem (by omega)⟩
    have ht : L.take (n + 1) = L.take n ++ [x] := by
      rw [List.take_succ_eq_append_getElem (by omega)]
      congr 1
      rw [List.getElem?_eq_getElem (by omega)] at hx
      rw [Option.some.inj hx]
    rw [ht, cnt_append, ← ih, usedTo, List.getD_eq_getElem?_getD, hx]
    simp only [Option.getD_some, cnt]
    split <;> simp
theorem used_all_cnt (L : List Slot) : ((usedTo L L.length).length : Int) = cnt L := by
  rw [used_cnt L L.length (Nat.le_refl _), List.take_length]
/-- A call that leaves slot 0, and loses none. -/
structure OkR (L : List Slot) (f : Int) (L' : List Slot) (f' : Int) : Prop where
  len : L'.length = L.length
  at0 : L'[0]? = L[0]?
  sum : f' + cnt L' = f + cnt L
  top : ∀ c : Int, 1 ≤ c → (∀ x ∈ L, x.refs ≤ c) → ∀ x ∈ L', x.refs ≤ c + 1
theorem OkR.same (L : List Slot) (f : Int) : OkR L f L f := ⟨rfl, rfl, rfl, fun c _ h x hx => by have := h x hx; omega⟩
theorem OkR.put {L L' : List Slot} {f f' m i e : Int} (h : PutR L f m L' f' i e) {y0 : Slot} (h0 : L[0]? = some y0) (hy0 : ¬ y0.refs = 0) : OkR L f L' f' := by
  rcases h with ⟨k, y, b, hy, hz, -, rfl, rfl, -, -⟩ | ⟨-, rfl, rfl, -, -⟩
  · have hk : k ≠ 0 := fun e => by subst e; rw [h0] at hy; obtain rfl := Option.some.inj hy; exact hy0 hz
    have hc := cnt_set ⟨1, m, some b⟩ L k y hy
    rw [if_pos hz, if_neg (show ¬ (1 : Int) = 0 by decide)] at hc
    refine ⟨List.length_set, List.getElem?_set_ne hk, by omega, fun c h1 h x hx => ?_⟩
    rcases List.mem_or_eq_of_mem_set hx with hx | rfl
    · have := h x hx; omega
    · show (1 : Int) ≤ c + 1; omega
  · exact OkR.same _ _
theorem OkR.hold {L L' : List Slot} {f f' N e : Int} (h : HoldR L f N L' f' e) (hN : ¬ N = 0) (hr : ∀ x ∈ L, 0 ≤ x.refs) : OkR L f L' f' := by
  rcases h with ⟨n, x, rfl, hx, hz, rfl, rfl, -⟩ | ⟨-, rfl, rfl, -⟩
  · have hk : n ≠ 0 := fun e => hN (by rw [e]; rfl)
    have hx0 := hr x (List.mem_of_getElem? hx)
    have hc := cnt_set ⟨x.refs + 1, x.mark, x.pg⟩ L n x hx
    rw [if_neg hz, if_neg (show ¬ x.refs + 1 = 0 by omega)] at hc
    refine ⟨List.length_set, List.getElem?_set_ne hk, by omega, fun c h1 h y hy => ?_⟩
    rcases List.mem_or_eq_of_mem_set hy with hy | rfl
    · have := h y hy; omega
    · have := h x (List.mem_of_getElem? hx); show x.refs + 1 ≤ c + 1; omega
  · exact OkR.same _ _
theorem less_zero (x : Slot) (h : x.refs = 1) : x.less = ⟨0, x.mark, none⟩ := by rw [Slot.less, if_pos h]
theorem less_more (x : Slot) (h : ¬ x.refs = 1) : x.less = ⟨x.refs + -1, x.mark, x.pg⟩ := by rw [Slot.less, if_neg h]
theorem OkR.drop {L L' : List Slot} {f f' N e : Int} (h : DropR L f N L' f' e) (hN : ¬ N = 0) : OkR L f L' f' := by
  rcases h with ⟨n, x, rfl, hx, hz, rfl, rfl, -⟩ | ⟨-, rfl, rfl, -⟩
  · have hk : n ≠ 0 := fun e => hN (by rw [e]; rfl)
    have hc := cnt_set x.less L n x hx
    by_cases q : x.refs = 1
    · rw [less_zero x q] at hc ⊢
      rw [if_neg hz, if_pos (show (0 : Int) = 0 from rfl)] at hc
      rw [if_pos q]
      refine ⟨List.length_set, List.getElem?_set_ne hk, by omega, fun c h1 h y hy => ?_⟩
      rcases List.mem_or_eq_of_mem_set hy with hy | rfl
      · have := h y hy; omega
      · show (0 : Int) ≤ c + 1; omega
    · rw [less_more x q] at hc ⊢
      rw [if_neg hz, if_neg (show ¬ x.refs + -1 = 0 by omega)] at hc
      rw [if_neg q]
      refine ⟨List.length_set, List.getElem?_set_ne hk, by omega, fun c h1 h y hy => ?_⟩
      rcases List.mem_or_eq_of_mem_set hy with hy | rfl
      · have := h y hy; omega
      · have := h x (List.mem_of_getElem? hx); show x.refs + -1 ≤ c + 1; omega
  · exact OkR.same _ _
theorem nil_put (m : Int) : credenzaref10_Pool_Put.f 2 [] [] m = some ([], [], 0, 23) := by
  unfold credenzaref10_Pool_Put.f credenzaref10_Pool_Put.l0
  rw [if_neg (by decide)]
theorem nil_is (N : Int) : credenzaref10_Pool_Is.f [] [] N = some false := by
  unfold credenzaref10_Pool_Is.f
  by_cases h : N ≥ 0
  · rw [if_pos h, if_neg (by simpa using h)]
  · rw [if_neg h]
theorem nil_change (N d : Int) : credenzaref10_Pool_Change.f [] [] N d = some ([], [], 14) := by
  unfold credenzaref10_Pool_Change.f
  rw [nil_is]
  rfl
theorem nil_new : credenzaref10_New.f 2 0 = some ([], []) := by
  unfold credenzaref10_New.f credenzaref10_New.l0
  rw [if_neg (by decide)]
open Classical in
/-- Any call on a slot that isn't 0, beside a document's pool that has none. -/
theorem stepParts.calls (k : Nat) (hk : madeAll k = true) (w0 w : World) (hB : Below w0.heap.size w0 w) (g s : Nat) (L : List Slot) (f : Int) (hP : PoolAt w g s L f) (hg : w0.heap.size ≤ g) (hs : w0.heap.size ≤ s) (hf : -1000 ≤ f ∧ f ≤ 1000) (hm : ∀ x ∈ L, x.refs ≤ 1000) (y0 : Slot) (h0 : L[0]? = some y0) (hy0 : ¬ y0.refs = 0) (v0 v1 : Value) (hX : XAt w0.heap.size w v0 v1 [] []) (K N : Int) (hN : ¬ N = 0) :
    Calls Try.prog 14 #[.pointer (some ⟨g, 0, none⟩), .agg #[v0, v1], .agg #[.int .i64 K, .int .i64 N]] w fun e w' => ∃ u b L' f', e = .returned (.tuple #[u, .bool b]) ∧ PoolAt w' g s L' f' ∧ OkR L f L' f' ∧ Below w0.heap.size w0 w' := by
  by_cases k1 : K = 1
  · subst k1
    refine (stepPut.calls k 2 hk w0 w hB g s L f hP hg hs (by omega) v0 v1 [] [] hX N [] [] 0 23 (nil_put _)).mono ?_
    rintro e w' ⟨u0, u1, L', f', i2, e2, rfl, -, h1, h2, h3⟩
    exact ⟨_, _, L', f', rfl, h1, OkR.put h2 h0 hy0, h3⟩
  by_cases k2 : K = 2
  · subst k2
    refine (stepHold.calls k hk w0 w hB g s L f hP hg hs v0 v1 [] [] hX (fun x hx => by have := hm x hx; omega) N [] [] 14 (nil_change _ _)).mono ?_
    rintro e w' ⟨u0, u1, L', f', e2, rfl, -, h1, h2, h3⟩
    exact ⟨_, _, L', f', rfl, h1, OkR.hold h2 hN (fun x hx => (hP.hr x hx).1), h3⟩
  by_cases k3 : K = 3
  · subst k3
    refine (stepDrop.calls k hk w0 w hB g s L f hP hg hs v0 v1 [] [] hX (by omega) N [] [] 14 (nil_change _ _)).mono ?_
    rintro e w' ⟨u0, u1, L', f', e2, rfl, -, h1, h2, h3⟩
    exact ⟨_, _, L', f', rfl, h1, OkR.drop h2 hN, h3⟩
  by_cases hh : Held L N
  · obtain ⟨n, x, hn, hx, hr⟩ := id hh
    obtain ⟨b, hb, -⟩ := hP.hp x (List.mem_of_getElem? hx) hr
    refine (stepGetOdd.calls k hk w0 w hB g s L f hP hg hs v0 v1 [] [] hX K N ⟨k1, k2, k3⟩ n x b hn hx hr hb (nil_is N)).mono ?_
    rintro e w' ⟨u0, u1, rfl, -, h1, h2⟩
    exact ⟨_, _, L, f, rfl, h1, OkR.same _ _, h2⟩
  · refine (stepGetNo.calls k hk w0 w hB g s L f hP hg hs v0 v1 [] [] hX K N ⟨k1, k2, k3⟩ hh (nil_is N)).mono ?_
    rintro e w' ⟨u0, u1, rfl, -, h1, h2⟩
    exact ⟨_, _, L, f, rfl, h1, OkR.same _ _, h2⟩
theorem cnt_bound : ∀ L : List Slot, 0 ≤ cnt L ∧ cnt L ≤ (L.length : Int)
  | [] => ⟨Int.le_refl _, Int.le_refl _⟩
  | x :: L => by
    have ih := cnt_bound L
    simp only [cnt, List.length_cons]
    split <;> omega

theorem mk777 : mk 777 = 777 := by decide +kernel
set_option maxHeartbeats 8000000 in
set_option maxRecDepth 100000 in
theorem poolParts.calls (k : Nat) (hk : madeAll k = true) (s0 : Int) (A : Option Addr) (c : Nat) (l : List S33) (h0 : Int) (w : World) (hr0 : Kd.C k33 w A l.length l) (hc0 : l.length ≤ c) :
    Calls Try.prog 4 #[.int .i64 s0, .slice A l.length c, .int .i64 h0] w fun e w' => e = .returned (.bool true) ∧ Below w.heap.size w w' := by
  have HK := Aside0.mk hk
  have HR := Aside0.mk hr0
  have HB := Aside0.mk (Below.refl w.heap.size w)
  have hfd := field6
  have hu33 := Try.underlying33
  clear hk hr0 hc0
  have small : ∀ (b1 b2 b3 b4 b5 : Bool), decide (40 < l.length) = b1 → decide (s0 < 1) = b2 → decide (60 < s0) = b3 → decide (h0 < 0) = b4 → decide (20 < h0) = b5 → (b1 || b2 || b3 || b4 || b5) = true → Calls Try.prog 4 #[.int .i64 s0, .slice A l.length c, .int .i64 h0] w fun e w' => e = .returned (.bool true) ∧ Below w.heap.size w w' := by
    intro b1 b2 b3 b4 b5 d1 d2 d3 d4 d5 hb
    have d6 : decide (40 < (l.length : Int)) = b1 := by rw [← d1]; exact decide_eq_decide.mpr (by omega)
    by_cases z : (b1 || b2 || b3 || b4) = true
    · by_cases z1 : (b1 || b2) = true
      · cases b1 <;> cases b2
        case false.false => cases z1
        all_goals
          clear hb z z1
          go_enter Try.func4, Try.ntmps4
          go_wp2_with (go_at_call 11; (refine (poolAwake.calls k HK.out _).mono ?_); rintro e w1 ⟨rfl, hb⟩; replace HB := Aside0.mk (below_step HB.out hb); clear hb)
          go_ret
          exact ⟨rfl, HB.out⟩
      · cases b1 <;> cases b2 <;> (try exact absurd rfl z1)
        cases b3 <;> cases b4
        case false.false => cases z
        all_goals
          clear hb z z1
          go_enter Try.func4, Try.ntmps4
          go_wp2_with (go_at_call 11; (refine (poolAwake.calls k HK.out _).mono ?_); rintro e w1 ⟨rfl, hb⟩; replace HB := Aside0.mk (below_step HB.out hb); clear hb)
          go_ret
          exact ⟨rfl, HB.out⟩
    · cases b1 <;> cases b2 <;> cases b3 <;> cases b4 <;> (try exact absurd rfl z)
      cases b5
      case false => cases hb
      clear hb z
      go_enter Try.func4, Try.ntmps4
      go_wp2_with (go_at_call 11; (refine (poolAwake.calls k HK.out _).mono ?_); rintro e w1 ⟨rfl, hb⟩; replace HB := Aside0.mk (below_step HB.out hb); clear hb)
      go_ret
      exact ⟨rfl, HB.out⟩
  by_cases q1 : 40 < l.length
  · exact small _ _ _ _ _ (decide_eq_true q1) rfl rfl rfl rfl (by simp)
  by_cases q2 : s0 < 1
  · exact small _ _ _ _ _ rfl (decide_eq_true q2) rfl rfl rfl (by simp)
  by_cases q3 : 60 < s0
  · exact small _ _ _ _ _ rfl rfl (decide_eq_true q3) rfl rfl (by simp)
  by_cases q4 : h0 < 0
  · exact small _ _ _ _ _ rfl rfl rfl (decide_eq_true q4) rfl (by simp)
  by_cases q5 : 20 < h0
  · exact small _ _ _ _ _ rfl rfl rfl rfl (decide_eq_true q5) (by simp)
  clear small
  obtain ⟨n, rfl⟩ := Int.eq_ofNat_of_zero_le (show 0 ≤ s0 by omega)
  obtain ⟨hh, rfl⟩ := Int.eq_ofNat_of_zero_le (Int.not_lt.mp q4)
  have hn1 : 1 ≤ n := by omega
  have d1 : decide (40 < l.length) = false := decide_eq_false q1
  have d6 : decide (40 < (l.length : Int)) = false := decide_eq_false (by omega)
  have d2 : decide ((n : Int) < 1) = false := decide_eq_false q2
  have d3 : decide (60 < (n : Int)) = false := decide_eq_false q3
  have d4 : decide ((hh : Int) < 0) = false := decide_eq_false q4
  have d5 : decide (20 < (hh : Int)) = false := decide_eq_false q5
  have HN : Aside0 (1 ≤ n ∧ n ≤ 60 ∧ hh ≤ 20) := ⟨by omega, by omega, by omega⟩
  have HL := Aside0.mk (show l.length ≤ 40 by omega)
  clear q1 q2 q3 q4 q5 hn1
  go_enter Try.func4, Try.ntmps4
  go_upto_region 6 with (go_at_call 12; (refine (poolNew.calls n (by have := HN.out; omega) _).mono ?_); rintro e w1 ⟨g, s, rfl, hp, hg, hs, hb⟩; have P := Aside0.mk hp; have G := Aside0.mk hg; have S := Aside0.mk hs; replace HB := Aside0.mk (below_step HB.out hb); clear hp hg hs hb)
  have hz0 : (List.replicate n (⟨0, 0, none⟩ : Slot))[0]? = some ⟨0, 0, none⟩ := by rw [List.getElem?_replicate, if_pos (by have := HN.out; omega)]
  have HZ := Aside0.mk hz0
  clear hz0
  go_upto_region 9 with (first | (go_at_call 22; (refine (madeP.calls k HK.out 777 _).mono ?_); rintro e w2 ⟨b1, rfl, hp, hge, hb⟩; have hgl := P.out.gl; have hsl := P.out.sl; have Q := Aside0.mk hp; have N1 : Aside0 (b1 ≠ g ∧ b1 ≠ s) := ⟨by omega, by omega⟩; clear hgl hsl hge; replace P := Aside0.mk (P.out.below hb); replace HB := Aside0.mk (below_step HB.out hb); clear hb hp) | (go_at_call 21; (refine (poolPut.calls g s _ _ b1 (mk 777) 0 ⟨0, 0, none⟩ HZ.out rfl (by intro j x hj; omega) _ P.out Q.out N1.out.1 N1.out.2 (by have := HN.out; omega)).mono ?_); rintro e w3 ⟨rfl, hp, hm⟩; replace P := Aside0.mk hp; replace HB := Aside0.mk (HB.out.trans (hm.bel _ G.out S.out (below_size HB.out))); clear Q N1 hp hm))
  have hcnt : ∀ m : Nat, cnt (List.replicate m ⟨0, 0, none⟩) = 0 := by
    intro m
    induction m with
    | zero => rfl
    | succ m ih => rw [List.replicate_succ, cnt, ih]; rfl
  have HI : Aside0 ((((List.replicate n (⟨0, 0, none⟩ : Slot)).set 0 ⟨1, mk 777, some b1⟩).length = n) ∧ ((List.replicate n (⟨0, 0, none⟩ : Slot)).set 0 ⟨1, mk 777, some b1⟩)[0]? = some ⟨1, mk 777, some b1⟩ ∧ (n : Int) + -1 + cnt ((List.replicate n (⟨0, 0, none⟩ : Slot)).set 0 ⟨1, mk 777, some b1⟩) = n ∧ ∀ x ∈ (List.replicate n (⟨0, 0, none⟩ : Slot)).set 0 ⟨1, mk 777, some b1⟩, x.refs ≤ 1) := by
    refine ⟨by simp, by rw [List.getElem?_set_self (by rw [List.length_replicate]; exact HN.out.1)], ?_, fun x hx => ?_⟩
    · have h := cnt_set ⟨1, mk 777, some b1⟩ (List.replicate n ⟨0, 0, none⟩) 0 _ HZ.out
      rw [hcnt, if_pos rfl, if_neg (show ¬ (1 : Int) = 0 by decide)] at h
      omega
    · rcases List.mem_or_eq_of_mem_set hx with hx | rfl
      · have e := List.eq_of_mem_replicate hx
        subst e
        show (0 : Int) ≤ 1
        decide
      · exact Int.le_refl _
  clear HZ hcnt
  generalize (List.replicate n (⟨0, 0, none⟩ : Slot)).set 0 ⟨1, mk 777, some b1⟩ = L0 at P HI
  rw [mk777] at HI
  obtain ⟨f0, hf0⟩ : ∃ f0, (n : Int) + -1 = f0 := ⟨_, rfl⟩
  rw [hf0] at P HI
  have HF0 := Aside0.mk hf0
  clear hf0
  go_wp2
  go_loopw [58] (fun i W' => ∃ (j : Nat) (L : List Slot), i = .int .i64 j ∧ Aside0 (j ≤ hh ∧ L.length = n ∧ L[0]? = some ⟨(j : Int) + 1, 777, some b1⟩ ∧ f0 + cnt L = n ∧ ∀ x ∈ L, x.refs ≤ (j : Int) + 1) ∧ Aside0 (PoolAt W' g s L f0) ∧ Aside0 (Below w.heap.size w W')) (fun i _ => hh - (intOf i).toNat)
  case atStart => exact ⟨0, L0, rfl, ⟨Nat.zero_le _, HI.out.1, HI.out.2.1, HI.out.2.2.1, HI.out.2.2.2⟩, P, HB⟩
  case round =>
    clear HB P HI
    obtain ⟨j, L, rfl, HJ, P, HB⟩ := hrel
    by_cases q : j < hh
    · have e1 : decide ((j : Int) < (hh : Int)) = true := decide_eq_true (by omega)
      have e2 : decide (j < hh) = true := decide_eq_true q
      have hw : wrap64 ((j : Int) + 1) = (j : Int) + 1 := by have := HN.out; simp only [wrap64]; omega
      go_wp2_with (go_at_call 23; (refine (poolHold.calls g s L f0 0 _ HJ.out.2.2.1 (by show ¬ (j : Int) + 1 = 0; omega) (by show (j : Int) + 1 ≤ 999999; have := HN.out; omega) _ P.out).mono ?_); rintro e w4 ⟨rfl, hp, hm⟩; replace P := Aside0.mk hp; replace HB := Aside0.mk (HB.out.trans (hm.bel _ G.out S.out (below_size HB.out))); clear hp hm)
      rw [hw]
      have hlen : 0 < L.length := by rw [HJ.out.2.1]; exact HN.out.1
      refine ⟨⟨j + 1, L.set 0 ⟨(j : Int) + 1 + 1, 777, some b1⟩, rfl, ⟨by omega, by rw [List.length_set]; exact HJ.out.2.1, by rw [List.getElem?_set_self hlen]; rfl, ?_, fun x hx => ?_⟩, P, HB⟩, by simp only [intOf]; omega⟩
      · have h := cnt_set ⟨(j : Int) + 1 + 1, 777, some b1⟩ L 0 _ HJ.out.2.2.1
        rw [if_neg (show ¬ (j : Int) + 1 = 0 by omega), if_neg (show ¬ (j : Int) + 1 + 1 = 0 by omega)] at h
        have := HJ.out.2.2.2.1
        omega
      · rcases List.mem_or_eq_of_mem_set hx with hx | rfl
        · have := HJ.out.2.2.2.2 x hx; omega
        · show (j : Int) + 1 + 1 ≤ ((j + 1 : Nat) : Int) + 1; omega
    · have e1 : decide ((j : Int) < (hh : Int)) = false := decide_eq_false (by omega)
      have e2 : decide (j < hh) = false := decide_eq_false q
      obtain rfl : j = hh := by have := HJ.out.1; omega
      have HI := Aside0.mk HJ.out.2
      clear HJ e1 e2 q
      go_wp2
      go_loopw [67] (fun i W' => ∃ (a : Nat) (L : List Slot) (f : Int), i = .int .i64 a ∧ Aside0 (a ≤ l.length ∧ L.length = n ∧ L[0]? = some ⟨(j : Int) + 1, 777, some b1⟩ ∧ f + cnt L = n ∧ ∀ x ∈ L, x.refs ≤ (j : Int) + 1 + a) ∧ Aside0 (PoolAt W' g s L f) ∧ Aside0 (Below w.heap.size w W')) (fun i _ => l.length - (intOf i).toNat)
      case atStart => exact ⟨0, L, f0, rfl, ⟨Nat.zero_le _, HI.out.1, HI.out.2.1, HI.out.2.2.1, fun x hx => by have := HI.out.2.2.2 x hx; omega⟩, P, HB⟩
      case round =>
        clear HB P HI
        obtain ⟨a, L, f, rfl, HJ, P, HB⟩ := hrel
        by_cases q : a < l.length
        · have e1 : decide ((a : Int) < (l.length : Int)) = true := decide_eq_true (by omega)
          have e2 : decide (a < l.length) = true := decide_eq_true q
          have hw : wrap64 ((a : Int) + 1) = (a : Int) + 1 := by have := HL.out; simp only [wrap64]; omega
          have p0 : (0 : Int) ≤ (a : Int) := by omega
          have p1 : (a : Int) < (l.length : Int) := by omega
          obtain ⟨ad, he, hx0, hx1⟩ := at_T33 HR.out (a : Int) p0 p1
          cases he
          simp only [Int.toNat_natCast] at hx0 hx1
          replace hx0 := (HB.out.cell (World.block_lt_of_cell? w _ hx0)).trans hx0
          replace hx1 := (HB.out.cell (World.block_lt_of_cell? w _ hx1)).trans hx1
          obtain ⟨kd, hK⟩ : ∃ d, (rd_T33 l (a : Int)).f0 = d := ⟨_, rfl⟩
          obtain ⟨nm, hN⟩ : ∃ d, (rd_T33 l (a : Int)).f1 = d := ⟨_, rfl⟩
          rw [hK] at hx0
          rw [hN] at hx1
          clear hK hN
          have hfb : -1000 ≤ f ∧ f ≤ 1000 := by
            have h1 := HJ.out.2.2.2.1
            have h2 := cnt_bound L
            have := HJ.out.2.1
            have := HN.out
            omega
          have HFB := Aside0.mk hfb
          clear hfb
          go_upto_region 17 with (((with_reducible refine gate_dst (N := 12) rfl ?_); refine box_event ?hg (N := 12) ?hd (cs := #[.int .i64 0, .int .i64 0]) (t := 33) ?hr ?_; (case hd => rfl); (case hg => rfl); (case hr => first | (go_simp; done) | (go_simp; rfl)); intro bo hg_ w5 hbox hb; have BO := Aside0.mk hbox; have GO := Aside0.mk (by rw [hg_]; exact below_size HB.out : w.heap.size ≤ bo); have hz := bx2 hbox; replace P := Aside0.mk (P.out.below hb); replace HB := Aside0.mk (below_step HB.out hb); skip; clear hbox hb hg_))
          have BO2 := Aside0.mk (blk_put (blk_put BO.out 0 (.int .i64 kd) (cs' := #[.int .i64 kd, .int .i64 0]) rfl) 1 (.int .i64 nm) (cs' := #[.int .i64 kd, .int .i64 nm]) rfl)
          replace P := Aside0.mk ((P.out.beside BO.out (by decide) 0 (.int .i64 kd)).beside (blk_put BO.out 0 (.int .i64 kd) (cs' := #[.int .i64 kd, .int .i64 0]) rfl) (by decide) 1 (.int .i64 nm))
          replace HB : Aside0 (Below w.heap.size w ((w5.setCell ⟨bo, 0, none⟩ (.int .i64 kd)).setCell ⟨bo, 1, none⟩ (.int .i64 nm))) := ⟨(HB.out.setCell (p := ⟨bo, 0, none⟩) GO.out _).setCell (p := ⟨bo, 1, none⟩) GO.out _⟩
          clear hz BO hx0 hx1
          generalize (w5.setCell ⟨bo, 0, none⟩ (.int .i64 kd)).setCell ⟨bo, 1, none⟩ (.int .i64 nm) = w6 at P HB BO2 ⊢
          have hz := bx2 BO2.out
          have HJ0 := Aside0.mk HJ.out.2.2.1
          have HY0 : Aside0 (¬ (⟨(j : Int) + 1, 777, some b1⟩ : Slot).refs = 0) := ⟨by show ¬ (j : Int) + 1 = 0; omega⟩
          have hwj : wrap64 ((j : Int) + 1) = (j : Int) + 1 := by have := HN.out; simp only [wrap64]; omega
          by_cases hN : nm = 0
          · have f1 : (nm == 0) = true := beq_iff_eq.mpr hN
            have f2 : (nm != 0) = false := bne_eq_false_iff_eq.mpr hN
            go_upto_region 19 with (fail)
            clear hz
            have OK := Aside0.mk (OkR.same L f)
            have hat : L[0]? = some ⟨(j : Int) + 1, 777, some b1⟩ := OK.out.at0.trans HJ0.out
            have HAT := Aside0.mk hat
            obtain ⟨bq, eb, hq, -⟩ := P.out.hp _ (List.mem_of_getElem? hat) HY0.out
            obtain rfl : b1 = bq := Option.some.inj eb
            have Q := Aside0.mk hq
            have hsum : f + ((usedTo L L.length).length : Int) = n := by rw [used_all_cnt, OK.out.sum]; exact HJ.out.2.2.2.1
            have hwu : wrap64 (f + ((usedTo L L.length).length : Int)) = n := by rw [hsum]; have := HN.out; simp only [wrap64]; omega
            clear hat eb hq hsum
            go_wp2_with (first | (go_at_call 24; (refine (poolGet.calls g s L f 0 _ b1 HAT.out HY0.out rfl _ P.out).mono ?_); rintro e w10 ⟨rfl, rfl⟩; skip) | (go_at_call 25; (refine (poolHead.calls b1 777 _ Q.out).mono ?_); rintro e w11 ⟨g0, g1, g2, g3, g4, g5, rfl, hb⟩; replace P := Aside0.mk (P.out.below hb); replace HB := Aside0.mk (below_step HB.out hb); clear hb Q) | (go_at_call 26; (refine (poolRefs.calls g s L f 0 _ HAT.out HY0.out _ P.out).mono ?_); rintro e w12 ⟨rfl, rfl⟩; skip) | (go_at_call 15; (refine (poolFree.calls g s _ _ _ P.out).mono ?_); rintro e w13 ⟨rfl, rfl⟩; skip) | (go_at_call 19; (refine (poolUsed.calls g s L f _ P.out).mono ?_); rintro e w14 ⟨v, rfl, hr, hb⟩; obtain ⟨Av, cv, rfl⟩ := Kd.R_slice hr; replace P := Aside0.mk (P.out.below hb); replace HB := Aside0.mk (below_step HB.out hb); clear hb hr))
            rw [hw]
            exact ⟨⟨a + 1, L, f, rfl, ⟨by omega, OK.out.len.trans HJ.out.2.1, HAT.out, OK.out.sum.trans HJ.out.2.2.2.1, fun x hx => by have := OK.out.top ((j : Int) + 1 + a) (by omega) HJ.out.2.2.2.2 x hx; omega⟩, P, HB⟩, by simp only [intOf]; omega⟩
          · have f1 : (nm == 0) = false := beq_eq_false_iff_ne.mpr hN
            have f2 : (nm != 0) = true := bne_iff_ne.mpr hN
            have HM : Aside0 (∀ x ∈ L, x.refs ≤ 1000) := ⟨fun x hx => by have := HJ.out.2.2.2.2 x hx; have := HN.out; have := HL.out; omega⟩
            have HNN := Aside0.mk hN
            go_upto_region 18 with (fail)
            clear hz
            replace P := Aside0.mk (P.out.drew)
            replace BO2 := Aside0.mk (blk_drew BO2.out)
            replace HB := Aside0.mk (HB.out.drew)
            refine start_ (n := 4) (S := fun w' => w'.cell? ⟨bo, 0, none⟩ = some (.int .i64 kd) ∧ w'.cell? ⟨bo, 1, none⟩ = some (.int .i64 nm)) (ds := [3]) #[false, false, false, false] (by kernel_rfl) rfl rfl ⟨(bx2 BO2.out).1, (bx2 BO2.out).2.1⟩ (fun hHeld => ?_)
            generalize w6.drew = w7 at P BO2 HB hHeld ⊢
            refine pure_ (i := 0) (N := some 75) (v := ?_) (a' := ?_) #[true, false, false, false] rfl rfl (by kernel_rfl) (fun _ _ _ h => h) (Or.inl ⟨by rfl, ?_⟩) ?_ ?_
            rotate_left
            · intro w'
              go_simp
              with_reducible rfl
            rotate_left
            · simp only [Act.put, List.setIfInBounds_toArray, List.set_cons_zero, List.set_cons_succ, i64_w, i32_w, IntKind.wrap_u32]
              rfl
            refine take_ (i := 2) (N := some 77) (v := ?_) (a' := ?_) #[true, false, true, false] rfl rfl (by kernel_rfl) (fun _ _ _ h => h) (Or.inl ⟨by rfl, ?_⟩) hHeld ?_ ?_
            rotate_left
            · rintro w' ⟨s0, s1⟩
              go_simp
              with_reducible rfl
            rotate_left
            · simp only [Act.put, List.setIfInBounds_toArray, List.set_cons_zero, List.set_cons_succ, i64_w, i32_w, IntKind.wrap_u32]
              rfl
            refine one_ (i := 1) (N := some 76) #[true, true, true, false] rfl rfl (by kernel_rfl) (by decide) (fun K hK => ?_)
            refine goes_ Try.func13 (by kernel_rfl) rfl #[.int .i64 0] (by rfl) rfl rfl (by simp only [List.map_toArray, List.map_cons, List.map_nil]; rfl) ?_
            with_reducible refine (credenzaref10_New.calls 2 0 [] [] _ nil_new).mono ?_
            rintro e w8 ⟨v0, v1, rfl, r0, r1, hb⟩
            refine ⟨_, rfl, ?_⟩
            have X := Aside0.mk (XAt.of (S := fun _ => True) (Kd.R_mono (Kd.R_lower r0 (below_size HB.out)) (fun _ h_ => ⟨trivial, h_⟩)) (Kd.R_mono (Kd.R_lower r1 (below_size HB.out)) (fun _ h_ => ⟨trivial, h_⟩)))
            replace P := Aside0.mk (P.out.below hb)
            replace BO2 := Aside0.mk (blk_below BO2.out hb)
            replace HB := Aside0.mk (below_step HB.out hb)
            clear r0 r1 hb
            refine hK.out _ _ ⟨(bx2 BO2.out).1, (bx2 BO2.out).2.1⟩ (fun hHeld => ?_)
            clear hK K
            refine norm_ (a' := ?_) ?_ ?_
            rotate_left
            · show Act.put _ (some 76) _ = _
              simp only [Act.put, List.setIfInBounds_toArray, List.set_cons_zero, List.set_cons_succ, i64_w, i32_w, IntKind.wrap_u32]
              rfl
            refine last_ (i := 3) (N := some 78) #[true, true, true, true] rfl rfl (by kernel_rfl) (by decide) (fun K hK => ?_)
            refine goes_ Try.func14 (by kernel_rfl) rfl #[.pointer (some ⟨g, 0, none⟩), .agg #[v0, v1], .agg #[.int .i64 kd, .int .i64 nm]] (by rfl) rfl rfl (by simp only [List.map_toArray, List.map_cons, List.map_nil]; rfl) ?_
            with_reducible refine (stepParts.calls k HK.out w _ HB.out g s L f P.out G.out S.out HFB.out HM.out _ HJ0.out HY0.out v0 v1 X.out kd nm HNN.out).mono ?_
            rintro e w9 ⟨u, b, L1, f1_, rfl, hp, hok, hb⟩
            refine ⟨_, rfl, ?_⟩
            replace P := Aside0.mk hp
            have OK := Aside0.mk hok
            replace HB := Aside0.mk hb
            clear hp hok hb X BO2
            refine hK.out _ _ ?_
            clear hK K
            refine norm_ (a' := ?_) ?_ ?_
            rotate_left
            · show Act.put _ (some 78) _ = _
              simp only [Act.put, List.setIfInBounds_toArray, List.set_cons_zero, List.set_cons_succ, i64_w, i32_w, IntKind.wrap_u32]
              rfl
            refine done_ (by kernel_rfl) ?_
            go_upto_region 19 with (fail)
            have hat : L1[0]? = some ⟨(j : Int) + 1, 777, some b1⟩ := OK.out.at0.trans HJ0.out
            have HAT := Aside0.mk hat
            obtain ⟨bq, eb, hq, -⟩ := P.out.hp _ (List.mem_of_getElem? hat) HY0.out
            obtain rfl : b1 = bq := Option.some.inj eb
            have Q := Aside0.mk hq
            have hsum : f1_ + ((usedTo L1 L1.length).length : Int) = n := by rw [used_all_cnt, OK.out.sum]; exact HJ.out.2.2.2.1
            have hwu : wrap64 (f1_ + ((usedTo L1 L1.length).length : Int)) = n := by rw [hsum]; have := HN.out; simp only [wrap64]; omega
            clear hat eb hq hsum
            go_wp2_with (first | (go_at_call 24; (refine (poolGet.calls g s L1 f1_ 0 _ b1 HAT.out HY0.out rfl _ P.out).mono ?_); rintro e w10 ⟨rfl, rfl⟩; skip) | (go_at_call 25; (refine (poolHead.calls b1 777 _ Q.out).mono ?_); rintro e w11 ⟨g0, g1, g2, g3, g4, g5, rfl, hb⟩; replace P := Aside0.mk (P.out.below hb); replace HB := Aside0.mk (below_step HB.out hb); clear hb Q) | (go_at_call 26; (refine (poolRefs.calls g s L1 f1_ 0 _ HAT.out HY0.out _ P.out).mono ?_); rintro e w12 ⟨rfl, rfl⟩; skip) | (go_at_call 15; (refine (poolFree.calls g s _ _ _ P.out).mono ?_); rintro e w13 ⟨rfl, rfl⟩; skip) | (go_at_call 19; (refine (poolUsed.calls g s L1 f1_ _ P.out).mono ?_); rintro e w14 ⟨v, rfl, hr, hb⟩; obtain ⟨Av, cv, rfl⟩ := Kd.R_slice hr; replace P := Aside0.mk (P.out.below hb); replace HB := Aside0.mk (below_step HB.out hb); clear hb hr))
            rw [hw]
            exact ⟨⟨a + 1, L1, f1_, rfl, ⟨by omega, OK.out.len.trans HJ.out.2.1, HAT.out, OK.out.sum.trans HJ.out.2.2.2.1, fun x hx => by have := OK.out.top ((j : Int) + 1 + a) (by omega) HJ.out.2.2.2.2 x hx; omega⟩, P, HB⟩, by simp only [intOf]; omega⟩
        · have e1 : decide ((a : Int) < (l.length : Int)) = false := decide_eq_false (by omega)
          have e2 : decide (a < l.length) = false := decide_eq_false q
          have hwj : wrap64 ((j : Int) + 1) = (j : Int) + 1 := by have := HN.out; simp only [wrap64]; omega
          have hfb : f ≤ 1000 := by
            have h1 := HJ.out.2.2.2.1
            have h2 := cnt_bound L
            have := HN.out
            omega
          have HFB := Aside0.mk hfb
          clear hfb q
          go_wp2
          rw [hwj]
          go_loopw [118] (fun i W' => ∃ (t : Nat) (L : List Slot) (f : Int) (z : Slot), i = .int .i64 t ∧ Aside0 (t ≤ j + 1 ∧ L[0]? = some z ∧ z.refs = (j : Int) + 1 - t ∧ f ≤ 1000 + t) ∧ Aside0 (PoolAt W' g s L f) ∧ Aside0 (Below w.heap.size w W')) (fun i _ => j + 1 - (intOf i).toNat)
          case atStart => exact ⟨0, L, f, ⟨(j : Int) + 1, 777, some b1⟩, rfl, ⟨Nat.zero_le _, HJ.out.2.2.1, by show (j : Int) + 1 = (j : Int) + 1 - ((0 : Nat) : Int); omega, by have := HFB.out; omega⟩, P, HB⟩
          case round =>
            clear HB P HJ HFB
            obtain ⟨t, L, f, z, rfl, HJ, P, HB⟩ := hrel
            by_cases q : t < j + 1
            · have e3 : decide ((t : Int) < (j : Int) + 1) = true := decide_eq_true (by omega)
              have e4 : decide (t < j + 1) = true := decide_eq_true q
              have hwt : wrap64 ((t : Int) + 1) = (t : Int) + 1 := by have := HN.out; simp only [wrap64]; omega
              have hws : wrap64 ((j : Int) + 1 - (t : Int)) = z.refs := by have := HN.out; have := HJ.out.2.2.1; simp only [wrap64]; omega
              have HZ : Aside0 (¬ z.refs = 0) := ⟨by have := HJ.out.2.2.1; omega⟩
              go_wp2_with (first | (go_at_call 26; (refine (poolRefs.calls g s L f 0 z HJ.out.2.1 HZ.out _ P.out).mono ?_); rintro e w20 ⟨rfl, rfl⟩; skip) | (go_at_call 27; (refine (poolDrop.calls g s L f 0 z HJ.out.2.1 HZ.out (by have := HJ.out.2.2.2; have := HN.out; omega) _ P.out).mono ?_); rintro e w21 ⟨rfl, hp, hm⟩; replace P := Aside0.mk hp; replace HB := Aside0.mk (HB.out.trans (hm.bel _ G.out S.out (below_size HB.out))); clear hp hm))
              rw [hwt]
              have hlen : 0 < L.length := (List.getElem?_eq_some_iff.mp HJ.out.2.1).1
              refine ⟨⟨t + 1, L.set 0 z.less, (if z.refs = 1 then f + 1 else f), z.less, rfl, ⟨by omega, by rw [List.getElem?_set_self hlen], ?_, ?_⟩, P, HB⟩, by simp only [intOf]; omega⟩
              · have h := HJ.out.2.2.1
                by_cases q1 : z.refs = 1
                · rw [less_zero z q1]; show (0 : Int) = (j : Int) + 1 - ((t + 1 : Nat) : Int); omega
                · rw [less_more z q1]; show z.refs + -1 = (j : Int) + 1 - ((t + 1 : Nat) : Int); omega
              · have h := HJ.out.2.2.2
                split <;> omega
            · have e3 : decide ((t : Int) < (j : Int) + 1) = false := decide_eq_false (by omega)
              have e4 : decide (t < j + 1) = false := decide_eq_false q
              have HZ : Aside0 (∀ x, (0 : Int) ≤ 0 → L[(0 : Int).toNat]? = some x → x.refs = 0) := ⟨fun x _ hx => by
                rw [show (0 : Int).toNat = 0 from rfl, HJ.out.2.1] at hx
                obtain rfl := Option.some.inj hx
                have := HJ.out.2.2.1
                have := HJ.out.1
                omega⟩
              go_wp2_with (first | (go_at_call 24; (refine (poolGetNo.calls g s L f 0 HZ.out _ P.out).mono ?_); rintro e w22 ⟨rfl, rfl⟩; skip) | (go_at_call 26; (refine (poolRefsNo.calls g s L f 0 HZ.out _ P.out).mono ?_); rintro e w23 ⟨rfl, rfl⟩; skip) | (go_at_call 11; (refine (poolAwake.calls k HK.out _).mono ?_); rintro e w24 ⟨rfl, hb⟩; replace HB := Aside0.mk (below_step HB.out hb); clear hb))
              go_ret
              exact ⟨by simp, HB.out⟩

def credenzalaw10_PoolParts.f (k : Nat) (a0 : Int) (l1 : List S33) (a2 : Int) : Option Bool := if madeAll k = true then some true else none
theorem credenzalaw10_PoolParts.mono : ∀ a0 l1 a2 k, LeO (credenzalaw10_PoolParts.f k a0 l1 a2) (credenzalaw10_PoolParts.f (k + 1) a0 l1 a2) := fun _ _ _ k => allLe k
theorem credenzalaw10_PoolParts.calls (k : Nat) (a0 : Int) (A1 : Option Addr) (c1 : Nat) (l1 : List S33) (a2 : Int) (r : Bool) (w : World) (hr1 : Kd.C k33 w A1 l1.length l1) (hc1 : l1.length ≤ c1) (h : credenzalaw10_PoolParts.f k a0 l1 a2 = some r) :
    Calls Try.prog 4 #[.int .i64 a0, .slice A1 l1.length c1, .int .i64 a2] w fun e w' => e = .returned (.bool r) ∧ Below w.heap.size w w' := by
  obtain ⟨h1, rfl⟩ := allOf h
  exact poolParts.calls k h1 a0 A1 c1 l1 a2 w hr1 hc1
-- calls: credenzalaw10_awake credenzalaw10_step


/-- THE ONE PURE STATEMENT of credenzalaw10_PoolParts: yours. -/
def credenzalaw10_PoolParts.Pure : Prop := ∀ (a0 : Int) (l1 : List (S33)) (a2 : Int), (Lit.int .i64 a0).wf = true → l1.length ≤ maxLen → (∀ z ∈ l1, ((Lit.int .i64 z.f0).wf = true ∧ (Lit.int .i64 z.f1).wf = true)) → (Lit.int .i64 a2).wf = true → ∃ k, credenzalaw10_PoolParts.f k a0 l1 a2 = some true
theorem credenzalaw10_PoolParts.walk (P : credenzalaw10_PoolParts.Pure) (a0 : Int) (a1 : Option Addr) (c1 : Nat) (l1 : List (S33)) (a2 : Int) (w : World) (w0 : (Lit.int .i64 a0).wf = true) (hr1 : Kd.C k33 w a1 l1.length l1) (hc1 : l1.length ≤ c1) (hm1 : l1.length ≤ maxLen) (hq1 : ∀ z ∈ l1, ((Lit.int .i64 z.f0).wf = true ∧ (Lit.int .i64 z.f1).wf = true)) (w2 : (Lit.int .i64 a2).wf = true) :
    Calls Try.prog 4 #[.int .i64 a0, .slice a1 l1.length c1, .int .i64 a2] w fun e w' => e = .returned (.bool true) ∧ Below w.heap.size w w' := by
  obtain ⟨k, h⟩ := P a0 l1 a2 w0 hm1 hq1 w2
  refine (credenzalaw10_PoolParts.calls k a0 _ _ l1 a2 true w hr1 hc1 h).mono ?_
  rintro e w' ⟨rfl, hd⟩
  exact ⟨rfl, hd⟩

end Go.Proofs.Ytoofkemhikigoaa.PPoolParts
