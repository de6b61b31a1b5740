-- Written by a program of this session (wip/tools/mkprint.py over the kit's print).
import Derived.Test.YtoofkemhikigoaaPBlockOrderx0
import Derived.Test.YtoofkemhikigoaaPBlockOrderx6
namespace Go.Proofs.Ytoofkemhikigoaa.PBlockOrder
open Go.RowKit Go.Proofs.YtoofkemhikigoaaW.PrintWords Go.Proofs.YtoofkemhikigoaaW.PrintLast Go.Proofs.YtoofkemhikigoaaW.PrintMore
attribute [local go_sem] max2_int min2_int max_two min_two max_three min_three max_four min_four   -- for this text's walks alone
set_option linter.unusedVariables false
set_option linter.unusedSimpArgs false

/-! ### credenzalaw11_BlockOrder: function 8 -/
theorem mk_all : ((List.range 1024).all fun i => mk (i : Int) == (i : Int)) = true := by decide +kernel
theorem mk_small (m : Int) (h0 : 0 ≤ m) (h1 : m ≤ 1023) : mk m = m := by
  obtain ⟨n, rfl⟩ := Int.eq_ofNat_of_zero_le h0
  have h := (List.all_eq_true.mp mk_all) n (List.mem_range.mpr (by omega))
  simpa using h
theorem flat_set (l' : List Int) : ∀ (rows : List (List Int)) (i : Nat) (l : List Int), rows[i]? = some l → (rows.set i l').flatten.length + l.length = rows.flatten.length + l'.length
  | [], i, l, h => by simp at h
  | r :: rows, 0, l, h => by
    obtain rfl := Option.some.inj h
    simp only [List.set_cons_zero, List.flatten_cons, List.length_append]
    omega
  | r :: rows, i + 1, l, h => by
    have ih := flat_set l' rows i l (by simpa using h)
    simp only [List.set_cons_succ, List.flatten_cons, List.length_append]
    omega
theorem flat_mem : ∀ (rows : List (List Int)) (i : Nat) (l : List Int), rows[i]? = some l → l.length ≤ rows.flatten.length
  | [], i, l, h => by simp at h
  | r :: rows, 0, l, h => by
    obtain rfl := Option.some.inj h
    simp
  | r :: rows, i + 1, l, h => by
    have ih := flat_mem rows i l (by simpa using h)
    simp only [List.flatten_cons, List.length_append]
    omega
/-- Each entry leads to a slot with its mark. -/
def Told (L : List Slot) (rt rw_ : List (List Int)) : Prop := ∀ (r : Nat) (lt lw : List Int), rt[r]? = some lt → rw_[r]? = some lw → lt.length = lw.length ∧ ∀ (p : Nat) (id m : Int), lt[p]? = some id → lw[p]? = some m → ∃ (q : Nat) (x : Slot), id = (q : Int) ∧ L[q]? = some x ∧ 0 < x.refs ∧ x.mark = m
theorem HoldsI.keep {L L' : List Slot} {f f' : Int} {ids : List Int} (h : HoldsI L f ids L' f') : ∀ (q : Nat) (x : Slot), L[q]? = some x → 0 < x.refs → ∃ r, L'[q]? = some ⟨r, x.mark, x.pg⟩ ∧ 0 < r := by
  induction h with
  | nil => exact fun q x hx h0 => ⟨x.refs, hx, h0⟩
  | snoc _ hd ih =>
    intro q x hx h0
    obtain ⟨r, hr, hp⟩ := ih q x hx h0
    rcases hd with ⟨n, y, rfl, hy, hz, rfl, rfl, -⟩ | ⟨-, rfl, rfl, -⟩
    · by_cases e : q = n
      · subst e
        rw [hr] at hy
        obtain rfl := Option.some.inj hy
        exact ⟨r + 1, by rw [List.getElem?_set_self (List.getElem?_eq_some_iff.mp hr).1], by omega⟩
      · exact ⟨r, by rw [List.getElem?_set_ne (fun q2 => e q2.symm)]; exact hr, hp⟩
    · exact ⟨r, hr, hp⟩
theorem Told.hold {L L' : List Slot} {f f' : Int} {ids : List Int} {rt rw_ : List (List Int)} (ht : Told L rt rw_) (h : HoldsI L f ids L' f') : Told L' rt rw_ := fun r lt lw h1 h2 => by
  obtain ⟨hl, ha⟩ := ht r lt lw h1 h2
  refine ⟨hl, fun p id m h3 h4 => ?_⟩
  obtain ⟨q, x, e, hx, h0, hm⟩ := ha p id m h3 h4
  obtain ⟨r', hr, hp⟩ := h.keep q x hx h0
  exact ⟨q, _, e, hr, hp, hm⟩
theorem Told.add {L : List Slot} {rt rw_ : List (List Int)} (ht : Told L rt rw_) {i k : Nat} {lt lw : List Int} {y : Slot} {m : Int} {b : Nat} (hi : rt[i]? = some lt) (hw : rw_[i]? = some lw) (hk : L[k]? = some y) (hy : y.refs = 0) : Told (L.set k ⟨1, m, some b⟩) (rt.set i (lt ++ [(k : Int)])) (rw_.set i (lw ++ [m])) := by
  have old : ∀ (q : Nat) (x : Slot), L[q]? = some x → 0 < x.refs → (L.set k ⟨1, m, some b⟩)[q]? = some x := fun q x hx h0 => by
    rw [List.getElem?_set_ne (fun e => by subst e; rw [hk] at hx; obtain rfl := Option.some.inj hx; omega)]
    exact hx
  have hlt := (List.getElem?_eq_some_iff.mp hi).1
  have hlw := (List.getElem?_eq_some_iff.mp hw).1
  intro r l1 l2 h1 h2
  by_cases e : r = i
  · subst e
    rw [List.getElem?_set_self hlt] at h1
    rw [List.getElem?_set_self hlw] at h2
    obtain rfl := Option.some.inj h1
    obtain rfl := Option.some.inj h2
    obtain ⟨hl, ha⟩ := ht r lt lw hi hw
    refine ⟨by simp [hl], fun p id z h3 h4 => ?_⟩
    by_cases e2 : p < lt.length
    · rw [List.getElem?_append_left e2] at h3
      rw [List.getElem?_append_left (by rw [← hl]; exact e2)] at h4
      obtain ⟨q, x, e3, hx, h0, hm⟩ := ha p id z h3 h4
      exact ⟨q, x, e3, old q x hx h0, h0, hm⟩
    · have hp : p = lt.length := by
        have := (List.getElem?_eq_some_iff.mp h3).1
        simp at this
        omega
      subst hp
      rw [List.getElem?_append_right (Nat.le_refl _), Nat.sub_self] at h3
      rw [hl, List.getElem?_append_right (Nat.le_refl _), Nat.sub_self] at h4
      obtain rfl := Option.some.inj h3
      obtain rfl := Option.some.inj h4
      exact ⟨k, _, rfl, by rw [List.getElem?_set_self (List.getElem?_eq_some_iff.mp hk).1], by show (0 : Int) < 1; decide, rfl⟩
  · rw [List.getElem?_set_ne (fun q => e q.symm)] at h1 h2
    obtain ⟨hl, ha⟩ := ht r l1 l2 h1 h2
    refine ⟨hl, fun p id z h3 h4 => ?_⟩
    obtain ⟨q, x, e3, hx, h0, hm⟩ := ha p id z h3 h4
    exact ⟨q, x, e3, old q x hx h0, h0, hm⟩
/-- Two of the call's own, apart. -/
def Dis (rp : Option Addr) (vs : List Value) (rp2 : Option Addr) (vs2 : List Value) : Prop := ∀ k, OwnR rp vs k → ¬ OwnR rp2 vs2 k
theorem RowsAt.of_add {B : Nat} {W W' : World} {g s : Nat} {L : List Slot} {f : Int} {rp rp2 : Option Addr} {vs vs2 : List Value} {rows2 : List (List Int)} (h : RowsAt B W rp2 vs2 rows2) (hd : Dis rp vs rp2 vs2) (hp : PoolAt W g s L f) (hk : Kept W W' (fun q => (q = g ∨ q = s) ∨ OwnR rp vs q)) : RowsAt B W' rp2 vs2 rows2 := h.step (fun k hk2 => by
  obtain ⟨cs, t, hb, ht⟩ := h.typed hk2
  exact hk.2 k (blk_lt hb) (fun e => e.elim (fun e => e.elim (blk_ne hb hp.hg (by rcases ht with rfl | rfl <;> decide)) (blk_ne hb hp.hs (by rcases ht with rfl | rfl <;> decide))) (fun e => hd k e hk2)))
theorem RowsAt.of_kept {B : Nat} {W W' : World} {g s : Nat} {L : List Slot} {f : Int} {rp2 : Option Addr} {vs2 : List Value} {rows2 : List (List Int)} (h : RowsAt B W rp2 vs2 rows2) (hp : PoolAt W g s L f) (hk : Kept W W' (fun q => q = g ∨ q = s)) : RowsAt B W' rp2 vs2 rows2 := h.step (fun k hk2 => by
  obtain ⟨cs, t, hb, ht⟩ := h.typed hk2
  exact hk.2 k (blk_lt hb) (fun e => e.elim (blk_ne hb hp.hg (by rcases ht with rfl | rfl <;> decide)) (blk_ne hb hp.hs (by rcases ht with rfl | rfl <;> decide))))
theorem TabAt.of_dis {B : Nat} {W W' : World} {tb g : Nat} {rp rp2 : Option Addr} {rc : Nat} {vs vs2 : List Value} {rows : List (List Int)} (h : TabAt B W tb g rp rc vs rows) (hd : Dis rp vs rp2 vs2) (hk : Kept W W' (OwnR rp2 vs2)) (hn : ¬ OwnR rp2 vs2 tb) : TabAt B W' tb g rp rc vs rows :=
  ⟨blk_kept h.ht hk hn, h.hR.step (fun k hk2 => hk.2 k (h.hR.lt hk2) (hd k hk2)), h.hn, h.hB⟩
set_option maxHeartbeats 8000000 in
set_option maxRecDepth 100000 in
theorem blockOrder.calls (k : Nat) (hk : madeAll k = true) (s0 : Int) (A : Option Addr) (c : Nat) (l : List Int) (w : World) (hr0 : Kd.C (Kd.int .i64) w A l.length l) (hc0 : l.length ≤ c) :
    Calls Try.prog 8 #[.int .i64 s0, .slice A l.length c] w fun e w' => e = .returned (.bool true) ∧ Below w.heap.size w w' := by
  have HK := Aside0.mk hk
  have HR := Aside0.mk hr0
  have HB := Aside0.mk (Below.refl w.heap.size w)
  have hfd := field6
  clear hk hr0 hc0
  have small : ∀ (b1 b2 b3 : Bool), decide (s0 < 1) = b1 → decide (16 < s0) = b2 → decide (60 < l.length) = b3 → (b1 || b2 || b3) = true → Calls Try.prog 8 #[.int .i64 s0, .slice A l.length c] w fun e w' => e = .returned (.bool true) ∧ Below w.heap.size w w' := by
    intro b1 b2 b3 d1 d2 d3 hb
    have d4 : decide (60 < (l.length : Int)) = b3 := by rw [← d3]; exact decide_eq_decide.mpr (by omega)
    cases b1 <;> cases b2 <;> cases b3
    case false.false.false => cases hb
    all_goals
      clear hb
      go_enter Try.func8, Try.ntmps8
      go_wp2_with (go_at_call 28; (refine (blockAwake.calls k HK.out _).mono ?_); rintro e w1 ⟨rfl, hb⟩; replace HB := Aside0.mk (below_step HB.out hb); clear hb)
      go_ret
      exact ⟨rfl, HB.out⟩
  by_cases q1 : s0 < 1
  · exact small _ _ _ (decide_eq_true q1) rfl rfl rfl
  by_cases q2 : 16 < s0
  · exact small _ _ _ (decide_eq_false q1) (decide_eq_true q2) rfl rfl
  by_cases q3 : 60 < l.length
  · exact small _ _ _ (decide_eq_false q1) (decide_eq_false q2) (decide_eq_true q3) rfl
  clear small
  obtain ⟨n, rfl⟩ := Int.eq_ofNat_of_zero_le (show 0 ≤ s0 by omega)
  have d1 : decide ((n : Int) < 1) = false := decide_eq_false q1
  have d2 : decide (16 < (n : Int)) = false := decide_eq_false q2
  have d3 : decide (60 < l.length) = false := decide_eq_false q3
  have d4 : decide (60 < (l.length : Int)) = false := decide_eq_false (by omega)
  have HN : Aside0 (1 ≤ n ∧ n ≤ 16) := ⟨by omega, by omega⟩
  have HL := Aside0.mk (show l.length ≤ 60 by omega)
  clear q1 q2 q3
  go_enter Try.func8, Try.ntmps8
  go_upto_region 6 with (go_at_call 12; (refine (poolNew60.calls _).mono ?_); rintro e w1 ⟨g, s, rfl, hp, hg, hs, hb⟩; have P := Aside0.mk hp; have G := Aside0.mk hg; have S := Aside0.mk hs; replace HB := Aside0.mk (below_step HB.out hb); clear hp hg hs hb)
  go_upto_region 9 with (go_at_call 38; (refine (blockNew.calls g n HN.out.2 w.heap.size _ (below_size HB.out)).mono ?_); rintro e w2 ⟨tb, rb, rfl, ht, -, -, hb⟩; have T := Aside0.mk ht; replace P := Aside0.mk (P.out.below hb); replace HB := Aside0.mk (below_step HB.out hb); clear ht hb)
  have hmk := rows_made n (by have := HN.out; omega) w2
  go_upto_region 10 with (fail)
  have hnew := blk_new w2 (.cells (Array.replicate n (Value.slice none 0 0)) 28)
  have WR : Aside0 (RowsAt w.heap.size (w2.alloc (.cells (Array.replicate n (Value.slice none 0 0)) 28)) (some ⟨w2.heap.size, 0, none⟩) (List.replicate n (.slice none 0 0)) (List.replicate n [])) := ⟨RowsAt.new n hnew (below_size HB.out)⟩
  have hal : Below w2.heap.size w2 (w2.alloc (.cells (Array.replicate n (Value.slice none 0 0)) 28)) := below_alloc (Below.refl _ _) _
  have DI : Aside0 (Dis (some ⟨rb, 0, none⟩) (List.replicate n (.slice none 0 0)) (some ⟨w2.heap.size, 0, none⟩) (List.replicate n (.slice none 0 0))) := ⟨fun q h1 h2 => by have e1 := T.out.hR.lt h1; have e2 := OwnR.new h2; omega⟩
  obtain ⟨wb, hwb⟩ : ∃ wb, wb = w2.heap.size := ⟨_, rfl⟩
  rw [← hwb] at WR DI hmk ⊢
  replace T := Aside0.mk (T.out.below hal)
  replace P := Aside0.mk (P.out.below hal)
  replace HB : Aside0 (Below w.heap.size w (w2.alloc (.cells (Array.replicate n (Value.slice none 0 0)) 28))) := ⟨below_step HB.out hal⟩
  clear hal hnew hmk hwb
  generalize w2.alloc (.cells (Array.replicate n (Value.slice none 0 0)) 28) = w3 at P T WR HB ⊢
  go_wp2
  go_loopw [61] (fun i W' => ∃ (a c_ : Nat) (L : List Slot) (vs vw : List Value) (rt rw_ : List (List Int)), i = .int .i64 a ∧ Aside0 (a ≤ l.length ∧ c_ ≤ a ∧ L.length = 60 ∧ (∀ (q : Nat) (x : Slot), L[q]? = some x → (q < c_ → x.refs = 1) ∧ (c_ ≤ q → x.refs = 0)) ∧ rt.length = n ∧ rw_.length = n ∧ Told L rt rw_ ∧ rt.flatten.length = c_) ∧ Aside0 (PoolAt W' g s L (60 - (c_ : Int))) ∧ Aside0 (TabAt w.heap.size W' tb g (some ⟨rb, 0, none⟩) n vs rt) ∧ Aside0 (RowsAt w.heap.size W' (some ⟨wb, 0, none⟩) vw rw_) ∧ Aside0 (Dis (some ⟨rb, 0, none⟩) vs (some ⟨wb, 0, none⟩) vw) ∧ Aside0 (Below w.heap.size w W')) (fun i _ => l.length - (intOf i).toNat)
  case atStart =>
    have hflat : ∀ m : Nat, (List.replicate m ([] : List Int)).flatten.length = 0 := by
      intro m
      induction m with
      | zero => rfl
      | succ m ih => rw [List.replicate_succ, List.flatten_cons, List.nil_append, ih]
    exact ⟨0, 0, _, _, _, _, _, rfl, ⟨Nat.zero_le _, Nat.le_refl _, List.length_replicate, fun q x hx => ⟨fun h => absurd h (Nat.not_lt_zero _), fun _ => by have e := List.eq_of_mem_replicate (List.mem_of_getElem? hx); subst e; rfl⟩, List.length_replicate, List.length_replicate, fun r lt lw h1 h2 => by obtain rfl := List.eq_of_mem_replicate (List.mem_of_getElem? h1); obtain rfl := List.eq_of_mem_replicate (List.mem_of_getElem? h2); exact ⟨rfl, fun p id m h3 => by simp at h3⟩, hflat n⟩, P, T, WR, DI, HB⟩
  case round =>
    clear HB P T WR DI
    obtain ⟨a, c_, L, vs, vw, rt, rw_, rfl, HJ, P, T, WR, DI, HB⟩ := hrel
    by_cases q : a < l.length
    · have e1 : decide ((a : Int) < (l.length : Int)) = true := decide_eq_true (by omega)
      have e2 : decide (a < l.length) = true := decide_eq_true q
      have hw : wrap64 ((a : Int) + 1) = (a : Int) + 1 := by have := HL.out; simp only [wrap64]; omega
      have p0 : (0 : Int) ≤ (a : Int) := by omega
      have p1 : (a : Int) < (l.length : Int) := by omega
      obtain ⟨ad, he, hx0⟩ := Kd.at_int HR.out (a : Int) p0 p1
      cases he
      simp only [Int.toNat_natCast] at hx0
      replace hx0 := (HB.out.cell (World.block_lt_of_cell? w _ hx0)).trans hx0
      obtain ⟨d, hd⟩ : ∃ d, rd l (a : Int) = d := ⟨_, rfl⟩
      rw [hd] at hx0
      clear hd
      have out : ∀ (o1 o2 : Bool), decide (0 ≤ d) = o1 → decide (d < (n : Int)) = o2 → (o1 && o2) = false → (d < 0 ∨ (rt.length : Int) ≤ d) := fun o1 o2 h1 h2 h3 => by
        have := HJ.out.2.2.2.2.1
        by_cases z : 0 ≤ d
        · by_cases z2 : d < (n : Int)
          · rw [decide_eq_true z] at h1
            rw [decide_eq_true z2] at h2
            subst h1 h2
            cases h3
          · right
            omega
        · left
          omega
      by_cases z1 : 0 ≤ d
      case neg =>
        have f1 : decide (0 ≤ d) = false := decide_eq_false z1
        have HO := Aside0.mk (out _ _ f1 rfl rfl)
        clear out z1
        go_wp2_with (first | (go_at_call 34; (refine (madeP.calls k HK.out _ _).mono ?_); rintro e w5 ⟨b1, rfl, -, -, hb⟩; replace P := Aside0.mk (P.out.below hb); replace T := Aside0.mk (T.out.below hb); replace WR := Aside0.mk (WR.out.below hb); replace HB := Aside0.mk (below_step HB.out hb); clear hb hx0) | (go_at_call 33; (refine (blockAddNo.calls T.out d HO.out (some ⟨b1, 0, none⟩)).mono ?_); rintro e w6 ⟨rfl, rfl⟩; skip))
        rw [hw]
        exact ⟨⟨a + 1, c_, L, vs, vw, rt, rw_, rfl, ⟨by omega, by have := HJ.out.2.1; omega, HJ.out.2.2⟩, P, T, WR, DI, HB⟩, by simp only [intOf]; omega⟩
      have f1 : decide (0 ≤ d) = true := decide_eq_true z1
      by_cases z2 : d < (n : Int)
      case neg =>
        have f2 : decide (d < (n : Int)) = false := decide_eq_false z2
        have HO := Aside0.mk (out _ _ rfl f2 (by simp))
        clear out z1 z2
        go_wp2_with (first | (go_at_call 34; (refine (madeP.calls k HK.out _ _).mono ?_); rintro e w5 ⟨b1, rfl, -, -, hb⟩; replace P := Aside0.mk (P.out.below hb); replace T := Aside0.mk (T.out.below hb); replace WR := Aside0.mk (WR.out.below hb); replace HB := Aside0.mk (below_step HB.out hb); clear hb hx0) | (go_at_call 33; (refine (blockAddNo.calls T.out d HO.out (some ⟨b1, 0, none⟩)).mono ?_); rintro e w6 ⟨rfl, rfl⟩; skip))
        rw [hw]
        exact ⟨⟨a + 1, c_, L, vs, vw, rt, rw_, rfl, ⟨by omega, by have := HJ.out.2.1; omega, HJ.out.2.2⟩, P, T, WR, DI, HB⟩, by simp only [intOf]; omega⟩
      clear out
      obtain ⟨r, rfl⟩ := Int.eq_ofNat_of_zero_le z1
      have f2 : decide ((r : Int) < (n : Int)) = true := decide_eq_true z2
      have f3 : decide (r < n) = true := decide_eq_true (by omega)
      obtain ⟨lt, hlt⟩ : ∃ lt, rt[r]? = some lt := ⟨_, List.getElem?_eq_getElem (by have := HJ.out.2.2.2.2.1; omega)⟩
      obtain ⟨lw, hlw⟩ : ∃ lw, rw_[r]? = some lw := ⟨_, List.getElem?_eq_getElem (by have := HJ.out.2.2.2.2.2.1; omega)⟩
      have hc60 : c_ < 60 := by have := HJ.out.2.1; have := HL.out; omega
      obtain ⟨y, hy⟩ : ∃ y, L[c_]? = some y := ⟨_, List.getElem?_eq_getElem (by have := HJ.out.2.2.1; omega)⟩
      have HLT := Aside0.mk hlt
      have HLW := Aside0.mk hlw
      have HC := Aside0.mk hc60
      have HY := Aside0.mk hy
      have HY0 := Aside0.mk ((HJ.out.2.2.2.1 c_ y hy).2 (Nat.le_refl _))
      have HBF : Aside0 (∀ (j : Nat) (x : Slot), j < c_ → L[j]? = some x → ¬ x.refs = 0) := ⟨fun j x hj hx => by rw [(HJ.out.2.2.2.1 j x hx).1 hj]; exact n10⟩
      have HFM := Aside0.mk (flat_mem rt r lt hlt)
      have HMK := Aside0.mk (mk_small (a : Int) (by omega) (by have := HL.out; omega))
      clear hlt hlw hc60 hy z1 z2
      go_upto_region 18 with (first | (go_at_call 34; (refine (madeP.calls k HK.out _ _).mono ?_); rintro e w5 ⟨b1, rfl, hp, hge, hb⟩; have hgl := P.out.gl; have hsl := P.out.sl; have Q := Aside0.mk hp; have N1 : Aside0 (b1 ≠ g ∧ b1 ≠ s) := ⟨by omega, by omega⟩; clear hgl hsl hge; replace P := Aside0.mk (P.out.below hb); replace T := Aside0.mk (T.out.below hb); replace WR := Aside0.mk (WR.out.below hb); replace HB := Aside0.mk (below_step HB.out hb); clear hb hp hx0) | (go_at_call 33; (refine (blockAdd.calls T.out P.out (below_size HB.out) G.out S.out r lt HLT.out (by have h1 := HFM.out; rw [HJ.out.2.2.2.2.2.2.2] at h1; have := HC.out; omega) b1 _ c_ y HY.out HY0.out HBF.out Q.out N1.out.1 N1.out.2 (by have := HC.out; omega)).mono ?_); rintro e w6 ⟨vs', rfl, hp, ht, hb, hkp, hown⟩; have DI2 : Aside0 (Dis (some ⟨rb, 0, none⟩) vs' (some ⟨wb, 0, none⟩) vw) := ⟨fun q_ h1 h2 => (hown q_ h1).elim (fun h3 => DI.out q_ h3 h2) (fun h3 => by have := WR.out.lt h2; omega)⟩; replace WR := Aside0.mk (WR.out.of_add DI.out P.out hkp); replace P := Aside0.mk hp; replace T := Aside0.mk ht; replace HB := Aside0.mk (HB.out.trans hb); clear DI Q N1 hp ht hb hkp hown))
      obtain ⟨v, hv⟩ := WR.out.val HLW.out
      have hRv := WR.out.hv r v lw hv HLW.out
      obtain ⟨Aw, cw, rfl⟩ := Kd.R_slice hRv
      obtain ⟨wb2, cs, er, hwbk, hwB, hcs⟩ := WR.out.hc (by have := HJ.out.2.2.2.2.2.1; have := HN.out; omega)
      obtain rfl : wb = wb2 := by injection er with er; injection er
      have HV := Aside0.mk hv
      have HRV := Aside0.mk hRv
      have HWB := Aside0.mk hwbk
      have HWBB := Aside0.mk hwB
      have HCS := Aside0.mk (hcs r _ hv)
      have hcc := (blk_cell hwbk r).trans (hcs r _ hv)
      have r0 : (0 : Int) ≤ (r : Int) := by omega
      have r1 : (r : Int) < (n : Int) := of_decide_eq_true f2
      have HLE : Aside0 (lw.length ≤ 100000) := ⟨by rw [← (HJ.out.2.2.2.2.2.2.1 r lt lw HLT.out HLW.out).1]; have h1 := HFM.out; rw [HJ.out.2.2.2.2.2.2.2] at h1; have := HC.out; omega⟩
      clear hv hRv hwbk hwB hcs er
      go_upto_region 19 with ((with_reducible refine gate_builtin (b := .append) (xs := #[.tmp 96, .tmp 98]) rfl ?_); at_builtin; refine Kd.R_append (Kd.int .i64) (w0 := w) w.heap.size rfl (.tmp 96) (.tmp 98) 28 3 (.int .i64 0) 8 rfl Try.underlying28 info3 rfl (by decide) (by omega) (.slice Aw lw.length cw) lw (a : Int) [.int .i64 (a : Int)] (fun _ => True) (fun _ => False) rfl rfl ?aP (fun _ hk => hk.elim) ?aF ?aO ?aB ?aS ?aL ?_; (case aP => exact rfl); (case aB => exact (by with_reducible exact HB.out)); (case aF => exact (fun _ _ => trivial)); (case aO => exact Kd.R_mono HRV.out (fun _ _ => trivial)); (case aS => exact (below_size HB.out)); (case aL => have := HLE.out; omega); intro v1 w8 ho hb hg hat; obtain ⟨Ax, cx, rfl⟩ := Kd.R_slice ho; have hr2 := Aside0.mk (blk_grown HWB.out hg (Kd.R_ne HRV.out HWB.out (by decide))); have HO := Aside0.mk ho; have HG := Aside0.mk hg; have HAT := Aside0.mk hat; have HB8 := Aside0.mk hb; clear hcc; have hcc := (blk_cell hr2.out r).trans HCS.out; have hcz := blk_frozen hr2.out r; clear ho hb hg hat)
      obtain ⟨hWR, hkw, howw⟩ := RowsAt.put WR.out HV.out HLW.out HG.out HO.out HAT.out
      have hntb : ¬ OwnR (some ⟨wb, 0, none⟩) vw tb := fun h_ => by
        obtain ⟨cs_, t_, hb_, ht_⟩ := WR.out.typed h_
        exact blk_ne T.out.ht hb_ (by rcases ht_ with rfl | rfl <;> decide) rfl
      replace DI : Aside0 (Dis (some ⟨rb, 0, none⟩) vs' (some ⟨wb, 0, none⟩) (vw.set r (Value.slice Ax (lw ++ [(a : Int)]).length cx))) := ⟨fun q_ h1 h2 => (howw q_ h2).elim (fun h3 => DI2.out q_ h1 h3) (fun h3 => by have := T.out.hR.lt h1; omega)⟩
      replace T := Aside0.mk (T.out.of_dis DI2.out hkw hntb)
      replace P := Aside0.mk ((P.out.grown HRV.out HG.out).beside hr2.out (by decide) r (Value.slice Ax (lw ++ [(a : Int)]).length cx))
      replace HB := Aside0.mk (HB8.out.setCell (p := ⟨wb, r, none⟩) HWBB.out (Value.slice Ax (lw ++ [(a : Int)]).length cx))
      replace WR := Aside0.mk hWR
      have HT2 := Aside0.mk (Told.add (m := mk (a : Int)) (b := b1) HJ.out.2.2.2.2.2.2.1 HLT.out HLW.out HY.out HY0.out)
      rw [HMK.out] at HT2 P
      have HFS := Aside0.mk (flat_set (lt ++ [(c_ : Int)]) rt r lt HLT.out)
      have hlen : (lw ++ [(a : Int)]).length = lw.length + 1 := by simp
      rw [hlen] at DI T P HB WR
      clear hWR hkw howw hntb DI2 hcc hcz
      go_wp2
      rw [hw]
      refine ⟨⟨a + 1, c_ + 1, L.set c_ ⟨1, (a : Int), some b1⟩, vs', _, rt.set r (lt ++ [(c_ : Int)]), rw_.set r (lw ++ [(a : Int)]), rfl, ⟨by omega, by have := HJ.out.2.1; omega, by rw [List.length_set]; exact HJ.out.2.2.1, fun q_ x hx => ?_, by rw [List.length_set]; exact HJ.out.2.2.2.2.1, by rw [List.length_set]; exact HJ.out.2.2.2.2.2.1, HT2.out, ?_⟩, ⟨by rw [show (60 : Int) - ((c_ + 1 : Nat) : Int) = 60 - (c_ : Int) + -1 from by omega]; exact P.out⟩, T, WR, DI, HB⟩, by simp only [intOf]; omega⟩
      · rcases set_at hx with ⟨rfl, rfl⟩ | ⟨hne, hx⟩
        · exact ⟨fun _ => rfl, fun h => by omega⟩
        · exact ⟨fun h => (HJ.out.2.2.2.1 q_ x hx).1 (by omega), fun h => (HJ.out.2.2.2.1 q_ x hx).2 (by omega)⟩
      · have h1 := HFS.out
        have h2 : [(c_ : Int)].length = 1 := rfl
        rw [HJ.out.2.2.2.2.2.2.2, List.length_append, h2] at h1
        omega
    · have e1 : decide ((a : Int) < (l.length : Int)) = false := decide_eq_false (by omega)
      have e2 : decide (a < l.length) = false := decide_eq_false q
      have HA : Aside0 (L.length = 60 ∧ (∀ x ∈ L, x.refs ≤ 1000) ∧ rt.length = n ∧ rw_.length = n ∧ Told L rt rw_ ∧ rt.flatten.length ≤ 1000) := ⟨HJ.out.2.2.1, fun x hx => by
        obtain ⟨q_, hq_, rfl⟩ := List.getElem_of_mem hx
        have h1 := HJ.out.2.2.2.1 q_ _ (List.getElem?_eq_getElem hq_)
        by_cases z : q_ < c_
        · rw [h1.1 z]; decide
        · rw [h1.2 (by omega)]; decide, HJ.out.2.2.2.2.1, HJ.out.2.2.2.2.2.1, HJ.out.2.2.2.2.2.2.1, by rw [HJ.out.2.2.2.2.2.2.2]; have := HJ.out.2.1; have := HJ.out.1; have := HL.out; omega⟩
      clear HJ q DI
      go_upto_region 23 with (go_at_call 31; (refine (blockFork.calls T.out P.out (below_size HB.out) G.out S.out HA.out.2.2.2.2.2 HA.out.2.1).mono ?_); rintro e w9 ⟨L', ob, rp', rc', us, rfl, hh, hp, ht, hu, -, -, hb, hk⟩; have TL := Aside0.mk (HA.out.2.2.2.2.1.hold hh); replace WR := Aside0.mk (WR.out.of_kept P.out hk); replace P := Aside0.mk hp; replace T := Aside0.mk ht; have U := Aside0.mk hu; replace HB := Aside0.mk (HB.out.trans hb); clear hh hp ht hu hb hk)
      obtain ⟨f', hf'⟩ : ∃ f', (60 : Int) - (c_ : Int) = f' := ⟨_, rfl⟩
      rw [hf'] at P
      clear hf' e1 e2
      go_wp2
      go_loopw [108] (fun i W' => ∃ (r : Nat), i = .int .i64 r ∧ Aside0 (r ≤ n) ∧ Aside0 (PoolAt W' g s L' f') ∧ Aside0 (TabAt w.heap.size W' tb g (some ⟨rb, 0, none⟩) n vs rt) ∧ Aside0 (TabAt w.heap.size W' ob g rp' rc' us rt) ∧ Aside0 (RowsAt w.heap.size W' (some ⟨wb, 0, none⟩) vw rw_) ∧ Aside0 (Below w.heap.size w W')) (fun i _ => n - (intOf i).toNat)
      case atStart => exact ⟨0, rfl, ⟨Nat.zero_le _⟩, P, T, U, WR, HB⟩
      case round =>
        clear HB P T U WR
        obtain ⟨r, rfl, HRN, P, T, U, WR, HB⟩ := hrel
        by_cases q : r < n
        · have e1 : decide ((r : Int) < (n : Int)) = true := decide_eq_true (by omega)
          have e2 : decide (r < n) = true := decide_eq_true q
          have hw : wrap64 ((r : Int) + 1) = (r : Int) + 1 := by have := HN.out; simp only [wrap64]; omega
          have p0 : (0 : Int) ≤ (r : Int) := by omega
          have p1 : (r : Int) < (n : Int) := by omega
          obtain ⟨lt, hlt⟩ : ∃ lt, rt[r]? = some lt := ⟨_, List.getElem?_eq_getElem (by rw [HA.out.2.2.1]; exact q)⟩
          obtain ⟨lw, hlw⟩ : ∃ lw, rw_[r]? = some lw := ⟨_, List.getElem?_eq_getElem (by rw [HA.out.2.2.2.1]; exact q)⟩
          obtain ⟨hle, htold⟩ := TL.out r lt lw hlt hlw
          have HTO := Aside0.mk htold
          have HLT := Aside0.mk hlt
          have HLW := Aside0.mk hlw
          have hle1 : ((lt.length : Int) == (lw.length : Int)) = true := beq_iff_eq.mpr (by rw [hle])
          have hle2 : ((lt.length : Int) != (lw.length : Int)) = false := bne_eq_false_iff_eq.mpr (by rw [hle])
          obtain ⟨v, hv⟩ := WR.out.val hlw
          obtain ⟨Aw, cw, rfl⟩ := Kd.R_slice (WR.out.hv r v lw hv hlw)
          obtain ⟨wb2, er, hc, -⟩ := WR.out.cell hv
          obtain rfl : wb = wb2 := by injection er with er; injection er
          have HV := Aside0.mk hv
          have HLE : Aside0 (lw.length ≤ 1000) := ⟨by rw [← hle]; exact Nat.le_trans (flat_mem rt r lt hlt) HA.out.2.2.2.2.2⟩
          have HLEQ := Aside0.mk hle
          clear hlt hlw htold hv er
          have A5 := Aside0.mk True.intro
          go_upto_region 28 with (go_at_call 36; first | (have q_ := A5.out; clear A5; (refine (blockLen.calls T.out r lt HLT.out).mono ?_); clear q_; rintro e w10 ⟨rfl, rfl⟩; skip) | ((refine (blockLen.calls U.out r lt HLT.out).mono ?_); rintro e w10 ⟨rfl, rfl⟩; skip))
          clear hc
          go_wp2
          go_loopw [129] (fun i W' => ∃ (p : Nat), i = .int .i64 p ∧ Aside0 (p ≤ lw.length) ∧ Aside0 (PoolAt W' g s L' f') ∧ Aside0 (TabAt w.heap.size W' tb g (some ⟨rb, 0, none⟩) n vs rt) ∧ Aside0 (TabAt w.heap.size W' ob g rp' rc' us rt) ∧ Aside0 (RowsAt w.heap.size W' (some ⟨wb, 0, none⟩) vw rw_) ∧ Aside0 (Below w.heap.size w W')) (fun i _ => lw.length - (intOf i).toNat)
          case atStart => exact ⟨0, rfl, ⟨Nat.zero_le _⟩, P, T, U, WR, HB⟩
          case round =>
            clear HB P T U WR
            obtain ⟨p, rfl, HPN, P, T, U, WR, HB⟩ := hrel
            by_cases q2 : p < lw.length
            · have g1 : decide ((p : Int) < (lw.length : Int)) = true := decide_eq_true (by omega)
              have g2 : decide (p < lw.length) = true := decide_eq_true q2
              have hwp : wrap64 ((p : Int) + 1) = (p : Int) + 1 := by have := HLE.out; simp only [wrap64]; omega
              have t0 : (0 : Int) ≤ (p : Int) := by omega
              have t1 : (p : Int) < (lw.length : Int) := by omega
              obtain ⟨m, hm⟩ : ∃ m, lw[p]? = some m := ⟨_, List.getElem?_eq_getElem q2⟩
              obtain ⟨id, hid⟩ : ∃ id, lt[p]? = some id := ⟨_, List.getElem?_eq_getElem (by rw [HLEQ.out]; exact q2)⟩
              obtain ⟨qq, x, rfl, hx, hx0, rfl⟩ := HTO.out p id m hid hm
              obtain ⟨b, eb, hq, -⟩ := P.out.hp x (List.mem_of_getElem? hx) (by omega)
              have hxr : ¬ x.refs = 0 := by omega
              obtain ⟨ad2, ea, -⟩ := Kd.at_int (Kd.R_reads' (WR.out.hv r _ lw HV.out HLW.out)).2.2 (p : Int) t0 t1
              subst ea
              have hcm := WR.out.item HV.out HLW.out hm
              have Q := Aside0.mk hq
              have HX := Aside0.mk hx
              have HXR := Aside0.mk hxr
              have HEB := Aside0.mk eb
              have HID := Aside0.mk hid
              clear hm hid hx hx0 eb hq hxr
              go_upto_region 31 with (fail)
              clear hcm
              go_upto_region 32 with (go_at_call 37; (refine (blockAt.calls T.out P.out r lt HLT.out p qq HID.out x b HX.out HXR.out HEB.out).mono ?_); rintro e w11 ⟨rfl, hb⟩; replace Q := Aside0.mk (Q.out.same (hb.block _ Q.out.lt)); replace P := Aside0.mk (P.out.below hb); replace T := Aside0.mk (T.out.below hb); replace U := Aside0.mk (U.out.below hb); replace WR := Aside0.mk (WR.out.below hb); replace HB := Aside0.mk (below_step HB.out hb); clear hb)
              go_upto_region 33 with (go_at_call 37; (refine (blockAt.calls U.out P.out r lt HLT.out p qq HID.out x b HX.out HXR.out HEB.out).mono ?_); rintro e w12 ⟨rfl, hb⟩; replace Q := Aside0.mk (Q.out.same (hb.block _ Q.out.lt)); replace P := Aside0.mk (P.out.below hb); replace T := Aside0.mk (T.out.below hb); replace U := Aside0.mk (U.out.below hb); replace WR := Aside0.mk (WR.out.below hb); replace HB := Aside0.mk (below_step HB.out hb); clear hb)
              go_wp2_with (go_at_call 25; (refine (poolHead.calls b x.mark _ Q.out).mono ?_); rintro e w13 ⟨z0, z1, z2, z3, z4, z5, rfl, hb⟩; replace Q := Aside0.mk (Q.out.same (hb.block _ Q.out.lt)); replace P := Aside0.mk (P.out.below hb); replace T := Aside0.mk (T.out.below hb); replace U := Aside0.mk (U.out.below hb); replace WR := Aside0.mk (WR.out.below hb); replace HB := Aside0.mk (below_step HB.out hb); clear hb)
              rw [hwp]
              exact ⟨⟨p + 1, rfl, ⟨q2⟩, P, T, U, WR, HB⟩, by simp only [intOf]; omega⟩
            · have g1 : decide ((p : Int) < (lw.length : Int)) = false := decide_eq_false (by omega)
              have g2 : decide (p < lw.length) = false := decide_eq_false q2
              go_wp2
              rw [hw]
              exact ⟨⟨r + 1, rfl, ⟨q⟩, P, T, U, WR, HB⟩, by simp only [intOf]; omega⟩
        · have e1 : decide ((r : Int) < (n : Int)) = false := decide_eq_false (by omega)
          have e2 : decide (r < n) = false := decide_eq_false q
          go_wp2_with (go_at_call 28; (refine (blockAwake.calls k HK.out _).mono ?_); rintro e w14 ⟨rfl, hb⟩; replace HB := Aside0.mk (below_step HB.out hb); clear hb)
          go_ret
          exact ⟨rfl, HB.out⟩

def credenzalaw11_BlockOrder.f (k : Nat) (a0 : Int) (l1 : List Int) : Option Bool := if madeAll k = true then some true else none
theorem credenzalaw11_BlockOrder.mono : ∀ a0 l1 k, LeO (credenzalaw11_BlockOrder.f k a0 l1) (credenzalaw11_BlockOrder.f (k + 1) a0 l1) := fun _ _ k => allLe k
theorem credenzalaw11_BlockOrder.calls (k : Nat) (a0 : Int) (A1 : Option Addr) (c1 : Nat) (l1 : List Int) (r : Bool) (w : World) (hr1 : Kd.C (Kd.int .i64) w A1 l1.length l1) (hc1 : l1.length ≤ c1) (h : credenzalaw11_BlockOrder.f k a0 l1 = some r) :
    Calls Try.prog 8 #[.int .i64 a0, .slice A1 l1.length c1] w fun e w' => e = .returned (.bool r) ∧ Below w.heap.size w w' := by
  obtain ⟨h1, rfl⟩ := allOf h
  exact blockOrder.calls k h1 a0 A1 c1 l1 w hr1 hc1
-- calls: credenzalaw11_awake 


/-- THE ONE PURE STATEMENT of credenzalaw11_BlockOrder: yours. -/
def credenzalaw11_BlockOrder.Pure : Prop := ∀ (a0 : Int) (l1 : List Int), (Lit.int .i64 a0).wf = true → l1.length ≤ maxLen → l1.length * 8 ≤ 140737488351232 → (∀ x ∈ l1, (Lit.int .i64 x).wf = true) → ∃ k, credenzalaw11_BlockOrder.f k a0 l1 = some true
theorem credenzalaw11_BlockOrder.walk (P : credenzalaw11_BlockOrder.Pure) (a0 : Int) (a1 : Option Addr) (len1 cap1 : Nat) (z1 : List Int) (w : World) (w0 : (Lit.int .i64 a0).wf = true) (w1 : (a1 = none ∧ len1 = 0 ∧ cap1 = 0 ∧ z1 = []) ∨ ∃ x, a1 = some x ∧ len1 ≤ cap1 ∧ cap1 ≤ maxLen ∧ z1.length = cap1 ∧ (∀ i, i < z1.length → w.cell? (x.add i) = some (.int .i64 (z1.getD i 0))) ∧ ∀ n ∈ z1, (Lit.int .i64 n).wf = true) (y1 : len1 * 8 ≤ 140737488351232) :
    Calls Try.prog 8 #[.int .i64 a0, .slice a1 len1 cap1] w fun e w' => e = .returned (.bool true) ∧ Below w.heap.size w w' := by
  obtain ⟨l1, rfl, hr1, hm1, hw1, hc1⟩ := ReadsInt.ofRowC w1
  obtain ⟨k, h⟩ := P a0 l1 w0 hm1 y1 hw1
  refine (credenzalaw11_BlockOrder.calls k a0 _ _ l1 true w (Kd.C_of_reads (d := (0 : Int)) (h1 := fun _ => rfl) hr1) hc1 h).mono ?_
  rintro e w' ⟨rfl, hd⟩
  exact ⟨rfl, hd⟩

end Go.Proofs.Ytoofkemhikigoaa.PBlockOrder
