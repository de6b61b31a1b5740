-- Written by a program of this session (wip/tools/mkprint.py over the kit's print).
import Derived.Test.YtoofkemhikigoaaPPoolPlaysx0
namespace Go.Proofs.Ytoofkemhikigoaa.PPoolPlays
open Go.RowKit Go.Proofs.YtoofkemhikigoaaW.PrintWords Go.Proofs.YtoofkemhikigoaaW.PrintLast Go.Proofs.YtoofkemhikigoaaW.PrintMore
attribute [local go_sem] max2_int min2_int max_two min_two max_three min_three max_four min_four   -- for this text's walks alone
set_option linter.unusedVariables false
set_option linter.unusedSimpArgs false

/-! ### credenzaref10_Pool_Free: function 16 -/
def credenzaref10_Pool_Free.l0 : Nat → Int → Int → List Int → List Int → Option (Int)
  | 0, _, _, _, _ => none
  | k + 1, x3, x4, x239000, x239001 => if x4 < (x239000.length : Int) then (if 0 ≤ x4 then (if (rd x239000 x4) = 0 then (credenzaref10_Pool_Free.l0 k (wrap64 (x3 + 1)) (wrap64 (x4 + 1)) x239000 x239001) else (credenzaref10_Pool_Free.l0 k x3 (wrap64 (x4 + 1)) x239000 x239001)) else (none)) else (some x3)
def credenzaref10_Pool_Free.f (k : Nat) (l0_0 : List Int) (l0_1 : List Int) : Option (Int) := credenzaref10_Pool_Free.l0 k 0 0 l0_0 l0_1
theorem credenzaref10_Pool_Free.mono_l : ∀ k, (∀ y0 y1 y2 y3, LeO (credenzaref10_Pool_Free.l0 k y0 y1 y2 y3) (credenzaref10_Pool_Free.l0 (k + 1) y0 y1 y2 y3))
  | 0 => fun _ _ _ _ r h => by simp [credenzaref10_Pool_Free.l0] at h
  | k + 1 => by
    have ih0 := credenzaref10_Pool_Free.mono_l k
    · intro y0 y1 y2 y3
      unfold credenzaref10_Pool_Free.l0
      repeat' first
      | (with_reducible exact ih0 _ _ _ _)
      | (with_reducible exact LeO.refl _)
      | (with_reducible exact LeO.none _)
      | (with_reducible refine LeO.ite ?_ ?_)
      | (with_reducible refine LeO.bind ?_ (fun _ => ?_))
      | exact ih0 _ _ _ _
      | exact LeO.none _
      | refine LeO.ite ?_ ?_
      | refine LeO.bind ?_ (fun _ => ?_)
theorem credenzaref10_Pool_Free.mono : ∀ a0 a1 k, LeO (credenzaref10_Pool_Free.f k a0 a1) (credenzaref10_Pool_Free.f (k + 1) a0 a1) := by
  intro a0 a1 k
  have ih0 := credenzaref10_Pool_Free.mono_l k
  unfold credenzaref10_Pool_Free.f
  repeat' first
      | (with_reducible exact ih0 _ _ _ _)
      | (with_reducible exact LeO.refl _)
      | (with_reducible exact LeO.none _)
      | (with_reducible refine LeO.ite ?_ ?_)
      | (with_reducible refine LeO.bind ?_ (fun _ => ?_))
      | exact ih0 _ _ _ _
      | exact LeO.none _
      | refine LeO.ite ?_ ?_
      | refine LeO.bind ?_ (fun _ => ?_)
set_option maxHeartbeats 8000000 in
set_option maxRecDepth 100000 in
theorem credenzaref10_Pool_Free.calls (k : Nat) (A0_0 : Option Addr) (c0_0 : Nat) (l0_0 : List Int) (A0_1 : Option Addr) (c0_1 : Nat) (l0_1 : List Int) (r : Int) (w : World) (hr0_0 : Kd.C (Kd.int .i64) w A0_0 l0_0.length l0_0) (hc0_0 : l0_0.length ≤ c0_0) (hr0_1 : Kd.C (Kd.int .i64) w A0_1 l0_1.length l0_1) (hc0_1 : l0_1.length ≤ c0_1) (h : credenzaref10_Pool_Free.f k l0_0 l0_1 = some r) :
    Calls Try.prog 16 #[.agg #[.slice A0_0 l0_0.length c0_0, .slice A0_1 l0_1.length c0_1]] w fun e w' => e = .returned (.int .i64 r) ∧ Below w.heap.size w w' := by
  have hu30 := Try.underlying30
  have HR0_0 := Aside0.mk hr0_0
  have HC0_0 := Aside0.mk hc0_0
  clear hr0_0 hc0_0
  have HR0_1 := Aside0.mk hr0_1
  have HC0_1 := Aside0.mk hc0_1
  clear hr0_1 hc0_1
  have HB := Aside0.mk (Below.refl w.heap.size w)
  have H : (credenzaref10_Pool_Free.l0 k 0 0 l0_0 l0_1) = some r := h
  clear h
  have H' := Aside0.mk H
  clear H
  go_enter Try.func16, Try.ntmps16
  go_wp2_with (first | ((with_reducible refine gate_dst (N := 1) rfl ?_); refine box_event ?hg (N := 1) ?hd (cs := #[.slice A0_0 l0_0.length c0_0, .slice A0_1 l0_1.length c0_1]) (t := 30) ?hr ?_; (case hd => rfl); (case hg => rfl); (case hr => first | (go_simp; done) | (go_simp; rfl)); intro gb238 hg w2 hbox hb; have n0_ := Aside0.mk (below_step (by with_reducible exact HB.out) hb); have n1_ := Aside0.mk (hbox); have n2_ := Aside0.mk ((by rw [hg]; exact (below_size (by with_reducible exact HB.out)) : w.heap.size ≤ gb238)); have n3_ := Aside0.mk ((by rw [hg]; exact (below_size (by with_reducible exact HB.out)) : w.heap.size ≤ gb238)); clear HB; have HB := n0_; have BK238 := n1_; have GW238 := n2_; have GE238 := n3_; clear n0_ n1_ n2_ n3_; clear hb hbox hg))
  go_loopg [3, 4] k (fun kq v3 v4 w' => ∃ (x3_1 : Int) (x4_1 : Int), v3 = .int .i64 x3_1 ∧ v4 = .int .i64 x4_1 ∧ Aside0 (credenzaref10_Pool_Free.l0 kq x3_1 x4_1 l0_0 l0_1 = some r) ∧ Aside0 (kq ≤ k) ∧ Aside0 (w'.heap[gb238]? = some (.cells #[(.slice A0_0 l0_0.length c0_0), (.slice A0_1 l0_1.length c0_1)] 30 (0, 0))) ∧ Aside0 (Below w.heap.size w w'))
  case atStart => exact ⟨(0), (0), (by first | rfl | (simp; done) | (simp [*]; done)), (by first | rfl | (simp; done) | (simp [*]; done)), H', ⟨Nat.le_refl _⟩, ⟨by exact BK238.out⟩, ⟨by with_reducible exact HB.out⟩⟩
  case round =>
    clear H'
    try clear c1
    try clear p2
    obtain ⟨x3_1, x4_1, rfl, rfl, HA, HK1, BK238, HB⟩ := hrel
    cases gk with
    | zero => exact absurd HA.out (by simp [credenzaref10_Pool_Free.l0])
    | succ k1 =>
      have H := HA.out
      clear HA
      simp only [credenzaref10_Pool_Free.l0] at H
      by_cases c3 : x4_1 < (l0_0.length : Int)
      · rw [if_pos c3] at H
        have c3b0 : decide (x4_1 < (l0_0.length : Int)) = true := decide_eq_true c3
        clear c3
        by_cases c4 : 0 ≤ x4_1
        case neg => (rw [if_neg c4] at H; exact absurd H (by simp))
        rw [if_pos c4] at H
        have c4b0 : decide (0 ≤ x4_1) = true := decide_eq_true c4
        clear c4
        by_cases c5 : (rd l0_0 x4_1) = 0
        · rw [if_pos c5] at H
          have c5b0 : ((rd l0_0 x4_1) == 0) = true := beq_iff_eq.mpr c5
          have c5b1 : ((rd l0_0 x4_1) != 0) = false := bne_eq_false_iff_eq.mpr c5
          clear c5
          have H' := Aside0.mk H
          clear H
          have hcz6_0 : wr.cell? ⟨gb238, 0, none⟩ = some (.slice A0_0 l0_0.length c0_0) := (blk_cell BK238.out 0).trans rfl
          have hcz6_1 : wr.cell? ⟨gb238, 1, none⟩ = some (.slice A0_1 l0_1.length c0_1) := (blk_cell BK238.out 1).trans rfl
          have hfz6_0 := blk_frozen BK238.out 0
          have hfz6_1 := blk_frozen BK238.out 1
          have p239 : 0 ≤ (x4_1 : Int) := of_decide_eq_true (by first | (with_reducible assumption) | assumption)
          have q239 : x4_1 < (l0_0.length : Int) := of_decide_eq_true (by first | (with_reducible assumption) | assumption)
          obtain ⟨ad239, e239, hx239_0⟩ := Kd.at_int HR0_0.out x4_1 p239 q239
          cases e239
          replace hx239_0 := (HB.out.cell (World.block_lt_of_cell? w _ hx239_0)).trans hx239_0
          replace p239 := eq_true p239
          replace q239 := eq_true q239
          go_wp2
          go_roundg k1
          case measure => have := HK1.out; omega
          case rel => exact ⟨(wrap64 (x3_1 + 1)), (wrap64 (x4_1 + 1)), (by first | rfl | (simp; done) | (simp [*]; done)), (by first | rfl | (simp; done) | (simp [*]; done)), H', ⟨by have := HK1.out; omega⟩, ⟨by exact BK238.out⟩, ⟨by with_reducible exact HB.out⟩⟩
        · rw [if_neg c5] at H
          have c5b0 : ((rd l0_0 x4_1) == 0) = false := beq_eq_false_iff_ne.mpr c5
          have c5b1 : ((rd l0_0 x4_1) != 0) = true := bne_iff_ne.mpr c5
          have H' := Aside0.mk H
          clear H
          have hcz7_0 : wr.cell? ⟨gb238, 0, none⟩ = some (.slice A0_0 l0_0.length c0_0) := (blk_cell BK238.out 0).trans rfl
          have hcz7_1 : wr.cell? ⟨gb238, 1, none⟩ = some (.slice A0_1 l0_1.length c0_1) := (blk_cell BK238.out 1).trans rfl
          have hfz7_0 := blk_frozen BK238.out 0
          have hfz7_1 := blk_frozen BK238.out 1
          have p239 : 0 ≤ (x4_1 : Int) := of_decide_eq_true (by first | (with_reducible assumption) | assumption)
          have q239 : x4_1 < (l0_0.length : Int) := of_decide_eq_true (by first | (with_reducible assumption) | assumption)
          obtain ⟨ad239, e239, hx239_0⟩ := Kd.at_int HR0_0.out x4_1 p239 q239
          cases e239
          replace hx239_0 := (HB.out.cell (World.block_lt_of_cell? w _ hx239_0)).trans hx239_0
          replace p239 := eq_true p239
          replace q239 := eq_true q239
          go_wp2
          go_roundg k1
          case measure => have := HK1.out; omega
          case rel => exact ⟨(x3_1), (wrap64 (x4_1 + 1)), (by first | rfl | (simp; done) | (simp [*]; done)), (by first | rfl | (simp; done) | (simp [*]; done)), H', ⟨by have := HK1.out; omega⟩, ⟨by exact BK238.out⟩, ⟨by with_reducible exact HB.out⟩⟩
      · rw [if_neg c3] at H
        have c3b0 : decide (x4_1 < (l0_0.length : Int)) = false := decide_eq_false c3
        clear c3
        obtain rfl := Option.some.inj H
        have hcz8_0 : wr.cell? ⟨gb238, 0, none⟩ = some (.slice A0_0 l0_0.length c0_0) := (blk_cell BK238.out 0).trans rfl
        have hcz8_1 : wr.cell? ⟨gb238, 1, none⟩ = some (.slice A0_1 l0_1.length c0_1) := (blk_cell BK238.out 1).trans rfl
        have hfz8_0 := blk_frozen BK238.out 0
        have hfz8_1 := blk_frozen BK238.out 1
        go_wp2
        go_ret
        exact ⟨by first | rfl | (simp [errW_none, errW_some] <;> rfl) | (simp [*, errW_none, errW_some] <;> rfl), by with_reducible exact HB.out⟩

/-! ### credenzalaw10_same: function 18 -/
def credenzalaw10_same.l0 : Nat → List Int → List Int → Int → Int → Option (Bool)
  | 0, _, _, _, _ => none
  | k + 1, x0, x1, x12, x13 => if x13 < x12 then (if 0 ≤ x13 then (if x13 < (x0.length : Int) then (if x13 < (x1.length : Int) then (if (rd x0 x13) = (rd x1 x13) then (credenzalaw10_same.l0 k x0 x1 x12 (wrap64 (x13 + 1))) else (some false)) else (none)) else (none)) else (none)) else (some true)
def credenzalaw10_same.f (k : Nat) (l0 : List Int) (l1 : List Int) : Option (Bool) := if (l0.length : Int) = (l1.length : Int) then (credenzalaw10_same.l0 k l0 l1 (l0.length : Int) 0) else (some false)
theorem credenzalaw10_same.mono_l : ∀ k, (∀ y0 y1 y2 y3, LeO (credenzalaw10_same.l0 k y0 y1 y2 y3) (credenzalaw10_same.l0 (k + 1) y0 y1 y2 y3))
  | 0 => fun _ _ _ _ r h => by simp [credenzalaw10_same.l0] at h
  | k + 1 => by
    have ih0 := credenzalaw10_same.mono_l k
    · intro y0 y1 y2 y3
      unfold credenzalaw10_same.l0
      repeat' first
      | (with_reducible exact ih0 _ _ _ _)
      | (with_reducible exact LeO.refl _)
      | (with_reducible exact LeO.none _)
      | (with_reducible refine LeO.ite ?_ ?_)
      | (with_reducible refine LeO.bind ?_ (fun _ => ?_))
      | exact ih0 _ _ _ _
      | exact LeO.none _
      | refine LeO.ite ?_ ?_
      | refine LeO.bind ?_ (fun _ => ?_)
theorem credenzalaw10_same.mono : ∀ a0 a1 k, LeO (credenzalaw10_same.f k a0 a1) (credenzalaw10_same.f (k + 1) a0 a1) := by
  intro a0 a1 k
  have ih0 := credenzalaw10_same.mono_l k
  unfold credenzalaw10_same.f
  repeat' first
      | (with_reducible exact ih0 _ _ _ _)
      | (with_reducible exact LeO.refl _)
      | (with_reducible exact LeO.none _)
      | (with_reducible refine LeO.ite ?_ ?_)
      | (with_reducible refine LeO.bind ?_ (fun _ => ?_))
      | exact ih0 _ _ _ _
      | exact LeO.none _
      | refine LeO.ite ?_ ?_
      | refine LeO.bind ?_ (fun _ => ?_)
set_option maxHeartbeats 8000000 in
set_option maxRecDepth 100000 in
theorem credenzalaw10_same.calls (k : Nat) (A0 : Option Addr) (c0 : Nat) (l0 : List Int) (A1 : Option Addr) (c1 : Nat) (l1 : List Int) (r : Bool) (w : World) (hr0 : Kd.C (Kd.int .i64) w A0 l0.length l0) (hc0 : l0.length ≤ c0) (hr1 : Kd.C (Kd.int .i64) w A1 l1.length l1) (hc1 : l1.length ≤ c1) (h : credenzalaw10_same.f k l0 l1 = some r) :
    Calls Try.prog 18 #[.slice A0 l0.length c0, .slice A1 l1.length c1] w fun e w' => e = .returned (.bool r) ∧ Drawn0 w w' := by
  have HR0 := Aside0.mk hr0
  have HC0 := Aside0.mk hc0
  clear hr0 hc0
  have HR1 := Aside0.mk hr1
  have HC1 := Aside0.mk hc1
  clear hr1 hc1
  have H : (if (l0.length : Int) = (l1.length : Int) then (credenzalaw10_same.l0 k l0 l1 (l0.length : Int) 0) else (some false)) = some r := h
  clear h
  by_cases c3 : (l0.length : Int) = (l1.length : Int)
  · rw [if_pos c3] at H
    have c3b0 : ((l0.length : Int) == (l1.length : Int)) = true := beq_iff_eq.mpr c3
    have c3b1 : ((l0.length : Int) != (l1.length : Int)) = false := bne_eq_false_iff_eq.mpr c3
    have c3b2 : (l0.length == l1.length) = true := by first | simpa using c3 | (simp at c3 ⊢; omega)
    clear c3
    have H' := Aside0.mk H
    clear H
    go_enter Try.func18, Try.ntmps18
    go_wp2
    repeat (go_quiet (fail); try go_wp2)
    go_loopg [13] k (fun kq v13 w' => ∃ (x13_1 : Int), v13 = .int .i64 x13_1 ∧ Aside0 (credenzalaw10_same.l0 kq l0 l1 (l0.length : Int) x13_1 = some r) ∧ Aside0 (kq ≤ k) ∧ Drawn0 w w')
    case atStart => exact ⟨(0), (by first | rfl | (simp; done) | (simp [*]; done)), H', ⟨Nat.le_refl _⟩, by repeat (first | exact Drawn0.refl _ | apply Drawn0.step)⟩
    case round =>
      clear H'
      try clear c1
      try clear p2
      try clear c3
      try clear c3b0
      try clear c3b1
      try clear c3b2
      obtain ⟨x13_1, rfl, HA, HK1, ⟨m1, rfl⟩⟩ := hrel
      cases gk with
      | zero => exact absurd HA.out (by simp [credenzalaw10_same.l0])
      | succ k1 =>
        have H := HA.out
        clear HA
        simp only [credenzalaw10_same.l0] at H
        by_cases c4 : x13_1 < (l0.length : Int)
        · rw [if_pos c4] at H
          have c4b0 : decide (x13_1 < (l0.length : Int)) = true := decide_eq_true c4
          clear c4
          by_cases c5 : 0 ≤ x13_1
          case neg => (rw [if_neg c5] at H; exact absurd H (by simp))
          rw [if_pos c5] at H
          have c5b0 : decide (0 ≤ x13_1) = true := decide_eq_true c5
          clear c5
          by_cases c6 : x13_1 < (l0.length : Int)
          case neg => (rw [if_neg c6] at H; exact absurd H (by simp))
          rw [if_pos c6] at H
          have c6b0 : decide (x13_1 < (l0.length : Int)) = true := decide_eq_true c6
          clear c6
          by_cases c7 : x13_1 < (l1.length : Int)
          case neg => (rw [if_neg c7] at H; exact absurd H (by simp))
          rw [if_pos c7] at H
          have c7b0 : decide (x13_1 < (l1.length : Int)) = true := decide_eq_true c7
          clear c7
          by_cases c8 : (rd l0 x13_1) = (rd l1 x13_1)
          · rw [if_pos c8] at H
            have c8b0 : ((rd l0 x13_1) == (rd l1 x13_1)) = true := beq_iff_eq.mpr c8
            have c8b1 : ((rd l0 x13_1) != (rd l1 x13_1)) = false := bne_eq_false_iff_eq.mpr c8
            clear c8
            have H' := Aside0.mk H
            clear H
            have p240 : 0 ≤ (x13_1 : Int) := of_decide_eq_true (by first | (with_reducible assumption) | assumption)
            have q240 : x13_1 < (l0.length : Int) := of_decide_eq_true (by first | (with_reducible assumption) | assumption)
            obtain ⟨ad240, e240, hx240_0⟩ := Kd.at_int HR0.out x13_1 p240 q240
            cases e240
            replace p240 := eq_true p240
            replace q240 := eq_true q240
            have p241 : 0 ≤ (x13_1 : Int) := of_decide_eq_true (by first | (with_reducible assumption) | assumption)
            have q241 : x13_1 < (l1.length : Int) := of_decide_eq_true (by first | (with_reducible assumption) | assumption)
            obtain ⟨ad241, e241, hx241_0⟩ := Kd.at_int HR1.out x13_1 p241 q241
            cases e241
            replace p241 := eq_true p241
            replace q241 := eq_true q241
            go_wp2
            repeat (go_quiet (fail); try go_wp2)
            go_roundg k1
            case measure => have := HK1.out; omega
            case rel => exact ⟨(wrap64 (x13_1 + 1)), (by first | rfl | (simp; done) | (simp [*]; done)), H', ⟨by have := HK1.out; omega⟩, by repeat (first | exact Drawn0.refl _ | apply Drawn0.step)⟩
          · rw [if_neg c8] at H
            have c8b0 : ((rd l0 x13_1) == (rd l1 x13_1)) = false := beq_eq_false_iff_ne.mpr c8
            have c8b1 : ((rd l0 x13_1) != (rd l1 x13_1)) = true := bne_iff_ne.mpr c8
            obtain rfl := Option.some.inj H
            have p240 : 0 ≤ (x13_1 : Int) := of_decide_eq_true (by first | (with_reducible assumption) | assumption)
            have q240 : x13_1 < (l0.length : Int) := of_decide_eq_true (by first | (with_reducible assumption) | assumption)
            obtain ⟨ad240, e240, hx240_0⟩ := Kd.at_int HR0.out x13_1 p240 q240
            cases e240
            replace p240 := eq_true p240
            replace q240 := eq_true q240
            have p241 : 0 ≤ (x13_1 : Int) := of_decide_eq_true (by first | (with_reducible assumption) | assumption)
            have q241 : x13_1 < (l1.length : Int) := of_decide_eq_true (by first | (with_reducible assumption) | assumption)
            obtain ⟨ad241, e241, hx241_0⟩ := Kd.at_int HR1.out x13_1 p241 q241
            cases e241
            replace p241 := eq_true p241
            replace q241 := eq_true q241
            go_wp2
            repeat (go_quiet (fail); try go_wp2)
            go_ret
            exact ⟨by first | rfl | (simp; done) | (simp [*]; done), by repeat (first | exact Drawn0.refl _ | apply Drawn0.step)⟩
        · rw [if_neg c4] at H
          have c4b0 : decide (x13_1 < (l0.length : Int)) = false := decide_eq_false c4
          clear c4
          obtain rfl := Option.some.inj H
          go_wp2
          repeat (go_quiet (fail); try go_wp2)
          go_ret
          exact ⟨by first | rfl | (simp; done) | (simp [*]; done), by repeat (first | exact Drawn0.refl _ | apply Drawn0.step)⟩
  · rw [if_neg c3] at H
    have c3b0 : ((l0.length : Int) == (l1.length : Int)) = false := beq_eq_false_iff_ne.mpr c3
    have c3b1 : ((l0.length : Int) != (l1.length : Int)) = true := bne_iff_ne.mpr c3
    have c3b2 : (l0.length == l1.length) = false := by first | simpa using c3 | (simp at c3 ⊢; omega)
    obtain rfl := Option.some.inj H
    go_enter Try.func18, Try.ntmps18
    go_wp2
    repeat (go_quiet (fail); try go_wp2)
    go_ret
    exact ⟨by first | rfl | (simp; done) | (simp [*]; done), by repeat (first | exact Drawn0.refl _ | apply Drawn0.step)⟩

/-! ### credenzaref10_Pool_Used: function 20 -/
def credenzaref10_Pool_Used.l0 : Nat → List Int → Int → List Int → List Int → Option (List Int)
  | 0, _, _, _, _ => none
  | k + 1, x3, x4, x243000, x243001 => if x4 < (x243000.length : Int) then (if 0 ≤ x4 then (if (rd x243000 x4) > 0 then (if x3.length < 17592186044416 then (credenzaref10_Pool_Used.l0 k (x3 ++ [x4]) (wrap64 (x4 + 1)) x243000 x243001) else (none)) else (credenzaref10_Pool_Used.l0 k x3 (wrap64 (x4 + 1)) x243000 x243001)) else (none)) else (some x3)
def credenzaref10_Pool_Used.f (k : Nat) (l0_0 : List Int) (l0_1 : List Int) : Option (List Int) := credenzaref10_Pool_Used.l0 k ([] : List Int) 0 l0_0 l0_1
theorem credenzaref10_Pool_Used.mono_l : ∀ k, (∀ y0 y1 y2 y3, LeO (credenzaref10_Pool_Used.l0 k y0 y1 y2 y3) (credenzaref10_Pool_Used.l0 (k + 1) y0 y1 y2 y3))
  | 0 => fun _ _ _ _ r h => by simp [credenzaref10_Pool_Used.l0] at h
  | k + 1 => by
    have ih0 := credenzaref10_Pool_Used.mono_l k
    · intro y0 y1 y2 y3
      unfold credenzaref10_Pool_Used.l0
      repeat' first
      | (with_reducible exact ih0 _ _ _ _)
      | (with_reducible exact LeO.refl _)
      | (with_reducible exact LeO.none _)
      | (with_reducible refine LeO.ite ?_ ?_)
      | (with_reducible refine LeO.bind ?_ (fun _ => ?_))
      | exact ih0 _ _ _ _
      | exact LeO.none _
      | refine LeO.ite ?_ ?_
      | refine LeO.bind ?_ (fun _ => ?_)
theorem credenzaref10_Pool_Used.mono : ∀ a0 a1 k, LeO (credenzaref10_Pool_Used.f k a0 a1) (credenzaref10_Pool_Used.f (k + 1) a0 a1) := by
  intro a0 a1 k
  have ih0 := credenzaref10_Pool_Used.mono_l k
  unfold credenzaref10_Pool_Used.f
  repeat' first
      | (with_reducible exact ih0 _ _ _ _)
      | (with_reducible exact LeO.refl _)
      | (with_reducible exact LeO.none _)
      | (with_reducible refine LeO.ite ?_ ?_)
      | (with_reducible refine LeO.bind ?_ (fun _ => ?_))
      | exact ih0 _ _ _ _
      | exact LeO.none _
      | refine LeO.ite ?_ ?_
      | refine LeO.bind ?_ (fun _ => ?_)
set_option maxHeartbeats 8000000 in
set_option maxRecDepth 100000 in
theorem credenzaref10_Pool_Used.calls (k : Nat) (A0_0 : Option Addr) (c0_0 : Nat) (l0_0 : List Int) (A0_1 : Option Addr) (c0_1 : Nat) (l0_1 : List Int) (r : List Int) (w : World) (hr0_0 : Kd.C (Kd.int .i64) w A0_0 l0_0.length l0_0) (hc0_0 : l0_0.length ≤ c0_0) (hr0_1 : Kd.C (Kd.int .i64) w A0_1 l0_1.length l0_1) (hc0_1 : l0_1.length ≤ c0_1) (h : credenzaref10_Pool_Used.f k l0_0 l0_1 = some r) :
    Calls Try.prog 20 #[.agg #[.slice A0_0 l0_0.length c0_0, .slice A0_1 l0_1.length c0_1]] w fun e w' => ∃ v0_ : Value, e = .returned (v0_) ∧ Kd.R (Kd.int .i64) 3 w' w.heap.size (fun _ => True) v0_ r ∧ Below w.heap.size w w' := by
  have hu30 := Try.underlying30
  have HR0_0 := Aside0.mk hr0_0
  have HC0_0 := Aside0.mk hc0_0
  clear hr0_0 hc0_0
  have HR0_1 := Aside0.mk hr0_1
  have HC0_1 := Aside0.mk hc0_1
  clear hr0_1 hc0_1
  have HB := Aside0.mk (Below.refl w.heap.size w)
  have H : (credenzaref10_Pool_Used.l0 k ([] : List Int) 0 l0_0 l0_1) = some r := h
  clear h
  have H' := Aside0.mk H
  clear H
  go_enter Try.func20, Try.ntmps20
  go_wp2_with (first | ((with_reducible refine gate_dst (N := 1) rfl ?_); refine box_event ?hg (N := 1) ?hd (cs := #[.slice A0_0 l0_0.length c0_0, .slice A0_1 l0_1.length c0_1]) (t := 30) ?hr ?_; (case hd => rfl); (case hg => rfl); (case hr => first | (go_simp; done) | (go_simp; rfl)); intro gb242 hg w2 hbox hb; have n0_ := Aside0.mk (below_step (by with_reducible exact HB.out) hb); have n1_ := Aside0.mk (hbox); have n2_ := Aside0.mk ((by rw [hg]; exact (below_size (by with_reducible exact HB.out)) : w.heap.size ≤ gb242)); have n3_ := Aside0.mk ((by rw [hg]; exact (below_size (by with_reducible exact HB.out)) : w.heap.size ≤ gb242)); clear HB; have HB := n0_; have BK242 := n1_; have GW242 := n2_; have GE242 := n3_; clear n0_ n1_ n2_ n3_; clear hb hbox hg))
  go_loopg [3, 4] k (fun kq v3 v4 w' => ∃ (x3_1 : List Int) (x4_1 : Int), v4 = .int .i64 x4_1 ∧ Aside0 (credenzaref10_Pool_Used.l0 kq x3_1 x4_1 l0_0 l0_1 = some r) ∧ Aside0 (kq ≤ k) ∧ Aside0 (Kd.R (Kd.int .i64) 3 w' w.heap.size (fun _ => True) v3 x3_1) ∧ Aside0 (w'.heap[gb242]? = some (.cells #[(.slice A0_0 l0_0.length c0_0), (.slice A0_1 l0_1.length c0_1)] 30 (0, 0))) ∧ Aside0 (Below w.heap.size w w'))
  case atStart => exact ⟨(([] : List Int)), (0), (by first | rfl | (simp; done) | (simp [*]; done)), H', ⟨Nat.le_refl _⟩, ⟨by first | exact Kd.R_nil _ _ _ _ _ | exact Kd.N_nil _ _ _ _ _ | exact Kd.V_nil _ _ _ _ _ | exact Kd.Q_nil _ _ _ _ _ | exact Kd.S_nil _ _ _ _ _⟩, ⟨by exact BK242.out⟩, ⟨by with_reducible exact HB.out⟩⟩
  case round =>
    clear H'
    try clear c2
    try clear p2
    obtain ⟨x3_1, x4_1, rfl, HA, HK1, HO_3, BK242, HB⟩ := hrel
    cases gk with
    | zero => exact absurd HA.out (by simp [credenzaref10_Pool_Used.l0])
    | succ k1 =>
      have H := HA.out
      clear HA
      simp only [credenzaref10_Pool_Used.l0] at H
      by_cases c3 : x4_1 < (l0_0.length : Int)
      · rw [if_pos c3] at H
        have c3b0 : decide (x4_1 < (l0_0.length : Int)) = true := decide_eq_true c3
        clear c3
        by_cases c4 : 0 ≤ x4_1
        case neg => (rw [if_neg c4] at H; exact absurd H (by simp))
        rw [if_pos c4] at H
        have c4b0 : decide (0 ≤ x4_1) = true := decide_eq_true c4
        clear c4
        by_cases c5 : (rd l0_0 x4_1) > 0
        · rw [if_pos c5] at H
          have c5b0 : decide (0 < (rd l0_0 x4_1)) = true := decide_eq_true c5
          clear c5
          by_cases c6 : x3_1.length < 17592186044416
          case neg => (rw [if_neg c6] at H; exact absurd H (by simp))
          rw [if_pos c6] at H
          have LMc6 := Aside0.mk c6
          clear c6
          obtain ⟨y244, hy244⟩ : ∃ y_ : List Int, y_ = (x3_1 ++ [x4_1]) := ⟨_, rfl⟩
          replace H : (credenzaref10_Pool_Used.l0 k1 y244 (wrap64 (x4_1 + 1)) l0_0 l0_1) = some r := by first | (rw [hy244]; with_reducible exact H) | (have H2_ := (Option.bind_some _ _).symm.trans H; rw [hy244]; with_reducible exact H2_) | (have H2_ := (Option.bind_some _ _).symm.trans H; with_reducible exact H2_) | with_reducible exact H | (rw [hy244]; exact H) | exact H
          have Ny244 := Aside0.mk hy244
          clear hy244
          have H' := Aside0.mk H
          clear H
          have hcz7_0 : wr.cell? ⟨gb242, 0, none⟩ = some (.slice A0_0 l0_0.length c0_0) := (blk_cell BK242.out 0).trans rfl
          have hcz7_1 : wr.cell? ⟨gb242, 1, none⟩ = some (.slice A0_1 l0_1.length c0_1) := (blk_cell BK242.out 1).trans rfl
          have hfz7_0 := blk_frozen BK242.out 0
          have hfz7_1 := blk_frozen BK242.out 1
          have p243 : 0 ≤ (x4_1 : Int) := of_decide_eq_true (by first | (with_reducible assumption) | assumption)
          have q243 : x4_1 < (l0_0.length : Int) := of_decide_eq_true (by first | (with_reducible assumption) | assumption)
          obtain ⟨ad243, e243, hx243_0⟩ := Kd.at_int HR0_0.out x4_1 p243 q243
          cases e243
          replace hx243_0 := (HB.out.cell (World.block_lt_of_cell? w _ hx243_0)).trans hx243_0
          replace p243 := eq_true p243
          replace q243 := eq_true q243
          go_wp2_with (first | ((with_reducible refine gate_builtin (b := .append) (xs := #[.tmp 18, .tmp 20]) rfl ?_); at_builtin; refine Kd.R_append (Kd.int .i64) (w0 := w) w.heap.size rfl (.tmp 18) (.tmp 20) 28 3 (.int .i64 0) 8 rfl Try.underlying28 info3 rfl (by decide) (by omega) u3 x3_1 x4_1 [.int .i64 x4_1] (fun _ => True) (fun _ => False) rfl rfl ?aP (fun _ hk => hk.elim) ?aF ?aO ?aB ?aS ?aL ?_; (case aP => exact rfl); (case aB => exact (by with_reducible exact HB.out)); (case aF => exact (fun _ _ => trivial)); (case aO => exact (by exact HO_3.out)); (case aS => exact (below_size (by with_reducible exact HB.out))); (case aL => have := LMc6.out; omega); intro v245 w8 ho hb hg hat; rw [← Ny244.out] at ho; have n0_ := Aside0.mk (blk_grown (g := gb242) (o := .cells #[.slice (some ad243) l0_0.length c0_0, .slice A0_1 l0_1.length c0_1] 30 (0, 0)) (by exact BK242.out) hg (Kd.R_ne HO_3.out BK242.out (by decide))); have n1_ := Aside0.mk (hb); have n2_ := Aside0.mk (ho); clear BK242; clear HB; clear HO_3; have BK242 := n0_; have HB := n1_; have HO246 := n2_; clear n0_ n1_ n2_; clear ho hb hg hat))
          go_roundg k1
          case measure => have := HK1.out; omega
          case rel => exact ⟨(y244), (wrap64 (x4_1 + 1)), (by first | rfl | (simp; done) | (simp [*]; done)), H', ⟨by have := HK1.out; omega⟩, ⟨by exact HO246.out⟩, ⟨by exact BK242.out⟩, ⟨by with_reducible exact HB.out⟩⟩
        · rw [if_neg c5] at H
          have c5b0 : decide (0 < (rd l0_0 x4_1)) = false := decide_eq_false c5
          clear c5
          have H' := Aside0.mk H
          clear H
          have hcz9_0 : wr.cell? ⟨gb242, 0, none⟩ = some (.slice A0_0 l0_0.length c0_0) := (blk_cell BK242.out 0).trans rfl
          have hcz9_1 : wr.cell? ⟨gb242, 1, none⟩ = some (.slice A0_1 l0_1.length c0_1) := (blk_cell BK242.out 1).trans rfl
          have hfz9_0 := blk_frozen BK242.out 0
          have hfz9_1 := blk_frozen BK242.out 1
          have p243 : 0 ≤ (x4_1 : Int) := of_decide_eq_true (by first | (with_reducible assumption) | assumption)
          have q243 : x4_1 < (l0_0.length : Int) := of_decide_eq_true (by first | (with_reducible assumption) | assumption)
          obtain ⟨ad243, e243, hx243_0⟩ := Kd.at_int HR0_0.out x4_1 p243 q243
          cases e243
          replace hx243_0 := (HB.out.cell (World.block_lt_of_cell? w _ hx243_0)).trans hx243_0
          replace p243 := eq_true p243
          replace q243 := eq_true q243
          go_wp2
          go_roundg k1
          case measure => have := HK1.out; omega
          case rel => exact ⟨(x3_1), (wrap64 (x4_1 + 1)), (by first | rfl | (simp; done) | (simp [*]; done)), H', ⟨by have := HK1.out; omega⟩, ⟨by exact HO_3.out⟩, ⟨by exact BK242.out⟩, ⟨by with_reducible exact HB.out⟩⟩
      · rw [if_neg c3] at H
        have c3b0 : decide (x4_1 < (l0_0.length : Int)) = false := decide_eq_false c3
        clear c3
        obtain rfl := Option.some.inj H
        have hcz10_0 : wr.cell? ⟨gb242, 0, none⟩ = some (.slice A0_0 l0_0.length c0_0) := (blk_cell BK242.out 0).trans rfl
        have hcz10_1 : wr.cell? ⟨gb242, 1, none⟩ = some (.slice A0_1 l0_1.length c0_1) := (blk_cell BK242.out 1).trans rfl
        have hfz10_0 := blk_frozen BK242.out 0
        have hfz10_1 := blk_frozen BK242.out 1
        go_wp2
        go_ret
        exact ⟨_, by first | rfl | (simp [errW_none, errW_some] <;> rfl) | (simp [*, errW_none, errW_some] <;> rfl), by exact HO_3.out, by with_reducible exact HB.out⟩

end Go.Proofs.Ytoofkemhikigoaa.PPoolPlays
