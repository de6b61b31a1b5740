-- Written by a program of this session (wip/tools/mkprint.py over the kit's print).
import Derived.Test.YtlkelicgbjjgiaaPPackLanesx0
import Derived.Test.YtlkelicgbjjgiaaPPackLanesx1
import Derived.Test.YtlkelicgbjjgiaaPPackLanesx2
namespace Go.Proofs.Ytlkelicgbjjgiaa.PPackLanes
open Go.RowKit Go.Proofs.YtlkelicgbjjgiaaW.PrintWords Go.Proofs.YtlkelicgbjjgiaaW.PrintLast Go.Proofs.YtlkelicgbjjgiaaW.PrintMore
attribute [local go_sem] max2_int min2_int max_two min_two max_three min_three max_four min_four   -- for this text's walks alone
set_option linter.unusedVariables false
set_option linter.unusedSimpArgs false

/-! ### credenzalaw05_PackLanes: function 5 -/
def credenzalaw05_PackLanes.j0 : Nat → List Int → Int → Int → Int → Bool → Option (Bool)
  | 0, _, _, _, _, _ => none
  | k + 1, x0, x1, x2, x7, x31 => if x31 = true then (if x7 = 0 then ((credenzalaw05_awake.f k).bind fun t161 => (some t161)) else (some false)) else ((credenzaref05_Lane.f k x0 x1 x2).bind fun t162 => (if x7 = t162 then ((credenzalaw05_awake.f k).bind fun t163 => (some t163)) else (some false)))
def credenzalaw05_PackLanes.f (k : Nat) (l0 : List Int) (a1 : Int) (a2 : Int) : Option (Bool) := if (l0.length : Int) > 50 then ((credenzalaw05_awake.f k).bind fun t158 => (some t158)) else ((pack_Lane.f l0 a1 a2).bind fun t159 => ((credenzaref05_Bits.f a2).bind fun t160 => (if t160 = true then (if a1 < 0 then (credenzalaw05_PackLanes.j0 k l0 a1 a2 t159 true) else (if a2 = 0 then (none) else (credenzalaw05_PackLanes.j0 k l0 a1 a2 t159 (decide (a1 ≥ (wrap64 ((wrap64 (Int.tdiv (64 : Int) a2)) * (l0.length : Int)))))))) else (credenzalaw05_PackLanes.j0 k l0 a1 a2 t159 true))))
theorem credenzalaw05_PackLanes.mono_l : ∀ k, (∀ y0 y1 y2 y3 y4, LeO (credenzalaw05_PackLanes.j0 k y0 y1 y2 y3 y4) (credenzalaw05_PackLanes.j0 (k + 1) y0 y1 y2 y3 y4))
  | 0 => fun _ _ _ _ _ r h => by simp [credenzalaw05_PackLanes.j0] at h
  | k + 1 => by
    have ih0 := credenzalaw05_PackLanes.mono_l k
    · intro y0 y1 y2 y3 y4
      unfold credenzalaw05_PackLanes.j0
      repeat' first
      | (with_reducible exact ih0 _ _ _ _ _)
      | (with_reducible exact credenzalaw05_awake.mono _)
      | (with_reducible exact credenzaref05_Lane.mono _ _ _ _)
      | (with_reducible exact LeO.refl _)
      | (with_reducible exact LeO.none _)
      | (with_reducible refine LeO.ite ?_ ?_)
      | (with_reducible refine LeO.bind ?_ (fun _ => ?_))
      | exact ih0 _ _ _ _ _
      | exact credenzalaw05_awake.mono _
      | exact credenzaref05_Lane.mono _ _ _ _
      | exact LeO.none _
      | refine LeO.ite ?_ ?_
      | refine LeO.bind ?_ (fun _ => ?_)
theorem credenzalaw05_PackLanes.mono : ∀ a0 a1 a2 k, LeO (credenzalaw05_PackLanes.f k a0 a1 a2) (credenzalaw05_PackLanes.f (k + 1) a0 a1 a2) := by
  intro a0 a1 a2 k
  have ih0 := credenzalaw05_PackLanes.mono_l k
  unfold credenzalaw05_PackLanes.f
  repeat' first
      | (with_reducible exact ih0 _ _ _ _ _)
      | (with_reducible exact credenzalaw05_awake.mono _)
      | (with_reducible exact credenzaref05_Lane.mono _ _ _ _)
      | (with_reducible exact LeO.refl _)
      | (with_reducible exact LeO.none _)
      | (with_reducible refine LeO.ite ?_ ?_)
      | (with_reducible refine LeO.bind ?_ (fun _ => ?_))
      | exact ih0 _ _ _ _ _
      | exact credenzalaw05_awake.mono _
      | exact credenzaref05_Lane.mono _ _ _ _
      | exact LeO.none _
      | refine LeO.ite ?_ ?_
      | refine LeO.bind ?_ (fun _ => ?_)
set_option maxHeartbeats 8000000 in
set_option maxRecDepth 100000 in
theorem credenzalaw05_PackLanes.calls (k : Nat) (A0 : Option Addr) (c0 : Nat) (l0 : List Int) (a1 : Int) (a2 : Int) (r : Bool) (w : World) (hr0 : Kd.C (Kd.int .u64) w A0 l0.length l0) (hc0 : l0.length ≤ c0) (h : credenzalaw05_PackLanes.f k l0 a1 a2 = some r) :
    Calls Try.prog 5 #[.slice A0 l0.length c0, .int .i64 a1, .int .i64 a2] w fun e w' => e = .returned (.bool r) ∧ Below w.heap.size w w' := by
  have HR0 := Aside0.mk hr0
  have HC0 := Aside0.mk hc0
  clear hr0 hc0
  have HB := Aside0.mk (Below.refl w.heap.size w)
  have H : (if (l0.length : Int) > 50 then ((credenzalaw05_awake.f k).bind fun t158 => (some t158)) else ((pack_Lane.f l0 a1 a2).bind fun t159 => ((credenzaref05_Bits.f a2).bind fun t160 => (if t160 = true then (if a1 < 0 then (credenzalaw05_PackLanes.j0 k l0 a1 a2 t159 true) else (if a2 = 0 then (none) else (credenzalaw05_PackLanes.j0 k l0 a1 a2 t159 (decide (a1 ≥ (wrap64 ((wrap64 (Int.tdiv (64 : Int) a2)) * (l0.length : Int)))))))) else (credenzalaw05_PackLanes.j0 k l0 a1 a2 t159 true))))) = some r := h
  clear h
  by_cases c4 : (l0.length : Int) > 50
  · rw [if_pos c4] at H
    have c4b0 : decide (50 < (l0.length : Int)) = true := decide_eq_true c4
    have c4b1 : decide (50 < l0.length) = true := decide_eq_true (by omega)
    clear c4
    replace H := Option.bind_eq_some_iff.mp H
    obtain ⟨t158, A50, H⟩ := H
    replace H : (some t158) = some r := H
    have A5 := Aside0.mk A50
    clear A50
    obtain rfl := Option.some.inj H
    go_enter Try.func5, Try.ntmps5
    go_wp2_with (first | ((with_reducible refine gate_callee (f := 13) rfl ?_); refine goesL_ (some 11) rfl rfl Try.func13 (by kernel_rfl) rfl #[] rfl (by (try simp only [List.map_toArray, List.map_cons, List.map_nil]); first | done | rfl | (simp only [List.length_drop, List.length_take]; rfl)) ?_; (with_reducible refine (credenzalaw05_awake.calls k  t158 _ A5.out).mono ?_); rintro e w6 ⟨rfl, hb⟩; refine ⟨_, rfl, ?_⟩; have n0_ := Aside0.mk (below_step (by repeat (first | (with_reducible first | exact HB.out | apply below_alloc | apply pw_below_drewN | apply below_drew1) | exact HB.out)) hb); clear HB; have HB := n0_; clear n0_; (try clear hb); (try clear hb2); (try clear hk); (try clear hi)))
    go_ret
    exact ⟨by first | rfl | (simp [errW_none, errW_some] <;> rfl) | (simp [*, errW_none, errW_some] <;> rfl), by repeat (first | (with_reducible first | exact HB.out | apply below_alloc | apply pw_below_drewN | apply below_drew1) | exact HB.out)⟩
  · rw [if_neg c4] at H
    have c4b0 : decide (50 < (l0.length : Int)) = false := decide_eq_false c4
    have c4b1 : decide (50 < l0.length) = false := decide_eq_false (by omega)
    clear c4
    replace H := Option.bind_eq_some_iff.mp H
    obtain ⟨t159, A70, H⟩ := H
    replace H : ((credenzaref05_Bits.f a2).bind fun t160 => (if t160 = true then (if a1 < 0 then (credenzalaw05_PackLanes.j0 k l0 a1 a2 t159 true) else (if a2 = 0 then (none) else (credenzalaw05_PackLanes.j0 k l0 a1 a2 t159 (decide (a1 ≥ (wrap64 ((wrap64 (Int.tdiv (64 : Int) a2)) * (l0.length : Int)))))))) else (credenzalaw05_PackLanes.j0 k l0 a1 a2 t159 true))) = some r := H
    have A7 := Aside0.mk A70
    clear A70
    have HC8 := Aside0.mk H
    clear H
    go_enter Try.func5, Try.ntmps5
    go_upto_region 4 with (first | ((with_reducible refine gate_callee (f := 24) rfl ?_); refine goesL_ (some 15) rfl rfl Try.func24 (by kernel_rfl) rfl #[.slice A0 l0.length c0, .int .i64 a1, .int .i64 a2] rfl (by (try simp only [List.map_toArray, List.map_cons, List.map_nil]); first | done | rfl | (simp only [List.length_drop, List.length_take]; rfl)) ?_; (with_reducible refine (pack_Lane.calls _ _ l0 a1 a2 t159 _ ?side1 ?side2 A7.out).mono ?_); (case side1 => repeat (first | exact HR0.out | (with_reducible refine Kd.C_alloc ?_ _) | (with_reducible refine Kd.C_drewN ?_ _) | (with_reducible refine Kd.C_drew ?_))); (case side2 => exact HC0.out); rintro e w' ⟨rfl, ⟨nd, rfl⟩⟩; refine ⟨_, rfl, ?_⟩))
    (try simp only [Act.put, List.setIfInBounds_toArray, List.set_cons_zero, List.set_cons_succ])
    go_cut [31] (fun v31 wc => ∃ (kq : Nat) (x31_7 : Bool), v31 = .bool x31_7 ∧ Aside0 (credenzalaw05_PackLanes.j0 kq l0 a1 a2 t159 x31_7 = some r) ∧ Aside0 (kq ≤ k) ∧ Aside0 (Below w.heap.size w wc))
    case first =>
      have H := HC8.out
      clear HC8
      replace H := Option.bind_eq_some_iff.mp H
      obtain ⟨t160, A90, H⟩ := H
      replace H : (if t160 = true then (if a1 < 0 then (credenzalaw05_PackLanes.j0 k l0 a1 a2 t159 true) else (if a2 = 0 then (none) else (credenzalaw05_PackLanes.j0 k l0 a1 a2 t159 (decide (a1 ≥ (wrap64 ((wrap64 (Int.tdiv (64 : Int) a2)) * (l0.length : Int)))))))) else (credenzalaw05_PackLanes.j0 k l0 a1 a2 t159 true)) = some r := H
      have A9 := Aside0.mk A90
      clear A90
      by_cases c10 : t160 = true
      · subst c10
        have H1 : (if a1 < 0 then (credenzalaw05_PackLanes.j0 k l0 a1 a2 t159 true) else (if a2 = 0 then (none) else (credenzalaw05_PackLanes.j0 k l0 a1 a2 t159 (decide (a1 ≥ (wrap64 ((wrap64 (Int.tdiv (64 : Int) a2)) * (l0.length : Int)))))))) = some r := by rw [if_pos rfl] at H; exact H
        clear H
        have H := H1
        clear H1
        by_cases c11 : a1 < 0
        · rw [if_pos c11] at H
          have c11b0 : decide (a1 < 0) = true := decide_eq_true c11
          clear c11
          (first | rw [c11b0] | (simp only [i64_w, i32_w]; rw [c11b0]) | skip)
          have H' := Aside0.mk H
          clear H
          go_wp2_with (first | ((with_reducible refine gate_callee (f := 21) rfl ?_); refine goesL_ (some 17) rfl rfl Try.func21 (by kernel_rfl) rfl #[.int .i64 a2] rfl (by (try simp only [List.map_toArray, List.map_cons, List.map_nil]); first | done | rfl | (simp only [List.length_drop, List.length_take]; rfl)) ?_; (with_reducible refine (credenzaref05_Bits.calls a2 true _ A9.out).mono ?_); rintro e w' ⟨rfl, ⟨nd, rfl⟩⟩; refine ⟨_, rfl, ?_⟩))
          go_meet
          case rel => exact ⟨_, (true), (by first | rfl | (simp; done) | (simp [*]; done)), H', ⟨by first | omega | exact Nat.le_refl _⟩, ⟨by repeat (first | (with_reducible first | exact HB.out | apply below_alloc | apply pw_below_drewN | apply below_drew1) | exact HB.out)⟩⟩
        · rw [if_neg c11] at H
          have c11b0 : decide (a1 < 0) = false := decide_eq_false c11
          clear c11
          (first | rw [c11b0] | (simp only [i64_w, i32_w]; rw [c11b0]) | skip)
          by_cases c12 : a2 = 0
          · rw [if_pos c12] at H
            exact absurd H (by simp)
          · rw [if_neg c12] at H
            have c12b0 : (a2 == 0) = false := beq_eq_false_iff_ne.mpr c12
            have c12b1 : (a2 != 0) = true := bne_iff_ne.mpr c12
            have H' := Aside0.mk H
            clear H
            go_wp2_with (first | ((with_reducible refine gate_callee (f := 21) rfl ?_); refine goesL_ (some 17) rfl rfl Try.func21 (by kernel_rfl) rfl #[.int .i64 a2] rfl (by (try simp only [List.map_toArray, List.map_cons, List.map_nil]); first | done | rfl | (simp only [List.length_drop, List.length_take]; rfl)) ?_; (with_reducible refine (credenzaref05_Bits.calls a2 true _ A9.out).mono ?_); rintro e w' ⟨rfl, ⟨nd, rfl⟩⟩; refine ⟨_, rfl, ?_⟩))
            go_meet
            case rel => exact ⟨_, (decide (a1 ≥ (wrap64 ((wrap64 (Int.tdiv (64 : Int) a2)) * (l0.length : Int))))), (by first | rfl | (simp; done) | (simp [*]; done)), H', ⟨by first | omega | exact Nat.le_refl _⟩, ⟨by repeat (first | (with_reducible first | exact HB.out | apply below_alloc | apply pw_below_drewN | apply below_drew1) | exact HB.out)⟩⟩
      · replace c10 := Bool.eq_false_iff.mpr c10
        subst c10
        have H1 : (credenzalaw05_PackLanes.j0 k l0 a1 a2 t159 true) = some r := by rw [if_neg (show ¬ (false = true) by decide)] at H; exact H
        clear H
        have H := H1
        clear H1
        have H' := Aside0.mk H
        clear H
        go_wp2_with (first | ((with_reducible refine gate_callee (f := 21) rfl ?_); refine goesL_ (some 17) rfl rfl Try.func21 (by kernel_rfl) rfl #[.int .i64 a2] rfl (by (try simp only [List.map_toArray, List.map_cons, List.map_nil]); first | done | rfl | (simp only [List.length_drop, List.length_take]; rfl)) ?_; (with_reducible refine (credenzaref05_Bits.calls a2 false _ A9.out).mono ?_); rintro e w' ⟨rfl, ⟨nd, rfl⟩⟩; refine ⟨_, rfl, ?_⟩))
        go_meet
        case rel => exact ⟨_, (true), (by first | rfl | (simp; done) | (simp [*]; done)), H', ⟨by first | omega | exact Nat.le_refl _⟩, ⟨by repeat (first | (with_reducible first | exact HB.out | apply below_alloc | apply pw_below_drewN | apply below_drew1) | exact HB.out)⟩⟩
    case rest =>
      clear HC8
      try clear c1
      try clear c2
      try clear p2
      try clear c4
      try clear c4b0
      try clear c4b1
      try clear c5
      try clear p6
      try clear c10
      try clear c11
      try clear c11b0
      try clear c12
      try clear c12b0
      try clear c12b1
      obtain ⟨kq, x31_7, rfl, HA, HJ7, HB⟩ := hcut
      cases kq with
      | zero => exact absurd HA.out (by simp [credenzalaw05_PackLanes.j0])
      | succ kj7 =>
        have H := HA.out
        clear HA
        simp only [credenzalaw05_PackLanes.j0] at H
        by_cases c13 : x31_7 = true
        · subst c13
          have H1 : (if t159 = 0 then ((credenzalaw05_awake.f kj7).bind fun t161 => (some t161)) else (some false)) = some r := by rw [if_pos rfl] at H; exact H
          clear H
          have H := H1
          clear H1
          by_cases c14 : t159 = 0
          · rw [if_pos c14] at H
            have c14b0 : (t159 == 0) = true := beq_iff_eq.mpr c14
            have c14b1 : (t159 != 0) = false := bne_eq_false_iff_eq.mpr c14
            clear c14
            replace H := Option.bind_eq_some_iff.mp H
            obtain ⟨t161, A150, H⟩ := H
            replace H : (some t161) = some r := H
            have A15 := Aside0.mk A150
            clear A150
            obtain rfl := Option.some.inj H
            go_wp2_with (first | (go_at_call 13; (with_reducible refine (credenzalaw05_awake.calls kj7  t161 _ A15.out).mono ?_); rintro e w16 ⟨rfl, hb⟩; have n0_ := Aside0.mk (below_step (by repeat (first | (with_reducible first | exact HB.out | apply below_alloc | apply pw_below_drewN | apply below_drew1) | exact HB.out)) hb); clear HB; have HB := n0_; clear n0_; (try clear hb); (try clear hb2); (try clear hk); (try clear hi)))
            go_ret
            exact ⟨by first | rfl | (simp [errW_none, errW_some] <;> rfl) | (simp [*, errW_none, errW_some] <;> rfl), by repeat (first | (with_reducible first | exact HB.out | apply below_alloc | apply pw_below_drewN | apply below_drew1) | exact HB.out)⟩
          · rw [if_neg c14] at H
            have c14b0 : (t159 == 0) = false := beq_eq_false_iff_ne.mpr c14
            have c14b1 : (t159 != 0) = true := bne_iff_ne.mpr c14
            obtain rfl := Option.some.inj H
            go_wp2
            go_ret
            exact ⟨by first | rfl | (simp [errW_none, errW_some] <;> rfl) | (simp [*, errW_none, errW_some] <;> rfl), by repeat (first | (with_reducible first | exact HB.out | apply below_alloc | apply pw_below_drewN | apply below_drew1) | exact HB.out)⟩
        · replace c13 := Bool.eq_false_iff.mpr c13
          subst c13
          have H1 : ((credenzaref05_Lane.f kj7 l0 a1 a2).bind fun t162 => (if t159 = t162 then ((credenzalaw05_awake.f kj7).bind fun t163 => (some t163)) else (some false))) = some r := by rw [if_neg (show ¬ (false = true) by decide)] at H; exact H
          clear H
          have H := H1
          clear H1
          replace H := Option.bind_eq_some_iff.mp H
          obtain ⟨t162, A170, H⟩ := H
          replace H : (if t159 = t162 then ((credenzalaw05_awake.f kj7).bind fun t163 => (some t163)) else (some false)) = some r := H
          have A17 := Aside0.mk A170
          clear A170
          by_cases c18 : t159 = t162
          · rw [if_pos c18] at H
            have c18b0 : (t159 == t162) = true := beq_iff_eq.mpr c18
            have c18b1 : (t159 != t162) = false := bne_eq_false_iff_eq.mpr c18
            clear c18
            replace H := Option.bind_eq_some_iff.mp H
            obtain ⟨t163, A190, H⟩ := H
            replace H : (some t163) = some r := H
            have A19 := Aside0.mk A190
            clear A190
            obtain rfl := Option.some.inj H
            go_wp2_with (first | ((with_reducible refine gate_callee (f := 25) rfl ?_); refine goesL_ (some 41) rfl rfl Try.func25 (by kernel_rfl) rfl #[.slice A0 l0.length c0, .int .i64 a1, .int .i64 a2] rfl (by (try simp only [List.map_toArray, List.map_cons, List.map_nil]); first | done | rfl | (simp only [List.length_drop, List.length_take]; rfl)) ?_; (with_reducible refine (credenzaref05_Lane.calls kj7 _ _ l0 a1 a2 t162 _ ?side1 ?side2 A17.out).mono ?_); (case side1 => repeat (first | exact (Kd.C_below HR0.out HB.out) | (with_reducible refine Kd.C_alloc ?_ _) | (with_reducible refine Kd.C_drewN ?_ _) | (with_reducible refine Kd.C_drew ?_))); (case side2 => exact HC0.out); rintro e w' ⟨rfl, ⟨nd, rfl⟩⟩; refine ⟨_, rfl, ?_⟩) | (go_at_call 13; (with_reducible refine (credenzalaw05_awake.calls kj7  t163 _ A19.out).mono ?_); rintro e w20 ⟨rfl, hb⟩; have n0_ := Aside0.mk (below_step (by repeat (first | (with_reducible first | exact HB.out | apply below_alloc | apply pw_below_drewN | apply below_drew1) | exact HB.out)) hb); clear HB; have HB := n0_; clear n0_; (try clear hb); (try clear hb2); (try clear hk); (try clear hi)))
            go_ret
            exact ⟨by first | rfl | (simp [errW_none, errW_some] <;> rfl) | (simp [*, errW_none, errW_some] <;> rfl), by repeat (first | (with_reducible first | exact HB.out | apply below_alloc | apply pw_below_drewN | apply below_drew1) | exact HB.out)⟩
          · rw [if_neg c18] at H
            have c18b0 : (t159 == t162) = false := beq_eq_false_iff_ne.mpr c18
            have c18b1 : (t159 != t162) = true := bne_iff_ne.mpr c18
            obtain rfl := Option.some.inj H
            go_wp2_with (first | ((with_reducible refine gate_callee (f := 25) rfl ?_); refine goesL_ (some 41) rfl rfl Try.func25 (by kernel_rfl) rfl #[.slice A0 l0.length c0, .int .i64 a1, .int .i64 a2] rfl (by (try simp only [List.map_toArray, List.map_cons, List.map_nil]); first | done | rfl | (simp only [List.length_drop, List.length_take]; rfl)) ?_; (with_reducible refine (credenzaref05_Lane.calls kj7 _ _ l0 a1 a2 t162 _ ?side1 ?side2 A17.out).mono ?_); (case side1 => repeat (first | exact (Kd.C_below HR0.out HB.out) | (with_reducible refine Kd.C_alloc ?_ _) | (with_reducible refine Kd.C_drewN ?_ _) | (with_reducible refine Kd.C_drew ?_))); (case side2 => exact HC0.out); rintro e w' ⟨rfl, ⟨nd, rfl⟩⟩; refine ⟨_, rfl, ?_⟩))
            go_ret
            exact ⟨by first | rfl | (simp [errW_none, errW_some] <;> rfl) | (simp [*, errW_none, errW_some] <;> rfl), by repeat (first | (with_reducible first | exact HB.out | apply below_alloc | apply pw_below_drewN | apply below_drew1) | exact HB.out)⟩

/-- THE ONE PURE STATEMENT of credenzalaw05_PackLanes: yours. -/
def credenzalaw05_PackLanes.Pure : Prop := ∀ (l0 : List Int) (a1 : Int) (a2 : Int), l0.length ≤ maxLen → l0.length * 8 ≤ 140737488351232 → (∀ x ∈ l0, (Lit.int .u64 x).wf = true) → (Lit.int .i64 a1).wf = true → (Lit.int .i64 a2).wf = true → ∃ k, credenzalaw05_PackLanes.f k l0 a1 a2 = some true
theorem credenzalaw05_PackLanes.walk (P : credenzalaw05_PackLanes.Pure) (a0 : Option Addr) (len0 cap0 : Nat) (z0 : List Int) (a1 : Int) (a2 : Int) (w : World) (w0 : (a0 = none ∧ len0 = 0 ∧ cap0 = 0 ∧ z0 = []) ∨ ∃ x, a0 = some x ∧ len0 ≤ cap0 ∧ cap0 ≤ maxLen ∧ z0.length = cap0 ∧ (∀ i, i < z0.length → w.cell? (x.add i) = some (.int .u64 (z0.getD i 0))) ∧ ∀ n ∈ z0, (Lit.int .u64 n).wf = true) (y0 : len0 * 8 ≤ 140737488351232) (w1 : (Lit.int .i64 a1).wf = true) (w2 : (Lit.int .i64 a2).wf = true) :
    Calls Try.prog 5 #[.slice a0 len0 cap0, .int .i64 a1, .int .i64 a2] w fun e w' => e = .returned (.bool true) ∧ Below w.heap.size w w' := by
  obtain ⟨l0, rfl, hr0, hm0, hw0, hc0⟩ := ReadsInt.ofRowC w0
  obtain ⟨k, h⟩ := P l0 a1 a2 hm0 y0 hw0 w1 w2
  refine (credenzalaw05_PackLanes.calls k _ _ l0 a1 a2 true w (Kd.C_of_reads (d := (0 : Int)) (h1 := fun _ => rfl) hr0) hc0 h).mono ?_
  rintro e w' ⟨rfl, hd⟩
  exact ⟨rfl, hd⟩

end Go.Proofs.Ytlkelicgbjjgiaa.PPackLanes
