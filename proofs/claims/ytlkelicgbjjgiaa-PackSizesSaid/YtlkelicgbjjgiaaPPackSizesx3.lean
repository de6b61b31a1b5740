-- Written by a program of this session (wip/tools/mkprint.py over the kit's print).
import Derived.Test.YtlkelicgbjjgiaaPPackSizesx0
import Derived.Test.YtlkelicgbjjgiaaPPackSizesx1
import Derived.Test.YtlkelicgbjjgiaaPPackSizesx2
namespace Go.Proofs.Ytlkelicgbjjgiaa.PPackSizes
open Go.RowKit Go.Proofs.YtlkelicgbjjgiaaW.PrintWords Go.Proofs.YtlkelicgbjjgiaaW.PrintLast Go.Proofs.YtlkelicgbjjgiaaW.PrintMore
attribute [local go_sem] max2_int min2_int max_two min_two max_three min_three max_four min_four   -- for this text's walks alone
set_option linter.unusedVariables false
set_option linter.unusedSimpArgs false

/-! ### credenzalaw05_PackSizes: function 6 -/
def credenzalaw05_PackSizes.j0 : Nat → Int → Int → Int → Bool → Option (Bool)
  | 0, _, _, _, _ => none
  | k + 1, x0, x1, x5, x24 => if x24 = true then (if x5 = 0 then ((credenzalaw05_awake.f k).bind fun t159 => (some t159)) else (some false)) else ((credenzaref05_Words.f k x0 x1).bind fun t160 => (if x5 = t160 then (if (wrap64 (64 * x5)) ≥ (wrap64 (x0 * x1)) then (if x5 = 0 then ((credenzalaw05_awake.f k).bind fun t161 => (some t161)) else (if (wrap64 (64 * (wrap64 (x5 - 1)))) < (wrap64 (x0 * x1)) then ((credenzalaw05_awake.f k).bind fun t162 => (some t162)) else (some false))) else (some false)) else (some false)))
def credenzalaw05_PackSizes.f (k : Nat) (a0 : Int) (a1 : Int) : Option (Bool) := (pack_Words.f a0 a1).bind fun t155 => ((pack_Bits.f a1).bind fun t156 => ((credenzaref05_Bits.f a1).bind fun t157 => (if (t156 != t157) = true then (some false) else ((credenzaref05_Bits.f a1).bind fun t158 => (if t158 = true then (if a0 < 0 then (credenzalaw05_PackSizes.j0 k a0 a1 t155 true) else (credenzalaw05_PackSizes.j0 k a0 a1 t155 (decide (a0 > 256)))) else (credenzalaw05_PackSizes.j0 k a0 a1 t155 true))))))
theorem credenzalaw05_PackSizes.mono_l : ∀ k, (∀ y0 y1 y2 y3, LeO (credenzalaw05_PackSizes.j0 k y0 y1 y2 y3) (credenzalaw05_PackSizes.j0 (k + 1) y0 y1 y2 y3))
  | 0 => fun _ _ _ _ r h => by simp [credenzalaw05_PackSizes.j0] at h
  | k + 1 => by
    have ih0 := credenzalaw05_PackSizes.mono_l k
    · intro y0 y1 y2 y3
      unfold credenzalaw05_PackSizes.j0
      repeat' first
      | (with_reducible exact ih0 _ _ _ _)
      | (with_reducible exact credenzalaw05_awake.mono _)
      | (with_reducible exact credenzaref05_Words.mono _ _ _)
      | (with_reducible exact LeO.refl _)
      | (with_reducible exact LeO.none _)
      | (with_reducible refine LeO.ite ?_ ?_)
      | (with_reducible refine LeO.bind ?_ (fun _ => ?_))
      | exact ih0 _ _ _ _
      | exact credenzalaw05_awake.mono _
      | exact credenzaref05_Words.mono _ _ _
      | exact LeO.none _
      | refine LeO.ite ?_ ?_
      | refine LeO.bind ?_ (fun _ => ?_)
theorem credenzalaw05_PackSizes.mono : ∀ a0 a1 k, LeO (credenzalaw05_PackSizes.f k a0 a1) (credenzalaw05_PackSizes.f (k + 1) a0 a1) := by
  intro a0 a1 k
  have ih0 := credenzalaw05_PackSizes.mono_l k
  unfold credenzalaw05_PackSizes.f
  repeat' first
      | (with_reducible exact ih0 _ _ _ _)
      | (with_reducible exact credenzalaw05_awake.mono _)
      | (with_reducible exact credenzaref05_Words.mono _ _ _)
      | (with_reducible exact LeO.refl _)
      | (with_reducible exact LeO.none _)
      | (with_reducible refine LeO.ite ?_ ?_)
      | (with_reducible refine LeO.bind ?_ (fun _ => ?_))
      | exact ih0 _ _ _ _
      | exact credenzalaw05_awake.mono _
      | exact credenzaref05_Words.mono _ _ _
      | exact LeO.none _
      | refine LeO.ite ?_ ?_
      | refine LeO.bind ?_ (fun _ => ?_)
set_option maxHeartbeats 8000000 in
set_option maxRecDepth 100000 in
theorem credenzalaw05_PackSizes.calls (k : Nat) (a0 : Int) (a1 : Int) (r : Bool) (w : World) (h : credenzalaw05_PackSizes.f k a0 a1 = some r) :
    Calls Try.prog 6 #[.int .i64 a0, .int .i64 a1] w fun e w' => e = .returned (.bool r) ∧ Below w.heap.size w w' := by
  have HB := Aside0.mk (Below.refl w.heap.size w)
  have H : ((pack_Words.f a0 a1).bind fun t155 => ((pack_Bits.f a1).bind fun t156 => ((credenzaref05_Bits.f a1).bind fun t157 => (if (t156 != t157) = true then (some false) else ((credenzaref05_Bits.f a1).bind fun t158 => (if t158 = true then (if a0 < 0 then (credenzalaw05_PackSizes.j0 k a0 a1 t155 true) else (credenzalaw05_PackSizes.j0 k a0 a1 t155 (decide (a0 > 256)))) else (credenzalaw05_PackSizes.j0 k a0 a1 t155 true))))))) = some r := h
  clear h
  replace H := Option.bind_eq_some_iff.mp H
  obtain ⟨t155, A30, H⟩ := H
  replace H : ((pack_Bits.f a1).bind fun t156 => ((credenzaref05_Bits.f a1).bind fun t157 => (if (t156 != t157) = true then (some false) else ((credenzaref05_Bits.f a1).bind fun t158 => (if t158 = true then (if a0 < 0 then (credenzalaw05_PackSizes.j0 k a0 a1 t155 true) else (credenzalaw05_PackSizes.j0 k a0 a1 t155 (decide (a0 > 256)))) else (credenzalaw05_PackSizes.j0 k a0 a1 t155 true)))))) = some r := H
  have A3 := Aside0.mk A30
  clear A30
  replace H := Option.bind_eq_some_iff.mp H
  obtain ⟨t156, A40, H⟩ := H
  replace H : ((credenzaref05_Bits.f a1).bind fun t157 => (if (t156 != t157) = true then (some false) else ((credenzaref05_Bits.f a1).bind fun t158 => (if t158 = true then (if a0 < 0 then (credenzalaw05_PackSizes.j0 k a0 a1 t155 true) else (credenzalaw05_PackSizes.j0 k a0 a1 t155 (decide (a0 > 256)))) else (credenzalaw05_PackSizes.j0 k a0 a1 t155 true))))) = some r := H
  have A4 := Aside0.mk A40
  clear A40
  replace H := Option.bind_eq_some_iff.mp H
  obtain ⟨t157, A50, H⟩ := H
  replace H : (if (t156 != t157) = true then (some false) else ((credenzaref05_Bits.f a1).bind fun t158 => (if t158 = true then (if a0 < 0 then (credenzalaw05_PackSizes.j0 k a0 a1 t155 true) else (credenzalaw05_PackSizes.j0 k a0 a1 t155 (decide (a0 > 256)))) else (credenzalaw05_PackSizes.j0 k a0 a1 t155 true)))) = some r := H
  have A5 := Aside0.mk A50
  clear A50
  by_cases c6 : (t156 != t157) = true
  · rw [if_pos c6] at H
    have c6b0 : (t156 != t157) = true := c6
    (try (have c6b1 : decide (t156 = t157) = false := by simpa using c6))
    (try (have c6b2 : (t156 == t157) = false := by simpa using c6))
    (try (have c6b3 : ¬ (t156 = t157) := by simpa using c6))
    clear c6
    obtain rfl := Option.some.inj H
    go_enter Try.func6, Try.ntmps6
    go_wp2_with (first | ((with_reducible refine gate_callee (f := 19) rfl ?_); refine goesL_ (some 8) rfl rfl Try.func19 (by kernel_rfl) rfl #[.int .i64 a0, .int .i64 a1] rfl (by (try simp only [List.map_toArray, List.map_cons, List.map_nil]); first | done | rfl | (simp only [List.length_drop, List.length_take]; rfl)) ?_; (with_reducible refine (pack_Words.calls a0 a1 t155 _ A3.out).mono ?_); rintro e w' ⟨rfl, ⟨nd, rfl⟩⟩; refine ⟨_, rfl, ?_⟩) | ((with_reducible refine gate_callee (f := 26) rfl ?_); refine goesL_ (some 10) rfl rfl Try.func26 (by kernel_rfl) rfl #[.int .i64 a1] rfl (by (try simp only [List.map_toArray, List.map_cons, List.map_nil]); first | done | rfl | (simp only [List.length_drop, List.length_take]; rfl)) ?_; (with_reducible refine (pack_Bits.calls a1 t156 _ A4.out).mono ?_); rintro e w' ⟨rfl, ⟨nd, rfl⟩⟩; refine ⟨_, rfl, ?_⟩) | ((with_reducible refine gate_callee (f := 21) rfl ?_); refine goesL_ (some 12) rfl rfl Try.func21 (by kernel_rfl) rfl #[.int .i64 a1] rfl (by (try simp only [List.map_toArray, List.map_cons, List.map_nil]); first | done | rfl | (simp only [List.length_drop, List.length_take]; rfl)) ?_; (with_reducible refine (credenzaref05_Bits.calls a1 t157 _ A5.out).mono ?_); rintro e w' ⟨rfl, ⟨nd, rfl⟩⟩; refine ⟨_, rfl, ?_⟩))
    go_ret
    exact ⟨by first | rfl | (simp [errW_none, errW_some] <;> rfl) | (simp [*, errW_none, errW_some] <;> rfl), by repeat (first | (with_reducible first | exact HB.out | apply below_alloc | apply pw_below_drewN | apply below_drew1) | exact HB.out)⟩
  · rw [if_neg c6] at H
    have c6b0 : (t156 != t157) = false := by simpa using c6
    (try (have c6b1 : decide (t156 = t157) = true := by simpa using c6))
    (try (have c6b2 : (t156 == t157) = true := by simpa using c6))
    clear c6
    have HC7 := Aside0.mk H
    clear H
    go_enter Try.func6, Try.ntmps6
    go_upto_region 4 with (first | ((with_reducible refine gate_callee (f := 19) rfl ?_); refine goesL_ (some 8) rfl rfl Try.func19 (by kernel_rfl) rfl #[.int .i64 a0, .int .i64 a1] rfl (by (try simp only [List.map_toArray, List.map_cons, List.map_nil]); first | done | rfl | (simp only [List.length_drop, List.length_take]; rfl)) ?_; (with_reducible refine (pack_Words.calls a0 a1 t155 _ A3.out).mono ?_); rintro e w' ⟨rfl, ⟨nd, rfl⟩⟩; refine ⟨_, rfl, ?_⟩) | ((with_reducible refine gate_callee (f := 26) rfl ?_); refine goesL_ (some 10) rfl rfl Try.func26 (by kernel_rfl) rfl #[.int .i64 a1] rfl (by (try simp only [List.map_toArray, List.map_cons, List.map_nil]); first | done | rfl | (simp only [List.length_drop, List.length_take]; rfl)) ?_; (with_reducible refine (pack_Bits.calls a1 t156 _ A4.out).mono ?_); rintro e w' ⟨rfl, ⟨nd, rfl⟩⟩; refine ⟨_, rfl, ?_⟩) | ((with_reducible refine gate_callee (f := 21) rfl ?_); refine goesL_ (some 12) rfl rfl Try.func21 (by kernel_rfl) rfl #[.int .i64 a1] rfl (by (try simp only [List.map_toArray, List.map_cons, List.map_nil]); first | done | rfl | (simp only [List.length_drop, List.length_take]; rfl)) ?_; (with_reducible refine (credenzaref05_Bits.calls a1 t157 _ A5.out).mono ?_); rintro e w' ⟨rfl, ⟨nd, rfl⟩⟩; refine ⟨_, rfl, ?_⟩))
    (try simp only [Act.put, List.setIfInBounds_toArray, List.set_cons_zero, List.set_cons_succ])
    go_cut [24] (fun v24 wc => ∃ (kq : Nat) (x24_6 : Bool), v24 = .bool x24_6 ∧ Aside0 (credenzalaw05_PackSizes.j0 kq a0 a1 t155 x24_6 = some r) ∧ Aside0 (kq ≤ k) ∧ Aside0 (Below w.heap.size w wc))
    case first =>
      have H := HC7.out
      clear HC7
      replace H := Option.bind_eq_some_iff.mp H
      obtain ⟨t158, A80, H⟩ := H
      replace H : (if t158 = true then (if a0 < 0 then (credenzalaw05_PackSizes.j0 k a0 a1 t155 true) else (credenzalaw05_PackSizes.j0 k a0 a1 t155 (decide (a0 > 256)))) else (credenzalaw05_PackSizes.j0 k a0 a1 t155 true)) = some r := H
      have A8 := Aside0.mk A80
      clear A80
      by_cases c9 : t158 = true
      · subst c9
        have H1 : (if a0 < 0 then (credenzalaw05_PackSizes.j0 k a0 a1 t155 true) else (credenzalaw05_PackSizes.j0 k a0 a1 t155 (decide (a0 > 256)))) = some r := by rw [if_pos rfl] at H; exact H
        clear H
        have H := H1
        clear H1
        by_cases c10 : a0 < 0
        · rw [if_pos c10] at H
          have c10b0 : decide (a0 < 0) = true := decide_eq_true c10
          clear c10
          (first | rw [c10b0] | (simp only [i64_w, i32_w]; rw [c10b0]) | skip)
          have H' := Aside0.mk H
          clear H
          go_wp2_with (first | ((with_reducible refine gate_callee (f := 21) rfl ?_); refine goesL_ (some 15) rfl rfl Try.func21 (by kernel_rfl) rfl #[.int .i64 a1] rfl (by (try simp only [List.map_toArray, List.map_cons, List.map_nil]); first | done | rfl | (simp only [List.length_drop, List.length_take]; rfl)) ?_; (with_reducible refine (credenzaref05_Bits.calls a1 true _ A8.out).mono ?_); rintro e w' ⟨rfl, ⟨nd, rfl⟩⟩; refine ⟨_, rfl, ?_⟩))
          go_meet
          case rel => exact ⟨_, (true), (by first | rfl | (simp; done) | (simp [*]; done)), H', ⟨by first | omega | exact Nat.le_refl _⟩, ⟨by repeat (first | (with_reducible first | exact HB.out | apply below_alloc | apply pw_below_drewN | apply below_drew1) | exact HB.out)⟩⟩
        · rw [if_neg c10] at H
          have c10b0 : decide (a0 < 0) = false := decide_eq_false c10
          clear c10
          (first | rw [c10b0] | (simp only [i64_w, i32_w]; rw [c10b0]) | skip)
          have H' := Aside0.mk H
          clear H
          go_wp2_with (first | ((with_reducible refine gate_callee (f := 21) rfl ?_); refine goesL_ (some 15) rfl rfl Try.func21 (by kernel_rfl) rfl #[.int .i64 a1] rfl (by (try simp only [List.map_toArray, List.map_cons, List.map_nil]); first | done | rfl | (simp only [List.length_drop, List.length_take]; rfl)) ?_; (with_reducible refine (credenzaref05_Bits.calls a1 true _ A8.out).mono ?_); rintro e w' ⟨rfl, ⟨nd, rfl⟩⟩; refine ⟨_, rfl, ?_⟩))
          go_meet
          case rel => exact ⟨_, (decide (a0 > 256)), (by first | rfl | (simp; done) | (simp [*]; done)), H', ⟨by first | omega | exact Nat.le_refl _⟩, ⟨by repeat (first | (with_reducible first | exact HB.out | apply below_alloc | apply pw_below_drewN | apply below_drew1) | exact HB.out)⟩⟩
      · replace c9 := Bool.eq_false_iff.mpr c9
        subst c9
        have H1 : (credenzalaw05_PackSizes.j0 k a0 a1 t155 true) = some r := by rw [if_neg (show ¬ (false = true) by decide)] at H; exact H
        clear H
        have H := H1
        clear H1
        have H' := Aside0.mk H
        clear H
        go_wp2_with (first | ((with_reducible refine gate_callee (f := 21) rfl ?_); refine goesL_ (some 15) rfl rfl Try.func21 (by kernel_rfl) rfl #[.int .i64 a1] rfl (by (try simp only [List.map_toArray, List.map_cons, List.map_nil]); first | done | rfl | (simp only [List.length_drop, List.length_take]; rfl)) ?_; (with_reducible refine (credenzaref05_Bits.calls a1 false _ A8.out).mono ?_); rintro e w' ⟨rfl, ⟨nd, rfl⟩⟩; refine ⟨_, rfl, ?_⟩))
        go_meet
        case rel => exact ⟨_, (true), (by first | rfl | (simp; done) | (simp [*]; done)), H', ⟨by first | omega | exact Nat.le_refl _⟩, ⟨by repeat (first | (with_reducible first | exact HB.out | apply below_alloc | apply pw_below_drewN | apply below_drew1) | exact HB.out)⟩⟩
    case rest =>
      clear HC7
      try clear c1
      try clear c2
      try clear p2
      try clear c6
      try clear c6b0
      try clear c6b1
      try clear c6b2
      try clear c9
      try clear c10
      try clear c10b0
      obtain ⟨kq, x24_6, rfl, HA, HJ6, HB⟩ := hcut
      cases kq with
      | zero => exact absurd HA.out (by simp [credenzalaw05_PackSizes.j0])
      | succ kj6 =>
        have H := HA.out
        clear HA
        simp only [credenzalaw05_PackSizes.j0] at H
        by_cases c11 : x24_6 = true
        · subst c11
          have H1 : (if t155 = 0 then ((credenzalaw05_awake.f kj6).bind fun t159 => (some t159)) else (some false)) = some r := by rw [if_pos rfl] at H; exact H
          clear H
          have H := H1
          clear H1
          by_cases c12 : t155 = 0
          · rw [if_pos c12] at H
            have c12b0 : (t155 == 0) = true := beq_iff_eq.mpr c12
            have c12b1 : (t155 != 0) = false := bne_eq_false_iff_eq.mpr c12
            clear c12
            replace H := Option.bind_eq_some_iff.mp H
            obtain ⟨t159, A130, H⟩ := H
            replace H : (some t159) = some r := H
            have A13 := Aside0.mk A130
            clear A130
            obtain rfl := Option.some.inj H
            go_wp2_with (first | (go_at_call 13; (with_reducible refine (credenzalaw05_awake.calls kj6  t159 _ A13.out).mono ?_); rintro e w14 ⟨rfl, hb⟩; have n0_ := Aside0.mk (below_step (by repeat (first | (with_reducible first | exact HB.out | apply below_alloc | apply pw_below_drewN | apply below_drew1) | exact HB.out)) hb); clear HB; have HB := n0_; clear n0_; (try clear hb); (try clear hb2); (try clear hk); (try clear hi)))
            go_ret
            exact ⟨by first | rfl | (simp [errW_none, errW_some] <;> rfl) | (simp [*, errW_none, errW_some] <;> rfl), by repeat (first | (with_reducible first | exact HB.out | apply below_alloc | apply pw_below_drewN | apply below_drew1) | exact HB.out)⟩
          · rw [if_neg c12] at H
            have c12b0 : (t155 == 0) = false := beq_eq_false_iff_ne.mpr c12
            have c12b1 : (t155 != 0) = true := bne_iff_ne.mpr c12
            obtain rfl := Option.some.inj H
            go_wp2
            go_ret
            exact ⟨by first | rfl | (simp [errW_none, errW_some] <;> rfl) | (simp [*, errW_none, errW_some] <;> rfl), by repeat (first | (with_reducible first | exact HB.out | apply below_alloc | apply pw_below_drewN | apply below_drew1) | exact HB.out)⟩
        · replace c11 := Bool.eq_false_iff.mpr c11
          subst c11
          have H1 : ((credenzaref05_Words.f kj6 a0 a1).bind fun t160 => (if t155 = t160 then (if (wrap64 (64 * t155)) ≥ (wrap64 (a0 * a1)) then (if t155 = 0 then ((credenzalaw05_awake.f kj6).bind fun t161 => (some t161)) else (if (wrap64 (64 * (wrap64 (t155 - 1)))) < (wrap64 (a0 * a1)) then ((credenzalaw05_awake.f kj6).bind fun t162 => (some t162)) else (some false))) else (some false)) else (some false))) = some r := by rw [if_neg (show ¬ (false = true) by decide)] at H; exact H
          clear H
          have H := H1
          clear H1
          replace H := Option.bind_eq_some_iff.mp H
          obtain ⟨t160, A150, H⟩ := H
          replace H : (if t155 = t160 then (if (wrap64 (64 * t155)) ≥ (wrap64 (a0 * a1)) then (if t155 = 0 then ((credenzalaw05_awake.f kj6).bind fun t161 => (some t161)) else (if (wrap64 (64 * (wrap64 (t155 - 1)))) < (wrap64 (a0 * a1)) then ((credenzalaw05_awake.f kj6).bind fun t162 => (some t162)) else (some false))) else (some false)) else (some false)) = some r := H
          have A15 := Aside0.mk A150
          clear A150
          by_cases c16 : t155 = t160
          · rw [if_pos c16] at H
            have c16b0 : (t155 == t160) = true := beq_iff_eq.mpr c16
            have c16b1 : (t155 != t160) = false := bne_eq_false_iff_eq.mpr c16
            clear c16
            by_cases c17 : (wrap64 (64 * t155)) ≥ (wrap64 (a0 * a1))
            · rw [if_pos c17] at H
              have c17b0 : decide ((wrap64 (a0 * a1)) ≤ (wrap64 (64 * t155))) = true := decide_eq_true c17
              clear c17
              by_cases c18 : t155 = 0
              · rw [if_pos c18] at H
                have c18b0 : (t155 == 0) = true := beq_iff_eq.mpr c18
                have c18b1 : (t155 != 0) = false := bne_eq_false_iff_eq.mpr c18
                clear c18
                replace H := Option.bind_eq_some_iff.mp H
                obtain ⟨t161, A190, H⟩ := H
                replace H : (some t161) = some r := H
                have A19 := Aside0.mk A190
                clear A190
                obtain rfl := Option.some.inj H
                go_wp2_with (first | ((with_reducible refine gate_callee (f := 22) rfl ?_); refine goesL_ (some 33) rfl rfl Try.func22 (by kernel_rfl) rfl #[.int .i64 a0, .int .i64 a1] rfl (by (try simp only [List.map_toArray, List.map_cons, List.map_nil]); first | done | rfl | (simp only [List.length_drop, List.length_take]; rfl)) ?_; (with_reducible refine (credenzaref05_Words.calls kj6 a0 a1 t160 _ A15.out).mono ?_); rintro e w' ⟨rfl, ⟨nd, rfl⟩⟩; refine ⟨_, rfl, ?_⟩) | (go_at_call 13; (with_reducible refine (credenzalaw05_awake.calls kj6  t161 _ A19.out).mono ?_); rintro e w20 ⟨rfl, hb⟩; have n0_ := Aside0.mk (below_step (by repeat (first | (with_reducible first | exact HB.out | apply below_alloc | apply pw_below_drewN | apply below_drew1) | exact HB.out)) hb); clear HB; have HB := n0_; clear n0_; (try clear hb); (try clear hb2); (try clear hk); (try clear hi)))
                go_ret
                exact ⟨by first | rfl | (simp [errW_none, errW_some] <;> rfl) | (simp [*, errW_none, errW_some] <;> rfl), by repeat (first | (with_reducible first | exact HB.out | apply below_alloc | apply pw_below_drewN | apply below_drew1) | exact HB.out)⟩
              · rw [if_neg c18] at H
                have c18b0 : (t155 == 0) = false := beq_eq_false_iff_ne.mpr c18
                have c18b1 : (t155 != 0) = true := bne_iff_ne.mpr c18
                by_cases c21 : (wrap64 (64 * (wrap64 (t155 - 1)))) < (wrap64 (a0 * a1))
                · rw [if_pos c21] at H
                  have c21b0 : decide ((wrap64 (64 * (wrap64 (t155 - 1)))) < (wrap64 (a0 * a1))) = true := decide_eq_true c21
                  clear c21
                  replace H := Option.bind_eq_some_iff.mp H
                  obtain ⟨t162, A220, H⟩ := H
                  replace H : (some t162) = some r := H
                  have A22 := Aside0.mk A220
                  clear A220
                  obtain rfl := Option.some.inj H
                  go_wp2_with (first | ((with_reducible refine gate_callee (f := 22) rfl ?_); refine goesL_ (some 33) rfl rfl Try.func22 (by kernel_rfl) rfl #[.int .i64 a0, .int .i64 a1] rfl (by (try simp only [List.map_toArray, List.map_cons, List.map_nil]); first | done | rfl | (simp only [List.length_drop, List.length_take]; rfl)) ?_; (with_reducible refine (credenzaref05_Words.calls kj6 a0 a1 t160 _ A15.out).mono ?_); rintro e w' ⟨rfl, ⟨nd, rfl⟩⟩; refine ⟨_, rfl, ?_⟩) | (go_at_call 13; (with_reducible refine (credenzalaw05_awake.calls kj6  t162 _ A22.out).mono ?_); rintro e w23 ⟨rfl, hb⟩; have n0_ := Aside0.mk (below_step (by repeat (first | (with_reducible first | exact HB.out | apply below_alloc | apply pw_below_drewN | apply below_drew1) | exact HB.out)) hb); clear HB; have HB := n0_; clear n0_; (try clear hb); (try clear hb2); (try clear hk); (try clear hi)))
                  go_ret
                  exact ⟨by first | rfl | (simp [errW_none, errW_some] <;> rfl) | (simp [*, errW_none, errW_some] <;> rfl), by repeat (first | (with_reducible first | exact HB.out | apply below_alloc | apply pw_below_drewN | apply below_drew1) | exact HB.out)⟩
                · rw [if_neg c21] at H
                  have c21b0 : decide ((wrap64 (64 * (wrap64 (t155 - 1)))) < (wrap64 (a0 * a1))) = false := decide_eq_false c21
                  clear c21
                  obtain rfl := Option.some.inj H
                  go_wp2_with (first | ((with_reducible refine gate_callee (f := 22) rfl ?_); refine goesL_ (some 33) rfl rfl Try.func22 (by kernel_rfl) rfl #[.int .i64 a0, .int .i64 a1] rfl (by (try simp only [List.map_toArray, List.map_cons, List.map_nil]); first | done | rfl | (simp only [List.length_drop, List.length_take]; rfl)) ?_; (with_reducible refine (credenzaref05_Words.calls kj6 a0 a1 t160 _ A15.out).mono ?_); rintro e w' ⟨rfl, ⟨nd, rfl⟩⟩; refine ⟨_, rfl, ?_⟩))
                  go_ret
                  exact ⟨by first | rfl | (simp [errW_none, errW_some] <;> rfl) | (simp [*, errW_none, errW_some] <;> rfl), by repeat (first | (with_reducible first | exact HB.out | apply below_alloc | apply pw_below_drewN | apply below_drew1) | exact HB.out)⟩
            · rw [if_neg c17] at H
              have c17b0 : decide ((wrap64 (a0 * a1)) ≤ (wrap64 (64 * t155))) = false := decide_eq_false c17
              clear c17
              obtain rfl := Option.some.inj H
              go_wp2_with (first | ((with_reducible refine gate_callee (f := 22) rfl ?_); refine goesL_ (some 33) rfl rfl Try.func22 (by kernel_rfl) rfl #[.int .i64 a0, .int .i64 a1] rfl (by (try simp only [List.map_toArray, List.map_cons, List.map_nil]); first | done | rfl | (simp only [List.length_drop, List.length_take]; rfl)) ?_; (with_reducible refine (credenzaref05_Words.calls kj6 a0 a1 t160 _ A15.out).mono ?_); rintro e w' ⟨rfl, ⟨nd, rfl⟩⟩; refine ⟨_, rfl, ?_⟩))
              go_ret
              exact ⟨by first | rfl | (simp [errW_none, errW_some] <;> rfl) | (simp [*, errW_none, errW_some] <;> rfl), by repeat (first | (with_reducible first | exact HB.out | apply below_alloc | apply pw_below_drewN | apply below_drew1) | exact HB.out)⟩
          · rw [if_neg c16] at H
            have c16b0 : (t155 == t160) = false := beq_eq_false_iff_ne.mpr c16
            have c16b1 : (t155 != t160) = true := bne_iff_ne.mpr c16
            obtain rfl := Option.some.inj H
            go_wp2_with (first | ((with_reducible refine gate_callee (f := 22) rfl ?_); refine goesL_ (some 33) rfl rfl Try.func22 (by kernel_rfl) rfl #[.int .i64 a0, .int .i64 a1] rfl (by (try simp only [List.map_toArray, List.map_cons, List.map_nil]); first | done | rfl | (simp only [List.length_drop, List.length_take]; rfl)) ?_; (with_reducible refine (credenzaref05_Words.calls kj6 a0 a1 t160 _ A15.out).mono ?_); rintro e w' ⟨rfl, ⟨nd, rfl⟩⟩; refine ⟨_, rfl, ?_⟩))
            go_ret
            exact ⟨by first | rfl | (simp [errW_none, errW_some] <;> rfl) | (simp [*, errW_none, errW_some] <;> rfl), by repeat (first | (with_reducible first | exact HB.out | apply below_alloc | apply pw_below_drewN | apply below_drew1) | exact HB.out)⟩

/-- THE ONE PURE STATEMENT of credenzalaw05_PackSizes: yours. -/
def credenzalaw05_PackSizes.Pure : Prop := ∀ (a0 : Int) (a1 : Int), (Lit.int .i64 a0).wf = true → (Lit.int .i64 a1).wf = true → ∃ k, credenzalaw05_PackSizes.f k a0 a1 = some true
theorem credenzalaw05_PackSizes.walk (P : credenzalaw05_PackSizes.Pure) (a0 : Int) (a1 : Int) (w : World) (w0 : (Lit.int .i64 a0).wf = true) (w1 : (Lit.int .i64 a1).wf = true) :
    Calls Try.prog 6 #[.int .i64 a0, .int .i64 a1] w fun e w' => e = .returned (.bool true) ∧ Below w.heap.size w w' := by
  obtain ⟨k, h⟩ := P a0 a1 w0 w1
  refine (credenzalaw05_PackSizes.calls k a0 a1 true w h).mono ?_
  rintro e w' ⟨rfl, hd⟩
  exact ⟨rfl, hd⟩

end Go.Proofs.Ytlkelicgbjjgiaa.PPackSizes
