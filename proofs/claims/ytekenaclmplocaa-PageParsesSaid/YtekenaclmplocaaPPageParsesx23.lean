-- Written by a program of this session (wip/tools/mkprint.py over the kit's print).
import Derived.Test.YtekenaclmplocaaPPageParsesx0
import Derived.Test.YtekenaclmplocaaPPageParsesx19
import Derived.Test.YtekenaclmplocaaPPageParsesx20
namespace Go.Proofs.Ytekenaclmplocaa.PPageParses
open Go.RowKit Go.Proofs.YtekenaclmplocaaW.PrintWords Go.Proofs.YtekenaclmplocaaW.PrintLast Go.Proofs.YtekenaclmplocaaW.PrintMore
attribute [local go_sem] max2_int min2_int max_two min_two max_three min_three max_four min_four
set_option linter.unusedVariables false
set_option maxHeartbeats 8000000
set_option maxRecDepth 100000
set_option linter.unusedSimpArgs false

def F31.f (a0 : Int) : Option (Bool) := if a0 = 2 then (some true) else (if a0 = 4 then (some true) else (some (a0 == 8)))
theorem F31.calls (a0 : Int) (r : Bool) (w : World) (h : F31.f a0 = some r) :
  Calls Try.prog 31 #[.int .i64 a0] w fun e w' => e = .returned (.bool r) ∧ Drawn0 w w' := by
 have H := h; clear h; unfold F31.f at H
 by_cases c2 : a0 = 2
 ·
  rw [if_pos c2] at H; have c2b0 : (a0 == 2) = true := beq_iff_eq.mpr c2; have c2b1 : (a0 != 2) = false := bne_eq_false_iff_eq.mpr c2; clear c2; obtain rfl := oI H
  go_enter Try.func31, Try.ntmps31
  go_wp2
  go_ret
  exact ⟨rfl, dR⟩
 ·
  rw [if_neg c2] at H; have c2b0 : (a0 == 2) = false := beq_eq_false_iff_ne.mpr c2; have c2b1 : (a0 != 2) = true := bne_iff_ne.mpr c2
  by_cases c3 : a0 = 4
  ·
   rw [if_pos c3] at H; have c3b0 : (a0 == 4) = true := beq_iff_eq.mpr c3; have c3b1 : (a0 != 4) = false := bne_eq_false_iff_eq.mpr c3; clear c3; obtain rfl := oI H
   go_enter Try.func31, Try.ntmps31
   go_wp2
   go_ret
   exact ⟨rfl, dR⟩
  ·
   rw [if_neg c3] at H; have c3b0 : (a0 == 4) = false := beq_eq_false_iff_ne.mpr c3; have c3b1 : (a0 != 4) = true := bne_iff_ne.mpr c3; obtain rfl := oI H
   go_enter Try.func31, Try.ntmps31
   go_wp2
   go_ret
   exact ⟨rfl, dR⟩

def F9.f (a0_0 : Int) (a0_1 : Int) (a0_2 : Int) (a0_3 : Int) (a0_4 : Int) (a0_5 : Int) (a0_6 : Int) : Option (Bool) := (F31.f a0_0).bind fun t606 => (if t606 = true then ((F31.f a0_1).bind fun t607 => (if t607 = true then (if a0_2 ≥ 1 then (if a0_2 ≤ 16 then (if a0_3 ≥ 1 then (if a0_3 ≤ 16 then (if a0_4 ≥ 0 then (if a0_4 ≤ 3 then (if a0_5 ≥ 0 then (if a0_5 ≤ 3 then (if a0_6 ≥ 0 then (some (decide (a0_6 ≤ 1023))) else (some false)) else (some false)) else (some false)) else (some false)) else (some false)) else (some false)) else (some false)) else (some false)) else (some false)) else (some false))) else (some false))
theorem F9.calls (a0_0 : Int) (a0_1 : Int) (a0_2 : Int) (a0_3 : Int) (a0_4 : Int) (a0_5 : Int) (a0_6 : Int) (r : Bool) (w : World) (h : F9.f a0_0 a0_1 a0_2 a0_3 a0_4 a0_5 a0_6 = some r) :
  Calls Try.prog 9 #[.agg #[.int .i64 a0_0, .int .i64 a0_1, .int .i64 a0_2, .int .i64 a0_3, .int .i64 a0_4, .int .i64 a0_5, .int .i64 a0_6]] w fun e w' => e = .returned (.bool r) ∧ Below w.heap.size w w' := by
 have hu28 := Try.underlying28; have HB := aM (Below.refl w.heap.size w); have H := h; clear h; unfold F9.f at H; obtain ⟨t606, A2, H⟩ := bnd H
 by_cases c3 : t606 = true
 ·
  subst c3; rw [if_pos rfl] at H; obtain ⟨t607, A4, H⟩ := bnd H
  by_cases c5 : t607 = true
  ·
   subst c5; rw [if_pos rfl] at H
   by_cases c6 : a0_2 ≥ 1
   ·
    rw [if_pos c6] at H; have c6b0 : decide (1 ≤ a0_2) = true := dT c6; clear c6
    by_cases c7 : a0_2 ≤ 16
    ·
     rw [if_pos c7] at H; have c7b0 : decide (a0_2 ≤ 16) = true := dT c7; clear c7
     by_cases c8 : a0_3 ≥ 1
     ·
      rw [if_pos c8] at H; have c8b0 : decide (1 ≤ a0_3) = true := dT c8; clear c8
      by_cases c9 : a0_3 ≤ 16
      ·
       rw [if_pos c9] at H; have c9b0 : decide (a0_3 ≤ 16) = true := dT c9; clear c9
       by_cases c10 : a0_4 ≥ 0
       ·
        rw [if_pos c10] at H; have c10b0 : decide (0 ≤ a0_4) = true := dT c10; clear c10
        by_cases c11 : a0_4 ≤ 3
        ·
         rw [if_pos c11] at H; have c11b0 : decide (a0_4 ≤ 3) = true := dT c11; clear c11
         by_cases c12 : a0_5 ≥ 0
         ·
          rw [if_pos c12] at H; have c12b0 : decide (0 ≤ a0_5) = true := dT c12; clear c12
          by_cases c13 : a0_5 ≤ 3
          ·
           rw [if_pos c13] at H; have c13b0 : decide (a0_5 ≤ 3) = true := dT c13; clear c13
           by_cases c14 : a0_6 ≥ 0
           ·
            rw [if_pos c14] at H; have c14b0 : decide (0 ≤ a0_6) = true := dT c14; clear c14; obtain rfl := oI H
            go_enter Try.func9, Try.ntmps9
            go_wp2_with (first | ((with_reducible refine gate_dst (N := 1) rfl ?_); refine bxE 1 #[.int .i64 a0_0, .int .i64 a0_1, .int .i64 a0_2, .int .i64 a0_3, .int .i64 a0_4, .int .i64 a0_5, .int .i64 a0_6] 28 (h := ?_); intro gb605 hg w15 hbox hb; have BK605 := aM (hbox); have GW605 := gE hg HB; have GE605 := gE hg HB; replace HB := bst HB hb; clear hb hbox hg; have hz16 := bx7 BK605.out) | ((with_reducible refine gate_callee (f := 31) rfl ?_); refine gL 5 Try.func31 #[.int .i64 a0_0] (h := ?_); (with_reducible refine (F31.calls a0_0 true _ A2.out).mono ?_); rintro e w' ⟨rfl, ⟨nd, rfl⟩⟩; refine ⟨_, rfl, ?_⟩) | (go_at_call 31; (with_reducible refine (F31.calls a0_1 true _ A4.out).mono ?_); rintro e w' ⟨rfl, ⟨nd, rfl⟩⟩))
            go_ret
            exact ⟨rfl, bZ⟩
           ·
            rw [if_neg c14] at H; have c14b0 : decide (0 ≤ a0_6) = false := dF c14; clear c14; obtain rfl := oI H
            go_enter Try.func9, Try.ntmps9
            go_wp2_with (first | ((with_reducible refine gate_dst (N := 1) rfl ?_); refine bxE 1 #[.int .i64 a0_0, .int .i64 a0_1, .int .i64 a0_2, .int .i64 a0_3, .int .i64 a0_4, .int .i64 a0_5, .int .i64 a0_6] 28 (h := ?_); intro gb605 hg w17 hbox hb; have BK605 := aM (hbox); have GW605 := gE hg HB; have GE605 := gE hg HB; replace HB := bst HB hb; clear hb hbox hg; have hz18 := bx7 BK605.out) | ((with_reducible refine gate_callee (f := 31) rfl ?_); refine gL 5 Try.func31 #[.int .i64 a0_0] (h := ?_); (with_reducible refine (F31.calls a0_0 true _ A2.out).mono ?_); rintro e w' ⟨rfl, ⟨nd, rfl⟩⟩; refine ⟨_, rfl, ?_⟩) | (go_at_call 31; (with_reducible refine (F31.calls a0_1 true _ A4.out).mono ?_); rintro e w' ⟨rfl, ⟨nd, rfl⟩⟩))
            go_ret
            exact ⟨rfl, bZ⟩
          ·
           rw [if_neg c13] at H; have c13b0 : decide (a0_5 ≤ 3) = false := dF c13; clear c13; obtain rfl := oI H
           go_enter Try.func9, Try.ntmps9
           go_wp2_with (first | ((with_reducible refine gate_dst (N := 1) rfl ?_); refine bxE 1 #[.int .i64 a0_0, .int .i64 a0_1, .int .i64 a0_2, .int .i64 a0_3, .int .i64 a0_4, .int .i64 a0_5, .int .i64 a0_6] 28 (h := ?_); intro gb605 hg w19 hbox hb; have BK605 := aM (hbox); have GW605 := gE hg HB; have GE605 := gE hg HB; replace HB := bst HB hb; clear hb hbox hg; have hz20 := bx7 BK605.out) | ((with_reducible refine gate_callee (f := 31) rfl ?_); refine gL 5 Try.func31 #[.int .i64 a0_0] (h := ?_); (with_reducible refine (F31.calls a0_0 true _ A2.out).mono ?_); rintro e w' ⟨rfl, ⟨nd, rfl⟩⟩; refine ⟨_, rfl, ?_⟩) | (go_at_call 31; (with_reducible refine (F31.calls a0_1 true _ A4.out).mono ?_); rintro e w' ⟨rfl, ⟨nd, rfl⟩⟩))
           go_ret
           exact ⟨rfl, bZ⟩
         ·
          rw [if_neg c12] at H; have c12b0 : decide (0 ≤ a0_5) = false := dF c12; clear c12; obtain rfl := oI H
          go_enter Try.func9, Try.ntmps9
          go_wp2_with (first | ((with_reducible refine gate_dst (N := 1) rfl ?_); refine bxE 1 #[.int .i64 a0_0, .int .i64 a0_1, .int .i64 a0_2, .int .i64 a0_3, .int .i64 a0_4, .int .i64 a0_5, .int .i64 a0_6] 28 (h := ?_); intro gb605 hg w21 hbox hb; have BK605 := aM (hbox); have GW605 := gE hg HB; have GE605 := gE hg HB; replace HB := bst HB hb; clear hb hbox hg; have hz22 := bx7 BK605.out) | ((with_reducible refine gate_callee (f := 31) rfl ?_); refine gL 5 Try.func31 #[.int .i64 a0_0] (h := ?_); (with_reducible refine (F31.calls a0_0 true _ A2.out).mono ?_); rintro e w' ⟨rfl, ⟨nd, rfl⟩⟩; refine ⟨_, rfl, ?_⟩) | (go_at_call 31; (with_reducible refine (F31.calls a0_1 true _ A4.out).mono ?_); rintro e w' ⟨rfl, ⟨nd, rfl⟩⟩))
          go_ret
          exact ⟨rfl, bZ⟩
        ·
         rw [if_neg c11] at H; have c11b0 : decide (a0_4 ≤ 3) = false := dF c11; clear c11; obtain rfl := oI H
         go_enter Try.func9, Try.ntmps9
         go_wp2_with (first | ((with_reducible refine gate_dst (N := 1) rfl ?_); refine bxE 1 #[.int .i64 a0_0, .int .i64 a0_1, .int .i64 a0_2, .int .i64 a0_3, .int .i64 a0_4, .int .i64 a0_5, .int .i64 a0_6] 28 (h := ?_); intro gb605 hg w23 hbox hb; have BK605 := aM (hbox); have GW605 := gE hg HB; have GE605 := gE hg HB; replace HB := bst HB hb; clear hb hbox hg; have hz24 := bx7 BK605.out) | ((with_reducible refine gate_callee (f := 31) rfl ?_); refine gL 5 Try.func31 #[.int .i64 a0_0] (h := ?_); (with_reducible refine (F31.calls a0_0 true _ A2.out).mono ?_); rintro e w' ⟨rfl, ⟨nd, rfl⟩⟩; refine ⟨_, rfl, ?_⟩) | (go_at_call 31; (with_reducible refine (F31.calls a0_1 true _ A4.out).mono ?_); rintro e w' ⟨rfl, ⟨nd, rfl⟩⟩))
         go_ret
         exact ⟨rfl, bZ⟩
       ·
        rw [if_neg c10] at H; have c10b0 : decide (0 ≤ a0_4) = false := dF c10; clear c10; obtain rfl := oI H
        go_enter Try.func9, Try.ntmps9
        go_wp2_with (first | ((with_reducible refine gate_dst (N := 1) rfl ?_); refine bxE 1 #[.int .i64 a0_0, .int .i64 a0_1, .int .i64 a0_2, .int .i64 a0_3, .int .i64 a0_4, .int .i64 a0_5, .int .i64 a0_6] 28 (h := ?_); intro gb605 hg w25 hbox hb; have BK605 := aM (hbox); have GW605 := gE hg HB; have GE605 := gE hg HB; replace HB := bst HB hb; clear hb hbox hg; have hz26 := bx7 BK605.out) | ((with_reducible refine gate_callee (f := 31) rfl ?_); refine gL 5 Try.func31 #[.int .i64 a0_0] (h := ?_); (with_reducible refine (F31.calls a0_0 true _ A2.out).mono ?_); rintro e w' ⟨rfl, ⟨nd, rfl⟩⟩; refine ⟨_, rfl, ?_⟩) | (go_at_call 31; (with_reducible refine (F31.calls a0_1 true _ A4.out).mono ?_); rintro e w' ⟨rfl, ⟨nd, rfl⟩⟩))
        go_ret
        exact ⟨rfl, bZ⟩
      ·
       rw [if_neg c9] at H; have c9b0 : decide (a0_3 ≤ 16) = false := dF c9; clear c9; obtain rfl := oI H
       go_enter Try.func9, Try.ntmps9
       go_wp2_with (first | ((with_reducible refine gate_dst (N := 1) rfl ?_); refine bxE 1 #[.int .i64 a0_0, .int .i64 a0_1, .int .i64 a0_2, .int .i64 a0_3, .int .i64 a0_4, .int .i64 a0_5, .int .i64 a0_6] 28 (h := ?_); intro gb605 hg w27 hbox hb; have BK605 := aM (hbox); have GW605 := gE hg HB; have GE605 := gE hg HB; replace HB := bst HB hb; clear hb hbox hg; have hz28 := bx7 BK605.out) | ((with_reducible refine gate_callee (f := 31) rfl ?_); refine gL 5 Try.func31 #[.int .i64 a0_0] (h := ?_); (with_reducible refine (F31.calls a0_0 true _ A2.out).mono ?_); rintro e w' ⟨rfl, ⟨nd, rfl⟩⟩; refine ⟨_, rfl, ?_⟩) | (go_at_call 31; (with_reducible refine (F31.calls a0_1 true _ A4.out).mono ?_); rintro e w' ⟨rfl, ⟨nd, rfl⟩⟩))
       go_ret
       exact ⟨rfl, bZ⟩
     ·
      rw [if_neg c8] at H; have c8b0 : decide (1 ≤ a0_3) = false := dF c8; clear c8; obtain rfl := oI H
      go_enter Try.func9, Try.ntmps9
      go_wp2_with (first | ((with_reducible refine gate_dst (N := 1) rfl ?_); refine bxE 1 #[.int .i64 a0_0, .int .i64 a0_1, .int .i64 a0_2, .int .i64 a0_3, .int .i64 a0_4, .int .i64 a0_5, .int .i64 a0_6] 28 (h := ?_); intro gb605 hg w29 hbox hb; have BK605 := aM (hbox); have GW605 := gE hg HB; have GE605 := gE hg HB; replace HB := bst HB hb; clear hb hbox hg; have hz30 := bx7 BK605.out) | ((with_reducible refine gate_callee (f := 31) rfl ?_); refine gL 5 Try.func31 #[.int .i64 a0_0] (h := ?_); (with_reducible refine (F31.calls a0_0 true _ A2.out).mono ?_); rintro e w' ⟨rfl, ⟨nd, rfl⟩⟩; refine ⟨_, rfl, ?_⟩) | (go_at_call 31; (with_reducible refine (F31.calls a0_1 true _ A4.out).mono ?_); rintro e w' ⟨rfl, ⟨nd, rfl⟩⟩))
      go_ret
      exact ⟨rfl, bZ⟩
    ·
     rw [if_neg c7] at H; have c7b0 : decide (a0_2 ≤ 16) = false := dF c7; clear c7; obtain rfl := oI H
     go_enter Try.func9, Try.ntmps9
     go_wp2_with (first | ((with_reducible refine gate_dst (N := 1) rfl ?_); refine bxE 1 #[.int .i64 a0_0, .int .i64 a0_1, .int .i64 a0_2, .int .i64 a0_3, .int .i64 a0_4, .int .i64 a0_5, .int .i64 a0_6] 28 (h := ?_); intro gb605 hg w31 hbox hb; have BK605 := aM (hbox); have GW605 := gE hg HB; have GE605 := gE hg HB; replace HB := bst HB hb; clear hb hbox hg; have hz32 := bx7 BK605.out) | ((with_reducible refine gate_callee (f := 31) rfl ?_); refine gL 5 Try.func31 #[.int .i64 a0_0] (h := ?_); (with_reducible refine (F31.calls a0_0 true _ A2.out).mono ?_); rintro e w' ⟨rfl, ⟨nd, rfl⟩⟩; refine ⟨_, rfl, ?_⟩) | (go_at_call 31; (with_reducible refine (F31.calls a0_1 true _ A4.out).mono ?_); rintro e w' ⟨rfl, ⟨nd, rfl⟩⟩))
     go_ret
     exact ⟨rfl, bZ⟩
   ·
    rw [if_neg c6] at H; have c6b0 : decide (1 ≤ a0_2) = false := dF c6; clear c6; obtain rfl := oI H
    go_enter Try.func9, Try.ntmps9
    go_wp2_with (first | ((with_reducible refine gate_dst (N := 1) rfl ?_); refine bxE 1 #[.int .i64 a0_0, .int .i64 a0_1, .int .i64 a0_2, .int .i64 a0_3, .int .i64 a0_4, .int .i64 a0_5, .int .i64 a0_6] 28 (h := ?_); intro gb605 hg w33 hbox hb; have BK605 := aM (hbox); have GW605 := gE hg HB; have GE605 := gE hg HB; replace HB := bst HB hb; clear hb hbox hg; have hz34 := bx7 BK605.out) | ((with_reducible refine gate_callee (f := 31) rfl ?_); refine gL 5 Try.func31 #[.int .i64 a0_0] (h := ?_); (with_reducible refine (F31.calls a0_0 true _ A2.out).mono ?_); rintro e w' ⟨rfl, ⟨nd, rfl⟩⟩; refine ⟨_, rfl, ?_⟩) | (go_at_call 31; (with_reducible refine (F31.calls a0_1 true _ A4.out).mono ?_); rintro e w' ⟨rfl, ⟨nd, rfl⟩⟩))
    go_ret
    exact ⟨rfl, bZ⟩
  ·
   replace c5 := Bool.eq_false_iff.mpr c5; subst c5; rw [if_neg (show ¬ (false = true) by decide)] at H; obtain rfl := oI H
   go_enter Try.func9, Try.ntmps9
   go_wp2_with (first | ((with_reducible refine gate_dst (N := 1) rfl ?_); refine bxE 1 #[.int .i64 a0_0, .int .i64 a0_1, .int .i64 a0_2, .int .i64 a0_3, .int .i64 a0_4, .int .i64 a0_5, .int .i64 a0_6] 28 (h := ?_); intro gb605 hg w35 hbox hb; have BK605 := aM (hbox); have GW605 := gE hg HB; have GE605 := gE hg HB; replace HB := bst HB hb; clear hb hbox hg; have hz36 := bx7 BK605.out) | ((with_reducible refine gate_callee (f := 31) rfl ?_); refine gL 5 Try.func31 #[.int .i64 a0_0] (h := ?_); (with_reducible refine (F31.calls a0_0 true _ A2.out).mono ?_); rintro e w' ⟨rfl, ⟨nd, rfl⟩⟩; refine ⟨_, rfl, ?_⟩) | (go_at_call 31; (with_reducible refine (F31.calls a0_1 false _ A4.out).mono ?_); rintro e w' ⟨rfl, ⟨nd, rfl⟩⟩))
   go_ret
   exact ⟨rfl, bZ⟩
 ·
  replace c3 := Bool.eq_false_iff.mpr c3; subst c3; rw [if_neg (show ¬ (false = true) by decide)] at H; obtain rfl := oI H
  go_enter Try.func9, Try.ntmps9
  go_wp2_with (first | ((with_reducible refine gate_dst (N := 1) rfl ?_); refine bxE 1 #[.int .i64 a0_0, .int .i64 a0_1, .int .i64 a0_2, .int .i64 a0_3, .int .i64 a0_4, .int .i64 a0_5, .int .i64 a0_6] 28 (h := ?_); intro gb605 hg w37 hbox hb; have BK605 := aM (hbox); have GW605 := gE hg HB; have GE605 := gE hg HB; replace HB := bst HB hb; clear hb hbox hg; have hz38 := bx7 BK605.out) | ((with_reducible refine gate_callee (f := 31) rfl ?_); refine gL 5 Try.func31 #[.int .i64 a0_0] (h := ?_); (with_reducible refine (F31.calls a0_0 false _ A2.out).mono ?_); rintro e w' ⟨rfl, ⟨nd, rfl⟩⟩; refine ⟨_, rfl, ?_⟩))
  go_ret
  exact ⟨rfl, bZ⟩

def F58.f (k : Nat) (a0 : ByteArray) : Option (ByteArray × Int) := if (a0.size : Int) < 4 then (some ((⟨#[]⟩ : ByteArray), 16)) else (if 0 ≤ (wrap64 ((a0.size : Int) - 4)) then (if (wrap64 ((a0.size : Int) - 4)) ≤ (a0.size : Int) then ((F87.f k (a0.extract 0 ((wrap64 ((a0.size : Int) - 4)) : Int).toNat)).bind fun t608 => (if t608.toList = a0.toList then (some (a0.extract 0 ((wrap64 ((a0.size : Int) - 4)) : Int).toNat, 0)) else (some ((⟨#[]⟩ : ByteArray), 22)))) else (none)) else (none))
theorem F58.mono : ∀ a0 k, LeO (F58.f k a0) (F58.f (k + 1) a0) := by
 intro a0 k; unfold F58.f
 repeat' with_reducible first | exact F87.mono _ _ | exact LeO.refl _ | exact LeO.none _ | refine LeO.ite ?_ ?_ | refine LeO.bind ?_ (fun _ => ?_)
theorem F58.calls (k : Nat) (a0 : ByteArray) (r1 : ByteArray) (r2 : Int) (w : World) (h : F58.f k a0 = some (r1, r2)) :
  Calls Try.prog 58 #[.string a0] w fun e w' => e = .returned (.tuple #[.string r1, .int .i64 r2]) ∧ Below w.heap.size w w' := by
 have HB := aM (Below.refl w.heap.size w); have H := h; clear h; unfold F58.f at H
 by_cases c2 : (a0.size : Int) < 4
 ·
  rw [if_pos c2] at H; have c2b0 : decide ((a0.size : Int) < 4) = true := dT c2; have c2b1 : decide (a0.size < 4) = true := dT (by omega); clear c2; simp only [Option.some.injEq, Prod.mk.injEq] at H; obtain ⟨rfl, rfl⟩ := H
  go_enter Try.func58, Try.ntmps58
  go_wp2
  go_ret2
  exact ⟨rfl, HB.out⟩
 ·
  rw [if_neg c2] at H; have c2b0 : decide ((a0.size : Int) < 4) = false := dF c2; have c2b1 : decide (a0.size < 4) = false := dF (by omega); clear c2; obtain ⟨ji3, hji3⟩ : ∃ j_ : Int, (wrap64 ((a0.size : Int) - 4)) = j_ := ⟨_, rfl⟩; (replace H : (if 0 ≤ (ji3) then (if (ji3) ≤ (a0.size : Int) then ((F87.f k (a0.extract 0 ((ji3) : Int).toNat)).bind fun t608 => (if t608.toList = a0.toList then (some (a0.extract 0 ((ji3) : Int).toNat, 0)) else (some ((⟨#[]⟩ : ByteArray), 22)))) else (none)) else (none)) = some (r1, r2) := by first | (rw [hji3] at H; exact H) | (simp only [hji3] at H ⊢; exact H)); have hji3w : (IntKind.i64.wrap ((a0.size : Int) - 4)) = ji3 := (i64_w _).trans hji3; obtain ⟨c4, H⟩ := ifp H; have c4b0 := eq_true c4; have c4b1 : decide (0 ≤ (ji3)) = true := dT c4; clear c4; obtain ⟨c5, H⟩ := ifp H; have c5b0 := eq_true c5; have c5b1 : decide ((ji3) ≤ (a0.size : Int)) = true := dT c5; clear c5; obtain ⟨t608, A6, H⟩ := bnd H
  by_cases c7 : t608.toList = a0.toList
  ·
   rw [if_pos c7] at H; have c7b0 : (t608.toList == a0.toList) = true := beq_iff_eq.mpr c7; have c7b1 : (t608.toList != a0.toList) = false := bne_eq_false_iff_eq.mpr c7; clear c7; have c8b0 := eq_true (oD : 0 ≤ (ji3)); have c9b0 := eq_true (oD : (ji3) ≤ (a0.size : Int)); simp only [Option.some.injEq, Prod.mk.injEq] at H; obtain ⟨rfl, rfl⟩ := H
   go_enter Try.func58, Try.ntmps58
   go_wp2_with (first | ((with_reducible refine gate_callee (f := 87) rfl ?_); refine goesL_ (some 12) rfl rfl Try.func87 (by kernel_rfl) rfl #[.string (a0.extract 0 ((ji3) : Int).toNat)] rfl (by (try simp only [List.map_toArray, List.map_cons, List.map_nil]); first | done | (simp only [hji3]; rfl) | rfl | (simp only [List.length_drop, List.length_take]; rfl)) ?_; (with_reducible refine (F87.calls k (a0.extract 0 ((ji3) : Int).toNat) t608 _ A6.out).mono ?_); rintro e w10 ⟨rfl, hb⟩; refine ⟨_, rfl, ?_⟩; replace HB := bst HB hb; clear hb))
   go_ret2
   exact ⟨by first | rfl | (simp [errW_none, errW_some] <;> rfl) | (simp only [← hji3]; first | rfl | (simp [errW_none, errW_some] <;> rfl)) | (simp [*, errW_none, errW_some] <;> rfl), HB.out⟩
  ·
   rw [if_neg c7] at H; have c7b0 : (t608.toList == a0.toList) = false := beq_eq_false_iff_ne.mpr c7; have c7b1 : (t608.toList != a0.toList) = true := bne_iff_ne.mpr c7; simp only [Option.some.injEq, Prod.mk.injEq] at H; obtain ⟨rfl, rfl⟩ := H
   go_enter Try.func58, Try.ntmps58
   go_wp2_with (first | ((with_reducible refine gate_callee (f := 87) rfl ?_); refine goesL_ (some 12) rfl rfl Try.func87 (by kernel_rfl) rfl #[.string (a0.extract 0 ((ji3) : Int).toNat)] rfl (by (try simp only [List.map_toArray, List.map_cons, List.map_nil]); first | done | (simp only [hji3]; rfl) | rfl | (simp only [List.length_drop, List.length_take]; rfl)) ?_; (with_reducible refine (F87.calls k (a0.extract 0 ((ji3) : Int).toNat) t608 _ A6.out).mono ?_); rintro e w11 ⟨rfl, hb⟩; refine ⟨_, rfl, ?_⟩; replace HB := bst HB hb; clear hb))
   go_ret2
   exact ⟨by first | rfl | (simp [errW_none, errW_some] <;> rfl) | (simp only [← hji3]; first | rfl | (simp [errW_none, errW_some] <;> rfl)) | (simp [*, errW_none, errW_some] <;> rfl), HB.out⟩

def F59.l0 : Nat → ByteArray → Int → Int → Option (Int)
 | 0, _, _, _ => none
 | k + 1, x0, x3, x4 => if x4 < (x0.size : Int) then (if 0 ≤ x4 then (F59.l0 k x0 (IntKind.u64.wrap ((IntKind.u64.wrap (x3 * 256)) + (IntKind.u64.wrap (bt x0 x4)))) (wrap64 (x4 + 1))) else (none)) else (some x3)
def F59.f (k : Nat) (a0 : ByteArray) : Option (Int) := F59.l0 k a0 0 0
theorem F59.mono_l : ∀ k, (∀ y0 y1 y2, LeO (F59.l0 k y0 y1 y2) (F59.l0 (k + 1) y0 y1 y2))
 | 0 => fun _ _ _ r h => by simp [F59.l0] at h
 | k + 1 => by
  have ih0 := F59.mono_l k
  ·
   intro y0 y1 y2; unfold F59.l0
   repeat' with_reducible first | exact ih0 _ _ _ | exact LeO.refl _ | exact LeO.none _ | refine LeO.ite ?_ ?_ | refine LeO.bind ?_ (fun _ => ?_)
theorem F59.mono : ∀ a0 k, LeO (F59.f k a0) (F59.f (k + 1) a0) := by
 intro a0 k; have ih0 := F59.mono_l k; unfold F59.f
 repeat' with_reducible first | exact ih0 _ _ _ | exact LeO.refl _ | exact LeO.none _ | refine LeO.ite ?_ ?_ | refine LeO.bind ?_ (fun _ => ?_)
theorem F59.calls (k : Nat) (a0 : ByteArray) (r : Int) (w : World) (h : F59.f k a0 = some r) :
  Calls Try.prog 59 #[.string a0] w fun e w' => e = .returned (.int .u64 r) ∧ Drawn0 w w' := by
 have H := h; clear h; unfold F59.f at H; have H' := aM H; clear H
 go_enter Try.func59, Try.ntmps59
 go_wp2
 go_loopg [3, 4] k (fun kq v3 v4 w' => ∃ (x3_1 : Int) (x4_1 : Int), v3 = .int .u64 x3_1 ∧ v4 = .int .i64 x4_1 ∧ Aside0 (F59.l0 kq a0 x3_1 x4_1 = some r) ∧ Aside0 (kq ≤ k) ∧ Drawn0 w w')
 case atStart => exact ⟨(0), (0), rfl, rfl, H', ⟨Nat.le_refl _⟩, dR⟩
 case round =>
  clear H'; obtain ⟨x3_1, x4_1, rfl, rfl, HA, HK1, ⟨m1, rfl⟩⟩ := hrel
  cases gk with
  | zero => exact absurd HA.out (by simp [F59.l0])
  | succ k1 =>
   have H := HA.out; clear HA; simp only [F59.l0] at H
   by_cases c2 : x4_1 < (a0.size : Int)
   ·
    rw [if_pos c2] at H; have c2b0 : decide (x4_1 < (a0.size : Int)) = true := dT c2; clear c2; obtain ⟨c3, H⟩ := ifp H; have c3b0 : decide (0 ≤ x4_1) = true := dT c3; clear c3; have H' := aM H; clear H; have p4 : 0 ≤ (x4_1 : Int) := oD; have q4 : x4_1 < (a0.size : Int) := oD; have hx4 := bt_at a0 x4_1; replace p4 := eq_true p4; replace q4 := eq_true q4
    go_wp2
    go_roundg k1
    case measure => have := HK1.out; omega
    case rel => exact ⟨(IntKind.u64.wrap ((IntKind.u64.wrap (x3_1 * 256)) + (IntKind.u64.wrap (bt a0 x4_1)))), (wrap64 (x4_1 + 1)), rfl, rfl, H', ⟨by have := HK1.out; omega⟩, dR⟩
   ·
    rw [if_neg c2] at H; have c2b0 : decide (x4_1 < (a0.size : Int)) = false := dF c2; clear c2; obtain rfl := oI H
    go_wp2
    go_ret
    exact ⟨rfl, dR⟩

def F60.f (k : Nat) (a0_0 : Int) (a0_1 : Int) (a0_2 : Int) (a0_3 : Int) (a0_4 : Int) (a0_5 : Int) (a0_6 : Int) : Option (Int) := (F89.f k a0_2 a0_0).bind fun t610 => ((F89.f k a0_3 a0_1).bind fun t611 => (some (wrap64 ((wrap64 ((wrap64 (9 + (wrap64 (a0_3 * (wrap64 (8 + (wrap64 (8 * t610)))))))) + (wrap64 (a0_2 * (wrap64 (8 + (wrap64 (8 * t611)))))))) + 4))))
theorem F60.mono : ∀ a0 a1 a2 a3 a4 a5 a6 k, LeO (F60.f k a0 a1 a2 a3 a4 a5 a6) (F60.f (k + 1) a0 a1 a2 a3 a4 a5 a6) := by
 intro a0 a1 a2 a3 a4 a5 a6 k; unfold F60.f
 repeat' with_reducible first | exact F89.mono _ _ _ | exact LeO.refl _ | exact LeO.none _ | refine LeO.ite ?_ ?_ | refine LeO.bind ?_ (fun _ => ?_)
theorem F60.calls (k : Nat) (a0_0 : Int) (a0_1 : Int) (a0_2 : Int) (a0_3 : Int) (a0_4 : Int) (a0_5 : Int) (a0_6 : Int) (r : Int) (w : World) (h : F60.f k a0_0 a0_1 a0_2 a0_3 a0_4 a0_5 a0_6 = some r) :
  Calls Try.prog 60 #[.agg #[.int .i64 a0_0, .int .i64 a0_1, .int .i64 a0_2, .int .i64 a0_3, .int .i64 a0_4, .int .i64 a0_5, .int .i64 a0_6]] w fun e w' => e = .returned (.int .i64 r) ∧ Below w.heap.size w w' := by
 have hu28 := Try.underlying28; have HB := aM (Below.refl w.heap.size w); have H := h; clear h; unfold F60.f at H; obtain ⟨t610, A2, H⟩ := bnd H; obtain ⟨t611, A3, H⟩ := bnd H; obtain rfl := oI H
 go_enter Try.func60, Try.ntmps60
 go_wp2_with (first | ((with_reducible refine gate_dst (N := 1) rfl ?_); refine bxE 1 #[.int .i64 a0_0, .int .i64 a0_1, .int .i64 a0_2, .int .i64 a0_3, .int .i64 a0_4, .int .i64 a0_5, .int .i64 a0_6] 28 (h := ?_); intro gb609 hg w4 hbox hb; have BK609 := aM (hbox); have GW609 := gE hg HB; have GE609 := gE hg HB; replace HB := bst HB hb; clear hb hbox hg; have hz5 := bx7 BK609.out) | (go_at_call 89; (with_reducible refine (F89.calls k a0_2 a0_0 t610 _ A2.out).mono ?_); rintro e w' ⟨rfl, ⟨nd, rfl⟩⟩; (try first | exact ⟨rfl, _, World.drewN_drewN _ _ _⟩ | exact ⟨rfl, _, Eq.trans (World.drewN_drewN _ _ _) (congrArg (World.drewN _) (Nat.add_assoc _ _ _))⟩)) | (go_at_call 89; (with_reducible refine (F89.calls k a0_3 a0_1 t611 _ A3.out).mono ?_); rintro e w' ⟨rfl, ⟨nd, rfl⟩⟩; (try first | exact ⟨rfl, _, World.drewN_drewN _ _ _⟩ | exact ⟨rfl, _, Eq.trans (World.drewN_drewN _ _ _) (congrArg (World.drewN _) (Nat.add_assoc _ _ _))⟩)))
 repeat (go_quiet (first | ((with_reducible refine gate_dst (N := 1) rfl ?_); refine bxE 1 #[.int .i64 a0_0, .int .i64 a0_1, .int .i64 a0_2, .int .i64 a0_3, .int .i64 a0_4, .int .i64 a0_5, .int .i64 a0_6] 28 (h := ?_); intro gb609 hg w4 hbox hb; have BK609 := aM (hbox); have GW609 := gE hg HB; have GE609 := gE hg HB; replace HB := bst HB hb; clear hb hbox hg; have hz5 := bx7 BK609.out) | (go_at_call 89; (with_reducible refine (F89.calls k a0_2 a0_0 t610 _ A2.out).mono ?_); rintro e w' ⟨rfl, ⟨nd, rfl⟩⟩; (try first | exact ⟨rfl, _, World.drewN_drewN _ _ _⟩ | exact ⟨rfl, _, Eq.trans (World.drewN_drewN _ _ _) (congrArg (World.drewN _) (Nat.add_assoc _ _ _))⟩)) | (go_at_call 89; (with_reducible refine (F89.calls k a0_3 a0_1 t611 _ A3.out).mono ?_); rintro e w' ⟨rfl, ⟨nd, rfl⟩⟩; (try first | exact ⟨rfl, _, World.drewN_drewN _ _ _⟩ | exact ⟨rfl, _, Eq.trans (World.drewN_drewN _ _ _) (congrArg (World.drewN _) (Nat.add_assoc _ _ _))⟩))); try go_wp2_with (first | ((with_reducible refine gate_dst (N := 1) rfl ?_); refine bxE 1 #[.int .i64 a0_0, .int .i64 a0_1, .int .i64 a0_2, .int .i64 a0_3, .int .i64 a0_4, .int .i64 a0_5, .int .i64 a0_6] 28 (h := ?_); intro gb609 hg w4 hbox hb; have BK609 := aM (hbox); have GW609 := gE hg HB; have GE609 := gE hg HB; replace HB := bst HB hb; clear hb hbox hg; have hz5 := bx7 BK609.out) | (go_at_call 89; (with_reducible refine (F89.calls k a0_2 a0_0 t610 _ A2.out).mono ?_); rintro e w' ⟨rfl, ⟨nd, rfl⟩⟩; (try first | exact ⟨rfl, _, World.drewN_drewN _ _ _⟩ | exact ⟨rfl, _, Eq.trans (World.drewN_drewN _ _ _) (congrArg (World.drewN _) (Nat.add_assoc _ _ _))⟩)) | (go_at_call 89; (with_reducible refine (F89.calls k a0_3 a0_1 t611 _ A3.out).mono ?_); rintro e w' ⟨rfl, ⟨nd, rfl⟩⟩; (try first | exact ⟨rfl, _, World.drewN_drewN _ _ _⟩ | exact ⟨rfl, _, Eq.trans (World.drewN_drewN _ _ _) (congrArg (World.drewN _) (Nat.add_assoc _ _ _))⟩))))
 go_ret
 exact ⟨rfl, bZ⟩

def F80.f (a0 : Int) (a1 : Int) : Option (Int) := (F31.f a1).bind fun t612 => (if t612 = true then (if a0 = 0 then (some 14) else (if a0 > 256 then (some 12) else (some 0))) else (some 20))
theorem F80.calls (a0 : Int) (a1 : Int) (r : Int) (w : World) (h : F80.f a0 a1 = some r) :
  Calls Try.prog 80 #[.int .i64 a0, .int .i64 a1] w fun e w' => e = .returned (.int .i64 r) ∧ Drawn0 w w' := by
 have H := h; clear h; unfold F80.f at H; obtain ⟨t612, A3, H⟩ := bnd H
 by_cases c4 : t612 = true
 ·
  subst c4; rw [if_pos rfl] at H
  by_cases c5 : a0 = 0
  ·
   rw [if_pos c5] at H; have c5b0 : (a0 == 0) = true := beq_iff_eq.mpr c5; have c5b1 : (a0 != 0) = false := bne_eq_false_iff_eq.mpr c5; clear c5; obtain rfl := oI H
   go_enter Try.func80, Try.ntmps80
   go_wp2_with (first | ((with_reducible refine gate_callee (f := 31) rfl ?_); refine gL 6 Try.func31 #[.int .i64 a1] (h := ?_); (with_reducible refine (F31.calls a1 true _ A3.out).mono ?_); rintro e w' ⟨rfl, ⟨nd, rfl⟩⟩; refine ⟨_, rfl, ?_⟩))
   go_ret
   exact ⟨rfl, dR⟩
  ·
   rw [if_neg c5] at H; have c5b0 : (a0 == 0) = false := beq_eq_false_iff_ne.mpr c5; have c5b1 : (a0 != 0) = true := bne_iff_ne.mpr c5
   by_cases c6 : a0 > 256
   ·
    rw [if_pos c6] at H; have c6b0 : decide (256 < a0) = true := dT c6; clear c6; obtain rfl := oI H
    go_enter Try.func80, Try.ntmps80
    go_wp2_with (first | ((with_reducible refine gate_callee (f := 31) rfl ?_); refine gL 6 Try.func31 #[.int .i64 a1] (h := ?_); (with_reducible refine (F31.calls a1 true _ A3.out).mono ?_); rintro e w' ⟨rfl, ⟨nd, rfl⟩⟩; refine ⟨_, rfl, ?_⟩))
    go_ret
    exact ⟨rfl, dR⟩
   ·
    rw [if_neg c6] at H; have c6b0 : decide (256 < a0) = false := dF c6; clear c6; obtain rfl := oI H
    go_enter Try.func80, Try.ntmps80
    go_wp2_with (first | ((with_reducible refine gate_callee (f := 31) rfl ?_); refine gL 6 Try.func31 #[.int .i64 a1] (h := ?_); (with_reducible refine (F31.calls a1 true _ A3.out).mono ?_); rintro e w' ⟨rfl, ⟨nd, rfl⟩⟩; refine ⟨_, rfl, ?_⟩))
    go_ret
    exact ⟨rfl, dR⟩
 ·
  replace c4 := Bool.eq_false_iff.mpr c4; subst c4; rw [if_neg (show ¬ (false = true) by decide)] at H; obtain rfl := oI H
  go_enter Try.func80, Try.ntmps80
  go_wp2_with (first | ((with_reducible refine gate_callee (f := 31) rfl ?_); refine gL 6 Try.func31 #[.int .i64 a1] (h := ?_); (with_reducible refine (F31.calls a1 false _ A3.out).mono ?_); rintro e w' ⟨rfl, ⟨nd, rfl⟩⟩; refine ⟨_, rfl, ?_⟩))
  go_ret
  exact ⟨rfl, dR⟩

def F99.l0 : Nat → Int → Int → Int → Option (Int)
 | 0, _, _, _ => none
 | k + 1, x0, x3, x4 => if x4 < x0 then (F99.l0 k x0 (wrap64 (x3 * 2)) (wrap64 (x4 + 1))) else (some x3)
def F99.f (k : Nat) (a0 : Int) : Option (Int) := F99.l0 k a0 1 0
theorem F99.mono_l : ∀ k, (∀ y0 y1 y2, LeO (F99.l0 k y0 y1 y2) (F99.l0 (k + 1) y0 y1 y2))
 | 0 => fun _ _ _ r h => by simp [F99.l0] at h
 | k + 1 => by
  have ih0 := F99.mono_l k
  ·
   intro y0 y1 y2; unfold F99.l0
   repeat' with_reducible first | exact ih0 _ _ _ | exact LeO.refl _ | exact LeO.none _ | refine LeO.ite ?_ ?_ | refine LeO.bind ?_ (fun _ => ?_)
theorem F99.mono : ∀ a0 k, LeO (F99.f k a0) (F99.f (k + 1) a0) := by
 intro a0 k; have ih0 := F99.mono_l k; unfold F99.f
 repeat' with_reducible first | exact ih0 _ _ _ | exact LeO.refl _ | exact LeO.none _ | refine LeO.ite ?_ ?_ | refine LeO.bind ?_ (fun _ => ?_)
theorem F99.calls (k : Nat) (a0 : Int) (r : Int) (w : World) (h : F99.f k a0 = some r) :
  Calls Try.prog 99 #[.int .i64 a0] w fun e w' => e = .returned (.int .i64 r) ∧ Drawn0 w w' := by
 have H := h; clear h; unfold F99.f at H; have H' := aM H; clear H
 go_enter Try.func99, Try.ntmps99
 go_wp2
 go_loopg [3, 4] k (fun kq v3 v4 w' => ∃ (x3_1 : Int) (x4_1 : Int), v3 = .int .i64 x3_1 ∧ v4 = .int .i64 x4_1 ∧ Aside0 (F99.l0 kq a0 x3_1 x4_1 = some r) ∧ Aside0 (kq ≤ k) ∧ Drawn0 w w')
 case atStart => exact ⟨(1), (0), rfl, rfl, H', ⟨Nat.le_refl _⟩, dR⟩
 case round =>
  clear H'; obtain ⟨x3_1, x4_1, rfl, rfl, HA, HK1, ⟨m1, rfl⟩⟩ := hrel
  cases gk with
  | zero => exact absurd HA.out (by simp [F99.l0])
  | succ k1 =>
   have H := HA.out; clear HA; simp only [F99.l0] at H
   by_cases c2 : x4_1 < a0
   ·
    rw [if_pos c2] at H; have c2b0 : decide (x4_1 < a0) = true := dT c2; clear c2; have H' := aM H; clear H
    go_wp2
    go_roundg k1
    case measure => have := HK1.out; omega
    case rel => exact ⟨(wrap64 (x3_1 * 2)), (wrap64 (x4_1 + 1)), rfl, rfl, H', ⟨by have := HK1.out; omega⟩, dR⟩
   ·
    rw [if_neg c2] at H; have c2b0 : decide (x4_1 < a0) = false := dF c2; clear c2; obtain rfl := oI H
    go_wp2
    go_ret
    exact ⟨rfl, dR⟩

def F81.f (k : Nat) (a0 : Int) : Option (Int) := (F99.f k a0).bind fun t613 => (some (wrap64 (t613 - 1)))
theorem F81.mono : ∀ a0 k, LeO (F81.f k a0) (F81.f (k + 1) a0) := by
 intro a0 k; unfold F81.f
 repeat' with_reducible first | exact F99.mono _ _ | exact LeO.refl _ | exact LeO.none _ | refine LeO.ite ?_ ?_ | refine LeO.bind ?_ (fun _ => ?_)
theorem F81.calls (k : Nat) (a0 : Int) (r : Int) (w : World) (h : F81.f k a0 = some r) :
  Calls Try.prog 81 #[.int .i64 a0] w fun e w' => e = .returned (.int .i64 r) ∧ Drawn0 w w' := by
 have H := h; clear h; unfold F81.f at H; obtain ⟨t613, A2, H⟩ := bnd H; obtain rfl := oI H
 go_enter Try.func81, Try.ntmps81
 go_wp2_with (first | ((with_reducible refine gate_callee (f := 99) rfl ?_); refine gL 4 Try.func99 #[.int .i64 a0] (h := ?_); (with_reducible refine (F99.calls k a0 t613 _ A2.out).mono ?_); rintro e w' ⟨rfl, ⟨nd, rfl⟩⟩; refine ⟨_, rfl, ?_⟩))
 go_ret
 exact ⟨rfl, dR⟩

end Go.Proofs.Ytekenaclmplocaa.PPageParses
