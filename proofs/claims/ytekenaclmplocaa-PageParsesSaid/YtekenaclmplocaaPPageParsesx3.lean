-- Written by a program of this session (wip/tools/mkprint.py over the kit's print).
import Derived.Test.YtekenaclmplocaaPPageParsesx0
namespace Go.Proofs.Ytekenaclmplocaa.PPageParses
open Go.RowKit Go.Proofs.YtekenaclmplocaaW.PrintWords Go.Proofs.YtekenaclmplocaaW.PrintLast Go.Proofs.YtekenaclmplocaaW.PrintMore
attribute [local go_sem] max2_int min2_int max_two min_two max_three min_three max_four min_four
set_option linter.unusedVariables false
set_option maxHeartbeats 8000000
set_option maxRecDepth 100000
set_option linter.unusedSimpArgs false

def F48.f (a0 : Int) : Option (Bool) := if a0 = 2 then (some true) else (if a0 = 4 then (some true) else (some (a0 == 8)))
theorem F48.calls (a0 : Int) (r : Bool) (w : World) (h : F48.f a0 = some r) :
  Calls Try.prog 48 #[.int .i64 a0] w fun e w' => e = .returned (.bool r) ∧ Drawn0 w w' := by
 have H := h; clear h; unfold F48.f at H
 by_cases c2 : a0 = 2
 ·
  rw [if_pos c2] at H; have c2b0 : (a0 == 2) = true := beq_iff_eq.mpr c2; have c2b1 : (a0 != 2) = false := bne_eq_false_iff_eq.mpr c2; clear c2; obtain rfl := oI H
  go_enter Try.func48, Try.ntmps48
  go_wp2
  go_ret
  exact ⟨rfl, dR⟩
 ·
  rw [if_neg c2] at H; have c2b0 : (a0 == 2) = false := beq_eq_false_iff_ne.mpr c2; have c2b1 : (a0 != 2) = true := bne_iff_ne.mpr c2
  by_cases c3 : a0 = 4
  ·
   rw [if_pos c3] at H; have c3b0 : (a0 == 4) = true := beq_iff_eq.mpr c3; have c3b1 : (a0 != 4) = false := bne_eq_false_iff_eq.mpr c3; clear c3; obtain rfl := oI H
   go_enter Try.func48, Try.ntmps48
   go_wp2
   go_ret
   exact ⟨rfl, dR⟩
  ·
   rw [if_neg c3] at H; have c3b0 : (a0 == 4) = false := beq_eq_false_iff_ne.mpr c3; have c3b1 : (a0 != 4) = true := bne_iff_ne.mpr c3; obtain rfl := oI H
   go_enter Try.func48, Try.ntmps48
   go_wp2
   go_ret
   exact ⟨rfl, dR⟩

def F49.f (a0 : Int) (a1 : Int) (a2 : Int) : Option (Bool) := if a0 ≥ a1 then (some (decide (a0 ≤ a2))) else (some false)
theorem F49.calls (a0 : Int) (a1 : Int) (a2 : Int) (r : Bool) (w : World) (h : F49.f a0 a1 a2 = some r) :
  Calls Try.prog 49 #[.int .i64 a0, .int .i64 a1, .int .i64 a2] w fun e w' => e = .returned (.bool r) ∧ Drawn0 w w' := by
 have H := h; clear h; unfold F49.f at H
 by_cases c4 : a0 ≥ a1
 ·
  rw [if_pos c4] at H; have c4b0 : decide (a1 ≤ a0) = true := dT c4; clear c4; obtain rfl := oI H
  go_enter Try.func49, Try.ntmps49
  go_wp2
  go_ret
  exact ⟨rfl, dR⟩
 ·
  rw [if_neg c4] at H; have c4b0 : decide (a1 ≤ a0) = false := dF c4; clear c4; obtain rfl := oI H
  go_enter Try.func49, Try.ntmps49
  go_wp2
  go_ret
  exact ⟨rfl, dR⟩

def F23.f (a0_0 : Int) (a0_1 : Int) (a0_2 : Int) (a0_3 : Int) (a0_4 : Int) (a0_5 : Int) (a0_6 : Int) : Option (Bool) := (F48.f a0_0).bind fun t102 => (if t102 = true then ((F48.f a0_1).bind fun t103 => (if t103 = true then ((F49.f a0_2 1 16).bind fun t104 => (if t104 = true then ((F49.f a0_3 1 16).bind fun t105 => (if t105 = true then ((F49.f a0_4 0 3).bind fun t106 => (if t106 = true then ((F49.f a0_5 0 3).bind fun t107 => (if t107 = true then ((F49.f a0_6 0 1023).bind fun t108 => (some t108)) else (some false))) else (some false))) else (some false))) else (some false))) else (some false))) else (some false))
theorem F23.calls (a0_0 : Int) (a0_1 : Int) (a0_2 : Int) (a0_3 : Int) (a0_4 : Int) (a0_5 : Int) (a0_6 : Int) (r : Bool) (w : World) (h : F23.f a0_0 a0_1 a0_2 a0_3 a0_4 a0_5 a0_6 = some r) :
  Calls Try.prog 23 #[.agg #[.int .i64 a0_0, .int .i64 a0_1, .int .i64 a0_2, .int .i64 a0_3, .int .i64 a0_4, .int .i64 a0_5, .int .i64 a0_6]] w fun e w' => e = .returned (.bool r) ∧ Below w.heap.size w w' := by
 have hu23 := Try.underlying23; have HB := aM (Below.refl w.heap.size w); have H := h; clear h; unfold F23.f at H; obtain ⟨t102, A2, H⟩ := bnd H
 by_cases c3 : t102 = true
 ·
  subst c3; rw [if_pos rfl] at H; obtain ⟨t103, A4, H⟩ := bnd H
  by_cases c5 : t103 = true
  ·
   subst c5; rw [if_pos rfl] at H; obtain ⟨t104, A6, H⟩ := bnd H
   by_cases c7 : t104 = true
   ·
    subst c7; rw [if_pos rfl] at H; obtain ⟨t105, A8, H⟩ := bnd H
    by_cases c9 : t105 = true
    ·
     subst c9; rw [if_pos rfl] at H; obtain ⟨t106, A10, H⟩ := bnd H
     by_cases c11 : t106 = true
     ·
      subst c11; rw [if_pos rfl] at H; obtain ⟨t107, A12, H⟩ := bnd H
      by_cases c13 : t107 = true
      ·
       subst c13; rw [if_pos rfl] at H; obtain ⟨t108, A14, H⟩ := bnd H; obtain rfl := oI H
       go_enter Try.func23, Try.ntmps23
       go_wp2_with (first | ((with_reducible refine gate_dst (N := 1) rfl ?_); refine bxE 1 #[.int .i64 a0_0, .int .i64 a0_1, .int .i64 a0_2, .int .i64 a0_3, .int .i64 a0_4, .int .i64 a0_5, .int .i64 a0_6] 23 (h := ?_); intro gb101 hg w15 hbox hb; have BK101 := aM (hbox); have GW101 := gE hg HB; have GE101 := gE hg HB; replace HB := bst HB hb; clear hb hbox hg; have hz16 := bx7 BK101.out) | ((with_reducible refine gate_callee (f := 48) rfl ?_); refine gL 5 Try.func48 #[.int .i64 a0_0] (h := ?_); (with_reducible refine (F48.calls a0_0 true _ A2.out).mono ?_); rintro e w' ⟨rfl, ⟨nd, rfl⟩⟩; refine ⟨_, rfl, ?_⟩) | (go_at_call 48; (with_reducible refine (F48.calls a0_1 true _ A4.out).mono ?_); rintro e w' ⟨rfl, ⟨nd, rfl⟩⟩) | (go_at_call 49; (with_reducible refine (F49.calls a0_2 1 16 true _ A6.out).mono ?_); rintro e w' ⟨rfl, ⟨nd, rfl⟩⟩) | (go_at_call 49; (with_reducible refine (F49.calls a0_3 1 16 true _ A8.out).mono ?_); rintro e w' ⟨rfl, ⟨nd, rfl⟩⟩) | (go_at_call 49; (with_reducible refine (F49.calls a0_4 0 3 true _ A10.out).mono ?_); rintro e w' ⟨rfl, ⟨nd, rfl⟩⟩) | (go_at_call 49; (with_reducible refine (F49.calls a0_5 0 3 true _ A12.out).mono ?_); rintro e w' ⟨rfl, ⟨nd, rfl⟩⟩) | (go_at_call 49; (with_reducible refine (F49.calls a0_6 0 1023 t108 _ A14.out).mono ?_); rintro e w' ⟨rfl, ⟨nd, rfl⟩⟩))
       go_ret
       exact ⟨rfl, bZ⟩
      ·
       replace c13 := Bool.eq_false_iff.mpr c13; subst c13; rw [if_neg (show ¬ (false = true) by decide)] at H; obtain rfl := oI H
       go_enter Try.func23, Try.ntmps23
       go_wp2_with (first | ((with_reducible refine gate_dst (N := 1) rfl ?_); refine bxE 1 #[.int .i64 a0_0, .int .i64 a0_1, .int .i64 a0_2, .int .i64 a0_3, .int .i64 a0_4, .int .i64 a0_5, .int .i64 a0_6] 23 (h := ?_); intro gb101 hg w17 hbox hb; have BK101 := aM (hbox); have GW101 := gE hg HB; have GE101 := gE hg HB; replace HB := bst HB hb; clear hb hbox hg; have hz18 := bx7 BK101.out) | ((with_reducible refine gate_callee (f := 48) rfl ?_); refine gL 5 Try.func48 #[.int .i64 a0_0] (h := ?_); (with_reducible refine (F48.calls a0_0 true _ A2.out).mono ?_); rintro e w' ⟨rfl, ⟨nd, rfl⟩⟩; refine ⟨_, rfl, ?_⟩) | (go_at_call 48; (with_reducible refine (F48.calls a0_1 true _ A4.out).mono ?_); rintro e w' ⟨rfl, ⟨nd, rfl⟩⟩) | (go_at_call 49; (with_reducible refine (F49.calls a0_2 1 16 true _ A6.out).mono ?_); rintro e w' ⟨rfl, ⟨nd, rfl⟩⟩) | (go_at_call 49; (with_reducible refine (F49.calls a0_3 1 16 true _ A8.out).mono ?_); rintro e w' ⟨rfl, ⟨nd, rfl⟩⟩) | (go_at_call 49; (with_reducible refine (F49.calls a0_4 0 3 true _ A10.out).mono ?_); rintro e w' ⟨rfl, ⟨nd, rfl⟩⟩) | (go_at_call 49; (with_reducible refine (F49.calls a0_5 0 3 false _ A12.out).mono ?_); rintro e w' ⟨rfl, ⟨nd, rfl⟩⟩))
       go_ret
       exact ⟨rfl, bZ⟩
     ·
      replace c11 := Bool.eq_false_iff.mpr c11; subst c11; rw [if_neg (show ¬ (false = true) by decide)] at H; obtain rfl := oI H
      go_enter Try.func23, Try.ntmps23
      go_wp2_with (first | ((with_reducible refine gate_dst (N := 1) rfl ?_); refine bxE 1 #[.int .i64 a0_0, .int .i64 a0_1, .int .i64 a0_2, .int .i64 a0_3, .int .i64 a0_4, .int .i64 a0_5, .int .i64 a0_6] 23 (h := ?_); intro gb101 hg w19 hbox hb; have BK101 := aM (hbox); have GW101 := gE hg HB; have GE101 := gE hg HB; replace HB := bst HB hb; clear hb hbox hg; have hz20 := bx7 BK101.out) | ((with_reducible refine gate_callee (f := 48) rfl ?_); refine gL 5 Try.func48 #[.int .i64 a0_0] (h := ?_); (with_reducible refine (F48.calls a0_0 true _ A2.out).mono ?_); rintro e w' ⟨rfl, ⟨nd, rfl⟩⟩; refine ⟨_, rfl, ?_⟩) | (go_at_call 48; (with_reducible refine (F48.calls a0_1 true _ A4.out).mono ?_); rintro e w' ⟨rfl, ⟨nd, rfl⟩⟩) | (go_at_call 49; (with_reducible refine (F49.calls a0_2 1 16 true _ A6.out).mono ?_); rintro e w' ⟨rfl, ⟨nd, rfl⟩⟩) | (go_at_call 49; (with_reducible refine (F49.calls a0_3 1 16 true _ A8.out).mono ?_); rintro e w' ⟨rfl, ⟨nd, rfl⟩⟩) | (go_at_call 49; (with_reducible refine (F49.calls a0_4 0 3 false _ A10.out).mono ?_); rintro e w' ⟨rfl, ⟨nd, rfl⟩⟩))
      go_ret
      exact ⟨rfl, bZ⟩
    ·
     replace c9 := Bool.eq_false_iff.mpr c9; subst c9; rw [if_neg (show ¬ (false = true) by decide)] at H; obtain rfl := oI H
     go_enter Try.func23, Try.ntmps23
     go_wp2_with (first | ((with_reducible refine gate_dst (N := 1) rfl ?_); refine bxE 1 #[.int .i64 a0_0, .int .i64 a0_1, .int .i64 a0_2, .int .i64 a0_3, .int .i64 a0_4, .int .i64 a0_5, .int .i64 a0_6] 23 (h := ?_); intro gb101 hg w21 hbox hb; have BK101 := aM (hbox); have GW101 := gE hg HB; have GE101 := gE hg HB; replace HB := bst HB hb; clear hb hbox hg; have hz22 := bx7 BK101.out) | ((with_reducible refine gate_callee (f := 48) rfl ?_); refine gL 5 Try.func48 #[.int .i64 a0_0] (h := ?_); (with_reducible refine (F48.calls a0_0 true _ A2.out).mono ?_); rintro e w' ⟨rfl, ⟨nd, rfl⟩⟩; refine ⟨_, rfl, ?_⟩) | (go_at_call 48; (with_reducible refine (F48.calls a0_1 true _ A4.out).mono ?_); rintro e w' ⟨rfl, ⟨nd, rfl⟩⟩) | (go_at_call 49; (with_reducible refine (F49.calls a0_2 1 16 true _ A6.out).mono ?_); rintro e w' ⟨rfl, ⟨nd, rfl⟩⟩) | (go_at_call 49; (with_reducible refine (F49.calls a0_3 1 16 false _ A8.out).mono ?_); rintro e w' ⟨rfl, ⟨nd, rfl⟩⟩))
     go_ret
     exact ⟨rfl, bZ⟩
   ·
    replace c7 := Bool.eq_false_iff.mpr c7; subst c7; rw [if_neg (show ¬ (false = true) by decide)] at H; obtain rfl := oI H
    go_enter Try.func23, Try.ntmps23
    go_wp2_with (first | ((with_reducible refine gate_dst (N := 1) rfl ?_); refine bxE 1 #[.int .i64 a0_0, .int .i64 a0_1, .int .i64 a0_2, .int .i64 a0_3, .int .i64 a0_4, .int .i64 a0_5, .int .i64 a0_6] 23 (h := ?_); intro gb101 hg w23 hbox hb; have BK101 := aM (hbox); have GW101 := gE hg HB; have GE101 := gE hg HB; replace HB := bst HB hb; clear hb hbox hg; have hz24 := bx7 BK101.out) | ((with_reducible refine gate_callee (f := 48) rfl ?_); refine gL 5 Try.func48 #[.int .i64 a0_0] (h := ?_); (with_reducible refine (F48.calls a0_0 true _ A2.out).mono ?_); rintro e w' ⟨rfl, ⟨nd, rfl⟩⟩; refine ⟨_, rfl, ?_⟩) | (go_at_call 48; (with_reducible refine (F48.calls a0_1 true _ A4.out).mono ?_); rintro e w' ⟨rfl, ⟨nd, rfl⟩⟩) | (go_at_call 49; (with_reducible refine (F49.calls a0_2 1 16 false _ A6.out).mono ?_); rintro e w' ⟨rfl, ⟨nd, rfl⟩⟩))
    go_ret
    exact ⟨rfl, bZ⟩
  ·
   replace c5 := Bool.eq_false_iff.mpr c5; subst c5; rw [if_neg (show ¬ (false = true) by decide)] at H; obtain rfl := oI H
   go_enter Try.func23, Try.ntmps23
   go_wp2_with (first | ((with_reducible refine gate_dst (N := 1) rfl ?_); refine bxE 1 #[.int .i64 a0_0, .int .i64 a0_1, .int .i64 a0_2, .int .i64 a0_3, .int .i64 a0_4, .int .i64 a0_5, .int .i64 a0_6] 23 (h := ?_); intro gb101 hg w25 hbox hb; have BK101 := aM (hbox); have GW101 := gE hg HB; have GE101 := gE hg HB; replace HB := bst HB hb; clear hb hbox hg; have hz26 := bx7 BK101.out) | ((with_reducible refine gate_callee (f := 48) rfl ?_); refine gL 5 Try.func48 #[.int .i64 a0_0] (h := ?_); (with_reducible refine (F48.calls a0_0 true _ A2.out).mono ?_); rintro e w' ⟨rfl, ⟨nd, rfl⟩⟩; refine ⟨_, rfl, ?_⟩) | (go_at_call 48; (with_reducible refine (F48.calls a0_1 false _ A4.out).mono ?_); rintro e w' ⟨rfl, ⟨nd, rfl⟩⟩))
   go_ret
   exact ⟨rfl, bZ⟩
 ·
  replace c3 := Bool.eq_false_iff.mpr c3; subst c3; rw [if_neg (show ¬ (false = true) by decide)] at H; obtain rfl := oI H
  go_enter Try.func23, Try.ntmps23
  go_wp2_with (first | ((with_reducible refine gate_dst (N := 1) rfl ?_); refine bxE 1 #[.int .i64 a0_0, .int .i64 a0_1, .int .i64 a0_2, .int .i64 a0_3, .int .i64 a0_4, .int .i64 a0_5, .int .i64 a0_6] 23 (h := ?_); intro gb101 hg w27 hbox hb; have BK101 := aM (hbox); have GW101 := gE hg HB; have GE101 := gE hg HB; replace HB := bst HB hb; clear hb hbox hg; have hz28 := bx7 BK101.out) | ((with_reducible refine gate_callee (f := 48) rfl ?_); refine gL 5 Try.func48 #[.int .i64 a0_0] (h := ?_); (with_reducible refine (F48.calls a0_0 false _ A2.out).mono ?_); rintro e w' ⟨rfl, ⟨nd, rfl⟩⟩; refine ⟨_, rfl, ?_⟩))
  go_ret
  exact ⟨rfl, bZ⟩

def F46.l0 : Nat → List (S47) → Int → Int → List (S47) → Int → Int → Option (Bool)
 | 0, _, _, _, _, _, _ => none
 | k + 1, x0, x1, x2, x9, x10, x11 => if x11 < x10 then (if 0 ≤ x11 then (if x11 < (x9.length : Int) then (if (((rd_T47 x9 x11).f2).length : Int) = x2 then (F46.l0 k x0 x1 x2 x9 x10 (wrap64 (x11 + 1))) else (some false)) else (none)) else (none)) else (some ((x0.length : Int) == x1))
def F46.f (k : Nat) (l0 : List (S47)) (a1 : Int) (a2 : Int) : Option (Bool) := F46.l0 k l0 a1 a2 l0 (l0.length : Int) 0
theorem F46.mono_l : ∀ k, (∀ y0 y1 y2 y3 y4 y5, LeO (F46.l0 k y0 y1 y2 y3 y4 y5) (F46.l0 (k + 1) y0 y1 y2 y3 y4 y5))
 | 0 => fun _ _ _ _ _ _ r h => by simp [F46.l0] at h
 | k + 1 => by
  have ih0 := F46.mono_l k
  ·
   intro y0 y1 y2 y3 y4 y5; unfold F46.l0
   repeat' with_reducible first | exact ih0 _ _ _ _ _ _ | exact LeO.refl _ | exact LeO.none _ | refine LeO.ite ?_ ?_ | refine LeO.bind ?_ (fun _ => ?_)
theorem F46.mono : ∀ a0 a1 a2 k, LeO (F46.f k a0 a1 a2) (F46.f (k + 1) a0 a1 a2) := by
 intro a0 a1 a2 k; have ih0 := F46.mono_l k; unfold F46.f
 repeat' with_reducible first | exact ih0 _ _ _ _ _ _ | exact LeO.refl _ | exact LeO.none _ | refine LeO.ite ?_ ?_ | refine LeO.bind ?_ (fun _ => ?_)
theorem F46.calls (k : Nat) (A0 : Option Addr) (c0 : Nat) (l0 : List (S47)) (a1 : Int) (a2 : Int) (r : Bool) (w : World) (hr0 : Kd.C k47 w A0 l0.length l0) (hc0 : l0.length ≤ c0) (h : F46.f k l0 a1 a2 = some r) :
  Calls Try.prog 46 #[.slice A0 l0.length c0, .int .i64 a1, .int .i64 a2] w fun e w' => e = .returned (.bool r) ∧ Below w.heap.size w w' := by
 have hu47 := Try.underlying47; have HR0 := aM hr0; have HC0 := aM hc0; clear hr0 hc0; have HB := aM (Below.refl w.heap.size w); have H := h; clear h; unfold F46.f at H; have H' := aM H; clear H
 go_enter Try.func46, Try.ntmps46
 go_wp2
 go_loopg [11] k (fun kq v11 w' => ∃ (x11_1 : Int), v11 = .int .i64 x11_1 ∧ Aside0 (F46.l0 kq l0 a1 a2 l0 (l0.length : Int) x11_1 = some r) ∧ Aside0 (kq ≤ k) ∧ Aside0 (Below w.heap.size w w'))
 case atStart => exact ⟨(0), rfl, H', ⟨Nat.le_refl _⟩, HB⟩
 case round =>
  clear H'; (try clear p2); obtain ⟨x11_1, rfl, HA, HK1, HB⟩ := hrel
  cases gk with
  | zero => exact absurd HA.out (by simp [F46.l0])
  | succ k1 =>
   have H := HA.out; clear HA; simp only [F46.l0] at H
   by_cases c4 : x11_1 < (l0.length : Int)
   ·
    rw [if_pos c4] at H; have c4b0 : decide (x11_1 < (l0.length : Int)) = true := dT c4; clear c4; obtain ⟨c5, H⟩ := ifp H; have c5b0 : decide (0 ≤ x11_1) = true := dT c5; clear c5; obtain ⟨c6, H⟩ := ifp H; have c6b0 : decide (x11_1 < (l0.length : Int)) = true := dT c6; clear c6
    by_cases c7 : (((rd_T47 l0 x11_1).f2).length : Int) = a2
    ·
     rw [if_pos c7] at H; have c7b0 : ((((rd_T47 l0 x11_1).f2).length : Int) == a2) = true := beq_iff_eq.mpr c7; have c7b1 : ((((rd_T47 l0 x11_1).f2).length : Int) != a2) = false := bne_eq_false_iff_eq.mpr c7; clear c7; have H' := aM H; clear H; have p109 : 0 ≤ (x11_1 : Int) := oD; have q109 : x11_1 < (l0.length : Int) := oD; obtain ⟨ad109, A109_2, c109_2, e109, hx109_0, hx109_1, hx109_2, hl109_2, hi109_2⟩ := at_T47 HR0.out x11_1 p109 q109
     cases e109
     replace hx109_0 := cU HB hx109_0; replace hx109_1 := cU HB hx109_1; replace hx109_2 := cU HB hx109_2; have HR109_2 := aM hi109_2; have HC109_2 := aM hl109_2; clear hi109_2 hl109_2; replace p109 := eq_true p109; replace q109 := eq_true q109
     go_wp2_with (first | ((with_reducible refine gate_dst (N := 8) rfl ?_); refine bxE 8 #[.int .i32 0, .int .u32 0, .slice none 0 0] 47 (h := ?_); intro gb110 hg w8 hbox hb; have BK110 := aM (hbox); have GW110 := gE hg HB; have GE110 := gE hg HB; replace HB := bst HB hb; clear hb hbox hg; have hz9 := bx3 BK110.out))
     go_roundg k1
     case measure => have := HK1.out; omega
     case rel => exact ⟨(wrap64 (x11_1 + 1)), rfl, H', ⟨by have := HK1.out; omega⟩, ⟨bZ⟩⟩
    ·
     rw [if_neg c7] at H; have c7b0 : ((((rd_T47 l0 x11_1).f2).length : Int) == a2) = false := beq_eq_false_iff_ne.mpr c7; have c7b1 : ((((rd_T47 l0 x11_1).f2).length : Int) != a2) = true := bne_iff_ne.mpr c7; obtain rfl := oI H; have p109 : 0 ≤ (x11_1 : Int) := oD; have q109 : x11_1 < (l0.length : Int) := oD; obtain ⟨ad109, A109_2, c109_2, e109, hx109_0, hx109_1, hx109_2, hl109_2, hi109_2⟩ := at_T47 HR0.out x11_1 p109 q109
     cases e109
     replace hx109_0 := cU HB hx109_0; replace hx109_1 := cU HB hx109_1; replace hx109_2 := cU HB hx109_2; have HR109_2 := aM hi109_2; have HC109_2 := aM hl109_2; clear hi109_2 hl109_2; replace p109 := eq_true p109; replace q109 := eq_true q109
     go_wp2_with (first | ((with_reducible refine gate_dst (N := 8) rfl ?_); refine bxE 8 #[.int .i32 0, .int .u32 0, .slice none 0 0] 47 (h := ?_); intro gb110 hg w10 hbox hb; have BK110 := aM (hbox); have GW110 := gE hg HB; have GE110 := gE hg HB; replace HB := bst HB hb; clear hb hbox hg; have hz11 := bx3 BK110.out))
     go_ret
     exact ⟨rfl, bZ⟩
   ·
    rw [if_neg c4] at H; have c4b0 : decide (x11_1 < (l0.length : Int)) = false := dF c4; clear c4; obtain rfl := oI H
    go_wp2
    go_ret
    exact ⟨rfl, HB.out⟩

def F64.f (a0 : Int) (a1 : Int) : Option (Int) := (F48.f a1).bind fun t111 => (if t111 = true then (if a0 = 0 then (some 14) else (if a0 > 256 then (some 12) else (some 0))) else (some 20))
theorem F64.calls (a0 : Int) (a1 : Int) (r : Int) (w : World) (h : F64.f a0 a1 = some r) :
  Calls Try.prog 64 #[.int .i64 a0, .int .i64 a1] w fun e w' => e = .returned (.int .i64 r) ∧ Drawn0 w w' := by
 have H := h; clear h; unfold F64.f at H; obtain ⟨t111, A3, H⟩ := bnd H
 by_cases c4 : t111 = true
 ·
  subst c4; rw [if_pos rfl] at H
  by_cases c5 : a0 = 0
  ·
   rw [if_pos c5] at H; have c5b0 : (a0 == 0) = true := beq_iff_eq.mpr c5; have c5b1 : (a0 != 0) = false := bne_eq_false_iff_eq.mpr c5; clear c5; obtain rfl := oI H
   go_enter Try.func64, Try.ntmps64
   go_wp2_with (first | ((with_reducible refine gate_callee (f := 48) rfl ?_); refine gL 7 Try.func48 #[.int .i64 a1] (h := ?_); (with_reducible refine (F48.calls a1 true _ A3.out).mono ?_); rintro e w' ⟨rfl, ⟨nd, rfl⟩⟩; refine ⟨_, rfl, ?_⟩))
   go_ret
   exact ⟨rfl, dR⟩
  ·
   rw [if_neg c5] at H; have c5b0 : (a0 == 0) = false := beq_eq_false_iff_ne.mpr c5; have c5b1 : (a0 != 0) = true := bne_iff_ne.mpr c5
   by_cases c6 : a0 > 256
   ·
    rw [if_pos c6] at H; have c6b0 : decide (256 < a0) = true := dT c6; clear c6; obtain rfl := oI H
    go_enter Try.func64, Try.ntmps64
    go_wp2_with (first | ((with_reducible refine gate_callee (f := 48) rfl ?_); refine gL 7 Try.func48 #[.int .i64 a1] (h := ?_); (with_reducible refine (F48.calls a1 true _ A3.out).mono ?_); rintro e w' ⟨rfl, ⟨nd, rfl⟩⟩; refine ⟨_, rfl, ?_⟩))
    go_ret
    exact ⟨rfl, dR⟩
   ·
    rw [if_neg c6] at H; have c6b0 : decide (256 < a0) = false := dF c6; clear c6; obtain rfl := oI H
    go_enter Try.func64, Try.ntmps64
    go_wp2_with (first | ((with_reducible refine gate_callee (f := 48) rfl ?_); refine gL 7 Try.func48 #[.int .i64 a1] (h := ?_); (with_reducible refine (F48.calls a1 true _ A3.out).mono ?_); rintro e w' ⟨rfl, ⟨nd, rfl⟩⟩; refine ⟨_, rfl, ?_⟩))
    go_ret
    exact ⟨rfl, dR⟩
 ·
  replace c4 := Bool.eq_false_iff.mpr c4; subst c4; rw [if_neg (show ¬ (false = true) by decide)] at H; obtain rfl := oI H
  go_enter Try.func64, Try.ntmps64
  go_wp2_with (first | ((with_reducible refine gate_callee (f := 48) rfl ?_); refine gL 7 Try.func48 #[.int .i64 a1] (h := ?_); (with_reducible refine (F48.calls a1 false _ A3.out).mono ?_); rintro e w' ⟨rfl, ⟨nd, rfl⟩⟩; refine ⟨_, rfl, ?_⟩))
  go_ret
  exact ⟨rfl, dR⟩

-- NOT PRINTED: function 107 (slices_IndexFunc_int_int)

-- NOT PRINTED: function 94 (slices_ContainsFunc_int_int)

def group_Right_1.p (x : Int) : Bool := x != 0
theorem group_Right_1.calls (x : Int) (w : World) :
  Calls Try.prog 95 #[.int .i64 x] w fun e w' => e = .returned (.bool (group_Right_1.p x)) ∧ Drawn0 w w' := by
 obtain ⟨q, hq⟩ : ∃ q : Bool, group_Right_1.p x = q := ⟨_, rfl⟩; have HQ := aM hq; rw [hq]; clear hq
 go_enter Try.func95, Try.ntmps95
 go_wp2
 go_ret
 exact ⟨by rw [← HQ.out]; first | rfl | simp [group_Right_1.p], Drawn0.refl _⟩


def F94.f (l0 : List Int) : Option Bool := some (l0.any group_Right_1.p)
theorem group_Right_1_ix.calls (A0 : Option Addr) (c0 : Nat) (l0 : List Int) (w : World) (hr0 : Kd.C (Kd.int .i64) w A0 l0.length l0) :
  Calls Try.prog 107 #[.slice A0 l0.length c0, .func (.func 95) #[] #[]] w fun e w' => ∃ r : Int, e = .returned (.int .i64 r) ∧ Aside0 (decide (0 ≤ r) = l0.any group_Right_1.p) ∧ Drawn0 w w' := by
 have HR0 := aM hr0; clear hr0
 go_enter Try.func107, Try.ntmps107
 go_wp2
 go_loopw [8, 5] (fun i _ w' => ∃ n : Nat, n ≤ l0.length ∧ i = .int .i64 n ∧ Aside0 ((l0.take n).any group_Right_1.p = false) ∧ Drawn0 w w') (fun i _ _ => l0.length - (intOf i).toNat)
 case atStart => exact ⟨0, Nat.zero_le _, rfl, ⟨by simp⟩, Drawn0.refl _⟩
 case round =>
  obtain ⟨n, hn, rfl, HA, ⟨m, rfl⟩⟩ := hrel; have hl63 := HR0.out.2.1
  by_cases c : n < l0.length
  ·
   have c1 : decide ((n : Int) < (l0.length : Int)) = true := dT (by omega); have c2 : decide (n < l0.length) = true := dT c; (have hp0 : (0 : Int) ≤ (n : Int) := by omega); (have hq0 : (n : Int) < (l0.length : Int) := by omega); obtain ⟨ad, e1, hx⟩ := Kd.at_int HR0.out (n : Int) hp0 hq0
   cases e1
   (have hx2 : w.cell? (ad.add n) = some (.int .i64 (rd l0 (n : Int))) := by simpa using hx); have hx3 : (w.drewN m).cell? (ad.add n) = some (.int .i64 (rd l0 (n : Int))) := hx2; obtain ⟨y, hy⟩ : ∃ y : Int, rd l0 (n : Int) = y := ⟨_, rfl⟩; rw [hy] at hx hx2 hx3; obtain ⟨q, hq⟩ : ∃ q : Bool, group_Right_1.p y = q := ⟨_, rfl⟩
   have CC := aM (fun (W : World) => by
    have h1 := group_Right_1.calls y W; rw [hq] at h1
    exact h1)
   have HT : Aside0 ((l0.take (n + 1)).any group_Right_1.p = q) := ⟨by
    rw [List.take_succ_eq_append_getElem c, List.any_append, HA.out]; have : l0[n] = y := by rw [← hy]; simp [rd, List.getElem?_eq_getElem c]
    simp [this, hq]⟩
   have HMEM : Aside0 (group_Right_1.p y = true → l0.any group_Right_1.p = true) := ⟨fun h => by
    rw [List.any_eq_true]
    refine ⟨y, ?_, h⟩
    (have : l0[n] = y := by rw [← hy]; simp [rd, List.getElem?_eq_getElem c]); rw [← this]
    exact List.getElem_mem c⟩
   have HQ := aM hq; clear hq hy HA
   cases q with
   | true =>
    go_wp2_with (first | (go_at_call 95; (with_reducible refine (CC.out _).mono ?_); rintro e w' ⟨rfl, ⟨nd, rfl⟩⟩))
    go_ret
    exact ⟨_, rfl, ⟨by rw [HMEM.out HQ.out]; simp⟩, dR⟩
   | false =>
    go_wp2_with (first | (go_at_call 95; (with_reducible refine (CC.out _).mono ?_); rintro e w' ⟨rfl, ⟨nd, rfl⟩⟩))
    go_roundw
    case rel => exact ⟨n + 1, by omega, by go_num, HT, dR⟩
    case measure => simp [intOf]; omega
  ·
   have c1 : decide ((n : Int) < (l0.length : Int)) = false := dF (by omega); have c2 : decide (n < l0.length) = false := dF c; (have hnl : n = l0.length := by omega); subst hnl
   go_wp2
   go_ret
   exact ⟨_, rfl, ⟨by have h1 := HA.out; rw [List.take_length] at h1; rw [h1]; rfl⟩, dR⟩
theorem F94.calls (A0 : Option Addr) (c0 : Nat) (l0 : List Int) (r : Bool) (w : World) (hr0 : Kd.C (Kd.int .i64) w A0 l0.length l0) (hc0 : l0.length ≤ c0) (h : F94.f l0 = some r) :
  Calls Try.prog 94 #[.slice A0 l0.length c0, .func (.func 95) #[] #[]] w fun e w' => e = .returned (.bool r) ∧ Drawn0 w w' := by
 have h2 : some (l0.any group_Right_1.p) = some r := h; clear h; have HS := aM (oI h2); have HR0 := aM hr0; clear hr0 h2 hc0
 go_enter Try.func94, Try.ntmps94
 go_wp2_with (first | (go_at_call 107; (with_reducible refine (group_Right_1_ix.calls A0 c0 l0 _ HR0.out).mono ?_); rintro e w' ⟨r1, rfl, HE, ⟨nd, rfl⟩⟩))
 go_ret
 exact ⟨by rw [← HS.out, ← HE.out]; rfl, dR⟩

def group_Right_2.ok (b : Int) : Bool := decide (0 ≤ b) && decide (b ≤ 62)
def group_Right_2.p (b x : Int) : Bool := decide (x < 0) || decide (2 ^ b.toNat ≤ x)
theorem group_Right_2.calls (g : Nat) (b x : Int) (w : World) (hg : w.heap[g]? = some (.cells #[.int .i64 b] 3 (0, 0))) (hk : group_Right_2.ok b = true) :
  Calls Try.prog 96 #[.int .i64 x, .pointer (some ⟨g, 0, none⟩)] w fun e w' => e = .returned (.bool (group_Right_2.p b x)) ∧ Drawn0 w w' := by
 (have hk2 : 0 ≤ b ∧ b ≤ 62 := by simpa [group_Right_2.ok] using hk); have h0 : 0 ≤ b := hk2.1; have h62 : b ≤ 62 := hk2.2
 have hpow : (2 : Int) ^ b.toNat ≤ 2 ^ 62 := by
  have h1 : (2 : Nat) ^ b.toNat ≤ 2 ^ 62 := Nat.pow_le_pow_right (by decide) (by omega)
  exact_mod_cast h1
 have hpos : (0 : Int) < 2 ^ b.toNat := Int.pow_pos (by decide)
 have hwr : wrap64 (2 ^ b.toNat) = 2 ^ b.toNat := by
  (have : (2 : Int) ^ 62 = 4611686018427387904 := by decide); unfold wrap64
  omega
 have hcell : w.cell? ⟨g, 0, none⟩ = some (.int .i64 b) := (blk_cell hg 0).trans rfl; obtain ⟨q, hq⟩ : ∃ q : Bool, group_Right_2.p b x = q := ⟨_, rfl⟩; have HQ := aM hq; rw [hq]; have HW := aM hwr; clear hq hk hk2 hpow hpos hwr hg
 by_cases hx : x < 0
 ·
  have hx1 : decide (x < 0) = true := dT hx
  go_enter Try.func96, Try.ntmps96
  go_wp2
  all_goals (first | (go_ret; exact ⟨by rw [← HQ.out]; simp [group_Right_2.p, hx], Drawn0.refl _⟩) | (exfalso; omega))
 ·
  have hx1 : decide (x < 0) = false := dF hx
  go_enter Try.func96, Try.ntmps96
  go_wp2
  all_goals (first | (go_ret; exact ⟨by rw [← HQ.out]; simp only [group_Right_2.p, hx1, HW.out, Bool.false_or]; rfl, Drawn0.refl _⟩) | (exfalso; omega))

def F94b.f (l0 : List Int) (b : Int) : Option Bool := if group_Right_2.ok b = true then some (l0.any (group_Right_2.p b)) else none
theorem group_Right_2_ix.calls (A0 : Option Addr) (c0 : Nat) (l0 : List Int) (g : Nat) (b : Int) (w : World) (hr0 : Kd.C (Kd.int .i64) w A0 l0.length l0) (hg : w.heap[g]? = some (.cells #[.int .i64 b] 3 (0, 0))) (hk : group_Right_2.ok b = true) :
  Calls Try.prog 107 #[.slice A0 l0.length c0, .func (.func 96) #[] #[.pointer (some ⟨g, 0, none⟩)]] w fun e w' => ∃ r : Int, e = .returned (.int .i64 r) ∧ Aside0 (decide (0 ≤ r) = l0.any (group_Right_2.p b)) ∧ Drawn0 w w' := by
 have HR0 := aM hr0; have HG := aM hg; have HK := aM hk; clear hr0 hg hk
 go_enter Try.func107, Try.ntmps107
 go_wp2
 go_loopw [8, 5] (fun i _ w' => ∃ n : Nat, n ≤ l0.length ∧ i = .int .i64 n ∧ Aside0 ((l0.take n).any (group_Right_2.p b) = false) ∧ Drawn0 w w') (fun i _ _ => l0.length - (intOf i).toNat)
 case atStart => exact ⟨0, Nat.zero_le _, rfl, ⟨by simp⟩, Drawn0.refl _⟩
 case round =>
  obtain ⟨n, hn, rfl, HA, ⟨m, rfl⟩⟩ := hrel; have hl63 := HR0.out.2.1
  by_cases c : n < l0.length
  ·
   have c1 : decide ((n : Int) < (l0.length : Int)) = true := dT (by omega); have c2 : decide (n < l0.length) = true := dT c; (have hp0 : (0 : Int) ≤ (n : Int) := by omega); (have hq0 : (n : Int) < (l0.length : Int) := by omega); obtain ⟨ad, e1, hx⟩ := Kd.at_int HR0.out (n : Int) hp0 hq0
   cases e1
   (have hx2 : w.cell? (ad.add n) = some (.int .i64 (rd l0 (n : Int))) := by simpa using hx); have hx3 : (w.drewN m).cell? (ad.add n) = some (.int .i64 (rd l0 (n : Int))) := hx2; obtain ⟨y, hy⟩ : ∃ y : Int, rd l0 (n : Int) = y := ⟨_, rfl⟩; rw [hy] at hx hx2 hx3; obtain ⟨q, hq⟩ : ∃ q : Bool, group_Right_2.p b y = q := ⟨_, rfl⟩
   have CC := aM (fun (W : World) (hW : W.heap[g]? = some (.cells #[.int .i64 b] 3 (0, 0))) => by
    have h1 := group_Right_2.calls g b y W hW HK.out; rw [hq] at h1
    exact h1)
   have HT : Aside0 ((l0.take (n + 1)).any (group_Right_2.p b) = q) := ⟨by
    rw [List.take_succ_eq_append_getElem c, List.any_append, HA.out]; have : l0[n] = y := by rw [← hy]; simp [rd, List.getElem?_eq_getElem c]
    simp [this, hq]⟩
   have HMEM : Aside0 (group_Right_2.p b y = true → l0.any (group_Right_2.p b) = true) := ⟨fun h => by
    rw [List.any_eq_true]
    refine ⟨y, ?_, h⟩
    (have : l0[n] = y := by rw [← hy]; simp [rd, List.getElem?_eq_getElem c]); rw [← this]
    exact List.getElem_mem c⟩
   have HQ := aM hq; have HG2 := aM (show (w.drewN m).heap[g]? = some (.cells #[.int .i64 b] 3 (0, 0)) from HG.out); clear hq hy HA
   cases q with
   | true =>
    go_wp2_with (first | (go_at_call 96; (with_reducible refine (CC.out _ HG2.out).mono ?_); rintro e w' ⟨rfl, ⟨nd, rfl⟩⟩))
    go_ret
    exact ⟨_, rfl, ⟨by rw [HMEM.out HQ.out]; simp⟩, dR⟩
   | false =>
    go_wp2_with (first | (go_at_call 96; (with_reducible refine (CC.out _ HG2.out).mono ?_); rintro e w' ⟨rfl, ⟨nd, rfl⟩⟩))
    go_roundw
    case rel => exact ⟨n + 1, by omega, by go_num, HT, dR⟩
    case measure => simp [intOf]; omega
  ·
   have c1 : decide ((n : Int) < (l0.length : Int)) = false := dF (by omega); have c2 : decide (n < l0.length) = false := dF c; (have hnl : n = l0.length := by omega); subst hnl
   go_wp2
   go_ret
   exact ⟨_, rfl, ⟨by have h1 := HA.out; rw [List.take_length] at h1; rw [h1]; rfl⟩, dR⟩
theorem F94b.calls (A0 : Option Addr) (c0 : Nat) (l0 : List Int) (g : Nat) (b : Int) (r : Bool) (w : World) (hr0 : Kd.C (Kd.int .i64) w A0 l0.length l0) (hc0 : l0.length ≤ c0) (hg : w.heap[g]? = some (.cells #[.int .i64 b] 3 (0, 0))) (h : F94b.f l0 b = some r) :
  Calls Try.prog 94 #[.slice A0 l0.length c0, .func (.func 96) #[] #[.pointer (some ⟨g, 0, none⟩)]] w fun e w' => e = .returned (.bool r) ∧ Drawn0 w w' := by
 have h2 : (if group_Right_2.ok b = true then some (l0.any (group_Right_2.p b)) else none) = some r := h; clear h
 by_cases hk : group_Right_2.ok b = true
 ·
  rw [if_pos hk] at h2; have HS := aM (oI h2); have HR0 := aM hr0; have HG := aM hg; have HK := aM hk; clear hr0 hg hk h2 hc0
  go_enter Try.func94, Try.ntmps94
  go_wp2_with (first | (go_at_call 107; (with_reducible refine (group_Right_2_ix.calls A0 c0 l0 g b _ HR0.out HG.out HK.out).mono ?_); rintro e w' ⟨r1, rfl, HE, ⟨nd, rfl⟩⟩))
  go_ret
  exact ⟨by rw [← HS.out, ← HE.out]; rfl, dR⟩
 ·
  rw [if_neg hk] at h2
  cases h2

end Go.Proofs.Ytekenaclmplocaa.PPageParses
