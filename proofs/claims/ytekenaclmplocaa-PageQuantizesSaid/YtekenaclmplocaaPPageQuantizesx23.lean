-- Written by a program of this session (wip/tools/mkprint.py over the kit's print).
import Derived.Test.YtekenaclmplocaaPPageQuantizesx0
namespace Go.Proofs.Ytekenaclmplocaa.PPageQuantizes
open Go.RowKit Go.Proofs.YtekenaclmplocaaW.PrintWords Go.Proofs.YtekenaclmplocaaW.PrintLast Go.Proofs.YtekenaclmplocaaW.PrintMore
attribute [local go_sem] max2_int min2_int max_two min_two max_three min_three max_four min_four   -- for this text's walks alone
set_option linter.unusedVariables false
set_option linter.unusedSimpArgs false

/-! ### credenzaref01_Power: function 99 -/
def credenzaref01_Power.l0 : Nat → Int → Int → Int → Option (Int)
 | 0, _, _, _ => none
 | k + 1, x0, x3, x4 => if x4 < x0 then (credenzaref01_Power.l0 k x0 (wrap64 (x3 * 2)) (wrap64 (x4 + 1))) else (some x3)
def credenzaref01_Power.f (k : Nat) (a0 : Int) : Option (Int) := credenzaref01_Power.l0 k a0 1 0
theorem credenzaref01_Power.mono_l : ∀ k, (∀ y0 y1 y2, LeO (credenzaref01_Power.l0 k y0 y1 y2) (credenzaref01_Power.l0 (k + 1) y0 y1 y2))
 | 0 => fun _ _ _ r h => by simp [credenzaref01_Power.l0] at h
 | k + 1 => by
  have ih0 := credenzaref01_Power.mono_l k
  ·
   intro y0 y1 y2; unfold credenzaref01_Power.l0
   repeat' first
   | (with_reducible exact ih0 _ _ _)
   | (with_reducible exact LeO.refl _)
   | (with_reducible exact LeO.none _)
   | (with_reducible refine LeO.ite ?_ ?_)
   | (with_reducible refine LeO.bind ?_ (fun _ => ?_))
theorem credenzaref01_Power.mono : ∀ a0 k, LeO (credenzaref01_Power.f k a0) (credenzaref01_Power.f (k + 1) a0) := by
 intro a0 k; have ih0 := credenzaref01_Power.mono_l k; unfold credenzaref01_Power.f
 repeat' first
   | (with_reducible exact ih0 _ _ _)
   | (with_reducible exact LeO.refl _)
   | (with_reducible exact LeO.none _)
   | (with_reducible refine LeO.ite ?_ ?_)
   | (with_reducible refine LeO.bind ?_ (fun _ => ?_))
set_option maxHeartbeats 8000000 in
set_option maxRecDepth 100000 in
theorem credenzaref01_Power.calls (k : Nat) (a0 : Int) (r : Int) (w : World) (h : credenzaref01_Power.f k a0 = some r) :
  Calls Try.prog 99 #[.int .i64 a0] w fun e w' => e = .returned (.int .i64 r) ∧ Drawn0 w w' := by
 have H := h; clear h; unfold credenzaref01_Power.f at H; have H' := Aside0.mk H; clear H
 go_enter Try.func99, Try.ntmps99
 go_wp2
 go_loopg [3, 4] k (fun kq v3 v4 w' => ∃ (x3_1 : Int) (x4_1 : Int), v3 = .int .i64 x3_1 ∧ v4 = .int .i64 x4_1 ∧ Aside0 (credenzaref01_Power.l0 kq a0 x3_1 x4_1 = some r) ∧ Aside0 (kq ≤ k) ∧ Drawn0 w w')
 case atStart => exact ⟨(1), (0), rfl, rfl, H', ⟨Nat.le_refl _⟩, by repeat (first | exact Drawn0.refl _ | apply Drawn0.step)⟩
 case round =>
  clear H'; obtain ⟨x3_1, x4_1, rfl, rfl, HA, HK1, ⟨m1, rfl⟩⟩ := hrel
  cases gk with
  | zero => exact absurd HA.out (by simp [credenzaref01_Power.l0])
  | succ k1 =>
   have H := HA.out; clear HA; simp only [credenzaref01_Power.l0] at H
   by_cases c2 : x4_1 < a0
   ·
    rw [if_pos c2] at H; have c2b0 : decide (x4_1 < a0) = true := decide_eq_true c2; clear c2; have H' := Aside0.mk H; clear H
    go_wp2
    go_roundg k1
    case measure => have := HK1.out; omega
    case rel => exact ⟨(wrap64 (x3_1 * 2)), (wrap64 (x4_1 + 1)), rfl, rfl, H', ⟨by have := HK1.out; omega⟩, by repeat (first | exact Drawn0.refl _ | apply Drawn0.step)⟩
   ·
    rw [if_neg c2] at H; have c2b0 : decide (x4_1 < a0) = false := decide_eq_false c2; clear c2; obtain rfl := Option.some.inj H
    go_wp2
    go_ret
    exact ⟨rfl, by repeat (first | exact Drawn0.refl _ | apply Drawn0.step)⟩

/-! ### credenzaref07_Steps: function 81 -/
def credenzaref07_Steps.f (k : Nat) (a0 : Int) : Option (Int) := (credenzaref01_Power.f k a0).bind fun t610 => (some (wrap64 (t610 - 1)))
theorem credenzaref07_Steps.mono : ∀ a0 k, LeO (credenzaref07_Steps.f k a0) (credenzaref07_Steps.f (k + 1) a0) := by
 intro a0 k; unfold credenzaref07_Steps.f
 repeat' first
   | (with_reducible exact credenzaref01_Power.mono _ _)
   | (with_reducible exact LeO.refl _)
   | (with_reducible exact LeO.none _)
   | (with_reducible refine LeO.ite ?_ ?_)
   | (with_reducible refine LeO.bind ?_ (fun _ => ?_))
set_option maxHeartbeats 8000000 in
set_option maxRecDepth 100000 in
theorem credenzaref07_Steps.calls (k : Nat) (a0 : Int) (r : Int) (w : World) (h : credenzaref07_Steps.f k a0 = some r) :
  Calls Try.prog 81 #[.int .i64 a0] w fun e w' => e = .returned (.int .i64 r) ∧ Drawn0 w w' := by
 have H := h; clear h; unfold credenzaref07_Steps.f at H; obtain ⟨t610, A2, H⟩ := bnd H; obtain rfl := Option.some.inj H
 go_enter Try.func81, Try.ntmps81
 go_wp2_with (first | ((with_reducible refine gate_callee (f := 99) rfl ?_); refine gL 4 Try.func99 #[.int .i64 a0] (h := ?_); (with_reducible refine (credenzaref01_Power.calls k a0 t610 _ A2.out).mono ?_); rintro e w' ⟨rfl, ⟨nd, rfl⟩⟩; refine ⟨_, rfl, ?_⟩))
 go_ret
 exact ⟨rfl, by repeat (first | exact Drawn0.refl _ | apply Drawn0.step)⟩

/-! ### credenzaref01_Floor: function 106 -/
def credenzaref01_Floor.f (a0 : Int) (a1 : Int) : Option (Int) := if a1 = 0 then (none) else (if (wrap64 ((wrap64 (Int.tdiv a0 a1)) * a1)) > a0 then (some (wrap64 ((wrap64 (Int.tdiv a0 a1)) - 1))) else (some (wrap64 (Int.tdiv a0 a1))))
set_option maxHeartbeats 8000000 in
set_option maxRecDepth 100000 in
theorem credenzaref01_Floor.calls (a0 : Int) (a1 : Int) (r : Int) (w : World) (h : credenzaref01_Floor.f a0 a1 = some r) :
  Calls Try.prog 106 #[.int .i64 a0, .int .i64 a1] w fun e w' => e = .returned (.int .i64 r) ∧ Drawn0 w w' := by
 have H := h; clear h; unfold credenzaref01_Floor.f at H; obtain ⟨c3, H⟩ := ifn H; have c3b0 : (a1 == 0) = false := beq_eq_false_iff_ne.mpr c3; have c3b1 : (a1 != 0) = true := bne_iff_ne.mpr c3
 by_cases c4 : (wrap64 ((wrap64 (Int.tdiv a0 a1)) * a1)) > a0
 ·
  rw [if_pos c4] at H; have c4b0 : decide (a0 < (wrap64 ((wrap64 (Int.tdiv a0 a1)) * a1))) = true := decide_eq_true c4; clear c4; obtain rfl := Option.some.inj H
  go_enter Try.func106, Try.ntmps106
  go_wp2
  go_ret
  exact ⟨rfl, by repeat (first | exact Drawn0.refl _ | apply Drawn0.step)⟩
 ·
  rw [if_neg c4] at H; have c4b0 : decide (a0 < (wrap64 ((wrap64 (Int.tdiv a0 a1)) * a1))) = false := decide_eq_false c4; clear c4; obtain rfl := Option.some.inj H
  go_enter Try.func106, Try.ntmps106
  go_wp2
  go_ret
  exact ⟨rfl, by repeat (first | exact Drawn0.refl _ | apply Drawn0.step)⟩

/-! ### credenzaref01_Ratio: function 93 -/
def credenzaref01_Ratio.f (a0 : Int) (a1 : Int) : Option (Int) := (credenzaref01_Floor.f a0 a1).bind fun t611 => (if (wrap64 (a0 - (wrap64 (t611 * a1)))) > (wrap64 (a1 - (wrap64 (a0 - (wrap64 (t611 * a1)))))) then (some (wrap64 (t611 + 1))) else (if (wrap64 (a0 - (wrap64 (t611 * a1)))) = (wrap64 (a1 - (wrap64 (a0 - (wrap64 (t611 * a1)))))) then (if (Int.tmod t611 2) = 0 then (some t611) else (some (wrap64 (t611 + 1)))) else (some t611)))
set_option maxHeartbeats 8000000 in
set_option maxRecDepth 100000 in
theorem credenzaref01_Ratio.calls (a0 : Int) (a1 : Int) (r : Int) (w : World) (h : credenzaref01_Ratio.f a0 a1 = some r) :
  Calls Try.prog 93 #[.int .i64 a0, .int .i64 a1] w fun e w' => e = .returned (.int .i64 r) ∧ Drawn0 w w' := by
 have H := h; clear h; unfold credenzaref01_Ratio.f at H; obtain ⟨t611, A3, H⟩ := bnd H
 by_cases c4 : (wrap64 (a0 - (wrap64 (t611 * a1)))) > (wrap64 (a1 - (wrap64 (a0 - (wrap64 (t611 * a1))))))
 ·
  rw [if_pos c4] at H; have c4b0 : decide ((wrap64 (a1 - (wrap64 (a0 - (wrap64 (t611 * a1)))))) < (wrap64 (a0 - (wrap64 (t611 * a1))))) = true := decide_eq_true c4; clear c4; obtain rfl := Option.some.inj H
  go_enter Try.func93, Try.ntmps93
  go_wp2_with (first | ((with_reducible refine gate_callee (f := 106) rfl ?_); refine gL 10 Try.func106 #[.int .i64 a0, .int .i64 a1] (h := ?_); (with_reducible refine (credenzaref01_Floor.calls a0 a1 t611 _ A3.out).mono ?_); rintro e w' ⟨rfl, ⟨nd, rfl⟩⟩; refine ⟨_, rfl, ?_⟩))
  go_ret
  exact ⟨rfl, by repeat (first | exact Drawn0.refl _ | apply Drawn0.step)⟩
 ·
  rw [if_neg c4] at H; have c4b0 : decide ((wrap64 (a1 - (wrap64 (a0 - (wrap64 (t611 * a1)))))) < (wrap64 (a0 - (wrap64 (t611 * a1))))) = false := decide_eq_false c4; clear c4
  by_cases c5 : (wrap64 (a0 - (wrap64 (t611 * a1)))) = (wrap64 (a1 - (wrap64 (a0 - (wrap64 (t611 * a1))))))
  ·
   rw [if_pos c5] at H; have c5b0 : ((wrap64 (a0 - (wrap64 (t611 * a1)))) == (wrap64 (a1 - (wrap64 (a0 - (wrap64 (t611 * a1))))))) = true := beq_iff_eq.mpr c5; have c5b1 : ((wrap64 (a0 - (wrap64 (t611 * a1)))) != (wrap64 (a1 - (wrap64 (a0 - (wrap64 (t611 * a1))))))) = false := bne_eq_false_iff_eq.mpr c5; clear c5
   by_cases c6 : (Int.tmod t611 2) = 0
   ·
    rw [if_pos c6] at H; have c6b0 : ((Int.tmod t611 2) == 0) = true := beq_iff_eq.mpr c6; have c6b1 : ((Int.tmod t611 2) != 0) = false := bne_eq_false_iff_eq.mpr c6; clear c6; obtain rfl := Option.some.inj H
    go_enter Try.func93, Try.ntmps93
    go_wp2_with (first | ((with_reducible refine gate_callee (f := 106) rfl ?_); refine gL 10 Try.func106 #[.int .i64 a0, .int .i64 a1] (h := ?_); (with_reducible refine (credenzaref01_Floor.calls a0 a1 t611 _ A3.out).mono ?_); rintro e w' ⟨rfl, ⟨nd, rfl⟩⟩; refine ⟨_, rfl, ?_⟩))
    go_ret
    exact ⟨rfl, by repeat (first | exact Drawn0.refl _ | apply Drawn0.step)⟩
   ·
    rw [if_neg c6] at H; have c6b0 : ((Int.tmod t611 2) == 0) = false := beq_eq_false_iff_ne.mpr c6; have c6b1 : ((Int.tmod t611 2) != 0) = true := bne_iff_ne.mpr c6; obtain rfl := Option.some.inj H
    go_enter Try.func93, Try.ntmps93
    go_wp2_with (first | ((with_reducible refine gate_callee (f := 106) rfl ?_); refine gL 10 Try.func106 #[.int .i64 a0, .int .i64 a1] (h := ?_); (with_reducible refine (credenzaref01_Floor.calls a0 a1 t611 _ A3.out).mono ?_); rintro e w' ⟨rfl, ⟨nd, rfl⟩⟩; refine ⟨_, rfl, ?_⟩))
    go_ret
    exact ⟨rfl, by repeat (first | exact Drawn0.refl _ | apply Drawn0.step)⟩
  ·
   rw [if_neg c5] at H; have c5b0 : ((wrap64 (a0 - (wrap64 (t611 * a1)))) == (wrap64 (a1 - (wrap64 (a0 - (wrap64 (t611 * a1))))))) = false := beq_eq_false_iff_ne.mpr c5; have c5b1 : ((wrap64 (a0 - (wrap64 (t611 * a1)))) != (wrap64 (a1 - (wrap64 (a0 - (wrap64 (t611 * a1))))))) = true := bne_iff_ne.mpr c5; obtain rfl := Option.some.inj H
   go_enter Try.func93, Try.ntmps93
   go_wp2_with (first | ((with_reducible refine gate_callee (f := 106) rfl ?_); refine gL 10 Try.func106 #[.int .i64 a0, .int .i64 a1] (h := ?_); (with_reducible refine (credenzaref01_Floor.calls a0 a1 t611 _ A3.out).mono ?_); rintro e w' ⟨rfl, ⟨nd, rfl⟩⟩; refine ⟨_, rfl, ?_⟩))
   go_ret
   exact ⟨rfl, by repeat (first | exact Drawn0.refl _ | apply Drawn0.step)⟩

/-! ### credenzaref07_Of: function 62 -/
mutual
def credenzaref07_Of.l0 : Nat → List Int → Int → Int → Int → Int → Option (Int × Int × List Int)
 | 0, _, _, _, _, _ => none
 | k + 1, x0, x1, x5, x6, x7 => if x7 < (x0.length : Int) then (if 0 ≤ x7 then (if (wrap64 (rd x0 x7)) < x5 then (if (wrap64 (rd x0 x7)) > x6 then (credenzaref07_Of.l0 k x0 x1 (wrap64 (rd x0 x7)) (wrap64 (rd x0 x7)) (wrap64 (x7 + 1))) else (credenzaref07_Of.l0 k x0 x1 (wrap64 (rd x0 x7)) x6 (wrap64 (x7 + 1)))) else (if (wrap64 (rd x0 x7)) > x6 then (credenzaref07_Of.l0 k x0 x1 x5 (wrap64 (rd x0 x7)) (wrap64 (x7 + 1))) else (credenzaref07_Of.l0 k x0 x1 x5 x6 (wrap64 (x7 + 1))))) else (none)) else ((credenzaref07_Steps.f k x1).bind fun t621 => (if t621 = 0 then (none) else ((credenzaref07_Steps.f k x1).bind fun t622 => (if (wrap64 ((wrap64 (Int.tdiv (wrap64 (x6 - x5)) t621)) * t622)) < (wrap64 (x6 - x5)) then (credenzaref07_Of.j1 k x0 x5 (wrap64 ((wrap64 (Int.tdiv (wrap64 (x6 - x5)) t621)) + 1))) else (credenzaref07_Of.j1 k x0 x5 (wrap64 (Int.tdiv (wrap64 (x6 - x5)) t621)))))))
def credenzaref07_Of.j1 : Nat → List Int → Int → Int → Option (Int × Int × List Int)
 | 0, _, _, _ => none
 | k + 1, x0, x5, x8 => credenzaref07_Of.l1 k x0 x5 x8 0 (wrap32 (x5)) ((x8) % 4294967296) ([] : List Int)
def credenzaref07_Of.l1 : Nat → List Int → Int → Int → Int → Int → Int → List Int → Option (Int × Int × List Int)
 | 0, _, _, _, _, _, _, _ => none
 | k + 1, x0, x5, x8, x10, x624000, x624001, x624002 => if x10 < (x0.length : Int) then (if x8 > 0 then (if 0 ≤ x10 then ((credenzaref01_Ratio.f (wrap64 ((wrap64 (rd x0 x10)) - x5)) x8).bind fun t625 => (if x624002.length < 17592186044416 then (credenzaref07_Of.l1 k x0 x5 x8 (wrap64 (x10 + 1)) x624000 x624001 (x624002 ++ [t625])) else (none))) else (none)) else (if x624002.length < 17592186044416 then (credenzaref07_Of.l1 k x0 x5 x8 (wrap64 (x10 + 1)) x624000 x624001 (x624002 ++ [0])) else (none))) else (some (x624000, x624001, x624002))
end
def credenzaref07_Of.f (k : Nat) (l0 : List Int) (a1 : Int) : Option (Int × Int × List Int) := if 0 < (l0.length : Int) then (credenzaref07_Of.l0 k l0 a1 (wrap64 (rd l0 0)) (wrap64 (rd l0 0)) 0) else (none)
theorem credenzaref07_Of.mono_l : ∀ k, (∀ y0 y1 y2 y3 y4, LeO (credenzaref07_Of.l0 k y0 y1 y2 y3 y4) (credenzaref07_Of.l0 (k + 1) y0 y1 y2 y3 y4)) ∧ (∀ y0 y1 y2, LeO (credenzaref07_Of.j1 k y0 y1 y2) (credenzaref07_Of.j1 (k + 1) y0 y1 y2)) ∧ (∀ y0 y1 y2 y3 y4 y5 y6, LeO (credenzaref07_Of.l1 k y0 y1 y2 y3 y4 y5 y6) (credenzaref07_Of.l1 (k + 1) y0 y1 y2 y3 y4 y5 y6))
 | 0 => ⟨fun _ _ _ _ _ r h => by simp [credenzaref07_Of.l0] at h, fun _ _ _ r h => by simp [credenzaref07_Of.j1] at h, fun _ _ _ _ _ _ _ r h => by simp [credenzaref07_Of.l1] at h⟩
 | k + 1 => by
  obtain ⟨ih0, ih1, ih2⟩ := credenzaref07_Of.mono_l k
  refine ⟨?_, ?_, ?_⟩
  all_goals intros
  all_goals first | unfold credenzaref07_Of.l0 | unfold credenzaref07_Of.j1 | unfold credenzaref07_Of.l1
  all_goals repeat' first
   | (with_reducible exact ih0 _ _ _ _ _)
   | (with_reducible exact ih1 _ _ _)
   | (with_reducible exact ih2 _ _ _ _ _ _ _)
   | (with_reducible exact credenzaref07_Steps.mono _ _)
   | (with_reducible exact LeO.refl _)
   | (with_reducible exact LeO.none _)
   | (with_reducible refine LeO.ite ?_ ?_)
   | (with_reducible refine LeO.bind ?_ (fun _ => ?_))
theorem credenzaref07_Of.mono : ∀ a0 a1 k, LeO (credenzaref07_Of.f k a0 a1) (credenzaref07_Of.f (k + 1) a0 a1) := by
 intro a0 a1 k; obtain ⟨ih0, ih1, ih2⟩ := credenzaref07_Of.mono_l k; unfold credenzaref07_Of.f
 repeat' first
   | (with_reducible exact ih0 _ _ _ _ _)
   | (with_reducible exact ih1 _ _ _)
   | (with_reducible exact ih2 _ _ _ _ _ _ _)
   | (with_reducible exact credenzaref07_Steps.mono _ _)
   | (with_reducible exact LeO.refl _)
   | (with_reducible exact LeO.none _)
   | (with_reducible refine LeO.ite ?_ ?_)
   | (with_reducible refine LeO.bind ?_ (fun _ => ?_))
set_option maxHeartbeats 8000000 in
set_option maxRecDepth 100000 in
theorem credenzaref07_Of.calls (k : Nat) (A0 : Option Addr) (c0 : Nat) (l0 : List Int) (a1 : Int) (r1 : Int) (r2 : Int) (r3 : List Int) (w : World) (hr0 : Kd.C (Kd.int .i32) w A0 l0.length l0) (hc0 : l0.length ≤ c0) (h : credenzaref07_Of.f k l0 a1 = some (r1, r2, r3)) :
  Calls Try.prog 62 #[.slice A0 l0.length c0, .int .i64 a1] w fun e w' => ∃ v2_ : Value, e = .returned (.agg #[.int .i32 r1, .int .u32 r2, v2_]) ∧ Kd.R (Kd.int .i64) 3 w' w.heap.size (fun _ => True) v2_ r3 ∧ Below w.heap.size w w' := by
 have hu98 := Try.underlying98; have HR0 := Aside0.mk hr0; have HC0 := Aside0.mk hc0; clear hr0 hc0; have HB := Aside0.mk (Below.refl w.heap.size w); have H := h; clear h; unfold credenzaref07_Of.f at H; obtain ⟨c3, H⟩ := ifp H; have c3b0 : decide (0 < (l0.length : Int)) = true := decide_eq_true c3; have c3b1 : decide (0 < l0.length) = true := decide_eq_true (by omega); clear c3; have H' := Aside0.mk H; clear H
 go_enter Try.func62, Try.ntmps62
 go_wp2_with (first | ((with_reducible refine gate_dst (N := 4) rfl ?_); refine bxE 4 #[.int .i32 0, .int .u32 0, .slice none 0 0] 98 (h := ?_); intro gb612 hg w4 hbox hb; have BK612 := Aside0.mk (hbox); have GW612 := Aside0.mk ((by rw [hg]; exact (below_size bZ) : w.heap.size ≤ gb612)); have GE612 := Aside0.mk ((by rw [hg]; exact (below_size bZ) : w.heap.size ≤ gb612)); replace HB := Aside0.mk (below_step bZ hb); clear hb hbox hg; have p613 : 0 ≤ (0 : Int) := (by omega); have q613 : 0 < (l0.length : Int) := oD; obtain ⟨ad613, e613, hx613_0⟩ := Kd.at_int HR0.out 0 p613 q613; cases e613; have qi613 : (0 < l0.length) = True := eq_true (by omega); (try rw [show ((0 : Int)).toNat = 0 from rfl] at hx613_0); (try rw [Addr.add_zero'] at hx613_0); replace hx613_0 := cU HB hx613_0; replace p613 := eq_true p613; replace q613 := eq_true q613; have p614 : 0 ≤ (0 : Int) := (by omega); have q614 : 0 < (l0.length : Int) := oD; obtain ⟨ad614, e614, hx614_0⟩ := Kd.at_int HR0.out 0 p614 q614; obtain rfl : ad613 = ad614 := (by injection e614); have qi614 : (0 < l0.length) = True := eq_true (by omega); (try rw [show ((0 : Int)).toNat = 0 from rfl] at hx614_0); (try rw [Addr.add_zero'] at hx614_0); replace hx614_0 := cU HB hx614_0; replace p614 := eq_true p614; replace q614 := eq_true q614))
 repeat (go_quiet (fail); try go_wp2)
 go_loopg [5, 6, 7] k (fun kq v5 v6 v7 w' => ∃ (x5_1 : Int) (x6_1 : Int) (x7_1 : Int), v5 = .int .i64 x5_1 ∧ v6 = .int .i64 x6_1 ∧ v7 = .int .i64 x7_1 ∧ Aside0 (credenzaref07_Of.l0 kq l0 a1 x5_1 x6_1 x7_1 = some (r1, r2, r3)) ∧ Aside0 (kq ≤ k) ∧ Aside0 (w'.heap[gb612]? = some (.cells #[.int .i32 0, .int .u32 0, (.slice none 0 0)] 98 (0, 0))) ∧ Aside0 (Below w.heap.size w w'))
 case atStart => exact ⟨(wrap64 (rd l0 0)), (wrap64 (rd l0 0)), (0), rfl, rfl, rfl, H', ⟨Nat.le_refl _⟩, ⟨by (with_reducible repeat (first | refine blk_drewN ?_ _ | refine blk_drew ?_ | refine blk_alloc ?_ _)); exact BK612.out⟩, ⟨bZ⟩⟩
 case round =>
  clear H'; (try clear p2); (try clear c3); (try clear c3b0); (try clear c3b1); (try clear hx613_0); (try clear hx614_0); (try clear p613); (try clear p614); (try clear q613); (try clear q614); obtain ⟨x5_1, x6_1, x7_1, rfl, rfl, rfl, HA, HK1, BK612, HB⟩ := hrel
  cases gk with
  | zero => exact absurd HA.out (by simp [credenzaref07_Of.l0])
  | succ k1 =>
   have H := HA.out; clear HA; simp only [credenzaref07_Of.l0] at H
   by_cases c5 : x7_1 < (l0.length : Int)
   ·
    rw [if_pos c5] at H; have c5b0 : decide (x7_1 < (l0.length : Int)) = true := decide_eq_true c5; clear c5; obtain ⟨c6, H⟩ := ifp H; have c6b0 : decide (0 ≤ x7_1) = true := decide_eq_true c6; clear c6
    by_cases c7 : (wrap64 (rd l0 x7_1)) < x5_1
    ·
     rw [if_pos c7] at H; have c7b0 : decide ((wrap64 (rd l0 x7_1)) < x5_1) = true := decide_eq_true c7; clear c7
     by_cases c8 : (wrap64 (rd l0 x7_1)) > x6_1
     ·
      rw [if_pos c8] at H; have c8b0 : decide (x6_1 < (wrap64 (rd l0 x7_1))) = true := decide_eq_true c8; clear c8; have H' := Aside0.mk H; clear H; have p615 : 0 ≤ (x7_1 : Int) := oD; have q615 : x7_1 < (l0.length : Int) := oD; obtain ⟨ad615, e615, hx615_0⟩ := Kd.at_int HR0.out x7_1 p615 q615; obtain rfl : ad613 = ad615 := (by injection e615); replace hx615_0 := cU HB hx615_0; replace p615 := eq_true p615; replace q615 := eq_true q615; have p616 : 0 ≤ (x7_1 : Int) := oD; have q616 : x7_1 < (l0.length : Int) := oD; obtain ⟨ad616, e616, hx616_0⟩ := Kd.at_int HR0.out x7_1 p616 q616; obtain rfl : ad613 = ad616 := (by injection e616); replace hx616_0 := cU HB hx616_0; replace p616 := eq_true p616; replace q616 := eq_true q616; have p617 : 0 ≤ (x7_1 : Int) := oD; have q617 : x7_1 < (l0.length : Int) := oD; obtain ⟨ad617, e617, hx617_0⟩ := Kd.at_int HR0.out x7_1 p617 q617; obtain rfl : ad613 = ad617 := (by injection e617); replace hx617_0 := cU HB hx617_0; replace p617 := eq_true p617; replace q617 := eq_true q617; have p618 : 0 ≤ (x7_1 : Int) := oD; have q618 : x7_1 < (l0.length : Int) := oD; obtain ⟨ad618, e618, hx618_0⟩ := Kd.at_int HR0.out x7_1 p618 q618; obtain rfl : ad613 = ad618 := (by injection e618); replace hx618_0 := cU HB hx618_0; replace p618 := eq_true p618; replace q618 := eq_true q618
      go_wp2
      repeat (go_quiet (fail); try go_wp2)
      go_roundg k1
      case measure => have := HK1.out; omega
      case rel => exact ⟨(wrap64 (rd l0 x7_1)), (wrap64 (rd l0 x7_1)), (wrap64 (x7_1 + 1)), rfl, rfl, rfl, H', ⟨by have := HK1.out; omega⟩, ⟨by (with_reducible repeat (first | refine blk_drewN ?_ _ | refine blk_drew ?_ | refine blk_alloc ?_ _)); exact BK612.out⟩, ⟨bZ⟩⟩
     ·
      rw [if_neg c8] at H; have c8b0 : decide (x6_1 < (wrap64 (rd l0 x7_1))) = false := decide_eq_false c8; clear c8; have H' := Aside0.mk H; clear H; have p615 : 0 ≤ (x7_1 : Int) := oD; have q615 : x7_1 < (l0.length : Int) := oD; obtain ⟨ad615, e615, hx615_0⟩ := Kd.at_int HR0.out x7_1 p615 q615; obtain rfl : ad613 = ad615 := (by injection e615); replace hx615_0 := cU HB hx615_0; replace p615 := eq_true p615; replace q615 := eq_true q615; have p616 : 0 ≤ (x7_1 : Int) := oD; have q616 : x7_1 < (l0.length : Int) := oD; obtain ⟨ad616, e616, hx616_0⟩ := Kd.at_int HR0.out x7_1 p616 q616; obtain rfl : ad613 = ad616 := (by injection e616); replace hx616_0 := cU HB hx616_0; replace p616 := eq_true p616; replace q616 := eq_true q616; have p617 : 0 ≤ (x7_1 : Int) := oD; have q617 : x7_1 < (l0.length : Int) := oD; obtain ⟨ad617, e617, hx617_0⟩ := Kd.at_int HR0.out x7_1 p617 q617; obtain rfl : ad613 = ad617 := (by injection e617); replace hx617_0 := cU HB hx617_0; replace p617 := eq_true p617; replace q617 := eq_true q617
      go_wp2
      repeat (go_quiet (fail); try go_wp2)
      go_roundg k1
      case measure => have := HK1.out; omega
      case rel => exact ⟨(wrap64 (rd l0 x7_1)), (x6_1), (wrap64 (x7_1 + 1)), rfl, rfl, rfl, H', ⟨by have := HK1.out; omega⟩, ⟨by (with_reducible repeat (first | refine blk_drewN ?_ _ | refine blk_drew ?_ | refine blk_alloc ?_ _)); exact BK612.out⟩, ⟨bZ⟩⟩
    ·
     rw [if_neg c7] at H; have c7b0 : decide ((wrap64 (rd l0 x7_1)) < x5_1) = false := decide_eq_false c7; clear c7
     by_cases c9 : (wrap64 (rd l0 x7_1)) > x6_1
     ·
      rw [if_pos c9] at H; have c9b0 : decide (x6_1 < (wrap64 (rd l0 x7_1))) = true := decide_eq_true c9; clear c9; have H' := Aside0.mk H; clear H; have p615 : 0 ≤ (x7_1 : Int) := oD; have q615 : x7_1 < (l0.length : Int) := oD; obtain ⟨ad615, e615, hx615_0⟩ := Kd.at_int HR0.out x7_1 p615 q615; obtain rfl : ad613 = ad615 := (by injection e615); replace hx615_0 := cU HB hx615_0; replace p615 := eq_true p615; replace q615 := eq_true q615; have p619 : 0 ≤ (x7_1 : Int) := oD; have q619 : x7_1 < (l0.length : Int) := oD; obtain ⟨ad619, e619, hx619_0⟩ := Kd.at_int HR0.out x7_1 p619 q619; obtain rfl : ad613 = ad619 := (by injection e619); replace hx619_0 := cU HB hx619_0; replace p619 := eq_true p619; replace q619 := eq_true q619; have p620 : 0 ≤ (x7_1 : Int) := oD; have q620 : x7_1 < (l0.length : Int) := oD; obtain ⟨ad620, e620, hx620_0⟩ := Kd.at_int HR0.out x7_1 p620 q620; obtain rfl : ad613 = ad620 := (by injection e620); replace hx620_0 := cU HB hx620_0; replace p620 := eq_true p620; replace q620 := eq_true q620
      go_wp2
      repeat (go_quiet (fail); try go_wp2)
      go_roundg k1
      case measure => have := HK1.out; omega
      case rel => exact ⟨(x5_1), (wrap64 (rd l0 x7_1)), (wrap64 (x7_1 + 1)), rfl, rfl, rfl, H', ⟨by have := HK1.out; omega⟩, ⟨by (with_reducible repeat (first | refine blk_drewN ?_ _ | refine blk_drew ?_ | refine blk_alloc ?_ _)); exact BK612.out⟩, ⟨bZ⟩⟩
     ·
      rw [if_neg c9] at H; have c9b0 : decide (x6_1 < (wrap64 (rd l0 x7_1))) = false := decide_eq_false c9; clear c9; have H' := Aside0.mk H; clear H; have p615 : 0 ≤ (x7_1 : Int) := oD; have q615 : x7_1 < (l0.length : Int) := oD; obtain ⟨ad615, e615, hx615_0⟩ := Kd.at_int HR0.out x7_1 p615 q615; obtain rfl : ad613 = ad615 := (by injection e615); replace hx615_0 := cU HB hx615_0; replace p615 := eq_true p615; replace q615 := eq_true q615; have p619 : 0 ≤ (x7_1 : Int) := oD; have q619 : x7_1 < (l0.length : Int) := oD; obtain ⟨ad619, e619, hx619_0⟩ := Kd.at_int HR0.out x7_1 p619 q619; obtain rfl : ad613 = ad619 := (by injection e619); replace hx619_0 := cU HB hx619_0; replace p619 := eq_true p619; replace q619 := eq_true q619
      go_wp2
      repeat (go_quiet (fail); try go_wp2)
      go_roundg k1
      case measure => have := HK1.out; omega
      case rel => exact ⟨(x5_1), (x6_1), (wrap64 (x7_1 + 1)), rfl, rfl, rfl, H', ⟨by have := HK1.out; omega⟩, ⟨by (with_reducible repeat (first | refine blk_drewN ?_ _ | refine blk_drew ?_ | refine blk_alloc ?_ _)); exact BK612.out⟩, ⟨bZ⟩⟩
   ·
    rw [if_neg c5] at H; have c5b0 : decide (x7_1 < (l0.length : Int)) = false := decide_eq_false c5; clear c5; obtain ⟨t621, A10, H⟩ := bnd H; obtain ⟨c11, H⟩ := ifn H; have c11b0 : (t621 == 0) = false := beq_eq_false_iff_ne.mpr c11; have c11b1 : (t621 != 0) = true := bne_iff_ne.mpr c11; obtain ⟨t622, A12, H⟩ := bnd H; have HC13 := Aside0.mk H; clear H
    go_upto_if 63 with (first | (go_at_call 81; (with_reducible refine (credenzaref07_Steps.calls k1 a1 t621 _ A10.out).mono ?_); rintro e w' ⟨rfl, ⟨nd, rfl⟩⟩; (try clear A10); (try first | exact ⟨rfl, _, World.drewN_drewN _ _ _⟩ | exact ⟨rfl, _, Eq.trans (World.drewN_drewN _ _ _) (congrArg (World.drewN _) (Nat.add_assoc _ _ _))⟩)) | (go_at_call 81; (with_reducible refine (credenzaref07_Steps.calls k1 a1 t622 _ A12.out).mono ?_); rintro e w' ⟨rfl, ⟨nd, rfl⟩⟩; (try clear A12); (try first | exact ⟨rfl, _, World.drewN_drewN _ _ _⟩ | exact ⟨rfl, _, Eq.trans (World.drewN_drewN _ _ _) (congrArg (World.drewN _) (Nat.add_assoc _ _ _))⟩)))
    repeat (go_quiet (fail); try go_wp2)
    (try simp only [Act.put, List.setIfInBounds_toArray, List.set_cons_zero, List.set_cons_succ])
    go_cut [8] (fun v8 wc => ∃ (kq : Nat) (x8_12 : Int), v8 = .int .i64 x8_12 ∧ Aside0 (credenzaref07_Of.j1 kq l0 x5_1 x8_12 = some (r1, r2, r3)) ∧ Aside0 (kq ≤ k1) ∧ Aside0 (wc.heap[gb612]? = some (.cells #[.int .i32 0, .int .u32 0, (.slice none 0 0)] 98 (0, 0))) ∧ Aside0 (Below w.heap.size w wc))
    case first =>
     have H := HC13.out; clear HC13
     by_cases c14 : (wrap64 ((wrap64 (Int.tdiv (wrap64 (x6_1 - x5_1)) t621)) * t622)) < (wrap64 (x6_1 - x5_1))
     ·
      rw [if_pos c14] at H; have c14b0 : decide ((wrap64 ((wrap64 (Int.tdiv (wrap64 (x6_1 - x5_1)) t621)) * t622)) < (wrap64 (x6_1 - x5_1))) = true := decide_eq_true c14; clear c14; (first | rw [c14b0] | (simp only [i64_w, i32_w]; rw [c14b0]) | skip); have H' := Aside0.mk H; clear H
      go_wp2
      repeat (go_quiet (fail); try go_wp2)
      go_meet
      case rel => exact ⟨_, (wrap64 ((wrap64 (Int.tdiv (wrap64 (x6_1 - x5_1)) t621)) + 1)), rfl, H', ⟨by have := HK1.out; first | omega | exact Nat.le_refl _⟩, ⟨by (with_reducible repeat (first | refine blk_drewN ?_ _ | refine blk_drew ?_ | refine blk_alloc ?_ _)); exact BK612.out⟩, ⟨bZ⟩⟩
     ·
      rw [if_neg c14] at H; have c14b0 : decide ((wrap64 ((wrap64 (Int.tdiv (wrap64 (x6_1 - x5_1)) t621)) * t622)) < (wrap64 (x6_1 - x5_1))) = false := decide_eq_false c14; clear c14; (first | rw [c14b0] | (simp only [i64_w, i32_w]; rw [c14b0]) | skip); have H' := Aside0.mk H; clear H
      go_wp2
      repeat (go_quiet (fail); try go_wp2)
      go_meet
      case rel => exact ⟨_, (wrap64 (Int.tdiv (wrap64 (x6_1 - x5_1)) t621)), rfl, H', ⟨by have := HK1.out; first | omega | exact Nat.le_refl _⟩, ⟨by (with_reducible repeat (first | refine blk_drewN ?_ _ | refine blk_drew ?_ | refine blk_alloc ?_ _)); exact BK612.out⟩, ⟨bZ⟩⟩
    case rest =>
     clear HC13; (try clear c1); (try clear p2); (try clear c3); (try clear c3b0); (try clear c3b1); (try clear c5); (try clear c5b0); (try clear c6); (try clear c6b0); (try clear p6); (try clear q6); (try clear hx6); (try clear qi6); (try clear c7); (try clear c7b0); (try clear c8); (try clear c8b0); (try clear c9); (try clear c9b0); (try clear c11); (try clear c11b0); (try clear c11b1); (try clear c14); (try clear c14b0); (try clear hx613_0); (try clear hx614_0); (try clear hx615_0); (try clear hx616_0); (try clear hx617_0); (try clear hx618_0); (try clear hx619_0); (try clear hx620_0); (try clear p2); (try clear p613); (try clear p614); (try clear p615); (try clear p616); (try clear p617); (try clear p618); (try clear p619); (try clear p620); (try clear q613); (try clear q614); (try clear q615); (try clear q616); (try clear q617); (try clear q618); (try clear q619); (try clear q620); obtain ⟨kq, x8_12, rfl, HA, HJ12, BK612, HB⟩ := hcut
     cases kq with
     | zero => exact absurd HA.out (by simp [credenzaref07_Of.j1])
     | succ kj12 =>
      have H := HA.out; clear HA; simp only [credenzaref07_Of.j1] at H; have H' := Aside0.mk H; clear H
      go_wp2_with (first | ((with_reducible refine gate_dst (N := 9) rfl ?_); refine bxE 9 #[.int .i32 0, .int .u32 0, .slice none 0 0] 98 (h := ?_); intro gb623 hg w15 hbox hb; have BK623 := Aside0.mk (hbox); have GW623 := Aside0.mk ((by rw [hg]; exact (below_size bZ) : w.heap.size ≤ gb623)); have GE623 := Aside0.mk ((by rw [hg]; exact (below_size bZ) : w.heap.size ≤ gb623)); replace HB := Aside0.mk (below_step bZ hb); have NB612_623 := Aside0.mk ((by rw [hg]; exact Nat.ne_of_lt (blk_lt (g := gb612) (o := .cells #[.int .i32 0, .int .u32 0, .slice none 0 0] 98 (0, 0)) (by (with_reducible repeat (first | refine blk_drewN ?_ _ | refine blk_drew ?_ | refine blk_alloc ?_ _)); exact BK612.out)) : gb612 ≠ gb623)); have NB623_612 := Aside0.mk ((by rw [hg]; exact Nat.ne_of_gt (blk_lt (g := gb612) (o := .cells #[.int .i32 0, .int .u32 0, .slice none 0 0] 98 (0, 0)) (by (with_reducible repeat (first | refine blk_drewN ?_ _ | refine blk_drew ?_ | refine blk_alloc ?_ _)); exact BK612.out)) : gb623 ≠ gb612)); replace BK612 := Aside0.mk (blk_below (g := gb612) (o := .cells #[.int .i32 0, .int .u32 0, .slice none 0 0] 98 (0, 0)) (by (with_reducible repeat (first | refine blk_drewN ?_ _ | refine blk_drew ?_ | refine blk_alloc ?_ _)); exact BK612.out) hb); clear hb hbox hg; have hnb16 := NB623_612.out; have hnc16 := NB612_623.out; have hz17 := bx3 BK623.out))
      repeat (go_quiet (fail); try go_wp2)
      go_loopg [10] kj12 (fun kq v10 w' => ∃ (x10_3 : Int) (x624002_3 : List Int) (u624002 : Value), v10 = .int .i64 x10_3 ∧ Aside0 (credenzaref07_Of.l1 kq l0 x5_1 x8_12 x10_3 (wrap32 (x5_1)) ((x8_12) % 4294967296) x624002_3 = some (r1, r2, r3)) ∧ Aside0 (kq ≤ kj12) ∧ Aside0 (Kd.R (Kd.int .i64) 3 w' w.heap.size (fun _ => True) u624002 x624002_3) ∧ Aside0 (w'.heap[gb612]? = some (.cells #[.int .i32 0, .int .u32 0, (.slice none 0 0)] 98 (0, 0))) ∧ Aside0 (w'.heap[gb623]? = some (.cells #[.int .i32 (wrap32 (x5_1)), .int .u32 ((x8_12) % 4294967296), u624002] 98 (0, 0))) ∧ Aside0 (Below w.heap.size w w'))
      case atStart => exact ⟨(0), (([] : List Int)), (.slice none 0 0), rfl, H', ⟨Nat.le_refl _⟩, ⟨by first | exact Kd.R_nil _ _ _ _ _ | exact Kd.N_nil _ _ _ _ _ | exact Kd.V_nil _ _ _ _ _ | exact Kd.Q_nil _ _ _ _ _ | exact Kd.S_nil _ _ _ _ _⟩, ⟨by (with_reducible repeat (first | refine blk_drewN ?_ _ | refine blk_drew ?_ | refine blk_alloc ?_ _)); refine blk_far ?_ NB612_623.out _; (with_reducible repeat (first | refine blk_drewN ?_ _ | refine blk_drew ?_ | refine blk_alloc ?_ _)); refine blk_far ?_ NB612_623.out _; (with_reducible repeat (first | refine blk_drewN ?_ _ | refine blk_drew ?_ | refine blk_alloc ?_ _)); refine blk_far ?_ NB612_623.out _; (with_reducible repeat (first | refine blk_drewN ?_ _ | refine blk_drew ?_ | refine blk_alloc ?_ _)); exact BK612.out⟩, ⟨by (with_reducible repeat (first | refine blk_drewN ?_ _ | refine blk_drew ?_ | refine blk_alloc ?_ _)); refine blk_put (cs := #[.int .i32 (wrap32 (x5_1)), .int .u32 ((x8_12) % 4294967296), .slice none 0 0]) ?_ 2 _ rfl; (with_reducible repeat (first | refine blk_drewN ?_ _ | refine blk_drew ?_ | refine blk_alloc ?_ _)); refine blk_put (cs := #[.int .i32 (wrap32 (x5_1)), .int .u32 0, .slice none 0 0]) ?_ 1 _ rfl; (with_reducible repeat (first | refine blk_drewN ?_ _ | refine blk_drew ?_ | refine blk_alloc ?_ _)); refine blk_put (cs := #[.int .i32 0, .int .u32 0, .slice none 0 0]) ?_ 0 _ rfl; (with_reducible repeat (first | refine blk_drewN ?_ _ | refine blk_drew ?_ | refine blk_alloc ?_ _)); exact BK623.out⟩, ⟨bZ⟩⟩
      case round =>
       clear H'; (try clear c1); (try clear p2); (try clear c3); (try clear c3b0); (try clear c3b1); (try clear p3); (try clear c5); (try clear c5b0); (try clear c6); (try clear c6b0); (try clear p6); (try clear q6); (try clear hx6); (try clear qi6); (try clear c7); (try clear c7b0); (try clear c8); (try clear c8b0); (try clear c9); (try clear c9b0); (try clear c11); (try clear c11b0); (try clear c11b1); (try clear c14); (try clear c14b0); (try clear c16); (try clear hz17); (try clear hx613_0); (try clear hx614_0); (try clear hx615_0); (try clear hx616_0); (try clear hx617_0); (try clear hx618_0); (try clear hx619_0); (try clear hx620_0); (try clear p2); (try clear p6); (try clear p613); (try clear p614); (try clear p615); (try clear p616); (try clear p617); (try clear p618); (try clear p619); (try clear p620); (try clear q6); (try clear q613); (try clear q614); (try clear q615); (try clear q616); (try clear q617); (try clear q618); (try clear q619); (try clear q620); obtain ⟨x10_3, x624002_3, u624002, rfl, HA, HK3, HO_624002, BK612, BK623, HB⟩ := hrel
       cases gk with
       | zero => exact absurd HA.out (by simp [credenzaref07_Of.l1])
       | succ k3 =>
        have H := HA.out; clear HA; simp only [credenzaref07_Of.l1] at H
        by_cases c18 : x10_3 < (l0.length : Int)
        ·
         rw [if_pos c18] at H; have c18b0 : decide (x10_3 < (l0.length : Int)) = true := decide_eq_true c18; clear c18
         by_cases c19 : x8_12 > 0
         ·
          rw [if_pos c19] at H; have c19b0 : decide (0 < x8_12) = true := decide_eq_true c19; clear c19; obtain ⟨c20, H⟩ := ifp H; have c20b0 : decide (0 ≤ x10_3) = true := decide_eq_true c20; clear c20; obtain ⟨t625, A21, H⟩ := bnd H; obtain ⟨c22, H⟩ := ifp H; have LMc22 := Aside0.mk c22; clear c22; obtain ⟨y626, hy626⟩ : ∃ y_ : List Int, y_ = (x624002_3 ++ [t625]) := ⟨_, rfl⟩; (replace H : (credenzaref07_Of.l1 k3 l0 x5_1 x8_12 (wrap64 (x10_3 + 1)) (wrap32 (x5_1)) ((x8_12) % 4294967296) y626) = some (r1, r2, r3) := by rw [hy626]; exact H); have Ny626 := Aside0.mk hy626; clear hy626; have H' := Aside0.mk H; clear H; have p624 : 0 ≤ (x10_3 : Int) := oD; have q624 : x10_3 < (l0.length : Int) := oD; obtain ⟨ad624, e624, hx624_0⟩ := Kd.at_int HR0.out x10_3 p624 q624; obtain rfl : ad613 = ad624 := (by injection e624); replace hx624_0 := cU HB hx624_0; replace p624 := eq_true p624; replace q624 := eq_true q624
          go_wp2_with (first | (go_at_call 93; (with_reducible refine (credenzaref01_Ratio.calls (wrap64 ((wrap64 (rd l0 x10_3)) - x5_1)) x8_12 t625 _ A21.out).mono ?_); rintro e w' ⟨rfl, ⟨nd, rfl⟩⟩; (try first | exact ⟨rfl, _, World.drewN_drewN _ _ _⟩ | exact ⟨rfl, _, Eq.trans (World.drewN_drewN _ _ _) (congrArg (World.drewN _) (Nat.add_assoc _ _ _))⟩); have hnb23 := NB623_612.out; have hnc23 := NB612_623.out; have hz24 := bx3 BK623.out) | ((with_reducible refine gate_builtin (b := .append) (xs := #[.tmp 89, .tmp 91]) rfl ?_); at_builtin; refine Kd.R_append (Kd.int .i64) (w0 := w) w.heap.size rfl (.tmp 89) (.tmp 91) 45 3 (.int .i64 0) 8 rfl Try.underlying45 info3 rfl (by decide) (by omega) u624002 x624002_3 t625 [.int .i64 t625] (fun _ => True) (fun _ => False) rfl rfl ?aP (fun _ hk => hk.elim) ?aF ?aO ?aB ?aS ?aL ?_; (case aP => exact rfl); (case aB => exact bZ); (case aF => exact (fun _ _ => trivial)); (case aO => exact (by (with_reducible repeat (first | apply Kd.R_alloc | apply Kd.R_drewN | apply Kd.R_drew)); exact HO_624002.out)); (case aS => exact (below_size bZ)); (case aL => have := LMc22.out; omega); intro v627 w25 ho hb hg hat; rw [← Ny626.out] at ho; have n0_ := Aside0.mk (blk_grown (g := gb612) (o := .cells #[.int .i32 0, .int .u32 0, .slice none 0 0] 98 (0, 0)) (by (with_reducible repeat (first | refine blk_drewN ?_ _ | refine blk_drew ?_ | refine blk_alloc ?_ _)); exact BK612.out) hg (Kd.R_ne HO_624002.out BK612.out (by decide))); have n1_ := Aside0.mk (blk_grown (g := gb623) (o := .cells #[.int .i32 (wrap32 (x5_1)), .int .u32 ((x8_12) % 4294967296), u624002] 98 (0, 0)) (by (with_reducible repeat (first | refine blk_drewN ?_ _ | refine blk_drew ?_ | refine blk_alloc ?_ _)); exact BK623.out) hg (Kd.R_ne HO_624002.out BK623.out (by decide))); have n2_ := Aside0.mk (hb); have n3_ := Aside0.mk (ho); clear BK612; clear BK623; clear HB; clear HO_624002; have BK612 := n0_; have BK623 := n1_; have HB := n2_; have HO628 := n3_; clear n0_ n1_ n2_ n3_; clear ho hb hg hat; obtain ⟨Ao26, co26, eo26⟩ := Kd.R_slice HO628.out; subst eo26; have hz27 := bx3 BK623.out))
          repeat (go_quiet (fail); try go_wp2)
          go_roundg k3
          case measure => have := HK1.out; have := HJ12.out; have := HK3.out; omega
          case rel => exact ⟨(wrap64 (x10_3 + 1)), (y626), (.slice Ao26 y626.length co26), rfl, H', ⟨by have := HK1.out; have := HJ12.out; have := HK3.out; omega⟩, ⟨by (with_reducible repeat (first | apply Kd.R_alloc | apply Kd.R_drewN | apply Kd.R_drew)); exact Kd.R_mono (Kd.R_far (p := ⟨gb623, 2, none⟩) (Kd.R_types HO628.out BK623.out (by decide)) (fun _ hk => hk.2) (.slice Ao26 y626.length co26)) (fun _ hk => trivial)⟩, ⟨by (with_reducible repeat (first | refine blk_drewN ?_ _ | refine blk_drew ?_ | refine blk_alloc ?_ _)); refine blk_far ?_ NB612_623.out _; (with_reducible repeat (first | refine blk_drewN ?_ _ | refine blk_drew ?_ | refine blk_alloc ?_ _)); exact BK612.out⟩, ⟨by (with_reducible repeat (first | refine blk_drewN ?_ _ | refine blk_drew ?_ | refine blk_alloc ?_ _)); refine blk_put (cs := #[.int .i32 (wrap32 (x5_1)), .int .u32 ((x8_12) % 4294967296), u624002]) ?_ 2 _ rfl; (with_reducible repeat (first | refine blk_drewN ?_ _ | refine blk_drew ?_ | refine blk_alloc ?_ _)); exact BK623.out⟩, ⟨bZ⟩⟩
         ·
          rw [if_neg c19] at H; have c19b0 : decide (0 < x8_12) = false := decide_eq_false c19; clear c19; obtain ⟨c28, H⟩ := ifp H; have LMc28 := Aside0.mk c28; clear c28; obtain ⟨y629, hy629⟩ : ∃ y_ : List Int, y_ = (x624002_3 ++ [0]) := ⟨_, rfl⟩; (replace H : (credenzaref07_Of.l1 k3 l0 x5_1 x8_12 (wrap64 (x10_3 + 1)) (wrap32 (x5_1)) ((x8_12) % 4294967296) y629) = some (r1, r2, r3) := by rw [hy629]; exact H); have Ny629 := Aside0.mk hy629; clear hy629; have H' := Aside0.mk H; clear H; have hnb29 := NB623_612.out; have hnc29 := NB612_623.out; have hz30 := bx3 BK623.out
          go_wp2_with (first | ((with_reducible refine gate_builtin (b := .append) (xs := #[.tmp 89, .tmp 91]) rfl ?_); at_builtin; refine Kd.R_append (Kd.int .i64) (w0 := w) w.heap.size rfl (.tmp 89) (.tmp 91) 45 3 (.int .i64 0) 8 rfl Try.underlying45 info3 rfl (by decide) (by omega) u624002 x624002_3 0 [.int .i64 0] (fun _ => True) (fun _ => False) rfl rfl ?aP (fun _ hk => hk.elim) ?aF ?aO ?aB ?aS ?aL ?_; (case aP => exact rfl); (case aB => exact bZ); (case aF => exact (fun _ _ => trivial)); (case aO => exact (by (with_reducible repeat (first | apply Kd.R_alloc | apply Kd.R_drewN | apply Kd.R_drew)); exact HO_624002.out)); (case aS => exact (below_size bZ)); (case aL => have := LMc28.out; omega); intro v630 w31 ho hb hg hat; rw [← Ny629.out] at ho; have n0_ := Aside0.mk (blk_grown (g := gb612) (o := .cells #[.int .i32 0, .int .u32 0, .slice none 0 0] 98 (0, 0)) (by (with_reducible repeat (first | refine blk_drewN ?_ _ | refine blk_drew ?_ | refine blk_alloc ?_ _)); exact BK612.out) hg (Kd.R_ne HO_624002.out BK612.out (by decide))); have n1_ := Aside0.mk (blk_grown (g := gb623) (o := .cells #[.int .i32 (wrap32 (x5_1)), .int .u32 ((x8_12) % 4294967296), u624002] 98 (0, 0)) (by (with_reducible repeat (first | refine blk_drewN ?_ _ | refine blk_drew ?_ | refine blk_alloc ?_ _)); exact BK623.out) hg (Kd.R_ne HO_624002.out BK623.out (by decide))); have n2_ := Aside0.mk (hb); have n3_ := Aside0.mk (ho); clear BK612; clear BK623; clear HB; clear HO_624002; have BK612 := n0_; have BK623 := n1_; have HB := n2_; have HO631 := n3_; clear n0_ n1_ n2_ n3_; clear ho hb hg hat; obtain ⟨Ao32, co32, eo32⟩ := Kd.R_slice HO631.out; subst eo32; have hz33 := bx3 BK623.out))
          repeat (go_quiet (fail); try go_wp2)
          go_roundg k3
          case measure => have := HK1.out; have := HJ12.out; have := HK3.out; omega
          case rel => exact ⟨(wrap64 (x10_3 + 1)), (y629), (.slice Ao32 y629.length co32), rfl, H', ⟨by have := HK1.out; have := HJ12.out; have := HK3.out; omega⟩, ⟨by (with_reducible repeat (first | apply Kd.R_alloc | apply Kd.R_drewN | apply Kd.R_drew)); exact Kd.R_mono (Kd.R_far (p := ⟨gb623, 2, none⟩) (Kd.R_types HO631.out BK623.out (by decide)) (fun _ hk => hk.2) (.slice Ao32 y629.length co32)) (fun _ hk => trivial)⟩, ⟨by (with_reducible repeat (first | refine blk_drewN ?_ _ | refine blk_drew ?_ | refine blk_alloc ?_ _)); refine blk_far ?_ NB612_623.out _; (with_reducible repeat (first | refine blk_drewN ?_ _ | refine blk_drew ?_ | refine blk_alloc ?_ _)); exact BK612.out⟩, ⟨by (with_reducible repeat (first | refine blk_drewN ?_ _ | refine blk_drew ?_ | refine blk_alloc ?_ _)); refine blk_put (cs := #[.int .i32 (wrap32 (x5_1)), .int .u32 ((x8_12) % 4294967296), u624002]) ?_ 2 _ rfl; (with_reducible repeat (first | refine blk_drewN ?_ _ | refine blk_drew ?_ | refine blk_alloc ?_ _)); exact BK623.out⟩, ⟨bZ⟩⟩
        ·
         rw [if_neg c18] at H; have c18b0 : decide (x10_3 < (l0.length : Int)) = false := decide_eq_false c18; clear c18; simp only [Option.some.injEq, Prod.mk.injEq] at H; obtain ⟨rfl, rfl, rfl⟩ := H; have hnb34 := NB623_612.out; have hnc34 := NB612_623.out; have hz35 := bx3 BK623.out; have hz36 := bx3 BK612.out; obtain ⟨Ao37, co37, eo37⟩ := Kd.R_slice HO_624002.out; subst eo37
         go_wp2
         repeat (go_quiet (fail); try go_wp2)
         refine bodyPost_ret (results_cell_row rfl _ _ gb612 98 #[.int .i32 (wrap32 (x5_1)), .int .u32 ((x8_12) % 4294967296), .slice Ao37 x624002_3.length co37] (0, 0) _ rfl (blk_put (blk_put (blk_put BK612.out 0 _ rfl) 1 _ rfl) 2 _ rfl) Try.underlying98 rfl (by kernel_rfl)) rfl ?_
         exact ⟨_, rfl, by (with_reducible repeat (first | apply Kd.R_alloc | apply Kd.R_drewN | apply Kd.R_drew)); exact Kd.R_mono (Kd.R_far (p := ⟨gb612, 2, none⟩) (Kd.R_far (p := ⟨gb612, 1, none⟩) (Kd.R_far (p := ⟨gb612, 0, none⟩) (Kd.R_types HO_624002.out BK612.out (by decide)) (fun _ hk => hk.2) (.int .i32 (wrap32 (x5_1)))) (fun _ hk => hk.2) (.int .u32 ((x8_12) % 4294967296))) (fun _ hk => hk.2) (.slice Ao37 x624002_3.length co37)) (fun _ hk => trivial), bZ⟩

end Go.Proofs.Ytekenaclmplocaa.PPageQuantizes
