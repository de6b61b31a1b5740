-- Written by a program of this session (wip/tools/mkprint.py over the kit's print).
import Derived.Test.YtekenaclmplocaaPPageParsesx0
namespace Go.Proofs.Ytekenaclmplocaa.PPageParses
open Go.RowKit Go.Proofs.YtekenaclmplocaaW.PrintWords Go.Proofs.YtekenaclmplocaaW.PrintLast Go.Proofs.YtekenaclmplocaaW.PrintMore
attribute [local go_sem] max2_int min2_int max_two min_two max_three min_three max_four min_four
set_option linter.unusedVariables false
set_option maxHeartbeats 8000000
set_option maxRecDepth 100000
set_option linter.unusedSimpArgs false

def F53.l0 : Nat → List Int → List Int → Int → Option (Bool)
 | 0, _, _, _ => none
 | k + 1, x0, x1, x5 => if x5 < (x0.length : Int) then (if 0 ≤ x5 then (if x5 < (x1.length : Int) then (if (rd x0 x5) = (rd x1 x5) then (F53.l0 k x0 x1 (wrap64 (x5 + 1))) else (some false)) else (none)) else (none)) else (some true)
def F53.f (k : Nat) (l0 : List Int) (l1 : List Int) : Option (Bool) := if (l0.length : Int) = (l1.length : Int) then (F53.l0 k l0 l1 0) else (some false)
theorem F53.mono_l : ∀ k, (∀ y0 y1 y2, LeO (F53.l0 k y0 y1 y2) (F53.l0 (k + 1) y0 y1 y2))
 | 0 => fun _ _ _ r h => by simp [F53.l0] at h
 | k + 1 => by
  have ih0 := F53.mono_l k
  ·
   intro y0 y1 y2; unfold F53.l0
   repeat' with_reducible first | exact ih0 _ _ _ | exact LeO.refl _ | exact LeO.none _ | refine LeO.ite ?_ ?_ | refine LeO.bind ?_ (fun _ => ?_)
theorem F53.mono : ∀ a0 a1 k, LeO (F53.f k a0 a1) (F53.f (k + 1) a0 a1) := by
 intro a0 a1 k; have ih0 := F53.mono_l k; unfold F53.f
 repeat' with_reducible first | exact ih0 _ _ _ | exact LeO.refl _ | exact LeO.none _ | refine LeO.ite ?_ ?_ | refine LeO.bind ?_ (fun _ => ?_)
theorem F53.calls (k : Nat) (A0 : Option Addr) (c0 : Nat) (l0 : List Int) (A1 : Option Addr) (c1 : Nat) (l1 : List Int) (r : Bool) (w : World) (hr0 : Kd.C (Kd.int .i32) w A0 l0.length l0) (hc0 : l0.length ≤ c0) (hr1 : Kd.C (Kd.int .i32) w A1 l1.length l1) (hc1 : l1.length ≤ c1) (h : F53.f k l0 l1 = some r) :
  Calls Try.prog 53 #[.slice A0 l0.length c0, .slice A1 l1.length c1] w fun e w' => e = .returned (.bool r) ∧ Drawn0 w w' := by
 have HR0 := aM hr0; have HC0 := aM hc0; clear hr0 hc0; have HR1 := aM hr1; have HC1 := aM hc1; clear hr1 hc1; have H := h; clear h; unfold F53.f at H
 by_cases c3 : (l0.length : Int) = (l1.length : Int)
 ·
  rw [if_pos c3] at H; have c3b0 : ((l0.length : Int) == (l1.length : Int)) = true := beq_iff_eq.mpr c3; have c3b1 : ((l0.length : Int) != (l1.length : Int)) = false := bne_eq_false_iff_eq.mpr c3; (have c3b2 : (l0.length == l1.length) = true := by first | simpa using c3 | (simp at c3 ⊢; omega)); clear c3; have H' := aM H; clear H
  go_enter Try.func53, Try.ntmps53
  go_wp2
  repeat (go_quiet (fail); try go_wp2)
  go_loopg [5] k (fun kq v5 w' => ∃ (x5_1 : Int), v5 = .int .i64 x5_1 ∧ Aside0 (F53.l0 kq l0 l1 x5_1 = some r) ∧ Aside0 (kq ≤ k) ∧ Drawn0 w w')
  case atStart => exact ⟨(0), rfl, H', ⟨Nat.le_refl _⟩, dR⟩
  case round =>
   clear H'; (try clear c1); (try clear p2); (try clear c3); (try clear c3b0); (try clear c3b1); (try clear c3b2); obtain ⟨x5_1, rfl, HA, HK1, ⟨m1, rfl⟩⟩ := hrel
   cases gk with
   | zero => exact absurd HA.out (by simp [F53.l0])
   | succ k1 =>
    have H := HA.out; clear HA; simp only [F53.l0] at H
    by_cases c4 : x5_1 < (l0.length : Int)
    ·
     rw [if_pos c4] at H; have c4b0 : decide (x5_1 < (l0.length : Int)) = true := dT c4; clear c4; obtain ⟨c5, H⟩ := ifp H; have c5b0 : decide (0 ≤ x5_1) = true := dT c5; clear c5; obtain ⟨c6, H⟩ := ifp H; have c6b0 : decide (x5_1 < (l1.length : Int)) = true := dT c6; clear c6
     by_cases c7 : (rd l0 x5_1) = (rd l1 x5_1)
     ·
      rw [if_pos c7] at H; have c7b0 : ((rd l0 x5_1) == (rd l1 x5_1)) = true := beq_iff_eq.mpr c7; have c7b1 : ((rd l0 x5_1) != (rd l1 x5_1)) = false := bne_eq_false_iff_eq.mpr c7; clear c7; have H' := aM H; clear H; have p493 : 0 ≤ (x5_1 : Int) := oD; have q493 : x5_1 < (l0.length : Int) := oD; obtain ⟨ad493, e493, hx493_0⟩ := Kd.at_int HR0.out x5_1 p493 q493
      cases e493
      replace p493 := eq_true p493; replace q493 := eq_true q493; have p494 : 0 ≤ (x5_1 : Int) := oD; have q494 : x5_1 < (l1.length : Int) := oD; obtain ⟨ad494, e494, hx494_0⟩ := Kd.at_int HR1.out x5_1 p494 q494
      cases e494
      replace p494 := eq_true p494; replace q494 := eq_true q494
      go_wp2
      repeat (go_quiet (fail); try go_wp2)
      go_roundg k1
      case measure => have := HK1.out; omega
      case rel => exact ⟨(wrap64 (x5_1 + 1)), rfl, H', ⟨by have := HK1.out; omega⟩, dR⟩
     ·
      rw [if_neg c7] at H; have c7b0 : ((rd l0 x5_1) == (rd l1 x5_1)) = false := beq_eq_false_iff_ne.mpr c7; have c7b1 : ((rd l0 x5_1) != (rd l1 x5_1)) = true := bne_iff_ne.mpr c7; obtain rfl := oI H; have p493 : 0 ≤ (x5_1 : Int) := oD; have q493 : x5_1 < (l0.length : Int) := oD; obtain ⟨ad493, e493, hx493_0⟩ := Kd.at_int HR0.out x5_1 p493 q493
      cases e493
      replace p493 := eq_true p493; replace q493 := eq_true q493; have p494 : 0 ≤ (x5_1 : Int) := oD; have q494 : x5_1 < (l1.length : Int) := oD; obtain ⟨ad494, e494, hx494_0⟩ := Kd.at_int HR1.out x5_1 p494 q494
      cases e494
      replace p494 := eq_true p494; replace q494 := eq_true q494
      go_wp2
      repeat (go_quiet (fail); try go_wp2)
      go_ret
      exact ⟨rfl, dR⟩
    ·
     rw [if_neg c4] at H; have c4b0 : decide (x5_1 < (l0.length : Int)) = false := dF c4; clear c4; obtain rfl := oI H
     go_wp2
     repeat (go_quiet (fail); try go_wp2)
     go_ret
     exact ⟨rfl, dR⟩
 ·
  rw [if_neg c3] at H; have c3b0 : ((l0.length : Int) == (l1.length : Int)) = false := beq_eq_false_iff_ne.mpr c3; have c3b1 : ((l0.length : Int) != (l1.length : Int)) = true := bne_iff_ne.mpr c3; (have c3b2 : (l0.length == l1.length) = false := by first | simpa using c3 | (simp at c3 ⊢; omega)); obtain rfl := oI H
  go_enter Try.func53, Try.ntmps53
  go_wp2
  repeat (go_quiet (fail); try go_wp2)
  go_ret
  exact ⟨rfl, dR⟩

def F109.f (a0 : Int) (a1 : Int) (a2 : Int) : Option (Int) := if a0 < a1 then (some a1) else (if a0 > a2 then (some a2) else (some a0))
theorem F109.calls (a0 : Int) (a1 : Int) (a2 : Int) (r : Int) (w : World) (h : F109.f a0 a1 a2 = some r) :
  Calls Try.prog 109 #[.int .i64 a0, .int .i64 a1, .int .i64 a2] w fun e w' => e = .returned (.int .i64 r) ∧ Drawn0 w w' := by
 have H := h; clear h; unfold F109.f at H
 by_cases c4 : a0 < a1
 ·
  rw [if_pos c4] at H; have c4b0 : decide (a0 < a1) = true := dT c4; clear c4; obtain rfl := oI H
  go_enter Try.func109, Try.ntmps109
  go_wp2
  go_ret
  exact ⟨rfl, dR⟩
 ·
  rw [if_neg c4] at H; have c4b0 : decide (a0 < a1) = false := dF c4; clear c4
  by_cases c5 : a0 > a2
  ·
   rw [if_pos c5] at H; have c5b0 : decide (a2 < a0) = true := dT c5; clear c5; obtain rfl := oI H
   go_enter Try.func109, Try.ntmps109
   go_wp2
   go_ret
   exact ⟨rfl, dR⟩
  ·
   rw [if_neg c5] at H; have c5b0 : decide (a2 < a0) = false := dF c5; clear c5; obtain rfl := oI H
   go_enter Try.func109, Try.ntmps109
   go_wp2
   go_ret
   exact ⟨rfl, dR⟩

def F100.f (a0 : Int) : Option (Int) := (F109.f a0 (-2147483648) 2147483647).bind fun t495 => (some (wrap32 (t495)))
theorem F100.calls (a0 : Int) (r : Int) (w : World) (h : F100.f a0 = some r) :
  Calls Try.prog 100 #[.int .i64 a0] w fun e w' => e = .returned (.int .i32 r) ∧ Drawn0 w w' := by
 have H := h; clear h; unfold F100.f at H; obtain ⟨t495, A2, H⟩ := bnd H; obtain rfl := oI H
 go_enter Try.func100, Try.ntmps100
 go_wp2_with (first | ((with_reducible refine gate_callee (f := 109) rfl ?_); refine gL 4 Try.func109 #[.int .i64 a0, .int .i64 (-2147483648), .int .i64 2147483647] (h := ?_); (with_reducible refine (F109.calls a0 (-2147483648) 2147483647 t495 _ A2.out).mono ?_); rintro e w' ⟨rfl, ⟨nd, rfl⟩⟩; refine ⟨_, rfl, ?_⟩))
 go_ret
 exact ⟨rfl, dR⟩

def F83.f (a0_0 : Int) (a0_1 : Int) (l0_2 : List Int) (a1 : Int) : Option (Int) := (F100.f (wrap64 ((wrap64 (a0_0)) + (wrap64 (a1 * (wrap64 (a0_1))))))).bind fun t497 => (some t497)
theorem F83.calls (a0_0 : Int) (a0_1 : Int) (A0_2 : Option Addr) (c0_2 : Nat) (l0_2 : List Int) (a1 : Int) (r : Int) (w : World) (hr0_2 : Kd.C (Kd.int .i64) w A0_2 l0_2.length l0_2) (hc0_2 : l0_2.length ≤ c0_2) (h : F83.f a0_0 a0_1 l0_2 a1 = some r) :
  Calls Try.prog 83 #[.agg #[.int .i32 a0_0, .int .u32 a0_1, .slice A0_2 l0_2.length c0_2], .int .i64 a1] w fun e w' => e = .returned (.int .i32 r) ∧ Below w.heap.size w w' := by
 have hu98 := Try.underlying98; have HR0_2 := aM hr0_2; have HC0_2 := aM hc0_2; clear hr0_2 hc0_2; have HB := aM (Below.refl w.heap.size w); have H : ((F100.f (wrap64 ((wrap64 (a0_0)) + (wrap64 (a1 * (wrap64 (a0_1))))))).bind fun t497 => (some t497)) = some r := h; clear h; replace H := Option.bind_eq_some_iff.mp H; obtain ⟨t497, A30, H⟩ := H; replace H : (some t497) = some r := H; have A3 := aM A30; clear A30; obtain rfl := oI H
 go_enter Try.func83, Try.ntmps83
 go_wp2_with (first | ((with_reducible refine gate_dst (N := 2) rfl ?_); refine bxE 2 #[.int .i32 a0_0, .int .u32 a0_1, .slice A0_2 l0_2.length c0_2] 98 (h := ?_); intro gb496 hg w4 hbox hb; have BK496 := aM (hbox); have GW496 := gE hg HB; have GE496 := gE hg HB; replace HB := bst HB hb; clear hb hbox hg; have hz5 := bx3 BK496.out) | ((with_reducible refine gate_callee (f := 100) rfl ?_); refine gL 14 Try.func100 #[.int .i64 (wrap64 ((wrap64 (a0_0)) + (wrap64 (a1 * (wrap64 (a0_1))))))] (h := ?_); (with_reducible refine (F100.calls (wrap64 ((wrap64 (a0_0)) + (wrap64 (a1 * (wrap64 (a0_1)))))) t497 _ A3.out).mono ?_); rintro e w' ⟨rfl, ⟨nd, rfl⟩⟩; refine ⟨_, rfl, ?_⟩))
 go_ret
 exact ⟨rfl, bZ⟩

def F54.l0 : Nat → Int → List Int → Int → Int → Int → Int → Int → Int → Int → Int → List (S98) → List (S98) → Option (List Int)
 | 0, _, _, _, _, _, _, _, _, _, _, _, _ => none
 | k + 1, x1, x5, x6, x499000, x499001, x499002, x499003, x499004, x499005, x499006, x499007, x499008 => if x6 < (x499007.length : Int) then (if 0 ≤ x6 then (if 0 ≤ x1 then (if x1 < (((rd_T98 x499007 x6).f2).length : Int) then ((F83.f ((rd_T98 x499007 x6).f0) ((rd_T98 x499007 x6).f1) ((rd_T98 x499007 x6).f2) (rd ((rd_T98 x499007 x6).f2) x1)).bind fun t502 => (if x5.length < 35184372088832 then (F54.l0 k x1 (x5 ++ [t502]) (wrap64 (x6 + 1)) x499000 x499001 x499002 x499003 x499004 x499005 x499006 x499007 x499008) else (none))) else (none)) else (none)) else (none)) else (some x5)
def F54.f (k : Nat) (a0_0 : Int) (a0_1 : Int) (a0_2 : Int) (a0_3 : Int) (a0_4 : Int) (a0_5 : Int) (a0_6 : Int) (l0_7 : List (S98)) (l0_8 : List (S98)) (a1 : Int) : Option (List Int) := F54.l0 k a1 ([] : List Int) 0 a0_0 a0_1 a0_2 a0_3 a0_4 a0_5 a0_6 l0_7 l0_8
theorem F54.mono_l : ∀ k, (∀ y0 y1 y2 y3 y4 y5 y6 y7 y8 y9 y10 y11, LeO (F54.l0 k y0 y1 y2 y3 y4 y5 y6 y7 y8 y9 y10 y11) (F54.l0 (k + 1) y0 y1 y2 y3 y4 y5 y6 y7 y8 y9 y10 y11))
 | 0 => fun _ _ _ _ _ _ _ _ _ _ _ _ r h => by simp [F54.l0] at h
 | k + 1 => by
  have ih0 := F54.mono_l k
  ·
   intro y0 y1 y2 y3 y4 y5 y6 y7 y8 y9 y10 y11; unfold F54.l0
   repeat' with_reducible first | exact ih0 _ _ _ _ _ _ _ _ _ _ _ _ | exact LeO.refl _ | exact LeO.none _ | refine LeO.ite ?_ ?_ | refine LeO.bind ?_ (fun _ => ?_)
theorem F54.mono : ∀ a0 a1 a2 a3 a4 a5 a6 a7 a8 a9 k, LeO (F54.f k a0 a1 a2 a3 a4 a5 a6 a7 a8 a9) (F54.f (k + 1) a0 a1 a2 a3 a4 a5 a6 a7 a8 a9) := by
 intro a0 a1 a2 a3 a4 a5 a6 a7 a8 a9 k; have ih0 := F54.mono_l k; unfold F54.f
 repeat' with_reducible first | exact ih0 _ _ _ _ _ _ _ _ _ _ _ _ | exact LeO.refl _ | exact LeO.none _ | refine LeO.ite ?_ ?_ | refine LeO.bind ?_ (fun _ => ?_)
def F54.T5 : Bool × List (List Nat × List Nat) := (true, [([], []), ([], []), ([1], [1]), ([], []), ([2, 3], [2, 3]), ([4], [4]), ([], []), ([6], [6]), ([], []), ([7, 8], [7, 8]), ([9], [9]), ([10], [10]), ([], []), ([11, 12], [11, 12]), ([13], [13]), ([5, 14], [5, 14]), ([15], [15]), ([0, 16, 15], [0, 16]), ([17, 17, 0, 1, 2, 3, 4, 5, 6, 7, 8, 9, 10, 11, 12, 13, 14, 15, 16, 17], [0, 17])])
def F54.B5 : List Nat := [0, 0, 2, 0, 14, 30, 0, 64, 0, 448, 960, 1984, 0, 8128, 16320, 32766, 65534, 131071, 262143]
theorem F54.tab5 : rtab .any (opsOf Try.f54 5) = F54.T5 := by kernel_rfl
theorem F54.bits5 : waitsOk F54.T5.2 F54.B5 = true := by kernel_rfl
theorem F54.calls (k : Nat) (a0_0 : Int) (a0_1 : Int) (a0_2 : Int) (a0_3 : Int) (a0_4 : Int) (a0_5 : Int) (a0_6 : Int) (A0_7 : Option Addr) (c0_7 : Nat) (l0_7 : List (S98)) (A0_8 : Option Addr) (c0_8 : Nat) (l0_8 : List (S98)) (a1 : Int) (r : List Int) (w : World) (hr0_7 : Kd.C k98 w A0_7 l0_7.length l0_7) (hc0_7 : l0_7.length ≤ c0_7) (hr0_8 : Kd.C k98 w A0_8 l0_8.length l0_8) (hc0_8 : l0_8.length ≤ c0_8) (h : F54.f k a0_0 a0_1 a0_2 a0_3 a0_4 a0_5 a0_6 l0_7 l0_8 a1 = some r) :
  Calls Try.prog 54 #[.agg #[.int .i64 a0_0, .int .i64 a0_1, .int .i64 a0_2, .int .i64 a0_3, .int .i64 a0_4, .int .i64 a0_5, .int .i64 a0_6, .slice A0_7 l0_7.length c0_7, .slice A0_8 l0_8.length c0_8], .int .i64 a1] w fun e w' => ∃ v0_ : Value, e = .returned (v0_) ∧ Kd.R (Kd.int .i32) 21 w' w.heap.size (fun _ => True) v0_ r ∧ Below w.heap.size w w' := by
 have hu56 := Try.underlying56; have hu98 := Try.underlying98; have HR0_7 := aM hr0_7; have HC0_7 := aM hc0_7; clear hr0_7 hc0_7; have HR0_8 := aM hr0_8; have HC0_8 := aM hc0_8; clear hr0_8 hc0_8; have HB := aM (Below.refl w.heap.size w); have H : (F54.l0 k a1 ([] : List Int) 0 a0_0 a0_1 a0_2 a0_3 a0_4 a0_5 a0_6 l0_7 l0_8) = some r := h; clear h; have H' := aM H; clear H
 go_enter Try.func54, Try.ntmps54
 go_wp2_with (first | ((with_reducible refine gate_dst (N := 2) rfl ?_); refine bxE 2 #[.int .i64 a0_0, .int .i64 a0_1, .int .i64 a0_2, .int .i64 a0_3, .int .i64 a0_4, .int .i64 a0_5, .int .i64 a0_6, .slice A0_7 l0_7.length c0_7, .slice A0_8 l0_8.length c0_8] 56 (h := ?_); intro gb498 hg w3 hbox hb; have BK498 := aM (hbox); have GW498 := gE hg HB; have GE498 := gE hg HB; replace HB := bst HB hb; clear hb hbox hg))
 go_loopg [5, 6] k (fun kq v5 v6 w' => ∃ (x5_1 : List Int) (x6_1 : Int), v6 = .int .i64 x6_1 ∧ Aside0 (F54.l0 kq a1 x5_1 x6_1 a0_0 a0_1 a0_2 a0_3 a0_4 a0_5 a0_6 l0_7 l0_8 = some r) ∧ Aside0 (kq ≤ k) ∧ Aside0 (Kd.R (Kd.int .i32) 21 w' w.heap.size (fun _ => True) v5 x5_1) ∧ Aside0 (w'.heap[gb498]? = some (.cells #[.int .i64 a0_0, .int .i64 a0_1, .int .i64 a0_2, .int .i64 a0_3, .int .i64 a0_4, .int .i64 a0_5, .int .i64 a0_6, (.slice A0_7 l0_7.length c0_7), (.slice A0_8 l0_8.length c0_8)] 56 (0, 0))) ∧ Aside0 (Below w.heap.size w w'))
 case atStart => exact ⟨(([] : List Int)), (0), rfl, H', ⟨Nat.le_refl _⟩, ⟨by first | exact Kd.R_nil _ _ _ _ _ | exact Kd.N_nil _ _ _ _ _ | exact Kd.V_nil _ _ _ _ _ | exact Kd.Q_nil _ _ _ _ _ | exact Kd.S_nil _ _ _ _ _⟩, BK498, HB⟩
 case round =>
  clear H'; (try clear p2); obtain ⟨x5_1, x6_1, rfl, HA, HK1, HO_5, BK498, HB⟩ := hrel
  cases gk with
  | zero => exact absurd HA.out (by simp [F54.l0])
  | succ k1 =>
   have H := HA.out; clear HA; simp only [F54.l0] at H
   by_cases c4 : x6_1 < (l0_7.length : Int)
   ·
    rw [if_pos c4] at H; have c4b0 : decide (x6_1 < (l0_7.length : Int)) = true := dT c4; clear c4; obtain ⟨c5, H⟩ := ifp H; have c5b0 : decide (0 ≤ x6_1) = true := dT c5; clear c5; obtain ⟨c6, H⟩ := ifp H; have c6b0 : decide (0 ≤ a1) = true := dT c6; clear c6; obtain ⟨c7, H⟩ := ifp H; have c7b0 : decide (a1 < (((rd_T98 l0_7 x6_1).f2).length : Int)) = true := dT c7; clear c7; replace H := Option.bind_eq_some_iff.mp H; obtain ⟨t502, A80, H⟩ := H; replace H : (if x5_1.length < 35184372088832 then (F54.l0 k1 a1 (x5_1 ++ [t502]) (wrap64 (x6_1 + 1)) a0_0 a0_1 a0_2 a0_3 a0_4 a0_5 a0_6 l0_7 l0_8) else (none)) = some r := H; have A8 := aM A80; clear A80; obtain ⟨c9, H⟩ := ifp H; have LMc9 := aM c9; clear c9; obtain ⟨y503, hy503⟩ : ∃ y_ : List Int, y_ = (x5_1 ++ [t502]) := ⟨_, rfl⟩; (replace H : (F54.l0 k1 a1 y503 (wrap64 (x6_1 + 1)) a0_0 a0_1 a0_2 a0_3 a0_4 a0_5 a0_6 l0_7 l0_8) = some r := by first | (rw [hy503]; with_reducible exact H) | (have H2_ := (Option.bind_some _ _).symm.trans H; rw [hy503]; with_reducible exact H2_) | (have H2_ := (Option.bind_some _ _).symm.trans H; with_reducible exact H2_) | with_reducible exact H | (rw [hy503]; exact H) | exact H); have Ny503 := aM hy503; clear hy503; have H' := aM H; clear H; have hz10 := bx9 BK498.out
    try go_wp2
    replace HO_5 := aM (Kd.R_drew HO_5.out); replace BK498 := aM (blk_drew BK498.out); replace HB := aM (below_drew1 HB.out); have p499 : 0 ≤ (x6_1 : Int) := oD; have q499 : x6_1 < (l0_7.length : Int) := oD; obtain ⟨ad499, A499_2, c499_2, e499, hx499_0, hx499_1, hx499_2, hl499_2, hi499_2⟩ := at_T98 HR0_7.out x6_1 p499 q499; have hw499_2 := hx499_2; have hw499_1 := hx499_1; have hw499_0 := hx499_0
    cases e499
    replace hx499_0 := cU HB hx499_0; replace hx499_1 := cU HB hx499_1; replace hx499_2 := cU HB hx499_2; have HR499_2 := aM hi499_2; have HC499_2 := aM hl499_2; clear hi499_2 hl499_2; replace p499 := eq_true p499; replace q499 := eq_true q499; have p500 : 0 ≤ (x6_1 : Int) := oD; have q500 : x6_1 < (l0_7.length : Int) := oD; obtain ⟨ad500, A500_2, c500_2, e500, hx500_0, hx500_1, hx500_2, hl500_2, hi500_2⟩ := at_T98 HR0_7.out x6_1 p500 q500; have hw500_2 := hx500_2; have hw500_1 := hx500_1; have hw500_0 := hx500_0; obtain rfl : ad499 = ad500 := (by injection e500); replace hx500_0 := cU HB hx500_0; replace hx500_1 := cU HB hx500_1; replace hx500_2 := cU HB hx500_2; have HR500_2 := aM hi500_2; have HC500_2 := aM hl500_2; clear hi500_2 hl500_2; replace p500 := eq_true p500; replace q500 := eq_true q500; have ea_ := oI (hx499_2.symm.trans hx500_2); injection ea_ with ea_ en_ ec_; subst ea_; subst ec_; clear en_; have p501 : 0 ≤ (a1 : Int) := oD; have q501 : a1 < (((rd_T98 l0_7 x6_1).f2).length : Int) := oD; obtain ⟨ad501, e501, hx501_0⟩ := Kd.at_int HR500_2.out a1 p501 q501; have hw501_0 := hx501_0
    cases e501
    replace hx501_0 := cU HB hx501_0; replace p501 := eq_true p501; replace q501 := eq_true q501
    refine start_ (n := 19) (S := fun w' => w'.cell? ⟨gb498, 0, none⟩ = some (.int .i64 a0_0) ∧ w'.cell? ⟨gb498, 1, none⟩ = some (.int .i64 a0_1) ∧ w'.cell? ⟨gb498, 2, none⟩ = some (.int .i64 a0_2) ∧ w'.cell? ⟨gb498, 3, none⟩ = some (.int .i64 a0_3) ∧ w'.cell? ⟨gb498, 4, none⟩ = some (.int .i64 a0_4) ∧ w'.cell? ⟨gb498, 5, none⟩ = some (.int .i64 a0_5) ∧ w'.cell? ⟨gb498, 6, none⟩ = some (.int .i64 a0_6) ∧ w'.cell? ⟨gb498, 7, none⟩ = some (.slice (some ad499) l0_7.length c0_7) ∧ w'.cell? ⟨gb498, 8, none⟩ = some (.slice A0_8 l0_8.length c0_8) ∧ w'.cell? (ad499.add ((x6_1).toNat * 3)) = some (.int .i32 ((rd_T98 l0_7 x6_1).f0)) ∧ w'.cell? ⟨(ad499.add ((x6_1).toNat * 3)).block, (ad499.add ((x6_1).toNat * 3)).off + 1, none⟩ = some (.int .u32 ((rd_T98 l0_7 x6_1).f1)) ∧ w'.cell? ⟨(ad499.add ((x6_1).toNat * 3)).block, (ad499.add ((x6_1).toNat * 3)).off + 2, none⟩ = some (.slice (some ad501) ((rd_T98 l0_7 x6_1).f2).length c499_2) ∧ w'.cell? (ad499.add ((x6_1).toNat * 3)) = some (.int .i32 ((rd_T98 l0_7 x6_1).f0)) ∧ w'.cell? ⟨(ad499.add ((x6_1).toNat * 3)).block, (ad499.add ((x6_1).toNat * 3)).off + 1, none⟩ = some (.int .u32 ((rd_T98 l0_7 x6_1).f1)) ∧ w'.cell? ⟨(ad499.add ((x6_1).toNat * 3)).block, (ad499.add ((x6_1).toNat * 3)).off + 2, none⟩ = some (.slice (some ad501) ((rd_T98 l0_7 x6_1).f2).length c499_2) ∧ w'.cell? (ad501.add (a1).toNat) = some (.int .i64 (rd ((rd_T98 l0_7 x6_1).f2) a1))) (ds := []) (bA 19 0) (by kernel_rfl) rfl (by kernel_rfl) ⟨cL BK498 0, cL BK498 1, cL BK498 2, cL BK498 3, cL BK498 4, cL BK498 5, cL BK498 6, cL BK498 7, cL BK498 8, (cU HB hw499_0 :), (cU HB hw499_1 :), (cU HB hw499_2 :), (cU HB hw500_0 :), (cU HB hw500_1 :), (cU HB hw500_2 :), (cU HB hw501_0 :)⟩ (fun hHeld => ?_); refine with_tabW F54.tab5 F54.bits5 (fun HT_ HW_ => ?_)
    generalize wr.drew = w11 at HO_5 BK498 HB HR499_2 HR500_2 hx499_0 hx499_1 hx499_2 hx500_0 hx500_1 hx500_2 hx501_0 hHeld ⊢
    refine pT 19 0 14 1 HT_ (h := ?_)
    refine pT 19 1 15 3 HT_ (h := ?_)
    refine pT 19 3 17 11 HT_ (h := ?_)
    refine pT 19 6 20 75 HT_ (h := ?_)
    refine pT 19 8 22 331 HT_ (h := ?_)
    refine pT 19 12 26 4427 HT_ (h := ?_)
    refine tT 19 2 16 4431 HT_ HW_ hHeld (h := ?_)
    refine pT 19 4 18 4447 HT_ (h := ?_)
    refine tT 19 5 19 4479 HT_ HW_ hHeld (h := ?_)
    refine tT 19 7 21 4607 HT_ HW_ hHeld (h := ?_)
    refine pT 19 9 23 5119 HT_ (h := ?_)
    refine pT 19 10 24 6143 HT_ (h := ?_)
    refine tT 19 11 25 8191 HT_ HW_ hHeld (h := ?_)
    refine pT 19 13 27 16383 HT_ (h := ?_)
    refine tT 19 14 28 32767 HT_ HW_ hHeld (h := ?_)
    refine one_ (i := 15) (N := some 29) (bA 19 65535) rfl rfl (one_of HT_.out (by kernel_rfl)) (by decide) (fun K hK => ?_)
    refine gA Try.func83 #[.agg #[.int .i32 ((rd_T98 l0_7 x6_1).f0), .int .u32 ((rd_T98 l0_7 x6_1).f1), .slice (some ad501) ((rd_T98 l0_7 x6_1).f2).length c499_2], .int .i64 (rd ((rd_T98 l0_7 x6_1).f2) a1)] (h := ?_)
    with_reducible refine (F83.calls ((rd_T98 l0_7 x6_1).f0) ((rd_T98 l0_7 x6_1).f1) _ _ ((rd_T98 l0_7 x6_1).f2) (rd ((rd_T98 l0_7 x6_1).f2) a1) t502 _ ?side1 ?side2 A8.out).mono ?_
    (case side1 => with_reducible exact (Kd.C_below HR499_2.out HB.out)); (case side2 => exact HC499_2.out); rintro e w12 ⟨rfl, hb⟩
    refine ⟨_, rfl, ?_⟩
    replace HO_5 := aM (Kd.R_below (kR HO_5.out) hb); replace BK498 := aM (blk_below (g := gb498) (o := .cells #[.int .i64 a0_0, .int .i64 a0_1, .int .i64 a0_2, .int .i64 a0_3, .int .i64 a0_4, .int .i64 a0_5, .int .i64 a0_6, .slice (some ad499) l0_7.length c0_7, .slice A0_8 l0_8.length c0_8] 56 (0, 0)) (bK BK498.out) hb); replace HB := aM (below_step bZ hb); (try clear hb); (try clear hb2); (try clear hk); (try clear hi)
    refine hK.out _ _ ⟨cL BK498 0, cL BK498 1, cL BK498 2, cL BK498 3, cL BK498 4, cL BK498 5, cL BK498 6, cL BK498 7, cL BK498 8, (cU HB hw499_0 :), (cU HB hw499_1 :), (cU HB hw499_2 :), (cU HB hw500_0 :), (cU HB hw500_1 :), (cU HB hw500_2 :), (cU HB hw501_0 :)⟩ (fun hHeld => ?_)
    clear hK K
    refine nT 29 (h := ?_)
    refine one_ (i := 16) (N := some 30) (bA 19 131071) rfl rfl (one_of HT_.out (by kernel_rfl)) (by decide) (fun K hK => ?_)
    refine value_ (w1 := ?_) (v := ?_) (by rfl) rfl ?_ ?_
    rotate_left 2
    ·
     go_simp
     constructor
     ·
      rfl
     ·
      rfl
    refine hK.out _ _ ⟨(blk_cell (blk_alloc BK498.out _) 0).trans rfl, (blk_cell (blk_alloc BK498.out _) 1).trans rfl, (blk_cell (blk_alloc BK498.out _) 2).trans rfl, (blk_cell (blk_alloc BK498.out _) 3).trans rfl, (blk_cell (blk_alloc BK498.out _) 4).trans rfl, (blk_cell (blk_alloc BK498.out _) 5).trans rfl, (blk_cell (blk_alloc BK498.out _) 6).trans rfl, (blk_cell (blk_alloc BK498.out _) 7).trans rfl, (blk_cell (blk_alloc BK498.out _) 8).trans rfl, (World.cell?_alloc_lt _ _ _ (World.block_lt_of_cell? _ _ ((cU HB hw499_0 :)))).trans ((cU HB hw499_0 :)), (World.cell?_alloc_lt _ _ _ (World.block_lt_of_cell? _ _ ((cU HB hw499_1 :)))).trans ((cU HB hw499_1 :)), (World.cell?_alloc_lt _ _ _ (World.block_lt_of_cell? _ _ ((cU HB hw499_2 :)))).trans ((cU HB hw499_2 :)), (World.cell?_alloc_lt _ _ _ (World.block_lt_of_cell? _ _ ((cU HB hw500_0 :)))).trans ((cU HB hw500_0 :)), (World.cell?_alloc_lt _ _ _ (World.block_lt_of_cell? _ _ ((cU HB hw500_1 :)))).trans ((cU HB hw500_1 :)), (World.cell?_alloc_lt _ _ _ (World.block_lt_of_cell? _ _ ((cU HB hw500_2 :)))).trans ((cU HB hw500_2 :)), (World.cell?_alloc_lt _ _ _ (World.block_lt_of_cell? _ _ ((cU HB hw501_0 :)))).trans ((cU HB hw501_0 :))⟩ (fun hHeld => ?_)
    clear hK K
    refine nT 30 (h := ?_)
    refine one_ (i := 17) (N := some 31) (bA 19 262143) rfl rfl (one_of HT_.out (by kernel_rfl)) (by decide) (fun K hK => ?_)
    refine Kd.R_append_step (Kd.int .i32) (w0 := w) w.heap.size (by rfl) (.tmp 14) (.tmp 30) 43 21 (.int .i32 0) 4 rfl Try.underlying43 info21 rfl (by decide) (by omega) u5 x5_1 t502 [.int .i32 t502] (fun _ => True) (fun _ => False) rfl rfl ?aP (fun _ hk => hk.elim) ?aF ?aO ?aB ?aS ?aL ?_
    (case aP => exact rfl); (case aB => exact bZ); (case aF => exact (fun _ _ => trivial)); (case aO => exact (kR HO_5.out)); (case aS => exact (below_size bZ)); (case aL => have := LMc9.out; omega); intro v504 w13 ho hb hg hat; rw [← Ny503.out] at ho; have n0_ := aM (blk_grown (g := gb498) (o := .cells #[.int .i64 a0_0, .int .i64 a0_1, .int .i64 a0_2, .int .i64 a0_3, .int .i64 a0_4, .int .i64 a0_5, .int .i64 a0_6, .slice (some ad499) l0_7.length c0_7, .slice A0_8 l0_8.length c0_8] 56 (0, 0)) (bK BK498.out) hg (Kd.R_ne HO_5.out BK498.out (by decide))); have n1_ := aM (hb); have n2_ := aM (ho); clear BK498; clear HB; clear HO_5; have BK498 := n0_; have HB := n1_; have HO505 := n2_; clear n0_ n1_ n2_; clear ho hb hg hat
    refine hK.out _ _ ⟨cL BK498 0, cL BK498 1, cL BK498 2, cL BK498 3, cL BK498 4, cL BK498 5, cL BK498 6, cL BK498 7, cL BK498 8, (cU HB hw499_0 :), (cU HB hw499_1 :), (cU HB hw499_2 :), (cU HB hw500_0 :), (cU HB hw500_1 :), (cU HB hw500_2 :), (cU HB hw501_0 :)⟩ (fun hHeld => ?_)
    clear hK K
    refine nT 31 (h := ?_)
    refine pT 19 18 5 524287 HT_ (h := ?_)
    refine done_ (done_of HT_.out (by kernel_rfl)) ?_
    try go_wp2
    go_roundg k1
    case measure => have := HK1.out; omega
    case rel => exact ⟨(y503), (wrap64 (x6_1 + 1)), rfl, H', ⟨by have := HK1.out; omega⟩, HO505, BK498, HB⟩
   ·
    rw [if_neg c4] at H; have c4b0 : decide (x6_1 < (l0_7.length : Int)) = false := dF c4; clear c4; obtain rfl := oI H; have hz14 := bx9 BK498.out
    go_wp2
    go_ret
    exact ⟨_, rfl, HO_5.out, HB.out⟩

end Go.Proofs.Ytekenaclmplocaa.PPageParses
