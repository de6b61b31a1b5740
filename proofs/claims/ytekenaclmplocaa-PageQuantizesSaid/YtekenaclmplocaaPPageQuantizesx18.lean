-- Written by a program of this session (wip/tools/mkprint.py over the kit's print).
import Derived.Test.YtekenaclmplocaaPPageQuantizesx0
namespace Go.Proofs.Ytekenaclmplocaa.PPageQuantizes
open Go.RowKit Go.Proofs.YtekenaclmplocaaW.PrintWords Go.Proofs.YtekenaclmplocaaW.PrintLast Go.Proofs.YtekenaclmplocaaW.PrintMore
attribute [local go_sem] max2_int min2_int max_two min_two max_three min_three max_four min_four   -- for this text's walks alone
set_option linter.unusedVariables false
set_option linter.unusedSimpArgs false

/-! ### credenzaref03_Same: function 53 -/
def credenzaref03_Same.l0 : Nat → List Int → List Int → Int → Option (Bool)
 | 0, _, _, _ => none
 | k + 1, x0, x1, x5 => if x5 < (x0.length : Int) then (if 0 ≤ x5 then (if x5 < (x1.length : Int) then (if (rd x0 x5) = (rd x1 x5) then (credenzaref03_Same.l0 k x0 x1 (wrap64 (x5 + 1))) else (some false)) else (none)) else (none)) else (some true)
def credenzaref03_Same.f (k : Nat) (l0 : List Int) (l1 : List Int) : Option (Bool) := if (l0.length : Int) = (l1.length : Int) then (credenzaref03_Same.l0 k l0 l1 0) else (some false)
theorem credenzaref03_Same.mono_l : ∀ k, (∀ y0 y1 y2, LeO (credenzaref03_Same.l0 k y0 y1 y2) (credenzaref03_Same.l0 (k + 1) y0 y1 y2))
 | 0 => fun _ _ _ r h => by simp [credenzaref03_Same.l0] at h
 | k + 1 => by
  have ih0 := credenzaref03_Same.mono_l k
  ·
   intro y0 y1 y2; unfold credenzaref03_Same.l0
   repeat' first
   | (with_reducible exact ih0 _ _ _)
   | (with_reducible exact LeO.refl _)
   | (with_reducible exact LeO.none _)
   | (with_reducible refine LeO.ite ?_ ?_)
   | (with_reducible refine LeO.bind ?_ (fun _ => ?_))
theorem credenzaref03_Same.mono : ∀ a0 a1 k, LeO (credenzaref03_Same.f k a0 a1) (credenzaref03_Same.f (k + 1) a0 a1) := by
 intro a0 a1 k; have ih0 := credenzaref03_Same.mono_l k; unfold credenzaref03_Same.f
 repeat' first
   | (with_reducible exact ih0 _ _ _)
   | (with_reducible exact LeO.refl _)
   | (with_reducible exact LeO.none _)
   | (with_reducible refine LeO.ite ?_ ?_)
   | (with_reducible refine LeO.bind ?_ (fun _ => ?_))
set_option maxHeartbeats 8000000 in
set_option maxRecDepth 100000 in
theorem credenzaref03_Same.calls (k : Nat) (A0 : Option Addr) (c0 : Nat) (l0 : List Int) (A1 : Option Addr) (c1 : Nat) (l1 : List Int) (r : Bool) (w : World) (hr0 : Kd.C (Kd.int .i32) w A0 l0.length l0) (hc0 : l0.length ≤ c0) (hr1 : Kd.C (Kd.int .i32) w A1 l1.length l1) (hc1 : l1.length ≤ c1) (h : credenzaref03_Same.f k l0 l1 = some r) :
  Calls Try.prog 53 #[.slice A0 l0.length c0, .slice A1 l1.length c1] w fun e w' => e = .returned (.bool r) ∧ Drawn0 w w' := by
 have HR0 := Aside0.mk hr0; have HC0 := Aside0.mk hc0; clear hr0 hc0; have HR1 := Aside0.mk hr1; have HC1 := Aside0.mk hc1; clear hr1 hc1; have H := h; clear h; unfold credenzaref03_Same.f at H
 by_cases c3 : (l0.length : Int) = (l1.length : Int)
 ·
  rw [if_pos c3] at H; have c3b0 : ((l0.length : Int) == (l1.length : Int)) = true := beq_iff_eq.mpr c3; have c3b1 : ((l0.length : Int) != (l1.length : Int)) = false := bne_eq_false_iff_eq.mpr c3; (have c3b2 : (l0.length == l1.length) = true := by first | simpa using c3 | (simp at c3 ⊢; omega)); clear c3; have H' := Aside0.mk H; clear H
  go_enter Try.func53, Try.ntmps53
  go_wp2
  repeat (go_quiet (fail); try go_wp2)
  go_loopg [5] k (fun kq v5 w' => ∃ (x5_1 : Int), v5 = .int .i64 x5_1 ∧ Aside0 (credenzaref03_Same.l0 kq l0 l1 x5_1 = some r) ∧ Aside0 (kq ≤ k) ∧ Drawn0 w w')
  case atStart => exact ⟨(0), rfl, H', ⟨Nat.le_refl _⟩, by repeat (first | exact Drawn0.refl _ | apply Drawn0.step)⟩
  case round =>
   clear H'; (try clear c1); (try clear p2); (try clear c3); (try clear c3b0); (try clear c3b1); (try clear c3b2); obtain ⟨x5_1, rfl, HA, HK1, ⟨m1, rfl⟩⟩ := hrel
   cases gk with
   | zero => exact absurd HA.out (by simp [credenzaref03_Same.l0])
   | succ k1 =>
    have H := HA.out; clear HA; simp only [credenzaref03_Same.l0] at H
    by_cases c4 : x5_1 < (l0.length : Int)
    ·
     rw [if_pos c4] at H; have c4b0 : decide (x5_1 < (l0.length : Int)) = true := decide_eq_true c4; clear c4; obtain ⟨c5, H⟩ := ifp H; have c5b0 : decide (0 ≤ x5_1) = true := decide_eq_true c5; clear c5; obtain ⟨c6, H⟩ := ifp H; have c6b0 : decide (x5_1 < (l1.length : Int)) = true := decide_eq_true c6; clear c6
     by_cases c7 : (rd l0 x5_1) = (rd l1 x5_1)
     ·
      rw [if_pos c7] at H; have c7b0 : ((rd l0 x5_1) == (rd l1 x5_1)) = true := beq_iff_eq.mpr c7; have c7b1 : ((rd l0 x5_1) != (rd l1 x5_1)) = false := bne_eq_false_iff_eq.mpr c7; clear c7; have H' := Aside0.mk H; clear H; have p498 : 0 ≤ (x5_1 : Int) := oD; have q498 : x5_1 < (l0.length : Int) := oD; obtain ⟨ad498, e498, hx498_0⟩ := Kd.at_int HR0.out x5_1 p498 q498
      cases e498
      replace p498 := eq_true p498; replace q498 := eq_true q498; have p499 : 0 ≤ (x5_1 : Int) := oD; have q499 : x5_1 < (l1.length : Int) := oD; obtain ⟨ad499, e499, hx499_0⟩ := Kd.at_int HR1.out x5_1 p499 q499
      cases e499
      replace p499 := eq_true p499; replace q499 := eq_true q499
      go_wp2
      repeat (go_quiet (fail); try go_wp2)
      go_roundg k1
      case measure => have := HK1.out; omega
      case rel => exact ⟨(wrap64 (x5_1 + 1)), rfl, H', ⟨by have := HK1.out; omega⟩, by repeat (first | exact Drawn0.refl _ | apply Drawn0.step)⟩
     ·
      rw [if_neg c7] at H; have c7b0 : ((rd l0 x5_1) == (rd l1 x5_1)) = false := beq_eq_false_iff_ne.mpr c7; have c7b1 : ((rd l0 x5_1) != (rd l1 x5_1)) = true := bne_iff_ne.mpr c7; obtain rfl := Option.some.inj H; have p498 : 0 ≤ (x5_1 : Int) := oD; have q498 : x5_1 < (l0.length : Int) := oD; obtain ⟨ad498, e498, hx498_0⟩ := Kd.at_int HR0.out x5_1 p498 q498
      cases e498
      replace p498 := eq_true p498; replace q498 := eq_true q498; have p499 : 0 ≤ (x5_1 : Int) := oD; have q499 : x5_1 < (l1.length : Int) := oD; obtain ⟨ad499, e499, hx499_0⟩ := Kd.at_int HR1.out x5_1 p499 q499
      cases e499
      replace p499 := eq_true p499; replace q499 := eq_true q499
      go_wp2
      repeat (go_quiet (fail); try go_wp2)
      go_ret
      exact ⟨rfl, by repeat (first | exact Drawn0.refl _ | apply Drawn0.step)⟩
    ·
     rw [if_neg c4] at H; have c4b0 : decide (x5_1 < (l0.length : Int)) = false := decide_eq_false c4; clear c4; obtain rfl := Option.some.inj H
     go_wp2
     repeat (go_quiet (fail); try go_wp2)
     go_ret
     exact ⟨rfl, by repeat (first | exact Drawn0.refl _ | apply Drawn0.step)⟩
 ·
  rw [if_neg c3] at H; have c3b0 : ((l0.length : Int) == (l1.length : Int)) = false := beq_eq_false_iff_ne.mpr c3; have c3b1 : ((l0.length : Int) != (l1.length : Int)) = true := bne_iff_ne.mpr c3; (have c3b2 : (l0.length == l1.length) = false := by first | simpa using c3 | (simp at c3 ⊢; omega)); obtain rfl := Option.some.inj H
  go_enter Try.func53, Try.ntmps53
  go_wp2
  repeat (go_quiet (fail); try go_wp2)
  go_ret
  exact ⟨rfl, by repeat (first | exact Drawn0.refl _ | apply Drawn0.step)⟩

/-! ### credenzaref01_Cut: function 109 -/
def credenzaref01_Cut.f (a0 : Int) (a1 : Int) (a2 : Int) : Option (Int) := if a0 < a1 then (some a1) else (if a0 > a2 then (some a2) else (some a0))
set_option maxHeartbeats 8000000 in
set_option maxRecDepth 100000 in
theorem credenzaref01_Cut.calls (a0 : Int) (a1 : Int) (a2 : Int) (r : Int) (w : World) (h : credenzaref01_Cut.f a0 a1 a2 = some r) :
  Calls Try.prog 109 #[.int .i64 a0, .int .i64 a1, .int .i64 a2] w fun e w' => e = .returned (.int .i64 r) ∧ Drawn0 w w' := by
 have H := h; clear h; unfold credenzaref01_Cut.f at H
 by_cases c4 : a0 < a1
 ·
  rw [if_pos c4] at H; have c4b0 : decide (a0 < a1) = true := decide_eq_true c4; clear c4; obtain rfl := Option.some.inj H
  go_enter Try.func109, Try.ntmps109
  go_wp2
  go_ret
  exact ⟨rfl, by repeat (first | exact Drawn0.refl _ | apply Drawn0.step)⟩
 ·
  rw [if_neg c4] at H; have c4b0 : decide (a0 < a1) = false := decide_eq_false c4; clear c4
  by_cases c5 : a0 > a2
  ·
   rw [if_pos c5] at H; have c5b0 : decide (a2 < a0) = true := decide_eq_true c5; clear c5; obtain rfl := Option.some.inj H
   go_enter Try.func109, Try.ntmps109
   go_wp2
   go_ret
   exact ⟨rfl, by repeat (first | exact Drawn0.refl _ | apply Drawn0.step)⟩
  ·
   rw [if_neg c5] at H; have c5b0 : decide (a2 < a0) = false := decide_eq_false c5; clear c5; obtain rfl := Option.some.inj H
   go_enter Try.func109, Try.ntmps109
   go_wp2
   go_ret
   exact ⟨rfl, by repeat (first | exact Drawn0.refl _ | apply Drawn0.step)⟩

/-! ### credenzaref01_Wide: function 100 -/
def credenzaref01_Wide.f (a0 : Int) : Option (Int) := (credenzaref01_Cut.f a0 (-2147483648) 2147483647).bind fun t500 => (some (wrap32 (t500)))
set_option maxHeartbeats 8000000 in
set_option maxRecDepth 100000 in
theorem credenzaref01_Wide.calls (a0 : Int) (r : Int) (w : World) (h : credenzaref01_Wide.f a0 = some r) :
  Calls Try.prog 100 #[.int .i64 a0] w fun e w' => e = .returned (.int .i32 r) ∧ Drawn0 w w' := by
 have H := h; clear h; unfold credenzaref01_Wide.f at H; obtain ⟨t500, A2, H⟩ := bnd H; obtain rfl := Option.some.inj H
 go_enter Try.func100, Try.ntmps100
 go_wp2_with (first | ((with_reducible refine gate_callee (f := 109) rfl ?_); refine gL 4 Try.func109 #[.int .i64 a0, .int .i64 (-2147483648), .int .i64 2147483647] (h := ?_); (with_reducible refine (credenzaref01_Cut.calls a0 (-2147483648) 2147483647 t500 _ A2.out).mono ?_); rintro e w' ⟨rfl, ⟨nd, rfl⟩⟩; refine ⟨_, rfl, ?_⟩))
 go_ret
 exact ⟨rfl, by repeat (first | exact Drawn0.refl _ | apply Drawn0.step)⟩

/-! ### credenzaref07_One: function 83 -/
def credenzaref07_One.f (a0_0 : Int) (a0_1 : Int) (l0_2 : List Int) (a1 : Int) : Option (Int) := (credenzaref01_Wide.f (wrap64 ((wrap64 (a0_0)) + (wrap64 (a1 * (wrap64 (a0_1))))))).bind fun t502 => (some t502)
set_option maxHeartbeats 8000000 in
set_option maxRecDepth 100000 in
theorem credenzaref07_One.calls (a0_0 : Int) (a0_1 : Int) (A0_2 : Option Addr) (c0_2 : Nat) (l0_2 : List Int) (a1 : Int) (r : Int) (w : World) (hr0_2 : Kd.C (Kd.int .i64) w A0_2 l0_2.length l0_2) (hc0_2 : l0_2.length ≤ c0_2) (h : credenzaref07_One.f a0_0 a0_1 l0_2 a1 = some r) :
  Calls Try.prog 83 #[.agg #[.int .i32 a0_0, .int .u32 a0_1, .slice A0_2 l0_2.length c0_2], .int .i64 a1] w fun e w' => e = .returned (.int .i32 r) ∧ Below w.heap.size w w' := by
 have hu98 := Try.underlying98; have HR0_2 := Aside0.mk hr0_2; have HC0_2 := Aside0.mk hc0_2; clear hr0_2 hc0_2; have HB := Aside0.mk (Below.refl w.heap.size w); have H : ((credenzaref01_Wide.f (wrap64 ((wrap64 (a0_0)) + (wrap64 (a1 * (wrap64 (a0_1))))))).bind fun t502 => (some t502)) = some r := h; clear h; replace H := Option.bind_eq_some_iff.mp H; obtain ⟨t502, A30, H⟩ := H; replace H : (some t502) = some r := H; have A3 := Aside0.mk A30; clear A30; obtain rfl := Option.some.inj H
 go_enter Try.func83, Try.ntmps83
 go_wp2_with (first | ((with_reducible refine gate_dst (N := 2) rfl ?_); refine bxE 2 #[.int .i32 a0_0, .int .u32 a0_1, .slice A0_2 l0_2.length c0_2] 98 (h := ?_); intro gb501 hg w4 hbox hb; have BK501 := Aside0.mk (hbox); have GW501 := gE hg HB; have GE501 := gE hg HB; replace HB := bst HB hb; clear hb hbox hg; have hz5 := bx3 BK501.out) | ((with_reducible refine gate_callee (f := 100) rfl ?_); refine gL 14 Try.func100 #[.int .i64 (wrap64 ((wrap64 (a0_0)) + (wrap64 (a1 * (wrap64 (a0_1))))))] (h := ?_); (with_reducible refine (credenzaref01_Wide.calls (wrap64 ((wrap64 (a0_0)) + (wrap64 (a1 * (wrap64 (a0_1)))))) t502 _ A3.out).mono ?_); rintro e w' ⟨rfl, ⟨nd, rfl⟩⟩; refine ⟨_, rfl, ?_⟩))
 go_ret
 exact ⟨rfl, bZ⟩

/-! ### credenzaref08_Page_Key: function 54 -/
def credenzaref08_Page_Key.l0 : Nat → Int → List Int → Int → Int → Int → Int → Int → Int → Int → Int → List (S98) → List (S98) → Option (List Int)
 | 0, _, _, _, _, _, _, _, _, _, _, _, _ => none
 | k + 1, x1, x5, x6, x504000, x504001, x504002, x504003, x504004, x504005, x504006, x504007, x504008 => if x6 < (x504007.length : Int) then (if 0 ≤ x6 then (if 0 ≤ x1 then (if x1 < (((rd_T98 x504007 x6).f2).length : Int) then ((credenzaref07_One.f ((rd_T98 x504007 x6).f0) ((rd_T98 x504007 x6).f1) ((rd_T98 x504007 x6).f2) (rd ((rd_T98 x504007 x6).f2) x1)).bind fun t507 => (if x5.length < 35184372088832 then (credenzaref08_Page_Key.l0 k x1 (x5 ++ [t507]) (wrap64 (x6 + 1)) x504000 x504001 x504002 x504003 x504004 x504005 x504006 x504007 x504008) else (none))) else (none)) else (none)) else (none)) else (some x5)
def credenzaref08_Page_Key.f (k : Nat) (a0_0 : Int) (a0_1 : Int) (a0_2 : Int) (a0_3 : Int) (a0_4 : Int) (a0_5 : Int) (a0_6 : Int) (l0_7 : List (S98)) (l0_8 : List (S98)) (a1 : Int) : Option (List Int) := credenzaref08_Page_Key.l0 k a1 ([] : List Int) 0 a0_0 a0_1 a0_2 a0_3 a0_4 a0_5 a0_6 l0_7 l0_8
theorem credenzaref08_Page_Key.mono_l : ∀ k, (∀ y0 y1 y2 y3 y4 y5 y6 y7 y8 y9 y10 y11, LeO (credenzaref08_Page_Key.l0 k y0 y1 y2 y3 y4 y5 y6 y7 y8 y9 y10 y11) (credenzaref08_Page_Key.l0 (k + 1) y0 y1 y2 y3 y4 y5 y6 y7 y8 y9 y10 y11))
 | 0 => fun _ _ _ _ _ _ _ _ _ _ _ _ r h => by simp [credenzaref08_Page_Key.l0] at h
 | k + 1 => by
  have ih0 := credenzaref08_Page_Key.mono_l k
  ·
   intro y0 y1 y2 y3 y4 y5 y6 y7 y8 y9 y10 y11; unfold credenzaref08_Page_Key.l0
   repeat' first
   | (with_reducible exact ih0 _ _ _ _ _ _ _ _ _ _ _ _)
   | (with_reducible exact LeO.refl _)
   | (with_reducible exact LeO.none _)
   | (with_reducible refine LeO.ite ?_ ?_)
   | (with_reducible refine LeO.bind ?_ (fun _ => ?_))
theorem credenzaref08_Page_Key.mono : ∀ a0 a1 a2 a3 a4 a5 a6 a7 a8 a9 k, LeO (credenzaref08_Page_Key.f k a0 a1 a2 a3 a4 a5 a6 a7 a8 a9) (credenzaref08_Page_Key.f (k + 1) a0 a1 a2 a3 a4 a5 a6 a7 a8 a9) := by
 intro a0 a1 a2 a3 a4 a5 a6 a7 a8 a9 k; have ih0 := credenzaref08_Page_Key.mono_l k; unfold credenzaref08_Page_Key.f
 repeat' first
   | (with_reducible exact ih0 _ _ _ _ _ _ _ _ _ _ _ _)
   | (with_reducible exact LeO.refl _)
   | (with_reducible exact LeO.none _)
   | (with_reducible refine LeO.ite ?_ ?_)
   | (with_reducible refine LeO.bind ?_ (fun _ => ?_))
def credenzaref08_Page_Key.T5 : Bool × List (List Nat × List Nat) := (true, [([], []), ([], []), ([1], [1]), ([], []), ([2, 3], [2, 3]), ([4], [4]), ([], []), ([6], [6]), ([], []), ([7, 8], [7, 8]), ([9], [9]), ([10], [10]), ([], []), ([11, 12], [11, 12]), ([13], [13]), ([5, 14], [5, 14]), ([15], [15]), ([0, 16, 15], [0, 16]), ([17, 17, 0, 1, 2, 3, 4, 5, 6, 7, 8, 9, 10, 11, 12, 13, 14, 15, 16, 17], [0, 17])])
def credenzaref08_Page_Key.B5 : List Nat := [0, 0, 2, 0, 14, 30, 0, 64, 0, 448, 960, 1984, 0, 8128, 16320, 32766, 65534, 131071, 262143]
theorem credenzaref08_Page_Key.tab5 : rtab .any (opsOf Try.f54 5) = credenzaref08_Page_Key.T5 := by kernel_rfl
theorem credenzaref08_Page_Key.bits5 : waitsOk credenzaref08_Page_Key.T5.2 credenzaref08_Page_Key.B5 = true := by kernel_rfl
set_option maxHeartbeats 8000000 in
set_option maxRecDepth 100000 in
theorem credenzaref08_Page_Key.calls (k : Nat) (a0_0 : Int) (a0_1 : Int) (a0_2 : Int) (a0_3 : Int) (a0_4 : Int) (a0_5 : Int) (a0_6 : Int) (A0_7 : Option Addr) (c0_7 : Nat) (l0_7 : List (S98)) (A0_8 : Option Addr) (c0_8 : Nat) (l0_8 : List (S98)) (a1 : Int) (r : List Int) (w : World) (hr0_7 : Kd.C k98 w A0_7 l0_7.length l0_7) (hc0_7 : l0_7.length ≤ c0_7) (hr0_8 : Kd.C k98 w A0_8 l0_8.length l0_8) (hc0_8 : l0_8.length ≤ c0_8) (h : credenzaref08_Page_Key.f k a0_0 a0_1 a0_2 a0_3 a0_4 a0_5 a0_6 l0_7 l0_8 a1 = some r) :
  Calls Try.prog 54 #[.agg #[.int .i64 a0_0, .int .i64 a0_1, .int .i64 a0_2, .int .i64 a0_3, .int .i64 a0_4, .int .i64 a0_5, .int .i64 a0_6, .slice A0_7 l0_7.length c0_7, .slice A0_8 l0_8.length c0_8], .int .i64 a1] w fun e w' => ∃ v0_ : Value, e = .returned (v0_) ∧ Kd.R (Kd.int .i32) 21 w' w.heap.size (fun _ => True) v0_ r ∧ Below w.heap.size w w' := by
 have hu56 := Try.underlying56; have hu98 := Try.underlying98; have HR0_7 := Aside0.mk hr0_7; have HC0_7 := Aside0.mk hc0_7; clear hr0_7 hc0_7; have HR0_8 := Aside0.mk hr0_8; have HC0_8 := Aside0.mk hc0_8; clear hr0_8 hc0_8; have HB := Aside0.mk (Below.refl w.heap.size w); have H : (credenzaref08_Page_Key.l0 k a1 ([] : List Int) 0 a0_0 a0_1 a0_2 a0_3 a0_4 a0_5 a0_6 l0_7 l0_8) = some r := h; clear h; have H' := Aside0.mk H; clear H
 go_enter Try.func54, Try.ntmps54
 go_wp2_with (first | ((with_reducible refine gate_dst (N := 2) rfl ?_); refine bxE 2 #[.int .i64 a0_0, .int .i64 a0_1, .int .i64 a0_2, .int .i64 a0_3, .int .i64 a0_4, .int .i64 a0_5, .int .i64 a0_6, .slice A0_7 l0_7.length c0_7, .slice A0_8 l0_8.length c0_8] 56 (h := ?_); intro gb503 hg w3 hbox hb; have BK503 := Aside0.mk (hbox); have GW503 := gE hg HB; have GE503 := gE hg HB; replace HB := bst HB hb; clear hb hbox hg))
 go_loopg [5, 6] k (fun kq v5 v6 w' => ∃ (x5_1 : List Int) (x6_1 : Int), v6 = .int .i64 x6_1 ∧ Aside0 (credenzaref08_Page_Key.l0 kq a1 x5_1 x6_1 a0_0 a0_1 a0_2 a0_3 a0_4 a0_5 a0_6 l0_7 l0_8 = some r) ∧ Aside0 (kq ≤ k) ∧ Aside0 (Kd.R (Kd.int .i32) 21 w' w.heap.size (fun _ => True) v5 x5_1) ∧ Aside0 (w'.heap[gb503]? = some (.cells #[.int .i64 a0_0, .int .i64 a0_1, .int .i64 a0_2, .int .i64 a0_3, .int .i64 a0_4, .int .i64 a0_5, .int .i64 a0_6, (.slice A0_7 l0_7.length c0_7), (.slice A0_8 l0_8.length c0_8)] 56 (0, 0))) ∧ Aside0 (Below w.heap.size w w'))
 case atStart => exact ⟨(([] : List Int)), (0), rfl, H', ⟨Nat.le_refl _⟩, ⟨by first | exact Kd.R_nil _ _ _ _ _ | exact Kd.N_nil _ _ _ _ _ | exact Kd.V_nil _ _ _ _ _ | exact Kd.Q_nil _ _ _ _ _ | exact Kd.S_nil _ _ _ _ _⟩, BK503, HB⟩
 case round =>
  clear H'; (try clear p2); obtain ⟨x5_1, x6_1, rfl, HA, HK1, HO_5, BK503, HB⟩ := hrel
  cases gk with
  | zero => exact absurd HA.out (by simp [credenzaref08_Page_Key.l0])
  | succ k1 =>
   have H := HA.out; clear HA; simp only [credenzaref08_Page_Key.l0] at H
   by_cases c4 : x6_1 < (l0_7.length : Int)
   ·
    rw [if_pos c4] at H; have c4b0 : decide (x6_1 < (l0_7.length : Int)) = true := decide_eq_true c4; clear c4; obtain ⟨c5, H⟩ := ifp H; have c5b0 : decide (0 ≤ x6_1) = true := decide_eq_true c5; clear c5; obtain ⟨c6, H⟩ := ifp H; have c6b0 : decide (0 ≤ a1) = true := decide_eq_true c6; clear c6; obtain ⟨c7, H⟩ := ifp H; have c7b0 : decide (a1 < (((rd_T98 l0_7 x6_1).f2).length : Int)) = true := decide_eq_true c7; clear c7; replace H := Option.bind_eq_some_iff.mp H; obtain ⟨t507, A80, H⟩ := H; replace H : (if x5_1.length < 35184372088832 then (credenzaref08_Page_Key.l0 k1 a1 (x5_1 ++ [t507]) (wrap64 (x6_1 + 1)) a0_0 a0_1 a0_2 a0_3 a0_4 a0_5 a0_6 l0_7 l0_8) else (none)) = some r := H; have A8 := Aside0.mk A80; clear A80; obtain ⟨c9, H⟩ := ifp H; have LMc9 := Aside0.mk c9; clear c9; obtain ⟨y508, hy508⟩ : ∃ y_ : List Int, y_ = (x5_1 ++ [t507]) := ⟨_, rfl⟩; (replace H : (credenzaref08_Page_Key.l0 k1 a1 y508 (wrap64 (x6_1 + 1)) a0_0 a0_1 a0_2 a0_3 a0_4 a0_5 a0_6 l0_7 l0_8) = some r := by first | (rw [hy508]; with_reducible exact H) | (have H2_ := (Option.bind_some _ _).symm.trans H; rw [hy508]; with_reducible exact H2_) | (have H2_ := (Option.bind_some _ _).symm.trans H; with_reducible exact H2_) | with_reducible exact H | (rw [hy508]; exact H) | exact H); have Ny508 := Aside0.mk hy508; clear hy508; have H' := Aside0.mk H; clear H; have hz10 := bx9 BK503.out
    try go_wp2
    replace HO_5 := Aside0.mk (Kd.R_drew HO_5.out); replace BK503 := Aside0.mk (blk_drew BK503.out); replace HB := Aside0.mk (below_drew1 HB.out); have p504 : 0 ≤ (x6_1 : Int) := oD; have q504 : x6_1 < (l0_7.length : Int) := oD; obtain ⟨ad504, A504_2, c504_2, e504, hx504_0, hx504_1, hx504_2, hl504_2, hi504_2⟩ := at_T98 HR0_7.out x6_1 p504 q504; have hw504_2 := hx504_2; have hw504_1 := hx504_1; have hw504_0 := hx504_0
    cases e504
    replace hx504_0 := cU HB hx504_0; replace hx504_1 := cU HB hx504_1; replace hx504_2 := cU HB hx504_2; have HR504_2 := Aside0.mk hi504_2; have HC504_2 := Aside0.mk hl504_2; clear hi504_2 hl504_2; replace p504 := eq_true p504; replace q504 := eq_true q504; have p505 : 0 ≤ (x6_1 : Int) := oD; have q505 : x6_1 < (l0_7.length : Int) := oD; obtain ⟨ad505, A505_2, c505_2, e505, hx505_0, hx505_1, hx505_2, hl505_2, hi505_2⟩ := at_T98 HR0_7.out x6_1 p505 q505; have hw505_2 := hx505_2; have hw505_1 := hx505_1; have hw505_0 := hx505_0; obtain rfl : ad504 = ad505 := (by injection e505); replace hx505_0 := cU HB hx505_0; replace hx505_1 := cU HB hx505_1; replace hx505_2 := cU HB hx505_2; have HR505_2 := Aside0.mk hi505_2; have HC505_2 := Aside0.mk hl505_2; clear hi505_2 hl505_2; replace p505 := eq_true p505; replace q505 := eq_true q505; have ea_ := Option.some.inj (hx504_2.symm.trans hx505_2); injection ea_ with ea_ en_ ec_; subst ea_; subst ec_; clear en_; have p506 : 0 ≤ (a1 : Int) := oD; have q506 : a1 < (((rd_T98 l0_7 x6_1).f2).length : Int) := oD; obtain ⟨ad506, e506, hx506_0⟩ := Kd.at_int HR505_2.out a1 p506 q506; have hw506_0 := hx506_0
    cases e506
    replace hx506_0 := cU HB hx506_0; replace p506 := eq_true p506; replace q506 := eq_true q506; (refine start_ (n := 19) (S := fun w' => w'.cell? ⟨gb503, 0, none⟩ = some (.int .i64 a0_0) ∧ w'.cell? ⟨gb503, 1, none⟩ = some (.int .i64 a0_1) ∧ w'.cell? ⟨gb503, 2, none⟩ = some (.int .i64 a0_2) ∧ w'.cell? ⟨gb503, 3, none⟩ = some (.int .i64 a0_3) ∧ w'.cell? ⟨gb503, 4, none⟩ = some (.int .i64 a0_4) ∧ w'.cell? ⟨gb503, 5, none⟩ = some (.int .i64 a0_5) ∧ w'.cell? ⟨gb503, 6, none⟩ = some (.int .i64 a0_6) ∧ w'.cell? ⟨gb503, 7, none⟩ = some (.slice (some ad504) l0_7.length c0_7) ∧ w'.cell? ⟨gb503, 8, none⟩ = some (.slice A0_8 l0_8.length c0_8) ∧ w'.cell? (ad504.add ((x6_1).toNat * 3)) = some (.int .i32 ((rd_T98 l0_7 x6_1).f0)) ∧ w'.cell? ⟨(ad504.add ((x6_1).toNat * 3)).block, (ad504.add ((x6_1).toNat * 3)).off + 1, none⟩ = some (.int .u32 ((rd_T98 l0_7 x6_1).f1)) ∧ w'.cell? ⟨(ad504.add ((x6_1).toNat * 3)).block, (ad504.add ((x6_1).toNat * 3)).off + 2, none⟩ = some (.slice (some ad506) ((rd_T98 l0_7 x6_1).f2).length c504_2) ∧ w'.cell? (ad504.add ((x6_1).toNat * 3)) = some (.int .i32 ((rd_T98 l0_7 x6_1).f0)) ∧ w'.cell? ⟨(ad504.add ((x6_1).toNat * 3)).block, (ad504.add ((x6_1).toNat * 3)).off + 1, none⟩ = some (.int .u32 ((rd_T98 l0_7 x6_1).f1)) ∧ w'.cell? ⟨(ad504.add ((x6_1).toNat * 3)).block, (ad504.add ((x6_1).toNat * 3)).off + 2, none⟩ = some (.slice (some ad506) ((rd_T98 l0_7 x6_1).f2).length c504_2) ∧ w'.cell? (ad506.add (a1).toNat) = some (.int .i64 (rd ((rd_T98 l0_7 x6_1).f2) a1))) (ds := []) (bA 19 0) (by kernel_rfl) rfl (by kernel_rfl) ⟨(blk_cell BK503.out 0).trans rfl, (blk_cell BK503.out 1).trans rfl, (blk_cell BK503.out 2).trans rfl, (blk_cell BK503.out 3).trans rfl, (blk_cell BK503.out 4).trans rfl, (blk_cell BK503.out 5).trans rfl, (blk_cell BK503.out 6).trans rfl, (blk_cell BK503.out 7).trans rfl, (blk_cell BK503.out 8).trans rfl, ((HB.out.cell (World.block_lt_of_cell? w _ hw504_0)).trans hw504_0), ((HB.out.cell (World.block_lt_of_cell? w _ hw504_1)).trans hw504_1), ((HB.out.cell (World.block_lt_of_cell? w _ hw504_2)).trans hw504_2), ((HB.out.cell (World.block_lt_of_cell? w _ hw505_0)).trans hw505_0), ((HB.out.cell (World.block_lt_of_cell? w _ hw505_1)).trans hw505_1), ((HB.out.cell (World.block_lt_of_cell? w _ hw505_2)).trans hw505_2), ((HB.out.cell (World.block_lt_of_cell? w _ hw506_0)).trans hw506_0)⟩ (fun hHeld => ?_); refine with_tabW credenzaref08_Page_Key.tab5 credenzaref08_Page_Key.bits5 (fun HT_ HW_ => ?_)); generalize wr.drew = w11 at HO_5 BK503 HB HR504_2 HR505_2 hx504_0 hx504_1 hx504_2 hx505_0 hx505_1 hx505_2 hx506_0 hHeld ⊢
    refine pT 19 0 14 1 HT_ (h := ?_)
    refine pT 19 1 15 3 HT_ (h := ?_)
    refine pT 19 3 17 11 HT_ (h := ?_)
    refine pT 19 6 20 75 HT_ (h := ?_)
    refine pT 19 8 22 331 HT_ (h := ?_)
    refine pT 19 12 26 4427 HT_ (h := ?_)
    refine tT 19 2 16 4431 HT_ HW_ hHeld (h := ?_)
    refine pT 19 4 18 4447 HT_ (h := ?_)
    refine tT 19 5 19 4479 HT_ HW_ hHeld (h := ?_)
    refine tT 19 7 21 4607 HT_ HW_ hHeld (h := ?_)
    refine pT 19 9 23 5119 HT_ (h := ?_)
    refine pT 19 10 24 6143 HT_ (h := ?_)
    refine tT 19 11 25 8191 HT_ HW_ hHeld (h := ?_)
    refine pT 19 13 27 16383 HT_ (h := ?_)
    refine tT 19 14 28 32767 HT_ HW_ hHeld (h := ?_)
    refine one_ (i := 15) (N := some 29) (bA 19 65535) rfl rfl (one_of HT_.out (by kernel_rfl)) (by decide) (fun K hK => ?_)
    refine gA Try.func83 #[.agg #[.int .i32 ((rd_T98 l0_7 x6_1).f0), .int .u32 ((rd_T98 l0_7 x6_1).f1), .slice (some ad506) ((rd_T98 l0_7 x6_1).f2).length c504_2], .int .i64 (rd ((rd_T98 l0_7 x6_1).f2) a1)] (h := ?_)
    with_reducible refine (credenzaref07_One.calls ((rd_T98 l0_7 x6_1).f0) ((rd_T98 l0_7 x6_1).f1) _ _ ((rd_T98 l0_7 x6_1).f2) (rd ((rd_T98 l0_7 x6_1).f2) a1) t507 _ ?side1 ?side2 A8.out).mono ?_
    (case side1 => with_reducible exact (Kd.C_below HR504_2.out HB.out)); (case side2 => exact HC504_2.out); rintro e w12 ⟨rfl, hb⟩
    refine ⟨_, rfl, ?_⟩
    replace HO_5 := Aside0.mk (Kd.R_below (by (with_reducible repeat (first | apply Kd.R_alloc | apply Kd.R_drewN | apply Kd.R_drew)); exact HO_5.out) hb); replace BK503 := Aside0.mk (blk_below (g := gb503) (o := .cells #[.int .i64 a0_0, .int .i64 a0_1, .int .i64 a0_2, .int .i64 a0_3, .int .i64 a0_4, .int .i64 a0_5, .int .i64 a0_6, .slice (some ad504) l0_7.length c0_7, .slice A0_8 l0_8.length c0_8] 56 (0, 0)) (by (with_reducible repeat (first | refine blk_drewN ?_ _ | refine blk_drew ?_ | refine blk_alloc ?_ _)); exact BK503.out) hb); replace HB := Aside0.mk (below_step bZ hb); (try clear hb); (try clear hb2); (try clear hk); (try clear hi)
    refine hK.out _ _ ⟨(blk_cell BK503.out 0).trans rfl, (blk_cell BK503.out 1).trans rfl, (blk_cell BK503.out 2).trans rfl, (blk_cell BK503.out 3).trans rfl, (blk_cell BK503.out 4).trans rfl, (blk_cell BK503.out 5).trans rfl, (blk_cell BK503.out 6).trans rfl, (blk_cell BK503.out 7).trans rfl, (blk_cell BK503.out 8).trans rfl, ((HB.out.cell (World.block_lt_of_cell? w _ hw504_0)).trans hw504_0), ((HB.out.cell (World.block_lt_of_cell? w _ hw504_1)).trans hw504_1), ((HB.out.cell (World.block_lt_of_cell? w _ hw504_2)).trans hw504_2), ((HB.out.cell (World.block_lt_of_cell? w _ hw505_0)).trans hw505_0), ((HB.out.cell (World.block_lt_of_cell? w _ hw505_1)).trans hw505_1), ((HB.out.cell (World.block_lt_of_cell? w _ hw505_2)).trans hw505_2), ((HB.out.cell (World.block_lt_of_cell? w _ hw506_0)).trans hw506_0)⟩ (fun hHeld => ?_)
    clear hK K
    refine nT 29 (h := ?_)
    refine one_ (i := 16) (N := some 30) (bA 19 131071) rfl rfl (one_of HT_.out (by kernel_rfl)) (by decide) (fun K hK => ?_)
    refine value_ (w1 := ?_) (v := ?_) (by rfl) rfl ?_ ?_
    rotate_left 2
    ·
     go_simp
     constructor
     ·
      rfl
     ·
      rfl
    refine hK.out _ _ ⟨(blk_cell (blk_alloc BK503.out _) 0).trans rfl, (blk_cell (blk_alloc BK503.out _) 1).trans rfl, (blk_cell (blk_alloc BK503.out _) 2).trans rfl, (blk_cell (blk_alloc BK503.out _) 3).trans rfl, (blk_cell (blk_alloc BK503.out _) 4).trans rfl, (blk_cell (blk_alloc BK503.out _) 5).trans rfl, (blk_cell (blk_alloc BK503.out _) 6).trans rfl, (blk_cell (blk_alloc BK503.out _) 7).trans rfl, (blk_cell (blk_alloc BK503.out _) 8).trans rfl, (World.cell?_alloc_lt _ _ _ (World.block_lt_of_cell? _ _ (((HB.out.cell (World.block_lt_of_cell? w _ hw504_0)).trans hw504_0)))).trans (((HB.out.cell (World.block_lt_of_cell? w _ hw504_0)).trans hw504_0)), (World.cell?_alloc_lt _ _ _ (World.block_lt_of_cell? _ _ (((HB.out.cell (World.block_lt_of_cell? w _ hw504_1)).trans hw504_1)))).trans (((HB.out.cell (World.block_lt_of_cell? w _ hw504_1)).trans hw504_1)), (World.cell?_alloc_lt _ _ _ (World.block_lt_of_cell? _ _ (((HB.out.cell (World.block_lt_of_cell? w _ hw504_2)).trans hw504_2)))).trans (((HB.out.cell (World.block_lt_of_cell? w _ hw504_2)).trans hw504_2)), (World.cell?_alloc_lt _ _ _ (World.block_lt_of_cell? _ _ (((HB.out.cell (World.block_lt_of_cell? w _ hw505_0)).trans hw505_0)))).trans (((HB.out.cell (World.block_lt_of_cell? w _ hw505_0)).trans hw505_0)), (World.cell?_alloc_lt _ _ _ (World.block_lt_of_cell? _ _ (((HB.out.cell (World.block_lt_of_cell? w _ hw505_1)).trans hw505_1)))).trans (((HB.out.cell (World.block_lt_of_cell? w _ hw505_1)).trans hw505_1)), (World.cell?_alloc_lt _ _ _ (World.block_lt_of_cell? _ _ (((HB.out.cell (World.block_lt_of_cell? w _ hw505_2)).trans hw505_2)))).trans (((HB.out.cell (World.block_lt_of_cell? w _ hw505_2)).trans hw505_2)), (World.cell?_alloc_lt _ _ _ (World.block_lt_of_cell? _ _ (((HB.out.cell (World.block_lt_of_cell? w _ hw506_0)).trans hw506_0)))).trans (((HB.out.cell (World.block_lt_of_cell? w _ hw506_0)).trans hw506_0))⟩ (fun hHeld => ?_)
    clear hK K
    refine nT 30 (h := ?_)
    refine one_ (i := 17) (N := some 31) (bA 19 262143) rfl rfl (one_of HT_.out (by kernel_rfl)) (by decide) (fun K hK => ?_)
    refine Kd.R_append_step (Kd.int .i32) (w0 := w) w.heap.size (by rfl) (.tmp 14) (.tmp 30) 43 21 (.int .i32 0) 4 rfl Try.underlying43 info21 rfl (by decide) (by omega) u5 x5_1 t507 [.int .i32 t507] (fun _ => True) (fun _ => False) rfl rfl ?aP (fun _ hk => hk.elim) ?aF ?aO ?aB ?aS ?aL ?_
    (case aP => exact rfl); (case aB => exact bZ); (case aF => exact (fun _ _ => trivial)); (case aO => exact (by (with_reducible repeat (first | apply Kd.R_alloc | apply Kd.R_drewN | apply Kd.R_drew)); exact HO_5.out)); (case aS => exact (below_size bZ)); (case aL => have := LMc9.out; omega); intro v509 w13 ho hb hg hat; rw [← Ny508.out] at ho; have n0_ := Aside0.mk (blk_grown (g := gb503) (o := .cells #[.int .i64 a0_0, .int .i64 a0_1, .int .i64 a0_2, .int .i64 a0_3, .int .i64 a0_4, .int .i64 a0_5, .int .i64 a0_6, .slice (some ad504) l0_7.length c0_7, .slice A0_8 l0_8.length c0_8] 56 (0, 0)) (by (with_reducible repeat (first | refine blk_drewN ?_ _ | refine blk_drew ?_ | refine blk_alloc ?_ _)); exact BK503.out) hg (Kd.R_ne HO_5.out BK503.out (by decide))); have n1_ := Aside0.mk (hb); have n2_ := Aside0.mk (ho); clear BK503; clear HB; clear HO_5; have BK503 := n0_; have HB := n1_; have HO510 := n2_; clear n0_ n1_ n2_; clear ho hb hg hat
    refine hK.out _ _ ⟨(blk_cell BK503.out 0).trans rfl, (blk_cell BK503.out 1).trans rfl, (blk_cell BK503.out 2).trans rfl, (blk_cell BK503.out 3).trans rfl, (blk_cell BK503.out 4).trans rfl, (blk_cell BK503.out 5).trans rfl, (blk_cell BK503.out 6).trans rfl, (blk_cell BK503.out 7).trans rfl, (blk_cell BK503.out 8).trans rfl, ((HB.out.cell (World.block_lt_of_cell? w _ hw504_0)).trans hw504_0), ((HB.out.cell (World.block_lt_of_cell? w _ hw504_1)).trans hw504_1), ((HB.out.cell (World.block_lt_of_cell? w _ hw504_2)).trans hw504_2), ((HB.out.cell (World.block_lt_of_cell? w _ hw505_0)).trans hw505_0), ((HB.out.cell (World.block_lt_of_cell? w _ hw505_1)).trans hw505_1), ((HB.out.cell (World.block_lt_of_cell? w _ hw505_2)).trans hw505_2), ((HB.out.cell (World.block_lt_of_cell? w _ hw506_0)).trans hw506_0)⟩ (fun hHeld => ?_)
    clear hK K
    refine nT 31 (h := ?_)
    refine pT 19 18 5 524287 HT_ (h := ?_)
    refine done_ (done_of HT_.out (by kernel_rfl)) ?_
    try go_wp2
    go_roundg k1
    case measure => have := HK1.out; omega
    case rel => exact ⟨(y508), (wrap64 (x6_1 + 1)), rfl, H', ⟨by have := HK1.out; omega⟩, HO510, BK503, HB⟩
   ·
    rw [if_neg c4] at H; have c4b0 : decide (x6_1 < (l0_7.length : Int)) = false := decide_eq_false c4; clear c4; obtain rfl := Option.some.inj H; have hz14 := bx9 BK503.out
    go_wp2
    go_ret
    exact ⟨_, rfl, HO_5.out, HB.out⟩

end Go.Proofs.Ytekenaclmplocaa.PPageQuantizes
