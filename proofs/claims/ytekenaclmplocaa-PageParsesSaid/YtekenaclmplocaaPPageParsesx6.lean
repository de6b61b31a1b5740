-- Written by a program of this session (wip/tools/mkprint.py over the kit's print).
import Derived.Test.YtekenaclmplocaaPPageParsesx0
import Derived.Test.YtekenaclmplocaaPPageParsesx3
namespace Go.Proofs.Ytekenaclmplocaa.PPageParses
open Go.RowKit Go.Proofs.YtekenaclmplocaaW.PrintWords Go.Proofs.YtekenaclmplocaaW.PrintLast Go.Proofs.YtekenaclmplocaaW.PrintMore
attribute [local go_sem] max2_int min2_int max_two min_two max_three min_three max_four min_four
set_option linter.unusedVariables false
set_option maxHeartbeats 8000000
set_option maxRecDepth 100000
set_option linter.unusedSimpArgs false

def F65.l0 : Nat → List Int → Int → Int → Option (Int)
 | 0, _, _, _ => none
 | k + 1, x0, x3, x4 => if x4 < (x0.length : Int) then (if 0 ≤ x4 then (F65.l0 k x0 (mn x3 (rd x0 x4)) (wrap64 (x4 + 1))) else (none)) else (some x3)
def F65.f (k : Nat) (l0 : List Int) : Option (Int) := if (l0.length : Int) < 1 then (none) else (if 0 < (l0.length : Int) then (F65.l0 k l0 (rd l0 0) 1) else (none))
theorem F65.mono_l : ∀ k, (∀ y0 y1 y2, LeO (F65.l0 k y0 y1 y2) (F65.l0 (k + 1) y0 y1 y2))
 | 0 => fun _ _ _ r h => by simp [F65.l0] at h
 | k + 1 => by
  have ih0 := F65.mono_l k
  ·
   intro y0 y1 y2; unfold F65.l0
   repeat' with_reducible first | exact ih0 _ _ _ | exact LeO.refl _ | exact LeO.none _ | refine LeO.ite ?_ ?_ | refine LeO.bind ?_ (fun _ => ?_)
theorem F65.mono : ∀ a0 k, LeO (F65.f k a0) (F65.f (k + 1) a0) := by
 intro a0 k; have ih0 := F65.mono_l k; unfold F65.f
 repeat' with_reducible first | exact ih0 _ _ _ | exact LeO.refl _ | exact LeO.none _ | refine LeO.ite ?_ ?_ | refine LeO.bind ?_ (fun _ => ?_)
theorem F65.calls (k : Nat) (A0 : Option Addr) (c0 : Nat) (l0 : List Int) (r : Int) (w : World) (hr0 : Kd.C (Kd.int .i32) w A0 l0.length l0) (hc0 : l0.length ≤ c0) (h : F65.f k l0 = some r) :
  Calls Try.prog 65 #[.slice A0 l0.length c0] w fun e w' => e = .returned (.int .i32 r) ∧ Below w.heap.size w w' := by
 have HR0 := aM hr0; have HC0 := aM hc0; clear hr0 hc0; have HB := aM (Below.refl w.heap.size w); have H := h; clear h; unfold F65.f at H; obtain ⟨c2, H⟩ := ifn H; have c2b0 : decide ((l0.length : Int) < 1) = false := dF c2; have c2b1 : decide (l0.length < 1) = false := dF (by omega); clear c2; obtain ⟨c3, H⟩ := ifp H; have c3b0 : decide (0 < (l0.length : Int)) = true := dT c3; have c3b1 : decide (0 < l0.length) = true := dT (by omega); clear c3; have H' := aM H; clear H; have p141 : 0 ≤ (0 : Int) := (by omega); have q141 : 0 < (l0.length : Int) := oD; obtain ⟨ad141, e141, hx141_0⟩ := Kd.at_int HR0.out 0 p141 q141
 cases e141
 have qi141 : (0 < l0.length) = True := eq_true (by omega); (try rw [show ((0 : Int)).toNat = 0 from rfl] at hx141_0); (try rw [Addr.add_zero'] at hx141_0); replace p141 := eq_true p141; replace q141 := eq_true q141
 go_enter Try.func65, Try.ntmps65
 go_wp2
 go_loopg [3, 4] k (fun kq v3 v4 w' => ∃ (x3_1 : Int) (x4_1 : Int), v3 = .int .i32 x3_1 ∧ v4 = .int .i64 x4_1 ∧ Aside0 (F65.l0 kq l0 x3_1 x4_1 = some r) ∧ Aside0 (kq ≤ k) ∧ Aside0 (Below w.heap.size w w'))
 case atStart => exact ⟨(rd l0 0), (1), rfl, rfl, H', ⟨Nat.le_refl _⟩, HB⟩
 case round =>
  clear H'; (try clear p1); (try clear q1); (try clear hx1); (try clear qi1); (try clear c2); (try clear c2b0); (try clear c2b1); (try clear p2); (try clear c3); (try clear c3b0); (try clear c3b1); (try clear hx141_0); (try clear p141); (try clear q141); obtain ⟨x3_1, x4_1, rfl, rfl, HA, HK1, HB⟩ := hrel
  cases gk with
  | zero => exact absurd HA.out (by simp [F65.l0])
  | succ k1 =>
   have H := HA.out; clear HA; simp only [F65.l0] at H
   by_cases c4 : x4_1 < (l0.length : Int)
   ·
    rw [if_pos c4] at H; have c4b0 : decide (x4_1 < (l0.length : Int)) = true := dT c4; clear c4; obtain ⟨c5, H⟩ := ifp H; have c5b0 : decide (0 ≤ x4_1) = true := dT c5; clear c5; obtain ⟨ji6, hji6⟩ : ∃ j_ : Int, (mn x3_1 (rd l0 x4_1)) = j_ := ⟨_, rfl⟩; (replace H : (F65.l0 k1 l0 ji6 (wrap64 (x4_1 + 1))) = some r := by first | (rw [hji6] at H; exact H) | (simp only [hji6] at H ⊢; exact H)); have hji6_ : (if (rd l0 x4_1) < x3_1 then (rd l0 x4_1) else x3_1) = ji6 := hji6; have H' := aM H; clear H; have p142 : 0 ≤ (x4_1 : Int) := oD; have q142 : x4_1 < (l0.length : Int) := oD; obtain ⟨ad142, e142, hx142_0⟩ := Kd.at_int HR0.out x4_1 p142 q142; obtain rfl : ad141 = ad142 := (by injection e142); replace hx142_0 := cU HB hx142_0; replace p142 := eq_true p142; replace q142 := eq_true q142
    go_wp2
    go_roundg k1
    case measure => have := HK1.out; omega
    case rel => exact ⟨(ji6), (wrap64 (x4_1 + 1)), (by first | rfl | (simp; done) | (simp only [← hji6] <;> (first | rfl | simp)) | (simp [*]; done)), rfl, H', ⟨by have := HK1.out; omega⟩, HB⟩
   ·
    rw [if_neg c4] at H; have c4b0 : decide (x4_1 < (l0.length : Int)) = false := dF c4; clear c4; obtain rfl := oI H
    go_wp2
    go_ret
    exact ⟨rfl, HB.out⟩

def F66.l0 : Nat → List Int → Int → Int → Option (Int)
 | 0, _, _, _ => none
 | k + 1, x0, x3, x4 => if x4 < (x0.length : Int) then (if 0 ≤ x4 then (F66.l0 k x0 (mx x3 (rd x0 x4)) (wrap64 (x4 + 1))) else (none)) else (some x3)
def F66.f (k : Nat) (l0 : List Int) : Option (Int) := if (l0.length : Int) < 1 then (none) else (if 0 < (l0.length : Int) then (F66.l0 k l0 (rd l0 0) 1) else (none))
theorem F66.mono_l : ∀ k, (∀ y0 y1 y2, LeO (F66.l0 k y0 y1 y2) (F66.l0 (k + 1) y0 y1 y2))
 | 0 => fun _ _ _ r h => by simp [F66.l0] at h
 | k + 1 => by
  have ih0 := F66.mono_l k
  ·
   intro y0 y1 y2; unfold F66.l0
   repeat' with_reducible first | exact ih0 _ _ _ | exact LeO.refl _ | exact LeO.none _ | refine LeO.ite ?_ ?_ | refine LeO.bind ?_ (fun _ => ?_)
theorem F66.mono : ∀ a0 k, LeO (F66.f k a0) (F66.f (k + 1) a0) := by
 intro a0 k; have ih0 := F66.mono_l k; unfold F66.f
 repeat' with_reducible first | exact ih0 _ _ _ | exact LeO.refl _ | exact LeO.none _ | refine LeO.ite ?_ ?_ | refine LeO.bind ?_ (fun _ => ?_)
theorem F66.calls (k : Nat) (A0 : Option Addr) (c0 : Nat) (l0 : List Int) (r : Int) (w : World) (hr0 : Kd.C (Kd.int .i32) w A0 l0.length l0) (hc0 : l0.length ≤ c0) (h : F66.f k l0 = some r) :
  Calls Try.prog 66 #[.slice A0 l0.length c0] w fun e w' => e = .returned (.int .i32 r) ∧ Below w.heap.size w w' := by
 have HR0 := aM hr0; have HC0 := aM hc0; clear hr0 hc0; have HB := aM (Below.refl w.heap.size w); have H := h; clear h; unfold F66.f at H; obtain ⟨c2, H⟩ := ifn H; have c2b0 : decide ((l0.length : Int) < 1) = false := dF c2; have c2b1 : decide (l0.length < 1) = false := dF (by omega); clear c2; obtain ⟨c3, H⟩ := ifp H; have c3b0 : decide (0 < (l0.length : Int)) = true := dT c3; have c3b1 : decide (0 < l0.length) = true := dT (by omega); clear c3; have H' := aM H; clear H; have p143 : 0 ≤ (0 : Int) := (by omega); have q143 : 0 < (l0.length : Int) := oD; obtain ⟨ad143, e143, hx143_0⟩ := Kd.at_int HR0.out 0 p143 q143
 cases e143
 have qi143 : (0 < l0.length) = True := eq_true (by omega); (try rw [show ((0 : Int)).toNat = 0 from rfl] at hx143_0); (try rw [Addr.add_zero'] at hx143_0); replace p143 := eq_true p143; replace q143 := eq_true q143
 go_enter Try.func66, Try.ntmps66
 go_wp2
 go_loopg [3, 4] k (fun kq v3 v4 w' => ∃ (x3_1 : Int) (x4_1 : Int), v3 = .int .i32 x3_1 ∧ v4 = .int .i64 x4_1 ∧ Aside0 (F66.l0 kq l0 x3_1 x4_1 = some r) ∧ Aside0 (kq ≤ k) ∧ Aside0 (Below w.heap.size w w'))
 case atStart => exact ⟨(rd l0 0), (1), rfl, rfl, H', ⟨Nat.le_refl _⟩, HB⟩
 case round =>
  clear H'; (try clear p1); (try clear q1); (try clear hx1); (try clear qi1); (try clear c2); (try clear c2b0); (try clear c2b1); (try clear p2); (try clear c3); (try clear c3b0); (try clear c3b1); (try clear hx143_0); (try clear p143); (try clear q143); obtain ⟨x3_1, x4_1, rfl, rfl, HA, HK1, HB⟩ := hrel
  cases gk with
  | zero => exact absurd HA.out (by simp [F66.l0])
  | succ k1 =>
   have H := HA.out; clear HA; simp only [F66.l0] at H
   by_cases c4 : x4_1 < (l0.length : Int)
   ·
    rw [if_pos c4] at H; have c4b0 : decide (x4_1 < (l0.length : Int)) = true := dT c4; clear c4; obtain ⟨c5, H⟩ := ifp H; have c5b0 : decide (0 ≤ x4_1) = true := dT c5; clear c5; obtain ⟨ji6, hji6⟩ : ∃ j_ : Int, (mx x3_1 (rd l0 x4_1)) = j_ := ⟨_, rfl⟩; (replace H : (F66.l0 k1 l0 ji6 (wrap64 (x4_1 + 1))) = some r := by first | (rw [hji6] at H; exact H) | (simp only [hji6] at H ⊢; exact H)); have hji6_ : (if x3_1 < (rd l0 x4_1) then (rd l0 x4_1) else x3_1) = ji6 := hji6; have H' := aM H; clear H; have p144 : 0 ≤ (x4_1 : Int) := oD; have q144 : x4_1 < (l0.length : Int) := oD; obtain ⟨ad144, e144, hx144_0⟩ := Kd.at_int HR0.out x4_1 p144 q144; obtain rfl : ad143 = ad144 := (by injection e144); replace hx144_0 := cU HB hx144_0; replace p144 := eq_true p144; replace q144 := eq_true q144
    go_wp2
    go_roundg k1
    case measure => have := HK1.out; omega
    case rel => exact ⟨(ji6), (wrap64 (x4_1 + 1)), (by first | rfl | (simp; done) | (simp only [← hji6] <;> (first | rfl | simp)) | (simp [*]; done)), rfl, H', ⟨by have := HK1.out; omega⟩, HB⟩
   ·
    rw [if_neg c4] at H; have c4b0 : decide (x4_1 < (l0.length : Int)) = false := dF c4; clear c4; obtain rfl := oI H
    go_wp2
    go_ret
    exact ⟨rfl, HB.out⟩

def F67.f (a0 : Int) (a1 : Int) : Option (Int) := if a1 ≤ 0 then (some 0) else (if a1 = 0 then (none) else (if (Int.tmod a0 a1) < 0 then (if (wrap64 ((Int.tmod a0 a1) + a1)) > (wrap64 (a1 - (wrap64 ((Int.tmod a0 a1) + a1)))) then (some (wrap64 ((wrap64 ((wrap64 (Int.tdiv a0 a1)) - 1)) + 1))) else (if (wrap64 ((Int.tmod a0 a1) + a1)) = (wrap64 (a1 - (wrap64 ((Int.tmod a0 a1) + a1)))) then (if (Go.bits .and .i64 (wrap64 ((wrap64 (Int.tdiv a0 a1)) - 1)) 1) = 0 then (some (wrap64 ((wrap64 (Int.tdiv a0 a1)) - 1))) else (some (wrap64 ((wrap64 ((wrap64 (Int.tdiv a0 a1)) - 1)) + 1)))) else (some (wrap64 ((wrap64 (Int.tdiv a0 a1)) - 1))))) else (if (Int.tmod a0 a1) > (wrap64 (a1 - (Int.tmod a0 a1))) then (some (wrap64 ((wrap64 (Int.tdiv a0 a1)) + 1))) else (if (Int.tmod a0 a1) = (wrap64 (a1 - (Int.tmod a0 a1))) then (if (Go.bits .and .i64 (wrap64 (Int.tdiv a0 a1)) 1) = 0 then (some (wrap64 (Int.tdiv a0 a1))) else (some (wrap64 ((wrap64 (Int.tdiv a0 a1)) + 1)))) else (some (wrap64 (Int.tdiv a0 a1)))))))
theorem F67.calls (a0 : Int) (a1 : Int) (r : Int) (w : World) (h : F67.f a0 a1 = some r) :
  Calls Try.prog 67 #[.int .i64 a0, .int .i64 a1] w fun e w' => e = .returned (.int .i64 r) ∧ Drawn0 w w' := by
 have H := h; clear h; unfold F67.f at H
 by_cases c3 : a1 ≤ 0
 ·
  rw [if_pos c3] at H; have c3b0 : decide (a1 ≤ 0) = true := dT c3; clear c3; obtain rfl := oI H
  go_enter Try.func67, Try.ntmps67
  go_wp2
  repeat (go_quiet (fail); try go_wp2)
  go_ret
  exact ⟨rfl, dR⟩
 ·
  rw [if_neg c3] at H; have c3b0 : decide (a1 ≤ 0) = false := dF c3; clear c3; obtain ⟨c4, H⟩ := ifn H; have c4b0 : (a1 == 0) = false := beq_eq_false_iff_ne.mpr c4; have c4b1 : (a1 != 0) = true := bne_iff_ne.mpr c4
  by_cases c5 : (Int.tmod a0 a1) < 0
  ·
   rw [if_pos c5] at H; have c5b0 : decide ((Int.tmod a0 a1) < 0) = true := dT c5; clear c5
   by_cases c6 : (wrap64 ((Int.tmod a0 a1) + a1)) > (wrap64 (a1 - (wrap64 ((Int.tmod a0 a1) + a1))))
   ·
    rw [if_pos c6] at H; have c6b0 : decide ((wrap64 (a1 - (wrap64 ((Int.tmod a0 a1) + a1)))) < (wrap64 ((Int.tmod a0 a1) + a1))) = true := dT c6; clear c6; obtain rfl := oI H
    go_enter Try.func67, Try.ntmps67
    go_wp2
    repeat (go_quiet (fail); try go_wp2)
    go_ret
    exact ⟨rfl, dR⟩
   ·
    rw [if_neg c6] at H; have c6b0 : decide ((wrap64 (a1 - (wrap64 ((Int.tmod a0 a1) + a1)))) < (wrap64 ((Int.tmod a0 a1) + a1))) = false := dF c6; clear c6
    by_cases c7 : (wrap64 ((Int.tmod a0 a1) + a1)) = (wrap64 (a1 - (wrap64 ((Int.tmod a0 a1) + a1))))
    ·
     rw [if_pos c7] at H; have c7b0 : ((wrap64 ((Int.tmod a0 a1) + a1)) == (wrap64 (a1 - (wrap64 ((Int.tmod a0 a1) + a1))))) = true := beq_iff_eq.mpr c7; have c7b1 : ((wrap64 ((Int.tmod a0 a1) + a1)) != (wrap64 (a1 - (wrap64 ((Int.tmod a0 a1) + a1))))) = false := bne_eq_false_iff_eq.mpr c7; clear c7
     by_cases c8 : (Go.bits .and .i64 (wrap64 ((wrap64 (Int.tdiv a0 a1)) - 1)) 1) = 0
     ·
      rw [if_pos c8] at H; have c8b0 : ((Go.bits .and .i64 (wrap64 ((wrap64 (Int.tdiv a0 a1)) - 1)) 1) == 0) = true := beq_iff_eq.mpr c8; have c8b1 : ((Go.bits .and .i64 (wrap64 ((wrap64 (Int.tdiv a0 a1)) - 1)) 1) != 0) = false := bne_eq_false_iff_eq.mpr c8; clear c8; obtain rfl := oI H
      go_enter Try.func67, Try.ntmps67
      go_wp2
      repeat (go_quiet (fail); try go_wp2)
      go_ret
      exact ⟨rfl, dR⟩
     ·
      rw [if_neg c8] at H; have c8b0 : ((Go.bits .and .i64 (wrap64 ((wrap64 (Int.tdiv a0 a1)) - 1)) 1) == 0) = false := beq_eq_false_iff_ne.mpr c8; have c8b1 : ((Go.bits .and .i64 (wrap64 ((wrap64 (Int.tdiv a0 a1)) - 1)) 1) != 0) = true := bne_iff_ne.mpr c8; obtain rfl := oI H
      go_enter Try.func67, Try.ntmps67
      go_wp2
      repeat (go_quiet (fail); try go_wp2)
      go_ret
      exact ⟨rfl, dR⟩
    ·
     rw [if_neg c7] at H; have c7b0 : ((wrap64 ((Int.tmod a0 a1) + a1)) == (wrap64 (a1 - (wrap64 ((Int.tmod a0 a1) + a1))))) = false := beq_eq_false_iff_ne.mpr c7; have c7b1 : ((wrap64 ((Int.tmod a0 a1) + a1)) != (wrap64 (a1 - (wrap64 ((Int.tmod a0 a1) + a1))))) = true := bne_iff_ne.mpr c7; obtain rfl := oI H
     go_enter Try.func67, Try.ntmps67
     go_wp2
     repeat (go_quiet (fail); try go_wp2)
     go_ret
     exact ⟨rfl, dR⟩
  ·
   rw [if_neg c5] at H; have c5b0 : decide ((Int.tmod a0 a1) < 0) = false := dF c5; clear c5
   by_cases c9 : (Int.tmod a0 a1) > (wrap64 (a1 - (Int.tmod a0 a1)))
   ·
    rw [if_pos c9] at H; have c9b0 : decide ((wrap64 (a1 - (Int.tmod a0 a1))) < (Int.tmod a0 a1)) = true := dT c9; clear c9; obtain rfl := oI H
    go_enter Try.func67, Try.ntmps67
    go_wp2
    repeat (go_quiet (fail); try go_wp2)
    go_ret
    exact ⟨rfl, dR⟩
   ·
    rw [if_neg c9] at H; have c9b0 : decide ((wrap64 (a1 - (Int.tmod a0 a1))) < (Int.tmod a0 a1)) = false := dF c9; clear c9
    by_cases c10 : (Int.tmod a0 a1) = (wrap64 (a1 - (Int.tmod a0 a1)))
    ·
     rw [if_pos c10] at H; have c10b0 : ((Int.tmod a0 a1) == (wrap64 (a1 - (Int.tmod a0 a1)))) = true := beq_iff_eq.mpr c10; have c10b1 : ((Int.tmod a0 a1) != (wrap64 (a1 - (Int.tmod a0 a1)))) = false := bne_eq_false_iff_eq.mpr c10; clear c10
     by_cases c11 : (Go.bits .and .i64 (wrap64 (Int.tdiv a0 a1)) 1) = 0
     ·
      rw [if_pos c11] at H; have c11b0 : ((Go.bits .and .i64 (wrap64 (Int.tdiv a0 a1)) 1) == 0) = true := beq_iff_eq.mpr c11; have c11b1 : ((Go.bits .and .i64 (wrap64 (Int.tdiv a0 a1)) 1) != 0) = false := bne_eq_false_iff_eq.mpr c11; clear c11; obtain rfl := oI H
      go_enter Try.func67, Try.ntmps67
      go_wp2
      repeat (go_quiet (fail); try go_wp2)
      go_ret
      exact ⟨rfl, dR⟩
     ·
      rw [if_neg c11] at H; have c11b0 : ((Go.bits .and .i64 (wrap64 (Int.tdiv a0 a1)) 1) == 0) = false := beq_eq_false_iff_ne.mpr c11; have c11b1 : ((Go.bits .and .i64 (wrap64 (Int.tdiv a0 a1)) 1) != 0) = true := bne_iff_ne.mpr c11; obtain rfl := oI H
      go_enter Try.func67, Try.ntmps67
      go_wp2
      repeat (go_quiet (fail); try go_wp2)
      go_ret
      exact ⟨rfl, dR⟩
    ·
     rw [if_neg c10] at H; have c10b0 : ((Int.tmod a0 a1) == (wrap64 (a1 - (Int.tmod a0 a1)))) = false := beq_eq_false_iff_ne.mpr c10; have c10b1 : ((Int.tmod a0 a1) != (wrap64 (a1 - (Int.tmod a0 a1)))) = true := bne_iff_ne.mpr c10; obtain rfl := oI H
     go_enter Try.func67, Try.ntmps67
     go_wp2
     repeat (go_quiet (fail); try go_wp2)
     go_ret
     exact ⟨rfl, dR⟩

def F34.l0 : Nat → Int → Int → List Int → Int → Int → Int → Int → List Int → Option (Int × Int × List Int × Int)
 | 0, _, _, _, _, _, _, _, _ => none
 | k + 1, x7, x10, x47, x48, x49, x153000, x153001, x153002 => if x49 < x48 then (if 0 ≤ x49 then (if x49 < (x47.length : Int) then ((F67.f (wrap64 ((wrap64 (rd x47 x49)) - x7)) x10).bind fun t154 => (if x49 < (x153002.length : Int) then (F34.l0 k x7 x10 x47 x48 (wrap64 (x49 + 1)) x153000 x153001 (x153002.set (x49 : Int).toNat t154)) else (none))) else (none)) else (none)) else (some (x153000, x153001, x153002, 0))
def F34.f (k : Nat) (l0 : List Int) (a1 : Int) : Option (Int × Int × List Int × Int) := (F64.f (l0.length : Int) a1).bind fun t146 => (if t146 = 0 then ((F65.f k l0).bind fun t147 => ((F66.f k l0).bind fun t148 => (if 0 ≤ a1 then (if (wrap64 ((shl .i64 1 a1) - 1)) = 0 then (none) else (if 0 ≤ (l0.length : Int) then (if ((l0.length : Int) : Int).toNat ≤ 35184372088832 then (F34.l0 k (wrap64 (t147)) (wrap64 (Int.tdiv (wrap64 ((wrap64 ((wrap64 ((wrap64 (t148)) - (wrap64 (t147)))) + (wrap64 ((shl .i64 1 a1) - 1)))) - 1)) (wrap64 ((shl .i64 1 a1) - 1)))) l0 (l0.length : Int) 0 (wrap32 (wrap64 (t147))) ((wrap64 (Int.tdiv (wrap64 ((wrap64 ((wrap64 ((wrap64 (t148)) - (wrap64 (t147)))) + (wrap64 ((shl .i64 1 a1) - 1)))) - 1)) (wrap64 ((shl .i64 1 a1) - 1)))) % 4294967296) (List.replicate ((l0.length : Int) : Int).toNat 0)) else (none)) else (none))) else (none)))) else (some (0, 0, ([] : List Int), t146)))
theorem F34.mono_l : ∀ k, (∀ y0 y1 y2 y3 y4 y5 y6 y7, LeO (F34.l0 k y0 y1 y2 y3 y4 y5 y6 y7) (F34.l0 (k + 1) y0 y1 y2 y3 y4 y5 y6 y7))
 | 0 => fun _ _ _ _ _ _ _ _ r h => by simp [F34.l0] at h
 | k + 1 => by
  have ih0 := F34.mono_l k
  ·
   intro y0 y1 y2 y3 y4 y5 y6 y7; unfold F34.l0
   repeat' with_reducible first | exact ih0 _ _ _ _ _ _ _ _ | exact F66.mono _ _ | exact F65.mono _ _ | exact LeO.refl _ | exact LeO.none _ | refine LeO.ite ?_ ?_ | refine LeO.bind ?_ (fun _ => ?_)
theorem F34.mono : ∀ a0 a1 k, LeO (F34.f k a0 a1) (F34.f (k + 1) a0 a1) := by
 intro a0 a1 k; have ih0 := F34.mono_l k; unfold F34.f
 repeat' with_reducible first | exact ih0 _ _ _ _ _ _ _ _ | exact F66.mono _ _ | exact F65.mono _ _ | exact LeO.refl _ | exact LeO.none _ | refine LeO.ite ?_ ?_ | refine LeO.bind ?_ (fun _ => ?_)
def F34.T11 : Bool × List (List Nat × List Nat) := (true, [([], []), ([0], [0]), ([], []), ([], []), ([3], [3]), ([], []), ([4, 5], [4, 5]), ([], []), ([6, 7], [6, 7]), ([1, 2, 0, 1, 2, 3, 4, 5, 6, 7, 8], [1, 2]), ([9, 8, 8, 0, 1, 2, 3, 4, 5, 6, 7, 8], [8, 9])])
def F34.B11 : List Nat := [0, 1, 0, 0, 8, 0, 56, 0, 248, 511, 1023]
theorem F34.tab11 : rtab .any (opsOf Try.f34 11) = F34.T11 := by kernel_rfl
theorem F34.bits11 : waitsOk F34.T11.2 F34.B11 = true := by kernel_rfl
theorem F34.calls (k : Nat) (A0 : Option Addr) (c0 : Nat) (l0 : List Int) (a1 : Int) (r1 : Int) (r2 : Int) (r3 : List Int) (r4 : Int) (w : World) (hr0 : Kd.C (Kd.int .i32) w A0 l0.length l0) (hc0 : l0.length ≤ c0) (h : F34.f k l0 a1 = some (r1, r2, r3, r4)) :
  Calls Try.prog 34 #[.slice A0 l0.length c0, .int .i64 a1] w fun e w' => ∃ v2_ : Value, e = .returned (.tuple #[.agg #[.int .i32 r1, .int .u32 r2, v2_], .int .i64 r4]) ∧ Kd.R (Kd.int .i64) 3 w' w.heap.size (fun _ => True) v2_ r3 ∧ Below w.heap.size w w' := by
 have hu47 := Try.underlying47; have HR0 := aM hr0; have HC0 := aM hc0; clear hr0 hc0; have HB := aM (Below.refl w.heap.size w); have H := h; clear h; unfold F34.f at H; obtain ⟨t146, A3, H⟩ := bnd H
 by_cases c4 : t146 = 0
 ·
  rw [if_pos c4] at H; have c4b0 : (t146 == 0) = true := beq_iff_eq.mpr c4; have c4b1 : (t146 != 0) = false := bne_eq_false_iff_eq.mpr c4; clear c4; obtain ⟨t147, A5, H⟩ := bnd H; obtain ⟨t148, A6, H⟩ := bnd H; obtain ⟨c7, H⟩ := ifp H; have c7b0 := eq_true c7; have c7b1 : decide (0 ≤ a1) = true := dT c7; clear c7; obtain ⟨ji8, hji8⟩ : ∃ j_ : Int, (shl .i64 1 a1) = j_ := ⟨_, rfl⟩; (replace H : (if (wrap64 ((ji8) - 1)) = 0 then (none) else (if 0 ≤ (l0.length : Int) then (if ((l0.length : Int) : Int).toNat ≤ 35184372088832 then (F34.l0 k (wrap64 (t147)) (wrap64 (Int.tdiv (wrap64 ((wrap64 ((wrap64 ((wrap64 (t148)) - (wrap64 (t147)))) + (wrap64 ((ji8) - 1)))) - 1)) (wrap64 ((ji8) - 1)))) l0 (l0.length : Int) 0 (wrap32 (wrap64 (t147))) ((wrap64 (Int.tdiv (wrap64 ((wrap64 ((wrap64 ((wrap64 (t148)) - (wrap64 (t147)))) + (wrap64 ((ji8) - 1)))) - 1)) (wrap64 ((ji8) - 1)))) % 4294967296) (List.replicate ((l0.length : Int) : Int).toNat 0)) else (none)) else (none))) = some (r1, r2, r3, r4) := by first | (rw [hji8] at H; exact H) | (simp only [hji8] at H ⊢; exact H)); (try rw [hji8] at A3); (try rw [hji8] at A5); (try rw [hji8] at A6); have hji8_ : (IntKind.i64.wrap (1 * 2 ^ min a1.toNat 64)) = ji8 := hji8; have hji8z : a1 ≤ 64 → (IntKind.i64.wrap (1 * 2 ^ a1.toNat)) = ji8 := shl_small hji8; (have hji8u : (IntKind.i64.wrap (2 ^ min a1.toNat 64)) = ji8 := by have h_ := hji8_; rw [Int.one_mul] at h_; exact h_); (have hji8v : a1 ≤ 64 → (IntKind.i64.wrap (2 ^ a1.toNat)) = ji8 := fun hle_ => by have h_ := hji8z hle_; rw [Int.one_mul] at h_; exact h_); have hji8y : (wrap64 (1 * 2 ^ min a1.toNat 64)) = ji8 := (i64_w _).symm.trans hji8_; (have hji8x : a1 ≤ 64 → (wrap64 (1 * 2 ^ a1.toNat)) = ji8 := fun h_ => (i64_w _).symm.trans (hji8z h_)); obtain ⟨c9, H⟩ := ifn H; have c9b0 : ((wrap64 ((ji8) - 1)) == 0) = false := beq_eq_false_iff_ne.mpr c9; have c9b1 : ((wrap64 ((ji8) - 1)) != 0) = true := bne_iff_ne.mpr c9; obtain ⟨c10, H⟩ := ifp H; have c10b0 := eq_true c10; have c10b1 : decide (0 ≤ (l0.length : Int)) = true := dT c10; clear c10; obtain ⟨c11, H⟩ := ifp H; have c11b0 := eq_true c11; have c11b1 : decide (((l0.length : Int) : Int).toNat ≤ 35184372088832) = true := dT c11; clear c11; obtain ⟨y149, hy149⟩ : ∃ y_ : List Int, y_ = (List.replicate ((l0.length : Int) : Int).toNat 0) := ⟨_, rfl⟩; (replace H : (F34.l0 k (wrap64 (t147)) (wrap64 (Int.tdiv (wrap64 ((wrap64 ((wrap64 ((wrap64 (t148)) - (wrap64 (t147)))) + (wrap64 ((ji8) - 1)))) - 1)) (wrap64 ((ji8) - 1)))) l0 (l0.length : Int) 0 (wrap32 (wrap64 (t147))) ((wrap64 (Int.tdiv (wrap64 ((wrap64 ((wrap64 ((wrap64 (t148)) - (wrap64 (t147)))) + (wrap64 ((ji8) - 1)))) - 1)) (wrap64 ((ji8) - 1)))) % 4294967296) y149) = some (r1, r2, r3, r4) := by rw [hy149]; exact H); have Ny149 := aM hy149; clear hy149; have H' := aM H; clear H
  go_enter Try.func34, Try.ntmps34
  go_wp2_with (first | ((with_reducible refine gate_dst (N := 4) rfl ?_); refine bxE 4 #[.int .i32 0, .int .u32 0, .slice none 0 0] 47 (h := ?_); intro gb145 hg w12 hbox hb; have BK145 := aM (hbox); have GW145 := gE hg HB; have GE145 := gE hg HB; replace HB := bst HB hb; clear hb hbox hg) | ((with_reducible refine gate_callee (f := 64) rfl ?_); refine gL 17 Try.func64 #[.int .i64 (l0.length : Int), .int .i64 a1] (h := ?_); (with_reducible refine (F64.calls (l0.length : Int) a1 t146 _ A3.out).mono ?_); rintro e w' ⟨rfl, ⟨nd, rfl⟩⟩; refine ⟨_, rfl, ?_⟩; (try (rw [drewN_self w12]; generalize hq_ : World.drewN w12 _ = w12; have n0_ : Aside0 (w12.heap[gb145]? = some (.cells #[.int .i32 0, .int .u32 0, .slice none 0 0] 47 (0, 0))) := ⟨by rw [← hq_]; exact (bK BK145.out)⟩; have n1_ : Aside0 (Below w.heap.size w w12) := ⟨by rw [← hq_]; exact bZ⟩; clear BK145 HB hq_; have BK145 := n0_; have HB := n1_; clear n0_ n1_))) | ((with_reducible refine gate_callee (f := 65) rfl ?_); refine gL 23 Try.func65 #[.slice A0 l0.length c0] (h := ?_); (with_reducible refine (F65.calls k _ _ l0 t147 _ ?side1 ?side2 A5.out).mono ?_); (case side1 => with_reducible exact (Kd.C_below HR0.out HB.out)); (case side2 => exact HC0.out); rintro e w13 ⟨rfl, hb⟩; refine ⟨_, rfl, ?_⟩; replace BK145 := kst BK145 hb; replace HB := bst HB hb; clear hb) | ((with_reducible refine gate_callee (f := 66) rfl ?_); refine gL 26 Try.func66 #[.slice A0 l0.length c0] (h := ?_); (with_reducible refine (F66.calls k _ _ l0 t148 _ ?side1 ?side2 A6.out).mono ?_); (case side1 => with_reducible exact (Kd.C_below HR0.out HB.out)); (case side2 => exact HC0.out); rintro e w14 ⟨rfl, hb⟩; refine ⟨_, rfl, ?_⟩; replace BK145 := kst BK145 hb; replace HB := bst HB hb; clear hb) | ((with_reducible refine gate_dst (N := 45) rfl ?_); refine Kd.R_make (Kd.int .i64) _ 3 rfl (N := 45) rfl 45 _ _ rfl (l0.length : Int) rfl rfl Try.underlying45 (.int .i64 0) 8 info3 rfl (by decide) (by omega) 0 (ok := fun _ => True) (okp := fun _ => True) rfl (fun _ hk => hk) trivial oD (Nat.le_trans (Nat.mul_le_mul_right _ (oD : (l0.length : Int).toNat ≤ 35184372088832)) (by omega)) (Below.refl _ _) (Nat.le_refl _) ?_; intro v150 w15 ho16 hb hg_ hnew_; clear hg_ hnew_; (first | rw [← Ny149.out] at ho16 | (simp only [Int.reduceToNat] at ho16; rw [← Ny149.out] at ho16)); have HO151 := aM (Kd.R_lower ho16 (bsz HB)); replace BK145 := kst BK145 hb; replace HB := bst HB hb; clear hb ho16; obtain ⟨Ao17, co17, eo17⟩ := Kd.R_slice HO151.out; subst eo17) | ((with_reducible refine gate_dst (N := 11) rfl ?_); refine bxE 11 #[.int .i32 0, .int .u32 0, .slice none 0 0] 47 (h := ?_); intro gb152 hg w18 hbox hb; replace HO151 := rst HO151 hb; have BK152 := aM (hbox); have GW152 := gE hg HB; have GE152 := gE hg HB; replace HB := bst HB hb; have NB145_152 := aM ((by rw [hg]; exact Nat.ne_of_lt (blk_lt (g := gb145) (o := .cells #[.int .i32 0, .int .u32 0, .slice none 0 0] 47 (0, 0)) BK145.out) : gb145 ≠ gb152)); have NB152_145 := aM ((by rw [hg]; exact Nat.ne_of_gt (blk_lt (g := gb145) (o := .cells #[.int .i32 0, .int .u32 0, .slice none 0 0] 47 (0, 0)) BK145.out) : gb152 ≠ gb145)); replace BK145 := kst BK145 hb; clear hb hbox hg; have hnb19 := NB152_145.out; have hnc19 := NB145_152.out; have hz20 := bx3 BK152.out))
  go_loopg [49] k (fun kq v49 w' => ∃ (x49_1 : Int) (x153002_1 : List Int) (u153002 : Value), v49 = .int .i64 x49_1 ∧ Aside0 (F34.l0 kq (wrap64 (t147)) (wrap64 (Int.tdiv (wrap64 ((wrap64 ((wrap64 ((wrap64 (t148)) - (wrap64 (t147)))) + (wrap64 ((ji8) - 1)))) - 1)) (wrap64 ((ji8) - 1)))) l0 (l0.length : Int) x49_1 (wrap32 (wrap64 (t147))) ((wrap64 (Int.tdiv (wrap64 ((wrap64 ((wrap64 ((wrap64 (t148)) - (wrap64 (t147)))) + (wrap64 ((ji8) - 1)))) - 1)) (wrap64 ((ji8) - 1)))) % 4294967296) x153002_1 = some (r1, r2, r3, r4)) ∧ Aside0 (kq ≤ k) ∧ Aside0 (Kd.R (Kd.int .i64) 3 w' w.heap.size (fun _ => True) u153002 x153002_1) ∧ Aside0 (w'.heap[gb145]? = some (.cells #[.int .i32 0, .int .u32 0, (.slice none 0 0)] 47 (0, 0))) ∧ Aside0 (w'.heap[gb152]? = some (.cells #[.int .i32 (wrap32 (wrap64 (t147))), .int .u32 ((wrap64 (Int.tdiv (wrap64 ((wrap64 ((wrap64 ((wrap64 (t148)) - (wrap64 (t147)))) + (wrap64 ((ji8) - 1)))) - 1)) (wrap64 ((ji8) - 1)))) % 4294967296), u153002] 47 (0, 0))) ∧ Aside0 (Below w.heap.size w w'))
  case atStart => exact ⟨(0), (y149), (.slice Ao17 y149.length co17), rfl, H', ⟨Nat.le_refl _⟩, ⟨by (with_reducible repeat (first | apply Kd.R_alloc | apply Kd.R_drewN | apply Kd.R_drew)); exact Kd.R_mono (Kd.R_far (p := ⟨gb152, 2, none⟩) (Kd.R_far (p := ⟨gb152, 1, none⟩) (Kd.R_far (p := ⟨gb152, 0, none⟩) (Kd.R_types HO151.out BK152.out (by decide)) (fun _ hk => hk.2) (.int .i32 (wrap32 (wrap64 (t147))))) (fun _ hk => hk.2) (.int .u32 ((wrap64 (Int.tdiv (wrap64 ((wrap64 ((wrap64 ((wrap64 (t148)) - (wrap64 (t147)))) + (wrap64 ((ji8) - 1)))) - 1)) (wrap64 ((ji8) - 1)))) % 4294967296))) (fun _ hk => hk.2) (.slice Ao17 y149.length co17)) (fun _ hk => trivial)⟩, ⟨by (with_reducible repeat (first | refine blk_drewN ?_ _ | refine blk_drew ?_ | refine blk_alloc ?_ _)); refine blk_far ?_ NB145_152.out _; (with_reducible repeat (first | refine blk_drewN ?_ _ | refine blk_drew ?_ | refine blk_alloc ?_ _)); refine blk_far ?_ NB145_152.out _; (with_reducible repeat (first | refine blk_drewN ?_ _ | refine blk_drew ?_ | refine blk_alloc ?_ _)); refine blk_far ?_ NB145_152.out _; (with_reducible repeat (first | refine blk_drewN ?_ _ | refine blk_drew ?_ | refine blk_alloc ?_ _)); exact BK145.out⟩, ⟨by (with_reducible repeat (first | refine blk_drewN ?_ _ | refine blk_drew ?_ | refine blk_alloc ?_ _)); refine blk_put (cs := #[.int .i32 (wrap32 (wrap64 (t147))), .int .u32 ((wrap64 (Int.tdiv (wrap64 ((wrap64 ((wrap64 ((wrap64 (t148)) - (wrap64 (t147)))) + (wrap64 ((ji8) - 1)))) - 1)) (wrap64 ((ji8) - 1)))) % 4294967296), .slice none 0 0]) ?_ 2 _ rfl; (with_reducible repeat (first | refine blk_drewN ?_ _ | refine blk_drew ?_ | refine blk_alloc ?_ _)); refine blk_put (cs := #[.int .i32 (wrap32 (wrap64 (t147))), .int .u32 0, .slice none 0 0]) ?_ 1 _ rfl; (with_reducible repeat (first | refine blk_drewN ?_ _ | refine blk_drew ?_ | refine blk_alloc ?_ _)); refine blk_put (cs := #[.int .i32 0, .int .u32 0, .slice none 0 0]) ?_ 0 _ rfl; (with_reducible repeat (first | refine blk_drewN ?_ _ | refine blk_drew ?_ | refine blk_alloc ?_ _)); exact BK152.out⟩, ⟨bZ⟩⟩
  case round =>
   clear H'; (try clear c1); (try clear p2); (try clear c3); (try clear p3); (try clear c4); (try clear c4b0); (try clear c4b1); (try clear c6); (try clear p6); (try clear c7); (try clear c7b0); (try clear c7b1); (try clear c9); (try clear c9b0); (try clear c9b1); (try clear c10); (try clear c10b0); (try clear c10b1); (try clear c11); (try clear c11b0); (try clear c11b1); (try clear c19); (try clear hz20); obtain ⟨x49_1, x153002_1, u153002, rfl, HA, HK1, HO_153002, BK145, BK152, HB⟩ := hrel
   cases gk with
   | zero => exact absurd HA.out (by simp [F34.l0])
   | succ k1 =>
    have H := HA.out; clear HA; simp only [F34.l0] at H
    by_cases c21 : x49_1 < (l0.length : Int)
    ·
     rw [if_pos c21] at H; have c21b0 : decide (x49_1 < (l0.length : Int)) = true := dT c21; clear c21; obtain ⟨c22, H⟩ := ifp H; have c22b0 : decide (0 ≤ x49_1) = true := dT c22; clear c22; obtain ⟨c23, H⟩ := ifp H; have c23b0 : decide (x49_1 < (l0.length : Int)) = true := dT c23; clear c23; obtain ⟨t154, A24, H⟩ := bnd H; obtain ⟨c25, H⟩ := ifp H; have c25b0 : decide (x49_1 < (x153002_1.length : Int)) = true := dT c25; clear c25; obtain ⟨y155, hy155⟩ : ∃ y_ : List Int, y_ = (x153002_1.set (x49_1 : Int).toNat t154) := ⟨_, rfl⟩; (replace H : (F34.l0 k1 (wrap64 (t147)) (wrap64 (Int.tdiv (wrap64 ((wrap64 ((wrap64 ((wrap64 (t148)) - (wrap64 (t147)))) + (wrap64 ((ji8) - 1)))) - 1)) (wrap64 ((ji8) - 1)))) l0 (l0.length : Int) (wrap64 (x49_1 + 1)) (wrap32 (wrap64 (t147))) ((wrap64 (Int.tdiv (wrap64 ((wrap64 ((wrap64 ((wrap64 (t148)) - (wrap64 (t147)))) + (wrap64 ((ji8) - 1)))) - 1)) (wrap64 ((ji8) - 1)))) % 4294967296) y155) = some (r1, r2, r3, r4) := by rw [hy155]; exact H); have Ny155 := aM hy155; clear hy155; have H' := aM H; clear H; have p153 : 0 ≤ (x49_1 : Int) := oD; have q153 : x49_1 < (l0.length : Int) := oD; obtain ⟨ad153, e153, hx153_0⟩ := Kd.at_int HR0.out x49_1 p153 q153
     cases e153
     replace hx153_0 := cU HB hx153_0; replace p153 := eq_true p153; replace q153 := eq_true q153
     try go_wp2
     replace HO_153002 := aM (Kd.R_drew HO_153002.out); replace BK145 := aM (blk_drew BK145.out); replace BK152 := aM (blk_drew BK152.out); replace HB := aM (below_drew1 HB.out)
     refine start_ (n := 11) (S := fun w' => w'.cell? ⟨gb152, 0, none⟩ = some (.int .i32 (wrap32 (wrap64 (t147)))) ∧ w'.cell? ⟨gb152, 1, none⟩ = some (.int .u32 ((wrap64 (Int.tdiv (wrap64 ((wrap64 ((wrap64 ((wrap64 (t148)) - (wrap64 (t147)))) + (wrap64 ((ji8) - 1)))) - 1)) (wrap64 ((ji8) - 1)))) % 4294967296)) ∧ w'.cell? ⟨gb152, 2, none⟩ = some (u153002)) (ds := [10]) (bA 11 0) (by kernel_rfl) rfl (by kernel_rfl) (cx3 BK152.out) (fun hHeld => ?_); refine with_tabW F34.tab11 F34.bits11 (fun HT_ HW_ => ?_)
     generalize wr.drew = w27 at HO_153002 BK145 BK152 HB hHeld ⊢
     refine pT 11 0 54 1 HT_ (h := ?_)
     refine pT 11 2 56 5 HT_ (h := ?_)
     refine pT 11 3 57 13 HT_ (h := ?_)
     refine pT 11 4 58 29 HT_ (h := ?_)
     refine pT 11 5 59 61 HT_ (h := ?_)
     refine pT 11 6 60 125 HT_ (h := ?_)
     refine pT 11 7 61 253 HT_ (h := ?_)
     refine tT 11 1 55 255 HT_ HW_ hHeld (h := ?_)
     refine one_ (i := 8) (N := some 62) (bA 11 511) rfl rfl (one_of HT_.out (by kernel_rfl)) (by decide) (fun K hK => ?_)
     refine goes_ Try.func67 (by kernel_rfl) rfl #[.int .i64 (wrap64 ((wrap64 (rd l0 x49_1)) - (wrap64 (t147)))), .int .i64 (wrap64 (Int.tdiv (wrap64 ((wrap64 ((wrap64 ((wrap64 (t148)) - (wrap64 (t147)))) + (wrap64 ((ji8) - 1)))) - 1)) (wrap64 ((ji8) - 1))))] (by rfl) rfl rfl (by (try simp only [List.map_toArray, List.map_cons, List.map_nil]); first | done | (simp only [hji8]; rfl) | rfl | (simp only [List.length_drop, List.length_take]; rfl)) ?_
     with_reducible refine (F67.calls (wrap64 ((wrap64 (rd l0 x49_1)) - (wrap64 (t147)))) (wrap64 (Int.tdiv (wrap64 ((wrap64 ((wrap64 ((wrap64 (t148)) - (wrap64 (t147)))) + (wrap64 ((ji8) - 1)))) - 1)) (wrap64 ((ji8) - 1)))) t154 _ A24.out).mono ?_
     rintro e w' ⟨rfl, ⟨nd, rfl⟩⟩
     refine ⟨_, rfl, ?_⟩
     have p26 : 0 ≤ (x49_1 : Int) := oD; have q26 : (x49_1 : Int) < ((x153002_1.length : Int) : Int) := oD; obtain ⟨go26, co26, eo26, gb26, gl26, cl26, HG26⟩ := Kd.R_form HO_153002.out (by omega); (first | cases eo26 | (injection eo26 with ea_ en_ ec_; (first | subst ea_ | (injection ea_ with ea_; subst ea_)); subst ec_; clear en_)); have GB26 := aM gb26; have GG26 := aM HG26; clear gb26 gl26 HG26; obtain ⟨hx26_0, hf26_0⟩ := Kd.R_celln 0 HO_153002.out (x49_1 : Int) p26 q26; replace p26 := eq_true p26; replace q26 := eq_true q26; have HP28 := Kd.R_putn HO_153002.out (x49_1 : Int) t154; rw [← Ny155.out] at HP28; have HQ28 := aM HP28; clear HP28
     refine hK.out _ _ (cx3 BK152.out) (fun hHeld => ?_)
     clear hK K
     refine nT 62 (h := ?_)
     refine pT 11 9 63 1023 HT_ (h := ?_)
     refine last_ (i := 10) (N := none) (bA 11 2047) rfl rfl (one_of HT_.out (by kernel_rfl)) (by decide) (fun K hK => ?_)
     refine skip_ (w1 := ?_) (by rfl) rfl ?_ ?_
     rotate_left
     ·
      go_simp
      rfl
     refine hK.out _ _ ?_
     clear hK K
     refine done_ (done_of HT_.out (by kernel_rfl)) ?_
     try go_wp2
     go_roundg k1
     case measure => have := HK1.out; omega
     case rel => exact ⟨(wrap64 (x49_1 + 1)), (y155), (.slice (some ⟨go26, 0, none⟩) x153002_1.length co26), rfl, H', ⟨by have := HK1.out; omega⟩, ⟨kR HQ28.out⟩, ⟨by (with_reducible repeat (first | refine blk_drewN ?_ _ | refine blk_drew ?_ | refine blk_alloc ?_ _)); refine blk_far ?_ (by have h_ := Kd.R_ne HO_153002.out BK145.out (by decide); intro e_; exact h_ (by rw [e_]; rfl)) _; (with_reducible repeat (first | refine blk_drewN ?_ _ | refine blk_drew ?_ | refine blk_alloc ?_ _)); exact BK145.out⟩, ⟨by (with_reducible repeat (first | refine blk_drewN ?_ _ | refine blk_drew ?_ | refine blk_alloc ?_ _)); refine blk_far ?_ (by have h_ := Kd.R_ne HO_153002.out BK152.out (by decide); intro e_; exact h_ (by rw [e_]; rfl)) _; (with_reducible repeat (first | refine blk_drewN ?_ _ | refine blk_drew ?_ | refine blk_alloc ?_ _)); exact BK152.out⟩, ⟨by repeat (first | (with_reducible first | exact HB.out | apply below_alloc | apply pw_below_drewN | apply below_drew1 | refine below_set ?_ GB26.out | refine below_set ?_ GE145.out | refine below_set ?_ GE152.out) | exact HB.out)⟩⟩
    ·
     rw [if_neg c21] at H; have c21b0 : decide (x49_1 < (l0.length : Int)) = false := dF c21; clear c21; simp only [Option.some.injEq, Prod.mk.injEq] at H; obtain ⟨rfl, rfl, rfl, rfl⟩ := H; have hnb29 := NB152_145.out; have hnc29 := NB145_152.out; have hz30 := bx3 BK152.out; have hz31 := bx3 BK145.out; obtain ⟨Ao32, co32, eo32⟩ := Kd.R_slice HO_153002.out; subst eo32
     go_wp2
     refine bodyPost_ret (results_ct rfl _ _ gb145 47 #[.int .i32 (wrap32 (wrap64 (t147))), .int .u32 ((wrap64 (Int.tdiv (wrap64 ((wrap64 ((wrap64 ((wrap64 (t148)) - (wrap64 (t147)))) + (wrap64 ((ji8) - 1)))) - 1)) (wrap64 ((ji8) - 1)))) % 4294967296), .slice Ao32 x153002_1.length co32] (0, 0) _ rfl (blk_put (blk_put (blk_put BK145.out 0 _ rfl) 1 _ rfl) 2 _ rfl) Try.underlying47 rfl (by kernel_rfl)) rfl ?_
     exact ⟨_, by first | rfl | (simp [errW_none, errW_some] <;> rfl) | (simp only [← hji8]; first | rfl | (simp [errW_none, errW_some] <;> rfl)) | (simp [*, errW_none, errW_some] <;> rfl), by (with_reducible repeat (first | apply Kd.R_alloc | apply Kd.R_drewN | apply Kd.R_drew)); exact Kd.R_mono (Kd.R_far (p := ⟨gb145, 2, none⟩) (Kd.R_far (p := ⟨gb145, 1, none⟩) (Kd.R_far (p := ⟨gb145, 0, none⟩) (Kd.R_types HO_153002.out BK145.out (by decide)) (fun _ hk => hk.2) (.int .i32 (wrap32 (wrap64 (t147))))) (fun _ hk => hk.2) (.int .u32 ((wrap64 (Int.tdiv (wrap64 ((wrap64 ((wrap64 ((wrap64 (t148)) - (wrap64 (t147)))) + (wrap64 ((ji8) - 1)))) - 1)) (wrap64 ((ji8) - 1)))) % 4294967296))) (fun _ hk => hk.2) (.slice Ao32 x153002_1.length co32)) (fun _ hk => trivial), bZ⟩
 ·
  rw [if_neg c4] at H; have c4b0 : (t146 == 0) = false := beq_eq_false_iff_ne.mpr c4; have c4b1 : (t146 != 0) = true := bne_iff_ne.mpr c4; simp only [Option.some.injEq, Prod.mk.injEq] at H; obtain ⟨rfl, rfl, rfl, rfl⟩ := H
  go_enter Try.func34, Try.ntmps34
  go_wp2_with (first | ((with_reducible refine gate_dst (N := 4) rfl ?_); refine bxE 4 #[.int .i32 0, .int .u32 0, .slice none 0 0] 47 (h := ?_); intro gb145 hg w33 hbox hb; have BK145 := aM (hbox); have GW145 := gE hg HB; have GE145 := gE hg HB; replace HB := bst HB hb; clear hb hbox hg) | ((with_reducible refine gate_callee (f := 64) rfl ?_); refine gL 17 Try.func64 #[.int .i64 (l0.length : Int), .int .i64 a1] (h := ?_); (with_reducible refine (F64.calls (l0.length : Int) a1 t146 _ A3.out).mono ?_); rintro e w' ⟨rfl, ⟨nd, rfl⟩⟩; refine ⟨_, rfl, ?_⟩; (try (rw [drewN_self w33]; generalize hq_ : World.drewN w33 _ = w33; have n0_ : Aside0 (w33.heap[gb145]? = some (.cells #[.int .i32 0, .int .u32 0, .slice none 0 0] 47 (0, 0))) := ⟨by rw [← hq_]; exact (bK BK145.out)⟩; have n1_ : Aside0 (Below w.heap.size w w33) := ⟨by rw [← hq_]; exact bZ⟩; clear BK145 HB hq_; have BK145 := n0_; have HB := n1_; clear n0_ n1_)); have hz34 := bx3 BK145.out))
  refine bodyPost_ret (results_ct rfl _ _ gb145 47 #[.int .i32 0, .int .u32 0, .slice none 0 0] (0, 0) _ rfl (blk_put (blk_put (blk_put BK145.out 0 _ rfl) 1 _ rfl) 2 _ rfl) Try.underlying47 rfl (by kernel_rfl)) rfl ?_
  exact ⟨_, rfl, by first | exact Kd.R_nil _ _ _ _ _ | exact Kd.N_nil _ _ _ _ _ | exact Kd.V_nil _ _ _ _ _ | exact Kd.Q_nil _ _ _ _ _ | exact Kd.S_nil _ _ _ _ _, bZ⟩

end Go.Proofs.Ytekenaclmplocaa.PPageParses
