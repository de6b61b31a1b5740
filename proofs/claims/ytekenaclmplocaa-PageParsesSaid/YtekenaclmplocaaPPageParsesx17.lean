-- Written by a program of this session (wip/tools/mkprint.py over the kit's print).
import Derived.Test.YtekenaclmplocaaPPageParsesx0
namespace Go.Proofs.Ytekenaclmplocaa.PPageParses
open Go.RowKit Go.Proofs.YtekenaclmplocaaW.PrintWords Go.Proofs.YtekenaclmplocaaW.PrintLast Go.Proofs.YtekenaclmplocaaW.PrintMore
attribute [local go_sem] max2_int min2_int max_two min_two max_three min_three max_four min_four
set_option linter.unusedVariables false
set_option maxHeartbeats 8000000
set_option maxRecDepth 100000
set_option linter.unusedSimpArgs false

mutual
def F82.j0 : Nat → Bool → Int → Int → List Int → Int → Int → List Int → Option (Bool)
 | 0, _, _, _, _, _, _, _ => none
 | k + 1, x26, x487000, x487001, x487002, x488000, x488001, x488002 => if x26 = true then (some false) else (F82.l0 k 0 x487000 x487001 x487002 x488000 x488001 x488002)
def F82.l0 : Nat → Int → Int → Int → List Int → Int → Int → List Int → Option (Bool)
 | 0, _, _, _, _, _, _, _ => none
 | k + 1, x5, x487000, x487001, x487002, x488000, x488001, x488002 => if x5 < (x487002.length : Int) then (if 0 ≤ x5 then (if x5 < (x488002.length : Int) then (if (rd x487002 x5) = (rd x488002 x5) then (F82.l0 k (wrap64 (x5 + 1)) x487000 x487001 x487002 x488000 x488001 x488002) else (some false)) else (none)) else (none)) else (some true)
end
def F82.f (k : Nat) (a0_0 : Int) (a0_1 : Int) (l0_2 : List Int) (a1_0 : Int) (a1_1 : Int) (l1_2 : List Int) : Option (Bool) := if a0_0 = a1_0 then (if a0_1 = a1_1 then (F82.j0 k ((l0_2.length : Int) != (l1_2.length : Int)) a0_0 a0_1 l0_2 a1_0 a1_1 l1_2) else (F82.j0 k true a0_0 a0_1 l0_2 a1_0 a1_1 l1_2)) else (F82.j0 k true a0_0 a0_1 l0_2 a1_0 a1_1 l1_2)
theorem F82.mono_l : ∀ k, (∀ y0 y1 y2 y3 y4 y5 y6, LeO (F82.j0 k y0 y1 y2 y3 y4 y5 y6) (F82.j0 (k + 1) y0 y1 y2 y3 y4 y5 y6)) ∧ (∀ y0 y1 y2 y3 y4 y5 y6, LeO (F82.l0 k y0 y1 y2 y3 y4 y5 y6) (F82.l0 (k + 1) y0 y1 y2 y3 y4 y5 y6))
 | 0 => ⟨fun _ _ _ _ _ _ _ r h => by simp [F82.j0] at h, fun _ _ _ _ _ _ _ r h => by simp [F82.l0] at h⟩
 | k + 1 => by
  obtain ⟨ih0, ih1⟩ := F82.mono_l k
  refine ⟨?_, ?_⟩
  all_goals intros
  all_goals first | unfold F82.j0 | unfold F82.l0
  all_goals repeat' with_reducible first | exact ih0 _ _ _ _ _ _ _ | exact ih1 _ _ _ _ _ _ _ | exact LeO.refl _ | exact LeO.none _ | refine LeO.ite ?_ ?_ | refine LeO.bind ?_ (fun _ => ?_)
theorem F82.mono : ∀ a0 a1 a2 a3 a4 a5 k, LeO (F82.f k a0 a1 a2 a3 a4 a5) (F82.f (k + 1) a0 a1 a2 a3 a4 a5) := by
 intro a0 a1 a2 a3 a4 a5 k; obtain ⟨ih0, ih1⟩ := F82.mono_l k; unfold F82.f
 repeat' with_reducible first | exact ih0 _ _ _ _ _ _ _ | exact ih1 _ _ _ _ _ _ _ | exact LeO.refl _ | exact LeO.none _ | refine LeO.ite ?_ ?_ | refine LeO.bind ?_ (fun _ => ?_)
theorem F82.calls (k : Nat) (a0_0 : Int) (a0_1 : Int) (A0_2 : Option Addr) (c0_2 : Nat) (l0_2 : List Int) (a1_0 : Int) (a1_1 : Int) (A1_2 : Option Addr) (c1_2 : Nat) (l1_2 : List Int) (r : Bool) (w : World) (hr0_2 : Kd.C (Kd.int .i64) w A0_2 l0_2.length l0_2) (hc0_2 : l0_2.length ≤ c0_2) (hr1_2 : Kd.C (Kd.int .i64) w A1_2 l1_2.length l1_2) (hc1_2 : l1_2.length ≤ c1_2) (h : F82.f k a0_0 a0_1 l0_2 a1_0 a1_1 l1_2 = some r) :
  Calls Try.prog 82 #[.agg #[.int .i32 a0_0, .int .u32 a0_1, .slice A0_2 l0_2.length c0_2], .agg #[.int .i32 a1_0, .int .u32 a1_1, .slice A1_2 l1_2.length c1_2]] w fun e w' => e = .returned (.bool r) ∧ Below w.heap.size w w' := by
 have hu98 := Try.underlying98; have HR0_2 := aM hr0_2; have HC0_2 := aM hc0_2; clear hr0_2 hc0_2; have HR1_2 := aM hr1_2; have HC1_2 := aM hc1_2; clear hr1_2 hc1_2; have HB := aM (Below.refl w.heap.size w); have H := h; clear h; unfold F82.f at H; have HC3 := aM H; clear H
 go_enter Try.func82, Try.ntmps82
 go_upto_region 1 with (first | ((with_reducible refine gate_dst (N := 2) rfl ?_); (try (refine gate_guard (by rfl) ?_; dsimp only)); refine bxE 2 #[.int .i32 a0_0, .int .u32 a0_1, .slice A0_2 l0_2.length c0_2] 98 (h := ?_); intro gb486 hg w4 hbox hb; have n0_ := aM (below_step bZ hb); have n1_ := aM (hbox); have n2_ := aM ((by rw [hg]; exact (below_size bZ) : w.heap.size ≤ gb486)); have n3_ := aM ((by rw [hg]; exact (below_size bZ) : w.heap.size ≤ gb486)); clear HB; have HB := n0_; have BK486 := n1_; have GW486 := n2_; have GE486 := n3_; clear n0_ n1_ n2_ n3_; clear hb hbox hg) | ((with_reducible refine gate_dst (N := 3) rfl ?_); (try (refine gate_guard (by rfl) ?_; dsimp only)); refine bxE 3 #[.int .i32 a1_0, .int .u32 a1_1, .slice A1_2 l1_2.length c1_2] 98 (h := ?_); intro gb487 hg w5 hbox hb; have n0_ := aM (blk_below (g := gb486) (o := .cells #[.int .i32 a0_0, .int .u32 a0_1, .slice A0_2 l0_2.length c0_2] 98 (0, 0)) (bK BK486.out) hb); have n1_ := aM (below_step bZ hb); have n2_ := aM (hbox); have n3_ := aM ((by rw [hg]; exact (below_size bZ) : w.heap.size ≤ gb487)); have n4_ := aM ((by rw [hg]; exact (below_size bZ) : w.heap.size ≤ gb487)); have n5_ := aM ((by rw [hg]; exact Nat.ne_of_lt (blk_lt (g := gb486) (o := .cells #[.int .i32 a0_0, .int .u32 a0_1, .slice A0_2 l0_2.length c0_2] 98 (0, 0)) (bK BK486.out)) : gb486 ≠ gb487)); have n6_ := aM ((by rw [hg]; exact Nat.ne_of_gt (blk_lt (g := gb486) (o := .cells #[.int .i32 a0_0, .int .u32 a0_1, .slice A0_2 l0_2.length c0_2] 98 (0, 0)) (bK BK486.out)) : gb487 ≠ gb486)); clear BK486; clear HB; have BK486 := n0_; have HB := n1_; have BK487 := n2_; have GW487 := n3_; have GE487 := n4_; have NB486_487 := n5_; have NB487_486 := n6_; clear n0_ n1_ n2_ n3_ n4_ n5_ n6_; clear hb hbox hg))
 repeat (go_quiet (fail); try go_wp2)
 (try simp only [Act.put, List.setIfInBounds_toArray, List.set_cons_zero, List.set_cons_succ])
 go_cut [26] (fun v26 wc => ∃ (kq : Nat) (x26_2 : Bool), v26 = .bool x26_2 ∧ Aside0 (F82.j0 kq x26_2 a0_0 a0_1 l0_2 a1_0 a1_1 l1_2 = some r) ∧ Aside0 (kq ≤ k) ∧ Aside0 (wc.heap[gb486]? = some (.cells #[.int .i32 a0_0, .int .u32 a0_1, (.slice A0_2 l0_2.length c0_2)] 98 (0, 0))) ∧ Aside0 (wc.heap[gb487]? = some (.cells #[.int .i32 a1_0, .int .u32 a1_1, (.slice A1_2 l1_2.length c1_2)] 98 (0, 0))) ∧ Aside0 (Below w.heap.size w wc))
 case first =>
  have H := HC3.out; clear HC3
  by_cases c6 : a0_0 = a1_0
  ·
   rw [if_pos c6] at H; have c6b0 : (a0_0 == a1_0) = true := beq_iff_eq.mpr c6; have c6b1 : (a0_0 != a1_0) = false := bne_eq_false_iff_eq.mpr c6; clear c6; (first | rw [c6b0] | (simp only [i64_w, i32_w]; rw [c6b0]) | skip)
   by_cases c7 : a0_1 = a1_1
   ·
    rw [if_pos c7] at H; have c7b0 : (a0_1 == a1_1) = true := beq_iff_eq.mpr c7; have c7b1 : (a0_1 != a1_1) = false := bne_eq_false_iff_eq.mpr c7; clear c7; have H' := aM H; clear H; have hnb8 := NB486_487.out; have hnc8 := NB487_486.out; have hz9 := bx3 BK486.out; have hz10 := bx3 BK487.out
    go_wp2
    repeat (go_quiet (fail); try go_wp2)
    go_meet
    case rel => exact ⟨_, (((l0_2.length : Int) != (l1_2.length : Int))), rfl, H', ⟨by first | omega | exact Nat.le_refl _⟩, ⟨bK BK486.out⟩, ⟨bK BK487.out⟩, ⟨bZ⟩⟩
   ·
    rw [if_neg c7] at H; have c7b0 : (a0_1 == a1_1) = false := beq_eq_false_iff_ne.mpr c7; have c7b1 : (a0_1 != a1_1) = true := bne_iff_ne.mpr c7; have H' := aM H; clear H; have hnb11 := NB486_487.out; have hnc11 := NB487_486.out; have hz12 := bx3 BK486.out; have hz13 := bx3 BK487.out
    go_wp2
    repeat (go_quiet (fail); try go_wp2)
    go_meet
    case rel => exact ⟨_, (true), rfl, H', ⟨by first | omega | exact Nat.le_refl _⟩, ⟨bK BK486.out⟩, ⟨bK BK487.out⟩, ⟨bZ⟩⟩
  ·
   rw [if_neg c6] at H; have c6b0 : (a0_0 == a1_0) = false := beq_eq_false_iff_ne.mpr c6; have c6b1 : (a0_0 != a1_0) = true := bne_iff_ne.mpr c6; (first | rw [c6b0] | (simp only [i64_w, i32_w]; rw [c6b0]) | skip); have H' := aM H; clear H; have hnb14 := NB486_487.out; have hnc14 := NB487_486.out; have hz15 := bx3 BK486.out; have hz16 := bx3 BK487.out
   go_wp2
   repeat (go_quiet (fail); try go_wp2)
   go_meet
   case rel => exact ⟨_, (true), rfl, H', ⟨by first | omega | exact Nat.le_refl _⟩, ⟨bK BK486.out⟩, ⟨bK BK487.out⟩, ⟨bZ⟩⟩
 case rest =>
  clear HC3; (try clear c1); (try clear p2); (try clear c6); (try clear c6b0); (try clear c6b1); (try clear c7); (try clear c7b0); (try clear c7b1); (try clear c8); (try clear c11); (try clear c14); (try clear hz10); (try clear hz12); (try clear hz13); (try clear hz15); (try clear hz16); (try clear hz9); obtain ⟨kq, x26_2, rfl, HA, HJ2, BK486, BK487, HB⟩ := hcut
  cases kq with
  | zero => exact absurd HA.out (by simp [F82.j0])
  | succ kj2 =>
   have H := HA.out; clear HA; simp only [F82.j0] at H
   by_cases c17 : x26_2 = true
   ·
    subst c17; rw [if_pos rfl] at H; obtain rfl := oI H
    go_wp2
    repeat (go_quiet (fail); try go_wp2)
    go_ret
    exact ⟨rfl, bZ⟩
   ·
    replace c17 := Bool.eq_false_iff.mpr c17; subst c17; rw [if_neg (show ¬ (false = true) by decide)] at H; have H' := aM H; clear H
    go_wp2
    repeat (go_quiet (fail); try go_wp2)
    go_loopg [5] kj2 (fun kq v5 w' => ∃ (x5_2 : Int), v5 = .int .i64 x5_2 ∧ Aside0 (F82.l0 kq x5_2 a0_0 a0_1 l0_2 a1_0 a1_1 l1_2 = some r) ∧ Aside0 (kq ≤ kj2) ∧ Aside0 (w'.heap[gb486]? = some (.cells #[.int .i32 a0_0, .int .u32 a0_1, (.slice A0_2 l0_2.length c0_2)] 98 (0, 0))) ∧ Aside0 (w'.heap[gb487]? = some (.cells #[.int .i32 a1_0, .int .u32 a1_1, (.slice A1_2 l1_2.length c1_2)] 98 (0, 0))) ∧ Aside0 (Below w.heap.size w w'))
    case atStart => exact ⟨(0), rfl, H', ⟨Nat.le_refl _⟩, ⟨bK BK486.out⟩, ⟨bK BK487.out⟩, ⟨bZ⟩⟩
    case round =>
     clear H'; (try clear c1); (try clear p2); (try clear c6); (try clear c6b0); (try clear c6b1); (try clear c7); (try clear c7b0); (try clear c7b1); (try clear c8); (try clear c11); (try clear c14); (try clear c17); (try clear hz10); (try clear hz12); (try clear hz13); (try clear hz15); (try clear hz16); (try clear hz9); (try clear p2); obtain ⟨x5_2, rfl, HA, HK2, BK486, BK487, HB⟩ := hrel
     cases gk with
     | zero => exact absurd HA.out (by simp [F82.l0])
     | succ k2 =>
      have H := HA.out; clear HA; simp only [F82.l0] at H
      by_cases c18 : x5_2 < (l0_2.length : Int)
      ·
       rw [if_pos c18] at H; have c18b0 : decide (x5_2 < (l0_2.length : Int)) = true := dT c18; clear c18; obtain ⟨c19, H⟩ := ifp H; have c19b0 : decide (0 ≤ x5_2) = true := dT c19; clear c19; obtain ⟨c20, H⟩ := ifp H; have c20b0 : decide (x5_2 < (l1_2.length : Int)) = true := dT c20; clear c20
       by_cases c21 : (rd l0_2 x5_2) = (rd l1_2 x5_2)
       ·
        rw [if_pos c21] at H; have c21b0 : ((rd l0_2 x5_2) == (rd l1_2 x5_2)) = true := beq_iff_eq.mpr c21; have c21b1 : ((rd l0_2 x5_2) != (rd l1_2 x5_2)) = false := bne_eq_false_iff_eq.mpr c21; clear c21; have H' := aM H; clear H; have hnb22 := NB486_487.out; have hnc22 := NB487_486.out; have hz23 := bx3 BK486.out; have p488 : 0 ≤ (x5_2 : Int) := oD; have q488 : x5_2 < (l0_2.length : Int) := oD; obtain ⟨ad488, e488, hx488_0⟩ := Kd.at_int HR0_2.out x5_2 p488 q488
        cases e488
        replace hx488_0 := cU HB hx488_0; replace p488 := eq_true p488; replace q488 := eq_true q488; have hz24 := bx3 BK487.out; have p489 : 0 ≤ (x5_2 : Int) := oD; have q489 : x5_2 < (l1_2.length : Int) := oD; obtain ⟨ad489, e489, hx489_0⟩ := Kd.at_int HR1_2.out x5_2 p489 q489
        cases e489
        replace hx489_0 := cU HB hx489_0; replace p489 := eq_true p489; replace q489 := eq_true q489
        go_wp2
        repeat (go_quiet (fail); try go_wp2)
        go_roundg k2
        case measure => have := HJ2.out; have := HK2.out; omega
        case rel => exact ⟨(wrap64 (x5_2 + 1)), rfl, H', ⟨by have := HJ2.out; have := HK2.out; omega⟩, ⟨bK BK486.out⟩, ⟨bK BK487.out⟩, ⟨bZ⟩⟩
       ·
        rw [if_neg c21] at H; have c21b0 : ((rd l0_2 x5_2) == (rd l1_2 x5_2)) = false := beq_eq_false_iff_ne.mpr c21; have c21b1 : ((rd l0_2 x5_2) != (rd l1_2 x5_2)) = true := bne_iff_ne.mpr c21; obtain rfl := oI H; have hnb25 := NB486_487.out; have hnc25 := NB487_486.out; have hz26 := bx3 BK486.out; have p488 : 0 ≤ (x5_2 : Int) := oD; have q488 : x5_2 < (l0_2.length : Int) := oD; obtain ⟨ad488, e488, hx488_0⟩ := Kd.at_int HR0_2.out x5_2 p488 q488
        cases e488
        replace hx488_0 := cU HB hx488_0; replace p488 := eq_true p488; replace q488 := eq_true q488; have hz27 := bx3 BK487.out; have p489 : 0 ≤ (x5_2 : Int) := oD; have q489 : x5_2 < (l1_2.length : Int) := oD; obtain ⟨ad489, e489, hx489_0⟩ := Kd.at_int HR1_2.out x5_2 p489 q489
        cases e489
        replace hx489_0 := cU HB hx489_0; replace p489 := eq_true p489; replace q489 := eq_true q489
        go_wp2
        repeat (go_quiet (fail); try go_wp2)
        go_ret
        exact ⟨rfl, bZ⟩
      ·
       rw [if_neg c18] at H; have c18b0 : decide (x5_2 < (l0_2.length : Int)) = false := dF c18; clear c18; obtain rfl := oI H; have hnb28 := NB486_487.out; have hnc28 := NB487_486.out; have hz29 := bx3 BK486.out
       go_wp2
       repeat (go_quiet (fail); try go_wp2)
       go_ret
       exact ⟨rfl, bZ⟩

def F52.l0 : Nat → List (S98) → List (S98) → Int → Option (Bool)
 | 0, _, _, _ => none
 | k + 1, x0, x1, x5 => if x5 < (x0.length : Int) then (if 0 ≤ x5 then (if x5 < (x1.length : Int) then ((F82.f k ((rd_T98 x0 x5).f0) ((rd_T98 x0 x5).f1) ((rd_T98 x0 x5).f2) ((rd_T98 x1 x5).f0) ((rd_T98 x1 x5).f1) ((rd_T98 x1 x5).f2)).bind fun t492 => (if t492 = true then (F52.l0 k x0 x1 (wrap64 (x5 + 1))) else (some false))) else (none)) else (none)) else (some true)
def F52.f (k : Nat) (l0 : List (S98)) (l1 : List (S98)) : Option (Bool) := if (l0.length : Int) = (l1.length : Int) then (F52.l0 k l0 l1 0) else (some false)
theorem F52.mono_l : ∀ k, (∀ y0 y1 y2, LeO (F52.l0 k y0 y1 y2) (F52.l0 (k + 1) y0 y1 y2))
 | 0 => fun _ _ _ r h => by simp [F52.l0] at h
 | k + 1 => by
  have ih0 := F52.mono_l k
  ·
   intro y0 y1 y2; unfold F52.l0
   repeat' with_reducible first | exact ih0 _ _ _ | exact F82.mono _ _ _ _ _ _ _ | exact LeO.refl _ | exact LeO.none _ | refine LeO.ite ?_ ?_ | refine LeO.bind ?_ (fun _ => ?_)
theorem F52.mono : ∀ a0 a1 k, LeO (F52.f k a0 a1) (F52.f (k + 1) a0 a1) := by
 intro a0 a1 k; have ih0 := F52.mono_l k; unfold F52.f
 repeat' with_reducible first | exact ih0 _ _ _ | exact F82.mono _ _ _ _ _ _ _ | exact LeO.refl _ | exact LeO.none _ | refine LeO.ite ?_ ?_ | refine LeO.bind ?_ (fun _ => ?_)
def F52.T6 : Bool × List (List Nat × List Nat) := (true, [([], []), ([], []), ([0, 1], [0, 1]), ([2], [2]), ([], []), ([], []), ([4, 5], [4, 5]), ([6], [6]), ([3, 7], [3, 7]), ([8], [8])])
def F52.B6 : List Nat := [0, 0, 3, 7, 0, 0, 48, 112, 255, 511]
theorem F52.tab6 : rtab .any (opsOf Try.f52 6) = F52.T6 := by kernel_rfl
theorem F52.bits6 : waitsOk F52.T6.2 F52.B6 = true := by kernel_rfl
theorem F52.calls (k : Nat) (A0 : Option Addr) (c0 : Nat) (l0 : List (S98)) (A1 : Option Addr) (c1 : Nat) (l1 : List (S98)) (r : Bool) (w : World) (hr0 : Kd.C k98 w A0 l0.length l0) (hc0 : l0.length ≤ c0) (hr1 : Kd.C k98 w A1 l1.length l1) (hc1 : l1.length ≤ c1) (h : F52.f k l0 l1 = some r) :
  Calls Try.prog 52 #[.slice A0 l0.length c0, .slice A1 l1.length c1] w fun e w' => e = .returned (.bool r) ∧ Below w.heap.size w w' := by
 have hu98 := Try.underlying98; have HR0 := aM hr0; have HC0 := aM hc0; clear hr0 hc0; have HR1 := aM hr1; have HC1 := aM hc1; clear hr1 hc1; have HB := aM (Below.refl w.heap.size w); have H := h; clear h; unfold F52.f at H
 by_cases c3 : (l0.length : Int) = (l1.length : Int)
 ·
  rw [if_pos c3] at H; have c3b0 : ((l0.length : Int) == (l1.length : Int)) = true := beq_iff_eq.mpr c3; have c3b1 : ((l0.length : Int) != (l1.length : Int)) = false := bne_eq_false_iff_eq.mpr c3; (have c3b2 : (l0.length == l1.length) = true := by first | simpa using c3 | (simp at c3 ⊢; omega)); clear c3; have H' := aM H; clear H
  go_enter Try.func52, Try.ntmps52
  go_wp2
  go_loopg [5] k (fun kq v5 w' => ∃ (x5_1 : Int), v5 = .int .i64 x5_1 ∧ Aside0 (F52.l0 kq l0 l1 x5_1 = some r) ∧ Aside0 (kq ≤ k) ∧ Aside0 (Below w.heap.size w w'))
  case atStart => exact ⟨(0), rfl, H', ⟨Nat.le_refl _⟩, HB⟩
  case round =>
   clear H'; (try clear c1); (try clear p2); (try clear c3); (try clear c3b0); (try clear c3b1); (try clear c3b2); obtain ⟨x5_1, rfl, HA, HK1, HB⟩ := hrel
   cases gk with
   | zero => exact absurd HA.out (by simp [F52.l0])
   | succ k1 =>
    have H := HA.out; clear HA; simp only [F52.l0] at H
    by_cases c4 : x5_1 < (l0.length : Int)
    ·
     rw [if_pos c4] at H; have c4b0 : decide (x5_1 < (l0.length : Int)) = true := dT c4; clear c4; obtain ⟨c5, H⟩ := ifp H; have c5b0 : decide (0 ≤ x5_1) = true := dT c5; clear c5; obtain ⟨c6, H⟩ := ifp H; have c6b0 : decide (x5_1 < (l1.length : Int)) = true := dT c6; clear c6; obtain ⟨t492, A7, H⟩ := bnd H
     by_cases c8 : t492 = true
     ·
      subst c8; rw [if_pos rfl] at H; have H' := aM H; clear H
      try go_wp2
      replace HB := aM (below_drew1 HB.out); have p490 : 0 ≤ (x5_1 : Int) := oD; have q490 : x5_1 < (l0.length : Int) := oD; obtain ⟨ad490, A490_2, c490_2, e490, hx490_0, hx490_1, hx490_2, hl490_2, hi490_2⟩ := at_T98 HR0.out x5_1 p490 q490; have hw490_2 := hx490_2; have hw490_1 := hx490_1; have hw490_0 := hx490_0
      cases e490
      replace hx490_0 := cU HB hx490_0; replace hx490_1 := cU HB hx490_1; replace hx490_2 := cU HB hx490_2; have HR490_2 := aM hi490_2; have HC490_2 := aM hl490_2; clear hi490_2 hl490_2; replace p490 := eq_true p490; replace q490 := eq_true q490; have p491 : 0 ≤ (x5_1 : Int) := oD; have q491 : x5_1 < (l1.length : Int) := oD; obtain ⟨ad491, A491_2, c491_2, e491, hx491_0, hx491_1, hx491_2, hl491_2, hi491_2⟩ := at_T98 HR1.out x5_1 p491 q491; have hw491_2 := hx491_2; have hw491_1 := hx491_1; have hw491_0 := hx491_0
      cases e491
      replace hx491_0 := cU HB hx491_0; replace hx491_1 := cU HB hx491_1; replace hx491_2 := cU HB hx491_2; have HR491_2 := aM hi491_2; have HC491_2 := aM hl491_2; clear hi491_2 hl491_2; replace p491 := eq_true p491; replace q491 := eq_true q491
      refine start_ (n := 10) (S := fun w' => w'.cell? (ad490.add ((x5_1).toNat * 3)) = some (.int .i32 ((rd_T98 l0 x5_1).f0)) ∧ w'.cell? ⟨(ad490.add ((x5_1).toNat * 3)).block, (ad490.add ((x5_1).toNat * 3)).off + 1, none⟩ = some (.int .u32 ((rd_T98 l0 x5_1).f1)) ∧ w'.cell? ⟨(ad490.add ((x5_1).toNat * 3)).block, (ad490.add ((x5_1).toNat * 3)).off + 2, none⟩ = some (.slice A490_2 ((rd_T98 l0 x5_1).f2).length c490_2) ∧ w'.cell? (ad491.add ((x5_1).toNat * 3)) = some (.int .i32 ((rd_T98 l1 x5_1).f0)) ∧ w'.cell? ⟨(ad491.add ((x5_1).toNat * 3)).block, (ad491.add ((x5_1).toNat * 3)).off + 1, none⟩ = some (.int .u32 ((rd_T98 l1 x5_1).f1)) ∧ w'.cell? ⟨(ad491.add ((x5_1).toNat * 3)).block, (ad491.add ((x5_1).toNat * 3)).off + 2, none⟩ = some (.slice A491_2 ((rd_T98 l1 x5_1).f2).length c491_2)) (ds := []) (bA 10 0) (by kernel_rfl) rfl (by kernel_rfl) ⟨(cU HB hw490_0 :), (cU HB hw490_1 :), (cU HB hw490_2 :), (cU HB hw491_0 :), (cU HB hw491_1 :), (cU HB hw491_2 :)⟩ (fun hHeld => ?_); refine with_tabW F52.tab6 F52.bits6 (fun HT_ HW_ => ?_)
      generalize wr.drew = w9 at HB HR490_2 HR491_2 hx490_0 hx490_1 hx490_2 hx491_0 hx491_1 hx491_2 hHeld ⊢
      refine pT 10 0 17 1 HT_ (h := ?_)
      refine pT 10 1 18 3 HT_ (h := ?_)
      refine pT 10 2 19 7 HT_ (h := ?_)
      refine pT 10 4 21 23 HT_ (h := ?_)
      refine pT 10 5 22 55 HT_ (h := ?_)
      refine pT 10 6 23 119 HT_ (h := ?_)
      refine tT 10 3 20 127 HT_ HW_ hHeld (h := ?_)
      refine tT 10 7 24 255 HT_ HW_ hHeld (h := ?_)
      refine one_ (i := 8) (N := some 25) (bA 10 511) rfl rfl (one_of HT_.out (by kernel_rfl)) (by decide) (fun K hK => ?_)
      refine gA Try.func82 #[.agg #[.int .i32 ((rd_T98 l0 x5_1).f0), .int .u32 ((rd_T98 l0 x5_1).f1), .slice A490_2 ((rd_T98 l0 x5_1).f2).length c490_2], .agg #[.int .i32 ((rd_T98 l1 x5_1).f0), .int .u32 ((rd_T98 l1 x5_1).f1), .slice A491_2 ((rd_T98 l1 x5_1).f2).length c491_2]] (h := ?_)
      with_reducible refine (F82.calls k1 ((rd_T98 l0 x5_1).f0) ((rd_T98 l0 x5_1).f1) _ _ ((rd_T98 l0 x5_1).f2) ((rd_T98 l1 x5_1).f0) ((rd_T98 l1 x5_1).f1) _ _ ((rd_T98 l1 x5_1).f2) true _ ?side1 ?side2 ?side3 ?side4 A7.out).mono ?_
      (case side1 => with_reducible exact (Kd.C_below HR490_2.out HB.out)); (case side2 => exact HC490_2.out); (case side3 => with_reducible exact (Kd.C_below HR491_2.out HB.out)); (case side4 => exact HC491_2.out); rintro e w10 ⟨rfl, hb⟩
      refine ⟨_, rfl, ?_⟩
      replace HB := aM (below_step bZ hb); (try clear hb); (try clear hb2); (try clear hk); (try clear hi)
      refine hK.out _ _ ⟨(cU HB hw490_0 :), (cU HB hw490_1 :), (cU HB hw490_2 :), (cU HB hw491_0 :), (cU HB hw491_1 :), (cU HB hw491_2 :)⟩ (fun hHeld => ?_)
      clear hK K
      refine nT 25 (h := ?_)
      refine pT 10 9 26 1023 HT_ (h := ?_)
      refine done_ (done_of HT_.out (by kernel_rfl)) ?_
      try go_wp2
      go_roundg k1
      case measure => have := HK1.out; omega
      case rel => exact ⟨(wrap64 (x5_1 + 1)), rfl, H', ⟨by have := HK1.out; omega⟩, HB⟩
     ·
      replace c8 := Bool.eq_false_iff.mpr c8; subst c8; rw [if_neg (show ¬ (false = true) by decide)] at H; obtain rfl := oI H
      try go_wp2
      replace HB := aM (below_drew1 HB.out); have p490 : 0 ≤ (x5_1 : Int) := oD; have q490 : x5_1 < (l0.length : Int) := oD; obtain ⟨ad490, A490_2, c490_2, e490, hx490_0, hx490_1, hx490_2, hl490_2, hi490_2⟩ := at_T98 HR0.out x5_1 p490 q490; have hw490_2 := hx490_2; have hw490_1 := hx490_1; have hw490_0 := hx490_0
      cases e490
      replace hx490_0 := cU HB hx490_0; replace hx490_1 := cU HB hx490_1; replace hx490_2 := cU HB hx490_2; have HR490_2 := aM hi490_2; have HC490_2 := aM hl490_2; clear hi490_2 hl490_2; replace p490 := eq_true p490; replace q490 := eq_true q490; have p491 : 0 ≤ (x5_1 : Int) := oD; have q491 : x5_1 < (l1.length : Int) := oD; obtain ⟨ad491, A491_2, c491_2, e491, hx491_0, hx491_1, hx491_2, hl491_2, hi491_2⟩ := at_T98 HR1.out x5_1 p491 q491; have hw491_2 := hx491_2; have hw491_1 := hx491_1; have hw491_0 := hx491_0
      cases e491
      replace hx491_0 := cU HB hx491_0; replace hx491_1 := cU HB hx491_1; replace hx491_2 := cU HB hx491_2; have HR491_2 := aM hi491_2; have HC491_2 := aM hl491_2; clear hi491_2 hl491_2; replace p491 := eq_true p491; replace q491 := eq_true q491
      refine start_ (n := 10) (S := fun w' => w'.cell? (ad490.add ((x5_1).toNat * 3)) = some (.int .i32 ((rd_T98 l0 x5_1).f0)) ∧ w'.cell? ⟨(ad490.add ((x5_1).toNat * 3)).block, (ad490.add ((x5_1).toNat * 3)).off + 1, none⟩ = some (.int .u32 ((rd_T98 l0 x5_1).f1)) ∧ w'.cell? ⟨(ad490.add ((x5_1).toNat * 3)).block, (ad490.add ((x5_1).toNat * 3)).off + 2, none⟩ = some (.slice A490_2 ((rd_T98 l0 x5_1).f2).length c490_2) ∧ w'.cell? (ad491.add ((x5_1).toNat * 3)) = some (.int .i32 ((rd_T98 l1 x5_1).f0)) ∧ w'.cell? ⟨(ad491.add ((x5_1).toNat * 3)).block, (ad491.add ((x5_1).toNat * 3)).off + 1, none⟩ = some (.int .u32 ((rd_T98 l1 x5_1).f1)) ∧ w'.cell? ⟨(ad491.add ((x5_1).toNat * 3)).block, (ad491.add ((x5_1).toNat * 3)).off + 2, none⟩ = some (.slice A491_2 ((rd_T98 l1 x5_1).f2).length c491_2)) (ds := []) (bA 10 0) (by kernel_rfl) rfl (by kernel_rfl) ⟨(cU HB hw490_0 :), (cU HB hw490_1 :), (cU HB hw490_2 :), (cU HB hw491_0 :), (cU HB hw491_1 :), (cU HB hw491_2 :)⟩ (fun hHeld => ?_); refine with_tabW F52.tab6 F52.bits6 (fun HT_ HW_ => ?_)
      generalize wr.drew = w11 at HB HR490_2 HR491_2 hx490_0 hx490_1 hx490_2 hx491_0 hx491_1 hx491_2 hHeld ⊢
      refine pT 10 0 17 1 HT_ (h := ?_)
      refine pT 10 1 18 3 HT_ (h := ?_)
      refine pT 10 2 19 7 HT_ (h := ?_)
      refine pT 10 4 21 23 HT_ (h := ?_)
      refine pT 10 5 22 55 HT_ (h := ?_)
      refine pT 10 6 23 119 HT_ (h := ?_)
      refine tT 10 3 20 127 HT_ HW_ hHeld (h := ?_)
      refine tT 10 7 24 255 HT_ HW_ hHeld (h := ?_)
      refine one_ (i := 8) (N := some 25) (bA 10 511) rfl rfl (one_of HT_.out (by kernel_rfl)) (by decide) (fun K hK => ?_)
      refine gA Try.func82 #[.agg #[.int .i32 ((rd_T98 l0 x5_1).f0), .int .u32 ((rd_T98 l0 x5_1).f1), .slice A490_2 ((rd_T98 l0 x5_1).f2).length c490_2], .agg #[.int .i32 ((rd_T98 l1 x5_1).f0), .int .u32 ((rd_T98 l1 x5_1).f1), .slice A491_2 ((rd_T98 l1 x5_1).f2).length c491_2]] (h := ?_)
      with_reducible refine (F82.calls k1 ((rd_T98 l0 x5_1).f0) ((rd_T98 l0 x5_1).f1) _ _ ((rd_T98 l0 x5_1).f2) ((rd_T98 l1 x5_1).f0) ((rd_T98 l1 x5_1).f1) _ _ ((rd_T98 l1 x5_1).f2) false _ ?side1 ?side2 ?side3 ?side4 A7.out).mono ?_
      (case side1 => with_reducible exact (Kd.C_below HR490_2.out HB.out)); (case side2 => exact HC490_2.out); (case side3 => with_reducible exact (Kd.C_below HR491_2.out HB.out)); (case side4 => exact HC491_2.out); rintro e w12 ⟨rfl, hb⟩
      refine ⟨_, rfl, ?_⟩
      replace HB := aM (below_step bZ hb); (try clear hb); (try clear hb2); (try clear hk); (try clear hi)
      refine hK.out _ _ ⟨(cU HB hw490_0 :), (cU HB hw490_1 :), (cU HB hw490_2 :), (cU HB hw491_0 :), (cU HB hw491_1 :), (cU HB hw491_2 :)⟩ (fun hHeld => ?_)
      clear hK K
      refine nT 25 (h := ?_)
      refine pT 10 9 26 1023 HT_ (h := ?_)
      refine done_ (done_of HT_.out (by kernel_rfl)) ?_
      try go_wp2
      go_ret
      exact ⟨rfl, HB.out⟩
    ·
     rw [if_neg c4] at H; have c4b0 : decide (x5_1 < (l0.length : Int)) = false := dF c4; clear c4; obtain rfl := oI H
     go_wp2
     go_ret
     exact ⟨rfl, HB.out⟩
 ·
  rw [if_neg c3] at H; have c3b0 : ((l0.length : Int) == (l1.length : Int)) = false := beq_eq_false_iff_ne.mpr c3; have c3b1 : ((l0.length : Int) != (l1.length : Int)) = true := bne_iff_ne.mpr c3; (have c3b2 : (l0.length == l1.length) = false := by first | simpa using c3 | (simp at c3 ⊢; omega)); obtain rfl := oI H
  go_enter Try.func52, Try.ntmps52
  go_wp2
  go_ret
  exact ⟨rfl, HB.out⟩

end Go.Proofs.Ytekenaclmplocaa.PPageParses
