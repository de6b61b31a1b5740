-- Written by a program of this session (wip/tools/mkprint.py over the kit's print).
import Derived.Test.YtekenaclmplocaaPPageParsesx0
import Derived.Test.YtekenaclmplocaaPPageParsesx3
namespace Go.Proofs.Ytekenaclmplocaa.PPageParses
open Go.RowKit Go.Proofs.YtekenaclmplocaaW.PrintWords Go.Proofs.YtekenaclmplocaaW.PrintLast Go.Proofs.YtekenaclmplocaaW.PrintMore
attribute [local go_sem] max2_int min2_int max_two min_two max_three min_three max_four min_four
set_option linter.unusedVariables false
set_option maxHeartbeats 8000000
set_option maxRecDepth 100000
set_option linter.unusedSimpArgs false

mutual
def F76.j0 : Nat → Bool → Int → Int → List Int → Int → Option (Int)
 | 0, _, _, _, _, _ => none
 | k + 1, x6, x113000, x113001, x113002, x114000 => if x113001 > 1431655765 then (F76.j1 k true x113000 x113001 x113002 x114000) else (F76.j1 k x6 x113000 x113001 x113002 x114000)
def F76.j1 : Nat → Bool → Int → Int → List Int → Int → Option (Int)
 | 0, _, _, _, _, _ => none
 | k + 1, x23, x113000, x113001, x113002, x114000 => if x23 = true then (some 21) else ((F94b.f x113002 x114000).bind fun t116 => (if t116 = true then (some 11) else (some 0)))
end
def F76.f (k : Nat) (a0_0 : Int) (a0_1 : Int) (l0_2 : List Int) (a1 : Int) : Option (Int) := (F64.f (l0_2.length : Int) a1).bind fun t114 => (if t114 = 0 then (if a0_1 = 0 then ((F94.f l0_2).bind fun t115 => (F76.j0 k t115 a0_0 a0_1 l0_2 a1)) else (F76.j0 k false a0_0 a0_1 l0_2 a1)) else (some t114))
theorem F76.mono_l : ∀ k, (∀ y0 y1 y2 y3 y4, LeO (F76.j0 k y0 y1 y2 y3 y4) (F76.j0 (k + 1) y0 y1 y2 y3 y4)) ∧ (∀ y0 y1 y2 y3 y4, LeO (F76.j1 k y0 y1 y2 y3 y4) (F76.j1 (k + 1) y0 y1 y2 y3 y4))
 | 0 => ⟨fun _ _ _ _ _ r h => by simp [F76.j0] at h, fun _ _ _ _ _ r h => by simp [F76.j1] at h⟩
 | k + 1 => by
  obtain ⟨ih0, ih1⟩ := F76.mono_l k
  refine ⟨?_, ?_⟩
  all_goals intros
  all_goals first | unfold F76.j0 | unfold F76.j1
  all_goals repeat' with_reducible first | exact ih0 _ _ _ _ _ | exact ih1 _ _ _ _ _ | exact LeO.refl _ | exact LeO.none _ | refine LeO.ite ?_ ?_ | refine LeO.bind ?_ (fun _ => ?_)
theorem F76.mono : ∀ a0 a1 a2 a3 k, LeO (F76.f k a0 a1 a2 a3) (F76.f (k + 1) a0 a1 a2 a3) := by
 intro a0 a1 a2 a3 k; obtain ⟨ih0, ih1⟩ := F76.mono_l k; unfold F76.f
 repeat' with_reducible first | exact ih0 _ _ _ _ _ | exact ih1 _ _ _ _ _ | exact LeO.refl _ | exact LeO.none _ | refine LeO.ite ?_ ?_ | refine LeO.bind ?_ (fun _ => ?_)
theorem F76.calls (k : Nat) (a0_0 : Int) (a0_1 : Int) (A0_2 : Option Addr) (c0_2 : Nat) (l0_2 : List Int) (a1 : Int) (r : Int) (w : World) (hr0_2 : Kd.C (Kd.int .i64) w A0_2 l0_2.length l0_2) (hc0_2 : l0_2.length ≤ c0_2) (h : F76.f k a0_0 a0_1 l0_2 a1 = some r) :
  Calls Try.prog 76 #[.agg #[.int .i32 a0_0, .int .u32 a0_1, .slice A0_2 l0_2.length c0_2], .int .i64 a1] w fun e w' => e = .returned (.int .i64 r) ∧ Below w.heap.size w w' := by
 have hu47 := Try.underlying47; have HR0_2 := aM hr0_2; have HC0_2 := aM hc0_2; clear hr0_2 hc0_2; have HB := aM (Below.refl w.heap.size w); have H := h; clear h; unfold F76.f at H; obtain ⟨t114, A3, H⟩ := bnd H
 by_cases c4 : t114 = 0
 ·
  rw [if_pos c4] at H; have c4b0 : (t114 == 0) = true := beq_iff_eq.mpr c4; have c4b1 : (t114 != 0) = false := bne_eq_false_iff_eq.mpr c4; clear c4; have HC5 := aM H; clear H
  go_enter Try.func76, Try.ntmps76
  go_upto_region 4 with (first | ((with_reducible refine gate_dst (N := 2) rfl ?_); refine bxE 2 #[.int .i32 a0_0, .int .u32 a0_1, .slice A0_2 l0_2.length c0_2] 47 (h := ?_); intro gb112 hg w6 hbox hb; have n0_ := aM (below_step bZ hb); have n1_ := aM (hbox); have n2_ := aM ((by rw [hg]; exact (below_size bZ) : w.heap.size ≤ gb112)); have n3_ := aM ((by rw [hg]; exact (below_size bZ) : w.heap.size ≤ gb112)); clear HB; have HB := n0_; have BK112 := n1_; have GW112 := n2_; have GE112 := n3_; clear n0_ n1_ n2_ n3_; clear hb hbox hg) | ((with_reducible refine gate_dst (N := 3) rfl ?_); refine bxE 3 #[.int .i64 a1] 3 (h := ?_); intro gb113 hg w7 hbox hb; have n0_ := aM (blk_below (g := gb112) (o := .cells #[.int .i32 a0_0, .int .u32 a0_1, .slice A0_2 l0_2.length c0_2] 47 (0, 0)) (bK BK112.out) hb); have n1_ := aM (below_step bZ hb); have n2_ := aM (hbox); have n3_ := aM ((by rw [hg]; exact (below_size bZ) : w.heap.size ≤ gb113)); have n4_ := aM ((by rw [hg]; exact (below_size bZ) : w.heap.size ≤ gb113)); have n5_ := aM ((by rw [hg]; exact Nat.ne_of_lt (blk_lt (g := gb112) (o := .cells #[.int .i32 a0_0, .int .u32 a0_1, .slice A0_2 l0_2.length c0_2] 47 (0, 0)) (bK BK112.out)) : gb112 ≠ gb113)); have n6_ := aM ((by rw [hg]; exact Nat.ne_of_gt (blk_lt (g := gb112) (o := .cells #[.int .i32 a0_0, .int .u32 a0_1, .slice A0_2 l0_2.length c0_2] 47 (0, 0)) (bK BK112.out)) : gb113 ≠ gb112)); clear BK112; clear HB; have BK112 := n0_; have HB := n1_; have BK113 := n2_; have GW113 := n3_; have GE113 := n4_; have NB112_113 := n5_; have NB113_112 := n6_; clear n0_ n1_ n2_ n3_ n4_ n5_ n6_; clear hb hbox hg; have hnb8 := NB112_113.out; have hnc8 := NB113_112.out; have hz9 := bx3 BK112.out; have hz10 := bx1 BK113.out) | ((with_reducible refine gate_callee (f := 64) rfl ?_); refine gL 11 Try.func64 #[.int .i64 (l0_2.length : Int), .int .i64 a1] (h := ?_); (with_reducible refine (F64.calls (l0_2.length : Int) a1 t114 _ A3.out).mono ?_); rintro e w' ⟨rfl, ⟨nd, rfl⟩⟩; refine ⟨_, rfl, ?_⟩))
  (try simp only [Act.put, List.setIfInBounds_toArray, List.set_cons_zero, List.set_cons_succ])
  go_cut [6] (fun v6 wc => ∃ (kq : Nat) (x6_4 : Bool), v6 = .bool x6_4 ∧ Aside0 (F76.j0 kq x6_4 a0_0 a0_1 l0_2 a1 = some r) ∧ Aside0 (kq ≤ k) ∧ Aside0 (wc.heap[gb112]? = some (.cells #[.int .i32 a0_0, .int .u32 a0_1, (.slice A0_2 l0_2.length c0_2)] 47 (0, 0))) ∧ Aside0 (wc.heap[gb113]? = some (.cells #[.int .i64 a1] 3 (0, 0))) ∧ Aside0 (Below w.heap.size w wc))
  case first =>
   have H := HC5.out; clear HC5
   by_cases c11 : a0_1 = 0
   ·
    rw [if_pos c11] at H; have c11b0 : (a0_1 == 0) = true := beq_iff_eq.mpr c11; have c11b1 : (a0_1 != 0) = false := bne_eq_false_iff_eq.mpr c11; clear c11; (first | rw [c11b0] | (simp only [i64_w, i32_w]; rw [c11b0]) | skip); obtain ⟨t115, A12, H⟩ := bnd H; have H' := aM H; clear H; have hnb13 := NB112_113.out; have hnc13 := NB113_112.out; have hz14 := bx3 BK112.out
    go_wp2_with (first | (go_at_call 94; (with_reducible refine (F94.calls _ _ l0_2  t115 _ ?side1 ?side2 A12.out).mono ?_); (case side1 => repeat (first | exact (Kd.C_below HR0_2.out HB.out) | (with_reducible refine Kd.C_alloc ?_ _) | (with_reducible refine Kd.C_drewN ?_ _) | (with_reducible refine Kd.C_drew ?_))); (case side2 => exact HC0_2.out); rintro e w' ⟨rfl, ⟨nd, rfl⟩⟩))
    go_meet
    case rel => exact ⟨_, (t115), rfl, H', ⟨by first | omega | exact Nat.le_refl _⟩, ⟨bK BK112.out⟩, ⟨bK BK113.out⟩, ⟨bZ⟩⟩
   ·
    rw [if_neg c11] at H; have c11b0 : (a0_1 == 0) = false := beq_eq_false_iff_ne.mpr c11; have c11b1 : (a0_1 != 0) = true := bne_iff_ne.mpr c11; (first | rw [c11b0] | (simp only [i64_w, i32_w]; rw [c11b0]) | skip); have H' := aM H; clear H; have hnb15 := NB112_113.out; have hnc15 := NB113_112.out; have hz16 := bx3 BK112.out
    go_wp2
    go_meet
    case rel => exact ⟨_, (false), rfl, H', ⟨by first | omega | exact Nat.le_refl _⟩, ⟨bK BK112.out⟩, ⟨bK BK113.out⟩, ⟨bZ⟩⟩
  case rest =>
   clear HC5; (try clear c1); (try clear p2); (try clear c4); (try clear c4b0); (try clear c4b1); (try clear c6); (try clear c7); (try clear c8); (try clear c11); (try clear c11b0); (try clear c11b1); (try clear c13); (try clear c15); (try clear hz10); (try clear hz14); (try clear hz16); (try clear hz9); obtain ⟨kq, x6_4, rfl, HA, HJ4, BK112, BK113, HB⟩ := hcut
   cases kq with
   | zero => exact absurd HA.out (by simp [F76.j0])
   | succ kj4 =>
    have H := HA.out; clear HA; simp only [F76.j0] at H; have HC17 := aM H; clear H
    go_upto_region 5 with (fail)
    go_cut [23] (fun v23 wc => ∃ (kq : Nat) (x23_16 : Bool), v23 = .bool x23_16 ∧ Aside0 (F76.j1 kq x23_16 a0_0 a0_1 l0_2 a1 = some r) ∧ Aside0 (kq ≤ kj4) ∧ Aside0 (wc.heap[gb112]? = some (.cells #[.int .i32 a0_0, .int .u32 a0_1, (.slice A0_2 l0_2.length c0_2)] 47 (0, 0))) ∧ Aside0 (wc.heap[gb113]? = some (.cells #[.int .i64 a1] 3 (0, 0))) ∧ Aside0 (Below w.heap.size w wc))
    case first =>
     have H := HC17.out; clear HC17
     by_cases c18 : a0_1 > 1431655765
     ·
      rw [if_pos c18] at H; have c18b0 : decide (1431655765 < a0_1) = true := dT c18; clear c18; (first | rw [c18b0] | (simp only [i64_w, i32_w]; rw [c18b0]) | skip); have H' := aM H; clear H; have hnb19 := NB112_113.out; have hnc19 := NB113_112.out; have hz20 := bx3 BK112.out
      go_wp2
      go_meet
      case rel => exact ⟨_, (true), rfl, H', ⟨by have := HJ4.out; first | omega | exact Nat.le_refl _⟩, ⟨bK BK112.out⟩, ⟨bK BK113.out⟩, ⟨bZ⟩⟩
     ·
      rw [if_neg c18] at H; have c18b0 : decide (1431655765 < a0_1) = false := dF c18; clear c18; (first | rw [c18b0] | (simp only [i64_w, i32_w]; rw [c18b0]) | skip); have H' := aM H; clear H; have hnb21 := NB112_113.out; have hnc21 := NB113_112.out; have hz22 := bx3 BK112.out
      go_wp2
      go_meet
      case rel => exact ⟨_, (x6_4), rfl, H', ⟨by have := HJ4.out; first | omega | exact Nat.le_refl _⟩, ⟨bK BK112.out⟩, ⟨bK BK113.out⟩, ⟨bZ⟩⟩
    case rest =>
     clear HC17; (try clear c1); (try clear c2); (try clear p2); (try clear c4); (try clear c4b0); (try clear c4b1); (try clear c6); (try clear c7); (try clear c8); (try clear c11); (try clear c11b0); (try clear c11b1); (try clear c13); (try clear c15); (try clear c18); (try clear c18b0); (try clear c19); (try clear c21); (try clear hz10); (try clear hz14); (try clear hz16); (try clear hz20); (try clear hz22); (try clear hz9); (try clear p2); obtain ⟨kq, x23_16, rfl, HA, HJ16, BK112, BK113, HB⟩ := hcut
     cases kq with
     | zero => exact absurd HA.out (by simp [F76.j1])
     | succ kj16 =>
      have H := HA.out; clear HA; simp only [F76.j1] at H
      by_cases c23 : x23_16 = true
      ·
       subst c23; rw [if_pos rfl] at H; obtain rfl := oI H
       go_wp2
       go_ret
       exact ⟨rfl, bZ⟩
      ·
       replace c23 := Bool.eq_false_iff.mpr c23; subst c23; rw [if_neg (show ¬ (false = true) by decide)] at H; obtain ⟨t116, A24, H⟩ := bnd H
       by_cases c25 : t116 = true
       ·
        subst c25; rw [if_pos rfl] at H; obtain rfl := oI H; have hnb26 := NB112_113.out; have hnc26 := NB113_112.out; have hz27 := bx3 BK112.out; have hz28 := bx1 BK113.out
        go_wp2_with (first | ((with_reducible refine gate_callee (f := 94) rfl ?_); refine gL 34 Try.func94 #[.slice A0_2 l0_2.length c0_2, .func (.func 96) #[] #[.pointer (some ⟨gb113, 0, none⟩)]] (h := ?_); (with_reducible refine (F94b.calls _ _ l0_2 gb113 a1 true _ ?side1 ?side2 ?side3 A24.out).mono ?_); (case side1 => repeat (first | exact (Kd.C_below HR0_2.out HB.out) | (with_reducible refine Kd.C_alloc ?_ _) | (with_reducible refine Kd.C_drewN ?_ _) | (with_reducible refine Kd.C_drew ?_))); (case side2 => exact HC0_2.out); (case side3 => exact by (with_reducible repeat (first | refine blk_drewN ?_ _ | refine blk_drew ?_ | refine blk_alloc ?_ _)); exact BK113.out); rintro e w' ⟨rfl, ⟨nd, rfl⟩⟩; refine ⟨_, rfl, ?_⟩))
        go_ret
        exact ⟨rfl, bZ⟩
       ·
        replace c25 := Bool.eq_false_iff.mpr c25; subst c25; rw [if_neg (show ¬ (false = true) by decide)] at H; obtain rfl := oI H; have hnb29 := NB112_113.out; have hnc29 := NB113_112.out; have hz30 := bx3 BK112.out; have hz31 := bx1 BK113.out
        go_wp2_with (first | ((with_reducible refine gate_callee (f := 94) rfl ?_); refine gL 34 Try.func94 #[.slice A0_2 l0_2.length c0_2, .func (.func 96) #[] #[.pointer (some ⟨gb113, 0, none⟩)]] (h := ?_); (with_reducible refine (F94b.calls _ _ l0_2 gb113 a1 false _ ?side1 ?side2 ?side3 A24.out).mono ?_); (case side1 => repeat (first | exact (Kd.C_below HR0_2.out HB.out) | (with_reducible refine Kd.C_alloc ?_ _) | (with_reducible refine Kd.C_drewN ?_ _) | (with_reducible refine Kd.C_drew ?_))); (case side2 => exact HC0_2.out); (case side3 => exact by (with_reducible repeat (first | refine blk_drewN ?_ _ | refine blk_drew ?_ | refine blk_alloc ?_ _)); exact BK113.out); rintro e w' ⟨rfl, ⟨nd, rfl⟩⟩; refine ⟨_, rfl, ?_⟩))
        go_ret
        exact ⟨rfl, bZ⟩
 ·
  rw [if_neg c4] at H; have c4b0 : (t114 == 0) = false := beq_eq_false_iff_ne.mpr c4; have c4b1 : (t114 != 0) = true := bne_iff_ne.mpr c4; obtain rfl := oI H
  go_enter Try.func76, Try.ntmps76
  go_wp2_with (first | ((with_reducible refine gate_dst (N := 2) rfl ?_); refine bxE 2 #[.int .i32 a0_0, .int .u32 a0_1, .slice A0_2 l0_2.length c0_2] 47 (h := ?_); intro gb112 hg w32 hbox hb; have BK112 := aM (hbox); have GW112 := aM ((by rw [hg]; exact (below_size bZ) : w.heap.size ≤ gb112)); have GE112 := aM ((by rw [hg]; exact (below_size bZ) : w.heap.size ≤ gb112)); replace HB := aM (below_step bZ hb); clear hb hbox hg) | ((with_reducible refine gate_dst (N := 3) rfl ?_); refine bxE 3 #[.int .i64 a1] 3 (h := ?_); intro gb113 hg w33 hbox hb; have BK113 := aM (hbox); have GW113 := aM ((by rw [hg]; exact (below_size bZ) : w.heap.size ≤ gb113)); have GE113 := aM ((by rw [hg]; exact (below_size bZ) : w.heap.size ≤ gb113)); replace HB := aM (below_step bZ hb); have NB112_113 := aM ((by rw [hg]; exact Nat.ne_of_lt (blk_lt (g := gb112) (o := .cells #[.int .i32 a0_0, .int .u32 a0_1, .slice A0_2 l0_2.length c0_2] 47 (0, 0)) (bK BK112.out)) : gb112 ≠ gb113)); have NB113_112 := aM ((by rw [hg]; exact Nat.ne_of_gt (blk_lt (g := gb112) (o := .cells #[.int .i32 a0_0, .int .u32 a0_1, .slice A0_2 l0_2.length c0_2] 47 (0, 0)) (bK BK112.out)) : gb113 ≠ gb112)); replace BK112 := aM (blk_below (g := gb112) (o := .cells #[.int .i32 a0_0, .int .u32 a0_1, .slice A0_2 l0_2.length c0_2] 47 (0, 0)) (bK BK112.out) hb); clear hb hbox hg; have hnb34 := NB112_113.out; have hnc34 := NB113_112.out; have hz35 := bx3 BK112.out; have hz36 := bx1 BK113.out) | ((with_reducible refine gate_callee (f := 64) rfl ?_); refine gL 11 Try.func64 #[.int .i64 (l0_2.length : Int), .int .i64 a1] (h := ?_); (with_reducible refine (F64.calls (l0_2.length : Int) a1 t114 _ A3.out).mono ?_); rintro e w' ⟨rfl, ⟨nd, rfl⟩⟩; refine ⟨_, rfl, ?_⟩))
  go_ret
  exact ⟨rfl, bZ⟩

def F88.f (a0 : Int) : Option (Bool) := if a0 ≥ 0 then (some (decide (a0 ≤ 256))) else (some false)
theorem F88.calls (a0 : Int) (r : Bool) (w : World) (h : F88.f a0 = some r) :
  Calls Try.prog 88 #[.int .i64 a0] w fun e w' => e = .returned (.bool r) ∧ Drawn0 w w' := by
 have H := h; clear h; unfold F88.f at H
 by_cases c2 : a0 ≥ 0
 ·
  rw [if_pos c2] at H; have c2b0 : decide (0 ≤ a0) = true := dT c2; clear c2; obtain rfl := oI H
  go_enter Try.func88, Try.ntmps88
  go_wp2
  go_ret
  exact ⟨rfl, dR⟩
 ·
  rw [if_neg c2] at H; have c2b0 : decide (0 ≤ a0) = false := dF c2; clear c2; obtain rfl := oI H
  go_enter Try.func88, Try.ntmps88
  go_wp2
  go_ret
  exact ⟨rfl, dR⟩

def F57.f (a0 : Int) (a1 : Int) : Option (Int) := (F48.f a1).bind fun t117 => (if t117 = true then ((F88.f a0).bind fun t118 => (if t118 = true then (some (wrap64 (Int.tdiv (wrap64 ((wrap64 ((wrap64 (a0 * a1)) + 64)) - 1)) 64))) else (some 0))) else (some 0))
theorem F57.calls (a0 : Int) (a1 : Int) (r : Int) (w : World) (h : F57.f a0 a1 = some r) :
  Calls Try.prog 57 #[.int .i64 a0, .int .i64 a1] w fun e w' => e = .returned (.int .i64 r) ∧ Drawn0 w w' := by
 have H := h; clear h; unfold F57.f at H; obtain ⟨t117, A3, H⟩ := bnd H
 by_cases c4 : t117 = true
 ·
  subst c4; rw [if_pos rfl] at H; obtain ⟨t118, A5, H⟩ := bnd H
  by_cases c6 : t118 = true
  ·
   subst c6; rw [if_pos rfl] at H; obtain rfl := oI H
   go_enter Try.func57, Try.ntmps57
   go_wp2_with (first | ((with_reducible refine gate_callee (f := 48) rfl ?_); refine gL 6 Try.func48 #[.int .i64 a1] (h := ?_); (with_reducible refine (F48.calls a1 true _ A3.out).mono ?_); rintro e w' ⟨rfl, ⟨nd, rfl⟩⟩; refine ⟨_, rfl, ?_⟩) | (go_at_call 88; (with_reducible refine (F88.calls a0 true _ A5.out).mono ?_); rintro e w' ⟨rfl, ⟨nd, rfl⟩⟩))
   go_ret
   exact ⟨rfl, dR⟩
  ·
   replace c6 := Bool.eq_false_iff.mpr c6; subst c6; rw [if_neg (show ¬ (false = true) by decide)] at H; obtain rfl := oI H
   go_enter Try.func57, Try.ntmps57
   go_wp2_with (first | ((with_reducible refine gate_callee (f := 48) rfl ?_); refine gL 6 Try.func48 #[.int .i64 a1] (h := ?_); (with_reducible refine (F48.calls a1 true _ A3.out).mono ?_); rintro e w' ⟨rfl, ⟨nd, rfl⟩⟩; refine ⟨_, rfl, ?_⟩) | (go_at_call 88; (with_reducible refine (F88.calls a0 false _ A5.out).mono ?_); rintro e w' ⟨rfl, ⟨nd, rfl⟩⟩))
   go_ret
   exact ⟨rfl, dR⟩
 ·
  replace c4 := Bool.eq_false_iff.mpr c4; subst c4; rw [if_neg (show ¬ (false = true) by decide)] at H; obtain rfl := oI H
  go_enter Try.func57, Try.ntmps57
  go_wp2_with (first | ((with_reducible refine gate_callee (f := 48) rfl ?_); refine gL 6 Try.func48 #[.int .i64 a1] (h := ?_); (with_reducible refine (F48.calls a1 false _ A3.out).mono ?_); rintro e w' ⟨rfl, ⟨nd, rfl⟩⟩; refine ⟨_, rfl, ?_⟩))
  go_ret
  exact ⟨rfl, dR⟩

def pack_Pack_1.ok (b : Int) : Bool := decide (0 ≤ b) && decide (b ≤ 62)
def pack_Pack_1.p (b x : Int) : Bool := decide (x < 0) || decide (2 ^ b.toNat ≤ x)
theorem pack_Pack_1.calls (g : Nat) (b x : Int) (w : World) (hg : w.heap[g]? = some (.cells #[.int .i64 b] 3 (0, 0))) (hk : pack_Pack_1.ok b = true) :
  Calls Try.prog 98 #[.int .i64 x, .pointer (some ⟨g, 0, none⟩)] w fun e w' => e = .returned (.bool (pack_Pack_1.p b x)) ∧ Drawn0 w w' := by
 (have hk2 : 0 ≤ b ∧ b ≤ 62 := by simpa [pack_Pack_1.ok] using hk); have h0 : 0 ≤ b := hk2.1; have h62 : b ≤ 62 := hk2.2
 have hpow : (2 : Int) ^ b.toNat ≤ 2 ^ 62 := by
  have h1 : (2 : Nat) ^ b.toNat ≤ 2 ^ 62 := Nat.pow_le_pow_right (by decide) (by omega)
  exact_mod_cast h1
 have hpos : (0 : Int) < 2 ^ b.toNat := Int.pow_pos (by decide)
 have hwr : wrap64 (2 ^ b.toNat) = 2 ^ b.toNat := by
  (have : (2 : Int) ^ 62 = 4611686018427387904 := by decide); unfold wrap64
  omega
 have hcell : w.cell? ⟨g, 0, none⟩ = some (.int .i64 b) := (blk_cell hg 0).trans rfl; obtain ⟨q, hq⟩ : ∃ q : Bool, pack_Pack_1.p b x = q := ⟨_, rfl⟩; have HQ := aM hq; rw [hq]; have HW := aM hwr; clear hq hk hk2 hpow hpos hwr hg
 by_cases hx : x < 0
 ·
  have hx1 : decide (x < 0) = true := dT hx
  go_enter Try.func98, Try.ntmps98
  go_wp2
  all_goals (first | (go_ret; exact ⟨by rw [← HQ.out]; simp [pack_Pack_1.p, hx], Drawn0.refl _⟩) | (exfalso; omega))
 ·
  have hx1 : decide (x < 0) = false := dF hx
  go_enter Try.func98, Try.ntmps98
  go_wp2
  all_goals (first | (go_ret; exact ⟨by rw [← HQ.out]; simp only [pack_Pack_1.p, hx1, HW.out, Bool.false_or]; rfl, Drawn0.refl _⟩) | (exfalso; omega))

def F94bb.f (l0 : List Int) (b : Int) : Option Bool := if pack_Pack_1.ok b = true then some (l0.any (pack_Pack_1.p b)) else none
theorem pack_Pack_1_ix.calls (A0 : Option Addr) (c0 : Nat) (l0 : List Int) (g : Nat) (b : Int) (w : World) (hr0 : Kd.C (Kd.int .i64) w A0 l0.length l0) (hg : w.heap[g]? = some (.cells #[.int .i64 b] 3 (0, 0))) (hk : pack_Pack_1.ok b = true) :
  Calls Try.prog 107 #[.slice A0 l0.length c0, .func (.func 98) #[] #[.pointer (some ⟨g, 0, none⟩)]] w fun e w' => ∃ r : Int, e = .returned (.int .i64 r) ∧ Aside0 (decide (0 ≤ r) = l0.any (pack_Pack_1.p b)) ∧ Drawn0 w w' := by
 have HR0 := aM hr0; have HG := aM hg; have HK := aM hk; clear hr0 hg hk
 go_enter Try.func107, Try.ntmps107
 go_wp2
 go_loopw [8, 5] (fun i _ w' => ∃ n : Nat, n ≤ l0.length ∧ i = .int .i64 n ∧ Aside0 ((l0.take n).any (pack_Pack_1.p b) = false) ∧ Drawn0 w w') (fun i _ _ => l0.length - (intOf i).toNat)
 case atStart => exact ⟨0, Nat.zero_le _, rfl, ⟨by simp⟩, Drawn0.refl _⟩
 case round =>
  obtain ⟨n, hn, rfl, HA, ⟨m, rfl⟩⟩ := hrel; have hl63 := HR0.out.2.1
  by_cases c : n < l0.length
  ·
   have c1 : decide ((n : Int) < (l0.length : Int)) = true := dT (by omega); have c2 : decide (n < l0.length) = true := dT c; (have hp0 : (0 : Int) ≤ (n : Int) := by omega); (have hq0 : (n : Int) < (l0.length : Int) := by omega); obtain ⟨ad, e1, hx⟩ := Kd.at_int HR0.out (n : Int) hp0 hq0
   cases e1
   (have hx2 : w.cell? (ad.add n) = some (.int .i64 (rd l0 (n : Int))) := by simpa using hx); have hx3 : (w.drewN m).cell? (ad.add n) = some (.int .i64 (rd l0 (n : Int))) := hx2; obtain ⟨y, hy⟩ : ∃ y : Int, rd l0 (n : Int) = y := ⟨_, rfl⟩; rw [hy] at hx hx2 hx3; obtain ⟨q, hq⟩ : ∃ q : Bool, pack_Pack_1.p b y = q := ⟨_, rfl⟩
   have CC := aM (fun (W : World) (hW : W.heap[g]? = some (.cells #[.int .i64 b] 3 (0, 0))) => by
    have h1 := pack_Pack_1.calls g b y W hW HK.out; rw [hq] at h1
    exact h1)
   have HT : Aside0 ((l0.take (n + 1)).any (pack_Pack_1.p b) = q) := ⟨by
    rw [List.take_succ_eq_append_getElem c, List.any_append, HA.out]; have : l0[n] = y := by rw [← hy]; simp [rd, List.getElem?_eq_getElem c]
    simp [this, hq]⟩
   have HMEM : Aside0 (pack_Pack_1.p b y = true → l0.any (pack_Pack_1.p b) = true) := ⟨fun h => by
    rw [List.any_eq_true]
    refine ⟨y, ?_, h⟩
    (have : l0[n] = y := by rw [← hy]; simp [rd, List.getElem?_eq_getElem c]); rw [← this]
    exact List.getElem_mem c⟩
   have HQ := aM hq; have HG2 := aM (show (w.drewN m).heap[g]? = some (.cells #[.int .i64 b] 3 (0, 0)) from HG.out); clear hq hy HA
   cases q with
   | true =>
    go_wp2_with (first | (go_at_call 98; (with_reducible refine (CC.out _ HG2.out).mono ?_); rintro e w' ⟨rfl, ⟨nd, rfl⟩⟩))
    go_ret
    exact ⟨_, rfl, ⟨by rw [HMEM.out HQ.out]; simp⟩, dR⟩
   | false =>
    go_wp2_with (first | (go_at_call 98; (with_reducible refine (CC.out _ HG2.out).mono ?_); rintro e w' ⟨rfl, ⟨nd, rfl⟩⟩))
    go_roundw
    case rel => exact ⟨n + 1, by omega, by go_num, HT, dR⟩
    case measure => simp [intOf]; omega
  ·
   have c1 : decide ((n : Int) < (l0.length : Int)) = false := dF (by omega); have c2 : decide (n < l0.length) = false := dF c; (have hnl : n = l0.length := by omega); subst hnl
   go_wp2
   go_ret
   exact ⟨_, rfl, ⟨by have h1 := HA.out; rw [List.take_length] at h1; rw [h1]; rfl⟩, dR⟩
theorem F94bb.calls (A0 : Option Addr) (c0 : Nat) (l0 : List Int) (g : Nat) (b : Int) (r : Bool) (w : World) (hr0 : Kd.C (Kd.int .i64) w A0 l0.length l0) (hc0 : l0.length ≤ c0) (hg : w.heap[g]? = some (.cells #[.int .i64 b] 3 (0, 0))) (h : F94bb.f l0 b = some r) :
  Calls Try.prog 94 #[.slice A0 l0.length c0, .func (.func 98) #[] #[.pointer (some ⟨g, 0, none⟩)]] w fun e w' => e = .returned (.bool r) ∧ Drawn0 w w' := by
 have h2 : (if pack_Pack_1.ok b = true then some (l0.any (pack_Pack_1.p b)) else none) = some r := h; clear h
 by_cases hk : pack_Pack_1.ok b = true
 ·
  rw [if_pos hk] at h2; have HS := aM (oI h2); have HR0 := aM hr0; have HG := aM hg; have HK := aM hk; clear hr0 hg hk h2 hc0
  go_enter Try.func94, Try.ntmps94
  go_wp2_with (first | (go_at_call 107; (with_reducible refine (pack_Pack_1_ix.calls A0 c0 l0 g b _ HR0.out HG.out HK.out).mono ?_); rintro e w' ⟨r1, rfl, HE, ⟨nd, rfl⟩⟩))
  go_ret
  exact ⟨by rw [← HS.out, ← HE.out]; rfl, dR⟩
 ·
  rw [if_neg hk] at h2
  cases h2

end Go.Proofs.Ytekenaclmplocaa.PPageParses
