-- Written by a program of this session (wip/tools/mkprint.py over the kit's print).
import Derived.Test.YtekenaclmplocaaPPageParsesx0
import Derived.Test.YtekenaclmplocaaPPageParsesx19
import Derived.Test.YtekenaclmplocaaPPageParsesx23
namespace Go.Proofs.Ytekenaclmplocaa.PPageParses
open Go.RowKit Go.Proofs.YtekenaclmplocaaW.PrintWords Go.Proofs.YtekenaclmplocaaW.PrintLast Go.Proofs.YtekenaclmplocaaW.PrintMore
attribute [local go_sem] max2_int min2_int max_two min_two max_three min_three max_four min_four
set_option linter.unusedVariables false
set_option maxHeartbeats 8000000
set_option maxRecDepth 100000
set_option linter.unusedSimpArgs false

mutual
def F51.l0 : Nat → Int → Int → Int → Int → List Int → Option (Int)
 | 0, _, _, _, _, _ => none
 | k + 1, x1, x6, x615000, x615001, x615002 => if x6 < (x615002.length : Int) then (if x615001 = 0 then (if 0 ≤ x6 then (if (rd x615002 x6) = 0 then (F51.l0 k x1 (wrap64 (x6 + 1)) x615000 x615001 x615002) else (some 21)) else (none)) else (F51.l0 k x1 (wrap64 (x6 + 1)) x615000 x615001 x615002)) else (F51.l1 k x1 0 x615000 x615001 x615002)
def F51.l1 : Nat → Int → Int → Int → Int → List Int → Option (Int)
 | 0, _, _, _, _, _ => none
 | k + 1, x1, x7, x615000, x615001, x615002 => if x7 < (x615002.length : Int) then (if 0 ≤ x7 then (if (rd x615002 x7) < 0 then (some 11) else ((F81.f k x1).bind fun t619 => (if (rd x615002 x7) > t619 then (some 11) else (F51.l1 k x1 (wrap64 (x7 + 1)) x615000 x615001 x615002)))) else (none)) else (some 0)
end
def F51.f (k : Nat) (a0_0 : Int) (a0_1 : Int) (l0_2 : List Int) (a1 : Int) : Option (Int) := (F80.f (l0_2.length : Int) a1).bind fun t615 => (if t615 = 0 then (if a0_1 > 1431655765 then (some 21) else (F51.l0 k a1 0 a0_0 a0_1 l0_2)) else (some t615))
theorem F51.mono_l : ∀ k, (∀ y0 y1 y2 y3 y4, LeO (F51.l0 k y0 y1 y2 y3 y4) (F51.l0 (k + 1) y0 y1 y2 y3 y4)) ∧ (∀ y0 y1 y2 y3 y4, LeO (F51.l1 k y0 y1 y2 y3 y4) (F51.l1 (k + 1) y0 y1 y2 y3 y4))
 | 0 => ⟨fun _ _ _ _ _ r h => by simp [F51.l0] at h, fun _ _ _ _ _ r h => by simp [F51.l1] at h⟩
 | k + 1 => by
  obtain ⟨ih0, ih1⟩ := F51.mono_l k
  refine ⟨?_, ?_⟩
  all_goals intros
  all_goals first | unfold F51.l0 | unfold F51.l1
  all_goals repeat' with_reducible first | exact ih0 _ _ _ _ _ | exact ih1 _ _ _ _ _ | exact F81.mono _ _ | exact LeO.refl _ | exact LeO.none _ | refine LeO.ite ?_ ?_ | refine LeO.bind ?_ (fun _ => ?_)
theorem F51.mono : ∀ a0 a1 a2 a3 k, LeO (F51.f k a0 a1 a2 a3) (F51.f (k + 1) a0 a1 a2 a3) := by
 intro a0 a1 a2 a3 k; obtain ⟨ih0, ih1⟩ := F51.mono_l k; unfold F51.f
 repeat' with_reducible first | exact ih0 _ _ _ _ _ | exact ih1 _ _ _ _ _ | exact F81.mono _ _ | exact LeO.refl _ | exact LeO.none _ | refine LeO.ite ?_ ?_ | refine LeO.bind ?_ (fun _ => ?_)
theorem F51.calls (k : Nat) (a0_0 : Int) (a0_1 : Int) (A0_2 : Option Addr) (c0_2 : Nat) (l0_2 : List Int) (a1 : Int) (r : Int) (w : World) (hr0_2 : Kd.C (Kd.int .i64) w A0_2 l0_2.length l0_2) (hc0_2 : l0_2.length ≤ c0_2) (h : F51.f k a0_0 a0_1 l0_2 a1 = some r) :
  Calls Try.prog 51 #[.agg #[.int .i32 a0_0, .int .u32 a0_1, .slice A0_2 l0_2.length c0_2], .int .i64 a1] w fun e w' => e = .returned (.int .i64 r) ∧ Below w.heap.size w w' := by
 have hu98 := Try.underlying98; have HR0_2 := aM hr0_2; have HC0_2 := aM hc0_2; clear hr0_2 hc0_2; have HB := aM (Below.refl w.heap.size w); have H := h; clear h; unfold F51.f at H; obtain ⟨t615, A3, H⟩ := bnd H
 by_cases c4 : t615 = 0
 ·
  rw [if_pos c4] at H; have c4b0 : (t615 == 0) = true := beq_iff_eq.mpr c4; have c4b1 : (t615 != 0) = false := bne_eq_false_iff_eq.mpr c4; clear c4
  by_cases c5 : a0_1 > 1431655765
  ·
   rw [if_pos c5] at H; have c5b0 : decide (1431655765 < a0_1) = true := dT c5; clear c5; obtain rfl := oI H
   go_enter Try.func51, Try.ntmps51
   go_wp2_with (first | ((with_reducible refine gate_dst (N := 2) rfl ?_); refine bxE 2 #[.int .i32 a0_0, .int .u32 a0_1, .slice A0_2 l0_2.length c0_2] 98 (h := ?_); intro gb614 hg w6 hbox hb; have BK614 := aM (hbox); have GW614 := aM ((by rw [hg]; exact (below_size bZ) : w.heap.size ≤ gb614)); have GE614 := aM ((by rw [hg]; exact (below_size bZ) : w.heap.size ≤ gb614)); replace HB := aM (below_step bZ hb); clear hb hbox hg; have hz7 := bx3 BK614.out) | (go_at_call 80; (with_reducible refine (F80.calls (l0_2.length : Int) a1 t615 _ A3.out).mono ?_); rintro e w' ⟨rfl, ⟨nd, rfl⟩⟩; (try first | exact ⟨rfl, _, World.drewN_drewN _ _ _⟩ | exact ⟨rfl, _, Eq.trans (World.drewN_drewN _ _ _) (congrArg (World.drewN _) (Nat.add_assoc _ _ _))⟩)))
   repeat (go_quiet (first | ((with_reducible refine gate_dst (N := 2) rfl ?_); refine bxE 2 #[.int .i32 a0_0, .int .u32 a0_1, .slice A0_2 l0_2.length c0_2] 98 (h := ?_); intro gb614 hg w6 hbox hb; have BK614 := aM (hbox); have GW614 := aM ((by rw [hg]; exact (below_size bZ) : w.heap.size ≤ gb614)); have GE614 := aM ((by rw [hg]; exact (below_size bZ) : w.heap.size ≤ gb614)); replace HB := aM (below_step bZ hb); clear hb hbox hg; have hz7 := bx3 BK614.out) | (go_at_call 80; (with_reducible refine (F80.calls (l0_2.length : Int) a1 t615 _ A3.out).mono ?_); rintro e w' ⟨rfl, ⟨nd, rfl⟩⟩; (try first | exact ⟨rfl, _, World.drewN_drewN _ _ _⟩ | exact ⟨rfl, _, Eq.trans (World.drewN_drewN _ _ _) (congrArg (World.drewN _) (Nat.add_assoc _ _ _))⟩))); try go_wp2_with (first | ((with_reducible refine gate_dst (N := 2) rfl ?_); refine bxE 2 #[.int .i32 a0_0, .int .u32 a0_1, .slice A0_2 l0_2.length c0_2] 98 (h := ?_); intro gb614 hg w6 hbox hb; have BK614 := aM (hbox); have GW614 := aM ((by rw [hg]; exact (below_size bZ) : w.heap.size ≤ gb614)); have GE614 := aM ((by rw [hg]; exact (below_size bZ) : w.heap.size ≤ gb614)); replace HB := aM (below_step bZ hb); clear hb hbox hg; have hz7 := bx3 BK614.out) | (go_at_call 80; (with_reducible refine (F80.calls (l0_2.length : Int) a1 t615 _ A3.out).mono ?_); rintro e w' ⟨rfl, ⟨nd, rfl⟩⟩; (try first | exact ⟨rfl, _, World.drewN_drewN _ _ _⟩ | exact ⟨rfl, _, Eq.trans (World.drewN_drewN _ _ _) (congrArg (World.drewN _) (Nat.add_assoc _ _ _))⟩))))
   go_ret
   exact ⟨rfl, bZ⟩
  ·
   rw [if_neg c5] at H; have c5b0 : decide (1431655765 < a0_1) = false := dF c5; clear c5; have H' := aM H; clear H
   go_enter Try.func51, Try.ntmps51
   go_wp2_with (first | ((with_reducible refine gate_dst (N := 2) rfl ?_); refine bxE 2 #[.int .i32 a0_0, .int .u32 a0_1, .slice A0_2 l0_2.length c0_2] 98 (h := ?_); intro gb614 hg w8 hbox hb; have BK614 := aM (hbox); have GW614 := aM ((by rw [hg]; exact (below_size bZ) : w.heap.size ≤ gb614)); have GE614 := aM ((by rw [hg]; exact (below_size bZ) : w.heap.size ≤ gb614)); replace HB := aM (below_step bZ hb); clear hb hbox hg; have hz9 := bx3 BK614.out) | (go_at_call 80; (with_reducible refine (F80.calls (l0_2.length : Int) a1 t615 _ A3.out).mono ?_); rintro e w' ⟨rfl, ⟨nd, rfl⟩⟩; (try first | exact ⟨rfl, _, World.drewN_drewN _ _ _⟩ | exact ⟨rfl, _, Eq.trans (World.drewN_drewN _ _ _) (congrArg (World.drewN _) (Nat.add_assoc _ _ _))⟩)))
   repeat (go_quiet (first | ((with_reducible refine gate_dst (N := 2) rfl ?_); refine bxE 2 #[.int .i32 a0_0, .int .u32 a0_1, .slice A0_2 l0_2.length c0_2] 98 (h := ?_); intro gb614 hg w8 hbox hb; have BK614 := aM (hbox); have GW614 := aM ((by rw [hg]; exact (below_size bZ) : w.heap.size ≤ gb614)); have GE614 := aM ((by rw [hg]; exact (below_size bZ) : w.heap.size ≤ gb614)); replace HB := aM (below_step bZ hb); clear hb hbox hg; have hz9 := bx3 BK614.out) | (go_at_call 80; (with_reducible refine (F80.calls (l0_2.length : Int) a1 t615 _ A3.out).mono ?_); rintro e w' ⟨rfl, ⟨nd, rfl⟩⟩; (try first | exact ⟨rfl, _, World.drewN_drewN _ _ _⟩ | exact ⟨rfl, _, Eq.trans (World.drewN_drewN _ _ _) (congrArg (World.drewN _) (Nat.add_assoc _ _ _))⟩))); try go_wp2_with (first | ((with_reducible refine gate_dst (N := 2) rfl ?_); refine bxE 2 #[.int .i32 a0_0, .int .u32 a0_1, .slice A0_2 l0_2.length c0_2] 98 (h := ?_); intro gb614 hg w8 hbox hb; have BK614 := aM (hbox); have GW614 := aM ((by rw [hg]; exact (below_size bZ) : w.heap.size ≤ gb614)); have GE614 := aM ((by rw [hg]; exact (below_size bZ) : w.heap.size ≤ gb614)); replace HB := aM (below_step bZ hb); clear hb hbox hg; have hz9 := bx3 BK614.out) | (go_at_call 80; (with_reducible refine (F80.calls (l0_2.length : Int) a1 t615 _ A3.out).mono ?_); rintro e w' ⟨rfl, ⟨nd, rfl⟩⟩; (try first | exact ⟨rfl, _, World.drewN_drewN _ _ _⟩ | exact ⟨rfl, _, Eq.trans (World.drewN_drewN _ _ _) (congrArg (World.drewN _) (Nat.add_assoc _ _ _))⟩))))
   go_loopg [6] k (fun kq v6 w' => ∃ (x6_1 : Int), v6 = .int .i64 x6_1 ∧ Aside0 (F51.l0 kq a1 x6_1 a0_0 a0_1 l0_2 = some r) ∧ Aside0 (kq ≤ k) ∧ Aside0 (w'.heap[gb614]? = some (.cells #[.int .i32 a0_0, .int .u32 a0_1, (.slice A0_2 l0_2.length c0_2)] 98 (0, 0))) ∧ Aside0 (Below w.heap.size w w'))
   case atStart => exact ⟨(0), rfl, H', ⟨Nat.le_refl _⟩, ⟨bK BK614.out⟩, ⟨bZ⟩⟩
   case round =>
    clear H'; (try clear p2); (try clear c4); (try clear c4b0); (try clear c4b1); (try clear c5); (try clear c5b0); (try clear hz7); (try clear hz9); obtain ⟨x6_1, rfl, HA, HK1, BK614, HB⟩ := hrel
    cases gk with
    | zero => exact absurd HA.out (by simp [F51.l0])
    | succ k1 =>
     have H := HA.out; clear HA; simp only [F51.l0] at H
     by_cases c10 : x6_1 < (l0_2.length : Int)
     ·
      rw [if_pos c10] at H; have c10b0 : decide (x6_1 < (l0_2.length : Int)) = true := dT c10; clear c10
      by_cases c11 : a0_1 = 0
      ·
       rw [if_pos c11] at H; have c11b0 : (a0_1 == 0) = true := beq_iff_eq.mpr c11; have c11b1 : (a0_1 != 0) = false := bne_eq_false_iff_eq.mpr c11; clear c11; obtain ⟨c12, H⟩ := ifp H; have c12b0 : decide (0 ≤ x6_1) = true := dT c12; clear c12
       by_cases c13 : (rd l0_2 x6_1) = 0
       ·
        rw [if_pos c13] at H; have c13b0 : ((rd l0_2 x6_1) == 0) = true := beq_iff_eq.mpr c13; have c13b1 : ((rd l0_2 x6_1) != 0) = false := bne_eq_false_iff_eq.mpr c13; clear c13; have H' := aM H; clear H; have hz14 := bx3 BK614.out; have p616 : 0 ≤ (x6_1 : Int) := oD; have q616 : x6_1 < (l0_2.length : Int) := oD; obtain ⟨ad616, e616, hx616_0⟩ := Kd.at_int HR0_2.out x6_1 p616 q616
        cases e616
        replace hx616_0 := cU HB hx616_0; replace p616 := eq_true p616; replace q616 := eq_true q616
        go_wp2
        repeat (go_quiet (fail); try go_wp2)
        go_roundg k1
        case measure => have := HK1.out; omega
        case rel => exact ⟨(wrap64 (x6_1 + 1)), rfl, H', ⟨by have := HK1.out; omega⟩, ⟨bK BK614.out⟩, ⟨bZ⟩⟩
       ·
        rw [if_neg c13] at H; have c13b0 : ((rd l0_2 x6_1) == 0) = false := beq_eq_false_iff_ne.mpr c13; have c13b1 : ((rd l0_2 x6_1) != 0) = true := bne_iff_ne.mpr c13; obtain rfl := oI H; have hz15 := bx3 BK614.out; have p616 : 0 ≤ (x6_1 : Int) := oD; have q616 : x6_1 < (l0_2.length : Int) := oD; obtain ⟨ad616, e616, hx616_0⟩ := Kd.at_int HR0_2.out x6_1 p616 q616
        cases e616
        replace hx616_0 := cU HB hx616_0; replace p616 := eq_true p616; replace q616 := eq_true q616
        go_wp2
        repeat (go_quiet (fail); try go_wp2)
        go_ret
        exact ⟨rfl, bZ⟩
      ·
       rw [if_neg c11] at H; have c11b0 : (a0_1 == 0) = false := beq_eq_false_iff_ne.mpr c11; have c11b1 : (a0_1 != 0) = true := bne_iff_ne.mpr c11; have H' := aM H; clear H; have hz16 := bx3 BK614.out
       go_wp2
       repeat (go_quiet (fail); try go_wp2)
       go_roundg k1
       case measure => have := HK1.out; omega
       case rel => exact ⟨(wrap64 (x6_1 + 1)), rfl, H', ⟨by have := HK1.out; omega⟩, ⟨bK BK614.out⟩, ⟨bZ⟩⟩
     ·
      rw [if_neg c10] at H; have c10b0 : decide (x6_1 < (l0_2.length : Int)) = false := dF c10; clear c10; have H' := aM H; clear H; have hz17 := bx3 BK614.out
      go_wp2
      repeat (go_quiet (fail); try go_wp2)
      go_loopg [7] k1 (fun kq v7 w' => ∃ (x7_2 : Int), v7 = .int .i64 x7_2 ∧ Aside0 (F51.l1 kq a1 x7_2 a0_0 a0_1 l0_2 = some r) ∧ Aside0 (kq ≤ k1) ∧ Aside0 (w'.heap[gb614]? = some (.cells #[.int .i32 a0_0, .int .u32 a0_1, (.slice A0_2 l0_2.length c0_2)] 98 (0, 0))) ∧ Aside0 (Below w.heap.size w w'))
      case atStart => exact ⟨(0), rfl, H', ⟨Nat.le_refl _⟩, ⟨bK BK614.out⟩, ⟨bZ⟩⟩
      case round =>
       clear H'; (try clear c1); (try clear p2); (try clear c4); (try clear c4b0); (try clear c4b1); (try clear c5); (try clear c5b0); (try clear p6); (try clear q6); (try clear hx6); (try clear c10); (try clear c10b0); (try clear c11); (try clear c11b0); (try clear c11b1); (try clear c12); (try clear c12b0); (try clear c13); (try clear c13b0); (try clear c13b1); (try clear hz14); (try clear hz15); (try clear hz16); (try clear hz17); (try clear hz7); (try clear hz9); (try clear hx616_0); (try clear p2); (try clear p616); (try clear q616); obtain ⟨x7_2, rfl, HA, HK2, BK614, HB⟩ := hrel
       cases gk with
       | zero => exact absurd HA.out (by simp [F51.l1])
       | succ k2 =>
        have H := HA.out; clear HA; simp only [F51.l1] at H
        by_cases c18 : x7_2 < (l0_2.length : Int)
        ·
         rw [if_pos c18] at H; have c18b0 : decide (x7_2 < (l0_2.length : Int)) = true := dT c18; clear c18; obtain ⟨c19, H⟩ := ifp H; have c19b0 : decide (0 ≤ x7_2) = true := dT c19; clear c19
         by_cases c20 : (rd l0_2 x7_2) < 0
         ·
          rw [if_pos c20] at H; have c20b0 : decide ((rd l0_2 x7_2) < 0) = true := dT c20; clear c20; obtain rfl := oI H; have hz21 := bx3 BK614.out; have p617 : 0 ≤ (x7_2 : Int) := oD; have q617 : x7_2 < (l0_2.length : Int) := oD; obtain ⟨ad617, e617, hx617_0⟩ := Kd.at_int HR0_2.out x7_2 p617 q617
          cases e617
          replace hx617_0 := cU HB hx617_0; replace p617 := eq_true p617; replace q617 := eq_true q617
          go_wp2
          repeat (go_quiet (fail); try go_wp2)
          go_ret
          exact ⟨rfl, bZ⟩
         ·
          rw [if_neg c20] at H; have c20b0 : decide ((rd l0_2 x7_2) < 0) = false := dF c20; clear c20; obtain ⟨t619, A22, H⟩ := bnd H
          by_cases c23 : (rd l0_2 x7_2) > t619
          ·
           rw [if_pos c23] at H; have c23b0 : decide (t619 < (rd l0_2 x7_2)) = true := dT c23; clear c23; obtain rfl := oI H; have hz24 := bx3 BK614.out; have p617 : 0 ≤ (x7_2 : Int) := oD; have q617 : x7_2 < (l0_2.length : Int) := oD; obtain ⟨ad617, e617, hx617_0⟩ := Kd.at_int HR0_2.out x7_2 p617 q617
           cases e617
           replace hx617_0 := cU HB hx617_0; replace p617 := eq_true p617; replace q617 := eq_true q617; have p618 : 0 ≤ (x7_2 : Int) := oD; have q618 : x7_2 < (l0_2.length : Int) := oD; obtain ⟨ad618, e618, hx618_0⟩ := Kd.at_int HR0_2.out x7_2 p618 q618; obtain rfl : ad617 = ad618 := (by injection e618); replace hx618_0 := cU HB hx618_0; replace p618 := eq_true p618; replace q618 := eq_true q618
           go_wp2_with (first | (go_at_call 81; (with_reducible refine (F81.calls k2 a1 t619 _ A22.out).mono ?_); rintro e w' ⟨rfl, ⟨nd, rfl⟩⟩; (try first | exact ⟨rfl, _, World.drewN_drewN _ _ _⟩ | exact ⟨rfl, _, Eq.trans (World.drewN_drewN _ _ _) (congrArg (World.drewN _) (Nat.add_assoc _ _ _))⟩)))
           repeat (go_quiet (first | (go_at_call 81; (with_reducible refine (F81.calls k2 a1 t619 _ A22.out).mono ?_); rintro e w' ⟨rfl, ⟨nd, rfl⟩⟩; (try first | exact ⟨rfl, _, World.drewN_drewN _ _ _⟩ | exact ⟨rfl, _, Eq.trans (World.drewN_drewN _ _ _) (congrArg (World.drewN _) (Nat.add_assoc _ _ _))⟩))); try go_wp2_with (first | (go_at_call 81; (with_reducible refine (F81.calls k2 a1 t619 _ A22.out).mono ?_); rintro e w' ⟨rfl, ⟨nd, rfl⟩⟩; (try first | exact ⟨rfl, _, World.drewN_drewN _ _ _⟩ | exact ⟨rfl, _, Eq.trans (World.drewN_drewN _ _ _) (congrArg (World.drewN _) (Nat.add_assoc _ _ _))⟩))))
           go_ret
           exact ⟨rfl, bZ⟩
          ·
           rw [if_neg c23] at H; have c23b0 : decide (t619 < (rd l0_2 x7_2)) = false := dF c23; clear c23; have H' := aM H; clear H; have hz25 := bx3 BK614.out; have p617 : 0 ≤ (x7_2 : Int) := oD; have q617 : x7_2 < (l0_2.length : Int) := oD; obtain ⟨ad617, e617, hx617_0⟩ := Kd.at_int HR0_2.out x7_2 p617 q617
           cases e617
           replace hx617_0 := cU HB hx617_0; replace p617 := eq_true p617; replace q617 := eq_true q617; have p618 : 0 ≤ (x7_2 : Int) := oD; have q618 : x7_2 < (l0_2.length : Int) := oD; obtain ⟨ad618, e618, hx618_0⟩ := Kd.at_int HR0_2.out x7_2 p618 q618; obtain rfl : ad617 = ad618 := (by injection e618); replace hx618_0 := cU HB hx618_0; replace p618 := eq_true p618; replace q618 := eq_true q618
           go_wp2_with (first | (go_at_call 81; (with_reducible refine (F81.calls k2 a1 t619 _ A22.out).mono ?_); rintro e w' ⟨rfl, ⟨nd, rfl⟩⟩; (try first | exact ⟨rfl, _, World.drewN_drewN _ _ _⟩ | exact ⟨rfl, _, Eq.trans (World.drewN_drewN _ _ _) (congrArg (World.drewN _) (Nat.add_assoc _ _ _))⟩)))
           repeat (go_quiet (first | (go_at_call 81; (with_reducible refine (F81.calls k2 a1 t619 _ A22.out).mono ?_); rintro e w' ⟨rfl, ⟨nd, rfl⟩⟩; (try first | exact ⟨rfl, _, World.drewN_drewN _ _ _⟩ | exact ⟨rfl, _, Eq.trans (World.drewN_drewN _ _ _) (congrArg (World.drewN _) (Nat.add_assoc _ _ _))⟩))); try go_wp2_with (first | (go_at_call 81; (with_reducible refine (F81.calls k2 a1 t619 _ A22.out).mono ?_); rintro e w' ⟨rfl, ⟨nd, rfl⟩⟩; (try first | exact ⟨rfl, _, World.drewN_drewN _ _ _⟩ | exact ⟨rfl, _, Eq.trans (World.drewN_drewN _ _ _) (congrArg (World.drewN _) (Nat.add_assoc _ _ _))⟩))))
           go_roundg k2
           case measure => have := HK1.out; have := HK2.out; omega
           case rel => exact ⟨(wrap64 (x7_2 + 1)), rfl, H', ⟨by have := HK1.out; have := HK2.out; omega⟩, ⟨bK BK614.out⟩, ⟨bZ⟩⟩
        ·
         rw [if_neg c18] at H; have c18b0 : decide (x7_2 < (l0_2.length : Int)) = false := dF c18; clear c18; obtain rfl := oI H; have hz26 := bx3 BK614.out
         go_wp2
         repeat (go_quiet (fail); try go_wp2)
         go_ret
         exact ⟨rfl, bZ⟩
 ·
  rw [if_neg c4] at H; have c4b0 : (t615 == 0) = false := beq_eq_false_iff_ne.mpr c4; have c4b1 : (t615 != 0) = true := bne_iff_ne.mpr c4; obtain rfl := oI H
  go_enter Try.func51, Try.ntmps51
  go_wp2_with (first | ((with_reducible refine gate_dst (N := 2) rfl ?_); refine bxE 2 #[.int .i32 a0_0, .int .u32 a0_1, .slice A0_2 l0_2.length c0_2] 98 (h := ?_); intro gb614 hg w27 hbox hb; have BK614 := aM (hbox); have GW614 := aM ((by rw [hg]; exact (below_size bZ) : w.heap.size ≤ gb614)); have GE614 := aM ((by rw [hg]; exact (below_size bZ) : w.heap.size ≤ gb614)); replace HB := aM (below_step bZ hb); clear hb hbox hg; have hz28 := bx3 BK614.out) | (go_at_call 80; (with_reducible refine (F80.calls (l0_2.length : Int) a1 t615 _ A3.out).mono ?_); rintro e w' ⟨rfl, ⟨nd, rfl⟩⟩; (try first | exact ⟨rfl, _, World.drewN_drewN _ _ _⟩ | exact ⟨rfl, _, Eq.trans (World.drewN_drewN _ _ _) (congrArg (World.drewN _) (Nat.add_assoc _ _ _))⟩)))
  repeat (go_quiet (first | ((with_reducible refine gate_dst (N := 2) rfl ?_); refine bxE 2 #[.int .i32 a0_0, .int .u32 a0_1, .slice A0_2 l0_2.length c0_2] 98 (h := ?_); intro gb614 hg w27 hbox hb; have BK614 := aM (hbox); have GW614 := aM ((by rw [hg]; exact (below_size bZ) : w.heap.size ≤ gb614)); have GE614 := aM ((by rw [hg]; exact (below_size bZ) : w.heap.size ≤ gb614)); replace HB := aM (below_step bZ hb); clear hb hbox hg; have hz28 := bx3 BK614.out) | (go_at_call 80; (with_reducible refine (F80.calls (l0_2.length : Int) a1 t615 _ A3.out).mono ?_); rintro e w' ⟨rfl, ⟨nd, rfl⟩⟩; (try first | exact ⟨rfl, _, World.drewN_drewN _ _ _⟩ | exact ⟨rfl, _, Eq.trans (World.drewN_drewN _ _ _) (congrArg (World.drewN _) (Nat.add_assoc _ _ _))⟩))); try go_wp2_with (first | ((with_reducible refine gate_dst (N := 2) rfl ?_); refine bxE 2 #[.int .i32 a0_0, .int .u32 a0_1, .slice A0_2 l0_2.length c0_2] 98 (h := ?_); intro gb614 hg w27 hbox hb; have BK614 := aM (hbox); have GW614 := aM ((by rw [hg]; exact (below_size bZ) : w.heap.size ≤ gb614)); have GE614 := aM ((by rw [hg]; exact (below_size bZ) : w.heap.size ≤ gb614)); replace HB := aM (below_step bZ hb); clear hb hbox hg; have hz28 := bx3 BK614.out) | (go_at_call 80; (with_reducible refine (F80.calls (l0_2.length : Int) a1 t615 _ A3.out).mono ?_); rintro e w' ⟨rfl, ⟨nd, rfl⟩⟩; (try first | exact ⟨rfl, _, World.drewN_drewN _ _ _⟩ | exact ⟨rfl, _, Eq.trans (World.drewN_drewN _ _ _) (congrArg (World.drewN _) (Nat.add_assoc _ _ _))⟩))))
  go_ret
  exact ⟨rfl, bZ⟩

def F90.f (k : Nat) (a0 : ByteArray) : Option (Int) := (F59.f k a0).bind fun t620 => (if (wrap64 (t620)) ≥ 2147483648 then (some (wrap32 (wrap64 ((wrap64 (t620)) - 4294967296)))) else (some (wrap32 (wrap64 (t620)))))
theorem F90.mono : ∀ a0 k, LeO (F90.f k a0) (F90.f (k + 1) a0) := by
 intro a0 k; unfold F90.f
 repeat' with_reducible first | exact F59.mono _ _ | exact LeO.refl _ | exact LeO.none _ | refine LeO.ite ?_ ?_ | refine LeO.bind ?_ (fun _ => ?_)
theorem F90.calls (k : Nat) (a0 : ByteArray) (r : Int) (w : World) (h : F90.f k a0 = some r) :
  Calls Try.prog 90 #[.string a0] w fun e w' => e = .returned (.int .i32 r) ∧ Drawn0 w w' := by
 have H := h; clear h; unfold F90.f at H; obtain ⟨t620, A2, H⟩ := bnd H
 by_cases c3 : (wrap64 (t620)) ≥ 2147483648
 ·
  rw [if_pos c3] at H; have c3b0 : decide (2147483648 ≤ (wrap64 (t620))) = true := dT c3; clear c3; obtain rfl := oI H
  go_enter Try.func90, Try.ntmps90
  go_wp2_with (first | ((with_reducible refine gate_callee (f := 59) rfl ?_); refine gL 5 Try.func59 #[.string a0] (h := ?_); (with_reducible refine (F59.calls k a0 t620 _ A2.out).mono ?_); rintro e w' ⟨rfl, ⟨nd, rfl⟩⟩; refine ⟨_, rfl, ?_⟩))
  go_ret
  exact ⟨rfl, dR⟩
 ·
  rw [if_neg c3] at H; have c3b0 : decide (2147483648 ≤ (wrap64 (t620))) = false := dF c3; clear c3; obtain rfl := oI H
  go_enter Try.func90, Try.ntmps90
  go_wp2_with (first | ((with_reducible refine gate_callee (f := 59) rfl ?_); refine gL 5 Try.func59 #[.string a0] (h := ?_); (with_reducible refine (F59.calls k a0 t620 _ A2.out).mono ?_); rintro e w' ⟨rfl, ⟨nd, rfl⟩⟩; refine ⟨_, rfl, ?_⟩))
  go_ret
  exact ⟨rfl, dR⟩

def F91.l0 : Nat → List Int → Int → Option (Bool)
 | 0, _, _ => none
 | k + 1, x0, x7 => if x7 < (wrap64 (64 * (x0.length : Int))) then (if 0 ≤ (wrap64 (Int.tdiv x7 64)) then (if (wrap64 (Int.tdiv x7 64)) < (x0.length : Int) then ((F104.f k (rd x0 (wrap64 (Int.tdiv x7 64))) (Int.tmod x7 64)).bind fun t622 => (if t622 = 1 then (some true) else (F91.l0 k x0 (wrap64 (x7 + 1))))) else (none)) else (none)) else (some false)
def F91.f (k : Nat) (l0 : List Int) (a1 : Int) (a2 : Int) : Option (Bool) := F91.l0 k l0 (wrap64 (a1 * a2))
theorem F91.mono_l : ∀ k, (∀ y0 y1, LeO (F91.l0 k y0 y1) (F91.l0 (k + 1) y0 y1))
 | 0 => fun _ _ r h => by simp [F91.l0] at h
 | k + 1 => by
  have ih0 := F91.mono_l k
  ·
   intro y0 y1; unfold F91.l0
   repeat' with_reducible first | exact ih0 _ _ | exact F104.mono _ _ _ | exact LeO.refl _ | exact LeO.none _ | refine LeO.ite ?_ ?_ | refine LeO.bind ?_ (fun _ => ?_)
theorem F91.mono : ∀ a0 a1 a2 k, LeO (F91.f k a0 a1 a2) (F91.f (k + 1) a0 a1 a2) := by
 intro a0 a1 a2 k; have ih0 := F91.mono_l k; unfold F91.f
 repeat' with_reducible first | exact ih0 _ _ | exact F104.mono _ _ _ | exact LeO.refl _ | exact LeO.none _ | refine LeO.ite ?_ ?_ | refine LeO.bind ?_ (fun _ => ?_)
theorem F91.calls (k : Nat) (A0 : Option Addr) (c0 : Nat) (l0 : List Int) (a1 : Int) (a2 : Int) (r : Bool) (w : World) (hr0 : Kd.C (Kd.int .u64) w A0 l0.length l0) (hc0 : l0.length ≤ c0) (h : F91.f k l0 a1 a2 = some r) :
  Calls Try.prog 91 #[.slice A0 l0.length c0, .int .i64 a1, .int .i64 a2] w fun e w' => e = .returned (.bool r) ∧ Drawn0 w w' := by
 have HR0 := aM hr0; have HC0 := aM hc0; clear hr0 hc0; have H := h; clear h; unfold F91.f at H; have H' := aM H; clear H
 go_enter Try.func91, Try.ntmps91
 go_wp2
 go_loopg [7] k (fun kq v7 w' => ∃ (x7_1 : Int), v7 = .int .i64 x7_1 ∧ Aside0 (F91.l0 kq l0 x7_1 = some r) ∧ Aside0 (kq ≤ k) ∧ Drawn0 w w')
 case atStart => exact ⟨(wrap64 (a1 * a2)), rfl, H', ⟨Nat.le_refl _⟩, dR⟩
 case round =>
  clear H'; (try clear p2); obtain ⟨x7_1, rfl, HA, HK1, ⟨m1, rfl⟩⟩ := hrel
  cases gk with
  | zero => exact absurd HA.out (by simp [F91.l0])
  | succ k1 =>
   have H := HA.out; clear HA; simp only [F91.l0] at H
   by_cases c4 : x7_1 < (wrap64 (64 * (l0.length : Int)))
   ·
    rw [if_pos c4] at H; have c4b0 : decide (x7_1 < (wrap64 (64 * (l0.length : Int)))) = true := dT c4; clear c4; obtain ⟨ji5, hji5⟩ : ∃ j_ : Int, (wrap64 (Int.tdiv x7_1 64)) = j_ := ⟨_, rfl⟩; (replace H : (if 0 ≤ (ji5) then (if (ji5) < (l0.length : Int) then ((F104.f k1 (rd l0 (ji5)) (Int.tmod x7_1 64)).bind fun t622 => (if t622 = 1 then (some true) else (F91.l0 k1 l0 (wrap64 (x7_1 + 1))))) else (none)) else (none)) = some r := by first | (rw [hji5] at H; exact H) | (simp only [hji5] at H ⊢; exact H)); have hji5w : (IntKind.i64.wrap (Int.tdiv x7_1 64)) = ji5 := (i64_w _).trans hji5; obtain ⟨c6, H⟩ := ifp H; have c6b0 : decide (0 ≤ (ji5)) = true := dT c6; clear c6; obtain ⟨c7, H⟩ := ifp H; have c7b0 : decide ((ji5) < (l0.length : Int)) = true := dT c7; clear c7; obtain ⟨t622, A8, H⟩ := bnd H
    by_cases c9 : t622 = 1
    ·
     rw [if_pos c9] at H; have c9b0 : (t622 == 1) = true := beq_iff_eq.mpr c9; have c9b1 : (t622 != 1) = false := bne_eq_false_iff_eq.mpr c9; clear c9; obtain rfl := oI H; have p621 : 0 ≤ ((ji5) : Int) := oD; have q621 : (ji5) < (l0.length : Int) := oD; obtain ⟨ad621, e621, hx621_0⟩ := Kd.at_int HR0.out (ji5) p621 q621
     cases e621
     replace p621 := eq_true p621; replace q621 := eq_true q621
     go_wp2_with (first | ((with_reducible refine gate_callee (f := 104) rfl ?_); refine goesL_ (some 25) rfl rfl Try.func104 (by kernel_rfl) rfl #[.int .u64 (rd l0 (ji5)), .int .i64 (Int.tmod x7_1 64)] rfl (by (try simp only [List.map_toArray, List.map_cons, List.map_nil]); first | done | (simp only [hji5]; rfl) | rfl | (simp only [List.length_drop, List.length_take]; rfl)) ?_; (with_reducible refine (F104.calls k1 (rd l0 (ji5)) (Int.tmod x7_1 64) t622 _ A8.out).mono ?_); rintro e w' ⟨rfl, ⟨nd, rfl⟩⟩; refine ⟨_, rfl, ?_⟩))
     go_ret
     exact ⟨by first | rfl | (simp; done) | (simp only [← hji5] <;> (first | rfl | simp)) | (simp [*]; done), dR⟩
    ·
     rw [if_neg c9] at H; have c9b0 : (t622 == 1) = false := beq_eq_false_iff_ne.mpr c9; have c9b1 : (t622 != 1) = true := bne_iff_ne.mpr c9; have H' := aM H; clear H; have p621 : 0 ≤ ((ji5) : Int) := oD; have q621 : (ji5) < (l0.length : Int) := oD; obtain ⟨ad621, e621, hx621_0⟩ := Kd.at_int HR0.out (ji5) p621 q621
     cases e621
     replace p621 := eq_true p621; replace q621 := eq_true q621
     go_wp2_with (first | ((with_reducible refine gate_callee (f := 104) rfl ?_); refine goesL_ (some 25) rfl rfl Try.func104 (by kernel_rfl) rfl #[.int .u64 (rd l0 (ji5)), .int .i64 (Int.tmod x7_1 64)] rfl (by (try simp only [List.map_toArray, List.map_cons, List.map_nil]); first | done | (simp only [hji5]; rfl) | rfl | (simp only [List.length_drop, List.length_take]; rfl)) ?_; (with_reducible refine (F104.calls k1 (rd l0 (ji5)) (Int.tmod x7_1 64) t622 _ A8.out).mono ?_); rintro e w' ⟨rfl, ⟨nd, rfl⟩⟩; refine ⟨_, rfl, ?_⟩))
     go_roundg k1
     case measure => have := HK1.out; omega
     case rel => exact ⟨(wrap64 (x7_1 + 1)), rfl, H', ⟨by have := HK1.out; omega⟩, dR⟩
   ·
    rw [if_neg c4] at H; have c4b0 : decide (x7_1 < (wrap64 (64 * (l0.length : Int)))) = false := dF c4; clear c4; obtain rfl := oI H
    go_wp2
    go_ret
    exact ⟨rfl, dR⟩

def F92.l0 : Nat → List Int → Int → Int → Int → Int → Option (Int)
 | 0, _, _, _, _, _ => none
 | k + 1, x0, x1, x2, x7, x8 => if x8 < x2 then (if 0 ≤ (wrap64 (Int.tdiv (wrap64 ((wrap64 (x1 * x2)) + x8)) 64)) then (if (wrap64 (Int.tdiv (wrap64 ((wrap64 (x1 * x2)) + x8)) 64)) < (x0.length : Int) then ((F104.f k (rd x0 (wrap64 (Int.tdiv (wrap64 ((wrap64 (x1 * x2)) + x8)) 64))) (Int.tmod (wrap64 ((wrap64 (x1 * x2)) + x8)) 64)).bind fun t624 => ((F105.f k x8).bind fun t625 => (F92.l0 k x0 x1 x2 (IntKind.u64.wrap (x7 + (IntKind.u64.wrap (t624 * t625)))) (wrap64 (x8 + 1))))) else (none)) else (none)) else (some (wrap64 (x7)))
def F92.f (k : Nat) (l0 : List Int) (a1 : Int) (a2 : Int) : Option (Int) := F92.l0 k l0 a1 a2 0 0
theorem F92.mono_l : ∀ k, (∀ y0 y1 y2 y3 y4, LeO (F92.l0 k y0 y1 y2 y3 y4) (F92.l0 (k + 1) y0 y1 y2 y3 y4))
 | 0 => fun _ _ _ _ _ r h => by simp [F92.l0] at h
 | k + 1 => by
  have ih0 := F92.mono_l k
  ·
   intro y0 y1 y2 y3 y4; unfold F92.l0
   repeat' with_reducible first | exact ih0 _ _ _ _ _ | exact F104.mono _ _ _ | exact F105.mono _ _ | exact LeO.refl _ | exact LeO.none _ | refine LeO.ite ?_ ?_ | refine LeO.bind ?_ (fun _ => ?_)
theorem F92.mono : ∀ a0 a1 a2 k, LeO (F92.f k a0 a1 a2) (F92.f (k + 1) a0 a1 a2) := by
 intro a0 a1 a2 k; have ih0 := F92.mono_l k; unfold F92.f
 repeat' with_reducible first | exact ih0 _ _ _ _ _ | exact F104.mono _ _ _ | exact F105.mono _ _ | exact LeO.refl _ | exact LeO.none _ | refine LeO.ite ?_ ?_ | refine LeO.bind ?_ (fun _ => ?_)
theorem F92.calls (k : Nat) (A0 : Option Addr) (c0 : Nat) (l0 : List Int) (a1 : Int) (a2 : Int) (r : Int) (w : World) (hr0 : Kd.C (Kd.int .u64) w A0 l0.length l0) (hc0 : l0.length ≤ c0) (h : F92.f k l0 a1 a2 = some r) :
  Calls Try.prog 92 #[.slice A0 l0.length c0, .int .i64 a1, .int .i64 a2] w fun e w' => e = .returned (.int .i64 r) ∧ Drawn0 w w' := by
 have HR0 := aM hr0; have HC0 := aM hc0; clear hr0 hc0; have H := h; clear h; unfold F92.f at H; have H' := aM H; clear H
 go_enter Try.func92, Try.ntmps92
 go_wp2
 go_loopg [7, 8] k (fun kq v7 v8 w' => ∃ (x7_1 : Int) (x8_1 : Int), v7 = .int .u64 x7_1 ∧ v8 = .int .i64 x8_1 ∧ Aside0 (F92.l0 kq l0 a1 a2 x7_1 x8_1 = some r) ∧ Aside0 (kq ≤ k) ∧ Drawn0 w w')
 case atStart => exact ⟨(0), (0), rfl, rfl, H', ⟨Nat.le_refl _⟩, dR⟩
 case round =>
  clear H'; (try clear p2); obtain ⟨x7_1, x8_1, rfl, rfl, HA, HK1, ⟨m1, rfl⟩⟩ := hrel
  cases gk with
  | zero => exact absurd HA.out (by simp [F92.l0])
  | succ k1 =>
   have H := HA.out; clear HA; simp only [F92.l0] at H
   by_cases c4 : x8_1 < a2
   ·
    rw [if_pos c4] at H; have c4b0 : decide (x8_1 < a2) = true := dT c4; clear c4; obtain ⟨ji5, hji5⟩ : ∃ j_ : Int, (wrap64 (Int.tdiv (wrap64 ((wrap64 (a1 * a2)) + x8_1)) 64)) = j_ := ⟨_, rfl⟩; (replace H : (if 0 ≤ (ji5) then (if (ji5) < (l0.length : Int) then ((F104.f k1 (rd l0 (ji5)) (Int.tmod (wrap64 ((wrap64 (a1 * a2)) + x8_1)) 64)).bind fun t624 => ((F105.f k1 x8_1).bind fun t625 => (F92.l0 k1 l0 a1 a2 (IntKind.u64.wrap (x7_1 + (IntKind.u64.wrap (t624 * t625)))) (wrap64 (x8_1 + 1))))) else (none)) else (none)) = some r := by first | (rw [hji5] at H; exact H) | (simp only [hji5] at H ⊢; exact H)); have hji5w : (IntKind.i64.wrap (Int.tdiv (wrap64 ((wrap64 (a1 * a2)) + x8_1)) 64)) = ji5 := (i64_w _).trans hji5; obtain ⟨c6, H⟩ := ifp H; have c6b0 : decide (0 ≤ (ji5)) = true := dT c6; clear c6; obtain ⟨c7, H⟩ := ifp H; have c7b0 : decide ((ji5) < (l0.length : Int)) = true := dT c7; clear c7; obtain ⟨t624, A8, H⟩ := bnd H; obtain ⟨t625, A9, H⟩ := bnd H; have H' := aM H; clear H; have p623 : 0 ≤ ((ji5) : Int) := oD; have q623 : (ji5) < (l0.length : Int) := oD; obtain ⟨ad623, e623, hx623_0⟩ := Kd.at_int HR0.out (ji5) p623 q623
    cases e623
    replace p623 := eq_true p623; replace q623 := eq_true q623
    go_wp2_with (first | ((with_reducible refine gate_callee (f := 104) rfl ?_); refine goesL_ (some 28) rfl rfl Try.func104 (by kernel_rfl) rfl #[.int .u64 (rd l0 (ji5)), .int .i64 (Int.tmod (wrap64 ((wrap64 (a1 * a2)) + x8_1)) 64)] rfl (by (try simp only [List.map_toArray, List.map_cons, List.map_nil]); first | done | (simp only [hji5]; rfl) | rfl | (simp only [List.length_drop, List.length_take]; rfl)) ?_; (with_reducible refine (F104.calls k1 (rd l0 (ji5)) (Int.tmod (wrap64 ((wrap64 (a1 * a2)) + x8_1)) 64) t624 _ A8.out).mono ?_); rintro e w' ⟨rfl, ⟨nd, rfl⟩⟩; refine ⟨_, rfl, ?_⟩) | ((with_reducible refine gate_callee (f := 105) rfl ?_); refine gL 30 Try.func105 #[.int .i64 x8_1] (h := ?_); (with_reducible refine (F105.calls k1 x8_1 t625 _ A9.out).mono ?_); rintro e w' ⟨rfl, ⟨nd, rfl⟩⟩; refine ⟨_, rfl, ?_⟩))
    go_roundg k1
    case measure => have := HK1.out; omega
    case rel => exact ⟨(IntKind.u64.wrap (x7_1 + (IntKind.u64.wrap (t624 * t625)))), (wrap64 (x8_1 + 1)), rfl, rfl, H', ⟨by have := HK1.out; omega⟩, dR⟩
   ·
    rw [if_neg c4] at H; have c4b0 : decide (x8_1 < a2) = false := dF c4; clear c4; obtain rfl := oI H
    go_wp2
    go_ret
    exact ⟨rfl, dR⟩

end Go.Proofs.Ytekenaclmplocaa.PPageParses
