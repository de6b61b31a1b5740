-- Written by a program of this session (wip/tools/mkprint.py over the kit's print).
import Derived.Test.YtekenaclmplocaaPPageNewx0
import Derived.Test.YtekenaclmplocaaPPageNewx3
import Derived.Test.YtekenaclmplocaaPPageNewx15
namespace Go.Proofs.Ytekenaclmplocaa.PPageNew
open Go.RowKit Go.Proofs.YtekenaclmplocaaW.PrintWords Go.Proofs.YtekenaclmplocaaW.PrintLast Go.Proofs.YtekenaclmplocaaW.PrintMore
attribute [local go_sem] max2_int min2_int max_two min_two max_three min_three max_four min_four
set_option linter.unusedVariables false
set_option maxHeartbeats 8000000
set_option maxRecDepth 100000
set_option linter.unusedSimpArgs false

mutual
def F24.j0 : Nat → Bool → Int → Int → Int → Int → Int → Int → Int → List (S98) → List (S98) → Int → Int → Int → Int → Int → Int → Int → Option (Int)
 | 0, _, _, _, _, _, _, _, _, _, _, _, _, _, _, _, _, _ => none
 | k + 1, x30, x463000, x463001, x463002, x463003, x463004, x463005, x463006, x463007, x463008, x464000, x464001, x464002, x464003, x464004, x464005, x464006 => if x30 = true then (some 25) else (F24.l0 k 0 x463000 x463001 x463002 x463003 x463004 x463005 x463006 x463007 x463008 x464000 x464001 x464002 x464003 x464004 x464005 x464006)
def F24.l0 : Nat → Int → Int → Int → Int → Int → Int → Int → Int → List (S98) → List (S98) → Int → Int → Int → Int → Int → Int → Int → Option (Int)
 | 0, _, _, _, _, _, _, _, _, _, _, _, _, _, _, _, _, _ => none
 | k + 1, x4, x463000, x463001, x463002, x463003, x463004, x463005, x463006, x463007, x463008, x464000, x464001, x464002, x464003, x464004, x464005, x464006 => if x4 < (x463007.length : Int) then (if 0 ≤ x4 then ((F51.f k ((rd_T98 x463007 x4).f0) ((rd_T98 x463007 x4).f1) ((rd_T98 x463007 x4).f2) x464000).bind fun t468 => (if t468 = 0 then (F24.l0 k (wrap64 (x4 + 1)) x463000 x463001 x463002 x463003 x463004 x463005 x463006 x463007 x463008 x464000 x464001 x464002 x464003 x464004 x464005 x464006) else (some t468))) else (none)) else (F24.l1 k 0 x463000 x463001 x463002 x463003 x463004 x463005 x463006 x463007 x463008 x464000 x464001 x464002 x464003 x464004 x464005 x464006)
def F24.l1 : Nat → Int → Int → Int → Int → Int → Int → Int → Int → List (S98) → List (S98) → Int → Int → Int → Int → Int → Int → Int → Option (Int)
 | 0, _, _, _, _, _, _, _, _, _, _, _, _, _, _, _, _, _ => none
 | k + 1, x6, x463000, x463001, x463002, x463003, x463004, x463005, x463006, x463007, x463008, x464000, x464001, x464002, x464003, x464004, x464005, x464006 => if x6 < (x463008.length : Int) then (if 0 ≤ x6 then ((F51.f k ((rd_T98 x463008 x6).f0) ((rd_T98 x463008 x6).f1) ((rd_T98 x463008 x6).f2) x464001).bind fun t470 => (if t470 = 0 then (F24.l1 k (wrap64 (x6 + 1)) x463000 x463001 x463002 x463003 x463004 x463005 x463006 x463007 x463008 x464000 x464001 x464002 x464003 x464004 x464005 x464006) else (some t470))) else (none)) else (some 0)
end
def F24.f (k : Nat) (a0_0 : Int) (a0_1 : Int) (a0_2 : Int) (a0_3 : Int) (a0_4 : Int) (a0_5 : Int) (a0_6 : Int) (l0_7 : List (S98)) (l0_8 : List (S98)) : Option (Int) := (F9.f a0_0 a0_1 a0_2 a0_3 a0_4 a0_5 a0_6).bind fun t464 => (if t464 = true then ((F50.f k l0_7 a0_3 a0_2).bind fun t465 => (if t465 = true then ((F50.f k l0_8 a0_2 a0_3).bind fun t466 => (F24.j0 k (!t466) a0_0 a0_1 a0_2 a0_3 a0_4 a0_5 a0_6 l0_7 l0_8 a0_0 a0_1 a0_2 a0_3 a0_4 a0_5 a0_6)) else (F24.j0 k true a0_0 a0_1 a0_2 a0_3 a0_4 a0_5 a0_6 l0_7 l0_8 a0_0 a0_1 a0_2 a0_3 a0_4 a0_5 a0_6))) else (some 11))
theorem F24.mono_l : ∀ k, (∀ y0 y1 y2 y3 y4 y5 y6 y7 y8 y9 y10 y11 y12 y13 y14 y15 y16, LeO (F24.j0 k y0 y1 y2 y3 y4 y5 y6 y7 y8 y9 y10 y11 y12 y13 y14 y15 y16) (F24.j0 (k + 1) y0 y1 y2 y3 y4 y5 y6 y7 y8 y9 y10 y11 y12 y13 y14 y15 y16)) ∧ (∀ y0 y1 y2 y3 y4 y5 y6 y7 y8 y9 y10 y11 y12 y13 y14 y15 y16, LeO (F24.l0 k y0 y1 y2 y3 y4 y5 y6 y7 y8 y9 y10 y11 y12 y13 y14 y15 y16) (F24.l0 (k + 1) y0 y1 y2 y3 y4 y5 y6 y7 y8 y9 y10 y11 y12 y13 y14 y15 y16)) ∧ (∀ y0 y1 y2 y3 y4 y5 y6 y7 y8 y9 y10 y11 y12 y13 y14 y15 y16, LeO (F24.l1 k y0 y1 y2 y3 y4 y5 y6 y7 y8 y9 y10 y11 y12 y13 y14 y15 y16) (F24.l1 (k + 1) y0 y1 y2 y3 y4 y5 y6 y7 y8 y9 y10 y11 y12 y13 y14 y15 y16))
 | 0 => ⟨fun _ _ _ _ _ _ _ _ _ _ _ _ _ _ _ _ _ r h => by simp [F24.j0] at h, fun _ _ _ _ _ _ _ _ _ _ _ _ _ _ _ _ _ r h => by simp [F24.l0] at h, fun _ _ _ _ _ _ _ _ _ _ _ _ _ _ _ _ _ r h => by simp [F24.l1] at h⟩
 | k + 1 => by
  obtain ⟨ih0, ih1, ih2⟩ := F24.mono_l k
  refine ⟨?_, ?_, ?_⟩
  all_goals intros
  all_goals first | unfold F24.j0 | unfold F24.l0 | unfold F24.l1
  all_goals repeat' with_reducible first | exact ih0 _ _ _ _ _ _ _ _ _ _ _ _ _ _ _ _ _ | exact ih1 _ _ _ _ _ _ _ _ _ _ _ _ _ _ _ _ _ | exact ih2 _ _ _ _ _ _ _ _ _ _ _ _ _ _ _ _ _ | exact F51.mono _ _ _ _ _ | exact F50.mono _ _ _ _ | exact LeO.refl _ | exact LeO.none _ | refine LeO.ite ?_ ?_ | refine LeO.bind ?_ (fun _ => ?_)
theorem F24.mono : ∀ a0 a1 a2 a3 a4 a5 a6 a7 a8 k, LeO (F24.f k a0 a1 a2 a3 a4 a5 a6 a7 a8) (F24.f (k + 1) a0 a1 a2 a3 a4 a5 a6 a7 a8) := by
 intro a0 a1 a2 a3 a4 a5 a6 a7 a8 k; obtain ⟨ih0, ih1, ih2⟩ := F24.mono_l k; unfold F24.f
 repeat' with_reducible first | exact ih0 _ _ _ _ _ _ _ _ _ _ _ _ _ _ _ _ _ | exact ih1 _ _ _ _ _ _ _ _ _ _ _ _ _ _ _ _ _ | exact ih2 _ _ _ _ _ _ _ _ _ _ _ _ _ _ _ _ _ | exact F51.mono _ _ _ _ _ | exact F50.mono _ _ _ _ | exact LeO.refl _ | exact LeO.none _ | refine LeO.ite ?_ ?_ | refine LeO.bind ?_ (fun _ => ?_)
def F24.T9 : Bool × List (List Nat × List Nat) := (true, [([], []), ([0], [0]), ([], []), ([1, 2], [1, 2]), ([3], [3]), ([], []), ([5], [5]), ([4, 6], [4, 6]), ([7, 7, 0, 1, 2, 3, 4, 5, 6, 7], [7])])
def F24.B9 : List Nat := [0, 1, 0, 7, 15, 0, 32, 127, 255]
theorem F24.tab9 : rtab .any (opsOf Try.f24 9) = F24.T9 := by kernel_rfl
theorem F24.bits9 : waitsOk F24.T9.2 F24.B9 = true := by kernel_rfl
def F24.T15 : Bool × List (List Nat × List Nat) := (true, [([], []), ([0], [0]), ([], []), ([1, 2], [1, 2]), ([3], [3]), ([], []), ([5], [5]), ([4, 6], [4, 6]), ([7, 7, 0, 1, 2, 3, 4, 5, 6, 7], [7])])
def F24.B15 : List Nat := [0, 1, 0, 7, 15, 0, 32, 127, 255]
theorem F24.tab15 : rtab .any (opsOf Try.f24 15) = F24.T15 := by kernel_rfl
theorem F24.bits15 : waitsOk F24.T15.2 F24.B15 = true := by kernel_rfl
theorem F24.calls (k : Nat) (a0_0 : Int) (a0_1 : Int) (a0_2 : Int) (a0_3 : Int) (a0_4 : Int) (a0_5 : Int) (a0_6 : Int) (A0_7 : Option Addr) (c0_7 : Nat) (l0_7 : List (S98)) (A0_8 : Option Addr) (c0_8 : Nat) (l0_8 : List (S98)) (r : Int) (w : World) (hr0_7 : Kd.C k98 w A0_7 l0_7.length l0_7) (hc0_7 : l0_7.length ≤ c0_7) (hr0_8 : Kd.C k98 w A0_8 l0_8.length l0_8) (hc0_8 : l0_8.length ≤ c0_8) (h : F24.f k a0_0 a0_1 a0_2 a0_3 a0_4 a0_5 a0_6 l0_7 l0_8 = some r) :
  Calls Try.prog 24 #[.agg #[.int .i64 a0_0, .int .i64 a0_1, .int .i64 a0_2, .int .i64 a0_3, .int .i64 a0_4, .int .i64 a0_5, .int .i64 a0_6, .slice A0_7 l0_7.length c0_7, .slice A0_8 l0_8.length c0_8]] w fun e w' => e = .returned (.int .i64 r) ∧ Below w.heap.size w w' := by
 have hu56 := Try.underlying56; have hu28 := Try.underlying28; have hu98 := Try.underlying98; have HR0_7 := aM hr0_7; have HC0_7 := aM hc0_7; clear hr0_7 hc0_7; have HR0_8 := aM hr0_8; have HC0_8 := aM hc0_8; clear hr0_8 hc0_8; have HB := aM (Below.refl w.heap.size w); have H := h; clear h; unfold F24.f at H; obtain ⟨t464, A2, H⟩ := bnd H
 by_cases c3 : t464 = true
 ·
  subst c3; rw [if_pos rfl] at H; have HC4 := aM H; clear H
  go_enter Try.func24, Try.ntmps24
  go_upto_region 4 with (first | ((with_reducible refine gate_dst (N := 1) rfl ?_); refine bxE 1 #[.int .i64 a0_0, .int .i64 a0_1, .int .i64 a0_2, .int .i64 a0_3, .int .i64 a0_4, .int .i64 a0_5, .int .i64 a0_6, .slice A0_7 l0_7.length c0_7, .slice A0_8 l0_8.length c0_8] 56 (h := ?_); intro gb462 hg w5 hbox hb; have n0_ := bst HB hb; have n1_ := aM (hbox); have n2_ := gE hg HB; have n3_ := gE hg HB; clear HB; have HB := n0_; have BK462 := n1_; have GW462 := n2_; have GE462 := n3_; clear n0_ n1_ n2_ n3_; clear hb hbox hg; have hz6 := bx9 BK462.out) | ((with_reducible refine gate_dst (N := 3) rfl ?_); refine bxE 3 #[.int .i64 0, .int .i64 0, .int .i64 0, .int .i64 0, .int .i64 0, .int .i64 0, .int .i64 0] 28 (h := ?_); intro gb463 hg w7 hbox hb; have n0_ := kst BK462 hb; have n1_ := bst HB hb; have n2_ := aM (hbox); have n3_ := gE hg HB; have n4_ := gE hg HB; have n5_ := aM ((by rw [hg]; exact Nat.ne_of_lt (blk_lt (g := gb462) (o := .cells #[.int .i64 a0_0, .int .i64 a0_1, .int .i64 a0_2, .int .i64 a0_3, .int .i64 a0_4, .int .i64 a0_5, .int .i64 a0_6, .slice A0_7 l0_7.length c0_7, .slice A0_8 l0_8.length c0_8] 56 (0, 0)) BK462.out) : gb462 ≠ gb463)); have n6_ := aM ((by rw [hg]; exact Nat.ne_of_gt (blk_lt (g := gb462) (o := .cells #[.int .i64 a0_0, .int .i64 a0_1, .int .i64 a0_2, .int .i64 a0_3, .int .i64 a0_4, .int .i64 a0_5, .int .i64 a0_6, .slice A0_7 l0_7.length c0_7, .slice A0_8 l0_8.length c0_8] 56 (0, 0)) BK462.out) : gb463 ≠ gb462)); clear BK462; clear HB; have BK462 := n0_; have HB := n1_; have BK463 := n2_; have GW463 := n3_; have GE463 := n4_; have NB462_463 := n5_; have NB463_462 := n6_; clear n0_ n1_ n2_ n3_ n4_ n5_ n6_; clear hb hbox hg; have hnb8 := NB463_462.out; have hnc8 := NB462_463.out; have hz9 := bx7 BK463.out) | ((with_reducible refine gate_callee (f := 9) rfl ?_); refine gL 11 Try.func9 #[.agg #[.int .i64 a0_0, .int .i64 a0_1, .int .i64 a0_2, .int .i64 a0_3, .int .i64 a0_4, .int .i64 a0_5, .int .i64 a0_6]] (h := ?_); (with_reducible refine (F9.calls a0_0 a0_1 a0_2 a0_3 a0_4 a0_5 a0_6 true _ A2.out).mono ?_); rintro e w10 ⟨rfl, hb⟩; refine ⟨_, rfl, ?_⟩; have n0_ := aM (blk_below (g := gb462) (o := .cells #[.int .i64 a0_0, .int .i64 a0_1, .int .i64 a0_2, .int .i64 a0_3, .int .i64 a0_4, .int .i64 a0_5, .int .i64 a0_6, .slice A0_7 l0_7.length c0_7, .slice A0_8 l0_8.length c0_8] 56 (0, 0)) (by (with_reducible repeat (first | refine blk_drewN ?_ _ | refine blk_drew ?_ | refine blk_alloc ?_ _)); refine blk_far ?_ NB462_463.out _; (with_reducible repeat (first | refine blk_drewN ?_ _ | refine blk_drew ?_ | refine blk_alloc ?_ _)); refine blk_far ?_ NB462_463.out _; (with_reducible repeat (first | refine blk_drewN ?_ _ | refine blk_drew ?_ | refine blk_alloc ?_ _)); refine blk_far ?_ NB462_463.out _; (with_reducible repeat (first | refine blk_drewN ?_ _ | refine blk_drew ?_ | refine blk_alloc ?_ _)); refine blk_far ?_ NB462_463.out _; (with_reducible repeat (first | refine blk_drewN ?_ _ | refine blk_drew ?_ | refine blk_alloc ?_ _)); refine blk_far ?_ NB462_463.out _; (with_reducible repeat (first | refine blk_drewN ?_ _ | refine blk_drew ?_ | refine blk_alloc ?_ _)); refine blk_far ?_ NB462_463.out _; (with_reducible repeat (first | refine blk_drewN ?_ _ | refine blk_drew ?_ | refine blk_alloc ?_ _)); refine blk_far ?_ NB462_463.out _; (with_reducible repeat (first | refine blk_drewN ?_ _ | refine blk_drew ?_ | refine blk_alloc ?_ _)); exact BK462.out) hb); have n1_ := aM (blk_below (g := gb463) (o := .cells #[.int .i64 a0_0, .int .i64 a0_1, .int .i64 a0_2, .int .i64 a0_3, .int .i64 a0_4, .int .i64 a0_5, .int .i64 a0_6] 28 (0, 0)) (blk_put (blk_put (blk_put (blk_put (blk_put (blk_put (blk_put BK463.out 0 _ rfl) 1 _ rfl) 2 _ rfl) 3 _ rfl) 4 _ rfl) 5 _ rfl) 6 _ rfl) hb); have n2_ := aM (below_step bZ hb); clear BK462; clear BK463; clear HB; have BK462 := n0_; have BK463 := n1_; have HB := n2_; clear n0_ n1_ n2_; (try clear hb); (try clear hb2); (try clear hk); (try clear hi)))
  (try simp only [Act.put, List.setIfInBounds_toArray, List.set_cons_zero, List.set_cons_succ])
  go_cut [30] (fun v30 wc => ∃ (kq : Nat) (x30_3 : Bool), v30 = .bool x30_3 ∧ Aside0 (F24.j0 kq x30_3 a0_0 a0_1 a0_2 a0_3 a0_4 a0_5 a0_6 l0_7 l0_8 a0_0 a0_1 a0_2 a0_3 a0_4 a0_5 a0_6 = some r) ∧ Aside0 (kq ≤ k) ∧ Aside0 (wc.heap[gb462]? = some (.cells #[.int .i64 a0_0, .int .i64 a0_1, .int .i64 a0_2, .int .i64 a0_3, .int .i64 a0_4, .int .i64 a0_5, .int .i64 a0_6, (.slice A0_7 l0_7.length c0_7), (.slice A0_8 l0_8.length c0_8)] 56 (0, 0))) ∧ Aside0 (wc.heap[gb463]? = some (.cells #[.int .i64 a0_0, .int .i64 a0_1, .int .i64 a0_2, .int .i64 a0_3, .int .i64 a0_4, .int .i64 a0_5, .int .i64 a0_6] 28 (0, 0))) ∧ Aside0 (Below w.heap.size w wc))
  case first =>
   have H := HC4.out; clear HC4; obtain ⟨t465, A11, H⟩ := bnd H
   by_cases c12 : t465 = true
   ·
    subst c12; rw [if_pos rfl] at H; obtain ⟨t466, A13, H⟩ := bnd H; have H' := aM H; clear H; have hnb14 := NB462_463.out; have hnc14 := NB463_462.out; have hz15 := bx9 BK462.out; have hz16 := bx7 BK463.out
    go_wp2_with (first | ((with_reducible refine gate_callee (f := 50) rfl ?_); refine gL 19 Try.func50 #[.slice A0_7 l0_7.length c0_7, .int .i64 a0_3, .int .i64 a0_2] (h := ?_); (with_reducible refine (F50.calls k _ _ l0_7 a0_3 a0_2 true _ ?side1 ?side2 A11.out).mono ?_); (case side1 => with_reducible exact (Kd.C_below HR0_7.out HB.out)); (case side2 => exact HC0_7.out); rintro e w' ⟨rfl, ⟨nd, rfl⟩⟩; refine ⟨_, rfl, ?_⟩) | (go_at_call 50; (with_reducible refine (F50.calls k _ _ l0_8 a0_2 a0_3 t466 _ ?side1 ?side2 A13.out).mono ?_); (case side1 => repeat (first | exact (Kd.C_below HR0_8.out bZ) | (with_reducible refine Kd.C_alloc ?_ _) | (with_reducible refine Kd.C_drewN ?_ _) | (with_reducible refine Kd.C_drew ?_))); (case side2 => exact HC0_8.out); rintro e w' ⟨rfl, ⟨nd, rfl⟩⟩))
    go_meet
    case rel => exact ⟨_, (!t466), rfl, H', ⟨by first | omega | exact Nat.le_refl _⟩, ⟨bK BK462.out⟩, ⟨bK BK463.out⟩, ⟨bZ⟩⟩
   ·
    replace c12 := Bool.eq_false_iff.mpr c12; subst c12; rw [if_neg (show ¬ (false = true) by decide)] at H; have H' := aM H; clear H; have hnb17 := NB462_463.out; have hnc17 := NB463_462.out; have hz18 := bx9 BK462.out; have hz19 := bx7 BK463.out
    go_wp2_with (first | ((with_reducible refine gate_callee (f := 50) rfl ?_); refine gL 19 Try.func50 #[.slice A0_7 l0_7.length c0_7, .int .i64 a0_3, .int .i64 a0_2] (h := ?_); (with_reducible refine (F50.calls k _ _ l0_7 a0_3 a0_2 false _ ?side1 ?side2 A11.out).mono ?_); (case side1 => with_reducible exact (Kd.C_below HR0_7.out HB.out)); (case side2 => exact HC0_7.out); rintro e w' ⟨rfl, ⟨nd, rfl⟩⟩; refine ⟨_, rfl, ?_⟩))
    go_meet
    case rel => exact ⟨_, (true), rfl, H', ⟨by first | omega | exact Nat.le_refl _⟩, ⟨bK BK462.out⟩, ⟨bK BK463.out⟩, ⟨bZ⟩⟩
  case rest =>
   clear HC4; (try clear c1); (try clear c2); (try clear p2); (try clear c3); (try clear c5); (try clear c8); (try clear c9); (try clear c12); (try clear c14); (try clear c17); (try clear hz15); (try clear hz16); (try clear hz18); (try clear hz19); (try clear hz6); (try clear hz9); obtain ⟨kq, x30_3, rfl, HA, HJ3, BK462, BK463, HB⟩ := hcut
   cases kq with
   | zero => exact absurd HA.out (by simp [F24.j0])
   | succ kj3 =>
    have H := HA.out; clear HA; simp only [F24.j0] at H
    by_cases c20 : x30_3 = true
    ·
     subst c20; rw [if_pos rfl] at H; obtain rfl := oI H
     go_wp2
     go_ret
     exact ⟨rfl, HB.out⟩
    ·
     replace c20 := Bool.eq_false_iff.mpr c20; subst c20; rw [if_neg (show ¬ (false = true) by decide)] at H; have H' := aM H; clear H
     go_wp2
     go_loopg [4] kj3 (fun kq v4 w' => ∃ (x4_2 : Int), v4 = .int .i64 x4_2 ∧ Aside0 (F24.l0 kq x4_2 a0_0 a0_1 a0_2 a0_3 a0_4 a0_5 a0_6 l0_7 l0_8 a0_0 a0_1 a0_2 a0_3 a0_4 a0_5 a0_6 = some r) ∧ Aside0 (kq ≤ kj3) ∧ Aside0 (w'.heap[gb462]? = some (.cells #[.int .i64 a0_0, .int .i64 a0_1, .int .i64 a0_2, .int .i64 a0_3, .int .i64 a0_4, .int .i64 a0_5, .int .i64 a0_6, (.slice A0_7 l0_7.length c0_7), (.slice A0_8 l0_8.length c0_8)] 56 (0, 0))) ∧ Aside0 (w'.heap[gb463]? = some (.cells #[.int .i64 a0_0, .int .i64 a0_1, .int .i64 a0_2, .int .i64 a0_3, .int .i64 a0_4, .int .i64 a0_5, .int .i64 a0_6] 28 (0, 0))) ∧ Aside0 (Below w.heap.size w w'))
     case atStart => exact ⟨(0), rfl, H', ⟨Nat.le_refl _⟩, BK462, BK463, HB⟩
     case round =>
      clear H'; (try clear c1); (try clear c2); (try clear p2); (try clear c3); (try clear c5); (try clear c8); (try clear c9); (try clear c12); (try clear c14); (try clear c17); (try clear c20); (try clear hz15); (try clear hz16); (try clear hz18); (try clear hz19); (try clear hz6); (try clear hz9); (try clear p2); obtain ⟨x4_2, rfl, HA, HK2, BK462, BK463, HB⟩ := hrel
      cases gk with
      | zero => exact absurd HA.out (by simp [F24.l0])
      | succ k2 =>
       have H := HA.out; clear HA; simp only [F24.l0] at H
       by_cases c21 : x4_2 < (l0_7.length : Int)
       ·
        rw [if_pos c21] at H; have c21b0 : decide (x4_2 < (l0_7.length : Int)) = true := dT c21; clear c21; obtain ⟨c22, H⟩ := ifp H; have c22b0 : decide (0 ≤ x4_2) = true := dT c22; clear c22; obtain ⟨t468, A23, H⟩ := bnd H
        by_cases c24 : t468 = 0
        ·
         rw [if_pos c24] at H; have c24b0 : (t468 == 0) = true := beq_iff_eq.mpr c24; have c24b1 : (t468 != 0) = false := bne_eq_false_iff_eq.mpr c24; clear c24; have H' := aM H; clear H; have hnb25 := NB462_463.out; have hnc25 := NB463_462.out; have hz26 := bx9 BK462.out
         try go_wp2
         replace BK462 := aM (blk_drew BK462.out); replace BK463 := aM (blk_drew BK463.out); replace HB := aM (below_drew1 HB.out); have p467 : 0 ≤ (x4_2 : Int) := oD; have q467 : x4_2 < (l0_7.length : Int) := oD; obtain ⟨ad467, A467_2, c467_2, e467, hx467_0, hx467_1, hx467_2, hl467_2, hi467_2⟩ := at_T98 HR0_7.out x4_2 p467 q467; have hw467_2 := hx467_2; have hw467_1 := hx467_1; have hw467_0 := hx467_0
         cases e467
         replace hx467_0 := cU HB hx467_0; replace hx467_1 := cU HB hx467_1; replace hx467_2 := cU HB hx467_2; have HR467_2 := aM hi467_2; have HC467_2 := aM hl467_2; clear hi467_2 hl467_2; replace p467 := eq_true p467; replace q467 := eq_true q467
         refine start_ (n := 9) (S := fun w' => w'.cell? ⟨gb462, 0, none⟩ = some (.int .i64 a0_0) ∧ w'.cell? ⟨gb462, 1, none⟩ = some (.int .i64 a0_1) ∧ w'.cell? ⟨gb462, 2, none⟩ = some (.int .i64 a0_2) ∧ w'.cell? ⟨gb462, 3, none⟩ = some (.int .i64 a0_3) ∧ w'.cell? ⟨gb462, 4, none⟩ = some (.int .i64 a0_4) ∧ w'.cell? ⟨gb462, 5, none⟩ = some (.int .i64 a0_5) ∧ w'.cell? ⟨gb462, 6, none⟩ = some (.int .i64 a0_6) ∧ w'.cell? ⟨gb462, 7, none⟩ = some (.slice (some ad467) l0_7.length c0_7) ∧ w'.cell? ⟨gb462, 8, none⟩ = some (.slice A0_8 l0_8.length c0_8) ∧ w'.cell? ⟨gb463, 0, none⟩ = some (.int .i64 a0_0) ∧ w'.cell? ⟨gb463, 1, none⟩ = some (.int .i64 a0_1) ∧ w'.cell? ⟨gb463, 2, none⟩ = some (.int .i64 a0_2) ∧ w'.cell? ⟨gb463, 3, none⟩ = some (.int .i64 a0_3) ∧ w'.cell? ⟨gb463, 4, none⟩ = some (.int .i64 a0_4) ∧ w'.cell? ⟨gb463, 5, none⟩ = some (.int .i64 a0_5) ∧ w'.cell? ⟨gb463, 6, none⟩ = some (.int .i64 a0_6) ∧ w'.cell? (ad467.add ((x4_2).toNat * 3)) = some (.int .i32 ((rd_T98 l0_7 x4_2).f0)) ∧ w'.cell? ⟨(ad467.add ((x4_2).toNat * 3)).block, (ad467.add ((x4_2).toNat * 3)).off + 1, none⟩ = some (.int .u32 ((rd_T98 l0_7 x4_2).f1)) ∧ w'.cell? ⟨(ad467.add ((x4_2).toNat * 3)).block, (ad467.add ((x4_2).toNat * 3)).off + 2, none⟩ = some (.slice A467_2 ((rd_T98 l0_7 x4_2).f2).length c467_2)) (ds := []) (bA 9 0) (by kernel_rfl) rfl (by kernel_rfl) ⟨cL BK462 0, cL BK462 1, cL BK462 2, cL BK462 3, cL BK462 4, cL BK462 5, cL BK462 6, cL BK462 7, cL BK462 8, cL BK463 0, cL BK463 1, cL BK463 2, cL BK463 3, cL BK463 4, cL BK463 5, cL BK463 6, (cU HB hw467_0 :), (cU HB hw467_1 :), (cU HB hw467_2 :)⟩ (fun hHeld => ?_); refine with_tabW F24.tab9 F24.bits9 (fun HT_ HW_ => ?_)
         generalize wr.drew = w27 at BK462 BK463 HB HR467_2 hx467_0 hx467_1 hx467_2 hHeld ⊢
         refine pT 9 0 38 1 HT_ (h := ?_)
         refine pT 9 2 40 5 HT_ (h := ?_)
         refine pT 9 5 43 37 HT_ (h := ?_)
         refine tT 9 1 39 39 HT_ HW_ hHeld (h := ?_)
         refine pT 9 3 41 47 HT_ (h := ?_)
         refine tT 9 4 42 63 HT_ HW_ hHeld (h := ?_)
         refine tT 9 6 44 127 HT_ HW_ hHeld (h := ?_)
         refine one_ (i := 7) (N := some 45) (bA 9 255) rfl rfl (one_of HT_.out (by kernel_rfl)) (by decide) (fun K hK => ?_)
         refine gA Try.func51 #[.agg #[.int .i32 ((rd_T98 l0_7 x4_2).f0), .int .u32 ((rd_T98 l0_7 x4_2).f1), .slice A467_2 ((rd_T98 l0_7 x4_2).f2).length c467_2], .int .i64 a0_0] (h := ?_)
         with_reducible refine (F51.calls k2 ((rd_T98 l0_7 x4_2).f0) ((rd_T98 l0_7 x4_2).f1) _ _ ((rd_T98 l0_7 x4_2).f2) a0_0 t468 _ ?side1 ?side2 A23.out).mono ?_
         (case side1 => with_reducible exact (Kd.C_below HR467_2.out HB.out)); (case side2 => exact HC467_2.out); rintro e w28 ⟨rfl, hb⟩
         refine ⟨_, rfl, ?_⟩
         replace BK462 := aM (blk_below (g := gb462) (o := .cells #[.int .i64 a0_0, .int .i64 a0_1, .int .i64 a0_2, .int .i64 a0_3, .int .i64 a0_4, .int .i64 a0_5, .int .i64 a0_6, .slice (some ad467) l0_7.length c0_7, .slice A0_8 l0_8.length c0_8] 56 (0, 0)) (bK BK462.out) hb); replace BK463 := aM (blk_below (g := gb463) (o := .cells #[.int .i64 a0_0, .int .i64 a0_1, .int .i64 a0_2, .int .i64 a0_3, .int .i64 a0_4, .int .i64 a0_5, .int .i64 a0_6] 28 (0, 0)) (bK BK463.out) hb); replace HB := aM (below_step bZ hb); (try clear hb); (try clear hb2); (try clear hk); (try clear hi)
         refine hK.out _ _ ⟨cL BK462 0, cL BK462 1, cL BK462 2, cL BK462 3, cL BK462 4, cL BK462 5, cL BK462 6, cL BK462 7, cL BK462 8, cL BK463 0, cL BK463 1, cL BK463 2, cL BK463 3, cL BK463 4, cL BK463 5, cL BK463 6, (cU HB hw467_0 :), (cU HB hw467_1 :), (cU HB hw467_2 :)⟩ (fun hHeld => ?_)
         clear hK K
         refine nT 45 (h := ?_)
         refine pT 9 8 5 511 HT_ (h := ?_)
         refine done_ (done_of HT_.out (by kernel_rfl)) ?_
         try go_wp2
         go_roundg k2
         case measure => have := HJ3.out; have := HK2.out; omega
         case rel => exact ⟨(wrap64 (x4_2 + 1)), rfl, H', ⟨by have := HJ3.out; have := HK2.out; omega⟩, BK462, BK463, HB⟩
        ·
         rw [if_neg c24] at H; have c24b0 : (t468 == 0) = false := beq_eq_false_iff_ne.mpr c24; have c24b1 : (t468 != 0) = true := bne_iff_ne.mpr c24; obtain rfl := oI H; have hnb29 := NB462_463.out; have hnc29 := NB463_462.out; have hz30 := bx9 BK462.out
         try go_wp2
         replace BK462 := aM (blk_drew BK462.out); replace BK463 := aM (blk_drew BK463.out); replace HB := aM (below_drew1 HB.out); have p467 : 0 ≤ (x4_2 : Int) := oD; have q467 : x4_2 < (l0_7.length : Int) := oD; obtain ⟨ad467, A467_2, c467_2, e467, hx467_0, hx467_1, hx467_2, hl467_2, hi467_2⟩ := at_T98 HR0_7.out x4_2 p467 q467; have hw467_2 := hx467_2; have hw467_1 := hx467_1; have hw467_0 := hx467_0
         cases e467
         replace hx467_0 := cU HB hx467_0; replace hx467_1 := cU HB hx467_1; replace hx467_2 := cU HB hx467_2; have HR467_2 := aM hi467_2; have HC467_2 := aM hl467_2; clear hi467_2 hl467_2; replace p467 := eq_true p467; replace q467 := eq_true q467
         refine start_ (n := 9) (S := fun w' => w'.cell? ⟨gb462, 0, none⟩ = some (.int .i64 a0_0) ∧ w'.cell? ⟨gb462, 1, none⟩ = some (.int .i64 a0_1) ∧ w'.cell? ⟨gb462, 2, none⟩ = some (.int .i64 a0_2) ∧ w'.cell? ⟨gb462, 3, none⟩ = some (.int .i64 a0_3) ∧ w'.cell? ⟨gb462, 4, none⟩ = some (.int .i64 a0_4) ∧ w'.cell? ⟨gb462, 5, none⟩ = some (.int .i64 a0_5) ∧ w'.cell? ⟨gb462, 6, none⟩ = some (.int .i64 a0_6) ∧ w'.cell? ⟨gb462, 7, none⟩ = some (.slice (some ad467) l0_7.length c0_7) ∧ w'.cell? ⟨gb462, 8, none⟩ = some (.slice A0_8 l0_8.length c0_8) ∧ w'.cell? ⟨gb463, 0, none⟩ = some (.int .i64 a0_0) ∧ w'.cell? ⟨gb463, 1, none⟩ = some (.int .i64 a0_1) ∧ w'.cell? ⟨gb463, 2, none⟩ = some (.int .i64 a0_2) ∧ w'.cell? ⟨gb463, 3, none⟩ = some (.int .i64 a0_3) ∧ w'.cell? ⟨gb463, 4, none⟩ = some (.int .i64 a0_4) ∧ w'.cell? ⟨gb463, 5, none⟩ = some (.int .i64 a0_5) ∧ w'.cell? ⟨gb463, 6, none⟩ = some (.int .i64 a0_6) ∧ w'.cell? (ad467.add ((x4_2).toNat * 3)) = some (.int .i32 ((rd_T98 l0_7 x4_2).f0)) ∧ w'.cell? ⟨(ad467.add ((x4_2).toNat * 3)).block, (ad467.add ((x4_2).toNat * 3)).off + 1, none⟩ = some (.int .u32 ((rd_T98 l0_7 x4_2).f1)) ∧ w'.cell? ⟨(ad467.add ((x4_2).toNat * 3)).block, (ad467.add ((x4_2).toNat * 3)).off + 2, none⟩ = some (.slice A467_2 ((rd_T98 l0_7 x4_2).f2).length c467_2)) (ds := []) (bA 9 0) (by kernel_rfl) rfl (by kernel_rfl) ⟨cL BK462 0, cL BK462 1, cL BK462 2, cL BK462 3, cL BK462 4, cL BK462 5, cL BK462 6, cL BK462 7, cL BK462 8, cL BK463 0, cL BK463 1, cL BK463 2, cL BK463 3, cL BK463 4, cL BK463 5, cL BK463 6, (cU HB hw467_0 :), (cU HB hw467_1 :), (cU HB hw467_2 :)⟩ (fun hHeld => ?_); refine with_tabW F24.tab9 F24.bits9 (fun HT_ HW_ => ?_)
         generalize wr.drew = w31 at BK462 BK463 HB HR467_2 hx467_0 hx467_1 hx467_2 hHeld ⊢
         refine pT 9 0 38 1 HT_ (h := ?_)
         refine pT 9 2 40 5 HT_ (h := ?_)
         refine pT 9 5 43 37 HT_ (h := ?_)
         refine tT 9 1 39 39 HT_ HW_ hHeld (h := ?_)
         refine pT 9 3 41 47 HT_ (h := ?_)
         refine tT 9 4 42 63 HT_ HW_ hHeld (h := ?_)
         refine tT 9 6 44 127 HT_ HW_ hHeld (h := ?_)
         refine one_ (i := 7) (N := some 45) (bA 9 255) rfl rfl (one_of HT_.out (by kernel_rfl)) (by decide) (fun K hK => ?_)
         refine gA Try.func51 #[.agg #[.int .i32 ((rd_T98 l0_7 x4_2).f0), .int .u32 ((rd_T98 l0_7 x4_2).f1), .slice A467_2 ((rd_T98 l0_7 x4_2).f2).length c467_2], .int .i64 a0_0] (h := ?_)
         with_reducible refine (F51.calls k2 ((rd_T98 l0_7 x4_2).f0) ((rd_T98 l0_7 x4_2).f1) _ _ ((rd_T98 l0_7 x4_2).f2) a0_0 t468 _ ?side1 ?side2 A23.out).mono ?_
         (case side1 => with_reducible exact (Kd.C_below HR467_2.out HB.out)); (case side2 => exact HC467_2.out); rintro e w32 ⟨rfl, hb⟩
         refine ⟨_, rfl, ?_⟩
         replace BK462 := aM (blk_below (g := gb462) (o := .cells #[.int .i64 a0_0, .int .i64 a0_1, .int .i64 a0_2, .int .i64 a0_3, .int .i64 a0_4, .int .i64 a0_5, .int .i64 a0_6, .slice (some ad467) l0_7.length c0_7, .slice A0_8 l0_8.length c0_8] 56 (0, 0)) (bK BK462.out) hb); replace BK463 := aM (blk_below (g := gb463) (o := .cells #[.int .i64 a0_0, .int .i64 a0_1, .int .i64 a0_2, .int .i64 a0_3, .int .i64 a0_4, .int .i64 a0_5, .int .i64 a0_6] 28 (0, 0)) (bK BK463.out) hb); replace HB := aM (below_step bZ hb); (try clear hb); (try clear hb2); (try clear hk); (try clear hi)
         refine hK.out _ _ ⟨cL BK462 0, cL BK462 1, cL BK462 2, cL BK462 3, cL BK462 4, cL BK462 5, cL BK462 6, cL BK462 7, cL BK462 8, cL BK463 0, cL BK463 1, cL BK463 2, cL BK463 3, cL BK463 4, cL BK463 5, cL BK463 6, (cU HB hw467_0 :), (cU HB hw467_1 :), (cU HB hw467_2 :)⟩ (fun hHeld => ?_)
         clear hK K
         refine nT 45 (h := ?_)
         refine pT 9 8 5 511 HT_ (h := ?_)
         refine done_ (done_of HT_.out (by kernel_rfl)) ?_
         try go_wp2
         go_ret
         exact ⟨rfl, HB.out⟩
       ·
        rw [if_neg c21] at H; have c21b0 : decide (x4_2 < (l0_7.length : Int)) = false := dF c21; clear c21; have H' := aM H; clear H; have hnb33 := NB462_463.out; have hnc33 := NB463_462.out; have hz34 := bx9 BK462.out
        go_wp2
        go_loopg [6] k2 (fun kq v6 w' => ∃ (x6_3 : Int), v6 = .int .i64 x6_3 ∧ Aside0 (F24.l1 kq x6_3 a0_0 a0_1 a0_2 a0_3 a0_4 a0_5 a0_6 l0_7 l0_8 a0_0 a0_1 a0_2 a0_3 a0_4 a0_5 a0_6 = some r) ∧ Aside0 (kq ≤ k2) ∧ Aside0 (w'.heap[gb462]? = some (.cells #[.int .i64 a0_0, .int .i64 a0_1, .int .i64 a0_2, .int .i64 a0_3, .int .i64 a0_4, .int .i64 a0_5, .int .i64 a0_6, (.slice A0_7 l0_7.length c0_7), (.slice A0_8 l0_8.length c0_8)] 56 (0, 0))) ∧ Aside0 (w'.heap[gb463]? = some (.cells #[.int .i64 a0_0, .int .i64 a0_1, .int .i64 a0_2, .int .i64 a0_3, .int .i64 a0_4, .int .i64 a0_5, .int .i64 a0_6] 28 (0, 0))) ∧ Aside0 (Below w.heap.size w w'))
        case atStart => exact ⟨(0), rfl, H', ⟨Nat.le_refl _⟩, BK462, BK463, HB⟩
        case round =>
         clear H'; (try clear c1); (try clear c2); (try clear p2); (try clear c3); (try clear c4); (try clear p4); (try clear q4); (try clear hx4); (try clear c5); (try clear p6); (try clear c8); (try clear c9); (try clear c12); (try clear c14); (try clear c17); (try clear c20); (try clear c21); (try clear c21b0); (try clear c22); (try clear c22b0); (try clear c24); (try clear c24b0); (try clear c24b1); (try clear c25); (try clear c29); (try clear c33); (try clear hz15); (try clear hz16); (try clear hz18); (try clear hz19); (try clear hz26); (try clear hz30); (try clear hz34); (try clear hz6); (try clear hz9); (try clear hx467_0); (try clear hx467_1); (try clear hx467_2); (try clear p2); (try clear p467); (try clear q467); obtain ⟨x6_3, rfl, HA, HK3, BK462, BK463, HB⟩ := hrel
         cases gk with
         | zero => exact absurd HA.out (by simp [F24.l1])
         | succ k3 =>
          have H := HA.out; clear HA; simp only [F24.l1] at H
          by_cases c35 : x6_3 < (l0_8.length : Int)
          ·
           rw [if_pos c35] at H; have c35b0 : decide (x6_3 < (l0_8.length : Int)) = true := dT c35; clear c35; obtain ⟨c36, H⟩ := ifp H; have c36b0 : decide (0 ≤ x6_3) = true := dT c36; clear c36; obtain ⟨t470, A37, H⟩ := bnd H
           by_cases c38 : t470 = 0
           ·
            rw [if_pos c38] at H; have c38b0 : (t470 == 0) = true := beq_iff_eq.mpr c38; have c38b1 : (t470 != 0) = false := bne_eq_false_iff_eq.mpr c38; clear c38; have H' := aM H; clear H; have hnb39 := NB462_463.out; have hnc39 := NB463_462.out; have hz40 := bx9 BK462.out
            try go_wp2
            replace BK462 := aM (blk_drew BK462.out); replace BK463 := aM (blk_drew BK463.out); replace HB := aM (below_drew1 HB.out); have p469 : 0 ≤ (x6_3 : Int) := oD; have q469 : x6_3 < (l0_8.length : Int) := oD; obtain ⟨ad469, A469_2, c469_2, e469, hx469_0, hx469_1, hx469_2, hl469_2, hi469_2⟩ := at_T98 HR0_8.out x6_3 p469 q469; have hw469_2 := hx469_2; have hw469_1 := hx469_1; have hw469_0 := hx469_0
            cases e469
            replace hx469_0 := cU HB hx469_0; replace hx469_1 := cU HB hx469_1; replace hx469_2 := cU HB hx469_2; have HR469_2 := aM hi469_2; have HC469_2 := aM hl469_2; clear hi469_2 hl469_2; replace p469 := eq_true p469; replace q469 := eq_true q469
            refine start_ (n := 9) (S := fun w' => w'.cell? ⟨gb462, 0, none⟩ = some (.int .i64 a0_0) ∧ w'.cell? ⟨gb462, 1, none⟩ = some (.int .i64 a0_1) ∧ w'.cell? ⟨gb462, 2, none⟩ = some (.int .i64 a0_2) ∧ w'.cell? ⟨gb462, 3, none⟩ = some (.int .i64 a0_3) ∧ w'.cell? ⟨gb462, 4, none⟩ = some (.int .i64 a0_4) ∧ w'.cell? ⟨gb462, 5, none⟩ = some (.int .i64 a0_5) ∧ w'.cell? ⟨gb462, 6, none⟩ = some (.int .i64 a0_6) ∧ w'.cell? ⟨gb462, 7, none⟩ = some (.slice A0_7 l0_7.length c0_7) ∧ w'.cell? ⟨gb462, 8, none⟩ = some (.slice (some ad469) l0_8.length c0_8) ∧ w'.cell? ⟨gb463, 0, none⟩ = some (.int .i64 a0_0) ∧ w'.cell? ⟨gb463, 1, none⟩ = some (.int .i64 a0_1) ∧ w'.cell? ⟨gb463, 2, none⟩ = some (.int .i64 a0_2) ∧ w'.cell? ⟨gb463, 3, none⟩ = some (.int .i64 a0_3) ∧ w'.cell? ⟨gb463, 4, none⟩ = some (.int .i64 a0_4) ∧ w'.cell? ⟨gb463, 5, none⟩ = some (.int .i64 a0_5) ∧ w'.cell? ⟨gb463, 6, none⟩ = some (.int .i64 a0_6) ∧ w'.cell? (ad469.add ((x6_3).toNat * 3)) = some (.int .i32 ((rd_T98 l0_8 x6_3).f0)) ∧ w'.cell? ⟨(ad469.add ((x6_3).toNat * 3)).block, (ad469.add ((x6_3).toNat * 3)).off + 1, none⟩ = some (.int .u32 ((rd_T98 l0_8 x6_3).f1)) ∧ w'.cell? ⟨(ad469.add ((x6_3).toNat * 3)).block, (ad469.add ((x6_3).toNat * 3)).off + 2, none⟩ = some (.slice A469_2 ((rd_T98 l0_8 x6_3).f2).length c469_2)) (ds := []) (bA 9 0) (by kernel_rfl) rfl (by kernel_rfl) ⟨cL BK462 0, cL BK462 1, cL BK462 2, cL BK462 3, cL BK462 4, cL BK462 5, cL BK462 6, cL BK462 7, cL BK462 8, cL BK463 0, cL BK463 1, cL BK463 2, cL BK463 3, cL BK463 4, cL BK463 5, cL BK463 6, (cU HB hw469_0 :), (cU HB hw469_1 :), (cU HB hw469_2 :)⟩ (fun hHeld => ?_); refine with_tabW F24.tab15 F24.bits15 (fun HT_ HW_ => ?_)
            generalize wr.drew = w41 at BK462 BK463 HB HR469_2 hx469_0 hx469_1 hx469_2 hHeld ⊢
            refine pT 9 0 56 1 HT_ (h := ?_)
            refine pT 9 2 58 5 HT_ (h := ?_)
            refine pT 9 5 61 37 HT_ (h := ?_)
            refine tT 9 1 57 39 HT_ HW_ hHeld (h := ?_)
            refine pT 9 3 59 47 HT_ (h := ?_)
            refine tT 9 4 60 63 HT_ HW_ hHeld (h := ?_)
            refine tT 9 6 62 127 HT_ HW_ hHeld (h := ?_)
            refine one_ (i := 7) (N := some 63) (bA 9 255) rfl rfl (one_of HT_.out (by kernel_rfl)) (by decide) (fun K hK => ?_)
            refine gA Try.func51 #[.agg #[.int .i32 ((rd_T98 l0_8 x6_3).f0), .int .u32 ((rd_T98 l0_8 x6_3).f1), .slice A469_2 ((rd_T98 l0_8 x6_3).f2).length c469_2], .int .i64 a0_1] (h := ?_)
            with_reducible refine (F51.calls k3 ((rd_T98 l0_8 x6_3).f0) ((rd_T98 l0_8 x6_3).f1) _ _ ((rd_T98 l0_8 x6_3).f2) a0_1 t470 _ ?side1 ?side2 A37.out).mono ?_
            (case side1 => with_reducible exact (Kd.C_below HR469_2.out HB.out)); (case side2 => exact HC469_2.out); rintro e w42 ⟨rfl, hb⟩
            refine ⟨_, rfl, ?_⟩
            replace BK462 := aM (blk_below (g := gb462) (o := .cells #[.int .i64 a0_0, .int .i64 a0_1, .int .i64 a0_2, .int .i64 a0_3, .int .i64 a0_4, .int .i64 a0_5, .int .i64 a0_6, .slice A0_7 l0_7.length c0_7, .slice (some ad469) l0_8.length c0_8] 56 (0, 0)) (bK BK462.out) hb); replace BK463 := aM (blk_below (g := gb463) (o := .cells #[.int .i64 a0_0, .int .i64 a0_1, .int .i64 a0_2, .int .i64 a0_3, .int .i64 a0_4, .int .i64 a0_5, .int .i64 a0_6] 28 (0, 0)) (bK BK463.out) hb); replace HB := aM (below_step bZ hb); (try clear hb); (try clear hb2); (try clear hk); (try clear hi)
            refine hK.out _ _ ⟨cL BK462 0, cL BK462 1, cL BK462 2, cL BK462 3, cL BK462 4, cL BK462 5, cL BK462 6, cL BK462 7, cL BK462 8, cL BK463 0, cL BK463 1, cL BK463 2, cL BK463 3, cL BK463 4, cL BK463 5, cL BK463 6, (cU HB hw469_0 :), (cU HB hw469_1 :), (cU HB hw469_2 :)⟩ (fun hHeld => ?_)
            clear hK K
            refine nT 63 (h := ?_)
            refine pT 9 8 7 511 HT_ (h := ?_)
            refine done_ (done_of HT_.out (by kernel_rfl)) ?_
            try go_wp2
            go_roundg k3
            case measure => have := HJ3.out; have := HK2.out; have := HK3.out; omega
            case rel => exact ⟨(wrap64 (x6_3 + 1)), rfl, H', ⟨by have := HJ3.out; have := HK2.out; have := HK3.out; omega⟩, BK462, BK463, HB⟩
           ·
            rw [if_neg c38] at H; have c38b0 : (t470 == 0) = false := beq_eq_false_iff_ne.mpr c38; have c38b1 : (t470 != 0) = true := bne_iff_ne.mpr c38; obtain rfl := oI H; have hnb43 := NB462_463.out; have hnc43 := NB463_462.out; have hz44 := bx9 BK462.out
            try go_wp2
            replace BK462 := aM (blk_drew BK462.out); replace BK463 := aM (blk_drew BK463.out); replace HB := aM (below_drew1 HB.out); have p469 : 0 ≤ (x6_3 : Int) := oD; have q469 : x6_3 < (l0_8.length : Int) := oD; obtain ⟨ad469, A469_2, c469_2, e469, hx469_0, hx469_1, hx469_2, hl469_2, hi469_2⟩ := at_T98 HR0_8.out x6_3 p469 q469; have hw469_2 := hx469_2; have hw469_1 := hx469_1; have hw469_0 := hx469_0
            cases e469
            replace hx469_0 := cU HB hx469_0; replace hx469_1 := cU HB hx469_1; replace hx469_2 := cU HB hx469_2; have HR469_2 := aM hi469_2; have HC469_2 := aM hl469_2; clear hi469_2 hl469_2; replace p469 := eq_true p469; replace q469 := eq_true q469
            refine start_ (n := 9) (S := fun w' => w'.cell? ⟨gb462, 0, none⟩ = some (.int .i64 a0_0) ∧ w'.cell? ⟨gb462, 1, none⟩ = some (.int .i64 a0_1) ∧ w'.cell? ⟨gb462, 2, none⟩ = some (.int .i64 a0_2) ∧ w'.cell? ⟨gb462, 3, none⟩ = some (.int .i64 a0_3) ∧ w'.cell? ⟨gb462, 4, none⟩ = some (.int .i64 a0_4) ∧ w'.cell? ⟨gb462, 5, none⟩ = some (.int .i64 a0_5) ∧ w'.cell? ⟨gb462, 6, none⟩ = some (.int .i64 a0_6) ∧ w'.cell? ⟨gb462, 7, none⟩ = some (.slice A0_7 l0_7.length c0_7) ∧ w'.cell? ⟨gb462, 8, none⟩ = some (.slice (some ad469) l0_8.length c0_8) ∧ w'.cell? ⟨gb463, 0, none⟩ = some (.int .i64 a0_0) ∧ w'.cell? ⟨gb463, 1, none⟩ = some (.int .i64 a0_1) ∧ w'.cell? ⟨gb463, 2, none⟩ = some (.int .i64 a0_2) ∧ w'.cell? ⟨gb463, 3, none⟩ = some (.int .i64 a0_3) ∧ w'.cell? ⟨gb463, 4, none⟩ = some (.int .i64 a0_4) ∧ w'.cell? ⟨gb463, 5, none⟩ = some (.int .i64 a0_5) ∧ w'.cell? ⟨gb463, 6, none⟩ = some (.int .i64 a0_6) ∧ w'.cell? (ad469.add ((x6_3).toNat * 3)) = some (.int .i32 ((rd_T98 l0_8 x6_3).f0)) ∧ w'.cell? ⟨(ad469.add ((x6_3).toNat * 3)).block, (ad469.add ((x6_3).toNat * 3)).off + 1, none⟩ = some (.int .u32 ((rd_T98 l0_8 x6_3).f1)) ∧ w'.cell? ⟨(ad469.add ((x6_3).toNat * 3)).block, (ad469.add ((x6_3).toNat * 3)).off + 2, none⟩ = some (.slice A469_2 ((rd_T98 l0_8 x6_3).f2).length c469_2)) (ds := []) (bA 9 0) (by kernel_rfl) rfl (by kernel_rfl) ⟨cL BK462 0, cL BK462 1, cL BK462 2, cL BK462 3, cL BK462 4, cL BK462 5, cL BK462 6, cL BK462 7, cL BK462 8, cL BK463 0, cL BK463 1, cL BK463 2, cL BK463 3, cL BK463 4, cL BK463 5, cL BK463 6, (cU HB hw469_0 :), (cU HB hw469_1 :), (cU HB hw469_2 :)⟩ (fun hHeld => ?_); refine with_tabW F24.tab15 F24.bits15 (fun HT_ HW_ => ?_)
            generalize wr.drew = w45 at BK462 BK463 HB HR469_2 hx469_0 hx469_1 hx469_2 hHeld ⊢
            refine pT 9 0 56 1 HT_ (h := ?_)
            refine pT 9 2 58 5 HT_ (h := ?_)
            refine pT 9 5 61 37 HT_ (h := ?_)
            refine tT 9 1 57 39 HT_ HW_ hHeld (h := ?_)
            refine pT 9 3 59 47 HT_ (h := ?_)
            refine tT 9 4 60 63 HT_ HW_ hHeld (h := ?_)
            refine tT 9 6 62 127 HT_ HW_ hHeld (h := ?_)
            refine one_ (i := 7) (N := some 63) (bA 9 255) rfl rfl (one_of HT_.out (by kernel_rfl)) (by decide) (fun K hK => ?_)
            refine gA Try.func51 #[.agg #[.int .i32 ((rd_T98 l0_8 x6_3).f0), .int .u32 ((rd_T98 l0_8 x6_3).f1), .slice A469_2 ((rd_T98 l0_8 x6_3).f2).length c469_2], .int .i64 a0_1] (h := ?_)
            with_reducible refine (F51.calls k3 ((rd_T98 l0_8 x6_3).f0) ((rd_T98 l0_8 x6_3).f1) _ _ ((rd_T98 l0_8 x6_3).f2) a0_1 t470 _ ?side1 ?side2 A37.out).mono ?_
            (case side1 => with_reducible exact (Kd.C_below HR469_2.out HB.out)); (case side2 => exact HC469_2.out); rintro e w46 ⟨rfl, hb⟩
            refine ⟨_, rfl, ?_⟩
            replace BK462 := aM (blk_below (g := gb462) (o := .cells #[.int .i64 a0_0, .int .i64 a0_1, .int .i64 a0_2, .int .i64 a0_3, .int .i64 a0_4, .int .i64 a0_5, .int .i64 a0_6, .slice A0_7 l0_7.length c0_7, .slice (some ad469) l0_8.length c0_8] 56 (0, 0)) (bK BK462.out) hb); replace BK463 := aM (blk_below (g := gb463) (o := .cells #[.int .i64 a0_0, .int .i64 a0_1, .int .i64 a0_2, .int .i64 a0_3, .int .i64 a0_4, .int .i64 a0_5, .int .i64 a0_6] 28 (0, 0)) (bK BK463.out) hb); replace HB := aM (below_step bZ hb); (try clear hb); (try clear hb2); (try clear hk); (try clear hi)
            refine hK.out _ _ ⟨cL BK462 0, cL BK462 1, cL BK462 2, cL BK462 3, cL BK462 4, cL BK462 5, cL BK462 6, cL BK462 7, cL BK462 8, cL BK463 0, cL BK463 1, cL BK463 2, cL BK463 3, cL BK463 4, cL BK463 5, cL BK463 6, (cU HB hw469_0 :), (cU HB hw469_1 :), (cU HB hw469_2 :)⟩ (fun hHeld => ?_)
            clear hK K
            refine nT 63 (h := ?_)
            refine pT 9 8 7 511 HT_ (h := ?_)
            refine done_ (done_of HT_.out (by kernel_rfl)) ?_
            try go_wp2
            go_ret
            exact ⟨rfl, HB.out⟩
          ·
           rw [if_neg c35] at H; have c35b0 : decide (x6_3 < (l0_8.length : Int)) = false := dF c35; clear c35; obtain rfl := oI H; have hnb47 := NB462_463.out; have hnc47 := NB463_462.out; have hz48 := bx9 BK462.out
           go_wp2
           go_ret
           exact ⟨rfl, HB.out⟩
 ·
  replace c3 := Bool.eq_false_iff.mpr c3; subst c3; rw [if_neg (show ¬ (false = true) by decide)] at H; obtain rfl := oI H
  go_enter Try.func24, Try.ntmps24
  go_wp2_with (first | ((with_reducible refine gate_dst (N := 1) rfl ?_); refine bxE 1 #[.int .i64 a0_0, .int .i64 a0_1, .int .i64 a0_2, .int .i64 a0_3, .int .i64 a0_4, .int .i64 a0_5, .int .i64 a0_6, .slice A0_7 l0_7.length c0_7, .slice A0_8 l0_8.length c0_8] 56 (h := ?_); intro gb462 hg w49 hbox hb; have BK462 := aM (hbox); have GW462 := gE hg HB; have GE462 := gE hg HB; replace HB := bst HB hb; clear hb hbox hg; have hz50 := bx9 BK462.out) | ((with_reducible refine gate_dst (N := 3) rfl ?_); refine bxE 3 #[.int .i64 0, .int .i64 0, .int .i64 0, .int .i64 0, .int .i64 0, .int .i64 0, .int .i64 0] 28 (h := ?_); intro gb463 hg w51 hbox hb; have BK463 := aM (hbox); have GW463 := gE hg HB; have GE463 := gE hg HB; replace HB := bst HB hb; have NB462_463 := aM ((by rw [hg]; exact Nat.ne_of_lt (blk_lt (g := gb462) (o := .cells #[.int .i64 a0_0, .int .i64 a0_1, .int .i64 a0_2, .int .i64 a0_3, .int .i64 a0_4, .int .i64 a0_5, .int .i64 a0_6, .slice A0_7 l0_7.length c0_7, .slice A0_8 l0_8.length c0_8] 56 (0, 0)) BK462.out) : gb462 ≠ gb463)); have NB463_462 := aM ((by rw [hg]; exact Nat.ne_of_gt (blk_lt (g := gb462) (o := .cells #[.int .i64 a0_0, .int .i64 a0_1, .int .i64 a0_2, .int .i64 a0_3, .int .i64 a0_4, .int .i64 a0_5, .int .i64 a0_6, .slice A0_7 l0_7.length c0_7, .slice A0_8 l0_8.length c0_8] 56 (0, 0)) BK462.out) : gb463 ≠ gb462)); replace BK462 := kst BK462 hb; clear hb hbox hg; have hnb52 := NB463_462.out; have hnc52 := NB462_463.out; have hz53 := bx7 BK463.out) | ((with_reducible refine gate_callee (f := 9) rfl ?_); refine gL 11 Try.func9 #[.agg #[.int .i64 a0_0, .int .i64 a0_1, .int .i64 a0_2, .int .i64 a0_3, .int .i64 a0_4, .int .i64 a0_5, .int .i64 a0_6]] (h := ?_); (with_reducible refine (F9.calls a0_0 a0_1 a0_2 a0_3 a0_4 a0_5 a0_6 false _ A2.out).mono ?_); rintro e w54 ⟨rfl, hb⟩; refine ⟨_, rfl, ?_⟩; replace BK462 := aM (blk_below (g := gb462) (o := .cells #[.int .i64 a0_0, .int .i64 a0_1, .int .i64 a0_2, .int .i64 a0_3, .int .i64 a0_4, .int .i64 a0_5, .int .i64 a0_6, .slice A0_7 l0_7.length c0_7, .slice A0_8 l0_8.length c0_8] 56 (0, 0)) (by (with_reducible repeat (first | refine blk_drewN ?_ _ | refine blk_drew ?_ | refine blk_alloc ?_ _)); refine blk_far ?_ NB462_463.out _; (with_reducible repeat (first | refine blk_drewN ?_ _ | refine blk_drew ?_ | refine blk_alloc ?_ _)); refine blk_far ?_ NB462_463.out _; (with_reducible repeat (first | refine blk_drewN ?_ _ | refine blk_drew ?_ | refine blk_alloc ?_ _)); refine blk_far ?_ NB462_463.out _; (with_reducible repeat (first | refine blk_drewN ?_ _ | refine blk_drew ?_ | refine blk_alloc ?_ _)); refine blk_far ?_ NB462_463.out _; (with_reducible repeat (first | refine blk_drewN ?_ _ | refine blk_drew ?_ | refine blk_alloc ?_ _)); refine blk_far ?_ NB462_463.out _; (with_reducible repeat (first | refine blk_drewN ?_ _ | refine blk_drew ?_ | refine blk_alloc ?_ _)); refine blk_far ?_ NB462_463.out _; (with_reducible repeat (first | refine blk_drewN ?_ _ | refine blk_drew ?_ | refine blk_alloc ?_ _)); refine blk_far ?_ NB462_463.out _; (with_reducible repeat (first | refine blk_drewN ?_ _ | refine blk_drew ?_ | refine blk_alloc ?_ _)); exact BK462.out) hb); replace BK463 := aM (blk_below (g := gb463) (o := .cells #[.int .i64 a0_0, .int .i64 a0_1, .int .i64 a0_2, .int .i64 a0_3, .int .i64 a0_4, .int .i64 a0_5, .int .i64 a0_6] 28 (0, 0)) (blk_put (blk_put (blk_put (blk_put (blk_put (blk_put (blk_put BK463.out 0 _ rfl) 1 _ rfl) 2 _ rfl) 3 _ rfl) 4 _ rfl) 5 _ rfl) 6 _ rfl) hb); replace HB := aM (below_step bZ hb); clear hb))
  go_ret
  exact ⟨rfl, HB.out⟩

end Go.Proofs.Ytekenaclmplocaa.PPageNew
