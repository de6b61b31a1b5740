-- Written by a program of this session (wip/tools/mkprint.py over the kit's print).
import Derived.Test.YtekenaclmplocaaPPageNewx0
import Derived.Test.YtekenaclmplocaaPPageNewx2
import Derived.Test.YtekenaclmplocaaPPageNewx3
import Derived.Test.YtekenaclmplocaaPPageNewx8
import Derived.Test.YtekenaclmplocaaPPageNewx12
import Derived.Test.YtekenaclmplocaaPPageNewx13
import Derived.Test.YtekenaclmplocaaPPageNewx14
import Derived.Test.YtekenaclmplocaaPPageNewx17
import Derived.Test.YtekenaclmplocaaPPageNewx18
import Derived.Test.YtekenaclmplocaaPPageNewx19
import Derived.Test.YtekenaclmplocaaPPageNewx20
import Derived.Test.YtekenaclmplocaaPPageNewx21
import Derived.Test.YtekenaclmplocaaPPageNewx23
namespace Go.Proofs.Ytekenaclmplocaa.PPageNew
open Go.RowKit Go.Proofs.YtekenaclmplocaaW.PrintWords Go.Proofs.YtekenaclmplocaaW.PrintLast Go.Proofs.YtekenaclmplocaaW.PrintMore
attribute [local go_sem] max2_int min2_int max_two min_two max_three min_three max_four min_four
set_option linter.unusedVariables false
set_option maxHeartbeats 8000000
set_option maxRecDepth 100000
set_option linter.unusedSimpArgs false

attribute [local go_sem high] eqA28
mutual
def F25.l0 : Nat → List (S75) → List (List Int) → List (List Int) → Int → Int → Int → Int → Int → Int → Int → Int → Int → List (S98) → List (S98) → Option (Bool)
 | 0, _, _, _, _, _, _, _, _, _, _, _, _, _, _ => none
 | k + 1, x0, x5, x6, x52, x53, x571000, x571001, x571002, x571003, x571004, x571005, x571006, x571007, x571008 => if x53 < x52 then (if 0 ≤ x53 then (if x53 < (x5.length : Int) then ((F54.f k x571000 x571001 x571002 x571003 x571004 x571005 x571006 x571007 x571008 x53).bind fun t610 => ((F53.f k (rd_L13 x5 x53) t610).bind fun t613 => (if t613 = true then (if x53 < (x6.length : Int) then ((F55.f k x571000 x571001 x571002 x571003 x571004 x571005 x571006 x571007 x571008 x53).bind fun t615 => ((F53.f k (rd_L13 x6 x53) t615).bind fun t618 => (if t618 = true then (F25.l1 k x0 x5 x6 x53 x52 x53 ((rd_L13 x5 x53).length : Int) 0 x571000 x571001 x571002 x571003 x571004 x571005 x571006 x571007 x571008) else (none)))) else (none)) else (none)))) else (none)) else (none)) else ((F14.f k x0).bind fun t605 => ((F56.f k x571000 x571001 x571002 x571003 x571004 x571005 x571006 x571007 x571008).bind fun t608 => (some ((strOfNums t605).toList == t608.toList))))
def F25.l1 : Nat → List (S75) → List (List Int) → List (List Int) → Int → Int → Int → Int → Int → Int → Int → Int → Int → Int → Int → Int → List (S98) → List (S98) → Option (Bool)
 | 0, _, _, _, _, _, _, _, _, _, _, _, _, _, _, _, _, _ => none
 | k + 1, x0, x5, x6, x7, x52, x53, x80, x81, x571000, x571001, x571002, x571003, x571004, x571005, x571006, x571007, x571008 => if x81 < x80 then ((F18.f x0 x7 x81).bind fun t620 => (if 0 ≤ x7 then (if x7 < (x5.length : Int) then (if 0 ≤ x81 then (if x81 < ((rd_L13 x5 x7).length : Int) then (if t620 = (rd (rd_L13 x5 x7) x81) then ((F19.f x0 x7 x81).bind fun t623 => (if x7 < (x6.length : Int) then (if x81 < ((rd_L13 x6 x7).length : Int) then (if t623 = (rd (rd_L13 x6 x7) x81) then (F25.l1 k x0 x5 x6 x7 x52 x53 x80 (wrap64 (x81 + 1)) x571000 x571001 x571002 x571003 x571004 x571005 x571006 x571007 x571008) else (none)) else (none)) else (none))) else (none)) else (none)) else (none)) else (none)) else (none))) else (F25.l0 k x0 x5 x6 x52 (wrap64 (x53 + 1)) x571000 x571001 x571002 x571003 x571004 x571005 x571006 x571007 x571008)
end
def F25.f (k : Nat) (l0 : List (S75)) (a1_0 : Int) (a1_1 : Int) (a1_2 : Int) (a1_3 : Int) (a1_4 : Int) (a1_5 : Int) (a1_6 : Int) (l1_7 : List (S98)) (l1_8 : List (S98)) : Option (Bool) := (F32.f l0).bind fun bt571 => ((F10.f bt571.1 bt571.2.1 bt571.2.2.1 bt571.2.2.2.1 bt571.2.2.2.2.1 bt571.2.2.2.2.2.1 bt571.2.2.2.2.2.2).bind fun bt578 => (if (!(bt578.1 == a1_0) || (!(bt578.2.1 == a1_1) || (!(bt578.2.2.1 == a1_2) || (!(bt578.2.2.2.1 == a1_3) || (!(bt578.2.2.2.2.1 == a1_4) || (!(bt578.2.2.2.2.2.1 == a1_5) || (!(bt578.2.2.2.2.2.2 == a1_6)))))))) = true then (none) else ((F16.f k l0).bind fun t585 => ((F22.f k t585).bind fun t588 => ((F52.f k t588 l1_7).bind fun t591 => (if t591 = true then ((F17.f k l0).bind fun t592 => ((F22.f k t592).bind fun t595 => ((F52.f k t595 l1_8).bind fun t598 => (if t598 = true then ((F29.f k l0).bind fun t599 => ((F30.f k l0).bind fun t602 => (if (t599.length : Int) = a1_2 then (if (t602.length : Int) = a1_2 then (F25.l0 k l0 t599 t602 (t599.length : Int) 0 a1_0 a1_1 a1_2 a1_3 a1_4 a1_5 a1_6 l1_7 l1_8) else (none)) else (none)))) else (none))))) else (none)))))))
theorem F25.mono_l : ∀ k, (∀ y0 y1 y2 y3 y4 y5 y6 y7 y8 y9 y10 y11 y12 y13, LeO (F25.l0 k y0 y1 y2 y3 y4 y5 y6 y7 y8 y9 y10 y11 y12 y13) (F25.l0 (k + 1) y0 y1 y2 y3 y4 y5 y6 y7 y8 y9 y10 y11 y12 y13)) ∧ (∀ y0 y1 y2 y3 y4 y5 y6 y7 y8 y9 y10 y11 y12 y13 y14 y15 y16, LeO (F25.l1 k y0 y1 y2 y3 y4 y5 y6 y7 y8 y9 y10 y11 y12 y13 y14 y15 y16) (F25.l1 (k + 1) y0 y1 y2 y3 y4 y5 y6 y7 y8 y9 y10 y11 y12 y13 y14 y15 y16))
 | 0 => ⟨fun _ _ _ _ _ _ _ _ _ _ _ _ _ _ r h => by simp [F25.l0] at h, fun _ _ _ _ _ _ _ _ _ _ _ _ _ _ _ _ _ r h => by simp [F25.l1] at h⟩
 | k + 1 => by
  obtain ⟨ih0, ih1⟩ := F25.mono_l k
  refine ⟨?_, ?_⟩
  all_goals intros
  all_goals first | unfold F25.l0 | unfold F25.l1
  all_goals repeat' with_reducible first | exact ih0 _ _ _ _ _ _ _ _ _ _ _ _ _ _ | exact ih1 _ _ _ _ _ _ _ _ _ _ _ _ _ _ _ _ _ | exact F22.mono _ _ | exact F53.mono _ _ _ | exact F56.mono _ _ _ _ _ _ _ _ _ _ | exact F54.mono _ _ _ _ _ _ _ _ _ _ _ | exact F55.mono _ _ _ _ _ _ _ _ _ _ _ | exact F52.mono _ _ _ | exact F14.mono _ _ | exact F16.mono _ _ | exact F29.mono _ _ | exact F17.mono _ _ | exact F30.mono _ _ | exact LeO.refl _ | exact LeO.none _ | refine LeO.ite ?_ ?_ | refine LeO.bind ?_ (fun _ => ?_)
theorem F25.mono : ∀ a0 a1 a2 a3 a4 a5 a6 a7 a8 a9 k, LeO (F25.f k a0 a1 a2 a3 a4 a5 a6 a7 a8 a9) (F25.f (k + 1) a0 a1 a2 a3 a4 a5 a6 a7 a8 a9) := by
 intro a0 a1 a2 a3 a4 a5 a6 a7 a8 a9 k; obtain ⟨ih0, ih1⟩ := F25.mono_l k; unfold F25.f
 repeat' with_reducible first | exact ih0 _ _ _ _ _ _ _ _ _ _ _ _ _ _ | exact ih1 _ _ _ _ _ _ _ _ _ _ _ _ _ _ _ _ _ | exact F22.mono _ _ | exact F53.mono _ _ _ | exact F56.mono _ _ _ _ _ _ _ _ _ _ | exact F54.mono _ _ _ _ _ _ _ _ _ _ _ | exact F55.mono _ _ _ _ _ _ _ _ _ _ _ | exact F52.mono _ _ _ | exact F14.mono _ _ | exact F16.mono _ _ | exact F29.mono _ _ | exact F17.mono _ _ | exact F30.mono _ _ | exact LeO.refl _ | exact LeO.none _ | refine LeO.ite ?_ ?_ | refine LeO.bind ?_ (fun _ => ?_)
def F25.T1 : Bool × List (List Nat × List Nat) := (true, [([], []), ([0], [0]), ([1, 1], [1]), ([], []), ([3], [3]), ([2, 4], [2, 4]), ([5, 2], [5]), ([6], [6]), ([7, 6, 6], [6, 7]), ([8, 8, 6], [6, 8]), ([6], [6]), ([10, 6], [6, 10]), ([9, 11, 9, 6], [6, 9, 11]), ([12, 6], [6, 12]), ([6, 13], [6, 13]), ([14, 12], [14]), ([15], [15]), ([16, 15, 15], [15, 16]), ([17, 17, 15], [15, 17]), ([15], [15]), ([19, 15], [15, 19]), ([18, 20, 18, 15], [15, 18, 20]), ([21, 15], [15, 21]), ([15, 22], [15, 22])])
def F25.B1 : List Nat := [0, 1, 3, 0, 8, 31, 63, 127, 255, 511, 127, 1151, 4095, 8191, 16383, 32767, 65535, 131071, 262143, 65535, 589823, 2097151, 4194303, 8388607]
theorem F25.tab1 : rtab .any (opsOf Try.f25 1) = F25.T1 := by kernel_rfl
theorem F25.bits1 : waitsOk F25.T1.2 F25.B1 = true := by kernel_rfl
def F25.T9 : Bool × List (List Nat × List Nat) := (true, [([], []), ([], []), ([0, 1], [0, 1]), ([2], [2]), ([], []), ([], []), ([4, 5], [4, 5]), ([3, 6, 6], [3, 6]), ([7], [7]), ([8, 7], [8]), ([9], [9]), ([9], [9]), ([10, 11, 9], [9, 10, 11]), ([12, 9], [9, 12]), ([9], [9]), ([9], [9]), ([14, 15, 9, 9], [9, 14, 15]), ([13, 16, 16, 9], [9, 13, 16]), ([17, 9], [9, 17]), ([9, 18], [9, 18])])
def F25.B9 : List Nat := [0, 0, 3, 7, 0, 0, 48, 127, 255, 511, 1023, 1023, 4095, 8191, 1023, 1023, 50175, 131071, 262143, 524287]
theorem F25.tab9 : rtab .any (opsOf Try.f25 9) = F25.T9 := by kernel_rfl
theorem F25.bits9 : waitsOk F25.T9.2 F25.B9 = true := by kernel_rfl
def F25.T14 : Bool × List (List Nat × List Nat) := (true, [([], []), ([], []), ([], []), ([0, 1, 2], [0, 1, 2]), ([], []), ([], []), ([4, 5], [4, 5]), ([6], [6]), ([], []), ([7, 8], [7, 8]), ([9], [9]), ([3, 10], [3, 10]), ([11, 3], [11]), ([12], [12]), ([12], [12]), ([12], [12]), ([13, 14, 15, 12, 12], [12, 13, 14, 15]), ([12], [12]), ([12], [12]), ([17, 18, 12], [12, 17, 18]), ([19, 12], [12, 19]), ([12], [12]), ([20, 21, 12], [12, 20, 21]), ([22, 12], [12, 22]), ([16, 23, 12], [12, 16, 23]), ([12, 24], [12, 24])])
def F25.B14 : List Nat := [0, 0, 0, 7, 0, 0, 48, 112, 0, 496, 1008, 2047, 4095, 8191, 8191, 8191, 65535, 8191, 8191, 401407, 925695, 8191, 4071423, 8265727, 16777215, 33554431]
theorem F25.tab14 : rtab .any (opsOf Try.f25 14) = F25.T14 := by kernel_rfl
theorem F25.bits14 : waitsOk F25.T14.2 F25.B14 = true := by kernel_rfl
theorem F25.calls (k : Nat) (A0 : Option Addr) (c0 : Nat) (l0 : List (S75)) (a1_0 : Int) (a1_1 : Int) (a1_2 : Int) (a1_3 : Int) (a1_4 : Int) (a1_5 : Int) (a1_6 : Int) (A1_7 : Option Addr) (c1_7 : Nat) (l1_7 : List (S98)) (A1_8 : Option Addr) (c1_8 : Nat) (l1_8 : List (S98)) (r : Bool) (w : World) (hr0 : Kd.C k75 w A0 l0.length l0) (hc0 : l0.length ≤ c0) (hr1_7 : Kd.C k98 w A1_7 l1_7.length l1_7) (hc1_7 : l1_7.length ≤ c1_7) (hr1_8 : Kd.C k98 w A1_8 l1_8.length l1_8) (hc1_8 : l1_8.length ≤ c1_8) (h : F25.f k l0 a1_0 a1_1 a1_2 a1_3 a1_4 a1_5 a1_6 l1_7 l1_8 = some r) :
  Calls Try.prog 25 #[asPtr (.slice A0 l0.length c0), .agg #[.int .i64 a1_0, .int .i64 a1_1, .int .i64 a1_2, .int .i64 a1_3, .int .i64 a1_4, .int .i64 a1_5, .int .i64 a1_6, .slice A1_7 l1_7.length c1_7, .slice A1_8 l1_8.length c1_8]] w fun e w' => e = .returned (.bool r) ∧ Below w.heap.size w w' := by
 have hu56 := Try.underlying56; have hu28 := Try.underlying28; have HR0 := aM hr0; have HC0 := aM hc0; clear hr0 hc0; have HR1_7 := aM hr1_7; have HC1_7 := aM hc1_7; clear hr1_7 hc1_7; have HR1_8 := aM hr1_8; have HC1_8 := aM hc1_8; clear hr1_8 hc1_8; have HB := aM (Below.refl w.heap.size w); have H := h; clear h; unfold F25.f at H; obtain ⟨⟨t571, t572, t573, t574, t575, t576, t577⟩, A3, H⟩ := bnd H
 try dsimp only at H
 obtain ⟨⟨t578, t579, t580, t581, t582, t583, t584⟩, A4, H⟩ := bnd H
 try dsimp only at H
 obtain ⟨c5, H⟩ := ifn H; (have c5b0 : (!(t578 == a1_0) || (!(t579 == a1_1) || (!(t580 == a1_2) || (!(t581 == a1_3) || (!(t582 == a1_4) || (!(t583 == a1_5) || (!(t584 == a1_6)))))))) = false := by simpa using c5); clear c5; obtain ⟨t585, A6, H⟩ := bnd H; obtain ⟨t588, A7, H⟩ := bnd H; obtain ⟨t591, A8, H⟩ := bnd H
 by_cases c9 : t591 = true
 ·
  subst c9; rw [if_pos rfl] at H; obtain ⟨t592, A10, H⟩ := bnd H; obtain ⟨t595, A11, H⟩ := bnd H; obtain ⟨t598, A12, H⟩ := bnd H
  by_cases c13 : t598 = true
  ·
   subst c13; rw [if_pos rfl] at H; obtain ⟨t599, A14, H⟩ := bnd H; obtain ⟨t602, A15, H⟩ := bnd H; obtain ⟨c16, H⟩ := ifp H; have c16b0 : ((t599.length : Int) == a1_2) = true := beq_iff_eq.mpr c16; have c16b1 : ((t599.length : Int) != a1_2) = false := bne_eq_false_iff_eq.mpr c16; clear c16; obtain ⟨c17, H⟩ := ifp H; have c17b0 : ((t602.length : Int) == a1_2) = true := beq_iff_eq.mpr c17; have c17b1 : ((t602.length : Int) != a1_2) = false := bne_eq_false_iff_eq.mpr c17; clear c17; have H' := aM H; clear H
   go_enter Try.func25, Try.ntmps25
   try go_wp2_with (first | ((with_reducible refine gate_dst (N := 3) rfl ?_); (try (refine gate_guard (by rfl) ?_; dsimp only)); refine bxE 3 #[.int .i64 a1_0, .int .i64 a1_1, .int .i64 a1_2, .int .i64 a1_3, .int .i64 a1_4, .int .i64 a1_5, .int .i64 a1_6, .slice A1_7 l1_7.length c1_7, .slice A1_8 l1_8.length c1_8] 56 (h := ?_); intro gb570 hg w18 hbox hb; have BK570 := aM (hbox); have GW570 := gE hg HB; have GE570 := gE hg HB; replace HB := bst HB hb; clear hb hbox hg))
   replace BK570 := aM (blk_drew BK570.out); replace HB := aM (below_drew1 HB.out)
   refine start_ (n := 24) (S := fun w' => w'.cell? ⟨gb570, 0, none⟩ = some (.int .i64 a1_0) ∧ w'.cell? ⟨gb570, 1, none⟩ = some (.int .i64 a1_1) ∧ w'.cell? ⟨gb570, 2, none⟩ = some (.int .i64 a1_2) ∧ w'.cell? ⟨gb570, 3, none⟩ = some (.int .i64 a1_3) ∧ w'.cell? ⟨gb570, 4, none⟩ = some (.int .i64 a1_4) ∧ w'.cell? ⟨gb570, 5, none⟩ = some (.int .i64 a1_5) ∧ w'.cell? ⟨gb570, 6, none⟩ = some (.int .i64 a1_6) ∧ w'.cell? ⟨gb570, 7, none⟩ = some (.slice A1_7 l1_7.length c1_7) ∧ w'.cell? ⟨gb570, 8, none⟩ = some (.slice A1_8 l1_8.length c1_8)) (ds := []) (bA 24 0) (by kernel_rfl) rfl (by kernel_rfl) (cx9 BK570.out) (fun hHeld => ?_); refine with_tabW F25.tab1 F25.bits1 (fun HT_ HW_ => ?_)
   generalize w18.drew = w19 at BK570 HB hHeld ⊢
   refine pT 24 0 9 1 HT_ (h := ?_)
   refine pT 24 3 12 9 HT_ (h := ?_)
   refine tT 24 4 13 25 HT_ HW_ hHeld (h := ?_)
   refine one_ (i := 1) (N := some 10) (bA 24 27) rfl rfl (one_of HT_.out (by kernel_rfl)) (by decide) (fun K hK => ?_)
   refine gA Try.func32 #[asPtr (.slice A0 l0.length c0)] (h := ?_)
   with_reducible refine (F32.calls _ _ l0 t571 t572 t573 t574 t575 t576 t577 _ ?side1 ?side2 A3.out).mono ?_
   (case side1 => with_reducible exact (Kd.C_below HR0.out HB.out)); (case side2 => exact HC0.out); rintro e w20 ⟨rfl, hb⟩
   refine ⟨_, rfl, ?_⟩
   replace BK570 := aM (blk_below (g := gb570) (o := .cells #[.int .i64 a1_0, .int .i64 a1_1, .int .i64 a1_2, .int .i64 a1_3, .int .i64 a1_4, .int .i64 a1_5, .int .i64 a1_6, .slice A1_7 l1_7.length c1_7, .slice A1_8 l1_8.length c1_8] 56 (0, 0)) (bK BK570.out) hb); replace HB := aM (below_step bZ hb); (try clear hb); (try clear hb2); (try clear hk); (try clear hi)
   refine hK.out _ _ (cx9 BK570.out) (fun hHeld => ?_)
   clear hK K
   refine nT 10 (h := ?_)
   refine one_ (i := 2) (N := some 11) (bA 24 31) rfl rfl (one_of HT_.out (by kernel_rfl)) (by decide) (fun K hK => ?_)
   refine gA Try.func10 #[.agg #[.int .i64 t571, .int .i64 t572, .int .i64 t573, .int .i64 t574, .int .i64 t575, .int .i64 t576, .int .i64 t577]] (h := ?_)
   with_reducible refine (F10.calls t571 t572 t573 t574 t575 t576 t577 t578 t579 t580 t581 t582 t583 t584 _ A4.out).mono ?_
   rintro e w21 ⟨rfl, hb⟩
   refine ⟨_, rfl, ?_⟩
   replace BK570 := aM (blk_below (g := gb570) (o := .cells #[.int .i64 a1_0, .int .i64 a1_1, .int .i64 a1_2, .int .i64 a1_3, .int .i64 a1_4, .int .i64 a1_5, .int .i64 a1_6, .slice A1_7 l1_7.length c1_7, .slice A1_8 l1_8.length c1_8] 56 (0, 0)) (bK BK570.out) hb); replace HB := aM (below_step bZ hb); (try clear hb); (try clear hb2); (try clear hk); (try clear hi)
   refine hK.out _ _ (cx9 BK570.out) (fun hHeld => ?_)
   clear hK K
   refine nT 11 (h := ?_)
   refine pT 24 5 14 63 HT_ (h := ?_)
   refine pT 24 6 15 127 HT_ (h := ?_)
   refine pT 24 7 16 255 HT_ (h := ?_)
   refine pT 24 10 19 1279 HT_ (h := ?_)
   refine tT 24 11 20 3327 HT_ HW_ hHeld (h := ?_)
   refine one_ (i := 8) (N := some 17) (bA 24 3583) rfl rfl (one_of HT_.out (by kernel_rfl)) (by decide) (fun K hK => ?_)
   refine gA Try.func16 #[asPtr (.slice A0 l0.length c0)] (h := ?_)
   with_reducible refine (F16.calls k _ _ l0 t585 _ ?side1 ?side2 A6.out).mono ?_
   (case side1 => with_reducible exact (Kd.C_below HR0.out HB.out)); (case side2 => exact HC0.out); rintro e w22 ⟨v586, rfl, ho0, hb⟩
   refine ⟨_, rfl, ?_⟩
   have HO587 := aM (Kd.N_lower (Kd.N_mono (ok' := fun k_ => k_ ≠ gb570) (Kd.S_N (Kd.S_bound ho0)) (fun k_ hk_ => (Kd.freshB (g := gb570) (o := .cells #[.int .i64 a1_0, .int .i64 a1_1, .int .i64 a1_2, .int .i64 a1_3, .int .i64 a1_4, .int .i64 a1_5, .int .i64 a1_6, .slice A1_7 l1_7.length c1_7, .slice A1_8 l1_8.length c1_8] 56 (0, 0)) (bK BK570.out) k_ hk_.2.1))) (below_size bZ)); replace BK570 := aM (blk_below (g := gb570) (o := .cells #[.int .i64 a1_0, .int .i64 a1_1, .int .i64 a1_2, .int .i64 a1_3, .int .i64 a1_4, .int .i64 a1_5, .int .i64 a1_6, .slice A1_7 l1_7.length c1_7, .slice A1_8 l1_8.length c1_8] 56 (0, 0)) (bK BK570.out) hb); replace HB := aM (below_step bZ hb); (try clear hb); (try clear hb2); (try clear hk); (try clear hi); (try clear ho0); obtain ⟨Ao23, co23, eo23⟩ := Kd.N_slice HO587.out; (first | subst eo23 | (injection eo23 with f1_ f2_ f3_; have f4_ := f1_.symm; have f5_ := f3_.symm; clear f1_ f2_ f3_; subst f4_; subst f5_))
   refine hK.out _ _ (cx9 BK570.out) (fun hHeld => ?_)
   clear hK K
   refine nT 17 (h := ?_)
   refine one_ (i := 9) (N := some 18) (bA 24 4095) rfl rfl (one_of HT_.out (by kernel_rfl)) (by decide) (fun K hK => ?_)
   refine gA Try.func22 #[.slice Ao23 t585.length co23] (h := ?_)
   with_reducible refine (F22.calls k (fun k_ => k_ ≠ gb570) _ _ t585 t588 _ ?side1 A7.out).mono ?_
   (case side1 => exact Kd.N_V (HO587.out)); rintro e w24 ⟨v589, rfl, ho0, hb⟩
   refine ⟨_, rfl, ?_⟩
   replace HO587 := aM (Kd.N_elder' (kN HO587.out) (Kd.N_base ho0) hb); have HO590 := aM (Kd.N_lower (Kd.N_mono (ok' := fun k_ => k_ ≠ gb570) ho0 (fun k_ hk_ => Or.elim hk_ (fun hs_ => hs_) (fun hn_ => (Kd.freshB (g := gb570) (o := .cells #[.int .i64 a1_0, .int .i64 a1_1, .int .i64 a1_2, .int .i64 a1_3, .int .i64 a1_4, .int .i64 a1_5, .int .i64 a1_6, .slice A1_7 l1_7.length c1_7, .slice A1_8 l1_8.length c1_8] 56 (0, 0)) (bK BK570.out) k_ hn_)))) (below_size bZ)); replace BK570 := aM (blk_below (g := gb570) (o := .cells #[.int .i64 a1_0, .int .i64 a1_1, .int .i64 a1_2, .int .i64 a1_3, .int .i64 a1_4, .int .i64 a1_5, .int .i64 a1_6, .slice A1_7 l1_7.length c1_7, .slice A1_8 l1_8.length c1_8] 56 (0, 0)) (bK BK570.out) hb); replace HB := aM (below_step bZ hb); (try clear hb); (try clear hb2); (try clear hk); (try clear hi); (try clear ho0); obtain ⟨Ao25, co25, eo25⟩ := Kd.N_slice HO590.out; (first | subst eo25 | (injection eo25 with f1_ f2_ f3_; have f4_ := f1_.symm; have f5_ := f3_.symm; clear f1_ f2_ f3_; subst f4_; subst f5_))
   refine hK.out _ _ (cx9 BK570.out) (fun hHeld => ?_)
   clear hK K
   refine nT 18 (h := ?_)
   refine one_ (i := 12) (N := some 21) (bA 24 8191) rfl rfl (one_of HT_.out (by kernel_rfl)) (by decide) (fun K hK => ?_)
   refine gA Try.func52 #[.slice Ao25 t588.length co25, .slice A1_7 l1_7.length c1_7] (h := ?_)
   with_reducible refine (F52.calls k _ _ t588 _ _ l1_7 true _ ?side1 ?side2 ?side3 ?side4 A8.out).mono ?_
   (case side1 => with_reducible exact (Kd.N_reads' HO590.out).2.2); (case side2 => exact (Kd.N_reads' HO590.out).2.1); (case side3 => with_reducible exact (Kd.C_below HR1_7.out HB.out)); (case side4 => exact HC1_7.out); rintro e w26 ⟨rfl, hb⟩
   refine ⟨_, rfl, ?_⟩
   replace HO587 := aM (Kd.N_below (kN HO587.out) hb); replace HO590 := aM (Kd.N_below (kN HO590.out) hb); replace BK570 := aM (blk_below (g := gb570) (o := .cells #[.int .i64 a1_0, .int .i64 a1_1, .int .i64 a1_2, .int .i64 a1_3, .int .i64 a1_4, .int .i64 a1_5, .int .i64 a1_6, .slice A1_7 l1_7.length c1_7, .slice A1_8 l1_8.length c1_8] 56 (0, 0)) (bK BK570.out) hb); replace HB := aM (below_step bZ hb); (try clear hb); (try clear hb2); (try clear hk); (try clear hi)
   refine hK.out _ _ (cx9 BK570.out) (fun hHeld => ?_)
   clear hK K
   refine nT 21 (h := ?_)
   refine pT 24 13 22 16383 HT_ (h := ?_)
   refine pT 24 14 23 32767 HT_ (h := ?_)
   refine pT 24 15 24 65535 HT_ (h := ?_)
   refine pT 24 16 25 131071 HT_ (h := ?_)
   refine pT 24 19 28 655359 HT_ (h := ?_)
   refine tT 24 20 29 1703935 HT_ HW_ hHeld (h := ?_)
   refine one_ (i := 17) (N := some 26) (bA 24 1835007) rfl rfl (one_of HT_.out (by kernel_rfl)) (by decide) (fun K hK => ?_)
   refine gA Try.func17 #[asPtr (.slice A0 l0.length c0)] (h := ?_)
   with_reducible refine (F17.calls k _ _ l0 t592 _ ?side1 ?side2 A10.out).mono ?_
   (case side1 => with_reducible exact (Kd.C_below HR0.out HB.out)); (case side2 => exact HC0.out); rintro e w27 ⟨v593, rfl, ho0, hb⟩
   refine ⟨_, rfl, ?_⟩
   have HO594 := aM (Kd.N_lower (Kd.N_mono (ok' := fun k_ => some k_ ≠ (.slice Ao23 t585.length co23 : Value).ownBlock ∧ some k_ ≠ (.slice Ao25 t588.length co25 : Value).ownBlock ∧ k_ ≠ gb570) (Kd.S_N (Kd.S_bound ho0)) (fun k_ hk_ => ⟨(Kd.fresh' (Kd.N_lt (kN HO587.out)) k_ hk_.2.1), (Kd.fresh' (Kd.N_lt (kN HO590.out)) k_ hk_.2.1), (Kd.freshB (g := gb570) (o := .cells #[.int .i64 a1_0, .int .i64 a1_1, .int .i64 a1_2, .int .i64 a1_3, .int .i64 a1_4, .int .i64 a1_5, .int .i64 a1_6, .slice A1_7 l1_7.length c1_7, .slice A1_8 l1_8.length c1_8] 56 (0, 0)) (bK BK570.out) k_ hk_.2.1)⟩)) (below_size bZ)); replace HO587 := aM (Kd.N_elder' (kN HO587.out) (Kd.S_base ho0) hb); replace HO590 := aM (Kd.N_elder' (kN HO590.out) (Kd.S_base ho0) hb); replace BK570 := aM (blk_below (g := gb570) (o := .cells #[.int .i64 a1_0, .int .i64 a1_1, .int .i64 a1_2, .int .i64 a1_3, .int .i64 a1_4, .int .i64 a1_5, .int .i64 a1_6, .slice A1_7 l1_7.length c1_7, .slice A1_8 l1_8.length c1_8] 56 (0, 0)) (bK BK570.out) hb); replace HB := aM (below_step bZ hb); (try clear hb); (try clear hb2); (try clear hk); (try clear hi); (try clear ho0); obtain ⟨Ao28, co28, eo28⟩ := Kd.N_slice HO594.out; (first | subst eo28 | (injection eo28 with f1_ f2_ f3_; have f4_ := f1_.symm; have f5_ := f3_.symm; clear f1_ f2_ f3_; subst f4_; subst f5_))
   refine hK.out _ _ (cx9 BK570.out) (fun hHeld => ?_)
   clear hK K
   refine nT 26 (h := ?_)
   refine one_ (i := 18) (N := some 27) (bA 24 2097151) rfl rfl (one_of HT_.out (by kernel_rfl)) (by decide) (fun K hK => ?_)
   refine gA Try.func22 #[.slice Ao28 t592.length co28] (h := ?_)
   with_reducible refine (F22.calls k (fun k_ => (some k_ ≠ (.slice Ao23 t585.length co23 : Value).ownBlock ∧ (some k_ ≠ (.slice Ao25 t588.length co25 : Value).ownBlock ∧ k_ ≠ gb570))) _ _ t592 t595 _ ?side1 A11.out).mono ?_
   (case side1 => exact Kd.N_V (HO594.out)); rintro e w29 ⟨v596, rfl, ho0, hb⟩
   refine ⟨_, rfl, ?_⟩
   replace HO594 := aM (Kd.N_elder' (kN HO594.out) (Kd.N_base ho0) hb); have HO597 := aM (Kd.N_lower (Kd.N_mono (ok' := fun k_ => some k_ ≠ (.slice Ao23 t585.length co23 : Value).ownBlock ∧ some k_ ≠ (.slice Ao25 t588.length co25 : Value).ownBlock ∧ k_ ≠ gb570) ho0 (fun k_ hk_ => ⟨Or.elim hk_ (fun hs_ => hs_.1) (fun hn_ => (Kd.fresh' (Kd.N_lt (kN HO587.out)) k_ hn_)), Or.elim hk_ (fun hs_ => hs_.2.1) (fun hn_ => (Kd.fresh' (Kd.N_lt (kN HO590.out)) k_ hn_)), Or.elim hk_ (fun hs_ => hs_.2.2) (fun hn_ => (Kd.freshB (g := gb570) (o := .cells #[.int .i64 a1_0, .int .i64 a1_1, .int .i64 a1_2, .int .i64 a1_3, .int .i64 a1_4, .int .i64 a1_5, .int .i64 a1_6, .slice A1_7 l1_7.length c1_7, .slice A1_8 l1_8.length c1_8] 56 (0, 0)) (bK BK570.out) k_ hn_))⟩)) (below_size bZ)); replace HO587 := aM (Kd.N_elder' (kN HO587.out) (Kd.N_base ho0) hb); replace HO590 := aM (Kd.N_elder' (kN HO590.out) (Kd.N_base ho0) hb); replace BK570 := aM (blk_below (g := gb570) (o := .cells #[.int .i64 a1_0, .int .i64 a1_1, .int .i64 a1_2, .int .i64 a1_3, .int .i64 a1_4, .int .i64 a1_5, .int .i64 a1_6, .slice A1_7 l1_7.length c1_7, .slice A1_8 l1_8.length c1_8] 56 (0, 0)) (bK BK570.out) hb); replace HB := aM (below_step bZ hb); (try clear hb); (try clear hb2); (try clear hk); (try clear hi); (try clear ho0); obtain ⟨Ao30, co30, eo30⟩ := Kd.N_slice HO597.out; (first | subst eo30 | (injection eo30 with f1_ f2_ f3_; have f4_ := f1_.symm; have f5_ := f3_.symm; clear f1_ f2_ f3_; subst f4_; subst f5_))
   refine hK.out _ _ (cx9 BK570.out) (fun hHeld => ?_)
   clear hK K
   refine nT 27 (h := ?_)
   refine one_ (i := 21) (N := some 30) (bA 24 4194303) rfl rfl (one_of HT_.out (by kernel_rfl)) (by decide) (fun K hK => ?_)
   refine gA Try.func52 #[.slice Ao30 t595.length co30, .slice A1_8 l1_8.length c1_8] (h := ?_)
   with_reducible refine (F52.calls k _ _ t595 _ _ l1_8 true _ ?side1 ?side2 ?side3 ?side4 A12.out).mono ?_
   (case side1 => with_reducible exact (Kd.N_reads' HO597.out).2.2); (case side2 => exact (Kd.N_reads' HO597.out).2.1); (case side3 => with_reducible exact (Kd.C_below HR1_8.out HB.out)); (case side4 => exact HC1_8.out); rintro e w31 ⟨rfl, hb⟩
   refine ⟨_, rfl, ?_⟩
   replace HO587 := aM (Kd.N_below (kN HO587.out) hb); replace HO590 := aM (Kd.N_below (kN HO590.out) hb); replace HO594 := aM (Kd.N_below (kN HO594.out) hb); replace HO597 := aM (Kd.N_below (kN HO597.out) hb); replace BK570 := aM (blk_below (g := gb570) (o := .cells #[.int .i64 a1_0, .int .i64 a1_1, .int .i64 a1_2, .int .i64 a1_3, .int .i64 a1_4, .int .i64 a1_5, .int .i64 a1_6, .slice A1_7 l1_7.length c1_7, .slice A1_8 l1_8.length c1_8] 56 (0, 0)) (bK BK570.out) hb); replace HB := aM (below_step bZ hb); (try clear hb); (try clear hb2); (try clear hk); (try clear hi)
   refine hK.out _ _ (cx9 BK570.out) (fun hHeld => ?_)
   clear hK K
   refine nT 30 (h := ?_)
   refine pT 24 22 31 8388607 HT_ (h := ?_)
   refine pT 24 23 32 16777215 HT_ (h := ?_)
   refine done_ (done_of HT_.out (by kernel_rfl)) ?_
   try go_wp2_with (first | ((with_reducible refine gate_callee (f := 29) rfl ?_); refine gL 34 Try.func29 #[asPtr (.slice A0 l0.length c0)] (h := ?_); (with_reducible refine (F29.calls k _ _ l0 t599 _ ?side1 ?side2 A14.out).mono ?_); (case side1 => with_reducible exact (Kd.C_below HR0.out HB.out)); (case side2 => exact HC0.out); rintro e w32 ⟨v600, rfl, ho0, hb⟩; refine ⟨_, rfl, ?_⟩; have HO601 := aM (Kd.N_lower (Kd.N_mono (ok' := fun k_ => some k_ ≠ (.slice Ao23 t585.length co23 : Value).ownBlock ∧ some k_ ≠ (.slice Ao25 t588.length co25 : Value).ownBlock ∧ some k_ ≠ (.slice Ao28 t592.length co28 : Value).ownBlock ∧ some k_ ≠ (.slice Ao30 t595.length co30 : Value).ownBlock ∧ k_ ≠ gb570) (Kd.S_N (Kd.S_bound ho0)) (fun k_ hk_ => ⟨(Kd.fresh' (Kd.N_lt HO587.out) k_ hk_.2.1), (Kd.fresh' (Kd.N_lt HO590.out) k_ hk_.2.1), (Kd.fresh' (Kd.N_lt HO594.out) k_ hk_.2.1), (Kd.fresh' (Kd.N_lt HO597.out) k_ hk_.2.1), (Kd.freshB (g := gb570) (o := .cells #[.int .i64 a1_0, .int .i64 a1_1, .int .i64 a1_2, .int .i64 a1_3, .int .i64 a1_4, .int .i64 a1_5, .int .i64 a1_6, .slice A1_7 l1_7.length c1_7, .slice A1_8 l1_8.length c1_8] 56 (0, 0)) BK570.out k_ hk_.2.1)⟩)) (bsz HB)); replace HO587 := aM (Kd.N_elder' HO587.out (Kd.S_base ho0) hb); replace HO590 := aM (Kd.N_elder' HO590.out (Kd.S_base ho0) hb); replace HO594 := aM (Kd.N_elder' HO594.out (Kd.S_base ho0) hb); replace HO597 := aM (Kd.N_elder' HO597.out (Kd.S_base ho0) hb); replace BK570 := kst BK570 hb; replace HB := bst HB hb; clear hb ho0) | ((with_reducible refine gate_callee (f := 30) rfl ?_); refine gL 36 Try.func30 #[asPtr (.slice A0 l0.length c0)] (h := ?_); (with_reducible refine (F30.calls k _ _ l0 t602 _ ?side1 ?side2 A15.out).mono ?_); (case side1 => with_reducible exact (Kd.C_below HR0.out HB.out)); (case side2 => exact HC0.out); rintro e w33 ⟨v603, rfl, ho0, hb⟩; refine ⟨_, rfl, ?_⟩; have HO604 := aM (Kd.N_lower (Kd.N_mono (ok' := fun k_ => some k_ ≠ (.slice Ao23 t585.length co23 : Value).ownBlock ∧ some k_ ≠ (.slice Ao25 t588.length co25 : Value).ownBlock ∧ some k_ ≠ (.slice Ao28 t592.length co28 : Value).ownBlock ∧ some k_ ≠ (.slice Ao30 t595.length co30 : Value).ownBlock ∧ some k_ ≠ (v600 : Value).ownBlock ∧ k_ ≠ gb570) (Kd.S_N (Kd.S_bound ho0)) (fun k_ hk_ => ⟨(Kd.fresh' (Kd.N_lt HO587.out) k_ hk_.2.1), (Kd.fresh' (Kd.N_lt HO590.out) k_ hk_.2.1), (Kd.fresh' (Kd.N_lt HO594.out) k_ hk_.2.1), (Kd.fresh' (Kd.N_lt HO597.out) k_ hk_.2.1), (Kd.fresh' (Kd.N_lt HO601.out) k_ hk_.2.1), (Kd.freshB (g := gb570) (o := .cells #[.int .i64 a1_0, .int .i64 a1_1, .int .i64 a1_2, .int .i64 a1_3, .int .i64 a1_4, .int .i64 a1_5, .int .i64 a1_6, .slice A1_7 l1_7.length c1_7, .slice A1_8 l1_8.length c1_8] 56 (0, 0)) BK570.out k_ hk_.2.1)⟩)) (bsz HB)); replace HO587 := aM (Kd.N_elder' HO587.out (Kd.S_base ho0) hb); replace HO590 := aM (Kd.N_elder' HO590.out (Kd.S_base ho0) hb); replace HO594 := aM (Kd.N_elder' HO594.out (Kd.S_base ho0) hb); replace HO597 := aM (Kd.N_elder' HO597.out (Kd.S_base ho0) hb); replace HO601 := aM (Kd.N_elder' HO601.out (Kd.S_base ho0) hb); replace BK570 := kst BK570 hb; replace HB := bst HB hb; clear hb ho0; obtain ⟨Ao34, co34, eo34⟩ := Kd.N_slice HO601.out; subst eo34; have hz35 := bx9 BK570.out; obtain ⟨Ao36, co36, eo36⟩ := Kd.N_slice HO604.out; subst eo36))
   go_loopg [53] k (fun kq v53 w' => ∃ (x53_1 : Int), v53 = .int .i64 x53_1 ∧ Aside0 (F25.l0 kq l0 t599 t602 (t599.length : Int) x53_1 a1_0 a1_1 a1_2 a1_3 a1_4 a1_5 a1_6 l1_7 l1_8 = some r) ∧ Aside0 (kq ≤ k) ∧ Aside0 (Kd.N (Kd.slice 21 (Kd.int .i32)) 43 w' w.heap.size (fun k_ => some k_ ≠ ((.slice Ao36 t602.length co36) : Value).ownBlock ∧ k_ ≠ gb570) (.slice Ao34 t599.length co34) t599) ∧ Aside0 (Kd.N (Kd.slice 21 (Kd.int .i32)) 43 w' w.heap.size (fun k_ => some k_ ≠ ((.slice Ao34 t599.length co34) : Value).ownBlock ∧ k_ ≠ gb570) (.slice Ao36 t602.length co36) t602) ∧ Aside0 (w'.heap[gb570]? = some (.cells #[.int .i64 a1_0, .int .i64 a1_1, .int .i64 a1_2, .int .i64 a1_3, .int .i64 a1_4, .int .i64 a1_5, .int .i64 a1_6, (.slice A1_7 l1_7.length c1_7), (.slice A1_8 l1_8.length c1_8)] 56 (0, 0))) ∧ Aside0 (Below w.heap.size w w'))
   case atStart => exact ⟨(0), rfl, H', ⟨Nat.le_refl _⟩, ⟨by exact Kd.N_mono HO601.out (fun _ hk => ⟨hk.2, hk.1.2.2.2.2⟩)⟩, ⟨by exact Kd.N_mono HO604.out (fun _ hk => ⟨hk.2.2.2.2.1, hk.2.2.2.2.2⟩)⟩, BK570, HB⟩
   case round =>
    clear H'; (try clear c1); (try clear c2); (try clear p2); (try clear c3); (try clear c5); (try clear c5b0); (try clear c9); (try clear c10); (try clear c13); (try clear c16); (try clear c16b0); (try clear c16b1); (try clear c17); (try clear c17b0); (try clear c17b1); (try clear c22); (try clear c25); (try clear c29); (try clear c30); (try clear c32); (try clear hz35); obtain ⟨x53_1, rfl, HA, HK1, HO_5, HO_6, BK570, HB⟩ := hrel
    cases gk with
    | zero => exact absurd HA.out (by simp [F25.l0])
    | succ k1 =>
     have H := HA.out; clear HA; simp only [F25.l0] at H
     by_cases c37 : x53_1 < (t599.length : Int)
     ·
      rw [if_pos c37] at H; have c37b0 : decide (x53_1 < (t599.length : Int)) = true := dT c37; clear c37; obtain ⟨c38, H⟩ := ifp H; have c38b0 : decide (0 ≤ x53_1) = true := dT c38; clear c38; obtain ⟨c39, H⟩ := ifp H; have c39b0 : decide (x53_1 < (t599.length : Int)) = true := dT c39; clear c39; obtain ⟨t610, A40, H⟩ := bnd H; obtain ⟨t613, A41, H⟩ := bnd H
      by_cases c42 : t613 = true
      ·
       subst c42; rw [if_pos rfl] at H; obtain ⟨c43, H⟩ := ifp H; have c43b0 : decide (x53_1 < (t602.length : Int)) = true := dT c43; clear c43; obtain ⟨t615, A44, H⟩ := bnd H; obtain ⟨t618, A45, H⟩ := bnd H
       by_cases c46 : t618 = true
       ·
        subst c46; rw [if_pos rfl] at H; have H' := aM H; clear H
        try go_wp2
        replace HO_5 := aM (Kd.N_drew HO_5.out); replace HO_6 := aM (Kd.N_drew HO_6.out); replace BK570 := aM (blk_drew BK570.out); replace HB := aM (below_drew1 HB.out); have p609 : 0 ≤ (x53_1 : Int) := oD; have q609 : x53_1 < (t599.length : Int) := oD; obtain ⟨ad609, A609_0, c609_0, e609, hx609_0, hl609_0, hi609_0⟩ := at_L13 (Kd.N_reads' HO_5.out).2.2 x53_1 p609 q609
        cases e609
        obtain ⟨ce609, hce609, hMe609, hcc609⟩ := Kd.N_get HO_5.out [] x53_1 p609 (by first | exact q609 | exact oD | (have e_ := (Kd.N_reads' HO_5.out).1; omega)); obtain ⟨ua609_0, uc609_0, rfl, ul609_0, ge609_0⟩ := Kd.FK_slice_open hMe609; have hv609_0 := hcc609 0 _ rfl; rw [Nat.add_zero, show ((Kd.slice 21 (Kd.int .i32))).sz = 1 from rfl, Nat.mul_one] at hv609_0; replace hv609_0 := oI (hv609_0.symm.trans hx609_0); injection hv609_0 with hva_ hvn_ hvc_; rw [hva_] at ge609_0; rw [hvc_] at ul609_0; have HL609_0 := aM (show Kd.V (Kd.int .i32) 21 _ w.heap.size _ _ (rd_L13 t599 x53_1) from Kd.V_mk ul609_0 ge609_0); clear hva_ hvn_ hvc_ ge609_0 ul609_0; clear hcc609 hce609; have HR609_0 := aM hi609_0; have HC609_0 := aM hl609_0; clear hi609_0 hl609_0; replace p609 := eq_true p609; replace q609 := eq_true q609; have p614 : 0 ≤ (x53_1 : Int) := oD; have q614 : x53_1 < (t602.length : Int) := oD; obtain ⟨ad614, A614_0, c614_0, e614, hx614_0, hl614_0, hi614_0⟩ := at_L13 (Kd.N_reads' HO_6.out).2.2 x53_1 p614 q614
        cases e614
        obtain ⟨ce614, hce614, hMe614, hcc614⟩ := Kd.N_get HO_6.out [] x53_1 p614 (by first | exact q614 | exact oD | (have e_ := (Kd.N_reads' HO_6.out).1; omega)); obtain ⟨ua614_0, uc614_0, rfl, ul614_0, ge614_0⟩ := Kd.FK_slice_open hMe614; have hv614_0 := hcc614 0 _ rfl; rw [Nat.add_zero, show ((Kd.slice 21 (Kd.int .i32))).sz = 1 from rfl, Nat.mul_one] at hv614_0; replace hv614_0 := oI (hv614_0.symm.trans hx614_0); injection hv614_0 with hva_ hvn_ hvc_; rw [hva_] at ge614_0; rw [hvc_] at ul614_0; have HL614_0 := aM (show Kd.V (Kd.int .i32) 21 _ w.heap.size _ _ (rd_L13 t602 x53_1) from Kd.V_mk ul614_0 ge614_0); clear hva_ hvn_ hvc_ ge614_0 ul614_0; clear hcc614 hce614; have HR614_0 := aM hi614_0; have HC614_0 := aM hl614_0; clear hi614_0 hl614_0; replace p614 := eq_true p614; replace q614 := eq_true q614
        refine start_ (n := 20) (S := fun w' => w'.cell? ⟨gb570, 0, none⟩ = some (.int .i64 a1_0) ∧ w'.cell? ⟨gb570, 1, none⟩ = some (.int .i64 a1_1) ∧ w'.cell? ⟨gb570, 2, none⟩ = some (.int .i64 a1_2) ∧ w'.cell? ⟨gb570, 3, none⟩ = some (.int .i64 a1_3) ∧ w'.cell? ⟨gb570, 4, none⟩ = some (.int .i64 a1_4) ∧ w'.cell? ⟨gb570, 5, none⟩ = some (.int .i64 a1_5) ∧ w'.cell? ⟨gb570, 6, none⟩ = some (.int .i64 a1_6) ∧ w'.cell? ⟨gb570, 7, none⟩ = some (.slice A1_7 l1_7.length c1_7) ∧ w'.cell? ⟨gb570, 8, none⟩ = some (.slice A1_8 l1_8.length c1_8) ∧ w'.cell? (ad609.add (x53_1).toNat) = some (.slice A609_0 (rd_L13 t599 x53_1).length c609_0) ∧ w'.cell? (ad614.add (x53_1).toNat) = some (.slice A614_0 (rd_L13 t602 x53_1).length c614_0)) (ds := []) (bA 20 0) (by kernel_rfl) rfl (by kernel_rfl) ⟨cL BK570 0, cL BK570 1, cL BK570 2, cL BK570 3, cL BK570 4, cL BK570 5, cL BK570 6, cL BK570 7, cL BK570 8, hx609_0, hx614_0⟩ (fun hHeld => ?_); refine with_tabW F25.tab9 F25.bits9 (fun HT_ HW_ => ?_)
        generalize wr.drew = w47 at HO_5 HO_6 BK570 HB HL609_0 HL614_0 HR609_0 HR614_0 hx609_0 hx614_0 hHeld ⊢
        refine pT 20 0 56 1 HT_ (h := ?_)
        refine pT 20 1 57 3 HT_ (h := ?_)
        refine pT 20 2 58 7 HT_ (h := ?_)
        refine pT 20 5 61 39 HT_ (h := ?_)
        refine tT 20 3 59 47 HT_ HW_ hHeld (h := ?_)
        refine tT 20 4 60 63 HT_ HW_ hHeld (h := ?_)
        refine one_ (i := 6) (N := some 62) (bA 20 127) rfl rfl (one_of HT_.out (by kernel_rfl)) (by decide) (fun K hK => ?_)
        refine gA Try.func54 #[.agg #[.int .i64 a1_0, .int .i64 a1_1, .int .i64 a1_2, .int .i64 a1_3, .int .i64 a1_4, .int .i64 a1_5, .int .i64 a1_6, .slice A1_7 l1_7.length c1_7, .slice A1_8 l1_8.length c1_8], .int .i64 x53_1] (h := ?_)
        with_reducible refine (F54.calls k1 a1_0 a1_1 a1_2 a1_3 a1_4 a1_5 a1_6 _ _ l1_7 _ _ l1_8 x53_1 t610 _ ?side1 ?side2 ?side3 ?side4 A40.out).mono ?_
        (case side1 => with_reducible exact (Kd.C_below HR1_7.out HB.out)); (case side2 => exact HC1_7.out); (case side3 => with_reducible exact (Kd.C_below HR1_8.out HB.out)); (case side4 => exact HC1_8.out); rintro e w48 ⟨v611, rfl, ho0, hb⟩; have HS9_ := (hb.cell (World.block_lt_of_cell? _ _ (hHeld.2.2.2.2.2.2.2.2.2.1))).trans (hHeld.2.2.2.2.2.2.2.2.2.1); have HS10_ := (hb.cell (World.block_lt_of_cell? _ _ (hHeld.2.2.2.2.2.2.2.2.2.2))).trans (hHeld.2.2.2.2.2.2.2.2.2.2)
        refine ⟨_, rfl, ?_⟩
        replace HL614_0 := aM (Kd.V_elder' HL614_0.out (Kd.R_base ho0) hb); replace HR614_0 := aM (Kd.C_below HR614_0.out hb); replace HO_5 := aM (Kd.N_elder' (kN HO_5.out) (Kd.R_base ho0) hb); replace HO_6 := aM (Kd.N_elder' (kN HO_6.out) (Kd.R_base ho0) hb); replace HL609_0 := aM (Kd.V_elder' (kV HL609_0.out) (Kd.R_base ho0) hb); have HO612 := aM (Kd.R_lower ho0 (below_size bZ)); replace BK570 := aM (blk_below (g := gb570) (o := .cells #[.int .i64 a1_0, .int .i64 a1_1, .int .i64 a1_2, .int .i64 a1_3, .int .i64 a1_4, .int .i64 a1_5, .int .i64 a1_6, .slice A1_7 l1_7.length c1_7, .slice A1_8 l1_8.length c1_8] 56 (0, 0)) (bK BK570.out) hb); replace HR609_0 := aM (Kd.C_below (kC HR609_0.out) hb); replace HB := aM (below_step bZ hb); (try clear hb); (try clear hb2); (try clear hk); (try clear hi); (try clear ho0); obtain ⟨Ao49, co49, eo49⟩ := Kd.R_slice HO612.out; (first | subst eo49 | (injection eo49 with f1_ f2_ f3_; have f4_ := f1_.symm; have f5_ := f3_.symm; clear f1_ f2_ f3_; subst f4_; subst f5_))
        refine hK.out _ _ ⟨cL BK570 0, cL BK570 1, cL BK570 2, cL BK570 3, cL BK570 4, cL BK570 5, cL BK570 6, cL BK570 7, cL BK570 8, HS9_, HS10_⟩ (fun hHeld => ?_)
        clear hK K
        refine nT 62 (h := ?_)
        refine one_ (i := 7) (N := some 63) (bA 20 255) rfl rfl (one_of HT_.out (by kernel_rfl)) (by decide) (fun K hK => ?_)
        refine gA Try.func53 #[.slice A609_0 (rd_L13 t599 x53_1).length c609_0, .slice Ao49 t610.length co49] (h := ?_)
        with_reducible refine (F53.calls k1 _ _ (rd_L13 t599 x53_1) _ _ t610 true _ ?side1 ?side2 ?side3 ?side4 A41.out).mono ?_
        (case side1 => with_reducible exact (kC HR609_0.out)); (case side2 => exact HC609_0.out); (case side3 => with_reducible exact (Kd.R_reads' HO612.out).2.2); (case side4 => exact (Kd.R_reads' HO612.out).2.1); rintro e w' ⟨rfl, ⟨nd, rfl⟩⟩
        refine ⟨_, rfl, ?_⟩
        refine hK.out _ _ ⟨cL BK570 0, cL BK570 1, cL BK570 2, cL BK570 3, cL BK570 4, cL BK570 5, cL BK570 6, cL BK570 7, cL BK570 8, hHeld.2.2.2.2.2.2.2.2.2.1, hHeld.2.2.2.2.2.2.2.2.2.2⟩ (fun hHeld => ?_)
        clear hK K
        refine nT 63 (h := ?_)
        refine pT 20 8 64 511 HT_ (h := ?_)
        refine pT 20 9 65 1023 HT_ (h := ?_)
        refine pT 20 10 66 2047 HT_ (h := ?_)
        refine pT 20 11 67 4095 HT_ (h := ?_)
        refine pT 20 12 68 8191 HT_ (h := ?_)
        refine pT 20 15 71 40959 HT_ (h := ?_)
        refine tT 20 13 69 49151 HT_ HW_ hHeld (h := ?_)
        refine tT 20 14 70 65535 HT_ HW_ hHeld (h := ?_)
        refine one_ (i := 16) (N := some 72) (bA 20 131071) rfl rfl (one_of HT_.out (by kernel_rfl)) (by decide) (fun K hK => ?_)
        refine gA Try.func55 #[.agg #[.int .i64 a1_0, .int .i64 a1_1, .int .i64 a1_2, .int .i64 a1_3, .int .i64 a1_4, .int .i64 a1_5, .int .i64 a1_6, .slice A1_7 l1_7.length c1_7, .slice A1_8 l1_8.length c1_8], .int .i64 x53_1] (h := ?_)
        with_reducible refine (F55.calls k1 a1_0 a1_1 a1_2 a1_3 a1_4 a1_5 a1_6 _ _ l1_7 _ _ l1_8 x53_1 t615 _ ?side1 ?side2 ?side3 ?side4 A44.out).mono ?_
        (case side1 => repeat (first | exact (Kd.C_below HR1_7.out bZ) | (with_reducible refine Kd.C_alloc ?_ _) | (with_reducible refine Kd.C_drewN ?_ _) | (with_reducible refine Kd.C_drew ?_))); (case side2 => exact HC1_7.out); (case side3 => repeat (first | exact (Kd.C_below HR1_8.out bZ) | (with_reducible refine Kd.C_alloc ?_ _) | (with_reducible refine Kd.C_drewN ?_ _) | (with_reducible refine Kd.C_drew ?_))); (case side4 => exact HC1_8.out); rintro e w50 ⟨v616, rfl, ho0, hb⟩; have HS9_ := (hb.cell (World.block_lt_of_cell? _ _ (hHeld.2.2.2.2.2.2.2.2.2.1))).trans (hHeld.2.2.2.2.2.2.2.2.2.1); have HS10_ := (hb.cell (World.block_lt_of_cell? _ _ (hHeld.2.2.2.2.2.2.2.2.2.2))).trans (hHeld.2.2.2.2.2.2.2.2.2.2)
        refine ⟨_, rfl, ?_⟩
        replace HO_5 := aM (Kd.N_elder' (kN HO_5.out) (Kd.R_base ho0) hb); replace HO_6 := aM (Kd.N_elder' (kN HO_6.out) (Kd.R_base ho0) hb); replace HL609_0 := aM (Kd.V_elder' (kV HL609_0.out) (Kd.R_base ho0) hb); replace HL614_0 := aM (Kd.V_elder' (kV HL614_0.out) (Kd.R_base ho0) hb); have HO617 := aM (Kd.R_lower (Kd.R_new' ho0 (Kd.R_lt (kR HO612.out))) (below_size bZ)); replace HO612 := aM (Kd.R_elder' (kR HO612.out) (Kd.R_base ho0) hb); replace BK570 := aM (blk_below (g := gb570) (o := .cells #[.int .i64 a1_0, .int .i64 a1_1, .int .i64 a1_2, .int .i64 a1_3, .int .i64 a1_4, .int .i64 a1_5, .int .i64 a1_6, .slice A1_7 l1_7.length c1_7, .slice A1_8 l1_8.length c1_8] 56 (0, 0)) (bK BK570.out) hb); replace HR609_0 := aM (Kd.C_below (kC HR609_0.out) hb); replace HR614_0 := aM (Kd.C_below (kC HR614_0.out) hb); replace HB := aM (below_step bZ hb); (try clear hb); (try clear hb2); (try clear hk); (try clear hi); (try clear ho0); obtain ⟨Ao51, co51, eo51⟩ := Kd.R_slice HO617.out; (first | subst eo51 | (injection eo51 with f1_ f2_ f3_; have f4_ := f1_.symm; have f5_ := f3_.symm; clear f1_ f2_ f3_; subst f4_; subst f5_))
        refine hK.out _ _ ⟨cL BK570 0, cL BK570 1, cL BK570 2, cL BK570 3, cL BK570 4, cL BK570 5, cL BK570 6, cL BK570 7, cL BK570 8, HS9_, HS10_⟩ (fun hHeld => ?_)
        clear hK K
        refine nT 72 (h := ?_)
        refine one_ (i := 17) (N := some 73) (bA 20 262143) rfl rfl (one_of HT_.out (by kernel_rfl)) (by decide) (fun K hK => ?_)
        refine gA Try.func53 #[.slice A614_0 (rd_L13 t602 x53_1).length c614_0, .slice Ao51 t615.length co51] (h := ?_)
        with_reducible refine (F53.calls k1 _ _ (rd_L13 t602 x53_1) _ _ t615 true _ ?side1 ?side2 ?side3 ?side4 A45.out).mono ?_
        (case side1 => with_reducible exact (kC HR614_0.out)); (case side2 => exact HC614_0.out); (case side3 => with_reducible exact (Kd.R_reads' HO617.out).2.2); (case side4 => exact (Kd.R_reads' HO617.out).2.1); rintro e w' ⟨rfl, ⟨nd, rfl⟩⟩
        refine ⟨_, rfl, ?_⟩
        refine hK.out _ _ ⟨cL BK570 0, cL BK570 1, cL BK570 2, cL BK570 3, cL BK570 4, cL BK570 5, cL BK570 6, cL BK570 7, cL BK570 8, hHeld.2.2.2.2.2.2.2.2.2.1, hHeld.2.2.2.2.2.2.2.2.2.2⟩ (fun hHeld => ?_)
        clear hK K
        refine nT 73 (h := ?_)
        refine pT 20 18 74 524287 HT_ (h := ?_)
        refine pT 20 19 75 1048575 HT_ (h := ?_)
        refine done_ (done_of HT_.out (by kernel_rfl)) ?_
        have p619 : 0 ≤ (x53_1 : Int) := oD; have q619 : x53_1 < (t599.length : Int) := oD; obtain ⟨ad619, A619_0, c619_0, e619, hx619_0, hl619_0, hi619_0⟩ := at_L13 (Kd.N_reads' HO_5.out).2.2 x53_1 p619 q619; obtain rfl : ad609 = ad619 := (by injection e619); obtain ⟨ce619, hce619, hMe619, hcc619⟩ := Kd.N_get HO_5.out [] x53_1 p619 (by first | exact q619 | exact oD | (have e_ := (Kd.N_reads' HO_5.out).1; omega)); obtain ⟨ua619_0, uc619_0, rfl, ul619_0, ge619_0⟩ := Kd.FK_slice_open hMe619; have hv619_0 := hcc619 0 _ rfl; rw [Nat.add_zero, show ((Kd.slice 21 (Kd.int .i32))).sz = 1 from rfl, Nat.mul_one] at hv619_0; replace hv619_0 := oI (hv619_0.symm.trans hx619_0); injection hv619_0 with hva_ hvn_ hvc_; rw [hva_] at ge619_0; rw [hvc_] at ul619_0; have HL619_0 := aM (show Kd.V (Kd.int .i32) 21 _ w.heap.size _ _ (rd_L13 t599 x53_1) from Kd.V_mk ul619_0 ge619_0); clear hva_ hvn_ hvc_ ge619_0 ul619_0; clear hcc619 hce619; have HR619_0 := aM hi619_0; have HC619_0 := aM hl619_0; clear hi619_0 hl619_0; replace p619 := eq_true p619; replace q619 := eq_true q619
        try go_wp2
        go_loopg [81] k1 (fun kq v81 w' => ∃ (x81_2 : Int), v81 = .int .i64 x81_2 ∧ Aside0 (F25.l1 kq l0 t599 t602 x53_1 (t599.length : Int) x53_1 ((rd_L13 t599 x53_1).length : Int) x81_2 a1_0 a1_1 a1_2 a1_3 a1_4 a1_5 a1_6 l1_7 l1_8 = some r) ∧ Aside0 (kq ≤ k1) ∧ Aside0 (Kd.N (Kd.slice 21 (Kd.int .i32)) 43 w' w.heap.size (fun k_ => some k_ ≠ ((.slice (some ad614) t602.length co36) : Value).ownBlock ∧ k_ ≠ gb570) (.slice (some ad609) t599.length co34) t599) ∧ Aside0 (Kd.N (Kd.slice 21 (Kd.int .i32)) 43 w' w.heap.size (fun k_ => some k_ ≠ ((.slice (some ad609) t599.length co34) : Value).ownBlock ∧ k_ ≠ gb570) (.slice (some ad614) t602.length co36) t602) ∧ Aside0 (w'.heap[gb570]? = some (.cells #[.int .i64 a1_0, .int .i64 a1_1, .int .i64 a1_2, .int .i64 a1_3, .int .i64 a1_4, .int .i64 a1_5, .int .i64 a1_6, (.slice A1_7 l1_7.length c1_7), (.slice A1_8 l1_8.length c1_8)] 56 (0, 0))) ∧ Aside0 (Kd.C (Kd.int .i32) w' A609_0 (rd_L13 t599 x53_1).length (rd_L13 t599 x53_1)) ∧ Aside0 (Kd.C (Kd.int .i32) w' A614_0 (rd_L13 t602 x53_1).length (rd_L13 t602 x53_1)) ∧ Aside0 (Kd.C (Kd.int .i32) w' A619_0 (rd_L13 t599 x53_1).length (rd_L13 t599 x53_1)) ∧ Aside0 (Below w.heap.size w w'))
        case atStart => exact ⟨(0), rfl, H', ⟨Nat.le_refl _⟩, ⟨by (with_reducible repeat (first | apply Kd.N_alloc | apply Kd.N_drewN | apply Kd.N_drew)); exact Kd.N_mono HO_5.out (fun _ hk => ⟨hk.1.1.1, hk.1.1.2⟩)⟩, ⟨by (with_reducible repeat (first | apply Kd.N_alloc | apply Kd.N_drewN | apply Kd.N_drew)); exact Kd.N_mono HO_6.out (fun _ hk => ⟨hk.1.1.1, hk.1.1.2⟩)⟩, ⟨bK BK570.out⟩, ⟨kC HR609_0.out⟩, ⟨kC HR614_0.out⟩, ⟨kC HR619_0.out⟩, ⟨bZ⟩⟩
        case round =>
         clear H'; (try clear c1); (try clear c2); (try clear p2); (try clear c3); (try clear c4); (try clear c5); (try clear c5b0); (try clear c6); (try clear p6); (try clear q6); (try clear hx6); (try clear c9); (try clear c10); (try clear c13); (try clear c16); (try clear c16b0); (try clear c16b1); (try clear c17); (try clear c17b0); (try clear c17b1); (try clear c22); (try clear c25); (try clear c29); (try clear c30); (try clear c32); (try clear c37); (try clear c37b0); (try clear c38); (try clear c38b0); (try clear c39); (try clear c39b0); (try clear c42); (try clear c43); (try clear c43b0); (try clear c46); (try clear hz35); (try clear hx609_0); (try clear hx614_0); (try clear hx619_0); (try clear p2); (try clear p609); (try clear p614); (try clear p619); (try clear q609); (try clear q614); (try clear q619); obtain ⟨x81_2, rfl, HA, HK2, HO_5, HO_6, BK570, HR609_0, HR614_0, HR619_0, HB⟩ := hrel
         cases gk with
         | zero => exact absurd HA.out (by simp [F25.l1])
         | succ k2 =>
          have H := HA.out; clear HA; simp only [F25.l1] at H
          by_cases c52 : x81_2 < ((rd_L13 t599 x53_1).length : Int)
          ·
           rw [if_pos c52] at H; have c52b0 : decide (x81_2 < ((rd_L13 t599 x53_1).length : Int)) = true := dT c52; clear c52; obtain ⟨t620, A53, H⟩ := bnd H; obtain ⟨c54, H⟩ := ifp H; have c54b0 : decide (0 ≤ x53_1) = true := dT c54; clear c54; obtain ⟨c55, H⟩ := ifp H; have c55b0 : decide (x53_1 < (t599.length : Int)) = true := dT c55; clear c55; obtain ⟨c56, H⟩ := ifp H; have c56b0 : decide (0 ≤ x81_2) = true := dT c56; clear c56; obtain ⟨c57, H⟩ := ifp H; have c57b0 : decide (x81_2 < ((rd_L13 t599 x53_1).length : Int)) = true := dT c57; clear c57; obtain ⟨c58, H⟩ := ifp H; have c58b0 : (t620 == (rd (rd_L13 t599 x53_1) x81_2)) = true := beq_iff_eq.mpr c58; have c58b1 : (t620 != (rd (rd_L13 t599 x53_1) x81_2)) = false := bne_eq_false_iff_eq.mpr c58; clear c58; obtain ⟨t623, A59, H⟩ := bnd H; obtain ⟨c60, H⟩ := ifp H; have c60b0 : decide (x53_1 < (t602.length : Int)) = true := dT c60; clear c60; obtain ⟨c61, H⟩ := ifp H; have c61b0 : decide (x81_2 < ((rd_L13 t602 x53_1).length : Int)) = true := dT c61; clear c61; obtain ⟨c62, H⟩ := ifp H; have c62b0 : (t623 == (rd (rd_L13 t602 x53_1) x81_2)) = true := beq_iff_eq.mpr c62; have c62b1 : (t623 != (rd (rd_L13 t602 x53_1) x81_2)) = false := bne_eq_false_iff_eq.mpr c62; clear c62; have H' := aM H; clear H
           try go_wp2
           replace HO_5 := aM (Kd.N_drew HO_5.out); replace HO_6 := aM (Kd.N_drew HO_6.out); replace BK570 := aM (blk_drew BK570.out); replace HR609_0 := aM (Kd.C_drew HR609_0.out); replace HR614_0 := aM (Kd.C_drew HR614_0.out); replace HR619_0 := aM (Kd.C_drew HR619_0.out); replace HB := aM (below_drew1 HB.out); have p621 : 0 ≤ (x53_1 : Int) := oD; have q621 : x53_1 < (t599.length : Int) := oD; obtain ⟨ad621, A621_0, c621_0, e621, hx621_0, hl621_0, hi621_0⟩ := at_L13 (Kd.N_reads' HO_5.out).2.2 x53_1 p621 q621; obtain rfl : ad609 = ad621 := (by injection e621); obtain ⟨ce621, hce621, hMe621, hcc621⟩ := Kd.N_get HO_5.out [] x53_1 p621 (by first | exact q621 | exact oD | (have e_ := (Kd.N_reads' HO_5.out).1; omega)); obtain ⟨ua621_0, uc621_0, rfl, ul621_0, ge621_0⟩ := Kd.FK_slice_open hMe621; have hv621_0 := hcc621 0 _ rfl; rw [Nat.add_zero, show ((Kd.slice 21 (Kd.int .i32))).sz = 1 from rfl, Nat.mul_one] at hv621_0; replace hv621_0 := oI (hv621_0.symm.trans hx621_0); injection hv621_0 with hva_ hvn_ hvc_; rw [hva_] at ge621_0; rw [hvc_] at ul621_0; have HL621_0 := aM (show Kd.V (Kd.int .i32) 21 _ w.heap.size _ _ (rd_L13 t599 x53_1) from Kd.V_mk ul621_0 ge621_0); clear hva_ hvn_ hvc_ ge621_0 ul621_0; clear hcc621 hce621; have HR621_0 := aM hi621_0; have HC621_0 := aM hl621_0; clear hi621_0 hl621_0; replace p621 := eq_true p621; replace q621 := eq_true q621; have p622 : 0 ≤ (x81_2 : Int) := oD; have q622 : x81_2 < ((rd_L13 t599 x53_1).length : Int) := oD; obtain ⟨ad622, e622, hx622_0⟩ := Kd.at_int (kC HR621_0.out) x81_2 p622 q622
           cases e622
           replace p622 := eq_true p622; replace q622 := eq_true q622; have p624 : 0 ≤ (x53_1 : Int) := oD; have q624 : x53_1 < (t602.length : Int) := oD; obtain ⟨ad624, A624_0, c624_0, e624, hx624_0, hl624_0, hi624_0⟩ := at_L13 (Kd.N_reads' HO_6.out).2.2 x53_1 p624 q624; obtain rfl : ad614 = ad624 := (by injection e624); obtain ⟨ce624, hce624, hMe624, hcc624⟩ := Kd.N_get HO_6.out [] x53_1 p624 (by first | exact q624 | exact oD | (have e_ := (Kd.N_reads' HO_6.out).1; omega)); obtain ⟨ua624_0, uc624_0, rfl, ul624_0, ge624_0⟩ := Kd.FK_slice_open hMe624; have hv624_0 := hcc624 0 _ rfl; rw [Nat.add_zero, show ((Kd.slice 21 (Kd.int .i32))).sz = 1 from rfl, Nat.mul_one] at hv624_0; replace hv624_0 := oI (hv624_0.symm.trans hx624_0); injection hv624_0 with hva_ hvn_ hvc_; rw [hva_] at ge624_0; rw [hvc_] at ul624_0; have HL624_0 := aM (show Kd.V (Kd.int .i32) 21 _ w.heap.size _ _ (rd_L13 t602 x53_1) from Kd.V_mk ul624_0 ge624_0); clear hva_ hvn_ hvc_ ge624_0 ul624_0; clear hcc624 hce624; have HR624_0 := aM hi624_0; have HC624_0 := aM hl624_0; clear hi624_0 hl624_0; replace p624 := eq_true p624; replace q624 := eq_true q624; have p625 : 0 ≤ (x81_2 : Int) := oD; have q625 : x81_2 < ((rd_L13 t602 x53_1).length : Int) := oD; obtain ⟨ad625, e625, hx625_0⟩ := Kd.at_int (kC HR624_0.out) x81_2 p625 q625
           cases e625
           replace p625 := eq_true p625; replace q625 := eq_true q625
           refine start_ (n := 26) (S := fun w' => w'.cell? (ad609.add (x53_1).toNat) = some (.slice (some ad622) (rd_L13 t599 x53_1).length c621_0) ∧ w'.cell? (ad622.add (x81_2).toNat) = some (.int .i32 (rd (rd_L13 t599 x53_1) x81_2)) ∧ w'.cell? (ad614.add (x53_1).toNat) = some (.slice (some ad625) (rd_L13 t602 x53_1).length c624_0) ∧ w'.cell? (ad625.add (x81_2).toNat) = some (.int .i32 (rd (rd_L13 t602 x53_1) x81_2))) (ds := []) (bA 26 0) (by kernel_rfl) rfl (by kernel_rfl) ⟨hx621_0, hx622_0, hx624_0, hx625_0⟩ (fun hHeld => ?_); refine with_tabW F25.tab14 F25.bits14 (fun HT_ HW_ => ?_)
           generalize wr.drew = w63 at HO_5 HO_6 BK570 HR609_0 HR614_0 HR619_0 HB HL621_0 HL624_0 HR621_0 HR624_0 hx621_0 hx622_0 hx624_0 hHeld ⊢
           refine pT 26 0 84 1 HT_ (h := ?_)
           refine pT 26 1 85 3 HT_ (h := ?_)
           refine pT 26 2 86 7 HT_ (h := ?_)
           refine pT 26 4 88 23 HT_ (h := ?_)
           refine pT 26 5 89 55 HT_ (h := ?_)
           refine pT 26 6 90 119 HT_ (h := ?_)
           refine pT 26 8 92 375 HT_ (h := ?_)
           refine tT 26 7 91 503 HT_ HW_ hHeld (h := ?_)
           refine pT 26 9 93 1015 HT_ (h := ?_)
           refine tT 26 10 94 2039 HT_ HW_ hHeld (h := ?_)
           refine one_ (i := 3) (N := some 87) (bA 26 2047) rfl rfl (one_of HT_.out (by kernel_rfl)) (by decide) (fun K hK => ?_)
           refine gA Try.func18 #[asPtr (.slice A0 l0.length c0), .int .i64 x53_1, .int .i64 x81_2] (h := ?_)
           with_reducible refine (F18.calls _ _ l0 x53_1 x81_2 t620 _ ?side1 ?side2 A53.out).mono ?_
           (case side1 => with_reducible exact (Kd.C_below HR0.out HB.out)); (case side2 => exact HC0.out); rintro e w64 ⟨rfl, hb⟩; have HS0_ := (hb.cell (World.block_lt_of_cell? _ _ (hHeld.1))).trans (hHeld.1); have HS1_ := (hb.cell (World.block_lt_of_cell? _ _ (hHeld.2.1))).trans (hHeld.2.1); have HS2_ := (hb.cell (World.block_lt_of_cell? _ _ (hHeld.2.2.1))).trans (hHeld.2.2.1); have HS3_ := (hb.cell (World.block_lt_of_cell? _ _ (hHeld.2.2.2))).trans (hHeld.2.2.2)
           refine ⟨_, rfl, ?_⟩
           replace HO_5 := aM (Kd.N_below (kN HO_5.out) hb); replace HO_6 := aM (Kd.N_below (kN HO_6.out) hb); replace HL621_0 := aM (Kd.V_below (kV HL621_0.out) hb); replace BK570 := aM (blk_below (g := gb570) (o := .cells #[.int .i64 a1_0, .int .i64 a1_1, .int .i64 a1_2, .int .i64 a1_3, .int .i64 a1_4, .int .i64 a1_5, .int .i64 a1_6, .slice A1_7 l1_7.length c1_7, .slice A1_8 l1_8.length c1_8] 56 (0, 0)) (bK BK570.out) hb); replace HR609_0 := aM (Kd.C_below (kC HR609_0.out) hb); replace HR614_0 := aM (Kd.C_below (kC HR614_0.out) hb); replace HR619_0 := aM (Kd.C_below (kC HR619_0.out) hb); replace HR621_0 := aM (Kd.C_below (kC HR621_0.out) hb); replace HB := aM (below_step bZ hb); (try clear hb); (try clear hb2); (try clear hk); (try clear hi)
           refine hK.out _ _ ⟨HS0_, HS1_, HS2_, HS3_⟩ (fun hHeld => ?_)
           clear hK K
           refine nT 87 (h := ?_)
           refine pT 26 11 95 4095 HT_ (h := ?_)
           refine pT 26 12 96 8191 HT_ (h := ?_)
           refine pT 26 13 97 16383 HT_ (h := ?_)
           refine pT 26 14 98 32767 HT_ (h := ?_)
           refine pT 26 15 99 65535 HT_ (h := ?_)
           refine pT 26 17 101 196607 HT_ (h := ?_)
           refine pT 26 18 102 458751 HT_ (h := ?_)
           refine pT 26 19 103 983039 HT_ (h := ?_)
           refine pT 26 21 105 3080191 HT_ (h := ?_)
           refine tT 26 20 104 4128767 HT_ HW_ hHeld (h := ?_)
           refine pT 26 22 106 8323071 HT_ (h := ?_)
           refine tT 26 23 107 16711679 HT_ HW_ hHeld (h := ?_)
           refine one_ (i := 16) (N := some 100) (bA 26 16777215) rfl rfl (one_of HT_.out (by kernel_rfl)) (by decide) (fun K hK => ?_)
           refine gA Try.func19 #[asPtr (.slice A0 l0.length c0), .int .i64 x53_1, .int .i64 x81_2] (h := ?_)
           with_reducible refine (F19.calls _ _ l0 x53_1 x81_2 t623 _ ?side1 ?side2 A59.out).mono ?_
           (case side1 => with_reducible exact (Kd.C_below HR0.out HB.out)); (case side2 => exact HC0.out); rintro e w65 ⟨rfl, hb⟩; have HS0_ := (hb.cell (World.block_lt_of_cell? _ _ (hHeld.1))).trans (hHeld.1); have HS1_ := (hb.cell (World.block_lt_of_cell? _ _ (hHeld.2.1))).trans (hHeld.2.1); have HS2_ := (hb.cell (World.block_lt_of_cell? _ _ (hHeld.2.2.1))).trans (hHeld.2.2.1); have HS3_ := (hb.cell (World.block_lt_of_cell? _ _ (hHeld.2.2.2))).trans (hHeld.2.2.2)
           refine ⟨_, rfl, ?_⟩
           replace HO_5 := aM (Kd.N_below (kN HO_5.out) hb); replace HO_6 := aM (Kd.N_below (kN HO_6.out) hb); replace HL621_0 := aM (Kd.V_below (kV HL621_0.out) hb); replace BK570 := aM (blk_below (g := gb570) (o := .cells #[.int .i64 a1_0, .int .i64 a1_1, .int .i64 a1_2, .int .i64 a1_3, .int .i64 a1_4, .int .i64 a1_5, .int .i64 a1_6, .slice A1_7 l1_7.length c1_7, .slice A1_8 l1_8.length c1_8] 56 (0, 0)) (bK BK570.out) hb); replace HR609_0 := aM (Kd.C_below (kC HR609_0.out) hb); replace HR614_0 := aM (Kd.C_below (kC HR614_0.out) hb); replace HR619_0 := aM (Kd.C_below (kC HR619_0.out) hb); replace HR621_0 := aM (Kd.C_below (kC HR621_0.out) hb); replace HB := aM (below_step bZ hb); (try clear hb); (try clear hb2); (try clear hk); (try clear hi)
           refine hK.out _ _ ⟨HS0_, HS1_, HS2_, HS3_⟩ (fun hHeld => ?_)
           clear hK K
           refine nT 100 (h := ?_)
           refine pT 26 24 108 33554431 HT_ (h := ?_)
           refine pT 26 25 109 67108863 HT_ (h := ?_)
           refine done_ (done_of HT_.out (by kernel_rfl)) ?_
           try go_wp2
           go_roundg k2
           case measure => have := HK1.out; have := HK2.out; omega
           case rel => exact ⟨(wrap64 (x81_2 + 1)), rfl, H', ⟨by have := HK1.out; have := HK2.out; omega⟩, HO_5, HO_6, BK570, ⟨kC HR609_0.out⟩, ⟨kC HR614_0.out⟩, ⟨kC HR619_0.out⟩, HB⟩
          ·
           rw [if_neg c52] at H; have c52b0 : decide (x81_2 < ((rd_L13 t599 x53_1).length : Int)) = false := dF c52; clear c52; have H' := aM H; clear H
           go_wp2
           go_roundg k2
           case measure => have := HK1.out; have := HK2.out; omega
           case rel => exact ⟨(wrap64 (x53_1 + 1)), rfl, H', ⟨by have := HK1.out; have := HK2.out; omega⟩, HO_5, HO_6, BK570, HB⟩
       ·
        replace c46 := Bool.eq_false_iff.mpr c46; subst c46; rw [if_neg (show ¬ (false = true) by decide)] at H
        exact absurd H (by simp)
      ·
       replace c42 := Bool.eq_false_iff.mpr c42; subst c42; rw [if_neg (show ¬ (false = true) by decide)] at H
       exact absurd H (by simp)
     ·
      rw [if_neg c37] at H; have c37b0 : decide (x53_1 < (t599.length : Int)) = false := dF c37; clear c37; obtain ⟨t605, A66, H⟩ := bnd H; obtain ⟨t608, A67, H⟩ := bnd H; obtain rfl := oI H
      try go_wp2
      replace HO_5 := aM (Kd.N_drew HO_5.out); replace HO_6 := aM (Kd.N_drew HO_6.out); replace BK570 := aM (blk_drew BK570.out); replace HB := aM (below_drew1 HB.out)
      refine start_ (n := 7) (S := fun w' => w'.cell? ⟨gb570, 0, none⟩ = some (.int .i64 a1_0) ∧ w'.cell? ⟨gb570, 1, none⟩ = some (.int .i64 a1_1) ∧ w'.cell? ⟨gb570, 2, none⟩ = some (.int .i64 a1_2) ∧ w'.cell? ⟨gb570, 3, none⟩ = some (.int .i64 a1_3) ∧ w'.cell? ⟨gb570, 4, none⟩ = some (.int .i64 a1_4) ∧ w'.cell? ⟨gb570, 5, none⟩ = some (.int .i64 a1_5) ∧ w'.cell? ⟨gb570, 6, none⟩ = some (.int .i64 a1_6) ∧ w'.cell? ⟨gb570, 7, none⟩ = some (.slice A1_7 l1_7.length c1_7) ∧ w'.cell? ⟨gb570, 8, none⟩ = some (.slice A1_8 l1_8.length c1_8)) (ds := []) (bA 7 0) (by kernel_rfl) rfl (by kernel_rfl) (cx9 BK570.out) (fun hHeld => ?_)
      generalize wr.drew = w68 at HO_5 HO_6 BK570 HB hHeld ⊢
      refine pB 7 0 112 1 (h := ?_)
      refine tB 7 3 115 9 hHeld (h := ?_)
      refine one_ (i := 1) (N := some 113) (bA 7 11) rfl rfl (by kernel_rfl) (by decide) (fun K hK => ?_)
      refine gA Try.func14 #[asPtr (.slice A0 l0.length c0)] (h := ?_)
      with_reducible refine (F14.calls k1 _ _ l0 t605 _ ?side1 ?side2 A66.out).mono ?_
      (case side1 => with_reducible exact (Kd.C_below HR0.out HB.out)); (case side2 => exact HC0.out); rintro e w69 ⟨v606, rfl, ho0, hb⟩
      refine ⟨_, rfl, ?_⟩
      replace HO_5 := aM (Kd.N_elder' (kN HO_5.out) (Kd.R_base ho0) hb); replace HO_6 := aM (Kd.N_elder' (kN HO_6.out) (Kd.R_base ho0) hb); have HO607 := aM (Kd.R_lower ho0 (below_size bZ)); replace BK570 := aM (blk_below (g := gb570) (o := .cells #[.int .i64 a1_0, .int .i64 a1_1, .int .i64 a1_2, .int .i64 a1_3, .int .i64 a1_4, .int .i64 a1_5, .int .i64 a1_6, .slice A1_7 l1_7.length c1_7, .slice A1_8 l1_8.length c1_8] 56 (0, 0)) (bK BK570.out) hb); replace HB := aM (below_step bZ hb); (try clear hb); (try clear hb2); (try clear hk); (try clear hi); (try clear ho0)
      refine hK.out _ _ (cx9 BK570.out) (fun hHeld => ?_)
      clear hK K
      refine nT 113 (h := ?_)
      refine join_ (σ := Unit) 2 (bA 7 31) (fun _ => [(114, .string (strOfNums t605)), (116, .string t608)]) (fun _ w' => (w'.cell? ⟨gb570, 0, none⟩ = some (.int .i64 a1_0) ∧ w'.cell? ⟨gb570, 1, none⟩ = some (.int .i64 a1_1) ∧ w'.cell? ⟨gb570, 2, none⟩ = some (.int .i64 a1_2) ∧ w'.cell? ⟨gb570, 3, none⟩ = some (.int .i64 a1_3) ∧ w'.cell? ⟨gb570, 4, none⟩ = some (.int .i64 a1_4) ∧ w'.cell? ⟨gb570, 5, none⟩ = some (.int .i64 a1_5) ∧ w'.cell? ⟨gb570, 6, none⟩ = some (.int .i64 a1_6) ∧ w'.cell? ⟨gb570, 7, none⟩ = some (.slice A1_7 l1_7.length c1_7) ∧ w'.cell? ⟨gb570, 8, none⟩ = some (.slice A1_8 l1_8.length c1_8)) ∧ Aside0 (Below w.heap.size w w')) ?_ ?_
      rotate_left
      ·
       intro hCont
       refine two_ (i := 2) (j := 4) (Ni := some 114) (Nj := some 116) (bA 7 15) (bA 7 27) rfl rfl rfl rfl (by kernel_rfl) (by decide) (by decide) (fun K hK => ?_) (fun K hK => ?_)
       ·
        skip
        have hcv70 := own_string (P := Try.prog) Try.underlying36 Try.underlying5 Try.underlying9 (Kd.own_of_R HO607.out)
        refine value_ (w1 := ?_) (v := ?_) (by rfl) rfl ?_ ?_
        rotate_left 2
        ·
         go_simp
         constructor
         ·
          rfl
         ·
          rfl
        clear hcv70
        refine hK.out _ _ (cx9 BK570.out) (fun hHeld => ?_)
        clear hK K
        refine nT 114 (h := ?_)
        refine one_ (i := 4) (N := some 116) (bA 7 31) rfl rfl (by kernel_rfl) (by decide) (fun K hK => ?_)
        refine gA Try.func56 #[.agg #[.int .i64 a1_0, .int .i64 a1_1, .int .i64 a1_2, .int .i64 a1_3, .int .i64 a1_4, .int .i64 a1_5, .int .i64 a1_6, .slice A1_7 l1_7.length c1_7, .slice A1_8 l1_8.length c1_8]] (h := ?_)
        with_reducible refine (F56.calls k1 a1_0 a1_1 a1_2 a1_3 a1_4 a1_5 a1_6 _ _ l1_7 _ _ l1_8 t608 _ ?side1 ?side2 ?side3 ?side4 A67.out).mono ?_
        (case side1 => with_reducible exact (Kd.C_below HR1_7.out HB.out)); (case side2 => exact HC1_7.out); (case side3 => with_reducible exact (Kd.C_below HR1_8.out HB.out)); (case side4 => exact HC1_8.out); rintro e w71 ⟨rfl, hb⟩
        refine ⟨_, rfl, ?_⟩
        replace HO_5 := aM (Kd.N_below (kN HO_5.out) hb); replace HO_6 := aM (Kd.N_below (kN HO_6.out) hb); replace HO607 := aM (Kd.R_below (kR HO607.out) hb); replace BK570 := aM (blk_below (g := gb570) (o := .cells #[.int .i64 a1_0, .int .i64 a1_1, .int .i64 a1_2, .int .i64 a1_3, .int .i64 a1_4, .int .i64 a1_5, .int .i64 a1_6, .slice A1_7 l1_7.length c1_7, .slice A1_8 l1_8.length c1_8] 56 (0, 0)) (bK BK570.out) hb); replace HB := aM (below_step bZ hb); (try clear hb); (try clear hb2); (try clear hk); (try clear hi)
        refine hK.out _ _ (cx9 BK570.out) (fun hHeld => ?_)
        clear hK K
        refine nT 116 (h := ?_)
        exact norm_ (by simp only [putAll, Act.put, List.setIfInBounds_toArray, List.set_cons_zero, List.set_cons_succ]) (hCont () _ ⟨hHeld, HB⟩)
       ·
        skip
        refine gA Try.func56 #[.agg #[.int .i64 a1_0, .int .i64 a1_1, .int .i64 a1_2, .int .i64 a1_3, .int .i64 a1_4, .int .i64 a1_5, .int .i64 a1_6, .slice A1_7 l1_7.length c1_7, .slice A1_8 l1_8.length c1_8]] (h := ?_)
        with_reducible refine (F56.calls k1 a1_0 a1_1 a1_2 a1_3 a1_4 a1_5 a1_6 _ _ l1_7 _ _ l1_8 t608 _ ?side1 ?side2 ?side3 ?side4 A67.out).mono ?_
        (case side1 => with_reducible exact (Kd.C_below HR1_7.out HB.out)); (case side2 => exact HC1_7.out); (case side3 => with_reducible exact (Kd.C_below HR1_8.out HB.out)); (case side4 => exact HC1_8.out); rintro e w71 ⟨rfl, hb⟩
        refine ⟨_, rfl, ?_⟩
        replace HO_5 := aM (Kd.N_below (kN HO_5.out) hb); replace HO_6 := aM (Kd.N_below (kN HO_6.out) hb); replace HO607 := aM (Kd.R_below (kR HO607.out) hb); replace BK570 := aM (blk_below (g := gb570) (o := .cells #[.int .i64 a1_0, .int .i64 a1_1, .int .i64 a1_2, .int .i64 a1_3, .int .i64 a1_4, .int .i64 a1_5, .int .i64 a1_6, .slice A1_7 l1_7.length c1_7, .slice A1_8 l1_8.length c1_8] 56 (0, 0)) (bK BK570.out) hb); replace HB := aM (below_step bZ hb); (try clear hb); (try clear hb2); (try clear hk); (try clear hi)
        refine hK.out _ _ (cx9 BK570.out) (fun hHeld => ?_)
        clear hK K
        refine nT 116 (h := ?_)
        refine one_ (i := 2) (N := some 114) (bA 7 31) rfl rfl (by kernel_rfl) (by decide) (fun K hK => ?_)
        have hcv70 := own_string (P := Try.prog) Try.underlying36 Try.underlying5 Try.underlying9 (Kd.own_of_R HO607.out)
        refine value_ (w1 := ?_) (v := ?_) (by rfl) rfl ?_ ?_
        rotate_left 2
        ·
         go_simp
         constructor
         ·
          rfl
         ·
          rfl
        clear hcv70
        refine hK.out _ _ (cx9 BK570.out) (fun hHeld => ?_)
        clear hK K
        refine nT 114 (h := ?_)
        exact norm_ (by simp only [putAll, Act.put, List.setIfInBounds_toArray, List.set_cons_zero, List.set_cons_succ]) (hCont () _ ⟨hHeld, HB⟩)
      rintro _ w71 ⟨hHeld, HB_⟩; clear HB; have HB := HB_; clear HB_
      refine norm_ (a' := ?_) ?_ ?_
      rotate_left
      ·
       simp only [putAll, Act.put, List.setIfInBounds_toArray, List.set_cons_zero, List.set_cons_succ]
       rfl
      refine pB 7 5 117 63 (h := ?_)
      refine pB 7 6 4 127 (h := ?_)
      refine done_ (by kernel_rfl) ?_
      try go_wp2
      go_ret
      exact ⟨rfl, HB.out⟩
  ·
   replace c13 := Bool.eq_false_iff.mpr c13; subst c13; rw [if_neg (show ¬ (false = true) by decide)] at H
   exact absurd H (by simp)
 ·
  replace c9 := Bool.eq_false_iff.mpr c9; subst c9; rw [if_neg (show ¬ (false = true) by decide)] at H
  exact absurd H (by simp)

end Go.Proofs.Ytekenaclmplocaa.PPageNew
