-- Written by a program of this session (wip/tools/mkprint.py over the kit's print).
import Derived.Test.YtekenaclmplocaaPPageQuantizesx0
import Derived.Test.YtekenaclmplocaaPPageQuantizesx2
import Derived.Test.YtekenaclmplocaaPPageQuantizesx3
import Derived.Test.YtekenaclmplocaaPPageQuantizesx8
import Derived.Test.YtekenaclmplocaaPPageQuantizesx12
import Derived.Test.YtekenaclmplocaaPPageQuantizesx13
import Derived.Test.YtekenaclmplocaaPPageQuantizesx15
import Derived.Test.YtekenaclmplocaaPPageQuantizesx16
import Derived.Test.YtekenaclmplocaaPPageQuantizesx17
import Derived.Test.YtekenaclmplocaaPPageQuantizesx18
import Derived.Test.YtekenaclmplocaaPPageQuantizesx19
import Derived.Test.YtekenaclmplocaaPPageQuantizesx21
namespace Go.Proofs.Ytekenaclmplocaa.PPageQuantizes
open Go.RowKit Go.Proofs.YtekenaclmplocaaW.PrintWords Go.Proofs.YtekenaclmplocaaW.PrintLast Go.Proofs.YtekenaclmplocaaW.PrintMore
attribute [local go_sem] max2_int min2_int max_two min_two max_three min_three max_four min_four   -- for this text's walks alone
set_option linter.unusedVariables false
set_option linter.unusedSimpArgs false

attribute [local go_sem high] eqA28
/-! ### credenzalaw08_is: function 25 -/
mutual
def credenzalaw08_is.l0 : Nat → List (S75) → List (List Int) → List (List Int) → Int → Int → Int → Int → Int → Int → Int → Int → Int → List (S98) → List (S98) → Option (Bool)
 | 0, _, _, _, _, _, _, _, _, _, _, _, _, _, _ => none
 | k + 1, x0, x5, x6, x52, x53, x555000, x555001, x555002, x555003, x555004, x555005, x555006, x555007, x555008 => if x53 < x52 then (if 0 ≤ x53 then (if x53 < (x5.length : Int) then ((credenzaref08_Page_Key.f k x555000 x555001 x555002 x555003 x555004 x555005 x555006 x555007 x555008 x53).bind fun t594 => ((credenzaref03_Same.f k (rd_L1 x5 x53) t594).bind fun t597 => (if t597 = true then (if x53 < (x6.length : Int) then ((credenzaref08_Page_Value.f k x555000 x555001 x555002 x555003 x555004 x555005 x555006 x555007 x555008 x53).bind fun t599 => ((credenzaref03_Same.f k (rd_L1 x6 x53) t599).bind fun t602 => (if t602 = true then (credenzalaw08_is.l1 k x0 x5 x6 x53 x52 x53 ((rd_L1 x5 x53).length : Int) 0 x555000 x555001 x555002 x555003 x555004 x555005 x555006 x555007 x555008) else (none)))) else (none)) else (none)))) else (none)) else (none)) else ((page_Page_Bytes.f k x0).bind fun t589 => ((credenzaref08_Bytes.f k x555000 x555001 x555002 x555003 x555004 x555005 x555006 x555007 x555008).bind fun t592 => (some ((strOfNums t589).toList == t592.toList))))
def credenzalaw08_is.l1 : Nat → List (S75) → List (List Int) → List (List Int) → Int → Int → Int → Int → Int → Int → Int → Int → Int → Int → Int → Int → List (S98) → List (S98) → Option (Bool)
 | 0, _, _, _, _, _, _, _, _, _, _, _, _, _, _, _, _, _ => none
 | k + 1, x0, x5, x6, x7, x52, x53, x80, x81, x555000, x555001, x555002, x555003, x555004, x555005, x555006, x555007, x555008 => if x81 < x80 then ((page_Page_Key.f x0 x7 x81).bind fun t604 => (if 0 ≤ x7 then (if x7 < (x5.length : Int) then (if 0 ≤ x81 then (if x81 < ((rd_L1 x5 x7).length : Int) then (if t604 = (rd (rd_L1 x5 x7) x81) then ((page_Page_Value.f x0 x7 x81).bind fun t607 => (if x7 < (x6.length : Int) then (if x81 < ((rd_L1 x6 x7).length : Int) then (if t607 = (rd (rd_L1 x6 x7) x81) then (credenzalaw08_is.l1 k x0 x5 x6 x7 x52 x53 x80 (wrap64 (x81 + 1)) x555000 x555001 x555002 x555003 x555004 x555005 x555006 x555007 x555008) else (none)) else (none)) else (none))) else (none)) else (none)) else (none)) else (none)) else (none))) else (credenzalaw08_is.l0 k x0 x5 x6 x52 (wrap64 (x53 + 1)) x555000 x555001 x555002 x555003 x555004 x555005 x555006 x555007 x555008)
end
def credenzalaw08_is.f (k : Nat) (l0 : List (S75)) (a1_0 : Int) (a1_1 : Int) (a1_2 : Int) (a1_3 : Int) (a1_4 : Int) (a1_5 : Int) (a1_6 : Int) (l1_7 : List (S98)) (l1_8 : List (S98)) : Option (Bool) := (page_Page_Head.f l0).bind fun bt555 => ((credenzalaw08_head.f bt555.1 bt555.2.1 bt555.2.2.1 bt555.2.2.2.1 bt555.2.2.2.2.1 bt555.2.2.2.2.2.1 bt555.2.2.2.2.2.2).bind fun bt562 => (if (!(bt562.1 == a1_0) || (!(bt562.2.1 == a1_1) || (!(bt562.2.2.1 == a1_2) || (!(bt562.2.2.2.1 == a1_3) || (!(bt562.2.2.2.2.1 == a1_4) || (!(bt562.2.2.2.2.2.1 == a1_5) || (!(bt562.2.2.2.2.2.2 == a1_6)))))))) = true then (none) else ((page_Page_KeyGroups.f k l0).bind fun t569 => ((credenzalaw08_groups.f k t569).bind fun t572 => ((credenzaref08_Same.f k t572 l1_7).bind fun t575 => (if t575 = true then ((page_Page_ValueGroups.f k l0).bind fun t576 => ((credenzalaw08_groups.f k t576).bind fun t579 => ((credenzaref08_Same.f k t579 l1_8).bind fun t582 => (if t582 = true then ((page_Page_Keys.f k l0).bind fun t583 => ((page_Page_Values.f k l0).bind fun t586 => (if (t583.length : Int) = a1_2 then (if (t586.length : Int) = a1_2 then (credenzalaw08_is.l0 k l0 t583 t586 (t583.length : Int) 0 a1_0 a1_1 a1_2 a1_3 a1_4 a1_5 a1_6 l1_7 l1_8) else (none)) else (none)))) else (none))))) else (none)))))))
theorem credenzalaw08_is.mono_l : ∀ k, (∀ y0 y1 y2 y3 y4 y5 y6 y7 y8 y9 y10 y11 y12 y13, LeO (credenzalaw08_is.l0 k y0 y1 y2 y3 y4 y5 y6 y7 y8 y9 y10 y11 y12 y13) (credenzalaw08_is.l0 (k + 1) y0 y1 y2 y3 y4 y5 y6 y7 y8 y9 y10 y11 y12 y13)) ∧ (∀ y0 y1 y2 y3 y4 y5 y6 y7 y8 y9 y10 y11 y12 y13 y14 y15 y16, LeO (credenzalaw08_is.l1 k y0 y1 y2 y3 y4 y5 y6 y7 y8 y9 y10 y11 y12 y13 y14 y15 y16) (credenzalaw08_is.l1 (k + 1) y0 y1 y2 y3 y4 y5 y6 y7 y8 y9 y10 y11 y12 y13 y14 y15 y16))
 | 0 => ⟨fun _ _ _ _ _ _ _ _ _ _ _ _ _ _ r h => by simp [credenzalaw08_is.l0] at h, fun _ _ _ _ _ _ _ _ _ _ _ _ _ _ _ _ _ r h => by simp [credenzalaw08_is.l1] at h⟩
 | k + 1 => by
  obtain ⟨ih0, ih1⟩ := credenzalaw08_is.mono_l k
  refine ⟨?_, ?_⟩
  all_goals intros
  all_goals first | unfold credenzalaw08_is.l0 | unfold credenzalaw08_is.l1
  all_goals repeat' first
   | (with_reducible exact ih0 _ _ _ _ _ _ _ _ _ _ _ _ _ _)
   | (with_reducible exact ih1 _ _ _ _ _ _ _ _ _ _ _ _ _ _ _ _ _)
   | (with_reducible exact credenzalaw08_groups.mono _ _)
   | (with_reducible exact credenzaref03_Same.mono _ _ _)
   | (with_reducible exact credenzaref08_Bytes.mono _ _ _ _ _ _ _ _ _ _)
   | (with_reducible exact credenzaref08_Page_Key.mono _ _ _ _ _ _ _ _ _ _ _)
   | (with_reducible exact credenzaref08_Page_Value.mono _ _ _ _ _ _ _ _ _ _ _)
   | (with_reducible exact credenzaref08_Same.mono _ _ _)
   | (with_reducible exact page_Page_Bytes.mono _ _)
   | (with_reducible exact page_Page_KeyGroups.mono _ _)
   | (with_reducible exact page_Page_Keys.mono _ _)
   | (with_reducible exact page_Page_ValueGroups.mono _ _)
   | (with_reducible exact page_Page_Values.mono _ _)
   | (with_reducible exact LeO.refl _)
   | (with_reducible exact LeO.none _)
   | (with_reducible refine LeO.ite ?_ ?_)
   | (with_reducible refine LeO.bind ?_ (fun _ => ?_))
theorem credenzalaw08_is.mono : ∀ a0 a1 a2 a3 a4 a5 a6 a7 a8 a9 k, LeO (credenzalaw08_is.f k a0 a1 a2 a3 a4 a5 a6 a7 a8 a9) (credenzalaw08_is.f (k + 1) a0 a1 a2 a3 a4 a5 a6 a7 a8 a9) := by
 intro a0 a1 a2 a3 a4 a5 a6 a7 a8 a9 k; obtain ⟨ih0, ih1⟩ := credenzalaw08_is.mono_l k; unfold credenzalaw08_is.f
 repeat' first
   | (with_reducible exact ih0 _ _ _ _ _ _ _ _ _ _ _ _ _ _)
   | (with_reducible exact ih1 _ _ _ _ _ _ _ _ _ _ _ _ _ _ _ _ _)
   | (with_reducible exact credenzalaw08_groups.mono _ _)
   | (with_reducible exact credenzaref03_Same.mono _ _ _)
   | (with_reducible exact credenzaref08_Bytes.mono _ _ _ _ _ _ _ _ _ _)
   | (with_reducible exact credenzaref08_Page_Key.mono _ _ _ _ _ _ _ _ _ _ _)
   | (with_reducible exact credenzaref08_Page_Value.mono _ _ _ _ _ _ _ _ _ _ _)
   | (with_reducible exact credenzaref08_Same.mono _ _ _)
   | (with_reducible exact page_Page_Bytes.mono _ _)
   | (with_reducible exact page_Page_KeyGroups.mono _ _)
   | (with_reducible exact page_Page_Keys.mono _ _)
   | (with_reducible exact page_Page_ValueGroups.mono _ _)
   | (with_reducible exact page_Page_Values.mono _ _)
   | (with_reducible exact LeO.refl _)
   | (with_reducible exact LeO.none _)
   | (with_reducible refine LeO.ite ?_ ?_)
   | (with_reducible refine LeO.bind ?_ (fun _ => ?_))
def credenzalaw08_is.T1 : Bool × List (List Nat × List Nat) := (true, [([], []), ([0], [0]), ([1, 1], [1]), ([], []), ([3], [3]), ([2, 4], [2, 4]), ([5, 2], [5]), ([6], [6]), ([7, 6, 6], [6, 7]), ([8, 8, 6], [6, 8]), ([6], [6]), ([10, 6], [6, 10]), ([9, 11, 9, 6], [6, 9, 11]), ([12, 6], [6, 12]), ([6, 13], [6, 13]), ([14, 12], [14]), ([15], [15]), ([16, 15, 15], [15, 16]), ([17, 17, 15], [15, 17]), ([15], [15]), ([19, 15], [15, 19]), ([18, 20, 18, 15], [15, 18, 20]), ([21, 15], [15, 21]), ([15, 22], [15, 22])])
def credenzalaw08_is.B1 : List Nat := [0, 1, 3, 0, 8, 31, 63, 127, 255, 511, 127, 1151, 4095, 8191, 16383, 32767, 65535, 131071, 262143, 65535, 589823, 2097151, 4194303, 8388607]
theorem credenzalaw08_is.tab1 : rtab .any (opsOf Try.f25 1) = credenzalaw08_is.T1 := by kernel_rfl
theorem credenzalaw08_is.bits1 : waitsOk credenzalaw08_is.T1.2 credenzalaw08_is.B1 = true := by kernel_rfl
def credenzalaw08_is.T9 : Bool × List (List Nat × List Nat) := (true, [([], []), ([], []), ([0, 1], [0, 1]), ([2], [2]), ([], []), ([], []), ([4, 5], [4, 5]), ([3, 6, 6], [3, 6]), ([7], [7]), ([8, 7], [8]), ([9], [9]), ([9], [9]), ([10, 11, 9], [9, 10, 11]), ([12, 9], [9, 12]), ([9], [9]), ([9], [9]), ([14, 15, 9, 9], [9, 14, 15]), ([13, 16, 16, 9], [9, 13, 16]), ([17, 9], [9, 17]), ([9, 18], [9, 18])])
def credenzalaw08_is.B9 : List Nat := [0, 0, 3, 7, 0, 0, 48, 127, 255, 511, 1023, 1023, 4095, 8191, 1023, 1023, 50175, 131071, 262143, 524287]
theorem credenzalaw08_is.tab9 : rtab .any (opsOf Try.f25 9) = credenzalaw08_is.T9 := by kernel_rfl
theorem credenzalaw08_is.bits9 : waitsOk credenzalaw08_is.T9.2 credenzalaw08_is.B9 = true := by kernel_rfl
def credenzalaw08_is.T14 : Bool × List (List Nat × List Nat) := (true, [([], []), ([], []), ([], []), ([0, 1, 2], [0, 1, 2]), ([], []), ([], []), ([4, 5], [4, 5]), ([6], [6]), ([], []), ([7, 8], [7, 8]), ([9], [9]), ([3, 10], [3, 10]), ([11, 3], [11]), ([12], [12]), ([12], [12]), ([12], [12]), ([13, 14, 15, 12, 12], [12, 13, 14, 15]), ([12], [12]), ([12], [12]), ([17, 18, 12], [12, 17, 18]), ([19, 12], [12, 19]), ([12], [12]), ([20, 21, 12], [12, 20, 21]), ([22, 12], [12, 22]), ([16, 23, 12], [12, 16, 23]), ([12, 24], [12, 24])])
def credenzalaw08_is.B14 : List Nat := [0, 0, 0, 7, 0, 0, 48, 112, 0, 496, 1008, 2047, 4095, 8191, 8191, 8191, 65535, 8191, 8191, 401407, 925695, 8191, 4071423, 8265727, 16777215, 33554431]
theorem credenzalaw08_is.tab14 : rtab .any (opsOf Try.f25 14) = credenzalaw08_is.T14 := by kernel_rfl
theorem credenzalaw08_is.bits14 : waitsOk credenzalaw08_is.T14.2 credenzalaw08_is.B14 = true := by kernel_rfl
set_option maxHeartbeats 8000000 in
set_option maxRecDepth 100000 in
theorem credenzalaw08_is.calls (k : Nat) (A0 : Option Addr) (c0 : Nat) (l0 : List (S75)) (a1_0 : Int) (a1_1 : Int) (a1_2 : Int) (a1_3 : Int) (a1_4 : Int) (a1_5 : Int) (a1_6 : Int) (A1_7 : Option Addr) (c1_7 : Nat) (l1_7 : List (S98)) (A1_8 : Option Addr) (c1_8 : Nat) (l1_8 : List (S98)) (r : Bool) (w : World) (hr0 : Kd.C k75 w A0 l0.length l0) (hc0 : l0.length ≤ c0) (hr1_7 : Kd.C k98 w A1_7 l1_7.length l1_7) (hc1_7 : l1_7.length ≤ c1_7) (hr1_8 : Kd.C k98 w A1_8 l1_8.length l1_8) (hc1_8 : l1_8.length ≤ c1_8) (h : credenzalaw08_is.f k l0 a1_0 a1_1 a1_2 a1_3 a1_4 a1_5 a1_6 l1_7 l1_8 = some r) :
  Calls Try.prog 25 #[asPtr (.slice A0 l0.length c0), .agg #[.int .i64 a1_0, .int .i64 a1_1, .int .i64 a1_2, .int .i64 a1_3, .int .i64 a1_4, .int .i64 a1_5, .int .i64 a1_6, .slice A1_7 l1_7.length c1_7, .slice A1_8 l1_8.length c1_8]] w fun e w' => e = .returned (.bool r) ∧ Below w.heap.size w w' := by
 have hu56 := Try.underlying56; have hu28 := Try.underlying28; have HR0 := Aside0.mk hr0; have HC0 := Aside0.mk hc0; clear hr0 hc0; have HR1_7 := Aside0.mk hr1_7; have HC1_7 := Aside0.mk hc1_7; clear hr1_7 hc1_7; have HR1_8 := Aside0.mk hr1_8; have HC1_8 := Aside0.mk hc1_8; clear hr1_8 hc1_8; have HB := Aside0.mk (Below.refl w.heap.size w); have H := h; clear h; unfold credenzalaw08_is.f at H; obtain ⟨⟨t555, t556, t557, t558, t559, t560, t561⟩, A3, H⟩ := bnd H
 try dsimp only at H
 obtain ⟨⟨t562, t563, t564, t565, t566, t567, t568⟩, A4, H⟩ := bnd H
 try dsimp only at H
 obtain ⟨c5, H⟩ := ifn H; (have c5b0 : (!(t562 == a1_0) || (!(t563 == a1_1) || (!(t564 == a1_2) || (!(t565 == a1_3) || (!(t566 == a1_4) || (!(t567 == a1_5) || (!(t568 == a1_6)))))))) = false := by simpa using c5); clear c5; obtain ⟨t569, A6, H⟩ := bnd H; obtain ⟨t572, A7, H⟩ := bnd H; obtain ⟨t575, A8, H⟩ := bnd H
 by_cases c9 : t575 = true
 ·
  subst c9; rw [if_pos rfl] at H; obtain ⟨t576, A10, H⟩ := bnd H; obtain ⟨t579, A11, H⟩ := bnd H; obtain ⟨t582, A12, H⟩ := bnd H
  by_cases c13 : t582 = true
  ·
   subst c13; rw [if_pos rfl] at H; obtain ⟨t583, A14, H⟩ := bnd H; obtain ⟨t586, A15, H⟩ := bnd H; obtain ⟨c16, H⟩ := ifp H; have c16b0 : ((t583.length : Int) == a1_2) = true := beq_iff_eq.mpr c16; have c16b1 : ((t583.length : Int) != a1_2) = false := bne_eq_false_iff_eq.mpr c16; clear c16; obtain ⟨c17, H⟩ := ifp H; have c17b0 : ((t586.length : Int) == a1_2) = true := beq_iff_eq.mpr c17; have c17b1 : ((t586.length : Int) != a1_2) = false := bne_eq_false_iff_eq.mpr c17; clear c17; have H' := Aside0.mk H; clear H
   go_enter Try.func25, Try.ntmps25
   try go_wp2_with (first | ((with_reducible refine gate_dst (N := 3) rfl ?_); (try (refine gate_guard (by rfl) ?_; dsimp only)); refine bxE 3 #[.int .i64 a1_0, .int .i64 a1_1, .int .i64 a1_2, .int .i64 a1_3, .int .i64 a1_4, .int .i64 a1_5, .int .i64 a1_6, .slice A1_7 l1_7.length c1_7, .slice A1_8 l1_8.length c1_8] 56 (h := ?_); intro gb554 hg w18 hbox hb; have BK554 := Aside0.mk (hbox); have GW554 := gE hg HB; have GE554 := gE hg HB; replace HB := bst HB hb; clear hb hbox hg))
   replace BK554 := Aside0.mk (blk_drew BK554.out); replace HB := Aside0.mk (below_drew1 HB.out); (refine start_ (n := 24) (S := fun w' => w'.cell? ⟨gb554, 0, none⟩ = some (.int .i64 a1_0) ∧ w'.cell? ⟨gb554, 1, none⟩ = some (.int .i64 a1_1) ∧ w'.cell? ⟨gb554, 2, none⟩ = some (.int .i64 a1_2) ∧ w'.cell? ⟨gb554, 3, none⟩ = some (.int .i64 a1_3) ∧ w'.cell? ⟨gb554, 4, none⟩ = some (.int .i64 a1_4) ∧ w'.cell? ⟨gb554, 5, none⟩ = some (.int .i64 a1_5) ∧ w'.cell? ⟨gb554, 6, none⟩ = some (.int .i64 a1_6) ∧ w'.cell? ⟨gb554, 7, none⟩ = some (.slice A1_7 l1_7.length c1_7) ∧ w'.cell? ⟨gb554, 8, none⟩ = some (.slice A1_8 l1_8.length c1_8)) (ds := []) (bA 24 0) (by kernel_rfl) rfl (by kernel_rfl) (cx9 BK554.out) (fun hHeld => ?_); refine with_tabW credenzalaw08_is.tab1 credenzalaw08_is.bits1 (fun HT_ HW_ => ?_)); generalize w18.drew = w19 at BK554 HB hHeld ⊢
   refine pT 24 0 9 1 HT_ (h := ?_)
   refine pT 24 3 12 9 HT_ (h := ?_)
   refine tT 24 4 13 25 HT_ HW_ hHeld (h := ?_)
   refine one_ (i := 1) (N := some 10) (bA 24 27) rfl rfl (one_of HT_.out (by kernel_rfl)) (by decide) (fun K hK => ?_)
   refine gA Try.func32 #[asPtr (.slice A0 l0.length c0)] (h := ?_)
   with_reducible refine (page_Page_Head.calls _ _ l0 t555 t556 t557 t558 t559 t560 t561 _ ?side1 ?side2 A3.out).mono ?_
   (case side1 => with_reducible exact (Kd.C_below HR0.out HB.out)); (case side2 => exact HC0.out); rintro e w20 ⟨rfl, hb⟩
   refine ⟨_, rfl, ?_⟩
   replace BK554 := Aside0.mk (blk_below (g := gb554) (o := .cells #[.int .i64 a1_0, .int .i64 a1_1, .int .i64 a1_2, .int .i64 a1_3, .int .i64 a1_4, .int .i64 a1_5, .int .i64 a1_6, .slice A1_7 l1_7.length c1_7, .slice A1_8 l1_8.length c1_8] 56 (0, 0)) (by (with_reducible repeat (first | refine blk_drewN ?_ _ | refine blk_drew ?_ | refine blk_alloc ?_ _)); exact BK554.out) hb); replace HB := Aside0.mk (below_step bZ hb); (try clear hb); (try clear hb2); (try clear hk); (try clear hi)
   refine hK.out _ _ (cx9 BK554.out) (fun hHeld => ?_)
   clear hK K
   refine nT 10 (h := ?_)
   refine one_ (i := 2) (N := some 11) (bA 24 31) rfl rfl (one_of HT_.out (by kernel_rfl)) (by decide) (fun K hK => ?_)
   refine gA Try.func10 #[.agg #[.int .i64 t555, .int .i64 t556, .int .i64 t557, .int .i64 t558, .int .i64 t559, .int .i64 t560, .int .i64 t561]] (h := ?_)
   with_reducible refine (credenzalaw08_head.calls t555 t556 t557 t558 t559 t560 t561 t562 t563 t564 t565 t566 t567 t568 _ A4.out).mono ?_
   rintro e w21 ⟨rfl, hb⟩
   refine ⟨_, rfl, ?_⟩
   replace BK554 := Aside0.mk (blk_below (g := gb554) (o := .cells #[.int .i64 a1_0, .int .i64 a1_1, .int .i64 a1_2, .int .i64 a1_3, .int .i64 a1_4, .int .i64 a1_5, .int .i64 a1_6, .slice A1_7 l1_7.length c1_7, .slice A1_8 l1_8.length c1_8] 56 (0, 0)) (by (with_reducible repeat (first | refine blk_drewN ?_ _ | refine blk_drew ?_ | refine blk_alloc ?_ _)); exact BK554.out) hb); replace HB := Aside0.mk (below_step bZ hb); (try clear hb); (try clear hb2); (try clear hk); (try clear hi)
   refine hK.out _ _ (cx9 BK554.out) (fun hHeld => ?_)
   clear hK K
   refine nT 11 (h := ?_)
   refine pT 24 5 14 63 HT_ (h := ?_)
   refine pT 24 6 15 127 HT_ (h := ?_)
   refine pT 24 7 16 255 HT_ (h := ?_)
   refine pT 24 10 19 1279 HT_ (h := ?_)
   refine tT 24 11 20 3327 HT_ HW_ hHeld (h := ?_)
   refine one_ (i := 8) (N := some 17) (bA 24 3583) rfl rfl (one_of HT_.out (by kernel_rfl)) (by decide) (fun K hK => ?_)
   refine gA Try.func16 #[asPtr (.slice A0 l0.length c0)] (h := ?_)
   with_reducible refine (page_Page_KeyGroups.calls k _ _ l0 t569 _ ?side1 ?side2 A6.out).mono ?_
   (case side1 => with_reducible exact (Kd.C_below HR0.out HB.out)); (case side2 => exact HC0.out); rintro e w22 ⟨v570, rfl, ho0, hb⟩
   refine ⟨_, rfl, ?_⟩
   have HO571 := Aside0.mk (Kd.N_lower (Kd.N_mono (ok' := fun k_ => k_ ≠ gb554) (Kd.S_N (Kd.S_bound ho0)) (fun k_ hk_ => (Kd.freshB (g := gb554) (o := .cells #[.int .i64 a1_0, .int .i64 a1_1, .int .i64 a1_2, .int .i64 a1_3, .int .i64 a1_4, .int .i64 a1_5, .int .i64 a1_6, .slice A1_7 l1_7.length c1_7, .slice A1_8 l1_8.length c1_8] 56 (0, 0)) (by (with_reducible repeat (first | refine blk_drewN ?_ _ | refine blk_drew ?_ | refine blk_alloc ?_ _)); exact BK554.out) k_ hk_.2.1))) (below_size bZ)); replace BK554 := Aside0.mk (blk_below (g := gb554) (o := .cells #[.int .i64 a1_0, .int .i64 a1_1, .int .i64 a1_2, .int .i64 a1_3, .int .i64 a1_4, .int .i64 a1_5, .int .i64 a1_6, .slice A1_7 l1_7.length c1_7, .slice A1_8 l1_8.length c1_8] 56 (0, 0)) (by (with_reducible repeat (first | refine blk_drewN ?_ _ | refine blk_drew ?_ | refine blk_alloc ?_ _)); exact BK554.out) hb); replace HB := Aside0.mk (below_step bZ hb); (try clear hb); (try clear hb2); (try clear hk); (try clear hi); (try clear ho0); obtain ⟨Ao23, co23, eo23⟩ := Kd.N_slice HO571.out; (first | subst eo23 | (injection eo23 with f1_ f2_ f3_; have f4_ := f1_.symm; have f5_ := f3_.symm; clear f1_ f2_ f3_; subst f4_; subst f5_))
   refine hK.out _ _ (cx9 BK554.out) (fun hHeld => ?_)
   clear hK K
   refine nT 17 (h := ?_)
   refine one_ (i := 9) (N := some 18) (bA 24 4095) rfl rfl (one_of HT_.out (by kernel_rfl)) (by decide) (fun K hK => ?_)
   refine gA Try.func22 #[.slice Ao23 t569.length co23] (h := ?_)
   with_reducible refine (credenzalaw08_groups.calls k (fun k_ => k_ ≠ gb554) _ _ t569 t572 _ ?side1 A7.out).mono ?_
   (case side1 => exact Kd.N_V (HO571.out)); rintro e w24 ⟨v573, rfl, ho0, hb⟩
   refine ⟨_, rfl, ?_⟩
   replace HO571 := Aside0.mk (Kd.N_elder' (by (with_reducible repeat (first | apply Kd.N_alloc | apply Kd.N_drewN | apply Kd.N_drew)); exact HO571.out) (Kd.N_base ho0) hb); have HO574 := Aside0.mk (Kd.N_lower (Kd.N_mono (ok' := fun k_ => k_ ≠ gb554) ho0 (fun k_ hk_ => Or.elim hk_ (fun hs_ => hs_) (fun hn_ => (Kd.freshB (g := gb554) (o := .cells #[.int .i64 a1_0, .int .i64 a1_1, .int .i64 a1_2, .int .i64 a1_3, .int .i64 a1_4, .int .i64 a1_5, .int .i64 a1_6, .slice A1_7 l1_7.length c1_7, .slice A1_8 l1_8.length c1_8] 56 (0, 0)) (by (with_reducible repeat (first | refine blk_drewN ?_ _ | refine blk_drew ?_ | refine blk_alloc ?_ _)); exact BK554.out) k_ hn_)))) (below_size bZ)); replace BK554 := Aside0.mk (blk_below (g := gb554) (o := .cells #[.int .i64 a1_0, .int .i64 a1_1, .int .i64 a1_2, .int .i64 a1_3, .int .i64 a1_4, .int .i64 a1_5, .int .i64 a1_6, .slice A1_7 l1_7.length c1_7, .slice A1_8 l1_8.length c1_8] 56 (0, 0)) (by (with_reducible repeat (first | refine blk_drewN ?_ _ | refine blk_drew ?_ | refine blk_alloc ?_ _)); exact BK554.out) hb); replace HB := Aside0.mk (below_step bZ hb); (try clear hb); (try clear hb2); (try clear hk); (try clear hi); (try clear ho0); obtain ⟨Ao25, co25, eo25⟩ := Kd.N_slice HO574.out; (first | subst eo25 | (injection eo25 with f1_ f2_ f3_; have f4_ := f1_.symm; have f5_ := f3_.symm; clear f1_ f2_ f3_; subst f4_; subst f5_))
   refine hK.out _ _ (cx9 BK554.out) (fun hHeld => ?_)
   clear hK K
   refine nT 18 (h := ?_)
   refine one_ (i := 12) (N := some 21) (bA 24 8191) rfl rfl (one_of HT_.out (by kernel_rfl)) (by decide) (fun K hK => ?_)
   refine gA Try.func52 #[.slice Ao25 t572.length co25, .slice A1_7 l1_7.length c1_7] (h := ?_)
   with_reducible refine (credenzaref08_Same.calls k _ _ t572 _ _ l1_7 true _ ?side1 ?side2 ?side3 ?side4 A8.out).mono ?_
   (case side1 => with_reducible exact (Kd.N_reads' HO574.out).2.2); (case side2 => exact (Kd.N_reads' HO574.out).2.1); (case side3 => with_reducible exact (Kd.C_below HR1_7.out HB.out)); (case side4 => exact HC1_7.out); rintro e w26 ⟨rfl, hb⟩
   refine ⟨_, rfl, ?_⟩
   replace HO571 := Aside0.mk (Kd.N_below (by (with_reducible repeat (first | apply Kd.N_alloc | apply Kd.N_drewN | apply Kd.N_drew)); exact HO571.out) hb); replace HO574 := Aside0.mk (Kd.N_below (by (with_reducible repeat (first | apply Kd.N_alloc | apply Kd.N_drewN | apply Kd.N_drew)); exact HO574.out) hb); replace BK554 := Aside0.mk (blk_below (g := gb554) (o := .cells #[.int .i64 a1_0, .int .i64 a1_1, .int .i64 a1_2, .int .i64 a1_3, .int .i64 a1_4, .int .i64 a1_5, .int .i64 a1_6, .slice A1_7 l1_7.length c1_7, .slice A1_8 l1_8.length c1_8] 56 (0, 0)) (by (with_reducible repeat (first | refine blk_drewN ?_ _ | refine blk_drew ?_ | refine blk_alloc ?_ _)); exact BK554.out) hb); replace HB := Aside0.mk (below_step bZ hb); (try clear hb); (try clear hb2); (try clear hk); (try clear hi)
   refine hK.out _ _ (cx9 BK554.out) (fun hHeld => ?_)
   clear hK K
   refine nT 21 (h := ?_)
   refine pT 24 13 22 16383 HT_ (h := ?_)
   refine pT 24 14 23 32767 HT_ (h := ?_)
   refine pT 24 15 24 65535 HT_ (h := ?_)
   refine pT 24 16 25 131071 HT_ (h := ?_)
   refine pT 24 19 28 655359 HT_ (h := ?_)
   refine tT 24 20 29 1703935 HT_ HW_ hHeld (h := ?_)
   refine one_ (i := 17) (N := some 26) (bA 24 1835007) rfl rfl (one_of HT_.out (by kernel_rfl)) (by decide) (fun K hK => ?_)
   refine gA Try.func17 #[asPtr (.slice A0 l0.length c0)] (h := ?_)
   with_reducible refine (page_Page_ValueGroups.calls k _ _ l0 t576 _ ?side1 ?side2 A10.out).mono ?_
   (case side1 => with_reducible exact (Kd.C_below HR0.out HB.out)); (case side2 => exact HC0.out); rintro e w27 ⟨v577, rfl, ho0, hb⟩
   refine ⟨_, rfl, ?_⟩
   have HO578 := Aside0.mk (Kd.N_lower (Kd.N_mono (ok' := fun k_ => some k_ ≠ (.slice Ao23 t569.length co23 : Value).ownBlock ∧ some k_ ≠ (.slice Ao25 t572.length co25 : Value).ownBlock ∧ k_ ≠ gb554) (Kd.S_N (Kd.S_bound ho0)) (fun k_ hk_ => ⟨(Kd.fresh' (Kd.N_lt (by (with_reducible repeat (first | apply Kd.N_alloc | apply Kd.N_drewN | apply Kd.N_drew)); exact HO571.out)) k_ hk_.2.1), (Kd.fresh' (Kd.N_lt (by (with_reducible repeat (first | apply Kd.N_alloc | apply Kd.N_drewN | apply Kd.N_drew)); exact HO574.out)) k_ hk_.2.1), (Kd.freshB (g := gb554) (o := .cells #[.int .i64 a1_0, .int .i64 a1_1, .int .i64 a1_2, .int .i64 a1_3, .int .i64 a1_4, .int .i64 a1_5, .int .i64 a1_6, .slice A1_7 l1_7.length c1_7, .slice A1_8 l1_8.length c1_8] 56 (0, 0)) (by (with_reducible repeat (first | refine blk_drewN ?_ _ | refine blk_drew ?_ | refine blk_alloc ?_ _)); exact BK554.out) k_ hk_.2.1)⟩)) (below_size bZ)); replace HO571 := Aside0.mk (Kd.N_elder' (by (with_reducible repeat (first | apply Kd.N_alloc | apply Kd.N_drewN | apply Kd.N_drew)); exact HO571.out) (Kd.S_base ho0) hb); replace HO574 := Aside0.mk (Kd.N_elder' (by (with_reducible repeat (first | apply Kd.N_alloc | apply Kd.N_drewN | apply Kd.N_drew)); exact HO574.out) (Kd.S_base ho0) hb); replace BK554 := Aside0.mk (blk_below (g := gb554) (o := .cells #[.int .i64 a1_0, .int .i64 a1_1, .int .i64 a1_2, .int .i64 a1_3, .int .i64 a1_4, .int .i64 a1_5, .int .i64 a1_6, .slice A1_7 l1_7.length c1_7, .slice A1_8 l1_8.length c1_8] 56 (0, 0)) (by (with_reducible repeat (first | refine blk_drewN ?_ _ | refine blk_drew ?_ | refine blk_alloc ?_ _)); exact BK554.out) hb); replace HB := Aside0.mk (below_step bZ hb); (try clear hb); (try clear hb2); (try clear hk); (try clear hi); (try clear ho0); obtain ⟨Ao28, co28, eo28⟩ := Kd.N_slice HO578.out; (first | subst eo28 | (injection eo28 with f1_ f2_ f3_; have f4_ := f1_.symm; have f5_ := f3_.symm; clear f1_ f2_ f3_; subst f4_; subst f5_))
   refine hK.out _ _ (cx9 BK554.out) (fun hHeld => ?_)
   clear hK K
   refine nT 26 (h := ?_)
   refine one_ (i := 18) (N := some 27) (bA 24 2097151) rfl rfl (one_of HT_.out (by kernel_rfl)) (by decide) (fun K hK => ?_)
   refine gA Try.func22 #[.slice Ao28 t576.length co28] (h := ?_)
   with_reducible refine (credenzalaw08_groups.calls k (fun k_ => (some k_ ≠ (.slice Ao23 t569.length co23 : Value).ownBlock ∧ (some k_ ≠ (.slice Ao25 t572.length co25 : Value).ownBlock ∧ k_ ≠ gb554))) _ _ t576 t579 _ ?side1 A11.out).mono ?_
   (case side1 => exact Kd.N_V (HO578.out)); rintro e w29 ⟨v580, rfl, ho0, hb⟩
   refine ⟨_, rfl, ?_⟩
   replace HO578 := Aside0.mk (Kd.N_elder' (by (with_reducible repeat (first | apply Kd.N_alloc | apply Kd.N_drewN | apply Kd.N_drew)); exact HO578.out) (Kd.N_base ho0) hb); have HO581 := Aside0.mk (Kd.N_lower (Kd.N_mono (ok' := fun k_ => some k_ ≠ (.slice Ao23 t569.length co23 : Value).ownBlock ∧ some k_ ≠ (.slice Ao25 t572.length co25 : Value).ownBlock ∧ k_ ≠ gb554) ho0 (fun k_ hk_ => ⟨Or.elim hk_ (fun hs_ => hs_.1) (fun hn_ => (Kd.fresh' (Kd.N_lt (by (with_reducible repeat (first | apply Kd.N_alloc | apply Kd.N_drewN | apply Kd.N_drew)); exact HO571.out)) k_ hn_)), Or.elim hk_ (fun hs_ => hs_.2.1) (fun hn_ => (Kd.fresh' (Kd.N_lt (by (with_reducible repeat (first | apply Kd.N_alloc | apply Kd.N_drewN | apply Kd.N_drew)); exact HO574.out)) k_ hn_)), Or.elim hk_ (fun hs_ => hs_.2.2) (fun hn_ => (Kd.freshB (g := gb554) (o := .cells #[.int .i64 a1_0, .int .i64 a1_1, .int .i64 a1_2, .int .i64 a1_3, .int .i64 a1_4, .int .i64 a1_5, .int .i64 a1_6, .slice A1_7 l1_7.length c1_7, .slice A1_8 l1_8.length c1_8] 56 (0, 0)) (by (with_reducible repeat (first | refine blk_drewN ?_ _ | refine blk_drew ?_ | refine blk_alloc ?_ _)); exact BK554.out) k_ hn_))⟩)) (below_size bZ)); replace HO571 := Aside0.mk (Kd.N_elder' (by (with_reducible repeat (first | apply Kd.N_alloc | apply Kd.N_drewN | apply Kd.N_drew)); exact HO571.out) (Kd.N_base ho0) hb); replace HO574 := Aside0.mk (Kd.N_elder' (by (with_reducible repeat (first | apply Kd.N_alloc | apply Kd.N_drewN | apply Kd.N_drew)); exact HO574.out) (Kd.N_base ho0) hb); replace BK554 := Aside0.mk (blk_below (g := gb554) (o := .cells #[.int .i64 a1_0, .int .i64 a1_1, .int .i64 a1_2, .int .i64 a1_3, .int .i64 a1_4, .int .i64 a1_5, .int .i64 a1_6, .slice A1_7 l1_7.length c1_7, .slice A1_8 l1_8.length c1_8] 56 (0, 0)) (by (with_reducible repeat (first | refine blk_drewN ?_ _ | refine blk_drew ?_ | refine blk_alloc ?_ _)); exact BK554.out) hb); replace HB := Aside0.mk (below_step bZ hb); (try clear hb); (try clear hb2); (try clear hk); (try clear hi); (try clear ho0); obtain ⟨Ao30, co30, eo30⟩ := Kd.N_slice HO581.out; (first | subst eo30 | (injection eo30 with f1_ f2_ f3_; have f4_ := f1_.symm; have f5_ := f3_.symm; clear f1_ f2_ f3_; subst f4_; subst f5_))
   refine hK.out _ _ (cx9 BK554.out) (fun hHeld => ?_)
   clear hK K
   refine nT 27 (h := ?_)
   refine one_ (i := 21) (N := some 30) (bA 24 4194303) rfl rfl (one_of HT_.out (by kernel_rfl)) (by decide) (fun K hK => ?_)
   refine gA Try.func52 #[.slice Ao30 t579.length co30, .slice A1_8 l1_8.length c1_8] (h := ?_)
   with_reducible refine (credenzaref08_Same.calls k _ _ t579 _ _ l1_8 true _ ?side1 ?side2 ?side3 ?side4 A12.out).mono ?_
   (case side1 => with_reducible exact (Kd.N_reads' HO581.out).2.2); (case side2 => exact (Kd.N_reads' HO581.out).2.1); (case side3 => with_reducible exact (Kd.C_below HR1_8.out HB.out)); (case side4 => exact HC1_8.out); rintro e w31 ⟨rfl, hb⟩
   refine ⟨_, rfl, ?_⟩
   replace HO571 := Aside0.mk (Kd.N_below (by (with_reducible repeat (first | apply Kd.N_alloc | apply Kd.N_drewN | apply Kd.N_drew)); exact HO571.out) hb); replace HO574 := Aside0.mk (Kd.N_below (by (with_reducible repeat (first | apply Kd.N_alloc | apply Kd.N_drewN | apply Kd.N_drew)); exact HO574.out) hb); replace HO578 := Aside0.mk (Kd.N_below (by (with_reducible repeat (first | apply Kd.N_alloc | apply Kd.N_drewN | apply Kd.N_drew)); exact HO578.out) hb); replace HO581 := Aside0.mk (Kd.N_below (by (with_reducible repeat (first | apply Kd.N_alloc | apply Kd.N_drewN | apply Kd.N_drew)); exact HO581.out) hb); replace BK554 := Aside0.mk (blk_below (g := gb554) (o := .cells #[.int .i64 a1_0, .int .i64 a1_1, .int .i64 a1_2, .int .i64 a1_3, .int .i64 a1_4, .int .i64 a1_5, .int .i64 a1_6, .slice A1_7 l1_7.length c1_7, .slice A1_8 l1_8.length c1_8] 56 (0, 0)) (by (with_reducible repeat (first | refine blk_drewN ?_ _ | refine blk_drew ?_ | refine blk_alloc ?_ _)); exact BK554.out) hb); replace HB := Aside0.mk (below_step bZ hb); (try clear hb); (try clear hb2); (try clear hk); (try clear hi)
   refine hK.out _ _ (cx9 BK554.out) (fun hHeld => ?_)
   clear hK K
   refine nT 30 (h := ?_)
   refine pT 24 22 31 8388607 HT_ (h := ?_)
   refine pT 24 23 32 16777215 HT_ (h := ?_)
   refine done_ (done_of HT_.out (by kernel_rfl)) ?_
   try go_wp2_with (first | ((with_reducible refine gate_callee (f := 29) rfl ?_); refine gL 34 Try.func29 #[asPtr (.slice A0 l0.length c0)] (h := ?_); (with_reducible refine (page_Page_Keys.calls k _ _ l0 t583 _ ?side1 ?side2 A14.out).mono ?_); (case side1 => with_reducible exact (Kd.C_below HR0.out HB.out)); (case side2 => exact HC0.out); rintro e w32 ⟨v584, rfl, ho0, hb⟩; refine ⟨_, rfl, ?_⟩; have HO585 := Aside0.mk (Kd.N_lower (Kd.N_mono (ok' := fun k_ => some k_ ≠ (.slice Ao23 t569.length co23 : Value).ownBlock ∧ some k_ ≠ (.slice Ao25 t572.length co25 : Value).ownBlock ∧ some k_ ≠ (.slice Ao28 t576.length co28 : Value).ownBlock ∧ some k_ ≠ (.slice Ao30 t579.length co30 : Value).ownBlock ∧ k_ ≠ gb554) (Kd.S_N (Kd.S_bound ho0)) (fun k_ hk_ => ⟨(Kd.fresh' (Kd.N_lt HO571.out) k_ hk_.2.1), (Kd.fresh' (Kd.N_lt HO574.out) k_ hk_.2.1), (Kd.fresh' (Kd.N_lt HO578.out) k_ hk_.2.1), (Kd.fresh' (Kd.N_lt HO581.out) k_ hk_.2.1), (Kd.freshB (g := gb554) (o := .cells #[.int .i64 a1_0, .int .i64 a1_1, .int .i64 a1_2, .int .i64 a1_3, .int .i64 a1_4, .int .i64 a1_5, .int .i64 a1_6, .slice A1_7 l1_7.length c1_7, .slice A1_8 l1_8.length c1_8] 56 (0, 0)) BK554.out k_ hk_.2.1)⟩)) (bsz HB)); replace HO571 := Aside0.mk (Kd.N_elder' HO571.out (Kd.S_base ho0) hb); replace HO574 := Aside0.mk (Kd.N_elder' HO574.out (Kd.S_base ho0) hb); replace HO578 := Aside0.mk (Kd.N_elder' HO578.out (Kd.S_base ho0) hb); replace HO581 := Aside0.mk (Kd.N_elder' HO581.out (Kd.S_base ho0) hb); replace BK554 := kst BK554 hb; replace HB := bst HB hb; clear hb ho0) | ((with_reducible refine gate_callee (f := 30) rfl ?_); refine gL 36 Try.func30 #[asPtr (.slice A0 l0.length c0)] (h := ?_); (with_reducible refine (page_Page_Values.calls k _ _ l0 t586 _ ?side1 ?side2 A15.out).mono ?_); (case side1 => with_reducible exact (Kd.C_below HR0.out HB.out)); (case side2 => exact HC0.out); rintro e w33 ⟨v587, rfl, ho0, hb⟩; refine ⟨_, rfl, ?_⟩; have HO588 := Aside0.mk (Kd.N_lower (Kd.N_mono (ok' := fun k_ => some k_ ≠ (.slice Ao23 t569.length co23 : Value).ownBlock ∧ some k_ ≠ (.slice Ao25 t572.length co25 : Value).ownBlock ∧ some k_ ≠ (.slice Ao28 t576.length co28 : Value).ownBlock ∧ some k_ ≠ (.slice Ao30 t579.length co30 : Value).ownBlock ∧ some k_ ≠ (v584 : Value).ownBlock ∧ k_ ≠ gb554) (Kd.S_N (Kd.S_bound ho0)) (fun k_ hk_ => ⟨(Kd.fresh' (Kd.N_lt HO571.out) k_ hk_.2.1), (Kd.fresh' (Kd.N_lt HO574.out) k_ hk_.2.1), (Kd.fresh' (Kd.N_lt HO578.out) k_ hk_.2.1), (Kd.fresh' (Kd.N_lt HO581.out) k_ hk_.2.1), (Kd.fresh' (Kd.N_lt HO585.out) k_ hk_.2.1), (Kd.freshB (g := gb554) (o := .cells #[.int .i64 a1_0, .int .i64 a1_1, .int .i64 a1_2, .int .i64 a1_3, .int .i64 a1_4, .int .i64 a1_5, .int .i64 a1_6, .slice A1_7 l1_7.length c1_7, .slice A1_8 l1_8.length c1_8] 56 (0, 0)) BK554.out k_ hk_.2.1)⟩)) (bsz HB)); replace HO571 := Aside0.mk (Kd.N_elder' HO571.out (Kd.S_base ho0) hb); replace HO574 := Aside0.mk (Kd.N_elder' HO574.out (Kd.S_base ho0) hb); replace HO578 := Aside0.mk (Kd.N_elder' HO578.out (Kd.S_base ho0) hb); replace HO581 := Aside0.mk (Kd.N_elder' HO581.out (Kd.S_base ho0) hb); replace HO585 := Aside0.mk (Kd.N_elder' HO585.out (Kd.S_base ho0) hb); replace BK554 := kst BK554 hb; replace HB := bst HB hb; clear hb ho0; obtain ⟨Ao34, co34, eo34⟩ := Kd.N_slice HO585.out; subst eo34; have hz35 := bx9 BK554.out; obtain ⟨Ao36, co36, eo36⟩ := Kd.N_slice HO588.out; subst eo36))
   go_loopg [53] k (fun kq v53 w' => ∃ (x53_1 : Int), v53 = .int .i64 x53_1 ∧ Aside0 (credenzalaw08_is.l0 kq l0 t583 t586 (t583.length : Int) x53_1 a1_0 a1_1 a1_2 a1_3 a1_4 a1_5 a1_6 l1_7 l1_8 = some r) ∧ Aside0 (kq ≤ k) ∧ Aside0 (Kd.N (Kd.slice 21 (Kd.int .i32)) 43 w' w.heap.size (fun k_ => some k_ ≠ ((.slice Ao36 t586.length co36) : Value).ownBlock ∧ k_ ≠ gb554) (.slice Ao34 t583.length co34) t583) ∧ Aside0 (Kd.N (Kd.slice 21 (Kd.int .i32)) 43 w' w.heap.size (fun k_ => some k_ ≠ ((.slice Ao34 t583.length co34) : Value).ownBlock ∧ k_ ≠ gb554) (.slice Ao36 t586.length co36) t586) ∧ Aside0 (w'.heap[gb554]? = some (.cells #[.int .i64 a1_0, .int .i64 a1_1, .int .i64 a1_2, .int .i64 a1_3, .int .i64 a1_4, .int .i64 a1_5, .int .i64 a1_6, (.slice A1_7 l1_7.length c1_7), (.slice A1_8 l1_8.length c1_8)] 56 (0, 0))) ∧ Aside0 (Below w.heap.size w w'))
   case atStart => exact ⟨(0), rfl, H', ⟨Nat.le_refl _⟩, ⟨by exact Kd.N_mono HO585.out (fun _ hk => ⟨hk.2, hk.1.2.2.2.2⟩)⟩, ⟨by exact Kd.N_mono HO588.out (fun _ hk => ⟨hk.2.2.2.2.1, hk.2.2.2.2.2⟩)⟩, BK554, HB⟩
   case round =>
    clear H'; (try clear c1); (try clear c2); (try clear p2); (try clear c3); (try clear c5); (try clear c5b0); (try clear c9); (try clear c10); (try clear c13); (try clear c16); (try clear c16b0); (try clear c16b1); (try clear c17); (try clear c17b0); (try clear c17b1); (try clear c22); (try clear c25); (try clear c29); (try clear c30); (try clear c32); (try clear hz35); obtain ⟨x53_1, rfl, HA, HK1, HO_5, HO_6, BK554, HB⟩ := hrel
    cases gk with
    | zero => exact absurd HA.out (by simp [credenzalaw08_is.l0])
    | succ k1 =>
     have H := HA.out; clear HA; simp only [credenzalaw08_is.l0] at H
     by_cases c37 : x53_1 < (t583.length : Int)
     ·
      rw [if_pos c37] at H; have c37b0 : decide (x53_1 < (t583.length : Int)) = true := decide_eq_true c37; clear c37; obtain ⟨c38, H⟩ := ifp H; have c38b0 : decide (0 ≤ x53_1) = true := decide_eq_true c38; clear c38; obtain ⟨c39, H⟩ := ifp H; have c39b0 : decide (x53_1 < (t583.length : Int)) = true := decide_eq_true c39; clear c39; obtain ⟨t594, A40, H⟩ := bnd H; obtain ⟨t597, A41, H⟩ := bnd H
      by_cases c42 : t597 = true
      ·
       subst c42; rw [if_pos rfl] at H; obtain ⟨c43, H⟩ := ifp H; have c43b0 : decide (x53_1 < (t586.length : Int)) = true := decide_eq_true c43; clear c43; obtain ⟨t599, A44, H⟩ := bnd H; obtain ⟨t602, A45, H⟩ := bnd H
       by_cases c46 : t602 = true
       ·
        subst c46; rw [if_pos rfl] at H; have H' := Aside0.mk H; clear H
        try go_wp2
        replace HO_5 := Aside0.mk (Kd.N_drew HO_5.out); replace HO_6 := Aside0.mk (Kd.N_drew HO_6.out); replace BK554 := Aside0.mk (blk_drew BK554.out); replace HB := Aside0.mk (below_drew1 HB.out); have p593 : 0 ≤ (x53_1 : Int) := oD; have q593 : x53_1 < (t583.length : Int) := oD; obtain ⟨ad593, A593_0, c593_0, e593, hx593_0, hl593_0, hi593_0⟩ := at_L1 (Kd.N_reads' HO_5.out).2.2 x53_1 p593 q593
        cases e593
        obtain ⟨ce593, hce593, hMe593, hcc593⟩ := Kd.N_get HO_5.out [] x53_1 p593 (by first | exact q593 | exact oD | (have e_ := (Kd.N_reads' HO_5.out).1; omega)); obtain ⟨ua593_0, uc593_0, rfl, ul593_0, ge593_0⟩ := Kd.FK_slice_open hMe593; have hv593_0 := hcc593 0 _ rfl; rw [Nat.add_zero, show ((Kd.slice 21 (Kd.int .i32))).sz = 1 from rfl, Nat.mul_one] at hv593_0; replace hv593_0 := Option.some.inj (hv593_0.symm.trans hx593_0); injection hv593_0 with hva_ hvn_ hvc_; rw [hva_] at ge593_0; rw [hvc_] at ul593_0; have HL593_0 := Aside0.mk (show Kd.V (Kd.int .i32) 21 _ w.heap.size _ _ (rd_L1 t583 x53_1) from Kd.V_mk ul593_0 ge593_0); clear hva_ hvn_ hvc_ ge593_0 ul593_0; clear hcc593 hce593; have HR593_0 := Aside0.mk hi593_0; have HC593_0 := Aside0.mk hl593_0; clear hi593_0 hl593_0; replace p593 := eq_true p593; replace q593 := eq_true q593; have p598 : 0 ≤ (x53_1 : Int) := oD; have q598 : x53_1 < (t586.length : Int) := oD; obtain ⟨ad598, A598_0, c598_0, e598, hx598_0, hl598_0, hi598_0⟩ := at_L1 (Kd.N_reads' HO_6.out).2.2 x53_1 p598 q598
        cases e598
        obtain ⟨ce598, hce598, hMe598, hcc598⟩ := Kd.N_get HO_6.out [] x53_1 p598 (by first | exact q598 | exact oD | (have e_ := (Kd.N_reads' HO_6.out).1; omega)); obtain ⟨ua598_0, uc598_0, rfl, ul598_0, ge598_0⟩ := Kd.FK_slice_open hMe598; have hv598_0 := hcc598 0 _ rfl; rw [Nat.add_zero, show ((Kd.slice 21 (Kd.int .i32))).sz = 1 from rfl, Nat.mul_one] at hv598_0; replace hv598_0 := Option.some.inj (hv598_0.symm.trans hx598_0); injection hv598_0 with hva_ hvn_ hvc_; rw [hva_] at ge598_0; rw [hvc_] at ul598_0; have HL598_0 := Aside0.mk (show Kd.V (Kd.int .i32) 21 _ w.heap.size _ _ (rd_L1 t586 x53_1) from Kd.V_mk ul598_0 ge598_0); clear hva_ hvn_ hvc_ ge598_0 ul598_0; clear hcc598 hce598; have HR598_0 := Aside0.mk hi598_0; have HC598_0 := Aside0.mk hl598_0; clear hi598_0 hl598_0; replace p598 := eq_true p598; replace q598 := eq_true q598; (refine start_ (n := 20) (S := fun w' => w'.cell? ⟨gb554, 0, none⟩ = some (.int .i64 a1_0) ∧ w'.cell? ⟨gb554, 1, none⟩ = some (.int .i64 a1_1) ∧ w'.cell? ⟨gb554, 2, none⟩ = some (.int .i64 a1_2) ∧ w'.cell? ⟨gb554, 3, none⟩ = some (.int .i64 a1_3) ∧ w'.cell? ⟨gb554, 4, none⟩ = some (.int .i64 a1_4) ∧ w'.cell? ⟨gb554, 5, none⟩ = some (.int .i64 a1_5) ∧ w'.cell? ⟨gb554, 6, none⟩ = some (.int .i64 a1_6) ∧ w'.cell? ⟨gb554, 7, none⟩ = some (.slice A1_7 l1_7.length c1_7) ∧ w'.cell? ⟨gb554, 8, none⟩ = some (.slice A1_8 l1_8.length c1_8) ∧ w'.cell? (ad593.add (x53_1).toNat) = some (.slice A593_0 (rd_L1 t583 x53_1).length c593_0) ∧ w'.cell? (ad598.add (x53_1).toNat) = some (.slice A598_0 (rd_L1 t586 x53_1).length c598_0)) (ds := []) (bA 20 0) (by kernel_rfl) rfl (by kernel_rfl) ⟨(blk_cell BK554.out 0).trans rfl, (blk_cell BK554.out 1).trans rfl, (blk_cell BK554.out 2).trans rfl, (blk_cell BK554.out 3).trans rfl, (blk_cell BK554.out 4).trans rfl, (blk_cell BK554.out 5).trans rfl, (blk_cell BK554.out 6).trans rfl, (blk_cell BK554.out 7).trans rfl, (blk_cell BK554.out 8).trans rfl, hx593_0, hx598_0⟩ (fun hHeld => ?_); refine with_tabW credenzalaw08_is.tab9 credenzalaw08_is.bits9 (fun HT_ HW_ => ?_)); generalize wr.drew = w47 at HO_5 HO_6 BK554 HB HL593_0 HL598_0 HR593_0 HR598_0 hx593_0 hx598_0 hHeld ⊢
        refine pT 20 0 56 1 HT_ (h := ?_)
        refine pT 20 1 57 3 HT_ (h := ?_)
        refine pT 20 2 58 7 HT_ (h := ?_)
        refine pT 20 5 61 39 HT_ (h := ?_)
        refine tT 20 3 59 47 HT_ HW_ hHeld (h := ?_)
        refine tT 20 4 60 63 HT_ HW_ hHeld (h := ?_)
        refine one_ (i := 6) (N := some 62) (bA 20 127) rfl rfl (one_of HT_.out (by kernel_rfl)) (by decide) (fun K hK => ?_)
        refine gA Try.func54 #[.agg #[.int .i64 a1_0, .int .i64 a1_1, .int .i64 a1_2, .int .i64 a1_3, .int .i64 a1_4, .int .i64 a1_5, .int .i64 a1_6, .slice A1_7 l1_7.length c1_7, .slice A1_8 l1_8.length c1_8], .int .i64 x53_1] (h := ?_)
        with_reducible refine (credenzaref08_Page_Key.calls k1 a1_0 a1_1 a1_2 a1_3 a1_4 a1_5 a1_6 _ _ l1_7 _ _ l1_8 x53_1 t594 _ ?side1 ?side2 ?side3 ?side4 A40.out).mono ?_
        (case side1 => with_reducible exact (Kd.C_below HR1_7.out HB.out)); (case side2 => exact HC1_7.out); (case side3 => with_reducible exact (Kd.C_below HR1_8.out HB.out)); (case side4 => exact HC1_8.out); rintro e w48 ⟨v595, rfl, ho0, hb⟩; have HS9_ := (hb.cell (World.block_lt_of_cell? _ _ (hHeld.2.2.2.2.2.2.2.2.2.1))).trans (hHeld.2.2.2.2.2.2.2.2.2.1); have HS10_ := (hb.cell (World.block_lt_of_cell? _ _ (hHeld.2.2.2.2.2.2.2.2.2.2))).trans (hHeld.2.2.2.2.2.2.2.2.2.2)
        refine ⟨_, rfl, ?_⟩
        replace HL598_0 := Aside0.mk (Kd.V_elder' HL598_0.out (Kd.R_base ho0) hb); replace HR598_0 := Aside0.mk (Kd.C_below HR598_0.out hb); replace HO_5 := Aside0.mk (Kd.N_elder' (by (with_reducible repeat (first | apply Kd.N_alloc | apply Kd.N_drewN | apply Kd.N_drew)); exact HO_5.out) (Kd.R_base ho0) hb); replace HO_6 := Aside0.mk (Kd.N_elder' (by (with_reducible repeat (first | apply Kd.N_alloc | apply Kd.N_drewN | apply Kd.N_drew)); exact HO_6.out) (Kd.R_base ho0) hb); replace HL593_0 := Aside0.mk (Kd.V_elder' (by (with_reducible repeat (first | apply Kd.V_alloc | apply Kd.V_drewN | apply Kd.V_drew)); exact HL593_0.out) (Kd.R_base ho0) hb); have HO596 := Aside0.mk (Kd.R_lower ho0 (below_size bZ)); replace BK554 := Aside0.mk (blk_below (g := gb554) (o := .cells #[.int .i64 a1_0, .int .i64 a1_1, .int .i64 a1_2, .int .i64 a1_3, .int .i64 a1_4, .int .i64 a1_5, .int .i64 a1_6, .slice A1_7 l1_7.length c1_7, .slice A1_8 l1_8.length c1_8] 56 (0, 0)) (by (with_reducible repeat (first | refine blk_drewN ?_ _ | refine blk_drew ?_ | refine blk_alloc ?_ _)); exact BK554.out) hb); replace HR593_0 := Aside0.mk (Kd.C_below (by repeat (first | (with_reducible exact HR593_0.out) | (with_reducible refine Kd.C_alloc ?_ _) | (with_reducible refine Kd.C_drewN ?_ _) | (with_reducible refine Kd.C_drew ?_) | exact HR593_0.out)) hb); replace HB := Aside0.mk (below_step bZ hb); (try clear hb); (try clear hb2); (try clear hk); (try clear hi); (try clear ho0); obtain ⟨Ao49, co49, eo49⟩ := Kd.R_slice HO596.out; (first | subst eo49 | (injection eo49 with f1_ f2_ f3_; have f4_ := f1_.symm; have f5_ := f3_.symm; clear f1_ f2_ f3_; subst f4_; subst f5_))
        refine hK.out _ _ ⟨(blk_cell BK554.out 0).trans rfl, (blk_cell BK554.out 1).trans rfl, (blk_cell BK554.out 2).trans rfl, (blk_cell BK554.out 3).trans rfl, (blk_cell BK554.out 4).trans rfl, (blk_cell BK554.out 5).trans rfl, (blk_cell BK554.out 6).trans rfl, (blk_cell BK554.out 7).trans rfl, (blk_cell BK554.out 8).trans rfl, HS9_, HS10_⟩ (fun hHeld => ?_)
        clear hK K
        refine nT 62 (h := ?_)
        refine one_ (i := 7) (N := some 63) (bA 20 255) rfl rfl (one_of HT_.out (by kernel_rfl)) (by decide) (fun K hK => ?_)
        refine gA Try.func53 #[.slice A593_0 (rd_L1 t583 x53_1).length c593_0, .slice Ao49 t594.length co49] (h := ?_)
        with_reducible refine (credenzaref03_Same.calls k1 _ _ (rd_L1 t583 x53_1) _ _ t594 true _ ?side1 ?side2 ?side3 ?side4 A41.out).mono ?_
        (case side1 => with_reducible exact (by repeat (first | (with_reducible exact HR593_0.out) | (with_reducible refine Kd.C_alloc ?_ _) | (with_reducible refine Kd.C_drewN ?_ _) | (with_reducible refine Kd.C_drew ?_) | exact HR593_0.out))); (case side2 => exact HC593_0.out); (case side3 => with_reducible exact (Kd.R_reads' HO596.out).2.2); (case side4 => exact (Kd.R_reads' HO596.out).2.1); rintro e w' ⟨rfl, ⟨nd, rfl⟩⟩
        refine ⟨_, rfl, ?_⟩
        refine hK.out _ _ ⟨(blk_cell BK554.out 0).trans rfl, (blk_cell BK554.out 1).trans rfl, (blk_cell BK554.out 2).trans rfl, (blk_cell BK554.out 3).trans rfl, (blk_cell BK554.out 4).trans rfl, (blk_cell BK554.out 5).trans rfl, (blk_cell BK554.out 6).trans rfl, (blk_cell BK554.out 7).trans rfl, (blk_cell BK554.out 8).trans rfl, hHeld.2.2.2.2.2.2.2.2.2.1, hHeld.2.2.2.2.2.2.2.2.2.2⟩ (fun hHeld => ?_)
        clear hK K
        refine nT 63 (h := ?_)
        refine pT 20 8 64 511 HT_ (h := ?_)
        refine pT 20 9 65 1023 HT_ (h := ?_)
        refine pT 20 10 66 2047 HT_ (h := ?_)
        refine pT 20 11 67 4095 HT_ (h := ?_)
        refine pT 20 12 68 8191 HT_ (h := ?_)
        refine pT 20 15 71 40959 HT_ (h := ?_)
        refine tT 20 13 69 49151 HT_ HW_ hHeld (h := ?_)
        refine tT 20 14 70 65535 HT_ HW_ hHeld (h := ?_)
        refine one_ (i := 16) (N := some 72) (bA 20 131071) rfl rfl (one_of HT_.out (by kernel_rfl)) (by decide) (fun K hK => ?_)
        refine gA Try.func55 #[.agg #[.int .i64 a1_0, .int .i64 a1_1, .int .i64 a1_2, .int .i64 a1_3, .int .i64 a1_4, .int .i64 a1_5, .int .i64 a1_6, .slice A1_7 l1_7.length c1_7, .slice A1_8 l1_8.length c1_8], .int .i64 x53_1] (h := ?_)
        with_reducible refine (credenzaref08_Page_Value.calls k1 a1_0 a1_1 a1_2 a1_3 a1_4 a1_5 a1_6 _ _ l1_7 _ _ l1_8 x53_1 t599 _ ?side1 ?side2 ?side3 ?side4 A44.out).mono ?_
        (case side1 => repeat (first | exact (Kd.C_below HR1_7.out bZ) | (with_reducible refine Kd.C_alloc ?_ _) | (with_reducible refine Kd.C_drewN ?_ _) | (with_reducible refine Kd.C_drew ?_))); (case side2 => exact HC1_7.out); (case side3 => repeat (first | exact (Kd.C_below HR1_8.out bZ) | (with_reducible refine Kd.C_alloc ?_ _) | (with_reducible refine Kd.C_drewN ?_ _) | (with_reducible refine Kd.C_drew ?_))); (case side4 => exact HC1_8.out); rintro e w50 ⟨v600, rfl, ho0, hb⟩; have HS9_ := (hb.cell (World.block_lt_of_cell? _ _ (hHeld.2.2.2.2.2.2.2.2.2.1))).trans (hHeld.2.2.2.2.2.2.2.2.2.1); have HS10_ := (hb.cell (World.block_lt_of_cell? _ _ (hHeld.2.2.2.2.2.2.2.2.2.2))).trans (hHeld.2.2.2.2.2.2.2.2.2.2)
        refine ⟨_, rfl, ?_⟩
        replace HO_5 := Aside0.mk (Kd.N_elder' (by (with_reducible repeat (first | apply Kd.N_alloc | apply Kd.N_drewN | apply Kd.N_drew)); exact HO_5.out) (Kd.R_base ho0) hb); replace HO_6 := Aside0.mk (Kd.N_elder' (by (with_reducible repeat (first | apply Kd.N_alloc | apply Kd.N_drewN | apply Kd.N_drew)); exact HO_6.out) (Kd.R_base ho0) hb); replace HL593_0 := Aside0.mk (Kd.V_elder' (by (with_reducible repeat (first | apply Kd.V_alloc | apply Kd.V_drewN | apply Kd.V_drew)); exact HL593_0.out) (Kd.R_base ho0) hb); replace HL598_0 := Aside0.mk (Kd.V_elder' (by (with_reducible repeat (first | apply Kd.V_alloc | apply Kd.V_drewN | apply Kd.V_drew)); exact HL598_0.out) (Kd.R_base ho0) hb); have HO601 := Aside0.mk (Kd.R_lower (Kd.R_new' ho0 (Kd.R_lt (by (with_reducible repeat (first | apply Kd.R_alloc | apply Kd.R_drewN | apply Kd.R_drew)); exact HO596.out))) (below_size bZ)); replace HO596 := Aside0.mk (Kd.R_elder' (by (with_reducible repeat (first | apply Kd.R_alloc | apply Kd.R_drewN | apply Kd.R_drew)); exact HO596.out) (Kd.R_base ho0) hb); replace BK554 := Aside0.mk (blk_below (g := gb554) (o := .cells #[.int .i64 a1_0, .int .i64 a1_1, .int .i64 a1_2, .int .i64 a1_3, .int .i64 a1_4, .int .i64 a1_5, .int .i64 a1_6, .slice A1_7 l1_7.length c1_7, .slice A1_8 l1_8.length c1_8] 56 (0, 0)) (by (with_reducible repeat (first | refine blk_drewN ?_ _ | refine blk_drew ?_ | refine blk_alloc ?_ _)); exact BK554.out) hb); replace HR593_0 := Aside0.mk (Kd.C_below (by repeat (first | (with_reducible exact HR593_0.out) | (with_reducible refine Kd.C_alloc ?_ _) | (with_reducible refine Kd.C_drewN ?_ _) | (with_reducible refine Kd.C_drew ?_) | exact HR593_0.out)) hb); replace HR598_0 := Aside0.mk (Kd.C_below (by repeat (first | (with_reducible exact HR598_0.out) | (with_reducible refine Kd.C_alloc ?_ _) | (with_reducible refine Kd.C_drewN ?_ _) | (with_reducible refine Kd.C_drew ?_) | exact HR598_0.out)) hb); replace HB := Aside0.mk (below_step bZ hb); (try clear hb); (try clear hb2); (try clear hk); (try clear hi); (try clear ho0); obtain ⟨Ao51, co51, eo51⟩ := Kd.R_slice HO601.out; (first | subst eo51 | (injection eo51 with f1_ f2_ f3_; have f4_ := f1_.symm; have f5_ := f3_.symm; clear f1_ f2_ f3_; subst f4_; subst f5_))
        refine hK.out _ _ ⟨(blk_cell BK554.out 0).trans rfl, (blk_cell BK554.out 1).trans rfl, (blk_cell BK554.out 2).trans rfl, (blk_cell BK554.out 3).trans rfl, (blk_cell BK554.out 4).trans rfl, (blk_cell BK554.out 5).trans rfl, (blk_cell BK554.out 6).trans rfl, (blk_cell BK554.out 7).trans rfl, (blk_cell BK554.out 8).trans rfl, HS9_, HS10_⟩ (fun hHeld => ?_)
        clear hK K
        refine nT 72 (h := ?_)
        refine one_ (i := 17) (N := some 73) (bA 20 262143) rfl rfl (one_of HT_.out (by kernel_rfl)) (by decide) (fun K hK => ?_)
        refine gA Try.func53 #[.slice A598_0 (rd_L1 t586 x53_1).length c598_0, .slice Ao51 t599.length co51] (h := ?_)
        with_reducible refine (credenzaref03_Same.calls k1 _ _ (rd_L1 t586 x53_1) _ _ t599 true _ ?side1 ?side2 ?side3 ?side4 A45.out).mono ?_
        (case side1 => with_reducible exact (by repeat (first | (with_reducible exact HR598_0.out) | (with_reducible refine Kd.C_alloc ?_ _) | (with_reducible refine Kd.C_drewN ?_ _) | (with_reducible refine Kd.C_drew ?_) | exact HR598_0.out))); (case side2 => exact HC598_0.out); (case side3 => with_reducible exact (Kd.R_reads' HO601.out).2.2); (case side4 => exact (Kd.R_reads' HO601.out).2.1); rintro e w' ⟨rfl, ⟨nd, rfl⟩⟩
        refine ⟨_, rfl, ?_⟩
        refine hK.out _ _ ⟨(blk_cell BK554.out 0).trans rfl, (blk_cell BK554.out 1).trans rfl, (blk_cell BK554.out 2).trans rfl, (blk_cell BK554.out 3).trans rfl, (blk_cell BK554.out 4).trans rfl, (blk_cell BK554.out 5).trans rfl, (blk_cell BK554.out 6).trans rfl, (blk_cell BK554.out 7).trans rfl, (blk_cell BK554.out 8).trans rfl, hHeld.2.2.2.2.2.2.2.2.2.1, hHeld.2.2.2.2.2.2.2.2.2.2⟩ (fun hHeld => ?_)
        clear hK K
        refine nT 73 (h := ?_)
        refine pT 20 18 74 524287 HT_ (h := ?_)
        refine pT 20 19 75 1048575 HT_ (h := ?_)
        refine done_ (done_of HT_.out (by kernel_rfl)) ?_
        have p603 : 0 ≤ (x53_1 : Int) := oD; have q603 : x53_1 < (t583.length : Int) := oD; obtain ⟨ad603, A603_0, c603_0, e603, hx603_0, hl603_0, hi603_0⟩ := at_L1 (Kd.N_reads' HO_5.out).2.2 x53_1 p603 q603; obtain rfl : ad593 = ad603 := (by injection e603); obtain ⟨ce603, hce603, hMe603, hcc603⟩ := Kd.N_get HO_5.out [] x53_1 p603 (by first | exact q603 | exact oD | (have e_ := (Kd.N_reads' HO_5.out).1; omega)); obtain ⟨ua603_0, uc603_0, rfl, ul603_0, ge603_0⟩ := Kd.FK_slice_open hMe603; have hv603_0 := hcc603 0 _ rfl; rw [Nat.add_zero, show ((Kd.slice 21 (Kd.int .i32))).sz = 1 from rfl, Nat.mul_one] at hv603_0; replace hv603_0 := Option.some.inj (hv603_0.symm.trans hx603_0); injection hv603_0 with hva_ hvn_ hvc_; rw [hva_] at ge603_0; rw [hvc_] at ul603_0; have HL603_0 := Aside0.mk (show Kd.V (Kd.int .i32) 21 _ w.heap.size _ _ (rd_L1 t583 x53_1) from Kd.V_mk ul603_0 ge603_0); clear hva_ hvn_ hvc_ ge603_0 ul603_0; clear hcc603 hce603; have HR603_0 := Aside0.mk hi603_0; have HC603_0 := Aside0.mk hl603_0; clear hi603_0 hl603_0; replace p603 := eq_true p603; replace q603 := eq_true q603
        try go_wp2
        go_loopg [81] k1 (fun kq v81 w' => ∃ (x81_2 : Int), v81 = .int .i64 x81_2 ∧ Aside0 (credenzalaw08_is.l1 kq l0 t583 t586 x53_1 (t583.length : Int) x53_1 ((rd_L1 t583 x53_1).length : Int) x81_2 a1_0 a1_1 a1_2 a1_3 a1_4 a1_5 a1_6 l1_7 l1_8 = some r) ∧ Aside0 (kq ≤ k1) ∧ Aside0 (Kd.N (Kd.slice 21 (Kd.int .i32)) 43 w' w.heap.size (fun k_ => some k_ ≠ ((.slice (some ad598) t586.length co36) : Value).ownBlock ∧ k_ ≠ gb554) (.slice (some ad593) t583.length co34) t583) ∧ Aside0 (Kd.N (Kd.slice 21 (Kd.int .i32)) 43 w' w.heap.size (fun k_ => some k_ ≠ ((.slice (some ad593) t583.length co34) : Value).ownBlock ∧ k_ ≠ gb554) (.slice (some ad598) t586.length co36) t586) ∧ Aside0 (w'.heap[gb554]? = some (.cells #[.int .i64 a1_0, .int .i64 a1_1, .int .i64 a1_2, .int .i64 a1_3, .int .i64 a1_4, .int .i64 a1_5, .int .i64 a1_6, (.slice A1_7 l1_7.length c1_7), (.slice A1_8 l1_8.length c1_8)] 56 (0, 0))) ∧ Aside0 (Kd.C (Kd.int .i32) w' A593_0 (rd_L1 t583 x53_1).length (rd_L1 t583 x53_1)) ∧ Aside0 (Kd.C (Kd.int .i32) w' A598_0 (rd_L1 t586 x53_1).length (rd_L1 t586 x53_1)) ∧ Aside0 (Kd.C (Kd.int .i32) w' A603_0 (rd_L1 t583 x53_1).length (rd_L1 t583 x53_1)) ∧ Aside0 (Below w.heap.size w w'))
        case atStart => exact ⟨(0), rfl, H', ⟨Nat.le_refl _⟩, ⟨by (with_reducible repeat (first | apply Kd.N_alloc | apply Kd.N_drewN | apply Kd.N_drew)); exact Kd.N_mono HO_5.out (fun _ hk => ⟨hk.1.1.1, hk.1.1.2⟩)⟩, ⟨by (with_reducible repeat (first | apply Kd.N_alloc | apply Kd.N_drewN | apply Kd.N_drew)); exact Kd.N_mono HO_6.out (fun _ hk => ⟨hk.1.1.1, hk.1.1.2⟩)⟩, ⟨by (with_reducible repeat (first | refine blk_drewN ?_ _ | refine blk_drew ?_ | refine blk_alloc ?_ _)); exact BK554.out⟩, ⟨by repeat (first | (with_reducible exact HR593_0.out) | (with_reducible refine Kd.C_alloc ?_ _) | (with_reducible refine Kd.C_drewN ?_ _) | (with_reducible refine Kd.C_drew ?_) | exact HR593_0.out)⟩, ⟨by repeat (first | (with_reducible exact HR598_0.out) | (with_reducible refine Kd.C_alloc ?_ _) | (with_reducible refine Kd.C_drewN ?_ _) | (with_reducible refine Kd.C_drew ?_) | exact HR598_0.out)⟩, ⟨by repeat (first | (with_reducible exact HR603_0.out) | (with_reducible refine Kd.C_alloc ?_ _) | (with_reducible refine Kd.C_drewN ?_ _) | (with_reducible refine Kd.C_drew ?_) | exact HR603_0.out)⟩, ⟨bZ⟩⟩
        case round =>
         clear H'; (try clear c1); (try clear c2); (try clear p2); (try clear c3); (try clear c4); (try clear c5); (try clear c5b0); (try clear p5); (try clear q5); (try clear hx5); (try clear c6); (try clear p6); (try clear q6); (try clear hx6); (try clear c9); (try clear c10); (try clear c13); (try clear c16); (try clear c16b0); (try clear c16b1); (try clear c17); (try clear c17b0); (try clear c17b1); (try clear c22); (try clear c25); (try clear c29); (try clear c30); (try clear c32); (try clear c37); (try clear c37b0); (try clear c38); (try clear c38b0); (try clear c39); (try clear c39b0); (try clear c42); (try clear c43); (try clear c43b0); (try clear c46); (try clear hz35); (try clear hx593_0); (try clear hx598_0); (try clear hx603_0); (try clear p2); (try clear p593); (try clear p598); (try clear p603); (try clear q593); (try clear q598); (try clear q603); obtain ⟨x81_2, rfl, HA, HK2, HO_5, HO_6, BK554, HR593_0, HR598_0, HR603_0, HB⟩ := hrel
         cases gk with
         | zero => exact absurd HA.out (by simp [credenzalaw08_is.l1])
         | succ k2 =>
          have H := HA.out; clear HA; simp only [credenzalaw08_is.l1] at H
          by_cases c52 : x81_2 < ((rd_L1 t583 x53_1).length : Int)
          ·
           rw [if_pos c52] at H; have c52b0 : decide (x81_2 < ((rd_L1 t583 x53_1).length : Int)) = true := decide_eq_true c52; clear c52; obtain ⟨t604, A53, H⟩ := bnd H; obtain ⟨c54, H⟩ := ifp H; have c54b0 : decide (0 ≤ x53_1) = true := decide_eq_true c54; clear c54; obtain ⟨c55, H⟩ := ifp H; have c55b0 : decide (x53_1 < (t583.length : Int)) = true := decide_eq_true c55; clear c55; obtain ⟨c56, H⟩ := ifp H; have c56b0 : decide (0 ≤ x81_2) = true := decide_eq_true c56; clear c56; obtain ⟨c57, H⟩ := ifp H; have c57b0 : decide (x81_2 < ((rd_L1 t583 x53_1).length : Int)) = true := decide_eq_true c57; clear c57; obtain ⟨c58, H⟩ := ifp H; have c58b0 : (t604 == (rd (rd_L1 t583 x53_1) x81_2)) = true := beq_iff_eq.mpr c58; have c58b1 : (t604 != (rd (rd_L1 t583 x53_1) x81_2)) = false := bne_eq_false_iff_eq.mpr c58; clear c58; obtain ⟨t607, A59, H⟩ := bnd H; obtain ⟨c60, H⟩ := ifp H; have c60b0 : decide (x53_1 < (t586.length : Int)) = true := decide_eq_true c60; clear c60; obtain ⟨c61, H⟩ := ifp H; have c61b0 : decide (x81_2 < ((rd_L1 t586 x53_1).length : Int)) = true := decide_eq_true c61; clear c61; obtain ⟨c62, H⟩ := ifp H; have c62b0 : (t607 == (rd (rd_L1 t586 x53_1) x81_2)) = true := beq_iff_eq.mpr c62; have c62b1 : (t607 != (rd (rd_L1 t586 x53_1) x81_2)) = false := bne_eq_false_iff_eq.mpr c62; clear c62; have H' := Aside0.mk H; clear H
           try go_wp2
           replace HO_5 := Aside0.mk (Kd.N_drew HO_5.out); replace HO_6 := Aside0.mk (Kd.N_drew HO_6.out); replace BK554 := Aside0.mk (blk_drew BK554.out); replace HR593_0 := Aside0.mk (Kd.C_drew HR593_0.out); replace HR598_0 := Aside0.mk (Kd.C_drew HR598_0.out); replace HR603_0 := Aside0.mk (Kd.C_drew HR603_0.out); replace HB := Aside0.mk (below_drew1 HB.out); have p605 : 0 ≤ (x53_1 : Int) := oD; have q605 : x53_1 < (t583.length : Int) := oD; obtain ⟨ad605, A605_0, c605_0, e605, hx605_0, hl605_0, hi605_0⟩ := at_L1 (Kd.N_reads' HO_5.out).2.2 x53_1 p605 q605; obtain rfl : ad593 = ad605 := (by injection e605); obtain ⟨ce605, hce605, hMe605, hcc605⟩ := Kd.N_get HO_5.out [] x53_1 p605 (by first | exact q605 | exact oD | (have e_ := (Kd.N_reads' HO_5.out).1; omega)); obtain ⟨ua605_0, uc605_0, rfl, ul605_0, ge605_0⟩ := Kd.FK_slice_open hMe605; have hv605_0 := hcc605 0 _ rfl; rw [Nat.add_zero, show ((Kd.slice 21 (Kd.int .i32))).sz = 1 from rfl, Nat.mul_one] at hv605_0; replace hv605_0 := Option.some.inj (hv605_0.symm.trans hx605_0); injection hv605_0 with hva_ hvn_ hvc_; rw [hva_] at ge605_0; rw [hvc_] at ul605_0; have HL605_0 := Aside0.mk (show Kd.V (Kd.int .i32) 21 _ w.heap.size _ _ (rd_L1 t583 x53_1) from Kd.V_mk ul605_0 ge605_0); clear hva_ hvn_ hvc_ ge605_0 ul605_0; clear hcc605 hce605; have HR605_0 := Aside0.mk hi605_0; have HC605_0 := Aside0.mk hl605_0; clear hi605_0 hl605_0; replace p605 := eq_true p605; replace q605 := eq_true q605; have p606 : 0 ≤ (x81_2 : Int) := oD; have q606 : x81_2 < ((rd_L1 t583 x53_1).length : Int) := oD; obtain ⟨ad606, e606, hx606_0⟩ := Kd.at_int (by repeat (first | (with_reducible exact HR605_0.out) | (with_reducible refine Kd.C_alloc ?_ _) | (with_reducible refine Kd.C_drewN ?_ _) | (with_reducible refine Kd.C_drew ?_) | exact HR605_0.out)) x81_2 p606 q606
           cases e606
           replace p606 := eq_true p606; replace q606 := eq_true q606; have p608 : 0 ≤ (x53_1 : Int) := oD; have q608 : x53_1 < (t586.length : Int) := oD; obtain ⟨ad608, A608_0, c608_0, e608, hx608_0, hl608_0, hi608_0⟩ := at_L1 (Kd.N_reads' HO_6.out).2.2 x53_1 p608 q608; obtain rfl : ad598 = ad608 := (by injection e608); obtain ⟨ce608, hce608, hMe608, hcc608⟩ := Kd.N_get HO_6.out [] x53_1 p608 (by first | exact q608 | exact oD | (have e_ := (Kd.N_reads' HO_6.out).1; omega)); obtain ⟨ua608_0, uc608_0, rfl, ul608_0, ge608_0⟩ := Kd.FK_slice_open hMe608; have hv608_0 := hcc608 0 _ rfl; rw [Nat.add_zero, show ((Kd.slice 21 (Kd.int .i32))).sz = 1 from rfl, Nat.mul_one] at hv608_0; replace hv608_0 := Option.some.inj (hv608_0.symm.trans hx608_0); injection hv608_0 with hva_ hvn_ hvc_; rw [hva_] at ge608_0; rw [hvc_] at ul608_0; have HL608_0 := Aside0.mk (show Kd.V (Kd.int .i32) 21 _ w.heap.size _ _ (rd_L1 t586 x53_1) from Kd.V_mk ul608_0 ge608_0); clear hva_ hvn_ hvc_ ge608_0 ul608_0; clear hcc608 hce608; have HR608_0 := Aside0.mk hi608_0; have HC608_0 := Aside0.mk hl608_0; clear hi608_0 hl608_0; replace p608 := eq_true p608; replace q608 := eq_true q608; have p609 : 0 ≤ (x81_2 : Int) := oD; have q609 : x81_2 < ((rd_L1 t586 x53_1).length : Int) := oD; obtain ⟨ad609, e609, hx609_0⟩ := Kd.at_int (by repeat (first | (with_reducible exact HR608_0.out) | (with_reducible refine Kd.C_alloc ?_ _) | (with_reducible refine Kd.C_drewN ?_ _) | (with_reducible refine Kd.C_drew ?_) | exact HR608_0.out)) x81_2 p609 q609
           cases e609
           replace p609 := eq_true p609; replace q609 := eq_true q609; (refine start_ (n := 26) (S := fun w' => w'.cell? (ad593.add (x53_1).toNat) = some (.slice (some ad606) (rd_L1 t583 x53_1).length c605_0) ∧ w'.cell? (ad606.add (x81_2).toNat) = some (.int .i32 (rd (rd_L1 t583 x53_1) x81_2)) ∧ w'.cell? (ad598.add (x53_1).toNat) = some (.slice (some ad609) (rd_L1 t586 x53_1).length c608_0) ∧ w'.cell? (ad609.add (x81_2).toNat) = some (.int .i32 (rd (rd_L1 t586 x53_1) x81_2))) (ds := []) (bA 26 0) (by kernel_rfl) rfl (by kernel_rfl) ⟨hx605_0, hx606_0, hx608_0, hx609_0⟩ (fun hHeld => ?_); refine with_tabW credenzalaw08_is.tab14 credenzalaw08_is.bits14 (fun HT_ HW_ => ?_)); generalize wr.drew = w63 at HO_5 HO_6 BK554 HR593_0 HR598_0 HR603_0 HB HL605_0 HL608_0 HR605_0 HR608_0 hx605_0 hx606_0 hx608_0 hHeld ⊢
           refine pT 26 0 84 1 HT_ (h := ?_)
           refine pT 26 1 85 3 HT_ (h := ?_)
           refine pT 26 2 86 7 HT_ (h := ?_)
           refine pT 26 4 88 23 HT_ (h := ?_)
           refine pT 26 5 89 55 HT_ (h := ?_)
           refine pT 26 6 90 119 HT_ (h := ?_)
           refine pT 26 8 92 375 HT_ (h := ?_)
           refine tT 26 7 91 503 HT_ HW_ hHeld (h := ?_)
           refine pT 26 9 93 1015 HT_ (h := ?_)
           refine tT 26 10 94 2039 HT_ HW_ hHeld (h := ?_)
           refine one_ (i := 3) (N := some 87) (bA 26 2047) rfl rfl (one_of HT_.out (by kernel_rfl)) (by decide) (fun K hK => ?_)
           refine gA Try.func18 #[asPtr (.slice A0 l0.length c0), .int .i64 x53_1, .int .i64 x81_2] (h := ?_)
           with_reducible refine (page_Page_Key.calls _ _ l0 x53_1 x81_2 t604 _ ?side1 ?side2 A53.out).mono ?_
           (case side1 => with_reducible exact (Kd.C_below HR0.out HB.out)); (case side2 => exact HC0.out); rintro e w64 ⟨rfl, hb⟩; have HS0_ := (hb.cell (World.block_lt_of_cell? _ _ (hHeld.1))).trans (hHeld.1); have HS1_ := (hb.cell (World.block_lt_of_cell? _ _ (hHeld.2.1))).trans (hHeld.2.1); have HS2_ := (hb.cell (World.block_lt_of_cell? _ _ (hHeld.2.2.1))).trans (hHeld.2.2.1); have HS3_ := (hb.cell (World.block_lt_of_cell? _ _ (hHeld.2.2.2))).trans (hHeld.2.2.2)
           refine ⟨_, rfl, ?_⟩
           replace HO_5 := Aside0.mk (Kd.N_below (by (with_reducible repeat (first | apply Kd.N_alloc | apply Kd.N_drewN | apply Kd.N_drew)); exact HO_5.out) hb); replace HO_6 := Aside0.mk (Kd.N_below (by (with_reducible repeat (first | apply Kd.N_alloc | apply Kd.N_drewN | apply Kd.N_drew)); exact HO_6.out) hb); replace HL605_0 := Aside0.mk (Kd.V_below (by (with_reducible repeat (first | apply Kd.V_alloc | apply Kd.V_drewN | apply Kd.V_drew)); exact HL605_0.out) hb); replace BK554 := Aside0.mk (blk_below (g := gb554) (o := .cells #[.int .i64 a1_0, .int .i64 a1_1, .int .i64 a1_2, .int .i64 a1_3, .int .i64 a1_4, .int .i64 a1_5, .int .i64 a1_6, .slice A1_7 l1_7.length c1_7, .slice A1_8 l1_8.length c1_8] 56 (0, 0)) (by (with_reducible repeat (first | refine blk_drewN ?_ _ | refine blk_drew ?_ | refine blk_alloc ?_ _)); exact BK554.out) hb); replace HR593_0 := Aside0.mk (Kd.C_below (by repeat (first | (with_reducible exact HR593_0.out) | (with_reducible refine Kd.C_alloc ?_ _) | (with_reducible refine Kd.C_drewN ?_ _) | (with_reducible refine Kd.C_drew ?_) | exact HR593_0.out)) hb); replace HR598_0 := Aside0.mk (Kd.C_below (by repeat (first | (with_reducible exact HR598_0.out) | (with_reducible refine Kd.C_alloc ?_ _) | (with_reducible refine Kd.C_drewN ?_ _) | (with_reducible refine Kd.C_drew ?_) | exact HR598_0.out)) hb); replace HR603_0 := Aside0.mk (Kd.C_below (by repeat (first | (with_reducible exact HR603_0.out) | (with_reducible refine Kd.C_alloc ?_ _) | (with_reducible refine Kd.C_drewN ?_ _) | (with_reducible refine Kd.C_drew ?_) | exact HR603_0.out)) hb); replace HR605_0 := Aside0.mk (Kd.C_below (by repeat (first | (with_reducible exact HR605_0.out) | (with_reducible refine Kd.C_alloc ?_ _) | (with_reducible refine Kd.C_drewN ?_ _) | (with_reducible refine Kd.C_drew ?_) | exact HR605_0.out)) hb); replace HB := Aside0.mk (below_step bZ hb); (try clear hb); (try clear hb2); (try clear hk); (try clear hi)
           refine hK.out _ _ ⟨HS0_, HS1_, HS2_, HS3_⟩ (fun hHeld => ?_)
           clear hK K
           refine nT 87 (h := ?_)
           refine pT 26 11 95 4095 HT_ (h := ?_)
           refine pT 26 12 96 8191 HT_ (h := ?_)
           refine pT 26 13 97 16383 HT_ (h := ?_)
           refine pT 26 14 98 32767 HT_ (h := ?_)
           refine pT 26 15 99 65535 HT_ (h := ?_)
           refine pT 26 17 101 196607 HT_ (h := ?_)
           refine pT 26 18 102 458751 HT_ (h := ?_)
           refine pT 26 19 103 983039 HT_ (h := ?_)
           refine pT 26 21 105 3080191 HT_ (h := ?_)
           refine tT 26 20 104 4128767 HT_ HW_ hHeld (h := ?_)
           refine pT 26 22 106 8323071 HT_ (h := ?_)
           refine tT 26 23 107 16711679 HT_ HW_ hHeld (h := ?_)
           refine one_ (i := 16) (N := some 100) (bA 26 16777215) rfl rfl (one_of HT_.out (by kernel_rfl)) (by decide) (fun K hK => ?_)
           refine gA Try.func19 #[asPtr (.slice A0 l0.length c0), .int .i64 x53_1, .int .i64 x81_2] (h := ?_)
           with_reducible refine (page_Page_Value.calls _ _ l0 x53_1 x81_2 t607 _ ?side1 ?side2 A59.out).mono ?_
           (case side1 => with_reducible exact (Kd.C_below HR0.out HB.out)); (case side2 => exact HC0.out); rintro e w65 ⟨rfl, hb⟩; have HS0_ := (hb.cell (World.block_lt_of_cell? _ _ (hHeld.1))).trans (hHeld.1); have HS1_ := (hb.cell (World.block_lt_of_cell? _ _ (hHeld.2.1))).trans (hHeld.2.1); have HS2_ := (hb.cell (World.block_lt_of_cell? _ _ (hHeld.2.2.1))).trans (hHeld.2.2.1); have HS3_ := (hb.cell (World.block_lt_of_cell? _ _ (hHeld.2.2.2))).trans (hHeld.2.2.2)
           refine ⟨_, rfl, ?_⟩
           replace HO_5 := Aside0.mk (Kd.N_below (by (with_reducible repeat (first | apply Kd.N_alloc | apply Kd.N_drewN | apply Kd.N_drew)); exact HO_5.out) hb); replace HO_6 := Aside0.mk (Kd.N_below (by (with_reducible repeat (first | apply Kd.N_alloc | apply Kd.N_drewN | apply Kd.N_drew)); exact HO_6.out) hb); replace HL605_0 := Aside0.mk (Kd.V_below (by (with_reducible repeat (first | apply Kd.V_alloc | apply Kd.V_drewN | apply Kd.V_drew)); exact HL605_0.out) hb); replace BK554 := Aside0.mk (blk_below (g := gb554) (o := .cells #[.int .i64 a1_0, .int .i64 a1_1, .int .i64 a1_2, .int .i64 a1_3, .int .i64 a1_4, .int .i64 a1_5, .int .i64 a1_6, .slice A1_7 l1_7.length c1_7, .slice A1_8 l1_8.length c1_8] 56 (0, 0)) (by (with_reducible repeat (first | refine blk_drewN ?_ _ | refine blk_drew ?_ | refine blk_alloc ?_ _)); exact BK554.out) hb); replace HR593_0 := Aside0.mk (Kd.C_below (by repeat (first | (with_reducible exact HR593_0.out) | (with_reducible refine Kd.C_alloc ?_ _) | (with_reducible refine Kd.C_drewN ?_ _) | (with_reducible refine Kd.C_drew ?_) | exact HR593_0.out)) hb); replace HR598_0 := Aside0.mk (Kd.C_below (by repeat (first | (with_reducible exact HR598_0.out) | (with_reducible refine Kd.C_alloc ?_ _) | (with_reducible refine Kd.C_drewN ?_ _) | (with_reducible refine Kd.C_drew ?_) | exact HR598_0.out)) hb); replace HR603_0 := Aside0.mk (Kd.C_below (by repeat (first | (with_reducible exact HR603_0.out) | (with_reducible refine Kd.C_alloc ?_ _) | (with_reducible refine Kd.C_drewN ?_ _) | (with_reducible refine Kd.C_drew ?_) | exact HR603_0.out)) hb); replace HR605_0 := Aside0.mk (Kd.C_below (by repeat (first | (with_reducible exact HR605_0.out) | (with_reducible refine Kd.C_alloc ?_ _) | (with_reducible refine Kd.C_drewN ?_ _) | (with_reducible refine Kd.C_drew ?_) | exact HR605_0.out)) hb); replace HB := Aside0.mk (below_step bZ hb); (try clear hb); (try clear hb2); (try clear hk); (try clear hi)
           refine hK.out _ _ ⟨HS0_, HS1_, HS2_, HS3_⟩ (fun hHeld => ?_)
           clear hK K
           refine nT 100 (h := ?_)
           refine pT 26 24 108 33554431 HT_ (h := ?_)
           refine pT 26 25 109 67108863 HT_ (h := ?_)
           refine done_ (done_of HT_.out (by kernel_rfl)) ?_
           try go_wp2
           go_roundg k2
           case measure => have := HK1.out; have := HK2.out; omega
           case rel => exact ⟨(wrap64 (x81_2 + 1)), rfl, H', ⟨by have := HK1.out; have := HK2.out; omega⟩, HO_5, HO_6, BK554, ⟨by repeat (first | (with_reducible exact HR593_0.out) | (with_reducible refine Kd.C_alloc ?_ _) | (with_reducible refine Kd.C_drewN ?_ _) | (with_reducible refine Kd.C_drew ?_) | exact HR593_0.out)⟩, ⟨by repeat (first | (with_reducible exact HR598_0.out) | (with_reducible refine Kd.C_alloc ?_ _) | (with_reducible refine Kd.C_drewN ?_ _) | (with_reducible refine Kd.C_drew ?_) | exact HR598_0.out)⟩, ⟨by repeat (first | (with_reducible exact HR603_0.out) | (with_reducible refine Kd.C_alloc ?_ _) | (with_reducible refine Kd.C_drewN ?_ _) | (with_reducible refine Kd.C_drew ?_) | exact HR603_0.out)⟩, HB⟩
          ·
           rw [if_neg c52] at H; have c52b0 : decide (x81_2 < ((rd_L1 t583 x53_1).length : Int)) = false := decide_eq_false c52; clear c52; have H' := Aside0.mk H; clear H
           go_wp2
           go_roundg k2
           case measure => have := HK1.out; have := HK2.out; omega
           case rel => exact ⟨(wrap64 (x53_1 + 1)), rfl, H', ⟨by have := HK1.out; have := HK2.out; omega⟩, HO_5, HO_6, BK554, HB⟩
       ·
        replace c46 := Bool.eq_false_iff.mpr c46; subst c46; rw [if_neg (show ¬ (false = true) by decide)] at H
        exact absurd H (by simp)
      ·
       replace c42 := Bool.eq_false_iff.mpr c42; subst c42; rw [if_neg (show ¬ (false = true) by decide)] at H
       exact absurd H (by simp)
     ·
      rw [if_neg c37] at H; have c37b0 : decide (x53_1 < (t583.length : Int)) = false := decide_eq_false c37; clear c37; obtain ⟨t589, A66, H⟩ := bnd H; obtain ⟨t592, A67, H⟩ := bnd H; obtain rfl := Option.some.inj H
      try go_wp2
      replace HO_5 := Aside0.mk (Kd.N_drew HO_5.out); replace HO_6 := Aside0.mk (Kd.N_drew HO_6.out); replace BK554 := Aside0.mk (blk_drew BK554.out); replace HB := Aside0.mk (below_drew1 HB.out)
      refine start_ (n := 7) (S := fun w' => w'.cell? ⟨gb554, 0, none⟩ = some (.int .i64 a1_0) ∧ w'.cell? ⟨gb554, 1, none⟩ = some (.int .i64 a1_1) ∧ w'.cell? ⟨gb554, 2, none⟩ = some (.int .i64 a1_2) ∧ w'.cell? ⟨gb554, 3, none⟩ = some (.int .i64 a1_3) ∧ w'.cell? ⟨gb554, 4, none⟩ = some (.int .i64 a1_4) ∧ w'.cell? ⟨gb554, 5, none⟩ = some (.int .i64 a1_5) ∧ w'.cell? ⟨gb554, 6, none⟩ = some (.int .i64 a1_6) ∧ w'.cell? ⟨gb554, 7, none⟩ = some (.slice A1_7 l1_7.length c1_7) ∧ w'.cell? ⟨gb554, 8, none⟩ = some (.slice A1_8 l1_8.length c1_8)) (ds := []) (bA 7 0) (by kernel_rfl) rfl (by kernel_rfl) (cx9 BK554.out) (fun hHeld => ?_)
      generalize wr.drew = w68 at HO_5 HO_6 BK554 HB hHeld ⊢
      refine pB 7 0 112 1 (h := ?_)
      refine tB 7 3 115 9 hHeld (h := ?_)
      refine one_ (i := 1) (N := some 113) (bA 7 11) rfl rfl (by kernel_rfl) (by decide) (fun K hK => ?_)
      refine gA Try.func14 #[asPtr (.slice A0 l0.length c0)] (h := ?_)
      with_reducible refine (page_Page_Bytes.calls k1 _ _ l0 t589 _ ?side1 ?side2 A66.out).mono ?_
      (case side1 => with_reducible exact (Kd.C_below HR0.out HB.out)); (case side2 => exact HC0.out); rintro e w69 ⟨v590, rfl, ho0, hb⟩
      refine ⟨_, rfl, ?_⟩
      replace HO_5 := Aside0.mk (Kd.N_elder' (by (with_reducible repeat (first | apply Kd.N_alloc | apply Kd.N_drewN | apply Kd.N_drew)); exact HO_5.out) (Kd.R_base ho0) hb); replace HO_6 := Aside0.mk (Kd.N_elder' (by (with_reducible repeat (first | apply Kd.N_alloc | apply Kd.N_drewN | apply Kd.N_drew)); exact HO_6.out) (Kd.R_base ho0) hb); have HO591 := Aside0.mk (Kd.R_lower ho0 (below_size bZ)); replace BK554 := Aside0.mk (blk_below (g := gb554) (o := .cells #[.int .i64 a1_0, .int .i64 a1_1, .int .i64 a1_2, .int .i64 a1_3, .int .i64 a1_4, .int .i64 a1_5, .int .i64 a1_6, .slice A1_7 l1_7.length c1_7, .slice A1_8 l1_8.length c1_8] 56 (0, 0)) (by (with_reducible repeat (first | refine blk_drewN ?_ _ | refine blk_drew ?_ | refine blk_alloc ?_ _)); exact BK554.out) hb); replace HB := Aside0.mk (below_step bZ hb); (try clear hb); (try clear hb2); (try clear hk); (try clear hi); (try clear ho0)
      refine hK.out _ _ (cx9 BK554.out) (fun hHeld => ?_)
      clear hK K
      refine nT 113 (h := ?_)
      refine join_ (σ := Unit) 2 (bA 7 31) (fun _ => [(114, .string (strOfNums t589)), (116, .string t592)]) (fun _ w' => (w'.cell? ⟨gb554, 0, none⟩ = some (.int .i64 a1_0) ∧ w'.cell? ⟨gb554, 1, none⟩ = some (.int .i64 a1_1) ∧ w'.cell? ⟨gb554, 2, none⟩ = some (.int .i64 a1_2) ∧ w'.cell? ⟨gb554, 3, none⟩ = some (.int .i64 a1_3) ∧ w'.cell? ⟨gb554, 4, none⟩ = some (.int .i64 a1_4) ∧ w'.cell? ⟨gb554, 5, none⟩ = some (.int .i64 a1_5) ∧ w'.cell? ⟨gb554, 6, none⟩ = some (.int .i64 a1_6) ∧ w'.cell? ⟨gb554, 7, none⟩ = some (.slice A1_7 l1_7.length c1_7) ∧ w'.cell? ⟨gb554, 8, none⟩ = some (.slice A1_8 l1_8.length c1_8)) ∧ Aside0 (Below w.heap.size w w')) ?_ ?_
      rotate_left
      ·
       intro hCont
       refine two_ (i := 2) (j := 4) (Ni := some 114) (Nj := some 116) (bA 7 15) (bA 7 27) rfl rfl rfl rfl (by kernel_rfl) (by decide) (by decide) (fun K hK => ?_) (fun K hK => ?_)
       ·
        skip
        have hcv70 := own_string (P := Try.prog) Try.underlying36 Try.underlying5 Try.underlying9 (Kd.own_of_R HO591.out)
        refine value_ (w1 := ?_) (v := ?_) (by rfl) rfl ?_ ?_
        rotate_left 2
        ·
         go_simp
         constructor
         ·
          rfl
         ·
          rfl
        clear hcv70
        refine hK.out _ _ (cx9 BK554.out) (fun hHeld => ?_)
        clear hK K
        refine nT 114 (h := ?_)
        refine one_ (i := 4) (N := some 116) (bA 7 31) rfl rfl (by kernel_rfl) (by decide) (fun K hK => ?_)
        refine gA Try.func56 #[.agg #[.int .i64 a1_0, .int .i64 a1_1, .int .i64 a1_2, .int .i64 a1_3, .int .i64 a1_4, .int .i64 a1_5, .int .i64 a1_6, .slice A1_7 l1_7.length c1_7, .slice A1_8 l1_8.length c1_8]] (h := ?_)
        with_reducible refine (credenzaref08_Bytes.calls k1 a1_0 a1_1 a1_2 a1_3 a1_4 a1_5 a1_6 _ _ l1_7 _ _ l1_8 t592 _ ?side1 ?side2 ?side3 ?side4 A67.out).mono ?_
        (case side1 => with_reducible exact (Kd.C_below HR1_7.out HB.out)); (case side2 => exact HC1_7.out); (case side3 => with_reducible exact (Kd.C_below HR1_8.out HB.out)); (case side4 => exact HC1_8.out); rintro e w71 ⟨rfl, hb⟩
        refine ⟨_, rfl, ?_⟩
        replace HO_5 := Aside0.mk (Kd.N_below (by (with_reducible repeat (first | apply Kd.N_alloc | apply Kd.N_drewN | apply Kd.N_drew)); exact HO_5.out) hb); replace HO_6 := Aside0.mk (Kd.N_below (by (with_reducible repeat (first | apply Kd.N_alloc | apply Kd.N_drewN | apply Kd.N_drew)); exact HO_6.out) hb); replace HO591 := Aside0.mk (Kd.R_below (by (with_reducible repeat (first | apply Kd.R_alloc | apply Kd.R_drewN | apply Kd.R_drew)); exact HO591.out) hb); replace BK554 := Aside0.mk (blk_below (g := gb554) (o := .cells #[.int .i64 a1_0, .int .i64 a1_1, .int .i64 a1_2, .int .i64 a1_3, .int .i64 a1_4, .int .i64 a1_5, .int .i64 a1_6, .slice A1_7 l1_7.length c1_7, .slice A1_8 l1_8.length c1_8] 56 (0, 0)) (by (with_reducible repeat (first | refine blk_drewN ?_ _ | refine blk_drew ?_ | refine blk_alloc ?_ _)); exact BK554.out) hb); replace HB := Aside0.mk (below_step bZ hb); (try clear hb); (try clear hb2); (try clear hk); (try clear hi)
        refine hK.out _ _ (cx9 BK554.out) (fun hHeld => ?_)
        clear hK K
        refine nT 116 (h := ?_)
        exact norm_ (by simp only [putAll, Act.put, List.setIfInBounds_toArray, List.set_cons_zero, List.set_cons_succ]) (hCont () _ ⟨hHeld, HB⟩)
       ·
        skip
        refine gA Try.func56 #[.agg #[.int .i64 a1_0, .int .i64 a1_1, .int .i64 a1_2, .int .i64 a1_3, .int .i64 a1_4, .int .i64 a1_5, .int .i64 a1_6, .slice A1_7 l1_7.length c1_7, .slice A1_8 l1_8.length c1_8]] (h := ?_)
        with_reducible refine (credenzaref08_Bytes.calls k1 a1_0 a1_1 a1_2 a1_3 a1_4 a1_5 a1_6 _ _ l1_7 _ _ l1_8 t592 _ ?side1 ?side2 ?side3 ?side4 A67.out).mono ?_
        (case side1 => with_reducible exact (Kd.C_below HR1_7.out HB.out)); (case side2 => exact HC1_7.out); (case side3 => with_reducible exact (Kd.C_below HR1_8.out HB.out)); (case side4 => exact HC1_8.out); rintro e w71 ⟨rfl, hb⟩
        refine ⟨_, rfl, ?_⟩
        replace HO_5 := Aside0.mk (Kd.N_below (by (with_reducible repeat (first | apply Kd.N_alloc | apply Kd.N_drewN | apply Kd.N_drew)); exact HO_5.out) hb); replace HO_6 := Aside0.mk (Kd.N_below (by (with_reducible repeat (first | apply Kd.N_alloc | apply Kd.N_drewN | apply Kd.N_drew)); exact HO_6.out) hb); replace HO591 := Aside0.mk (Kd.R_below (by (with_reducible repeat (first | apply Kd.R_alloc | apply Kd.R_drewN | apply Kd.R_drew)); exact HO591.out) hb); replace BK554 := Aside0.mk (blk_below (g := gb554) (o := .cells #[.int .i64 a1_0, .int .i64 a1_1, .int .i64 a1_2, .int .i64 a1_3, .int .i64 a1_4, .int .i64 a1_5, .int .i64 a1_6, .slice A1_7 l1_7.length c1_7, .slice A1_8 l1_8.length c1_8] 56 (0, 0)) (by (with_reducible repeat (first | refine blk_drewN ?_ _ | refine blk_drew ?_ | refine blk_alloc ?_ _)); exact BK554.out) hb); replace HB := Aside0.mk (below_step bZ hb); (try clear hb); (try clear hb2); (try clear hk); (try clear hi)
        refine hK.out _ _ (cx9 BK554.out) (fun hHeld => ?_)
        clear hK K
        refine nT 116 (h := ?_)
        refine one_ (i := 2) (N := some 114) (bA 7 31) rfl rfl (by kernel_rfl) (by decide) (fun K hK => ?_)
        have hcv70 := own_string (P := Try.prog) Try.underlying36 Try.underlying5 Try.underlying9 (Kd.own_of_R HO591.out)
        refine value_ (w1 := ?_) (v := ?_) (by rfl) rfl ?_ ?_
        rotate_left 2
        ·
         go_simp
         constructor
         ·
          rfl
         ·
          rfl
        clear hcv70
        refine hK.out _ _ (cx9 BK554.out) (fun hHeld => ?_)
        clear hK K
        refine nT 114 (h := ?_)
        exact norm_ (by simp only [putAll, Act.put, List.setIfInBounds_toArray, List.set_cons_zero, List.set_cons_succ]) (hCont () _ ⟨hHeld, HB⟩)
      rintro _ w71 ⟨hHeld, HB_⟩; clear HB; have HB := HB_; clear HB_
      refine norm_ (a' := ?_) ?_ ?_
      rotate_left
      ·
       simp only [putAll, Act.put, List.setIfInBounds_toArray, List.set_cons_zero, List.set_cons_succ]
       rfl
      refine pB 7 5 117 63 (h := ?_)
      refine pB 7 6 4 127 (h := ?_)
      refine done_ (by kernel_rfl) ?_
      try go_wp2
      go_ret
      exact ⟨rfl, HB.out⟩
  ·
   replace c13 := Bool.eq_false_iff.mpr c13; subst c13; rw [if_neg (show ¬ (false = true) by decide)] at H
   exact absurd H (by simp)
 ·
  replace c9 := Bool.eq_false_iff.mpr c9; subst c9; rw [if_neg (show ¬ (false = true) by decide)] at H
  exact absurd H (by simp)

end Go.Proofs.Ytekenaclmplocaa.PPageQuantizes
