-- Written by a program of this session (wip/tools/mkprint.py over the kit's print).
import Derived.Test.YtekenaclmplocaaPPageParsesx0
import Derived.Test.YtekenaclmplocaaPPageParsesx2
import Derived.Test.YtekenaclmplocaaPPageParsesx8
import Derived.Test.YtekenaclmplocaaPPageParsesx12
import Derived.Test.YtekenaclmplocaaPPageParsesx13
import Derived.Test.YtekenaclmplocaaPPageParsesx14
import Derived.Test.YtekenaclmplocaaPPageParsesx15
import Derived.Test.YtekenaclmplocaaPPageParsesx16
import Derived.Test.YtekenaclmplocaaPPageParsesx17
import Derived.Test.YtekenaclmplocaaPPageParsesx18
import Derived.Test.YtekenaclmplocaaPPageParsesx19
import Derived.Test.YtekenaclmplocaaPPageParsesx21
namespace Go.Proofs.Ytekenaclmplocaa.PPageParses
open Go.RowKit Go.Proofs.YtekenaclmplocaaW.PrintWords Go.Proofs.YtekenaclmplocaaW.PrintLast Go.Proofs.YtekenaclmplocaaW.PrintMore
attribute [local go_sem] max2_int min2_int max_two min_two max_three min_three max_four min_four
set_option linter.unusedVariables false
set_option maxHeartbeats 8000000
set_option maxRecDepth 100000
set_option linter.unusedSimpArgs false

attribute [local go_sem high] eqA28
mutual
def F25.l0 : Nat → List (S75) → List (List Int) → List (List Int) → Int → Int → Int → Int → Int → Int → Int → Int → Int → List (S98) → List (S98) → Option (Bool)
 | 0, _, _, _, _, _, _, _, _, _, _, _, _, _, _ => none
 | k + 1, x0, x5, x6, x52, x53, x550000, x550001, x550002, x550003, x550004, x550005, x550006, x550007, x550008 => if x53 < x52 then (if 0 ≤ x53 then (if x53 < (x5.length : Int) then ((F54.f k x550000 x550001 x550002 x550003 x550004 x550005 x550006 x550007 x550008 x53).bind fun t589 => ((F53.f k (rd_L13 x5 x53) t589).bind fun t592 => (if t592 = true then (if x53 < (x6.length : Int) then ((F55.f k x550000 x550001 x550002 x550003 x550004 x550005 x550006 x550007 x550008 x53).bind fun t594 => ((F53.f k (rd_L13 x6 x53) t594).bind fun t597 => (if t597 = true then (F25.l1 k x0 x5 x6 x53 x52 x53 ((rd_L13 x5 x53).length : Int) 0 x550000 x550001 x550002 x550003 x550004 x550005 x550006 x550007 x550008) else (none)))) else (none)) else (none)))) else (none)) else (none)) else ((F14.f k x0).bind fun t584 => ((F56.f k x550000 x550001 x550002 x550003 x550004 x550005 x550006 x550007 x550008).bind fun t587 => (some ((strOfNums t584).toList == t587.toList))))
def F25.l1 : Nat → List (S75) → List (List Int) → List (List Int) → Int → Int → Int → Int → Int → Int → Int → Int → Int → Int → Int → Int → List (S98) → List (S98) → Option (Bool)
 | 0, _, _, _, _, _, _, _, _, _, _, _, _, _, _, _, _, _ => none
 | k + 1, x0, x5, x6, x7, x52, x53, x80, x81, x550000, x550001, x550002, x550003, x550004, x550005, x550006, x550007, x550008 => if x81 < x80 then ((F18.f x0 x7 x81).bind fun t599 => (if 0 ≤ x7 then (if x7 < (x5.length : Int) then (if 0 ≤ x81 then (if x81 < ((rd_L13 x5 x7).length : Int) then (if t599 = (rd (rd_L13 x5 x7) x81) then ((F19.f x0 x7 x81).bind fun t602 => (if x7 < (x6.length : Int) then (if x81 < ((rd_L13 x6 x7).length : Int) then (if t602 = (rd (rd_L13 x6 x7) x81) then (F25.l1 k x0 x5 x6 x7 x52 x53 x80 (wrap64 (x81 + 1)) x550000 x550001 x550002 x550003 x550004 x550005 x550006 x550007 x550008) else (none)) else (none)) else (none))) else (none)) else (none)) else (none)) else (none)) else (none))) else (F25.l0 k x0 x5 x6 x52 (wrap64 (x53 + 1)) x550000 x550001 x550002 x550003 x550004 x550005 x550006 x550007 x550008)
end
def F25.f (k : Nat) (l0 : List (S75)) (a1_0 : Int) (a1_1 : Int) (a1_2 : Int) (a1_3 : Int) (a1_4 : Int) (a1_5 : Int) (a1_6 : Int) (l1_7 : List (S98)) (l1_8 : List (S98)) : Option (Bool) := (F32.f l0).bind fun bt550 => ((F10.f bt550.1 bt550.2.1 bt550.2.2.1 bt550.2.2.2.1 bt550.2.2.2.2.1 bt550.2.2.2.2.2.1 bt550.2.2.2.2.2.2).bind fun bt557 => (if (!(bt557.1 == a1_0) || (!(bt557.2.1 == a1_1) || (!(bt557.2.2.1 == a1_2) || (!(bt557.2.2.2.1 == a1_3) || (!(bt557.2.2.2.2.1 == a1_4) || (!(bt557.2.2.2.2.2.1 == a1_5) || (!(bt557.2.2.2.2.2.2 == a1_6)))))))) = true then (none) else ((F16.f k l0).bind fun t564 => ((F22.f k t564).bind fun t567 => ((F52.f k t567 l1_7).bind fun t570 => (if t570 = true then ((F17.f k l0).bind fun t571 => ((F22.f k t571).bind fun t574 => ((F52.f k t574 l1_8).bind fun t577 => (if t577 = true then ((F29.f k l0).bind fun t578 => ((F30.f k l0).bind fun t581 => (if (t578.length : Int) = a1_2 then (if (t581.length : Int) = a1_2 then (F25.l0 k l0 t578 t581 (t578.length : Int) 0 a1_0 a1_1 a1_2 a1_3 a1_4 a1_5 a1_6 l1_7 l1_8) else (none)) else (none)))) else (none))))) else (none)))))))
theorem F25.mono_l : ∀ k, (∀ y0 y1 y2 y3 y4 y5 y6 y7 y8 y9 y10 y11 y12 y13, LeO (F25.l0 k y0 y1 y2 y3 y4 y5 y6 y7 y8 y9 y10 y11 y12 y13) (F25.l0 (k + 1) y0 y1 y2 y3 y4 y5 y6 y7 y8 y9 y10 y11 y12 y13)) ∧ (∀ y0 y1 y2 y3 y4 y5 y6 y7 y8 y9 y10 y11 y12 y13 y14 y15 y16, LeO (F25.l1 k y0 y1 y2 y3 y4 y5 y6 y7 y8 y9 y10 y11 y12 y13 y14 y15 y16) (F25.l1 (k + 1) y0 y1 y2 y3 y4 y5 y6 y7 y8 y9 y10 y11 y12 y13 y14 y15 y16))
 | 0 => ⟨fun _ _ _ _ _ _ _ _ _ _ _ _ _ _ r h => by simp [F25.l0] at h, fun _ _ _ _ _ _ _ _ _ _ _ _ _ _ _ _ _ r h => by simp [F25.l1] at h⟩
 | k + 1 => by
  obtain ⟨ih0, ih1⟩ := F25.mono_l k
  refine ⟨?_, ?_⟩
  all_goals intros
  all_goals first | unfold F25.l0 | unfold F25.l1
  all_goals repeat' with_reducible first | exact ih0 _ _ _ _ _ _ _ _ _ _ _ _ _ _ | exact ih1 _ _ _ _ _ _ _ _ _ _ _ _ _ _ _ _ _ | exact F22.mono _ _ | exact F53.mono _ _ _ | exact F56.mono _ _ _ _ _ _ _ _ _ _ | exact F54.mono _ _ _ _ _ _ _ _ _ _ _ | exact F55.mono _ _ _ _ _ _ _ _ _ _ _ | exact F52.mono _ _ _ | exact F14.mono _ _ | exact F16.mono _ _ | exact F29.mono _ _ | exact F17.mono _ _ | exact F30.mono _ _ | exact LeO.refl _ | exact LeO.none _ | refine LeO.ite ?_ ?_ | refine LeO.bind ?_ (fun _ => ?_)
theorem F25.mono : ∀ a0 a1 a2 a3 a4 a5 a6 a7 a8 a9 k, LeO (F25.f k a0 a1 a2 a3 a4 a5 a6 a7 a8 a9) (F25.f (k + 1) a0 a1 a2 a3 a4 a5 a6 a7 a8 a9) := by
 intro a0 a1 a2 a3 a4 a5 a6 a7 a8 a9 k; obtain ⟨ih0, ih1⟩ := F25.mono_l k; unfold F25.f
 repeat' with_reducible first | exact ih0 _ _ _ _ _ _ _ _ _ _ _ _ _ _ | exact ih1 _ _ _ _ _ _ _ _ _ _ _ _ _ _ _ _ _ | exact F22.mono _ _ | exact F53.mono _ _ _ | exact F56.mono _ _ _ _ _ _ _ _ _ _ | exact F54.mono _ _ _ _ _ _ _ _ _ _ _ | exact F55.mono _ _ _ _ _ _ _ _ _ _ _ | exact F52.mono _ _ _ | exact F14.mono _ _ | exact F16.mono _ _ | exact F29.mono _ _ | exact F17.mono _ _ | exact F30.mono _ _ | exact LeO.refl _ | exact LeO.none _ | refine LeO.ite ?_ ?_ | refine LeO.bind ?_ (fun _ => ?_)
def F25.T1 : Bool × List (List Nat × List Nat) := (true, [([], []), ([0], [0]), ([1, 1], [1]), ([], []), ([3], [3]), ([2, 4], [2, 4]), ([5, 2], [5]), ([6], [6]), ([7, 6, 6], [6, 7]), ([8, 8, 6], [6, 8]), ([6], [6]), ([10, 6], [6, 10]), ([9, 11, 9, 6], [6, 9, 11]), ([12, 6], [6, 12]), ([6, 13], [6, 13]), ([14, 12], [14]), ([15], [15]), ([16, 15, 15], [15, 16]), ([17, 17, 15], [15, 17]), ([15], [15]), ([19, 15], [15, 19]), ([18, 20, 18, 15], [15, 18, 20]), ([21, 15], [15, 21]), ([15, 22], [15, 22])])
def F25.B1 : List Nat := [0, 1, 3, 0, 8, 31, 63, 127, 255, 511, 127, 1151, 4095, 8191, 16383, 32767, 65535, 131071, 262143, 65535, 589823, 2097151, 4194303, 8388607]
theorem F25.tab1 : rtab .any (opsOf Try.f25 1) = F25.T1 := by kernel_rfl
theorem F25.bits1 : waitsOk F25.T1.2 F25.B1 = true := by kernel_rfl
def F25.T9 : Bool × List (List Nat × List Nat) := (true, [([], []), ([], []), ([0, 1], [0, 1]), ([2], [2]), ([], []), ([], []), ([4, 5], [4, 5]), ([3, 6, 6], [3, 6]), ([7], [7]), ([8, 7], [8]), ([9], [9]), ([9], [9]), ([10, 11, 9], [9, 10, 11]), ([12, 9], [9, 12]), ([9], [9]), ([9], [9]), ([14, 15, 9, 9], [9, 14, 15]), ([13, 16, 16, 9], [9, 13, 16]), ([17, 9], [9, 17]), ([9, 18], [9, 18])])
def F25.B9 : List Nat := [0, 0, 3, 7, 0, 0, 48, 127, 255, 511, 1023, 1023, 4095, 8191, 1023, 1023, 50175, 131071, 262143, 524287]
theorem F25.tab9 : rtab .any (opsOf Try.f25 9) = F25.T9 := by kernel_rfl
theorem F25.bits9 : waitsOk F25.T9.2 F25.B9 = true := by kernel_rfl
def F25.T14 : Bool × List (List Nat × List Nat) := (true, [([], []), ([], []), ([], []), ([0, 1, 2], [0, 1, 2]), ([], []), ([], []), ([4, 5], [4, 5]), ([6], [6]), ([], []), ([7, 8], [7, 8]), ([9], [9]), ([3, 10], [3, 10]), ([11, 3], [11]), ([12], [12]), ([12], [12]), ([12], [12]), ([13, 14, 15, 12, 12], [12, 13, 14, 15]), ([12], [12]), ([12], [12]), ([17, 18, 12], [12, 17, 18]), ([19, 12], [12, 19]), ([12], [12]), ([20, 21, 12], [12, 20, 21]), ([22, 12], [12, 22]), ([16, 23, 12], [12, 16, 23]), ([12, 24], [12, 24])])
def F25.B14 : List Nat := [0, 0, 0, 7, 0, 0, 48, 112, 0, 496, 1008, 2047, 4095, 8191, 8191, 8191, 65535, 8191, 8191, 401407, 925695, 8191, 4071423, 8265727, 16777215, 33554431]
theorem F25.tab14 : rtab .any (opsOf Try.f25 14) = F25.T14 := by kernel_rfl
theorem F25.bits14 : waitsOk F25.T14.2 F25.B14 = true := by kernel_rfl
theorem F25.calls (k : Nat) (A0 : Option Addr) (c0 : Nat) (l0 : List (S75)) (a1_0 : Int) (a1_1 : Int) (a1_2 : Int) (a1_3 : Int) (a1_4 : Int) (a1_5 : Int) (a1_6 : Int) (A1_7 : Option Addr) (c1_7 : Nat) (l1_7 : List (S98)) (A1_8 : Option Addr) (c1_8 : Nat) (l1_8 : List (S98)) (r : Bool) (w : World) (hr0 : Kd.C k75 w A0 l0.length l0) (hc0 : l0.length ≤ c0) (hr1_7 : Kd.C k98 w A1_7 l1_7.length l1_7) (hc1_7 : l1_7.length ≤ c1_7) (hr1_8 : Kd.C k98 w A1_8 l1_8.length l1_8) (hc1_8 : l1_8.length ≤ c1_8) (h : F25.f k l0 a1_0 a1_1 a1_2 a1_3 a1_4 a1_5 a1_6 l1_7 l1_8 = some r) :
  Calls Try.prog 25 #[asPtr (.slice A0 l0.length c0), .agg #[.int .i64 a1_0, .int .i64 a1_1, .int .i64 a1_2, .int .i64 a1_3, .int .i64 a1_4, .int .i64 a1_5, .int .i64 a1_6, .slice A1_7 l1_7.length c1_7, .slice A1_8 l1_8.length c1_8]] w fun e w' => e = .returned (.bool r) ∧ Below w.heap.size w w' := by
 have hu56 := Try.underlying56; have hu28 := Try.underlying28; have HR0 := aM hr0; have HC0 := aM hc0; clear hr0 hc0; have HR1_7 := aM hr1_7; have HC1_7 := aM hc1_7; clear hr1_7 hc1_7; have HR1_8 := aM hr1_8; have HC1_8 := aM hc1_8; clear hr1_8 hc1_8; have HB := aM (Below.refl w.heap.size w); have H := h; clear h; unfold F25.f at H; obtain ⟨⟨t550, t551, t552, t553, t554, t555, t556⟩, A3, H⟩ := bnd H
 try dsimp only at H
 obtain ⟨⟨t557, t558, t559, t560, t561, t562, t563⟩, A4, H⟩ := bnd H
 try dsimp only at H
 obtain ⟨c5, H⟩ := ifn H; (have c5b0 : (!(t557 == a1_0) || (!(t558 == a1_1) || (!(t559 == a1_2) || (!(t560 == a1_3) || (!(t561 == a1_4) || (!(t562 == a1_5) || (!(t563 == a1_6)))))))) = false := by simpa using c5); clear c5; obtain ⟨t564, A6, H⟩ := bnd H; obtain ⟨t567, A7, H⟩ := bnd H; obtain ⟨t570, A8, H⟩ := bnd H
 by_cases c9 : t570 = true
 ·
  subst c9; rw [if_pos rfl] at H; obtain ⟨t571, A10, H⟩ := bnd H; obtain ⟨t574, A11, H⟩ := bnd H; obtain ⟨t577, A12, H⟩ := bnd H
  by_cases c13 : t577 = true
  ·
   subst c13; rw [if_pos rfl] at H; obtain ⟨t578, A14, H⟩ := bnd H; obtain ⟨t581, A15, H⟩ := bnd H; obtain ⟨c16, H⟩ := ifp H; have c16b0 : ((t578.length : Int) == a1_2) = true := beq_iff_eq.mpr c16; have c16b1 : ((t578.length : Int) != a1_2) = false := bne_eq_false_iff_eq.mpr c16; clear c16; obtain ⟨c17, H⟩ := ifp H; have c17b0 : ((t581.length : Int) == a1_2) = true := beq_iff_eq.mpr c17; have c17b1 : ((t581.length : Int) != a1_2) = false := bne_eq_false_iff_eq.mpr c17; clear c17; have H' := aM H; clear H
   go_enter Try.func25, Try.ntmps25
   try go_wp2_with (first | ((with_reducible refine gate_dst (N := 3) rfl ?_); (try (refine gate_guard (by rfl) ?_; dsimp only)); refine bxE 3 #[.int .i64 a1_0, .int .i64 a1_1, .int .i64 a1_2, .int .i64 a1_3, .int .i64 a1_4, .int .i64 a1_5, .int .i64 a1_6, .slice A1_7 l1_7.length c1_7, .slice A1_8 l1_8.length c1_8] 56 (h := ?_); intro gb549 hg w18 hbox hb; have BK549 := aM (hbox); have GW549 := gE hg HB; have GE549 := gE hg HB; replace HB := bst HB hb; clear hb hbox hg))
   replace BK549 := aM (blk_drew BK549.out); replace HB := aM (below_drew1 HB.out)
   refine start_ (n := 24) (S := fun w' => w'.cell? ⟨gb549, 0, none⟩ = some (.int .i64 a1_0) ∧ w'.cell? ⟨gb549, 1, none⟩ = some (.int .i64 a1_1) ∧ w'.cell? ⟨gb549, 2, none⟩ = some (.int .i64 a1_2) ∧ w'.cell? ⟨gb549, 3, none⟩ = some (.int .i64 a1_3) ∧ w'.cell? ⟨gb549, 4, none⟩ = some (.int .i64 a1_4) ∧ w'.cell? ⟨gb549, 5, none⟩ = some (.int .i64 a1_5) ∧ w'.cell? ⟨gb549, 6, none⟩ = some (.int .i64 a1_6) ∧ w'.cell? ⟨gb549, 7, none⟩ = some (.slice A1_7 l1_7.length c1_7) ∧ w'.cell? ⟨gb549, 8, none⟩ = some (.slice A1_8 l1_8.length c1_8)) (ds := []) (bA 24 0) (by kernel_rfl) rfl (by kernel_rfl) (cx9 BK549.out) (fun hHeld => ?_); refine with_tabW F25.tab1 F25.bits1 (fun HT_ HW_ => ?_)
   generalize w18.drew = w19 at BK549 HB hHeld ⊢
   refine pT 24 0 9 1 HT_ (h := ?_)
   refine pT 24 3 12 9 HT_ (h := ?_)
   refine tT 24 4 13 25 HT_ HW_ hHeld (h := ?_)
   refine one_ (i := 1) (N := some 10) (bA 24 27) rfl rfl (one_of HT_.out (by kernel_rfl)) (by decide) (fun K hK => ?_)
   refine gA Try.func32 #[asPtr (.slice A0 l0.length c0)] (h := ?_)
   with_reducible refine (F32.calls _ _ l0 t550 t551 t552 t553 t554 t555 t556 _ ?side1 ?side2 A3.out).mono ?_
   (case side1 => with_reducible exact (Kd.C_below HR0.out HB.out)); (case side2 => exact HC0.out); rintro e w20 ⟨rfl, hb⟩
   refine ⟨_, rfl, ?_⟩
   replace BK549 := aM (blk_below (g := gb549) (o := .cells #[.int .i64 a1_0, .int .i64 a1_1, .int .i64 a1_2, .int .i64 a1_3, .int .i64 a1_4, .int .i64 a1_5, .int .i64 a1_6, .slice A1_7 l1_7.length c1_7, .slice A1_8 l1_8.length c1_8] 56 (0, 0)) (bK BK549.out) hb); replace HB := aM (below_step bZ hb); (try clear hb); (try clear hb2); (try clear hk); (try clear hi)
   refine hK.out _ _ (cx9 BK549.out) (fun hHeld => ?_)
   clear hK K
   refine nT 10 (h := ?_)
   refine one_ (i := 2) (N := some 11) (bA 24 31) rfl rfl (one_of HT_.out (by kernel_rfl)) (by decide) (fun K hK => ?_)
   refine gA Try.func10 #[.agg #[.int .i64 t550, .int .i64 t551, .int .i64 t552, .int .i64 t553, .int .i64 t554, .int .i64 t555, .int .i64 t556]] (h := ?_)
   with_reducible refine (F10.calls t550 t551 t552 t553 t554 t555 t556 t557 t558 t559 t560 t561 t562 t563 _ A4.out).mono ?_
   rintro e w21 ⟨rfl, hb⟩
   refine ⟨_, rfl, ?_⟩
   replace BK549 := aM (blk_below (g := gb549) (o := .cells #[.int .i64 a1_0, .int .i64 a1_1, .int .i64 a1_2, .int .i64 a1_3, .int .i64 a1_4, .int .i64 a1_5, .int .i64 a1_6, .slice A1_7 l1_7.length c1_7, .slice A1_8 l1_8.length c1_8] 56 (0, 0)) (bK BK549.out) hb); replace HB := aM (below_step bZ hb); (try clear hb); (try clear hb2); (try clear hk); (try clear hi)
   refine hK.out _ _ (cx9 BK549.out) (fun hHeld => ?_)
   clear hK K
   refine nT 11 (h := ?_)
   refine pT 24 5 14 63 HT_ (h := ?_)
   refine pT 24 6 15 127 HT_ (h := ?_)
   refine pT 24 7 16 255 HT_ (h := ?_)
   refine pT 24 10 19 1279 HT_ (h := ?_)
   refine tT 24 11 20 3327 HT_ HW_ hHeld (h := ?_)
   refine one_ (i := 8) (N := some 17) (bA 24 3583) rfl rfl (one_of HT_.out (by kernel_rfl)) (by decide) (fun K hK => ?_)
   refine gA Try.func16 #[asPtr (.slice A0 l0.length c0)] (h := ?_)
   with_reducible refine (F16.calls k _ _ l0 t564 _ ?side1 ?side2 A6.out).mono ?_
   (case side1 => with_reducible exact (Kd.C_below HR0.out HB.out)); (case side2 => exact HC0.out); rintro e w22 ⟨v565, rfl, ho0, hb⟩
   refine ⟨_, rfl, ?_⟩
   have HO566 := aM (Kd.N_lower (Kd.N_mono (ok' := fun k_ => k_ ≠ gb549) (Kd.S_N (Kd.S_bound ho0)) (fun k_ hk_ => (Kd.freshB (g := gb549) (o := .cells #[.int .i64 a1_0, .int .i64 a1_1, .int .i64 a1_2, .int .i64 a1_3, .int .i64 a1_4, .int .i64 a1_5, .int .i64 a1_6, .slice A1_7 l1_7.length c1_7, .slice A1_8 l1_8.length c1_8] 56 (0, 0)) (bK BK549.out) k_ hk_.2.1))) (below_size bZ)); replace BK549 := aM (blk_below (g := gb549) (o := .cells #[.int .i64 a1_0, .int .i64 a1_1, .int .i64 a1_2, .int .i64 a1_3, .int .i64 a1_4, .int .i64 a1_5, .int .i64 a1_6, .slice A1_7 l1_7.length c1_7, .slice A1_8 l1_8.length c1_8] 56 (0, 0)) (bK BK549.out) hb); replace HB := aM (below_step bZ hb); (try clear hb); (try clear hb2); (try clear hk); (try clear hi); (try clear ho0); obtain ⟨Ao23, co23, eo23⟩ := Kd.N_slice HO566.out; (first | subst eo23 | (injection eo23 with f1_ f2_ f3_; have f4_ := f1_.symm; have f5_ := f3_.symm; clear f1_ f2_ f3_; subst f4_; subst f5_))
   refine hK.out _ _ (cx9 BK549.out) (fun hHeld => ?_)
   clear hK K
   refine nT 17 (h := ?_)
   refine one_ (i := 9) (N := some 18) (bA 24 4095) rfl rfl (one_of HT_.out (by kernel_rfl)) (by decide) (fun K hK => ?_)
   refine gA Try.func22 #[.slice Ao23 t564.length co23] (h := ?_)
   with_reducible refine (F22.calls k (fun k_ => k_ ≠ gb549) _ _ t564 t567 _ ?side1 A7.out).mono ?_
   (case side1 => exact Kd.N_V (HO566.out)); rintro e w24 ⟨v568, rfl, ho0, hb⟩
   refine ⟨_, rfl, ?_⟩
   replace HO566 := aM (Kd.N_elder' (kN HO566.out) (Kd.N_base ho0) hb); have HO569 := aM (Kd.N_lower (Kd.N_mono (ok' := fun k_ => k_ ≠ gb549) ho0 (fun k_ hk_ => Or.elim hk_ (fun hs_ => hs_) (fun hn_ => (Kd.freshB (g := gb549) (o := .cells #[.int .i64 a1_0, .int .i64 a1_1, .int .i64 a1_2, .int .i64 a1_3, .int .i64 a1_4, .int .i64 a1_5, .int .i64 a1_6, .slice A1_7 l1_7.length c1_7, .slice A1_8 l1_8.length c1_8] 56 (0, 0)) (bK BK549.out) k_ hn_)))) (below_size bZ)); replace BK549 := aM (blk_below (g := gb549) (o := .cells #[.int .i64 a1_0, .int .i64 a1_1, .int .i64 a1_2, .int .i64 a1_3, .int .i64 a1_4, .int .i64 a1_5, .int .i64 a1_6, .slice A1_7 l1_7.length c1_7, .slice A1_8 l1_8.length c1_8] 56 (0, 0)) (bK BK549.out) hb); replace HB := aM (below_step bZ hb); (try clear hb); (try clear hb2); (try clear hk); (try clear hi); (try clear ho0); obtain ⟨Ao25, co25, eo25⟩ := Kd.N_slice HO569.out; (first | subst eo25 | (injection eo25 with f1_ f2_ f3_; have f4_ := f1_.symm; have f5_ := f3_.symm; clear f1_ f2_ f3_; subst f4_; subst f5_))
   refine hK.out _ _ (cx9 BK549.out) (fun hHeld => ?_)
   clear hK K
   refine nT 18 (h := ?_)
   refine one_ (i := 12) (N := some 21) (bA 24 8191) rfl rfl (one_of HT_.out (by kernel_rfl)) (by decide) (fun K hK => ?_)
   refine gA Try.func52 #[.slice Ao25 t567.length co25, .slice A1_7 l1_7.length c1_7] (h := ?_)
   with_reducible refine (F52.calls k _ _ t567 _ _ l1_7 true _ ?side1 ?side2 ?side3 ?side4 A8.out).mono ?_
   (case side1 => with_reducible exact (Kd.N_reads' HO569.out).2.2); (case side2 => exact (Kd.N_reads' HO569.out).2.1); (case side3 => with_reducible exact (Kd.C_below HR1_7.out HB.out)); (case side4 => exact HC1_7.out); rintro e w26 ⟨rfl, hb⟩
   refine ⟨_, rfl, ?_⟩
   replace HO566 := aM (Kd.N_below (kN HO566.out) hb); replace HO569 := aM (Kd.N_below (kN HO569.out) hb); replace BK549 := aM (blk_below (g := gb549) (o := .cells #[.int .i64 a1_0, .int .i64 a1_1, .int .i64 a1_2, .int .i64 a1_3, .int .i64 a1_4, .int .i64 a1_5, .int .i64 a1_6, .slice A1_7 l1_7.length c1_7, .slice A1_8 l1_8.length c1_8] 56 (0, 0)) (bK BK549.out) hb); replace HB := aM (below_step bZ hb); (try clear hb); (try clear hb2); (try clear hk); (try clear hi)
   refine hK.out _ _ (cx9 BK549.out) (fun hHeld => ?_)
   clear hK K
   refine nT 21 (h := ?_)
   refine pT 24 13 22 16383 HT_ (h := ?_)
   refine pT 24 14 23 32767 HT_ (h := ?_)
   refine pT 24 15 24 65535 HT_ (h := ?_)
   refine pT 24 16 25 131071 HT_ (h := ?_)
   refine pT 24 19 28 655359 HT_ (h := ?_)
   refine tT 24 20 29 1703935 HT_ HW_ hHeld (h := ?_)
   refine one_ (i := 17) (N := some 26) (bA 24 1835007) rfl rfl (one_of HT_.out (by kernel_rfl)) (by decide) (fun K hK => ?_)
   refine gA Try.func17 #[asPtr (.slice A0 l0.length c0)] (h := ?_)
   with_reducible refine (F17.calls k _ _ l0 t571 _ ?side1 ?side2 A10.out).mono ?_
   (case side1 => with_reducible exact (Kd.C_below HR0.out HB.out)); (case side2 => exact HC0.out); rintro e w27 ⟨v572, rfl, ho0, hb⟩
   refine ⟨_, rfl, ?_⟩
   have HO573 := aM (Kd.N_lower (Kd.N_mono (ok' := fun k_ => some k_ ≠ (.slice Ao23 t564.length co23 : Value).ownBlock ∧ some k_ ≠ (.slice Ao25 t567.length co25 : Value).ownBlock ∧ k_ ≠ gb549) (Kd.S_N (Kd.S_bound ho0)) (fun k_ hk_ => ⟨(Kd.fresh' (Kd.N_lt (kN HO566.out)) k_ hk_.2.1), (Kd.fresh' (Kd.N_lt (kN HO569.out)) k_ hk_.2.1), (Kd.freshB (g := gb549) (o := .cells #[.int .i64 a1_0, .int .i64 a1_1, .int .i64 a1_2, .int .i64 a1_3, .int .i64 a1_4, .int .i64 a1_5, .int .i64 a1_6, .slice A1_7 l1_7.length c1_7, .slice A1_8 l1_8.length c1_8] 56 (0, 0)) (bK BK549.out) k_ hk_.2.1)⟩)) (below_size bZ)); replace HO566 := aM (Kd.N_elder' (kN HO566.out) (Kd.S_base ho0) hb); replace HO569 := aM (Kd.N_elder' (kN HO569.out) (Kd.S_base ho0) hb); replace BK549 := aM (blk_below (g := gb549) (o := .cells #[.int .i64 a1_0, .int .i64 a1_1, .int .i64 a1_2, .int .i64 a1_3, .int .i64 a1_4, .int .i64 a1_5, .int .i64 a1_6, .slice A1_7 l1_7.length c1_7, .slice A1_8 l1_8.length c1_8] 56 (0, 0)) (bK BK549.out) hb); replace HB := aM (below_step bZ hb); (try clear hb); (try clear hb2); (try clear hk); (try clear hi); (try clear ho0); obtain ⟨Ao28, co28, eo28⟩ := Kd.N_slice HO573.out; (first | subst eo28 | (injection eo28 with f1_ f2_ f3_; have f4_ := f1_.symm; have f5_ := f3_.symm; clear f1_ f2_ f3_; subst f4_; subst f5_))
   refine hK.out _ _ (cx9 BK549.out) (fun hHeld => ?_)
   clear hK K
   refine nT 26 (h := ?_)
   refine one_ (i := 18) (N := some 27) (bA 24 2097151) rfl rfl (one_of HT_.out (by kernel_rfl)) (by decide) (fun K hK => ?_)
   refine gA Try.func22 #[.slice Ao28 t571.length co28] (h := ?_)
   with_reducible refine (F22.calls k (fun k_ => (some k_ ≠ (.slice Ao23 t564.length co23 : Value).ownBlock ∧ (some k_ ≠ (.slice Ao25 t567.length co25 : Value).ownBlock ∧ k_ ≠ gb549))) _ _ t571 t574 _ ?side1 A11.out).mono ?_
   (case side1 => exact Kd.N_V (HO573.out)); rintro e w29 ⟨v575, rfl, ho0, hb⟩
   refine ⟨_, rfl, ?_⟩
   replace HO573 := aM (Kd.N_elder' (kN HO573.out) (Kd.N_base ho0) hb); have HO576 := aM (Kd.N_lower (Kd.N_mono (ok' := fun k_ => some k_ ≠ (.slice Ao23 t564.length co23 : Value).ownBlock ∧ some k_ ≠ (.slice Ao25 t567.length co25 : Value).ownBlock ∧ k_ ≠ gb549) ho0 (fun k_ hk_ => ⟨Or.elim hk_ (fun hs_ => hs_.1) (fun hn_ => (Kd.fresh' (Kd.N_lt (kN HO566.out)) k_ hn_)), Or.elim hk_ (fun hs_ => hs_.2.1) (fun hn_ => (Kd.fresh' (Kd.N_lt (kN HO569.out)) k_ hn_)), Or.elim hk_ (fun hs_ => hs_.2.2) (fun hn_ => (Kd.freshB (g := gb549) (o := .cells #[.int .i64 a1_0, .int .i64 a1_1, .int .i64 a1_2, .int .i64 a1_3, .int .i64 a1_4, .int .i64 a1_5, .int .i64 a1_6, .slice A1_7 l1_7.length c1_7, .slice A1_8 l1_8.length c1_8] 56 (0, 0)) (bK BK549.out) k_ hn_))⟩)) (below_size bZ)); replace HO566 := aM (Kd.N_elder' (kN HO566.out) (Kd.N_base ho0) hb); replace HO569 := aM (Kd.N_elder' (kN HO569.out) (Kd.N_base ho0) hb); replace BK549 := aM (blk_below (g := gb549) (o := .cells #[.int .i64 a1_0, .int .i64 a1_1, .int .i64 a1_2, .int .i64 a1_3, .int .i64 a1_4, .int .i64 a1_5, .int .i64 a1_6, .slice A1_7 l1_7.length c1_7, .slice A1_8 l1_8.length c1_8] 56 (0, 0)) (bK BK549.out) hb); replace HB := aM (below_step bZ hb); (try clear hb); (try clear hb2); (try clear hk); (try clear hi); (try clear ho0); obtain ⟨Ao30, co30, eo30⟩ := Kd.N_slice HO576.out; (first | subst eo30 | (injection eo30 with f1_ f2_ f3_; have f4_ := f1_.symm; have f5_ := f3_.symm; clear f1_ f2_ f3_; subst f4_; subst f5_))
   refine hK.out _ _ (cx9 BK549.out) (fun hHeld => ?_)
   clear hK K
   refine nT 27 (h := ?_)
   refine one_ (i := 21) (N := some 30) (bA 24 4194303) rfl rfl (one_of HT_.out (by kernel_rfl)) (by decide) (fun K hK => ?_)
   refine gA Try.func52 #[.slice Ao30 t574.length co30, .slice A1_8 l1_8.length c1_8] (h := ?_)
   with_reducible refine (F52.calls k _ _ t574 _ _ l1_8 true _ ?side1 ?side2 ?side3 ?side4 A12.out).mono ?_
   (case side1 => with_reducible exact (Kd.N_reads' HO576.out).2.2); (case side2 => exact (Kd.N_reads' HO576.out).2.1); (case side3 => with_reducible exact (Kd.C_below HR1_8.out HB.out)); (case side4 => exact HC1_8.out); rintro e w31 ⟨rfl, hb⟩
   refine ⟨_, rfl, ?_⟩
   replace HO566 := aM (Kd.N_below (kN HO566.out) hb); replace HO569 := aM (Kd.N_below (kN HO569.out) hb); replace HO573 := aM (Kd.N_below (kN HO573.out) hb); replace HO576 := aM (Kd.N_below (kN HO576.out) hb); replace BK549 := aM (blk_below (g := gb549) (o := .cells #[.int .i64 a1_0, .int .i64 a1_1, .int .i64 a1_2, .int .i64 a1_3, .int .i64 a1_4, .int .i64 a1_5, .int .i64 a1_6, .slice A1_7 l1_7.length c1_7, .slice A1_8 l1_8.length c1_8] 56 (0, 0)) (bK BK549.out) hb); replace HB := aM (below_step bZ hb); (try clear hb); (try clear hb2); (try clear hk); (try clear hi)
   refine hK.out _ _ (cx9 BK549.out) (fun hHeld => ?_)
   clear hK K
   refine nT 30 (h := ?_)
   refine pT 24 22 31 8388607 HT_ (h := ?_)
   refine pT 24 23 32 16777215 HT_ (h := ?_)
   refine done_ (done_of HT_.out (by kernel_rfl)) ?_
   try go_wp2_with (first | ((with_reducible refine gate_callee (f := 29) rfl ?_); refine gL 34 Try.func29 #[asPtr (.slice A0 l0.length c0)] (h := ?_); (with_reducible refine (F29.calls k _ _ l0 t578 _ ?side1 ?side2 A14.out).mono ?_); (case side1 => with_reducible exact (Kd.C_below HR0.out HB.out)); (case side2 => exact HC0.out); rintro e w32 ⟨v579, rfl, ho0, hb⟩; refine ⟨_, rfl, ?_⟩; have HO580 := aM (Kd.N_lower (Kd.N_mono (ok' := fun k_ => some k_ ≠ (.slice Ao23 t564.length co23 : Value).ownBlock ∧ some k_ ≠ (.slice Ao25 t567.length co25 : Value).ownBlock ∧ some k_ ≠ (.slice Ao28 t571.length co28 : Value).ownBlock ∧ some k_ ≠ (.slice Ao30 t574.length co30 : Value).ownBlock ∧ k_ ≠ gb549) (Kd.S_N (Kd.S_bound ho0)) (fun k_ hk_ => ⟨(Kd.fresh' (Kd.N_lt HO566.out) k_ hk_.2.1), (Kd.fresh' (Kd.N_lt HO569.out) k_ hk_.2.1), (Kd.fresh' (Kd.N_lt HO573.out) k_ hk_.2.1), (Kd.fresh' (Kd.N_lt HO576.out) k_ hk_.2.1), (Kd.freshB (g := gb549) (o := .cells #[.int .i64 a1_0, .int .i64 a1_1, .int .i64 a1_2, .int .i64 a1_3, .int .i64 a1_4, .int .i64 a1_5, .int .i64 a1_6, .slice A1_7 l1_7.length c1_7, .slice A1_8 l1_8.length c1_8] 56 (0, 0)) BK549.out k_ hk_.2.1)⟩)) (bsz HB)); replace HO566 := aM (Kd.N_elder' HO566.out (Kd.S_base ho0) hb); replace HO569 := aM (Kd.N_elder' HO569.out (Kd.S_base ho0) hb); replace HO573 := aM (Kd.N_elder' HO573.out (Kd.S_base ho0) hb); replace HO576 := aM (Kd.N_elder' HO576.out (Kd.S_base ho0) hb); replace BK549 := kst BK549 hb; replace HB := bst HB hb; clear hb ho0) | ((with_reducible refine gate_callee (f := 30) rfl ?_); refine gL 36 Try.func30 #[asPtr (.slice A0 l0.length c0)] (h := ?_); (with_reducible refine (F30.calls k _ _ l0 t581 _ ?side1 ?side2 A15.out).mono ?_); (case side1 => with_reducible exact (Kd.C_below HR0.out HB.out)); (case side2 => exact HC0.out); rintro e w33 ⟨v582, rfl, ho0, hb⟩; refine ⟨_, rfl, ?_⟩; have HO583 := aM (Kd.N_lower (Kd.N_mono (ok' := fun k_ => some k_ ≠ (.slice Ao23 t564.length co23 : Value).ownBlock ∧ some k_ ≠ (.slice Ao25 t567.length co25 : Value).ownBlock ∧ some k_ ≠ (.slice Ao28 t571.length co28 : Value).ownBlock ∧ some k_ ≠ (.slice Ao30 t574.length co30 : Value).ownBlock ∧ some k_ ≠ (v579 : Value).ownBlock ∧ k_ ≠ gb549) (Kd.S_N (Kd.S_bound ho0)) (fun k_ hk_ => ⟨(Kd.fresh' (Kd.N_lt HO566.out) k_ hk_.2.1), (Kd.fresh' (Kd.N_lt HO569.out) k_ hk_.2.1), (Kd.fresh' (Kd.N_lt HO573.out) k_ hk_.2.1), (Kd.fresh' (Kd.N_lt HO576.out) k_ hk_.2.1), (Kd.fresh' (Kd.N_lt HO580.out) k_ hk_.2.1), (Kd.freshB (g := gb549) (o := .cells #[.int .i64 a1_0, .int .i64 a1_1, .int .i64 a1_2, .int .i64 a1_3, .int .i64 a1_4, .int .i64 a1_5, .int .i64 a1_6, .slice A1_7 l1_7.length c1_7, .slice A1_8 l1_8.length c1_8] 56 (0, 0)) BK549.out k_ hk_.2.1)⟩)) (bsz HB)); replace HO566 := aM (Kd.N_elder' HO566.out (Kd.S_base ho0) hb); replace HO569 := aM (Kd.N_elder' HO569.out (Kd.S_base ho0) hb); replace HO573 := aM (Kd.N_elder' HO573.out (Kd.S_base ho0) hb); replace HO576 := aM (Kd.N_elder' HO576.out (Kd.S_base ho0) hb); replace HO580 := aM (Kd.N_elder' HO580.out (Kd.S_base ho0) hb); replace BK549 := kst BK549 hb; replace HB := bst HB hb; clear hb ho0; obtain ⟨Ao34, co34, eo34⟩ := Kd.N_slice HO580.out; subst eo34; have hz35 := bx9 BK549.out; obtain ⟨Ao36, co36, eo36⟩ := Kd.N_slice HO583.out; subst eo36))
   go_loopg [53] k (fun kq v53 w' => ∃ (x53_1 : Int), v53 = .int .i64 x53_1 ∧ Aside0 (F25.l0 kq l0 t578 t581 (t578.length : Int) x53_1 a1_0 a1_1 a1_2 a1_3 a1_4 a1_5 a1_6 l1_7 l1_8 = some r) ∧ Aside0 (kq ≤ k) ∧ Aside0 (Kd.N (Kd.slice 21 (Kd.int .i32)) 43 w' w.heap.size (fun k_ => some k_ ≠ ((.slice Ao36 t581.length co36) : Value).ownBlock ∧ k_ ≠ gb549) (.slice Ao34 t578.length co34) t578) ∧ Aside0 (Kd.N (Kd.slice 21 (Kd.int .i32)) 43 w' w.heap.size (fun k_ => some k_ ≠ ((.slice Ao34 t578.length co34) : Value).ownBlock ∧ k_ ≠ gb549) (.slice Ao36 t581.length co36) t581) ∧ Aside0 (w'.heap[gb549]? = some (.cells #[.int .i64 a1_0, .int .i64 a1_1, .int .i64 a1_2, .int .i64 a1_3, .int .i64 a1_4, .int .i64 a1_5, .int .i64 a1_6, (.slice A1_7 l1_7.length c1_7), (.slice A1_8 l1_8.length c1_8)] 56 (0, 0))) ∧ Aside0 (Below w.heap.size w w'))
   case atStart => exact ⟨(0), rfl, H', ⟨Nat.le_refl _⟩, ⟨by exact Kd.N_mono HO580.out (fun _ hk => ⟨hk.2, hk.1.2.2.2.2⟩)⟩, ⟨by exact Kd.N_mono HO583.out (fun _ hk => ⟨hk.2.2.2.2.1, hk.2.2.2.2.2⟩)⟩, BK549, HB⟩
   case round =>
    clear H'; (try clear c1); (try clear c2); (try clear p2); (try clear c3); (try clear c5); (try clear c5b0); (try clear c9); (try clear c10); (try clear c13); (try clear c16); (try clear c16b0); (try clear c16b1); (try clear c17); (try clear c17b0); (try clear c17b1); (try clear c22); (try clear c25); (try clear c29); (try clear c30); (try clear c32); (try clear hz35); obtain ⟨x53_1, rfl, HA, HK1, HO_5, HO_6, BK549, HB⟩ := hrel
    cases gk with
    | zero => exact absurd HA.out (by simp [F25.l0])
    | succ k1 =>
     have H := HA.out; clear HA; simp only [F25.l0] at H
     by_cases c37 : x53_1 < (t578.length : Int)
     ·
      rw [if_pos c37] at H; have c37b0 : decide (x53_1 < (t578.length : Int)) = true := dT c37; clear c37; obtain ⟨c38, H⟩ := ifp H; have c38b0 : decide (0 ≤ x53_1) = true := dT c38; clear c38; obtain ⟨c39, H⟩ := ifp H; have c39b0 : decide (x53_1 < (t578.length : Int)) = true := dT c39; clear c39; obtain ⟨t589, A40, H⟩ := bnd H; obtain ⟨t592, A41, H⟩ := bnd H
      by_cases c42 : t592 = true
      ·
       subst c42; rw [if_pos rfl] at H; obtain ⟨c43, H⟩ := ifp H; have c43b0 : decide (x53_1 < (t581.length : Int)) = true := dT c43; clear c43; obtain ⟨t594, A44, H⟩ := bnd H; obtain ⟨t597, A45, H⟩ := bnd H
       by_cases c46 : t597 = true
       ·
        subst c46; rw [if_pos rfl] at H; have H' := aM H; clear H
        try go_wp2
        replace HO_5 := aM (Kd.N_drew HO_5.out); replace HO_6 := aM (Kd.N_drew HO_6.out); replace BK549 := aM (blk_drew BK549.out); replace HB := aM (below_drew1 HB.out); have p588 : 0 ≤ (x53_1 : Int) := oD; have q588 : x53_1 < (t578.length : Int) := oD; obtain ⟨ad588, A588_0, c588_0, e588, hx588_0, hl588_0, hi588_0⟩ := at_L13 (Kd.N_reads' HO_5.out).2.2 x53_1 p588 q588
        cases e588
        obtain ⟨ce588, hce588, hMe588, hcc588⟩ := Kd.N_get HO_5.out [] x53_1 p588 (by first | exact q588 | exact oD | (have e_ := (Kd.N_reads' HO_5.out).1; omega)); obtain ⟨ua588_0, uc588_0, rfl, ul588_0, ge588_0⟩ := Kd.FK_slice_open hMe588; have hv588_0 := hcc588 0 _ rfl; rw [Nat.add_zero, show ((Kd.slice 21 (Kd.int .i32))).sz = 1 from rfl, Nat.mul_one] at hv588_0; replace hv588_0 := oI (hv588_0.symm.trans hx588_0); injection hv588_0 with hva_ hvn_ hvc_; rw [hva_] at ge588_0; rw [hvc_] at ul588_0; have HL588_0 := aM (show Kd.V (Kd.int .i32) 21 _ w.heap.size _ _ (rd_L13 t578 x53_1) from Kd.V_mk ul588_0 ge588_0); clear hva_ hvn_ hvc_ ge588_0 ul588_0; clear hcc588 hce588; have HR588_0 := aM hi588_0; have HC588_0 := aM hl588_0; clear hi588_0 hl588_0; replace p588 := eq_true p588; replace q588 := eq_true q588; have p593 : 0 ≤ (x53_1 : Int) := oD; have q593 : x53_1 < (t581.length : Int) := oD; obtain ⟨ad593, A593_0, c593_0, e593, hx593_0, hl593_0, hi593_0⟩ := at_L13 (Kd.N_reads' HO_6.out).2.2 x53_1 p593 q593
        cases e593
        obtain ⟨ce593, hce593, hMe593, hcc593⟩ := Kd.N_get HO_6.out [] x53_1 p593 (by first | exact q593 | exact oD | (have e_ := (Kd.N_reads' HO_6.out).1; omega)); obtain ⟨ua593_0, uc593_0, rfl, ul593_0, ge593_0⟩ := Kd.FK_slice_open hMe593; have hv593_0 := hcc593 0 _ rfl; rw [Nat.add_zero, show ((Kd.slice 21 (Kd.int .i32))).sz = 1 from rfl, Nat.mul_one] at hv593_0; replace hv593_0 := oI (hv593_0.symm.trans hx593_0); injection hv593_0 with hva_ hvn_ hvc_; rw [hva_] at ge593_0; rw [hvc_] at ul593_0; have HL593_0 := aM (show Kd.V (Kd.int .i32) 21 _ w.heap.size _ _ (rd_L13 t581 x53_1) from Kd.V_mk ul593_0 ge593_0); clear hva_ hvn_ hvc_ ge593_0 ul593_0; clear hcc593 hce593; have HR593_0 := aM hi593_0; have HC593_0 := aM hl593_0; clear hi593_0 hl593_0; replace p593 := eq_true p593; replace q593 := eq_true q593
        refine start_ (n := 20) (S := fun w' => w'.cell? ⟨gb549, 0, none⟩ = some (.int .i64 a1_0) ∧ w'.cell? ⟨gb549, 1, none⟩ = some (.int .i64 a1_1) ∧ w'.cell? ⟨gb549, 2, none⟩ = some (.int .i64 a1_2) ∧ w'.cell? ⟨gb549, 3, none⟩ = some (.int .i64 a1_3) ∧ w'.cell? ⟨gb549, 4, none⟩ = some (.int .i64 a1_4) ∧ w'.cell? ⟨gb549, 5, none⟩ = some (.int .i64 a1_5) ∧ w'.cell? ⟨gb549, 6, none⟩ = some (.int .i64 a1_6) ∧ w'.cell? ⟨gb549, 7, none⟩ = some (.slice A1_7 l1_7.length c1_7) ∧ w'.cell? ⟨gb549, 8, none⟩ = some (.slice A1_8 l1_8.length c1_8) ∧ w'.cell? (ad588.add (x53_1).toNat) = some (.slice A588_0 (rd_L13 t578 x53_1).length c588_0) ∧ w'.cell? (ad593.add (x53_1).toNat) = some (.slice A593_0 (rd_L13 t581 x53_1).length c593_0)) (ds := []) (bA 20 0) (by kernel_rfl) rfl (by kernel_rfl) ⟨cL BK549 0, cL BK549 1, cL BK549 2, cL BK549 3, cL BK549 4, cL BK549 5, cL BK549 6, cL BK549 7, cL BK549 8, hx588_0, hx593_0⟩ (fun hHeld => ?_); refine with_tabW F25.tab9 F25.bits9 (fun HT_ HW_ => ?_)
        generalize wr.drew = w47 at HO_5 HO_6 BK549 HB HL588_0 HL593_0 HR588_0 HR593_0 hx588_0 hx593_0 hHeld ⊢
        refine pT 20 0 56 1 HT_ (h := ?_)
        refine pT 20 1 57 3 HT_ (h := ?_)
        refine pT 20 2 58 7 HT_ (h := ?_)
        refine pT 20 5 61 39 HT_ (h := ?_)
        refine tT 20 3 59 47 HT_ HW_ hHeld (h := ?_)
        refine tT 20 4 60 63 HT_ HW_ hHeld (h := ?_)
        refine one_ (i := 6) (N := some 62) (bA 20 127) rfl rfl (one_of HT_.out (by kernel_rfl)) (by decide) (fun K hK => ?_)
        refine gA Try.func54 #[.agg #[.int .i64 a1_0, .int .i64 a1_1, .int .i64 a1_2, .int .i64 a1_3, .int .i64 a1_4, .int .i64 a1_5, .int .i64 a1_6, .slice A1_7 l1_7.length c1_7, .slice A1_8 l1_8.length c1_8], .int .i64 x53_1] (h := ?_)
        with_reducible refine (F54.calls k1 a1_0 a1_1 a1_2 a1_3 a1_4 a1_5 a1_6 _ _ l1_7 _ _ l1_8 x53_1 t589 _ ?side1 ?side2 ?side3 ?side4 A40.out).mono ?_
        (case side1 => with_reducible exact (Kd.C_below HR1_7.out HB.out)); (case side2 => exact HC1_7.out); (case side3 => with_reducible exact (Kd.C_below HR1_8.out HB.out)); (case side4 => exact HC1_8.out); rintro e w48 ⟨v590, rfl, ho0, hb⟩; have HS9_ := (hb.cell (World.block_lt_of_cell? _ _ (hHeld.2.2.2.2.2.2.2.2.2.1))).trans (hHeld.2.2.2.2.2.2.2.2.2.1); have HS10_ := (hb.cell (World.block_lt_of_cell? _ _ (hHeld.2.2.2.2.2.2.2.2.2.2))).trans (hHeld.2.2.2.2.2.2.2.2.2.2)
        refine ⟨_, rfl, ?_⟩
        replace HL593_0 := aM (Kd.V_elder' HL593_0.out (Kd.R_base ho0) hb); replace HR593_0 := aM (Kd.C_below HR593_0.out hb); replace HO_5 := aM (Kd.N_elder' (kN HO_5.out) (Kd.R_base ho0) hb); replace HO_6 := aM (Kd.N_elder' (kN HO_6.out) (Kd.R_base ho0) hb); replace HL588_0 := aM (Kd.V_elder' (kV HL588_0.out) (Kd.R_base ho0) hb); have HO591 := aM (Kd.R_lower ho0 (below_size bZ)); replace BK549 := aM (blk_below (g := gb549) (o := .cells #[.int .i64 a1_0, .int .i64 a1_1, .int .i64 a1_2, .int .i64 a1_3, .int .i64 a1_4, .int .i64 a1_5, .int .i64 a1_6, .slice A1_7 l1_7.length c1_7, .slice A1_8 l1_8.length c1_8] 56 (0, 0)) (bK BK549.out) hb); replace HR588_0 := aM (Kd.C_below (kC HR588_0.out) hb); replace HB := aM (below_step bZ hb); (try clear hb); (try clear hb2); (try clear hk); (try clear hi); (try clear ho0); obtain ⟨Ao49, co49, eo49⟩ := Kd.R_slice HO591.out; (first | subst eo49 | (injection eo49 with f1_ f2_ f3_; have f4_ := f1_.symm; have f5_ := f3_.symm; clear f1_ f2_ f3_; subst f4_; subst f5_))
        refine hK.out _ _ ⟨cL BK549 0, cL BK549 1, cL BK549 2, cL BK549 3, cL BK549 4, cL BK549 5, cL BK549 6, cL BK549 7, cL BK549 8, HS9_, HS10_⟩ (fun hHeld => ?_)
        clear hK K
        refine nT 62 (h := ?_)
        refine one_ (i := 7) (N := some 63) (bA 20 255) rfl rfl (one_of HT_.out (by kernel_rfl)) (by decide) (fun K hK => ?_)
        refine gA Try.func53 #[.slice A588_0 (rd_L13 t578 x53_1).length c588_0, .slice Ao49 t589.length co49] (h := ?_)
        with_reducible refine (F53.calls k1 _ _ (rd_L13 t578 x53_1) _ _ t589 true _ ?side1 ?side2 ?side3 ?side4 A41.out).mono ?_
        (case side1 => with_reducible exact (kC HR588_0.out)); (case side2 => exact HC588_0.out); (case side3 => with_reducible exact (Kd.R_reads' HO591.out).2.2); (case side4 => exact (Kd.R_reads' HO591.out).2.1); rintro e w' ⟨rfl, ⟨nd, rfl⟩⟩
        refine ⟨_, rfl, ?_⟩
        refine hK.out _ _ ⟨cL BK549 0, cL BK549 1, cL BK549 2, cL BK549 3, cL BK549 4, cL BK549 5, cL BK549 6, cL BK549 7, cL BK549 8, hHeld.2.2.2.2.2.2.2.2.2.1, hHeld.2.2.2.2.2.2.2.2.2.2⟩ (fun hHeld => ?_)
        clear hK K
        refine nT 63 (h := ?_)
        refine pT 20 8 64 511 HT_ (h := ?_)
        refine pT 20 9 65 1023 HT_ (h := ?_)
        refine pT 20 10 66 2047 HT_ (h := ?_)
        refine pT 20 11 67 4095 HT_ (h := ?_)
        refine pT 20 12 68 8191 HT_ (h := ?_)
        refine pT 20 15 71 40959 HT_ (h := ?_)
        refine tT 20 13 69 49151 HT_ HW_ hHeld (h := ?_)
        refine tT 20 14 70 65535 HT_ HW_ hHeld (h := ?_)
        refine one_ (i := 16) (N := some 72) (bA 20 131071) rfl rfl (one_of HT_.out (by kernel_rfl)) (by decide) (fun K hK => ?_)
        refine gA Try.func55 #[.agg #[.int .i64 a1_0, .int .i64 a1_1, .int .i64 a1_2, .int .i64 a1_3, .int .i64 a1_4, .int .i64 a1_5, .int .i64 a1_6, .slice A1_7 l1_7.length c1_7, .slice A1_8 l1_8.length c1_8], .int .i64 x53_1] (h := ?_)
        with_reducible refine (F55.calls k1 a1_0 a1_1 a1_2 a1_3 a1_4 a1_5 a1_6 _ _ l1_7 _ _ l1_8 x53_1 t594 _ ?side1 ?side2 ?side3 ?side4 A44.out).mono ?_
        (case side1 => repeat (first | exact (Kd.C_below HR1_7.out bZ) | (with_reducible refine Kd.C_alloc ?_ _) | (with_reducible refine Kd.C_drewN ?_ _) | (with_reducible refine Kd.C_drew ?_))); (case side2 => exact HC1_7.out); (case side3 => repeat (first | exact (Kd.C_below HR1_8.out bZ) | (with_reducible refine Kd.C_alloc ?_ _) | (with_reducible refine Kd.C_drewN ?_ _) | (with_reducible refine Kd.C_drew ?_))); (case side4 => exact HC1_8.out); rintro e w50 ⟨v595, rfl, ho0, hb⟩; have HS9_ := (hb.cell (World.block_lt_of_cell? _ _ (hHeld.2.2.2.2.2.2.2.2.2.1))).trans (hHeld.2.2.2.2.2.2.2.2.2.1); have HS10_ := (hb.cell (World.block_lt_of_cell? _ _ (hHeld.2.2.2.2.2.2.2.2.2.2))).trans (hHeld.2.2.2.2.2.2.2.2.2.2)
        refine ⟨_, rfl, ?_⟩
        replace HO_5 := aM (Kd.N_elder' (kN HO_5.out) (Kd.R_base ho0) hb); replace HO_6 := aM (Kd.N_elder' (kN HO_6.out) (Kd.R_base ho0) hb); replace HL588_0 := aM (Kd.V_elder' (kV HL588_0.out) (Kd.R_base ho0) hb); replace HL593_0 := aM (Kd.V_elder' (kV HL593_0.out) (Kd.R_base ho0) hb); have HO596 := aM (Kd.R_lower (Kd.R_new' ho0 (Kd.R_lt (kR HO591.out))) (below_size bZ)); replace HO591 := aM (Kd.R_elder' (kR HO591.out) (Kd.R_base ho0) hb); replace BK549 := aM (blk_below (g := gb549) (o := .cells #[.int .i64 a1_0, .int .i64 a1_1, .int .i64 a1_2, .int .i64 a1_3, .int .i64 a1_4, .int .i64 a1_5, .int .i64 a1_6, .slice A1_7 l1_7.length c1_7, .slice A1_8 l1_8.length c1_8] 56 (0, 0)) (bK BK549.out) hb); replace HR588_0 := aM (Kd.C_below (kC HR588_0.out) hb); replace HR593_0 := aM (Kd.C_below (kC HR593_0.out) hb); replace HB := aM (below_step bZ hb); (try clear hb); (try clear hb2); (try clear hk); (try clear hi); (try clear ho0); obtain ⟨Ao51, co51, eo51⟩ := Kd.R_slice HO596.out; (first | subst eo51 | (injection eo51 with f1_ f2_ f3_; have f4_ := f1_.symm; have f5_ := f3_.symm; clear f1_ f2_ f3_; subst f4_; subst f5_))
        refine hK.out _ _ ⟨cL BK549 0, cL BK549 1, cL BK549 2, cL BK549 3, cL BK549 4, cL BK549 5, cL BK549 6, cL BK549 7, cL BK549 8, HS9_, HS10_⟩ (fun hHeld => ?_)
        clear hK K
        refine nT 72 (h := ?_)
        refine one_ (i := 17) (N := some 73) (bA 20 262143) rfl rfl (one_of HT_.out (by kernel_rfl)) (by decide) (fun K hK => ?_)
        refine gA Try.func53 #[.slice A593_0 (rd_L13 t581 x53_1).length c593_0, .slice Ao51 t594.length co51] (h := ?_)
        with_reducible refine (F53.calls k1 _ _ (rd_L13 t581 x53_1) _ _ t594 true _ ?side1 ?side2 ?side3 ?side4 A45.out).mono ?_
        (case side1 => with_reducible exact (kC HR593_0.out)); (case side2 => exact HC593_0.out); (case side3 => with_reducible exact (Kd.R_reads' HO596.out).2.2); (case side4 => exact (Kd.R_reads' HO596.out).2.1); rintro e w' ⟨rfl, ⟨nd, rfl⟩⟩
        refine ⟨_, rfl, ?_⟩
        refine hK.out _ _ ⟨cL BK549 0, cL BK549 1, cL BK549 2, cL BK549 3, cL BK549 4, cL BK549 5, cL BK549 6, cL BK549 7, cL BK549 8, hHeld.2.2.2.2.2.2.2.2.2.1, hHeld.2.2.2.2.2.2.2.2.2.2⟩ (fun hHeld => ?_)
        clear hK K
        refine nT 73 (h := ?_)
        refine pT 20 18 74 524287 HT_ (h := ?_)
        refine pT 20 19 75 1048575 HT_ (h := ?_)
        refine done_ (done_of HT_.out (by kernel_rfl)) ?_
        have p598 : 0 ≤ (x53_1 : Int) := oD; have q598 : x53_1 < (t578.length : Int) := oD; obtain ⟨ad598, A598_0, c598_0, e598, hx598_0, hl598_0, hi598_0⟩ := at_L13 (Kd.N_reads' HO_5.out).2.2 x53_1 p598 q598; obtain rfl : ad588 = ad598 := (by injection e598); obtain ⟨ce598, hce598, hMe598, hcc598⟩ := Kd.N_get HO_5.out [] x53_1 p598 (by first | exact q598 | exact oD | (have e_ := (Kd.N_reads' HO_5.out).1; omega)); obtain ⟨ua598_0, uc598_0, rfl, ul598_0, ge598_0⟩ := Kd.FK_slice_open hMe598; have hv598_0 := hcc598 0 _ rfl; rw [Nat.add_zero, show ((Kd.slice 21 (Kd.int .i32))).sz = 1 from rfl, Nat.mul_one] at hv598_0; replace hv598_0 := oI (hv598_0.symm.trans hx598_0); injection hv598_0 with hva_ hvn_ hvc_; rw [hva_] at ge598_0; rw [hvc_] at ul598_0; have HL598_0 := aM (show Kd.V (Kd.int .i32) 21 _ w.heap.size _ _ (rd_L13 t578 x53_1) from Kd.V_mk ul598_0 ge598_0); clear hva_ hvn_ hvc_ ge598_0 ul598_0; clear hcc598 hce598; have HR598_0 := aM hi598_0; have HC598_0 := aM hl598_0; clear hi598_0 hl598_0; replace p598 := eq_true p598; replace q598 := eq_true q598
        try go_wp2
        go_loopg [81] k1 (fun kq v81 w' => ∃ (x81_2 : Int), v81 = .int .i64 x81_2 ∧ Aside0 (F25.l1 kq l0 t578 t581 x53_1 (t578.length : Int) x53_1 ((rd_L13 t578 x53_1).length : Int) x81_2 a1_0 a1_1 a1_2 a1_3 a1_4 a1_5 a1_6 l1_7 l1_8 = some r) ∧ Aside0 (kq ≤ k1) ∧ Aside0 (Kd.N (Kd.slice 21 (Kd.int .i32)) 43 w' w.heap.size (fun k_ => some k_ ≠ ((.slice (some ad593) t581.length co36) : Value).ownBlock ∧ k_ ≠ gb549) (.slice (some ad588) t578.length co34) t578) ∧ Aside0 (Kd.N (Kd.slice 21 (Kd.int .i32)) 43 w' w.heap.size (fun k_ => some k_ ≠ ((.slice (some ad588) t578.length co34) : Value).ownBlock ∧ k_ ≠ gb549) (.slice (some ad593) t581.length co36) t581) ∧ Aside0 (w'.heap[gb549]? = some (.cells #[.int .i64 a1_0, .int .i64 a1_1, .int .i64 a1_2, .int .i64 a1_3, .int .i64 a1_4, .int .i64 a1_5, .int .i64 a1_6, (.slice A1_7 l1_7.length c1_7), (.slice A1_8 l1_8.length c1_8)] 56 (0, 0))) ∧ Aside0 (Kd.C (Kd.int .i32) w' A588_0 (rd_L13 t578 x53_1).length (rd_L13 t578 x53_1)) ∧ Aside0 (Kd.C (Kd.int .i32) w' A593_0 (rd_L13 t581 x53_1).length (rd_L13 t581 x53_1)) ∧ Aside0 (Kd.C (Kd.int .i32) w' A598_0 (rd_L13 t578 x53_1).length (rd_L13 t578 x53_1)) ∧ Aside0 (Below w.heap.size w w'))
        case atStart => exact ⟨(0), rfl, H', ⟨Nat.le_refl _⟩, ⟨by (with_reducible repeat (first | apply Kd.N_alloc | apply Kd.N_drewN | apply Kd.N_drew)); exact Kd.N_mono HO_5.out (fun _ hk => ⟨hk.1.1.1, hk.1.1.2⟩)⟩, ⟨by (with_reducible repeat (first | apply Kd.N_alloc | apply Kd.N_drewN | apply Kd.N_drew)); exact Kd.N_mono HO_6.out (fun _ hk => ⟨hk.1.1.1, hk.1.1.2⟩)⟩, ⟨bK BK549.out⟩, ⟨kC HR588_0.out⟩, ⟨kC HR593_0.out⟩, ⟨kC HR598_0.out⟩, ⟨bZ⟩⟩
        case round =>
         clear H'; (try clear c1); (try clear c2); (try clear p2); (try clear c3); (try clear c4); (try clear c5); (try clear c5b0); (try clear p5); (try clear q5); (try clear hx5); (try clear c9); (try clear c10); (try clear c13); (try clear c16); (try clear c16b0); (try clear c16b1); (try clear c17); (try clear c17b0); (try clear c17b1); (try clear c22); (try clear c25); (try clear c29); (try clear c30); (try clear c32); (try clear c37); (try clear c37b0); (try clear c38); (try clear c38b0); (try clear c39); (try clear c39b0); (try clear c42); (try clear c43); (try clear c43b0); (try clear c46); (try clear hz35); (try clear hx588_0); (try clear hx593_0); (try clear hx598_0); (try clear p2); (try clear p588); (try clear p593); (try clear p598); (try clear q588); (try clear q593); (try clear q598); obtain ⟨x81_2, rfl, HA, HK2, HO_5, HO_6, BK549, HR588_0, HR593_0, HR598_0, HB⟩ := hrel
         cases gk with
         | zero => exact absurd HA.out (by simp [F25.l1])
         | succ k2 =>
          have H := HA.out; clear HA; simp only [F25.l1] at H
          by_cases c52 : x81_2 < ((rd_L13 t578 x53_1).length : Int)
          ·
           rw [if_pos c52] at H; have c52b0 : decide (x81_2 < ((rd_L13 t578 x53_1).length : Int)) = true := dT c52; clear c52; obtain ⟨t599, A53, H⟩ := bnd H; obtain ⟨c54, H⟩ := ifp H; have c54b0 : decide (0 ≤ x53_1) = true := dT c54; clear c54; obtain ⟨c55, H⟩ := ifp H; have c55b0 : decide (x53_1 < (t578.length : Int)) = true := dT c55; clear c55; obtain ⟨c56, H⟩ := ifp H; have c56b0 : decide (0 ≤ x81_2) = true := dT c56; clear c56; obtain ⟨c57, H⟩ := ifp H; have c57b0 : decide (x81_2 < ((rd_L13 t578 x53_1).length : Int)) = true := dT c57; clear c57; obtain ⟨c58, H⟩ := ifp H; have c58b0 : (t599 == (rd (rd_L13 t578 x53_1) x81_2)) = true := beq_iff_eq.mpr c58; have c58b1 : (t599 != (rd (rd_L13 t578 x53_1) x81_2)) = false := bne_eq_false_iff_eq.mpr c58; clear c58; obtain ⟨t602, A59, H⟩ := bnd H; obtain ⟨c60, H⟩ := ifp H; have c60b0 : decide (x53_1 < (t581.length : Int)) = true := dT c60; clear c60; obtain ⟨c61, H⟩ := ifp H; have c61b0 : decide (x81_2 < ((rd_L13 t581 x53_1).length : Int)) = true := dT c61; clear c61; obtain ⟨c62, H⟩ := ifp H; have c62b0 : (t602 == (rd (rd_L13 t581 x53_1) x81_2)) = true := beq_iff_eq.mpr c62; have c62b1 : (t602 != (rd (rd_L13 t581 x53_1) x81_2)) = false := bne_eq_false_iff_eq.mpr c62; clear c62; have H' := aM H; clear H
           try go_wp2
           replace HO_5 := aM (Kd.N_drew HO_5.out); replace HO_6 := aM (Kd.N_drew HO_6.out); replace BK549 := aM (blk_drew BK549.out); replace HR588_0 := aM (Kd.C_drew HR588_0.out); replace HR593_0 := aM (Kd.C_drew HR593_0.out); replace HR598_0 := aM (Kd.C_drew HR598_0.out); replace HB := aM (below_drew1 HB.out); have p600 : 0 ≤ (x53_1 : Int) := oD; have q600 : x53_1 < (t578.length : Int) := oD; obtain ⟨ad600, A600_0, c600_0, e600, hx600_0, hl600_0, hi600_0⟩ := at_L13 (Kd.N_reads' HO_5.out).2.2 x53_1 p600 q600; obtain rfl : ad588 = ad600 := (by injection e600); obtain ⟨ce600, hce600, hMe600, hcc600⟩ := Kd.N_get HO_5.out [] x53_1 p600 (by first | exact q600 | exact oD | (have e_ := (Kd.N_reads' HO_5.out).1; omega)); obtain ⟨ua600_0, uc600_0, rfl, ul600_0, ge600_0⟩ := Kd.FK_slice_open hMe600; have hv600_0 := hcc600 0 _ rfl; rw [Nat.add_zero, show ((Kd.slice 21 (Kd.int .i32))).sz = 1 from rfl, Nat.mul_one] at hv600_0; replace hv600_0 := oI (hv600_0.symm.trans hx600_0); injection hv600_0 with hva_ hvn_ hvc_; rw [hva_] at ge600_0; rw [hvc_] at ul600_0; have HL600_0 := aM (show Kd.V (Kd.int .i32) 21 _ w.heap.size _ _ (rd_L13 t578 x53_1) from Kd.V_mk ul600_0 ge600_0); clear hva_ hvn_ hvc_ ge600_0 ul600_0; clear hcc600 hce600; have HR600_0 := aM hi600_0; have HC600_0 := aM hl600_0; clear hi600_0 hl600_0; replace p600 := eq_true p600; replace q600 := eq_true q600; have p601 : 0 ≤ (x81_2 : Int) := oD; have q601 : x81_2 < ((rd_L13 t578 x53_1).length : Int) := oD; obtain ⟨ad601, e601, hx601_0⟩ := Kd.at_int (kC HR600_0.out) x81_2 p601 q601
           cases e601
           replace p601 := eq_true p601; replace q601 := eq_true q601; have p603 : 0 ≤ (x53_1 : Int) := oD; have q603 : x53_1 < (t581.length : Int) := oD; obtain ⟨ad603, A603_0, c603_0, e603, hx603_0, hl603_0, hi603_0⟩ := at_L13 (Kd.N_reads' HO_6.out).2.2 x53_1 p603 q603; obtain rfl : ad593 = ad603 := (by injection e603); obtain ⟨ce603, hce603, hMe603, hcc603⟩ := Kd.N_get HO_6.out [] x53_1 p603 (by first | exact q603 | exact oD | (have e_ := (Kd.N_reads' HO_6.out).1; omega)); obtain ⟨ua603_0, uc603_0, rfl, ul603_0, ge603_0⟩ := Kd.FK_slice_open hMe603; have hv603_0 := hcc603 0 _ rfl; rw [Nat.add_zero, show ((Kd.slice 21 (Kd.int .i32))).sz = 1 from rfl, Nat.mul_one] at hv603_0; replace hv603_0 := oI (hv603_0.symm.trans hx603_0); injection hv603_0 with hva_ hvn_ hvc_; rw [hva_] at ge603_0; rw [hvc_] at ul603_0; have HL603_0 := aM (show Kd.V (Kd.int .i32) 21 _ w.heap.size _ _ (rd_L13 t581 x53_1) from Kd.V_mk ul603_0 ge603_0); clear hva_ hvn_ hvc_ ge603_0 ul603_0; clear hcc603 hce603; have HR603_0 := aM hi603_0; have HC603_0 := aM hl603_0; clear hi603_0 hl603_0; replace p603 := eq_true p603; replace q603 := eq_true q603; have p604 : 0 ≤ (x81_2 : Int) := oD; have q604 : x81_2 < ((rd_L13 t581 x53_1).length : Int) := oD; obtain ⟨ad604, e604, hx604_0⟩ := Kd.at_int (kC HR603_0.out) x81_2 p604 q604
           cases e604
           replace p604 := eq_true p604; replace q604 := eq_true q604
           refine start_ (n := 26) (S := fun w' => w'.cell? (ad588.add (x53_1).toNat) = some (.slice (some ad601) (rd_L13 t578 x53_1).length c600_0) ∧ w'.cell? (ad601.add (x81_2).toNat) = some (.int .i32 (rd (rd_L13 t578 x53_1) x81_2)) ∧ w'.cell? (ad593.add (x53_1).toNat) = some (.slice (some ad604) (rd_L13 t581 x53_1).length c603_0) ∧ w'.cell? (ad604.add (x81_2).toNat) = some (.int .i32 (rd (rd_L13 t581 x53_1) x81_2))) (ds := []) (bA 26 0) (by kernel_rfl) rfl (by kernel_rfl) ⟨hx600_0, hx601_0, hx603_0, hx604_0⟩ (fun hHeld => ?_); refine with_tabW F25.tab14 F25.bits14 (fun HT_ HW_ => ?_)
           generalize wr.drew = w63 at HO_5 HO_6 BK549 HR588_0 HR593_0 HR598_0 HB HL600_0 HL603_0 HR600_0 HR603_0 hx600_0 hx601_0 hx603_0 hHeld ⊢
           refine pT 26 0 84 1 HT_ (h := ?_)
           refine pT 26 1 85 3 HT_ (h := ?_)
           refine pT 26 2 86 7 HT_ (h := ?_)
           refine pT 26 4 88 23 HT_ (h := ?_)
           refine pT 26 5 89 55 HT_ (h := ?_)
           refine pT 26 6 90 119 HT_ (h := ?_)
           refine pT 26 8 92 375 HT_ (h := ?_)
           refine tT 26 7 91 503 HT_ HW_ hHeld (h := ?_)
           refine pT 26 9 93 1015 HT_ (h := ?_)
           refine tT 26 10 94 2039 HT_ HW_ hHeld (h := ?_)
           refine one_ (i := 3) (N := some 87) (bA 26 2047) rfl rfl (one_of HT_.out (by kernel_rfl)) (by decide) (fun K hK => ?_)
           refine gA Try.func18 #[asPtr (.slice A0 l0.length c0), .int .i64 x53_1, .int .i64 x81_2] (h := ?_)
           with_reducible refine (F18.calls _ _ l0 x53_1 x81_2 t599 _ ?side1 ?side2 A53.out).mono ?_
           (case side1 => with_reducible exact (Kd.C_below HR0.out HB.out)); (case side2 => exact HC0.out); rintro e w64 ⟨rfl, hb⟩; have HS0_ := (hb.cell (World.block_lt_of_cell? _ _ (hHeld.1))).trans (hHeld.1); have HS1_ := (hb.cell (World.block_lt_of_cell? _ _ (hHeld.2.1))).trans (hHeld.2.1); have HS2_ := (hb.cell (World.block_lt_of_cell? _ _ (hHeld.2.2.1))).trans (hHeld.2.2.1); have HS3_ := (hb.cell (World.block_lt_of_cell? _ _ (hHeld.2.2.2))).trans (hHeld.2.2.2)
           refine ⟨_, rfl, ?_⟩
           replace HO_5 := aM (Kd.N_below (kN HO_5.out) hb); replace HO_6 := aM (Kd.N_below (kN HO_6.out) hb); replace HL600_0 := aM (Kd.V_below (kV HL600_0.out) hb); replace BK549 := aM (blk_below (g := gb549) (o := .cells #[.int .i64 a1_0, .int .i64 a1_1, .int .i64 a1_2, .int .i64 a1_3, .int .i64 a1_4, .int .i64 a1_5, .int .i64 a1_6, .slice A1_7 l1_7.length c1_7, .slice A1_8 l1_8.length c1_8] 56 (0, 0)) (bK BK549.out) hb); replace HR588_0 := aM (Kd.C_below (kC HR588_0.out) hb); replace HR593_0 := aM (Kd.C_below (kC HR593_0.out) hb); replace HR598_0 := aM (Kd.C_below (kC HR598_0.out) hb); replace HR600_0 := aM (Kd.C_below (kC HR600_0.out) hb); replace HB := aM (below_step bZ hb); (try clear hb); (try clear hb2); (try clear hk); (try clear hi)
           refine hK.out _ _ ⟨HS0_, HS1_, HS2_, HS3_⟩ (fun hHeld => ?_)
           clear hK K
           refine nT 87 (h := ?_)
           refine pT 26 11 95 4095 HT_ (h := ?_)
           refine pT 26 12 96 8191 HT_ (h := ?_)
           refine pT 26 13 97 16383 HT_ (h := ?_)
           refine pT 26 14 98 32767 HT_ (h := ?_)
           refine pT 26 15 99 65535 HT_ (h := ?_)
           refine pT 26 17 101 196607 HT_ (h := ?_)
           refine pT 26 18 102 458751 HT_ (h := ?_)
           refine pT 26 19 103 983039 HT_ (h := ?_)
           refine pT 26 21 105 3080191 HT_ (h := ?_)
           refine tT 26 20 104 4128767 HT_ HW_ hHeld (h := ?_)
           refine pT 26 22 106 8323071 HT_ (h := ?_)
           refine tT 26 23 107 16711679 HT_ HW_ hHeld (h := ?_)
           refine one_ (i := 16) (N := some 100) (bA 26 16777215) rfl rfl (one_of HT_.out (by kernel_rfl)) (by decide) (fun K hK => ?_)
           refine gA Try.func19 #[asPtr (.slice A0 l0.length c0), .int .i64 x53_1, .int .i64 x81_2] (h := ?_)
           with_reducible refine (F19.calls _ _ l0 x53_1 x81_2 t602 _ ?side1 ?side2 A59.out).mono ?_
           (case side1 => with_reducible exact (Kd.C_below HR0.out HB.out)); (case side2 => exact HC0.out); rintro e w65 ⟨rfl, hb⟩; have HS0_ := (hb.cell (World.block_lt_of_cell? _ _ (hHeld.1))).trans (hHeld.1); have HS1_ := (hb.cell (World.block_lt_of_cell? _ _ (hHeld.2.1))).trans (hHeld.2.1); have HS2_ := (hb.cell (World.block_lt_of_cell? _ _ (hHeld.2.2.1))).trans (hHeld.2.2.1); have HS3_ := (hb.cell (World.block_lt_of_cell? _ _ (hHeld.2.2.2))).trans (hHeld.2.2.2)
           refine ⟨_, rfl, ?_⟩
           replace HO_5 := aM (Kd.N_below (kN HO_5.out) hb); replace HO_6 := aM (Kd.N_below (kN HO_6.out) hb); replace HL600_0 := aM (Kd.V_below (kV HL600_0.out) hb); replace BK549 := aM (blk_below (g := gb549) (o := .cells #[.int .i64 a1_0, .int .i64 a1_1, .int .i64 a1_2, .int .i64 a1_3, .int .i64 a1_4, .int .i64 a1_5, .int .i64 a1_6, .slice A1_7 l1_7.length c1_7, .slice A1_8 l1_8.length c1_8] 56 (0, 0)) (bK BK549.out) hb); replace HR588_0 := aM (Kd.C_below (kC HR588_0.out) hb); replace HR593_0 := aM (Kd.C_below (kC HR593_0.out) hb); replace HR598_0 := aM (Kd.C_below (kC HR598_0.out) hb); replace HR600_0 := aM (Kd.C_below (kC HR600_0.out) hb); replace HB := aM (below_step bZ hb); (try clear hb); (try clear hb2); (try clear hk); (try clear hi)
           refine hK.out _ _ ⟨HS0_, HS1_, HS2_, HS3_⟩ (fun hHeld => ?_)
           clear hK K
           refine nT 100 (h := ?_)
           refine pT 26 24 108 33554431 HT_ (h := ?_)
           refine pT 26 25 109 67108863 HT_ (h := ?_)
           refine done_ (done_of HT_.out (by kernel_rfl)) ?_
           try go_wp2
           go_roundg k2
           case measure => have := HK1.out; have := HK2.out; omega
           case rel => exact ⟨(wrap64 (x81_2 + 1)), rfl, H', ⟨by have := HK1.out; have := HK2.out; omega⟩, HO_5, HO_6, BK549, ⟨kC HR588_0.out⟩, ⟨kC HR593_0.out⟩, ⟨kC HR598_0.out⟩, HB⟩
          ·
           rw [if_neg c52] at H; have c52b0 : decide (x81_2 < ((rd_L13 t578 x53_1).length : Int)) = false := dF c52; clear c52; have H' := aM H; clear H
           go_wp2
           go_roundg k2
           case measure => have := HK1.out; have := HK2.out; omega
           case rel => exact ⟨(wrap64 (x53_1 + 1)), rfl, H', ⟨by have := HK1.out; have := HK2.out; omega⟩, HO_5, HO_6, BK549, HB⟩
       ·
        replace c46 := Bool.eq_false_iff.mpr c46; subst c46; rw [if_neg (show ¬ (false = true) by decide)] at H
        exact absurd H (by simp)
      ·
       replace c42 := Bool.eq_false_iff.mpr c42; subst c42; rw [if_neg (show ¬ (false = true) by decide)] at H
       exact absurd H (by simp)
     ·
      rw [if_neg c37] at H; have c37b0 : decide (x53_1 < (t578.length : Int)) = false := dF c37; clear c37; obtain ⟨t584, A66, H⟩ := bnd H; obtain ⟨t587, A67, H⟩ := bnd H; obtain rfl := oI H
      try go_wp2
      replace HO_5 := aM (Kd.N_drew HO_5.out); replace HO_6 := aM (Kd.N_drew HO_6.out); replace BK549 := aM (blk_drew BK549.out); replace HB := aM (below_drew1 HB.out)
      refine start_ (n := 7) (S := fun w' => w'.cell? ⟨gb549, 0, none⟩ = some (.int .i64 a1_0) ∧ w'.cell? ⟨gb549, 1, none⟩ = some (.int .i64 a1_1) ∧ w'.cell? ⟨gb549, 2, none⟩ = some (.int .i64 a1_2) ∧ w'.cell? ⟨gb549, 3, none⟩ = some (.int .i64 a1_3) ∧ w'.cell? ⟨gb549, 4, none⟩ = some (.int .i64 a1_4) ∧ w'.cell? ⟨gb549, 5, none⟩ = some (.int .i64 a1_5) ∧ w'.cell? ⟨gb549, 6, none⟩ = some (.int .i64 a1_6) ∧ w'.cell? ⟨gb549, 7, none⟩ = some (.slice A1_7 l1_7.length c1_7) ∧ w'.cell? ⟨gb549, 8, none⟩ = some (.slice A1_8 l1_8.length c1_8)) (ds := []) (bA 7 0) (by kernel_rfl) rfl (by kernel_rfl) (cx9 BK549.out) (fun hHeld => ?_)
      generalize wr.drew = w68 at HO_5 HO_6 BK549 HB hHeld ⊢
      refine pB 7 0 112 1 (h := ?_)
      refine tB 7 3 115 9 hHeld (h := ?_)
      refine one_ (i := 1) (N := some 113) (bA 7 11) rfl rfl (by kernel_rfl) (by decide) (fun K hK => ?_)
      refine gA Try.func14 #[asPtr (.slice A0 l0.length c0)] (h := ?_)
      with_reducible refine (F14.calls k1 _ _ l0 t584 _ ?side1 ?side2 A66.out).mono ?_
      (case side1 => with_reducible exact (Kd.C_below HR0.out HB.out)); (case side2 => exact HC0.out); rintro e w69 ⟨v585, rfl, ho0, hb⟩
      refine ⟨_, rfl, ?_⟩
      replace HO_5 := aM (Kd.N_elder' (kN HO_5.out) (Kd.R_base ho0) hb); replace HO_6 := aM (Kd.N_elder' (kN HO_6.out) (Kd.R_base ho0) hb); have HO586 := aM (Kd.R_lower ho0 (below_size bZ)); replace BK549 := aM (blk_below (g := gb549) (o := .cells #[.int .i64 a1_0, .int .i64 a1_1, .int .i64 a1_2, .int .i64 a1_3, .int .i64 a1_4, .int .i64 a1_5, .int .i64 a1_6, .slice A1_7 l1_7.length c1_7, .slice A1_8 l1_8.length c1_8] 56 (0, 0)) (bK BK549.out) hb); replace HB := aM (below_step bZ hb); (try clear hb); (try clear hb2); (try clear hk); (try clear hi); (try clear ho0)
      refine hK.out _ _ (cx9 BK549.out) (fun hHeld => ?_)
      clear hK K
      refine nT 113 (h := ?_)
      refine join_ (σ := Unit) 2 (bA 7 31) (fun _ => [(114, .string (strOfNums t584)), (116, .string t587)]) (fun _ w' => (w'.cell? ⟨gb549, 0, none⟩ = some (.int .i64 a1_0) ∧ w'.cell? ⟨gb549, 1, none⟩ = some (.int .i64 a1_1) ∧ w'.cell? ⟨gb549, 2, none⟩ = some (.int .i64 a1_2) ∧ w'.cell? ⟨gb549, 3, none⟩ = some (.int .i64 a1_3) ∧ w'.cell? ⟨gb549, 4, none⟩ = some (.int .i64 a1_4) ∧ w'.cell? ⟨gb549, 5, none⟩ = some (.int .i64 a1_5) ∧ w'.cell? ⟨gb549, 6, none⟩ = some (.int .i64 a1_6) ∧ w'.cell? ⟨gb549, 7, none⟩ = some (.slice A1_7 l1_7.length c1_7) ∧ w'.cell? ⟨gb549, 8, none⟩ = some (.slice A1_8 l1_8.length c1_8)) ∧ Aside0 (Below w.heap.size w w')) ?_ ?_
      rotate_left
      ·
       intro hCont
       refine two_ (i := 2) (j := 4) (Ni := some 114) (Nj := some 116) (bA 7 15) (bA 7 27) rfl rfl rfl rfl (by kernel_rfl) (by decide) (by decide) (fun K hK => ?_) (fun K hK => ?_)
       ·
        skip
        have hcv70 := own_string (P := Try.prog) Try.underlying36 Try.underlying5 Try.underlying9 (Kd.own_of_R HO586.out)
        refine value_ (w1 := ?_) (v := ?_) (by rfl) rfl ?_ ?_
        rotate_left 2
        ·
         go_simp
         constructor
         ·
          rfl
         ·
          rfl
        clear hcv70
        refine hK.out _ _ (cx9 BK549.out) (fun hHeld => ?_)
        clear hK K
        refine nT 114 (h := ?_)
        refine one_ (i := 4) (N := some 116) (bA 7 31) rfl rfl (by kernel_rfl) (by decide) (fun K hK => ?_)
        refine gA Try.func56 #[.agg #[.int .i64 a1_0, .int .i64 a1_1, .int .i64 a1_2, .int .i64 a1_3, .int .i64 a1_4, .int .i64 a1_5, .int .i64 a1_6, .slice A1_7 l1_7.length c1_7, .slice A1_8 l1_8.length c1_8]] (h := ?_)
        with_reducible refine (F56.calls k1 a1_0 a1_1 a1_2 a1_3 a1_4 a1_5 a1_6 _ _ l1_7 _ _ l1_8 t587 _ ?side1 ?side2 ?side3 ?side4 A67.out).mono ?_
        (case side1 => with_reducible exact (Kd.C_below HR1_7.out HB.out)); (case side2 => exact HC1_7.out); (case side3 => with_reducible exact (Kd.C_below HR1_8.out HB.out)); (case side4 => exact HC1_8.out); rintro e w71 ⟨rfl, hb⟩
        refine ⟨_, rfl, ?_⟩
        replace HO_5 := aM (Kd.N_below (kN HO_5.out) hb); replace HO_6 := aM (Kd.N_below (kN HO_6.out) hb); replace HO586 := aM (Kd.R_below (kR HO586.out) hb); replace BK549 := aM (blk_below (g := gb549) (o := .cells #[.int .i64 a1_0, .int .i64 a1_1, .int .i64 a1_2, .int .i64 a1_3, .int .i64 a1_4, .int .i64 a1_5, .int .i64 a1_6, .slice A1_7 l1_7.length c1_7, .slice A1_8 l1_8.length c1_8] 56 (0, 0)) (bK BK549.out) hb); replace HB := aM (below_step bZ hb); (try clear hb); (try clear hb2); (try clear hk); (try clear hi)
        refine hK.out _ _ (cx9 BK549.out) (fun hHeld => ?_)
        clear hK K
        refine nT 116 (h := ?_)
        exact norm_ (by simp only [putAll, Act.put, List.setIfInBounds_toArray, List.set_cons_zero, List.set_cons_succ]) (hCont () _ ⟨hHeld, HB⟩)
       ·
        skip
        refine gA Try.func56 #[.agg #[.int .i64 a1_0, .int .i64 a1_1, .int .i64 a1_2, .int .i64 a1_3, .int .i64 a1_4, .int .i64 a1_5, .int .i64 a1_6, .slice A1_7 l1_7.length c1_7, .slice A1_8 l1_8.length c1_8]] (h := ?_)
        with_reducible refine (F56.calls k1 a1_0 a1_1 a1_2 a1_3 a1_4 a1_5 a1_6 _ _ l1_7 _ _ l1_8 t587 _ ?side1 ?side2 ?side3 ?side4 A67.out).mono ?_
        (case side1 => with_reducible exact (Kd.C_below HR1_7.out HB.out)); (case side2 => exact HC1_7.out); (case side3 => with_reducible exact (Kd.C_below HR1_8.out HB.out)); (case side4 => exact HC1_8.out); rintro e w71 ⟨rfl, hb⟩
        refine ⟨_, rfl, ?_⟩
        replace HO_5 := aM (Kd.N_below (kN HO_5.out) hb); replace HO_6 := aM (Kd.N_below (kN HO_6.out) hb); replace HO586 := aM (Kd.R_below (kR HO586.out) hb); replace BK549 := aM (blk_below (g := gb549) (o := .cells #[.int .i64 a1_0, .int .i64 a1_1, .int .i64 a1_2, .int .i64 a1_3, .int .i64 a1_4, .int .i64 a1_5, .int .i64 a1_6, .slice A1_7 l1_7.length c1_7, .slice A1_8 l1_8.length c1_8] 56 (0, 0)) (bK BK549.out) hb); replace HB := aM (below_step bZ hb); (try clear hb); (try clear hb2); (try clear hk); (try clear hi)
        refine hK.out _ _ (cx9 BK549.out) (fun hHeld => ?_)
        clear hK K
        refine nT 116 (h := ?_)
        refine one_ (i := 2) (N := some 114) (bA 7 31) rfl rfl (by kernel_rfl) (by decide) (fun K hK => ?_)
        have hcv70 := own_string (P := Try.prog) Try.underlying36 Try.underlying5 Try.underlying9 (Kd.own_of_R HO586.out)
        refine value_ (w1 := ?_) (v := ?_) (by rfl) rfl ?_ ?_
        rotate_left 2
        ·
         go_simp
         constructor
         ·
          rfl
         ·
          rfl
        clear hcv70
        refine hK.out _ _ (cx9 BK549.out) (fun hHeld => ?_)
        clear hK K
        refine nT 114 (h := ?_)
        exact norm_ (by simp only [putAll, Act.put, List.setIfInBounds_toArray, List.set_cons_zero, List.set_cons_succ]) (hCont () _ ⟨hHeld, HB⟩)
      rintro _ w71 ⟨hHeld, HB_⟩; clear HB; have HB := HB_; clear HB_
      refine norm_ (a' := ?_) ?_ ?_
      rotate_left
      ·
       simp only [putAll, Act.put, List.setIfInBounds_toArray, List.set_cons_zero, List.set_cons_succ]
       rfl
      refine pB 7 5 117 63 (h := ?_)
      refine pB 7 6 4 127 (h := ?_)
      refine done_ (by kernel_rfl) ?_
      try go_wp2
      go_ret
      exact ⟨rfl, HB.out⟩
  ·
   replace c13 := Bool.eq_false_iff.mpr c13; subst c13; rw [if_neg (show ¬ (false = true) by decide)] at H
   exact absurd H (by simp)
 ·
  replace c9 := Bool.eq_false_iff.mpr c9; subst c9; rw [if_neg (show ¬ (false = true) by decide)] at H
  exact absurd H (by simp)

end Go.Proofs.Ytekenaclmplocaa.PPageParses
