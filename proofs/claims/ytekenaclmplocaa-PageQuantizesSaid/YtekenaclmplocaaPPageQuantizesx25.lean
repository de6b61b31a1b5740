-- Written by a program of this session (wip/tools/mkprint.py over the kit's print).
import Derived.Test.YtekenaclmplocaaPPageQuantizesx0
import Derived.Test.YtekenaclmplocaaPPageQuantizesx3
import Derived.Test.YtekenaclmplocaaPPageQuantizesx7
import Derived.Test.YtekenaclmplocaaPPageQuantizesx14
import Derived.Test.YtekenaclmplocaaPPageQuantizesx22
import Derived.Test.YtekenaclmplocaaPPageQuantizesx24
namespace Go.Proofs.Ytekenaclmplocaa.PPageQuantizes
open Go.RowKit Go.Proofs.YtekenaclmplocaaW.PrintWords Go.Proofs.YtekenaclmplocaaW.PrintLast Go.Proofs.YtekenaclmplocaaW.PrintMore
attribute [local go_sem] max2_int min2_int max_two min_two max_three min_three max_four min_four   -- for this text's walks alone
set_option linter.unusedVariables false
set_option linter.unusedSimpArgs false

/-! ### credenzalaw08_PageQuantizes: function 7 -/
def credenzalaw08_PageQuantizes.j0 : Nat → Bool → Int → Int → Int → Int → Int → Int → Int → List (List Int) → List (List Int) → Option (Bool)
 | 0, _, _, _, _, _, _, _, _, _, _ => none
 | k + 1, x14, x658000, x658001, x658002, x658003, x658004, x658005, x658006, x658007, x658008 => if x14 = true then ((credenzalaw08_awake.f k).bind fun t658 => (some t658)) else ((page_Quantize.f k x658000 x658001 x658002 x658003 x658004 x658005 x658006 x658007 x658008).bind fun bt659 => ((credenzalaw08_head.f x658000 x658001 x658002 x658003 x658004 x658005 x658006).bind fun bt663 => ((credenzaref08_Right.f bt663.1 bt663.2.1 bt663.2.2.1 bt663.2.2.2.1 bt663.2.2.2.2.1 bt663.2.2.2.2.2.1 bt663.2.2.2.2.2.2).bind fun t670 => (if t670 = true then ((credenzalaw08_shaped.f k x658000 x658001 x658002 x658003 x658004 x658005 x658006 x658007).bind fun t671 => (if t671 = true then ((credenzalaw08_shaped.f k x658000 x658001 x658002 x658003 x658004 x658005 x658006 x658008).bind fun t672 => (if t672 = true then (if bt659.2 = 0 then (if (bt659.1.length : Int) = 0 then (none) else ((credenzalaw08_head.f x658000 x658001 x658002 x658003 x658004 x658005 x658006).bind fun bt676 => ((credenzaref08_Quantize.f k bt676.1 bt676.2.1 bt676.2.2.1 bt676.2.2.2.1 bt676.2.2.2.2.1 bt676.2.2.2.2.2.1 bt676.2.2.2.2.2.2 x658007 x658008).bind fun bt683 => ((credenzalaw08_is.f k bt659.1 bt683.1 bt683.2.1 bt683.2.2.1 bt683.2.2.2.1 bt683.2.2.2.2.1 bt683.2.2.2.2.2.1 bt683.2.2.2.2.2.2.1 bt683.2.2.2.2.2.2.2.1 bt683.2.2.2.2.2.2.2.2).bind fun t696 => (if t696 = true then ((credenzalaw08_awake.f k).bind fun t697 => (some t697)) else (none)))))) else (none)) else (if bt659.2 = 25 then (if (bt659.1.length : Int) = 0 then ((credenzalaw08_awake.f k).bind fun t673 => (some t673)) else (none)) else (none)))) else (if bt659.2 = 25 then (if (bt659.1.length : Int) = 0 then ((credenzalaw08_awake.f k).bind fun t674 => (some t674)) else (none)) else (none)))) else (if bt659.2 = 11 then (if (bt659.1.length : Int) = 0 then ((credenzalaw08_awake.f k).bind fun t675 => (some t675)) else (none)) else (none))))))
def credenzalaw08_PageQuantizes.f (k : Nat) (a0_0 : Int) (a0_1 : Int) (a0_2 : Int) (a0_3 : Int) (a0_4 : Int) (a0_5 : Int) (a0_6 : Int) (l0_7 : List (List Int)) (l0_8 : List (List Int)) : Option (Bool) := if (l0_7.length : Int) > 30 then (credenzalaw08_PageQuantizes.j0 k true a0_0 a0_1 a0_2 a0_3 a0_4 a0_5 a0_6 l0_7 l0_8) else (credenzalaw08_PageQuantizes.j0 k (decide ((l0_8.length : Int) > 30)) a0_0 a0_1 a0_2 a0_3 a0_4 a0_5 a0_6 l0_7 l0_8)
theorem credenzalaw08_PageQuantizes.mono_l : ∀ k, (∀ y0 y1 y2 y3 y4 y5 y6 y7 y8 y9, LeO (credenzalaw08_PageQuantizes.j0 k y0 y1 y2 y3 y4 y5 y6 y7 y8 y9) (credenzalaw08_PageQuantizes.j0 (k + 1) y0 y1 y2 y3 y4 y5 y6 y7 y8 y9))
 | 0 => fun _ _ _ _ _ _ _ _ _ _ r h => by simp [credenzalaw08_PageQuantizes.j0] at h
 | k + 1 => by
  have ih0 := credenzalaw08_PageQuantizes.mono_l k
  ·
   intro y0 y1 y2 y3 y4 y5 y6 y7 y8 y9; unfold credenzalaw08_PageQuantizes.j0
   repeat' first
   | (with_reducible exact ih0 _ _ _ _ _ _ _ _ _ _)
   | (with_reducible exact credenzalaw08_awake.mono _)
   | (with_reducible exact credenzalaw08_is.mono _ _ _ _ _ _ _ _ _ _ _)
   | (with_reducible exact credenzalaw08_shaped.mono _ _ _ _ _ _ _ _ _)
   | (with_reducible exact credenzaref08_Quantize.mono _ _ _ _ _ _ _ _ _ _)
   | (with_reducible exact page_Quantize.mono _ _ _ _ _ _ _ _ _ _)
   | (with_reducible exact LeO.refl _)
   | (with_reducible exact LeO.none _)
   | (with_reducible refine LeO.ite ?_ ?_)
   | (with_reducible refine LeO.bind ?_ (fun _ => ?_))
theorem credenzalaw08_PageQuantizes.mono : ∀ a0 a1 a2 a3 a4 a5 a6 a7 a8 k, LeO (credenzalaw08_PageQuantizes.f k a0 a1 a2 a3 a4 a5 a6 a7 a8) (credenzalaw08_PageQuantizes.f (k + 1) a0 a1 a2 a3 a4 a5 a6 a7 a8) := by
 intro a0 a1 a2 a3 a4 a5 a6 a7 a8 k; have ih0 := credenzalaw08_PageQuantizes.mono_l k; unfold credenzalaw08_PageQuantizes.f
 repeat' first
   | (with_reducible exact ih0 _ _ _ _ _ _ _ _ _ _)
   | (with_reducible exact credenzalaw08_awake.mono _)
   | (with_reducible exact credenzalaw08_is.mono _ _ _ _ _ _ _ _ _ _ _)
   | (with_reducible exact credenzalaw08_shaped.mono _ _ _ _ _ _ _ _ _)
   | (with_reducible exact credenzaref08_Quantize.mono _ _ _ _ _ _ _ _ _ _)
   | (with_reducible exact page_Quantize.mono _ _ _ _ _ _ _ _ _ _)
   | (with_reducible exact LeO.refl _)
   | (with_reducible exact LeO.none _)
   | (with_reducible refine LeO.ite ?_ ?_)
   | (with_reducible refine LeO.bind ?_ (fun _ => ?_))
def credenzalaw08_PageQuantizes.T8 : Bool × List (List Nat × List Nat) := (true, [([], []), ([0], [0]), ([1], [1]), ([2], [2]), ([3, 2], [2, 3]), ([2, 4], [2, 4]), ([5, 2], [5]), ([6], [6]), ([6], [6]), ([8, 6], [6, 8]), ([9, 6, 6], [6, 9]), ([6], [6]), ([11, 6], [6, 11]), ([6], [6]), ([13, 6], [6, 13]), ([10, 12, 14, 10, 6], [6, 10, 12, 14]), ([7, 15, 15, 6], [6, 7, 15]), ([6, 16], [6, 16]), ([17, 16], [17]), ([18, 18], [18]), ([18, 19], [18, 19]), ([20, 19, 0, 1, 2, 3, 4, 5, 6, 7, 8, 9, 10, 11, 12, 13, 14, 15, 16, 17, 18, 19, 20], [20])])
def credenzalaw08_PageQuantizes.B8 : List Nat := [0, 1, 3, 7, 15, 31, 63, 127, 127, 383, 895, 127, 2175, 127, 8319, 32639, 65535, 131071, 262143, 524287, 1048575, 2097151]
theorem credenzalaw08_PageQuantizes.tab8 : rtab .any (opsOf Try.f7 8) = credenzalaw08_PageQuantizes.T8 := by kernel_rfl
theorem credenzalaw08_PageQuantizes.bits8 : waitsOk credenzalaw08_PageQuantizes.T8.2 credenzalaw08_PageQuantizes.B8 = true := by kernel_rfl
set_option maxHeartbeats 8000000 in
set_option maxRecDepth 100000 in
theorem credenzalaw08_PageQuantizes.calls (k : Nat) (a0_0 : Int) (a0_1 : Int) (a0_2 : Int) (a0_3 : Int) (a0_4 : Int) (a0_5 : Int) (a0_6 : Int) (A0_7 : Option Addr) (c0_7 : Nat) (l0_7 : List (List Int)) (A0_8 : Option Addr) (c0_8 : Nat) (l0_8 : List (List Int)) (r : Bool) (w : World) (hr0_7 : Kd.C (Kd.slice 21 (Kd.int .i32)) w A0_7 l0_7.length l0_7) (hc0_7 : l0_7.length ≤ c0_7) (hr0_8 : Kd.C (Kd.slice 21 (Kd.int .i32)) w A0_8 l0_8.length l0_8) (hc0_8 : l0_8.length ≤ c0_8) (h : credenzalaw08_PageQuantizes.f k a0_0 a0_1 a0_2 a0_3 a0_4 a0_5 a0_6 l0_7 l0_8 = some r) :
  Calls Try.prog 7 #[.agg #[.int .i64 a0_0, .int .i64 a0_1, .int .i64 a0_2, .int .i64 a0_3, .int .i64 a0_4, .int .i64 a0_5, .int .i64 a0_6, .slice A0_7 l0_7.length c0_7, .slice A0_8 l0_8.length c0_8]] w fun e w' => e = .returned (.bool r) ∧ Below w.heap.size w w' := by
 have hu26 := Try.underlying26; have hu23 := Try.underlying23; have HR0_7 := Aside0.mk hr0_7; have HC0_7 := Aside0.mk hc0_7; clear hr0_7 hc0_7; have HR0_8 := Aside0.mk hr0_8; have HC0_8 := Aside0.mk hc0_8; clear hr0_8 hc0_8; have HB := Aside0.mk (Below.refl w.heap.size w); have H := h; clear h; unfold credenzalaw08_PageQuantizes.f at H; have HC2 := Aside0.mk H; clear H
 go_enter Try.func7, Try.ntmps7
 go_upto_region 1 with (first | ((with_reducible refine gate_dst (N := 1) rfl ?_); (try (refine gate_guard (by rfl) ?_; dsimp only)); refine bxE 1 #[.int .i64 a0_0, .int .i64 a0_1, .int .i64 a0_2, .int .i64 a0_3, .int .i64 a0_4, .int .i64 a0_5, .int .i64 a0_6, .slice A0_7 l0_7.length c0_7, .slice A0_8 l0_8.length c0_8] 26 (h := ?_); intro gb657 hg w3 hbox hb; have n0_ := bst HB hb; have n1_ := Aside0.mk (hbox); have n2_ := gE hg HB; have n3_ := gE hg HB; clear HB; have HB := n0_; have BK657 := n1_; have GW657 := n2_; have GE657 := n3_; clear n0_ n1_ n2_ n3_; clear hb hbox hg))
 (try simp only [Act.put, List.setIfInBounds_toArray, List.set_cons_zero, List.set_cons_succ])
 go_cut [14] (fun v14 wc => ∃ (kq : Nat) (x14_1 : Bool), v14 = .bool x14_1 ∧ Aside0 (credenzalaw08_PageQuantizes.j0 kq x14_1 a0_0 a0_1 a0_2 a0_3 a0_4 a0_5 a0_6 l0_7 l0_8 = some r) ∧ Aside0 (kq ≤ k) ∧ Aside0 (wc.heap[gb657]? = some (.cells #[.int .i64 a0_0, .int .i64 a0_1, .int .i64 a0_2, .int .i64 a0_3, .int .i64 a0_4, .int .i64 a0_5, .int .i64 a0_6, (.slice A0_7 l0_7.length c0_7), (.slice A0_8 l0_8.length c0_8)] 26 (0, 0))) ∧ Aside0 (Below w.heap.size w wc))
 case first =>
  have H := HC2.out; clear HC2
  by_cases c4 : (l0_7.length : Int) > 30
  ·
   rw [if_pos c4] at H; have c4b0 : decide (30 < (l0_7.length : Int)) = true := decide_eq_true c4; have c4b1 : decide (30 < l0_7.length) = true := decide_eq_true (by omega); clear c4; (first | rw [c4b0] | (simp only [i64_w, i32_w]; rw [c4b0]) | skip); have H' := Aside0.mk H; clear H; have hz5 := bx9 BK657.out
   go_wp2
   go_meet
   case rel => exact ⟨_, (true), rfl, H', ⟨by first | omega | exact Nat.le_refl _⟩, BK657, HB⟩
  ·
   rw [if_neg c4] at H; have c4b0 : decide (30 < (l0_7.length : Int)) = false := decide_eq_false c4; have c4b1 : decide (30 < l0_7.length) = false := decide_eq_false (by omega); clear c4; (first | rw [c4b0] | (simp only [i64_w, i32_w]; rw [c4b0]) | skip); have H' := Aside0.mk H; clear H; have hz6 := bx9 BK657.out
   go_wp2
   go_meet
   case rel => exact ⟨_, (decide ((l0_8.length : Int) > 30)), rfl, H', ⟨by first | omega | exact Nat.le_refl _⟩, BK657, HB⟩
 case rest =>
  clear HC2; (try clear p2); (try clear c4); (try clear c4b0); (try clear c4b1); (try clear hz5); (try clear hz6); obtain ⟨kq, x14_1, rfl, HA, HJ1, BK657, HB⟩ := hcut
  cases kq with
  | zero => exact absurd HA.out (by simp [credenzalaw08_PageQuantizes.j0])
  | succ kj1 =>
   have H := HA.out; clear HA; simp only [credenzalaw08_PageQuantizes.j0] at H
   by_cases c7 : x14_1 = true
   ·
    subst c7; rw [if_pos rfl] at H; obtain ⟨t658, A8, H⟩ := bnd H; obtain rfl := Option.some.inj H
    go_wp2_with (first | ((with_reducible refine gate_callee (f := 12) rfl ?_); refine gL 15 Try.func12 #[] (h := ?_); (with_reducible refine (credenzalaw08_awake.calls kj1  t658 _ A8.out).mono ?_); rintro e w9 ⟨rfl, hb⟩; refine ⟨_, rfl, ?_⟩; replace BK657 := kst BK657 hb; replace HB := bst HB hb; clear hb))
    go_ret
    exact ⟨rfl, HB.out⟩
   ·
    replace c7 := Bool.eq_false_iff.mpr c7; subst c7; rw [if_neg (show ¬ (false = true) by decide)] at H; obtain ⟨⟨t659, t662⟩, A10, H⟩ := bnd H
    try dsimp only at H
    obtain ⟨⟨t663, t664, t665, t666, t667, t668, t669⟩, A11, H⟩ := bnd H
    try dsimp only at H
    obtain ⟨t670, A12, H⟩ := bnd H
    by_cases c13 : t670 = true
    ·
     subst c13; rw [if_pos rfl] at H; obtain ⟨t671, A14, H⟩ := bnd H
     by_cases c15 : t671 = true
     ·
      subst c15; rw [if_pos rfl] at H; obtain ⟨t672, A16, H⟩ := bnd H
      by_cases c17 : t672 = true
      ·
       subst c17; rw [if_pos rfl] at H
       by_cases c18 : t662 = 0
       ·
        rw [if_pos c18] at H; have c18b0 : (t662 == 0) = true := beq_iff_eq.mpr c18; have c18b1 : (t662 != 0) = false := bne_eq_false_iff_eq.mpr c18; clear c18
        by_cases c19 : (t659.length : Int) = 0
        ·
         rw [if_pos c19] at H; have c19b0 : ((t659.length : Int) == 0) = true := beq_iff_eq.mpr c19; have c19b1 : ((t659.length : Int) != 0) = false := bne_eq_false_iff_eq.mpr c19; clear c19
         exact absurd H (by simp)
        ·
         rw [if_neg c19] at H; have c19b0 : ((t659.length : Int) == 0) = false := beq_eq_false_iff_ne.mpr c19; have c19b1 : ((t659.length : Int) != 0) = true := bne_iff_ne.mpr c19; (have c19b2 : ¬ (t659 = []) := fun h_ => c19 (by rw [h_]; rfl)); obtain ⟨⟨t676, t677, t678, t679, t680, t681, t682⟩, A20, H⟩ := bnd H
         try dsimp only at H
         obtain ⟨⟨t683, t684, t685, t686, t687, t688, t689, t690, t693⟩, A21, H⟩ := bnd H
         try dsimp only at H
         obtain ⟨t696, A22, H⟩ := bnd H
         by_cases c23 : t696 = true
         ·
          subst c23; rw [if_pos rfl] at H; obtain ⟨t697, A24, H⟩ := bnd H; obtain rfl := Option.some.inj H; have hz25 := bx9 BK657.out
          try go_wp2_with (first | ((with_reducible refine gate_callee (f := 13) rfl ?_); refine gL 23 Try.func13 #[.agg #[.int .i64 a0_0, .int .i64 a0_1, .int .i64 a0_2, .int .i64 a0_3, .int .i64 a0_4, .int .i64 a0_5, .int .i64 a0_6], .slice A0_7 l0_7.length c0_7, .slice A0_8 l0_8.length c0_8] (h := ?_); (with_reducible refine (page_Quantize.calls kj1 a0_0 a0_1 a0_2 a0_3 a0_4 a0_5 a0_6 _ _ l0_7 _ _ l0_8 t659 t662 _ ?side1 ?side2 ?side3 ?side4 A10.out).mono ?_); (case side1 => with_reducible exact (Kd.C_below HR0_7.out HB.out)); (case side2 => exact HC0_7.out); (case side3 => with_reducible exact (Kd.C_below HR0_8.out HB.out)); (case side4 => exact HC0_8.out); rintro e w26 ⟨v660, rfl, ho0, hb⟩; refine ⟨_, rfl, ?_⟩; have HO661 := Aside0.mk (Kd.R_lower ho0 (bsz HB)); replace BK657 := kst BK657 hb; replace HB := bst HB hb; clear hb ho0; have hz27 := bx9 BK657.out) | ((with_reducible refine gate_callee (f := 10) rfl ?_); refine gL 29 Try.func10 #[.agg #[.int .i64 a0_0, .int .i64 a0_1, .int .i64 a0_2, .int .i64 a0_3, .int .i64 a0_4, .int .i64 a0_5, .int .i64 a0_6]] (h := ?_); (with_reducible refine (credenzalaw08_head.calls a0_0 a0_1 a0_2 a0_3 a0_4 a0_5 a0_6 t663 t664 t665 t666 t667 t668 t669 _ A11.out).mono ?_); rintro e w28 ⟨rfl, hb⟩; refine ⟨_, rfl, ?_⟩; replace HO661 := rst HO661 hb; replace BK657 := kst BK657 hb; replace HB := bst HB hb; clear hb) | ((with_reducible refine gate_callee (f := 9) rfl ?_); refine gL 30 Try.func9 #[.agg #[.int .i64 t663, .int .i64 t664, .int .i64 t665, .int .i64 t666, .int .i64 t667, .int .i64 t668, .int .i64 t669]] (h := ?_); (with_reducible refine (credenzaref08_Right.calls t663 t664 t665 t666 t667 t668 t669 true _ A12.out).mono ?_); rintro e w29 ⟨rfl, hb⟩; refine ⟨_, rfl, ?_⟩; replace HO661 := rst HO661 hb; replace BK657 := kst BK657 hb; replace HB := bst HB hb; clear hb; have hz30 := bx9 BK657.out) | ((with_reducible refine gate_callee (f := 11) rfl ?_); refine gL 46 Try.func11 #[.agg #[.int .i64 a0_0, .int .i64 a0_1, .int .i64 a0_2, .int .i64 a0_3, .int .i64 a0_4, .int .i64 a0_5, .int .i64 a0_6], .slice A0_7 l0_7.length c0_7] (h := ?_); (with_reducible refine (credenzalaw08_shaped.calls kj1 a0_0 a0_1 a0_2 a0_3 a0_4 a0_5 a0_6 _ _ l0_7 true _ ?side1 ?side2 A14.out).mono ?_); (case side1 => with_reducible exact (Kd.C_below HR0_7.out HB.out)); (case side2 => exact HC0_7.out); rintro e w31 ⟨rfl, hb⟩; refine ⟨_, rfl, ?_⟩; replace HO661 := rst HO661 hb; replace BK657 := kst BK657 hb; replace HB := bst HB hb; clear hb; have hz32 := bx9 BK657.out) | (go_at_call 11; (with_reducible refine (credenzalaw08_shaped.calls kj1 a0_0 a0_1 a0_2 a0_3 a0_4 a0_5 a0_6 _ _ l0_8 true _ ?side1 ?side2 A16.out).mono ?_); (case side1 => with_reducible exact (Kd.C_below HR0_8.out HB.out)); (case side2 => exact HC0_8.out); rintro e w33 ⟨rfl, hb⟩; replace HO661 := rst HO661 hb; replace BK657 := kst BK657 hb; replace HB := bst HB hb; clear hb))
          replace HO661 := Aside0.mk (Kd.R_drew HO661.out); replace BK657 := Aside0.mk (blk_drew BK657.out); replace HB := Aside0.mk (below_drew1 HB.out); obtain ⟨Ao35, co35, eo35⟩ := Kd.R_slice HO661.out; (first | subst eo35 | (injection eo35 with f1_ f2_ f3_; have f4_ := f1_.symm; have f5_ := f3_.symm; clear f1_ f2_ f3_; subst f4_; subst f5_)); have np36 : isNilP (.slice Ao35 t659.length co35) = ((t659.length : Int) == 0) := isNilP_C (Kd.R_reads' HO661.out).2.2; have np36n : notNilP (.slice Ao35 t659.length co35) = ((t659.length : Int) != 0) := notNilP_C (Kd.R_reads' HO661.out).2.2; (refine start_ (n := 22) (S := fun w' => w'.cell? ⟨gb657, 0, none⟩ = some (.int .i64 a0_0) ∧ w'.cell? ⟨gb657, 1, none⟩ = some (.int .i64 a0_1) ∧ w'.cell? ⟨gb657, 2, none⟩ = some (.int .i64 a0_2) ∧ w'.cell? ⟨gb657, 3, none⟩ = some (.int .i64 a0_3) ∧ w'.cell? ⟨gb657, 4, none⟩ = some (.int .i64 a0_4) ∧ w'.cell? ⟨gb657, 5, none⟩ = some (.int .i64 a0_5) ∧ w'.cell? ⟨gb657, 6, none⟩ = some (.int .i64 a0_6) ∧ w'.cell? ⟨gb657, 7, none⟩ = some (.slice A0_7 l0_7.length c0_7) ∧ w'.cell? ⟨gb657, 8, none⟩ = some (.slice A0_8 l0_8.length c0_8)) (ds := []) (bA 22 0) (by kernel_rfl) rfl (by kernel_rfl) (cx9 BK657.out) (fun hHeld => ?_); refine with_tabW credenzalaw08_PageQuantizes.tab8 credenzalaw08_PageQuantizes.bits8 (fun HT_ HW_ => ?_)); generalize w33.drew = w34 at HO661 BK657 HB hHeld ⊢
          refine pT 22 0 65 1 HT_ (h := ?_)
          refine pT 22 1 66 3 HT_ (h := ?_)
          refine pT 22 2 67 7 HT_ (h := ?_)
          refine pT 22 3 68 15 HT_ (h := ?_)
          refine pT 22 4 69 31 HT_ (h := ?_)
          refine pT 22 5 70 63 HT_ (h := ?_)
          refine pT 22 6 71 127 HT_ (h := ?_)
          refine pT 22 7 72 255 HT_ (h := ?_)
          refine pT 22 8 73 511 HT_ (h := ?_)
          refine pT 22 11 76 2559 HT_ (h := ?_)
          refine pT 22 13 78 10751 HT_ (h := ?_)
          refine tT 22 9 74 11263 HT_ HW_ hHeld (h := ?_)
          refine tT 22 12 77 15359 HT_ HW_ hHeld (h := ?_)
          refine tT 22 14 79 31743 HT_ HW_ hHeld (h := ?_)
          refine one_ (i := 10) (N := some 75) (bA 22 32767) rfl rfl (one_of HT_.out (by kernel_rfl)) (by decide) (fun K hK => ?_)
          refine gA Try.func10 #[.agg #[.int .i64 a0_0, .int .i64 a0_1, .int .i64 a0_2, .int .i64 a0_3, .int .i64 a0_4, .int .i64 a0_5, .int .i64 a0_6]] (h := ?_)
          with_reducible refine (credenzalaw08_head.calls a0_0 a0_1 a0_2 a0_3 a0_4 a0_5 a0_6 t676 t677 t678 t679 t680 t681 t682 _ A20.out).mono ?_
          rintro e w37 ⟨rfl, hb⟩
          refine ⟨_, rfl, ?_⟩
          replace HO661 := Aside0.mk (Kd.R_below (by (with_reducible repeat (first | apply Kd.R_alloc | apply Kd.R_drewN | apply Kd.R_drew)); exact HO661.out) hb); replace BK657 := Aside0.mk (blk_below (g := gb657) (o := .cells #[.int .i64 a0_0, .int .i64 a0_1, .int .i64 a0_2, .int .i64 a0_3, .int .i64 a0_4, .int .i64 a0_5, .int .i64 a0_6, .slice A0_7 l0_7.length c0_7, .slice A0_8 l0_8.length c0_8] 26 (0, 0)) (by (with_reducible repeat (first | refine blk_drewN ?_ _ | refine blk_drew ?_ | refine blk_alloc ?_ _)); exact BK657.out) hb); replace HB := Aside0.mk (below_step bZ hb); (try clear hb); (try clear hb2); (try clear hk); (try clear hi)
          refine hK.out _ _ (cx9 BK657.out) (fun hHeld => ?_)
          clear hK K
          refine nT 75 (h := ?_)
          refine one_ (i := 15) (N := some 80) (bA 22 65535) rfl rfl (one_of HT_.out (by kernel_rfl)) (by decide) (fun K hK => ?_)
          refine gA Try.func28 #[.agg #[.int .i64 t676, .int .i64 t677, .int .i64 t678, .int .i64 t679, .int .i64 t680, .int .i64 t681, .int .i64 t682], .slice A0_7 l0_7.length c0_7, .slice A0_8 l0_8.length c0_8] (h := ?_)
          with_reducible refine (credenzaref08_Quantize.calls kj1 t676 t677 t678 t679 t680 t681 t682 _ _ l0_7 _ _ l0_8 t683 t684 t685 t686 t687 t688 t689 t690 t693 _ ?side1 ?side2 ?side3 ?side4 A21.out).mono ?_
          (case side1 => with_reducible exact (Kd.C_below HR0_7.out HB.out)); (case side2 => exact HC0_7.out); (case side3 => with_reducible exact (Kd.C_below HR0_8.out HB.out)); (case side4 => exact HC0_8.out); rintro e w38 ⟨v691, v694, rfl, ho0, ho1, hb⟩
          refine ⟨_, rfl, ?_⟩
          replace HO661 := Aside0.mk (Kd.R_below (by (with_reducible repeat (first | apply Kd.R_alloc | apply Kd.R_drewN | apply Kd.R_drew)); exact HO661.out) hb); have HO692 := Aside0.mk (Kd.S_lower ho0 (below_size bZ)); have HO695 := Aside0.mk (Kd.S_lower ho1 (below_size bZ)); replace BK657 := Aside0.mk (blk_below (g := gb657) (o := .cells #[.int .i64 a0_0, .int .i64 a0_1, .int .i64 a0_2, .int .i64 a0_3, .int .i64 a0_4, .int .i64 a0_5, .int .i64 a0_6, .slice A0_7 l0_7.length c0_7, .slice A0_8 l0_8.length c0_8] 26 (0, 0)) (by (with_reducible repeat (first | refine blk_drewN ?_ _ | refine blk_drew ?_ | refine blk_alloc ?_ _)); exact BK657.out) hb); replace HB := Aside0.mk (below_step bZ hb); (try clear hb); (try clear hb2); (try clear hk); (try clear hi); (try clear ho0); (try clear ho1); obtain ⟨Ao39, co39, eo39⟩ := Kd.S_slice HO692.out; (first | subst eo39 | (injection eo39 with f1_ f2_ f3_; have f4_ := f1_.symm; have f5_ := f3_.symm; clear f1_ f2_ f3_; subst f4_; subst f5_)); obtain ⟨Ao40, co40, eo40⟩ := Kd.S_slice HO695.out; (first | subst eo40 | (injection eo40 with f1_ f2_ f3_; have f4_ := f1_.symm; have f5_ := f3_.symm; clear f1_ f2_ f3_; subst f4_; subst f5_))
          refine hK.out _ _ (cx9 BK657.out) (fun hHeld => ?_)
          clear hK K
          refine nT 80 (h := ?_)
          refine one_ (i := 16) (N := some 81) (bA 22 131071) rfl rfl (one_of HT_.out (by kernel_rfl)) (by decide) (fun K hK => ?_)
          refine gA Try.func25 #[asPtr (.slice Ao35 t659.length co35), .agg #[.int .i64 t683, .int .i64 t684, .int .i64 t685, .int .i64 t686, .int .i64 t687, .int .i64 t688, .int .i64 t689, .slice Ao39 t690.length co39, .slice Ao40 t693.length co40]] (h := ?_)
          with_reducible refine (credenzalaw08_is.calls kj1 _ _ t659 t683 t684 t685 t686 t687 t688 t689 _ _ t690 _ _ t693 true _ ?side1 ?side2 ?side3 ?side4 ?side5 ?side6 A22.out).mono ?_
          (case side1 => with_reducible exact (Kd.R_reads' HO661.out).2.2); (case side2 => exact (Kd.R_reads' HO661.out).2.1); (case side3 => with_reducible exact (Kd.S_reads' HO692.out).2.2); (case side4 => exact (Kd.S_reads' HO692.out).2.1); (case side5 => with_reducible exact (Kd.S_reads' HO695.out).2.2); (case side6 => exact (Kd.S_reads' HO695.out).2.1); rintro e w41 ⟨rfl, hb⟩
          refine ⟨_, rfl, ?_⟩
          replace HO661 := Aside0.mk (Kd.R_below (by (with_reducible repeat (first | apply Kd.R_alloc | apply Kd.R_drewN | apply Kd.R_drew)); exact HO661.out) hb); replace HO692 := Aside0.mk (Kd.S_below (by (with_reducible repeat (first | apply Kd.S_alloc | apply Kd.S_drewN | apply Kd.S_drew)); exact HO692.out) hb); replace HO695 := Aside0.mk (Kd.S_below (by (with_reducible repeat (first | apply Kd.S_alloc | apply Kd.S_drewN | apply Kd.S_drew)); exact HO695.out) hb); replace BK657 := Aside0.mk (blk_below (g := gb657) (o := .cells #[.int .i64 a0_0, .int .i64 a0_1, .int .i64 a0_2, .int .i64 a0_3, .int .i64 a0_4, .int .i64 a0_5, .int .i64 a0_6, .slice A0_7 l0_7.length c0_7, .slice A0_8 l0_8.length c0_8] 26 (0, 0)) (by (with_reducible repeat (first | refine blk_drewN ?_ _ | refine blk_drew ?_ | refine blk_alloc ?_ _)); exact BK657.out) hb); replace HB := Aside0.mk (below_step bZ hb); (try clear hb); (try clear hb2); (try clear hk); (try clear hi)
          refine hK.out _ _ (cx9 BK657.out) (fun hHeld => ?_)
          clear hK K
          refine nT 81 (h := ?_)
          refine pT 22 17 82 262143 HT_ (h := ?_)
          refine pT 22 18 83 524287 HT_ (h := ?_)
          refine one_ (i := 19) (N := some 84) (bA 22 1048575) rfl rfl (one_of HT_.out (by kernel_rfl)) (by decide) (fun K hK => ?_)
          refine gA Try.func12 #[] (h := ?_)
          with_reducible refine (credenzalaw08_awake.calls kj1  t697 _ A24.out).mono ?_
          rintro e w42 ⟨rfl, hb⟩
          refine ⟨_, rfl, ?_⟩
          replace HO661 := Aside0.mk (Kd.R_below (by (with_reducible repeat (first | apply Kd.R_alloc | apply Kd.R_drewN | apply Kd.R_drew)); exact HO661.out) hb); replace HO692 := Aside0.mk (Kd.S_below (by (with_reducible repeat (first | apply Kd.S_alloc | apply Kd.S_drewN | apply Kd.S_drew)); exact HO692.out) hb); replace HO695 := Aside0.mk (Kd.S_below (by (with_reducible repeat (first | apply Kd.S_alloc | apply Kd.S_drewN | apply Kd.S_drew)); exact HO695.out) hb); replace BK657 := Aside0.mk (blk_below (g := gb657) (o := .cells #[.int .i64 a0_0, .int .i64 a0_1, .int .i64 a0_2, .int .i64 a0_3, .int .i64 a0_4, .int .i64 a0_5, .int .i64 a0_6, .slice A0_7 l0_7.length c0_7, .slice A0_8 l0_8.length c0_8] 26 (0, 0)) (by (with_reducible repeat (first | refine blk_drewN ?_ _ | refine blk_drew ?_ | refine blk_alloc ?_ _)); exact BK657.out) hb); replace HB := Aside0.mk (below_step bZ hb); (try clear hb); (try clear hb2); (try clear hk); (try clear hi)
          refine hK.out _ _ (cx9 BK657.out) (fun hHeld => ?_)
          clear hK K
          refine nT 84 (h := ?_)
          refine pT 22 20 85 2097151 HT_ (h := ?_)
          refine pT 22 21 2 4194303 HT_ (h := ?_)
          refine done_ (done_of HT_.out (by kernel_rfl)) ?_
          try go_wp2
          go_ret
          exact ⟨rfl, HB.out⟩
         ·
          replace c23 := Bool.eq_false_iff.mpr c23; subst c23; rw [if_neg (show ¬ (false = true) by decide)] at H
          exact absurd H (by simp)
       ·
        rw [if_neg c18] at H; have c18b0 : (t662 == 0) = false := beq_eq_false_iff_ne.mpr c18; have c18b1 : (t662 != 0) = true := bne_iff_ne.mpr c18
        exact absurd H (by simp)
      ·
       replace c17 := Bool.eq_false_iff.mpr c17; subst c17; rw [if_neg (show ¬ (false = true) by decide)] at H; obtain ⟨c43, H⟩ := ifp H; have c43b0 : (t662 == 25) = true := beq_iff_eq.mpr c43; have c43b1 : (t662 != 25) = false := bne_eq_false_iff_eq.mpr c43; clear c43; obtain ⟨c44, H⟩ := ifp H; have c44b0 : ((t659.length : Int) == 0) = true := beq_iff_eq.mpr c44; have c44b1 : ((t659.length : Int) != 0) = false := bne_eq_false_iff_eq.mpr c44; clear c44; obtain ⟨t673, A45, H⟩ := bnd H; obtain rfl := Option.some.inj H; have hz46 := bx9 BK657.out
       go_wp2_with (first | ((with_reducible refine gate_callee (f := 13) rfl ?_); refine gL 23 Try.func13 #[.agg #[.int .i64 a0_0, .int .i64 a0_1, .int .i64 a0_2, .int .i64 a0_3, .int .i64 a0_4, .int .i64 a0_5, .int .i64 a0_6], .slice A0_7 l0_7.length c0_7, .slice A0_8 l0_8.length c0_8] (h := ?_); (with_reducible refine (page_Quantize.calls kj1 a0_0 a0_1 a0_2 a0_3 a0_4 a0_5 a0_6 _ _ l0_7 _ _ l0_8 t659 t662 _ ?side1 ?side2 ?side3 ?side4 A10.out).mono ?_); (case side1 => with_reducible exact (Kd.C_below HR0_7.out HB.out)); (case side2 => exact HC0_7.out); (case side3 => with_reducible exact (Kd.C_below HR0_8.out HB.out)); (case side4 => exact HC0_8.out); rintro e w47 ⟨v660, rfl, ho0, hb⟩; refine ⟨_, rfl, ?_⟩; have HO661 := Aside0.mk (Kd.R_lower ho0 (bsz HB)); replace BK657 := kst BK657 hb; replace HB := bst HB hb; clear hb ho0; have hz48 := bx9 BK657.out) | ((with_reducible refine gate_callee (f := 10) rfl ?_); refine gL 29 Try.func10 #[.agg #[.int .i64 a0_0, .int .i64 a0_1, .int .i64 a0_2, .int .i64 a0_3, .int .i64 a0_4, .int .i64 a0_5, .int .i64 a0_6]] (h := ?_); (with_reducible refine (credenzalaw08_head.calls a0_0 a0_1 a0_2 a0_3 a0_4 a0_5 a0_6 t663 t664 t665 t666 t667 t668 t669 _ A11.out).mono ?_); rintro e w49 ⟨rfl, hb⟩; refine ⟨_, rfl, ?_⟩; replace HO661 := rst HO661 hb; replace BK657 := kst BK657 hb; replace HB := bst HB hb; clear hb) | ((with_reducible refine gate_callee (f := 9) rfl ?_); refine gL 30 Try.func9 #[.agg #[.int .i64 t663, .int .i64 t664, .int .i64 t665, .int .i64 t666, .int .i64 t667, .int .i64 t668, .int .i64 t669]] (h := ?_); (with_reducible refine (credenzaref08_Right.calls t663 t664 t665 t666 t667 t668 t669 true _ A12.out).mono ?_); rintro e w50 ⟨rfl, hb⟩; refine ⟨_, rfl, ?_⟩; replace HO661 := rst HO661 hb; replace BK657 := kst BK657 hb; replace HB := bst HB hb; clear hb; have hz51 := bx9 BK657.out) | ((with_reducible refine gate_callee (f := 11) rfl ?_); refine gL 46 Try.func11 #[.agg #[.int .i64 a0_0, .int .i64 a0_1, .int .i64 a0_2, .int .i64 a0_3, .int .i64 a0_4, .int .i64 a0_5, .int .i64 a0_6], .slice A0_7 l0_7.length c0_7] (h := ?_); (with_reducible refine (credenzalaw08_shaped.calls kj1 a0_0 a0_1 a0_2 a0_3 a0_4 a0_5 a0_6 _ _ l0_7 true _ ?side1 ?side2 A14.out).mono ?_); (case side1 => with_reducible exact (Kd.C_below HR0_7.out HB.out)); (case side2 => exact HC0_7.out); rintro e w52 ⟨rfl, hb⟩; refine ⟨_, rfl, ?_⟩; replace HO661 := rst HO661 hb; replace BK657 := kst BK657 hb; replace HB := bst HB hb; clear hb; have hz53 := bx9 BK657.out) | (go_at_call 11; (with_reducible refine (credenzalaw08_shaped.calls kj1 a0_0 a0_1 a0_2 a0_3 a0_4 a0_5 a0_6 _ _ l0_8 false _ ?side1 ?side2 A16.out).mono ?_); (case side1 => with_reducible exact (Kd.C_below HR0_8.out HB.out)); (case side2 => exact HC0_8.out); rintro e w54 ⟨rfl, hb⟩; replace HO661 := rst HO661 hb; replace BK657 := kst BK657 hb; replace HB := bst HB hb; clear hb; obtain ⟨Ao55, co55, eo55⟩ := Kd.R_slice HO661.out; subst eo55; have np56 : isNilP (.slice Ao55 t659.length co55) = ((t659.length : Int) == 0) := isNilP_C (Kd.R_reads' HO661.out).2.2; have np56n : notNilP (.slice Ao55 t659.length co55) = ((t659.length : Int) != 0) := notNilP_C (Kd.R_reads' HO661.out).2.2) | (go_at_call 12; (with_reducible refine (credenzalaw08_awake.calls kj1  t673 _ A45.out).mono ?_); rintro e w57 ⟨rfl, hb⟩; replace HO661 := rst HO661 hb; replace BK657 := kst BK657 hb; replace HB := bst HB hb; clear hb))
       go_ret
       exact ⟨rfl, HB.out⟩
     ·
      replace c15 := Bool.eq_false_iff.mpr c15; subst c15; rw [if_neg (show ¬ (false = true) by decide)] at H; obtain ⟨c58, H⟩ := ifp H; have c58b0 : (t662 == 25) = true := beq_iff_eq.mpr c58; have c58b1 : (t662 != 25) = false := bne_eq_false_iff_eq.mpr c58; clear c58; obtain ⟨c59, H⟩ := ifp H; have c59b0 : ((t659.length : Int) == 0) = true := beq_iff_eq.mpr c59; have c59b1 : ((t659.length : Int) != 0) = false := bne_eq_false_iff_eq.mpr c59; clear c59; obtain ⟨t674, A60, H⟩ := bnd H; obtain rfl := Option.some.inj H; have hz61 := bx9 BK657.out
      go_wp2_with (first | ((with_reducible refine gate_callee (f := 13) rfl ?_); refine gL 23 Try.func13 #[.agg #[.int .i64 a0_0, .int .i64 a0_1, .int .i64 a0_2, .int .i64 a0_3, .int .i64 a0_4, .int .i64 a0_5, .int .i64 a0_6], .slice A0_7 l0_7.length c0_7, .slice A0_8 l0_8.length c0_8] (h := ?_); (with_reducible refine (page_Quantize.calls kj1 a0_0 a0_1 a0_2 a0_3 a0_4 a0_5 a0_6 _ _ l0_7 _ _ l0_8 t659 t662 _ ?side1 ?side2 ?side3 ?side4 A10.out).mono ?_); (case side1 => with_reducible exact (Kd.C_below HR0_7.out HB.out)); (case side2 => exact HC0_7.out); (case side3 => with_reducible exact (Kd.C_below HR0_8.out HB.out)); (case side4 => exact HC0_8.out); rintro e w62 ⟨v660, rfl, ho0, hb⟩; refine ⟨_, rfl, ?_⟩; have HO661 := Aside0.mk (Kd.R_lower ho0 (bsz HB)); replace BK657 := kst BK657 hb; replace HB := bst HB hb; clear hb ho0; have hz63 := bx9 BK657.out) | ((with_reducible refine gate_callee (f := 10) rfl ?_); refine gL 29 Try.func10 #[.agg #[.int .i64 a0_0, .int .i64 a0_1, .int .i64 a0_2, .int .i64 a0_3, .int .i64 a0_4, .int .i64 a0_5, .int .i64 a0_6]] (h := ?_); (with_reducible refine (credenzalaw08_head.calls a0_0 a0_1 a0_2 a0_3 a0_4 a0_5 a0_6 t663 t664 t665 t666 t667 t668 t669 _ A11.out).mono ?_); rintro e w64 ⟨rfl, hb⟩; refine ⟨_, rfl, ?_⟩; replace HO661 := rst HO661 hb; replace BK657 := kst BK657 hb; replace HB := bst HB hb; clear hb) | ((with_reducible refine gate_callee (f := 9) rfl ?_); refine gL 30 Try.func9 #[.agg #[.int .i64 t663, .int .i64 t664, .int .i64 t665, .int .i64 t666, .int .i64 t667, .int .i64 t668, .int .i64 t669]] (h := ?_); (with_reducible refine (credenzaref08_Right.calls t663 t664 t665 t666 t667 t668 t669 true _ A12.out).mono ?_); rintro e w65 ⟨rfl, hb⟩; refine ⟨_, rfl, ?_⟩; replace HO661 := rst HO661 hb; replace BK657 := kst BK657 hb; replace HB := bst HB hb; clear hb; have hz66 := bx9 BK657.out) | ((with_reducible refine gate_callee (f := 11) rfl ?_); refine gL 46 Try.func11 #[.agg #[.int .i64 a0_0, .int .i64 a0_1, .int .i64 a0_2, .int .i64 a0_3, .int .i64 a0_4, .int .i64 a0_5, .int .i64 a0_6], .slice A0_7 l0_7.length c0_7] (h := ?_); (with_reducible refine (credenzalaw08_shaped.calls kj1 a0_0 a0_1 a0_2 a0_3 a0_4 a0_5 a0_6 _ _ l0_7 false _ ?side1 ?side2 A14.out).mono ?_); (case side1 => with_reducible exact (Kd.C_below HR0_7.out HB.out)); (case side2 => exact HC0_7.out); rintro e w67 ⟨rfl, hb⟩; refine ⟨_, rfl, ?_⟩; replace HO661 := rst HO661 hb; replace BK657 := kst BK657 hb; replace HB := bst HB hb; clear hb; obtain ⟨Ao68, co68, eo68⟩ := Kd.R_slice HO661.out; subst eo68; have np69 : isNilP (.slice Ao68 t659.length co68) = ((t659.length : Int) == 0) := isNilP_C (Kd.R_reads' HO661.out).2.2; have np69n : notNilP (.slice Ao68 t659.length co68) = ((t659.length : Int) != 0) := notNilP_C (Kd.R_reads' HO661.out).2.2) | (go_at_call 12; (with_reducible refine (credenzalaw08_awake.calls kj1  t674 _ A60.out).mono ?_); rintro e w70 ⟨rfl, hb⟩; replace HO661 := rst HO661 hb; replace BK657 := kst BK657 hb; replace HB := bst HB hb; clear hb))
      go_ret
      exact ⟨rfl, HB.out⟩
    ·
     replace c13 := Bool.eq_false_iff.mpr c13; subst c13; rw [if_neg (show ¬ (false = true) by decide)] at H; obtain ⟨c71, H⟩ := ifp H; have c71b0 : (t662 == 11) = true := beq_iff_eq.mpr c71; have c71b1 : (t662 != 11) = false := bne_eq_false_iff_eq.mpr c71; clear c71; obtain ⟨c72, H⟩ := ifp H; have c72b0 : ((t659.length : Int) == 0) = true := beq_iff_eq.mpr c72; have c72b1 : ((t659.length : Int) != 0) = false := bne_eq_false_iff_eq.mpr c72; clear c72; obtain ⟨t675, A73, H⟩ := bnd H; obtain rfl := Option.some.inj H; have hz74 := bx9 BK657.out
     go_wp2_with (first | ((with_reducible refine gate_callee (f := 13) rfl ?_); refine gL 23 Try.func13 #[.agg #[.int .i64 a0_0, .int .i64 a0_1, .int .i64 a0_2, .int .i64 a0_3, .int .i64 a0_4, .int .i64 a0_5, .int .i64 a0_6], .slice A0_7 l0_7.length c0_7, .slice A0_8 l0_8.length c0_8] (h := ?_); (with_reducible refine (page_Quantize.calls kj1 a0_0 a0_1 a0_2 a0_3 a0_4 a0_5 a0_6 _ _ l0_7 _ _ l0_8 t659 t662 _ ?side1 ?side2 ?side3 ?side4 A10.out).mono ?_); (case side1 => with_reducible exact (Kd.C_below HR0_7.out HB.out)); (case side2 => exact HC0_7.out); (case side3 => with_reducible exact (Kd.C_below HR0_8.out HB.out)); (case side4 => exact HC0_8.out); rintro e w75 ⟨v660, rfl, ho0, hb⟩; refine ⟨_, rfl, ?_⟩; have HO661 := Aside0.mk (Kd.R_lower ho0 (bsz HB)); replace BK657 := kst BK657 hb; replace HB := bst HB hb; clear hb ho0; have hz76 := bx9 BK657.out) | ((with_reducible refine gate_callee (f := 10) rfl ?_); refine gL 29 Try.func10 #[.agg #[.int .i64 a0_0, .int .i64 a0_1, .int .i64 a0_2, .int .i64 a0_3, .int .i64 a0_4, .int .i64 a0_5, .int .i64 a0_6]] (h := ?_); (with_reducible refine (credenzalaw08_head.calls a0_0 a0_1 a0_2 a0_3 a0_4 a0_5 a0_6 t663 t664 t665 t666 t667 t668 t669 _ A11.out).mono ?_); rintro e w77 ⟨rfl, hb⟩; refine ⟨_, rfl, ?_⟩; replace HO661 := rst HO661 hb; replace BK657 := kst BK657 hb; replace HB := bst HB hb; clear hb) | ((with_reducible refine gate_callee (f := 9) rfl ?_); refine gL 30 Try.func9 #[.agg #[.int .i64 t663, .int .i64 t664, .int .i64 t665, .int .i64 t666, .int .i64 t667, .int .i64 t668, .int .i64 t669]] (h := ?_); (with_reducible refine (credenzaref08_Right.calls t663 t664 t665 t666 t667 t668 t669 false _ A12.out).mono ?_); rintro e w78 ⟨rfl, hb⟩; refine ⟨_, rfl, ?_⟩; replace HO661 := rst HO661 hb; replace BK657 := kst BK657 hb; replace HB := bst HB hb; clear hb; obtain ⟨Ao79, co79, eo79⟩ := Kd.R_slice HO661.out; subst eo79; have np80 : isNilP (.slice Ao79 t659.length co79) = ((t659.length : Int) == 0) := isNilP_C (Kd.R_reads' HO661.out).2.2; have np80n : notNilP (.slice Ao79 t659.length co79) = ((t659.length : Int) != 0) := notNilP_C (Kd.R_reads' HO661.out).2.2) | (go_at_call 12; (with_reducible refine (credenzalaw08_awake.calls kj1  t675 _ A73.out).mono ?_); rintro e w81 ⟨rfl, hb⟩; replace HO661 := rst HO661 hb; replace BK657 := kst BK657 hb; replace HB := bst HB hb; clear hb))
     go_ret
     exact ⟨rfl, HB.out⟩

/-- THE ONE PURE STATEMENT of credenzalaw08_PageQuantizes: yours. -/
def credenzalaw08_PageQuantizes.Pure : Prop := ∀ (a0_0 : Int) (a0_1 : Int) (a0_2 : Int) (a0_3 : Int) (a0_4 : Int) (a0_5 : Int) (a0_6 : Int) (l0_7 : List (List Int)) (l0_8 : List (List Int)), (Lit.int .i64 a0_0).wf = true → (Lit.int .i64 a0_1).wf = true → (Lit.int .i64 a0_2).wf = true → (Lit.int .i64 a0_3).wf = true → (Lit.int .i64 a0_4).wf = true → (Lit.int .i64 a0_5).wf = true → (Lit.int .i64 a0_6).wf = true → l0_7.length ≤ maxLen → (∀ z ∈ l0_7, (z.length ≤ maxLen ∧ ∀ z1 ∈ z, (Lit.int .i32 z1).wf = true)) → l0_8.length ≤ maxLen → (∀ z ∈ l0_8, (z.length ≤ maxLen ∧ ∀ z1 ∈ z, (Lit.int .i32 z1).wf = true)) → ∃ k, credenzalaw08_PageQuantizes.f k a0_0 a0_1 a0_2 a0_3 a0_4 a0_5 a0_6 l0_7 l0_8 = some true
theorem credenzalaw08_PageQuantizes.walk (P : credenzalaw08_PageQuantizes.Pure) (a0_0 : Int) (a0_1 : Int) (a0_2 : Int) (a0_3 : Int) (a0_4 : Int) (a0_5 : Int) (a0_6 : Int) (A0_7 : Option Addr) (c0_7 : Nat) (l0_7 : List (List Int)) (A0_8 : Option Addr) (c0_8 : Nat) (l0_8 : List (List Int)) (w : World) (w0_0 : (Lit.int .i64 a0_0).wf = true) (w0_1 : (Lit.int .i64 a0_1).wf = true) (w0_2 : (Lit.int .i64 a0_2).wf = true) (w0_3 : (Lit.int .i64 a0_3).wf = true) (w0_4 : (Lit.int .i64 a0_4).wf = true) (w0_5 : (Lit.int .i64 a0_5).wf = true) (w0_6 : (Lit.int .i64 a0_6).wf = true) (hr0_7 : Kd.C (Kd.slice 21 (Kd.int .i32)) w A0_7 l0_7.length l0_7) (hc0_7 : l0_7.length ≤ c0_7) (hm0_7 : l0_7.length ≤ maxLen) (hq0_7 : ∀ z ∈ l0_7, (z.length ≤ maxLen ∧ ∀ z1 ∈ z, (Lit.int .i32 z1).wf = true)) (hr0_8 : Kd.C (Kd.slice 21 (Kd.int .i32)) w A0_8 l0_8.length l0_8) (hc0_8 : l0_8.length ≤ c0_8) (hm0_8 : l0_8.length ≤ maxLen) (hq0_8 : ∀ z ∈ l0_8, (z.length ≤ maxLen ∧ ∀ z1 ∈ z, (Lit.int .i32 z1).wf = true)) :
  Calls Try.prog 7 #[.agg #[.int .i64 a0_0, .int .i64 a0_1, .int .i64 a0_2, .int .i64 a0_3, .int .i64 a0_4, .int .i64 a0_5, .int .i64 a0_6, .slice A0_7 l0_7.length c0_7, .slice A0_8 l0_8.length c0_8]] w fun e w' => e = .returned (.bool true) ∧ Below w.heap.size w w' := by
 obtain ⟨k, h⟩ := P a0_0 a0_1 a0_2 a0_3 a0_4 a0_5 a0_6 l0_7 l0_8 w0_0 w0_1 w0_2 w0_3 w0_4 w0_5 w0_6 hm0_7 hq0_7 hm0_8 hq0_8
 refine (credenzalaw08_PageQuantizes.calls k a0_0 a0_1 a0_2 a0_3 a0_4 a0_5 a0_6 _ _ l0_7 _ _ l0_8 true w hr0_7 hc0_7 hr0_8 hc0_8 h).mono ?_
 rintro e w' ⟨rfl, hd⟩
 exact ⟨rfl, hd⟩

end Go.Proofs.Ytekenaclmplocaa.PPageQuantizes
