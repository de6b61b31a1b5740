-- Written by a program of this session (wip/tools/mkprint.py over the kit's print).
import Derived.Test.YtoofkemhikigoaaPBlockPlaysx0
import Derived.Test.YtoofkemhikigoaaPBlockPlaysx1
namespace Go.Proofs.Ytoofkemhikigoaa.PBlockPlays
open Go.RowKit Go.Proofs.YtoofkemhikigoaaW.PrintWords Go.Proofs.YtoofkemhikigoaaW.PrintLast Go.Proofs.YtoofkemhikigoaaW.PrintMore
attribute [local go_sem] max2_int min2_int max_two min_two max_three min_three max_four min_four   -- for this text's walks alone
set_option linter.unusedVariables false
set_option linter.unusedSimpArgs false

/-! ### group_Of: function 62 -/
def group_Of.l0 : Nat → Int → Int → List Int → Int → Int → Int → Int → List Int → Option (Int × Int × List Int × Int)
 | 0, _, _, _, _, _, _, _, _ => none
 | k + 1, x7, x10, x47, x48, x49, x126000, x126001, x126002 => if x49 < x48 then (if 0 ≤ x49 then (if x49 < (x47.length : Int) then ((fix_Ratio.f (wrap64 ((wrap64 (rd x47 x49)) - x7)) x10).bind fun t127 => (if x49 < (x126002.length : Int) then (group_Of.l0 k x7 x10 x47 x48 (wrap64 (x49 + 1)) x126000 x126001 (x126002.set (x49 : Int).toNat t127)) else (none))) else (none)) else (none)) else (some (x126000, x126001, x126002, 0))
def group_Of.f (k : Nat) (l0 : List Int) (a1 : Int) : Option (Int × Int × List Int × Int) := (group_many.f (l0.length : Int) a1).bind fun t119 => (if t119 = 0 then ((slices_Min_int32_int32.f k l0).bind fun t120 => ((slices_Max_int32_int32.f k l0).bind fun t121 => (if 0 ≤ a1 then (if (wrap64 ((shl .i64 1 a1) - 1)) = 0 then (none) else (if 0 ≤ (l0.length : Int) then (if ((l0.length : Int) : Int).toNat ≤ 35184372088832 then (group_Of.l0 k (wrap64 (t120)) (wrap64 (Int.tdiv (wrap64 ((wrap64 ((wrap64 ((wrap64 (t121)) - (wrap64 (t120)))) + (wrap64 ((shl .i64 1 a1) - 1)))) - 1)) (wrap64 ((shl .i64 1 a1) - 1)))) l0 (l0.length : Int) 0 (wrap32 (wrap64 (t120))) ((wrap64 (Int.tdiv (wrap64 ((wrap64 ((wrap64 ((wrap64 (t121)) - (wrap64 (t120)))) + (wrap64 ((shl .i64 1 a1) - 1)))) - 1)) (wrap64 ((shl .i64 1 a1) - 1)))) % 4294967296) (List.replicate ((l0.length : Int) : Int).toNat 0)) else (none)) else (none))) else (none)))) else (some (0, 0, ([] : List Int), t119)))
theorem group_Of.mono_l : ∀ k, (∀ y0 y1 y2 y3 y4 y5 y6 y7, LeO (group_Of.l0 k y0 y1 y2 y3 y4 y5 y6 y7) (group_Of.l0 (k + 1) y0 y1 y2 y3 y4 y5 y6 y7))
 | 0 => fun _ _ _ _ _ _ _ _ r h => by simp [group_Of.l0] at h
 | k + 1 => by
  have ih0 := group_Of.mono_l k
  ·
   intro y0 y1 y2 y3 y4 y5 y6 y7
   unfold group_Of.l0
   repeat' first
   | (with_reducible exact ih0 _ _ _ _ _ _ _ _)
   | (with_reducible exact slices_Max_int32_int32.mono _ _)
   | (with_reducible exact slices_Min_int32_int32.mono _ _)
   | (with_reducible exact LeO.refl _)
   | (with_reducible exact LeO.none _)
   | (with_reducible refine LeO.ite ?_ ?_)
   | (with_reducible refine LeO.bind ?_ (fun _ => ?_))
   | exact ih0 _ _ _ _ _ _ _ _
   | exact slices_Max_int32_int32.mono _ _
   | exact slices_Min_int32_int32.mono _ _
   | exact LeO.none _
   | refine LeO.ite ?_ ?_
   | refine LeO.bind ?_ (fun _ => ?_)
theorem group_Of.mono : ∀ a0 a1 k, LeO (group_Of.f k a0 a1) (group_Of.f (k + 1) a0 a1) := by
 intro a0 a1 k
 have ih0 := group_Of.mono_l k
 unfold group_Of.f
 repeat' first
   | (with_reducible exact ih0 _ _ _ _ _ _ _ _)
   | (with_reducible exact slices_Max_int32_int32.mono _ _)
   | (with_reducible exact slices_Min_int32_int32.mono _ _)
   | (with_reducible exact LeO.refl _)
   | (with_reducible exact LeO.none _)
   | (with_reducible refine LeO.ite ?_ ?_)
   | (with_reducible refine LeO.bind ?_ (fun _ => ?_))
   | exact ih0 _ _ _ _ _ _ _ _
   | exact slices_Max_int32_int32.mono _ _
   | exact slices_Min_int32_int32.mono _ _
   | exact LeO.none _
   | refine LeO.ite ?_ ?_
   | refine LeO.bind ?_ (fun _ => ?_)
def group_Of.T11 : Bool × List (List Nat × List Nat) := (true, [([], []), ([0], [0]), ([], []), ([], []), ([3], [3]), ([], []), ([4, 5], [4, 5]), ([], []), ([6, 7], [6, 7]), ([1, 2, 0, 1, 2, 3, 4, 5, 6, 7, 8], [1, 2]), ([9, 8, 8, 0, 1, 2, 3, 4, 5, 6, 7, 8], [8, 9])])
def group_Of.B11 : List Nat := [0, 1, 0, 0, 8, 0, 56, 0, 248, 511, 1023]
theorem group_Of.tab11 : rtab .any (opsOf Try.f62 11) = group_Of.T11 := by kernel_rfl
theorem group_Of.bits11 : waitsOk group_Of.T11.2 group_Of.B11 = true := by kernel_rfl
set_option maxHeartbeats 8000000 in
set_option maxRecDepth 100000 in
theorem group_Of.calls (k : Nat) (A0 : Option Addr) (c0 : Nat) (l0 : List Int) (a1 : Int) (r1 : Int) (r2 : Int) (r3 : List Int) (r4 : Int) (w : World) (hr0 : Kd.C (Kd.int .i32) w A0 l0.length l0) (hc0 : l0.length ≤ c0) (h : group_Of.f k l0 a1 = some (r1, r2, r3, r4)) :
  Calls Try.prog 62 #[.slice A0 l0.length c0, .int .i64 a1] w fun e w' => ∃ v2_ : Value, e = .returned (.tuple #[.agg #[.int .i32 r1, .int .u32 r2, v2_], .int .i64 r4]) ∧ Kd.R (Kd.int .i64) 3 w' w.heap.size (fun _ => True) v2_ r3 ∧ Below w.heap.size w w' := by
 have hu117 := Try.underlying117
 have HR0 := Aside0.mk hr0
 have HC0 := Aside0.mk hc0
 clear hr0 hc0
 have HB := Aside0.mk (Below.refl w.heap.size w)
 have H : ((group_many.f (l0.length : Int) a1).bind fun t119 => (if t119 = 0 then ((slices_Min_int32_int32.f k l0).bind fun t120 => ((slices_Max_int32_int32.f k l0).bind fun t121 => (if 0 ≤ a1 then (if (wrap64 ((shl .i64 1 a1) - 1)) = 0 then (none) else (if 0 ≤ (l0.length : Int) then (if ((l0.length : Int) : Int).toNat ≤ 35184372088832 then (group_Of.l0 k (wrap64 (t120)) (wrap64 (Int.tdiv (wrap64 ((wrap64 ((wrap64 ((wrap64 (t121)) - (wrap64 (t120)))) + (wrap64 ((shl .i64 1 a1) - 1)))) - 1)) (wrap64 ((shl .i64 1 a1) - 1)))) l0 (l0.length : Int) 0 (wrap32 (wrap64 (t120))) ((wrap64 (Int.tdiv (wrap64 ((wrap64 ((wrap64 ((wrap64 (t121)) - (wrap64 (t120)))) + (wrap64 ((shl .i64 1 a1) - 1)))) - 1)) (wrap64 ((shl .i64 1 a1) - 1)))) % 4294967296) (List.replicate ((l0.length : Int) : Int).toNat 0)) else (none)) else (none))) else (none)))) else (some (0, 0, ([] : List Int), t119)))) = some (r1, r2, r3, r4) := h
 clear h
 replace H := Option.bind_eq_some_iff.mp H
 obtain ⟨t119, A30, H⟩ := H
 replace H : (if t119 = 0 then ((slices_Min_int32_int32.f k l0).bind fun t120 => ((slices_Max_int32_int32.f k l0).bind fun t121 => (if 0 ≤ a1 then (if (wrap64 ((shl .i64 1 a1) - 1)) = 0 then (none) else (if 0 ≤ (l0.length : Int) then (if ((l0.length : Int) : Int).toNat ≤ 35184372088832 then (group_Of.l0 k (wrap64 (t120)) (wrap64 (Int.tdiv (wrap64 ((wrap64 ((wrap64 ((wrap64 (t121)) - (wrap64 (t120)))) + (wrap64 ((shl .i64 1 a1) - 1)))) - 1)) (wrap64 ((shl .i64 1 a1) - 1)))) l0 (l0.length : Int) 0 (wrap32 (wrap64 (t120))) ((wrap64 (Int.tdiv (wrap64 ((wrap64 ((wrap64 ((wrap64 (t121)) - (wrap64 (t120)))) + (wrap64 ((shl .i64 1 a1) - 1)))) - 1)) (wrap64 ((shl .i64 1 a1) - 1)))) % 4294967296) (List.replicate ((l0.length : Int) : Int).toNat 0)) else (none)) else (none))) else (none)))) else (some (0, 0, ([] : List Int), t119))) = some (r1, r2, r3, r4) := H
 have A3 := Aside0.mk A30
 clear A30
 by_cases c4 : t119 = 0
 ·
  rw [if_pos c4] at H
  have c4b0 : (t119 == 0) = true := beq_iff_eq.mpr c4
  have c4b1 : (t119 != 0) = false := bne_eq_false_iff_eq.mpr c4
  clear c4
  replace H := Option.bind_eq_some_iff.mp H
  obtain ⟨t120, A50, H⟩ := H
  replace H : ((slices_Max_int32_int32.f k l0).bind fun t121 => (if 0 ≤ a1 then (if (wrap64 ((shl .i64 1 a1) - 1)) = 0 then (none) else (if 0 ≤ (l0.length : Int) then (if ((l0.length : Int) : Int).toNat ≤ 35184372088832 then (group_Of.l0 k (wrap64 (t120)) (wrap64 (Int.tdiv (wrap64 ((wrap64 ((wrap64 ((wrap64 (t121)) - (wrap64 (t120)))) + (wrap64 ((shl .i64 1 a1) - 1)))) - 1)) (wrap64 ((shl .i64 1 a1) - 1)))) l0 (l0.length : Int) 0 (wrap32 (wrap64 (t120))) ((wrap64 (Int.tdiv (wrap64 ((wrap64 ((wrap64 ((wrap64 (t121)) - (wrap64 (t120)))) + (wrap64 ((shl .i64 1 a1) - 1)))) - 1)) (wrap64 ((shl .i64 1 a1) - 1)))) % 4294967296) (List.replicate ((l0.length : Int) : Int).toNat 0)) else (none)) else (none))) else (none))) = some (r1, r2, r3, r4) := H
  have A5 := Aside0.mk A50
  clear A50
  replace H := Option.bind_eq_some_iff.mp H
  obtain ⟨t121, A60, H⟩ := H
  replace H : (if 0 ≤ a1 then (if (wrap64 ((shl .i64 1 a1) - 1)) = 0 then (none) else (if 0 ≤ (l0.length : Int) then (if ((l0.length : Int) : Int).toNat ≤ 35184372088832 then (group_Of.l0 k (wrap64 (t120)) (wrap64 (Int.tdiv (wrap64 ((wrap64 ((wrap64 ((wrap64 (t121)) - (wrap64 (t120)))) + (wrap64 ((shl .i64 1 a1) - 1)))) - 1)) (wrap64 ((shl .i64 1 a1) - 1)))) l0 (l0.length : Int) 0 (wrap32 (wrap64 (t120))) ((wrap64 (Int.tdiv (wrap64 ((wrap64 ((wrap64 ((wrap64 (t121)) - (wrap64 (t120)))) + (wrap64 ((shl .i64 1 a1) - 1)))) - 1)) (wrap64 ((shl .i64 1 a1) - 1)))) % 4294967296) (List.replicate ((l0.length : Int) : Int).toNat 0)) else (none)) else (none))) else (none)) = some (r1, r2, r3, r4) := H
  have A6 := Aside0.mk A60
  clear A60
  by_cases c7 : 0 ≤ a1
  case neg => (rw [if_neg c7] at H; exact absurd H (by simp))
  rw [if_pos c7] at H
  have c7b0 := eq_true c7
  have c7b1 : decide (0 ≤ a1) = true := decide_eq_true c7
  clear c7
  obtain ⟨ji8, hji8⟩ : ∃ j_ : Int, (shl .i64 1 a1) = j_ := ⟨_, rfl⟩
  replace H : (if (wrap64 ((ji8) - 1)) = 0 then (none) else (if 0 ≤ (l0.length : Int) then (if ((l0.length : Int) : Int).toNat ≤ 35184372088832 then (group_Of.l0 k (wrap64 (t120)) (wrap64 (Int.tdiv (wrap64 ((wrap64 ((wrap64 ((wrap64 (t121)) - (wrap64 (t120)))) + (wrap64 ((ji8) - 1)))) - 1)) (wrap64 ((ji8) - 1)))) l0 (l0.length : Int) 0 (wrap32 (wrap64 (t120))) ((wrap64 (Int.tdiv (wrap64 ((wrap64 ((wrap64 ((wrap64 (t121)) - (wrap64 (t120)))) + (wrap64 ((ji8) - 1)))) - 1)) (wrap64 ((ji8) - 1)))) % 4294967296) (List.replicate ((l0.length : Int) : Int).toNat 0)) else (none)) else (none))) = some (r1, r2, r3, r4) := by first | (rw [hji8] at H; exact H) | (simp only [hji8] at H ⊢; exact H)
  (try rw [hji8] at A3)
  (try rw [hji8] at A5)
  (try rw [hji8] at A6)
  have hji8_ : (IntKind.i64.wrap (1 * 2 ^ min a1.toNat 64)) = ji8 := hji8
  have hji8z : a1 ≤ 64 → (IntKind.i64.wrap (1 * 2 ^ a1.toNat)) = ji8 := shl_small hji8
  have hji8u : (IntKind.i64.wrap (2 ^ min a1.toNat 64)) = ji8 := by have h_ := hji8_; rw [Int.one_mul] at h_; exact h_
  have hji8v : a1 ≤ 64 → (IntKind.i64.wrap (2 ^ a1.toNat)) = ji8 := fun hle_ => by have h_ := hji8z hle_; rw [Int.one_mul] at h_; exact h_
  have hji8y : (wrap64 (1 * 2 ^ min a1.toNat 64)) = ji8 := (i64_w _).symm.trans hji8_
  have hji8x : a1 ≤ 64 → (wrap64 (1 * 2 ^ a1.toNat)) = ji8 := fun h_ => (i64_w _).symm.trans (hji8z h_)
  by_cases c9 : (wrap64 ((ji8) - 1)) = 0
  case pos => (rw [if_pos c9] at H; exact absurd H (by simp))
  rw [if_neg c9] at H
  have c9b0 : ((wrap64 ((ji8) - 1)) == 0) = false := beq_eq_false_iff_ne.mpr c9
  have c9b1 : ((wrap64 ((ji8) - 1)) != 0) = true := bne_iff_ne.mpr c9
  by_cases c10 : 0 ≤ (l0.length : Int)
  case neg => (rw [if_neg c10] at H; exact absurd H (by simp))
  rw [if_pos c10] at H
  have c10b0 := eq_true c10
  have c10b1 : decide (0 ≤ (l0.length : Int)) = true := decide_eq_true c10
  clear c10
  by_cases c11 : ((l0.length : Int) : Int).toNat ≤ 35184372088832
  case neg => (rw [if_neg c11] at H; exact absurd H (by simp))
  rw [if_pos c11] at H
  have c11b0 := eq_true c11
  have c11b1 : decide (((l0.length : Int) : Int).toNat ≤ 35184372088832) = true := decide_eq_true c11
  clear c11
  obtain ⟨y122, hy122⟩ : ∃ y_ : List Int, y_ = (List.replicate ((l0.length : Int) : Int).toNat 0) := ⟨_, rfl⟩
  replace H : (group_Of.l0 k (wrap64 (t120)) (wrap64 (Int.tdiv (wrap64 ((wrap64 ((wrap64 ((wrap64 (t121)) - (wrap64 (t120)))) + (wrap64 ((ji8) - 1)))) - 1)) (wrap64 ((ji8) - 1)))) l0 (l0.length : Int) 0 (wrap32 (wrap64 (t120))) ((wrap64 (Int.tdiv (wrap64 ((wrap64 ((wrap64 ((wrap64 (t121)) - (wrap64 (t120)))) + (wrap64 ((ji8) - 1)))) - 1)) (wrap64 ((ji8) - 1)))) % 4294967296) y122) = some (r1, r2, r3, r4) := by first | (rw [hy122]; with_reducible exact H) | (have H2_ := (Option.bind_some _ _).symm.trans H; rw [hy122]; with_reducible exact H2_) | (have H2_ := (Option.bind_some _ _).symm.trans H; with_reducible exact H2_) | with_reducible exact H | (rw [hy122]; exact H) | exact H
  have Ny122 := Aside0.mk hy122
  clear hy122
  have H' := Aside0.mk H
  clear H
  go_enter Try.func62, Try.ntmps62
  go_wp2_with (first | ((with_reducible refine gate_dst (N := 4) rfl ?_); refine box_event ?hg (N := 4) ?hd (cs := #[.int .i32 0, .int .u32 0, .slice none 0 0]) (t := 117) ?hr ?_; (case hd => rfl); (case hg => rfl); (case hr => first | (go_simp; done) | (go_simp; rfl)); intro gb118 hg w12 hbox hb; have n0_ := Aside0.mk (below_step (by with_reducible exact HB.out) hb); have n1_ := Aside0.mk (hbox); have n2_ := Aside0.mk ((by rw [hg]; exact (below_size (by with_reducible exact HB.out)) : w.heap.size ≤ gb118)); have n3_ := Aside0.mk ((by rw [hg]; exact (below_size (by with_reducible exact HB.out)) : w.heap.size ≤ gb118)); clear HB; have HB := n0_; have BK118 := n1_; have GW118 := n2_; have GE118 := n3_; clear n0_ n1_ n2_ n3_; clear hb hbox hg) | ((with_reducible refine gate_callee (f := 67) rfl ?_); refine goesL_ (some 17) rfl rfl Try.func67 (by kernel_rfl) rfl #[.int .i64 (l0.length : Int), .int .i64 a1] rfl (by (try simp only [List.map_toArray, List.map_cons, List.map_nil]); first | done | rfl | (simp only [List.length_drop, List.length_take]; rfl)) ?_; (with_reducible refine (group_many.calls (l0.length : Int) a1 t119 _ A3.out).mono ?_); rintro e w' ⟨rfl, ⟨nd, rfl⟩⟩; refine ⟨_, rfl, ?_⟩; (try (rw [drewN_self w12]; generalize hq_ : World.drewN w12 _ = w12; have n0_ : Aside0 (w12.heap[gb118]? = some (.cells #[.int .i32 0, .int .u32 0, .slice none 0 0] 117 (0, 0))) := ⟨by rw [← hq_]; exact (by (with_reducible repeat (first | refine blk_drewN ?_ _ | refine blk_drew ?_ | refine blk_alloc ?_ _)); exact BK118.out)⟩; have n1_ : Aside0 (Below w.heap.size w w12) := ⟨by rw [← hq_]; exact (by repeat (first | (with_reducible first | exact HB.out | apply below_alloc | apply pw_below_drewN | apply below_drew1 | refine below_set ?_ GE118.out) | exact HB.out))⟩; clear BK118 HB hq_; have BK118 := n0_; have HB := n1_; clear n0_ n1_))) | ((with_reducible refine gate_callee (f := 68) rfl ?_); refine goesL_ (some 23) rfl rfl Try.func68 (by kernel_rfl) rfl #[.slice A0 l0.length c0] rfl (by (try simp only [List.map_toArray, List.map_cons, List.map_nil]); first | done | rfl | (simp only [List.length_drop, List.length_take]; rfl)) ?_; (with_reducible refine (slices_Min_int32_int32.calls k _ _ l0 t120 _ ?side1 ?side2 A5.out).mono ?_); (case side1 => repeat (first | exact (Kd.C_below HR0.out HB.out) | (with_reducible refine Kd.C_alloc ?_ _) | (with_reducible refine Kd.C_drewN ?_ _) | (with_reducible refine Kd.C_drew ?_))); (case side2 => exact HC0.out); rintro e w13 ⟨rfl, hb⟩; refine ⟨_, rfl, ?_⟩; have n0_ := Aside0.mk (blk_below (g := gb118) (o := .cells #[.int .i32 0, .int .u32 0, .slice none 0 0] 117 (0, 0)) (by exact BK118.out) hb); have n1_ := Aside0.mk (below_step (by with_reducible exact HB.out) hb); clear BK118; clear HB; have BK118 := n0_; have HB := n1_; clear n0_ n1_; (try clear hb); (try clear hb2); (try clear hk); (try clear hi)) | ((with_reducible refine gate_callee (f := 69) rfl ?_); refine goesL_ (some 26) rfl rfl Try.func69 (by kernel_rfl) rfl #[.slice A0 l0.length c0] rfl (by (try simp only [List.map_toArray, List.map_cons, List.map_nil]); first | done | rfl | (simp only [List.length_drop, List.length_take]; rfl)) ?_; (with_reducible refine (slices_Max_int32_int32.calls k _ _ l0 t121 _ ?side1 ?side2 A6.out).mono ?_); (case side1 => repeat (first | exact (Kd.C_below HR0.out HB.out) | (with_reducible refine Kd.C_alloc ?_ _) | (with_reducible refine Kd.C_drewN ?_ _) | (with_reducible refine Kd.C_drew ?_))); (case side2 => exact HC0.out); rintro e w14 ⟨rfl, hb⟩; refine ⟨_, rfl, ?_⟩; have n0_ := Aside0.mk (blk_below (g := gb118) (o := .cells #[.int .i32 0, .int .u32 0, .slice none 0 0] 117 (0, 0)) (by exact BK118.out) hb); have n1_ := Aside0.mk (below_step (by with_reducible exact HB.out) hb); clear BK118; clear HB; have BK118 := n0_; have HB := n1_; clear n0_ n1_; (try clear hb); (try clear hb2); (try clear hk); (try clear hi)) | ((with_reducible refine gate_dst (N := 45) rfl ?_); refine Kd.R_make (Kd.int .i64) _ 3 rfl (N := 45) rfl 28 _ _ rfl (l0.length : Int) rfl rfl Try.underlying28 (.int .i64 0) 8 info3 rfl (by decide) (by omega) 0 (ok := fun _ => True) (okp := fun _ => True) rfl (fun _ hk => hk) trivial (of_decide_eq_true (by first | (with_reducible assumption) | assumption)) (Nat.le_trans (Nat.mul_le_mul_right _ (of_decide_eq_true (by first | (with_reducible assumption) | assumption) : (l0.length : Int).toNat ≤ 35184372088832)) (by omega)) (Below.refl _ _) (Nat.le_refl _) ?_; intro v123 w15 ho16 hb hg_ hnew_; clear hg_ hnew_; (first | rw [← Ny122.out] at ho16 | (simp only [Int.reduceToNat] at ho16; rw [← Ny122.out] at ho16)); have n0_ := Aside0.mk (Kd.R_lower ho16 (below_size (by with_reducible exact HB.out))); have n1_ := Aside0.mk (blk_below (g := gb118) (o := .cells #[.int .i32 0, .int .u32 0, .slice none 0 0] 117 (0, 0)) (by exact BK118.out) hb); have n2_ := Aside0.mk (below_step (by with_reducible exact HB.out) hb); clear BK118; clear HB; have HO124 := n0_; have BK118 := n1_; have HB := n2_; clear n0_ n1_ n2_; clear hb ho16; obtain ⟨Ao17, co17, eo17⟩ := Kd.R_slice HO124.out; subst eo17) | ((with_reducible refine gate_dst (N := 11) rfl ?_); refine box_event ?hg (N := 11) ?hd (cs := #[.int .i32 0, .int .u32 0, .slice none 0 0]) (t := 117) ?hr ?_; (case hd => rfl); (case hg => rfl); (case hr => first | (go_simp; done) | (go_simp; rfl)); intro gb125 hg w18 hbox hb; have n0_ := Aside0.mk (Kd.R_below (by exact HO124.out) hb); have n1_ := Aside0.mk (blk_below (g := gb118) (o := .cells #[.int .i32 0, .int .u32 0, .slice none 0 0] 117 (0, 0)) (by exact BK118.out) hb); have n2_ := Aside0.mk (below_step (by with_reducible exact HB.out) hb); have n3_ := Aside0.mk (hbox); have n4_ := Aside0.mk ((by rw [hg]; exact (below_size (by with_reducible exact HB.out)) : w.heap.size ≤ gb125)); have n5_ := Aside0.mk ((by rw [hg]; exact (below_size (by with_reducible exact HB.out)) : w.heap.size ≤ gb125)); have n6_ := Aside0.mk ((by rw [hg]; exact Nat.ne_of_lt (blk_lt (g := gb118) (o := .cells #[.int .i32 0, .int .u32 0, .slice none 0 0] 117 (0, 0)) (by exact BK118.out)) : gb118 ≠ gb125)); have n7_ := Aside0.mk ((by rw [hg]; exact Nat.ne_of_gt (blk_lt (g := gb118) (o := .cells #[.int .i32 0, .int .u32 0, .slice none 0 0] 117 (0, 0)) (by exact BK118.out)) : gb125 ≠ gb118)); clear HO124; clear BK118; clear HB; have HO124 := n0_; have BK118 := n1_; have HB := n2_; have BK125 := n3_; have GW125 := n4_; have GE125 := n5_; have NB118_125 := n6_; have NB125_118 := n7_; clear n0_ n1_ n2_ n3_ n4_ n5_ n6_ n7_; clear hb hbox hg; have hnb19 := NB125_118.out; have hnc19 := NB118_125.out; have hcz20_0 : w18.cell? ⟨gb125, 0, none⟩ = some (.int .i32 0) := (blk_cell BK125.out 0).trans rfl; have hcz20_1 : w18.cell? ⟨gb125, 1, none⟩ = some (.int .u32 0) := (blk_cell BK125.out 1).trans rfl; have hcz20_2 : w18.cell? ⟨gb125, 2, none⟩ = some (.slice none 0 0) := (blk_cell BK125.out 2).trans rfl; have hfz20_0 := blk_frozen BK125.out 0; have hfz20_1 := blk_frozen BK125.out 1; have hfz20_2 := blk_frozen BK125.out 2))
  go_loopg [49] k (fun kq v49 w' => ∃ (x49_1 : Int) (x126002_1 : List Int) (u126002 : Value), v49 = .int .i64 x49_1 ∧ Aside0 (group_Of.l0 kq (wrap64 (t120)) (wrap64 (Int.tdiv (wrap64 ((wrap64 ((wrap64 ((wrap64 (t121)) - (wrap64 (t120)))) + (wrap64 ((ji8) - 1)))) - 1)) (wrap64 ((ji8) - 1)))) l0 (l0.length : Int) x49_1 (wrap32 (wrap64 (t120))) ((wrap64 (Int.tdiv (wrap64 ((wrap64 ((wrap64 ((wrap64 (t121)) - (wrap64 (t120)))) + (wrap64 ((ji8) - 1)))) - 1)) (wrap64 ((ji8) - 1)))) % 4294967296) x126002_1 = some (r1, r2, r3, r4)) ∧ Aside0 (kq ≤ k) ∧ Aside0 (Kd.R (Kd.int .i64) 3 w' w.heap.size (fun _ => True) u126002 x126002_1) ∧ Aside0 (w'.heap[gb118]? = some (.cells #[.int .i32 0, .int .u32 0, (.slice none 0 0)] 117 (0, 0))) ∧ Aside0 (w'.heap[gb125]? = some (.cells #[.int .i32 (wrap32 (wrap64 (t120))), .int .u32 ((wrap64 (Int.tdiv (wrap64 ((wrap64 ((wrap64 ((wrap64 (t121)) - (wrap64 (t120)))) + (wrap64 ((ji8) - 1)))) - 1)) (wrap64 ((ji8) - 1)))) % 4294967296), u126002] 117 (0, 0))) ∧ Aside0 (Below w.heap.size w w'))
  case atStart => exact ⟨(0), (y122), (.slice Ao17 y122.length co17), (by first | rfl | (simp; done) | (simp [*]; done)), H', ⟨Nat.le_refl _⟩, ⟨by (with_reducible repeat (first | apply Kd.R_alloc | apply Kd.R_drewN | apply Kd.R_drew)); exact Kd.R_mono (Kd.R_far (p := ⟨gb125, 2, none⟩) (Kd.R_far (p := ⟨gb125, 1, none⟩) (Kd.R_far (p := ⟨gb125, 0, none⟩) (Kd.R_types HO124.out BK125.out (by decide)) (fun _ hk => hk.2) (.int .i32 (wrap32 (wrap64 (t120))))) (fun _ hk => hk.2) (.int .u32 ((wrap64 (Int.tdiv (wrap64 ((wrap64 ((wrap64 ((wrap64 (t121)) - (wrap64 (t120)))) + (wrap64 ((ji8) - 1)))) - 1)) (wrap64 ((ji8) - 1)))) % 4294967296))) (fun _ hk => hk.2) (.slice Ao17 y122.length co17)) (fun _ hk => trivial)⟩, ⟨by (with_reducible repeat (first | refine blk_drewN ?_ _ | refine blk_drew ?_ | refine blk_alloc ?_ _)); refine blk_far ?_ NB118_125.out _; (with_reducible repeat (first | refine blk_drewN ?_ _ | refine blk_drew ?_ | refine blk_alloc ?_ _)); refine blk_far ?_ NB118_125.out _; (with_reducible repeat (first | refine blk_drewN ?_ _ | refine blk_drew ?_ | refine blk_alloc ?_ _)); refine blk_far ?_ NB118_125.out _; (with_reducible repeat (first | refine blk_drewN ?_ _ | refine blk_drew ?_ | refine blk_alloc ?_ _)); exact BK118.out⟩, ⟨by (with_reducible repeat (first | refine blk_drewN ?_ _ | refine blk_drew ?_ | refine blk_alloc ?_ _)); refine blk_put (cs := #[.int .i32 (wrap32 (wrap64 (t120))), .int .u32 ((wrap64 (Int.tdiv (wrap64 ((wrap64 ((wrap64 ((wrap64 (t121)) - (wrap64 (t120)))) + (wrap64 ((ji8) - 1)))) - 1)) (wrap64 ((ji8) - 1)))) % 4294967296), .slice none 0 0]) ?_ 2 _ rfl; (with_reducible repeat (first | refine blk_drewN ?_ _ | refine blk_drew ?_ | refine blk_alloc ?_ _)); refine blk_put (cs := #[.int .i32 (wrap32 (wrap64 (t120))), .int .u32 0, .slice none 0 0]) ?_ 1 _ rfl; (with_reducible repeat (first | refine blk_drewN ?_ _ | refine blk_drew ?_ | refine blk_alloc ?_ _)); refine blk_put (cs := #[.int .i32 0, .int .u32 0, .slice none 0 0]) ?_ 0 _ rfl; (with_reducible repeat (first | refine blk_drewN ?_ _ | refine blk_drew ?_ | refine blk_alloc ?_ _)); exact BK125.out⟩, ⟨by repeat (first | (with_reducible first | exact HB.out | apply below_alloc | apply pw_below_drewN | apply below_drew1 | refine below_set ?_ GE118.out | refine below_set ?_ GE125.out) | exact HB.out)⟩⟩
  case round =>
   clear H'
   try clear c1
   try clear p2
   try clear p3
   try clear c4
   try clear c4b0
   try clear c4b1
   try clear c6
   try clear p6
   try clear c7
   try clear c7b0
   try clear c7b1
   try clear c9
   try clear c9b0
   try clear c9b1
   try clear c10
   try clear c10b0
   try clear c10b1
   try clear c11
   try clear c11b0
   try clear c11b1
   try clear c19
   try clear hcz20_0
   try clear hcz20_1
   try clear hcz20_2
   try clear hfz20_0
   try clear hfz20_1
   try clear hfz20_2
   obtain ⟨x49_1, x126002_1, u126002, rfl, HA, HK1, HO_126002, BK118, BK125, HB⟩ := hrel
   cases gk with
   | zero => exact absurd HA.out (by simp [group_Of.l0])
   | succ k1 =>
    have H := HA.out
    clear HA
    simp only [group_Of.l0] at H
    by_cases c21 : x49_1 < (l0.length : Int)
    ·
     rw [if_pos c21] at H
     have c21b0 : decide (x49_1 < (l0.length : Int)) = true := decide_eq_true c21
     clear c21
     by_cases c22 : 0 ≤ x49_1
     case neg => (rw [if_neg c22] at H; exact absurd H (by simp))
     rw [if_pos c22] at H
     have c22b0 : decide (0 ≤ x49_1) = true := decide_eq_true c22
     clear c22
     by_cases c23 : x49_1 < (l0.length : Int)
     case neg => (rw [if_neg c23] at H; exact absurd H (by simp))
     rw [if_pos c23] at H
     have c23b0 : decide (x49_1 < (l0.length : Int)) = true := decide_eq_true c23
     clear c23
     replace H := Option.bind_eq_some_iff.mp H
     obtain ⟨t127, A240, H⟩ := H
     replace H : (if x49_1 < (x126002_1.length : Int) then (group_Of.l0 k1 (wrap64 (t120)) (wrap64 (Int.tdiv (wrap64 ((wrap64 ((wrap64 ((wrap64 (t121)) - (wrap64 (t120)))) + (wrap64 ((ji8) - 1)))) - 1)) (wrap64 ((ji8) - 1)))) l0 (l0.length : Int) (wrap64 (x49_1 + 1)) (wrap32 (wrap64 (t120))) ((wrap64 (Int.tdiv (wrap64 ((wrap64 ((wrap64 ((wrap64 (t121)) - (wrap64 (t120)))) + (wrap64 ((ji8) - 1)))) - 1)) (wrap64 ((ji8) - 1)))) % 4294967296) (x126002_1.set (x49_1 : Int).toNat t127)) else (none)) = some (r1, r2, r3, r4) := H
     have A24 := Aside0.mk A240
     clear A240
     by_cases c25 : x49_1 < (x126002_1.length : Int)
     case neg => (rw [if_neg c25] at H; exact absurd H (by simp))
     rw [if_pos c25] at H
     have c25b0 : decide (x49_1 < (x126002_1.length : Int)) = true := decide_eq_true c25
     clear c25
     obtain ⟨y128, hy128⟩ : ∃ y_ : List Int, y_ = (x126002_1.set (x49_1 : Int).toNat t127) := ⟨_, rfl⟩
     replace H : (group_Of.l0 k1 (wrap64 (t120)) (wrap64 (Int.tdiv (wrap64 ((wrap64 ((wrap64 ((wrap64 (t121)) - (wrap64 (t120)))) + (wrap64 ((ji8) - 1)))) - 1)) (wrap64 ((ji8) - 1)))) l0 (l0.length : Int) (wrap64 (x49_1 + 1)) (wrap32 (wrap64 (t120))) ((wrap64 (Int.tdiv (wrap64 ((wrap64 ((wrap64 ((wrap64 (t121)) - (wrap64 (t120)))) + (wrap64 ((ji8) - 1)))) - 1)) (wrap64 ((ji8) - 1)))) % 4294967296) y128) = some (r1, r2, r3, r4) := by first | (rw [hy128]; with_reducible exact H) | (have H2_ := (Option.bind_some _ _).symm.trans H; rw [hy128]; with_reducible exact H2_) | (have H2_ := (Option.bind_some _ _).symm.trans H; with_reducible exact H2_) | with_reducible exact H | (rw [hy128]; exact H) | exact H
     have Ny128 := Aside0.mk hy128
     clear hy128
     have H' := Aside0.mk H
     clear H
     have p126 : 0 ≤ (x49_1 : Int) := of_decide_eq_true (by first | (with_reducible assumption) | assumption)
     have q126 : x49_1 < (l0.length : Int) := of_decide_eq_true (by first | (with_reducible assumption) | assumption)
     obtain ⟨ad126, e126, hx126_0⟩ := Kd.at_int HR0.out x49_1 p126 q126
     cases e126
     replace hx126_0 := (HB.out.cell (World.block_lt_of_cell? w _ hx126_0)).trans hx126_0
     replace p126 := eq_true p126
     replace q126 := eq_true q126
     try go_wp2
     have n0_ := Aside0.mk (Kd.R_drew HO_126002.out)
     have n1_ := Aside0.mk (blk_drew BK118.out)
     have n2_ := Aside0.mk (blk_drew BK125.out)
     have n3_ := Aside0.mk (below_drew1 HB.out)
     clear HO_126002
     clear BK118
     clear BK125
     clear HB
     have HO_126002 := n0_
     have BK118 := n1_
     have BK125 := n2_
     have HB := n3_
     clear n0_ n1_ n2_ n3_
     refine start_ (n := 11) (S := fun w' => w'.cell? ⟨gb125, 0, none⟩ = some (.int .i32 (wrap32 (wrap64 (t120)))) ∧ w'.cell? ⟨gb125, 1, none⟩ = some (.int .u32 ((wrap64 (Int.tdiv (wrap64 ((wrap64 ((wrap64 ((wrap64 (t121)) - (wrap64 (t120)))) + (wrap64 ((ji8) - 1)))) - 1)) (wrap64 ((ji8) - 1)))) % 4294967296)) ∧ w'.cell? ⟨gb125, 2, none⟩ = some (u126002)) (ds := [10]) #[false, false, false, false, false, false, false, false, false, false, false] (by kernel_rfl) rfl rfl ⟨(blk_cell BK125.out 0).trans rfl, (blk_cell BK125.out 1).trans rfl, (blk_cell BK125.out 2).trans rfl⟩ (fun hHeld => ?_); refine with_tabW group_Of.tab11 group_Of.bits11 (fun HT_ HW_ => ?_)
     generalize wr.drew = w27 at HO_126002 BK118 BK125 HB hHeld ⊢
     refine pure_ (i := 0) (N := some 54) (v := ?_) (a' := ?_) #[true, false, false, false, false, false, false, false, false, false, false] rfl rfl (any_of HT_.out (by kernel_rfl)) (fun _ _ _ h => h) (Or.inl ⟨by rfl, ?_⟩) ?_ ?_
     rotate_left
     ·
      intro w'
      go_simp
      with_reducible rfl
     rotate_left
     ·
      simp only [Act.put, List.setIfInBounds_toArray, List.set_cons_zero, List.set_cons_succ, i64_w, i32_w, IntKind.wrap_u32]
      rfl
     refine pure_ (i := 2) (N := some 56) (v := ?_) (a' := ?_) #[true, false, true, false, false, false, false, false, false, false, false] rfl rfl (any_of HT_.out (by kernel_rfl)) (fun _ _ _ h => h) (Or.inl ⟨by rfl, ?_⟩) ?_ ?_
     rotate_left
     ·
      intro w'
      go_simp
      with_reducible rfl
     rotate_left
     ·
      simp only [Act.put, List.setIfInBounds_toArray, List.set_cons_zero, List.set_cons_succ, i64_w, i32_w, IntKind.wrap_u32]
      rfl
     refine pure_ (i := 3) (N := some 57) (v := ?_) (a' := ?_) #[true, false, true, true, false, false, false, false, false, false, false] rfl rfl (any_of HT_.out (by kernel_rfl)) (fun _ _ _ h => h) (Or.inl ⟨by rfl, ?_⟩) ?_ ?_
     rotate_left
     ·
      intro w'
      go_simp
      with_reducible rfl
     rotate_left
     ·
      simp only [Act.put, List.setIfInBounds_toArray, List.set_cons_zero, List.set_cons_succ, i64_w, i32_w, IntKind.wrap_u32]
      rfl
     refine pure_ (i := 4) (N := some 58) (v := ?_) (a' := ?_) #[true, false, true, true, true, false, false, false, false, false, false] rfl rfl (any_of HT_.out (by kernel_rfl)) (fun _ _ _ h => h) (Or.inl ⟨by rfl, ?_⟩) ?_ ?_
     rotate_left
     ·
      intro w'
      go_simp
      with_reducible rfl
     rotate_left
     ·
      simp only [Act.put, List.setIfInBounds_toArray, List.set_cons_zero, List.set_cons_succ, i64_w, i32_w, IntKind.wrap_u32]
      rfl
     refine pure_ (i := 5) (N := some 59) (v := ?_) (a' := ?_) #[true, false, true, true, true, true, false, false, false, false, false] rfl rfl (any_of HT_.out (by kernel_rfl)) (fun _ _ _ h => h) (Or.inl ⟨by rfl, ?_⟩) ?_ ?_
     rotate_left
     ·
      intro w'
      go_simp
      with_reducible rfl
     rotate_left
     ·
      simp only [Act.put, List.setIfInBounds_toArray, List.set_cons_zero, List.set_cons_succ, i64_w, i32_w, IntKind.wrap_u32]
      rfl
     refine pure_ (i := 6) (N := some 60) (v := ?_) (a' := ?_) #[true, false, true, true, true, true, true, false, false, false, false] rfl rfl (any_of HT_.out (by kernel_rfl)) (fun _ _ _ h => h) (Or.inl ⟨by rfl, ?_⟩) ?_ ?_
     rotate_left
     ·
      intro w'
      go_simp
      with_reducible rfl
     rotate_left
     ·
      simp only [Act.put, List.setIfInBounds_toArray, List.set_cons_zero, List.set_cons_succ, i64_w, i32_w, IntKind.wrap_u32]
      rfl
     refine pure_ (i := 7) (N := some 61) (v := ?_) (a' := ?_) #[true, false, true, true, true, true, true, true, false, false, false] rfl rfl (any_of HT_.out (by kernel_rfl)) (fun _ _ _ h => h) (Or.inl ⟨by rfl, ?_⟩) ?_ ?_
     rotate_left
     ·
      intro w'
      go_simp
      with_reducible rfl
     rotate_left
     ·
      simp only [Act.put, List.setIfInBounds_toArray, List.set_cons_zero, List.set_cons_succ, i64_w, i32_w, IntKind.wrap_u32]
      rfl
     refine take_ (i := 1) (N := some 55) (v := ?_) (a' := ?_) #[true, true, true, true, true, true, true, true, false, false, false] rfl rfl (take_ofW HT_.out HW_.out (by kernel_rfl)) (fun _ _ _ h => h) (Or.inl ⟨by rfl, ?_⟩) hHeld ?_ ?_
     rotate_left
     ·
      rintro w' ⟨s0, s1, s2⟩
      go_simp
      with_reducible rfl
     rotate_left
     ·
      simp only [Act.put, List.setIfInBounds_toArray, List.set_cons_zero, List.set_cons_succ, i64_w, i32_w, IntKind.wrap_u32]
      rfl
     refine one_ (i := 8) (N := some 62) #[true, true, true, true, true, true, true, true, true, false, false] rfl rfl (one_of HT_.out (by kernel_rfl)) (by decide) (fun K hK => ?_)
     refine goes_ Try.func70 (by kernel_rfl) rfl #[.int .i64 (wrap64 ((wrap64 (rd l0 x49_1)) - (wrap64 (t120)))), .int .i64 (wrap64 (Int.tdiv (wrap64 ((wrap64 ((wrap64 ((wrap64 (t121)) - (wrap64 (t120)))) + (wrap64 ((ji8) - 1)))) - 1)) (wrap64 ((ji8) - 1))))] (by rfl) rfl rfl (by (try simp only [List.map_toArray, List.map_cons, List.map_nil]); first | done | (simp only [hji8]; rfl) | rfl | (simp only [List.length_drop, List.length_take]; rfl)) ?_
     with_reducible refine (fix_Ratio.calls (wrap64 ((wrap64 (rd l0 x49_1)) - (wrap64 (t120)))) (wrap64 (Int.tdiv (wrap64 ((wrap64 ((wrap64 ((wrap64 (t121)) - (wrap64 (t120)))) + (wrap64 ((ji8) - 1)))) - 1)) (wrap64 ((ji8) - 1)))) t127 _ A24.out).mono ?_
     rintro e w' ⟨rfl, ⟨nd, rfl⟩⟩
     refine ⟨_, rfl, ?_⟩
     have p26 : 0 ≤ (x49_1 : Int) := of_decide_eq_true (by first | (with_reducible assumption) | assumption)
     have q26 : (x49_1 : Int) < ((x126002_1.length : Int) : Int) := of_decide_eq_true (by first | (with_reducible assumption) | assumption)
     obtain ⟨go26, co26, eo26, gb26, gl26, cl26, HG26⟩ := Kd.R_form HO_126002.out (by omega)
     (first | cases eo26 | (injection eo26 with ea_ en_ ec_; (first | subst ea_ | (injection ea_ with ea_; subst ea_)); subst ec_; clear en_))
     have GB26 := Aside0.mk gb26
     have GG26 := Aside0.mk HG26
     clear gb26 gl26 HG26
     obtain ⟨hx26_0, hf26_0⟩ := Kd.R_celln 0 HO_126002.out (x49_1 : Int) p26 q26
     replace p26 := eq_true p26
     replace q26 := eq_true q26
     have HP28 := Kd.R_putn HO_126002.out (x49_1 : Int) t127
     rw [← Ny128.out] at HP28
     have HQ28 := Aside0.mk HP28
     clear HP28
     refine hK.out _ _ ⟨(blk_cell BK125.out 0).trans rfl, (blk_cell BK125.out 1).trans rfl, (blk_cell BK125.out 2).trans rfl⟩ (fun hHeld => ?_)
     clear hK K
     refine norm_ (a' := ?_) ?_ ?_
     rotate_left
     ·
      show Act.put _ (some 62) _ = _
      simp only [Act.put, List.setIfInBounds_toArray, List.set_cons_zero, List.set_cons_succ, i64_w, i32_w, IntKind.wrap_u32]
      rfl
     refine pure_ (i := 9) (N := some 63) (v := ?_) (a' := ?_) #[true, true, true, true, true, true, true, true, true, true, false] rfl rfl (any_of HT_.out (by kernel_rfl)) (fun _ _ _ h => h) (Or.inl ⟨by rfl, ?_⟩) ?_ ?_
     rotate_left
     ·
      intro w'
      go_simp
      with_reducible rfl
     rotate_left
     ·
      simp only [Act.put, List.setIfInBounds_toArray, List.set_cons_zero, List.set_cons_succ, i64_w, i32_w, IntKind.wrap_u32]
      rfl
     refine last_ (i := 10) (N := none) #[true, true, true, true, true, true, true, true, true, true, true] rfl rfl (one_of HT_.out (by kernel_rfl)) (by decide) (fun K hK => ?_)
     refine skip_ (w1 := ?_) (by rfl) rfl ?_ ?_
     rotate_left
     ·
      go_simp
      rfl
     refine hK.out _ _ ?_
     clear hK K
     refine done_ (done_of HT_.out (by kernel_rfl)) ?_
     try go_wp2
     go_roundg k1
     case measure => have := HK1.out; omega
     case rel => exact ⟨(wrap64 (x49_1 + 1)), (y128), (.slice (some ⟨go26, 0, none⟩) x126002_1.length co26), (by first | rfl | (simp; done) | (simp [*]; done)), H', ⟨by have := HK1.out; omega⟩, ⟨by (with_reducible repeat (first | apply Kd.R_alloc | apply Kd.R_drewN | apply Kd.R_drew)); exact HQ28.out⟩, ⟨by (with_reducible repeat (first | refine blk_drewN ?_ _ | refine blk_drew ?_ | refine blk_alloc ?_ _)); refine blk_far ?_ (by have h_ := Kd.R_ne HO_126002.out BK118.out (by decide); intro e_; exact h_ (by rw [e_]; rfl)) _; (with_reducible repeat (first | refine blk_drewN ?_ _ | refine blk_drew ?_ | refine blk_alloc ?_ _)); exact BK118.out⟩, ⟨by (with_reducible repeat (first | refine blk_drewN ?_ _ | refine blk_drew ?_ | refine blk_alloc ?_ _)); refine blk_far ?_ (by have h_ := Kd.R_ne HO_126002.out BK125.out (by decide); intro e_; exact h_ (by rw [e_]; rfl)) _; (with_reducible repeat (first | refine blk_drewN ?_ _ | refine blk_drew ?_ | refine blk_alloc ?_ _)); exact BK125.out⟩, ⟨by repeat (first | (with_reducible first | exact HB.out | apply below_alloc | apply pw_below_drewN | apply below_drew1 | refine below_set ?_ GB26.out | refine below_set ?_ GE118.out | refine below_set ?_ GE125.out) | exact HB.out)⟩⟩
    ·
     rw [if_neg c21] at H
     have c21b0 : decide (x49_1 < (l0.length : Int)) = false := decide_eq_false c21
     clear c21
     simp only [Option.some.injEq, Prod.mk.injEq] at H
     obtain ⟨rfl, rfl, rfl, rfl⟩ := H
     have hnb29 := NB125_118.out
     have hnc29 := NB118_125.out
     have hcz30_0 : wr.cell? ⟨gb125, 0, none⟩ = some (.int .i32 (wrap32 (wrap64 (t120)))) := (blk_cell BK125.out 0).trans rfl
     have hcz30_1 : wr.cell? ⟨gb125, 1, none⟩ = some (.int .u32 ((wrap64 (Int.tdiv (wrap64 ((wrap64 ((wrap64 ((wrap64 (t121)) - (wrap64 (t120)))) + (wrap64 ((ji8) - 1)))) - 1)) (wrap64 ((ji8) - 1)))) % 4294967296)) := (blk_cell BK125.out 1).trans rfl
     have hcz30_2 : wr.cell? ⟨gb125, 2, none⟩ = some (u126002) := (blk_cell BK125.out 2).trans rfl
     have hfz30_0 := blk_frozen BK125.out 0
     have hfz30_1 := blk_frozen BK125.out 1
     have hfz30_2 := blk_frozen BK125.out 2
     have hcz31_0 : wr.cell? ⟨gb118, 0, none⟩ = some (.int .i32 0) := (blk_cell BK118.out 0).trans rfl
     have hcz31_1 : wr.cell? ⟨gb118, 1, none⟩ = some (.int .u32 0) := (blk_cell BK118.out 1).trans rfl
     have hcz31_2 : wr.cell? ⟨gb118, 2, none⟩ = some (.slice none 0 0) := (blk_cell BK118.out 2).trans rfl
     have hfz31_0 := blk_frozen BK118.out 0
     have hfz31_1 := blk_frozen BK118.out 1
     have hfz31_2 := blk_frozen BK118.out 2
     obtain ⟨Ao32, co32, eo32⟩ := Kd.R_slice HO_126002.out
     subst eo32
     go_wp2
     refine bodyPost_ret (results_ct rfl _ _ gb118 117 #[.int .i32 (wrap32 (wrap64 (t120))), .int .u32 ((wrap64 (Int.tdiv (wrap64 ((wrap64 ((wrap64 ((wrap64 (t121)) - (wrap64 (t120)))) + (wrap64 ((ji8) - 1)))) - 1)) (wrap64 ((ji8) - 1)))) % 4294967296), .slice Ao32 x126002_1.length co32] (0, 0) _ rfl (by (with_reducible repeat (first | refine blk_drewN ?_ _ | refine blk_drew ?_ | refine blk_alloc ?_ _)); refine blk_put (cs := #[.int .i32 (wrap32 (wrap64 (t120))), .int .u32 ((wrap64 (Int.tdiv (wrap64 ((wrap64 ((wrap64 ((wrap64 (t121)) - (wrap64 (t120)))) + (wrap64 ((ji8) - 1)))) - 1)) (wrap64 ((ji8) - 1)))) % 4294967296), .slice none 0 0]) ?_ 2 _ rfl; (with_reducible repeat (first | refine blk_drewN ?_ _ | refine blk_drew ?_ | refine blk_alloc ?_ _)); refine blk_put (cs := #[.int .i32 (wrap32 (wrap64 (t120))), .int .u32 0, .slice none 0 0]) ?_ 1 _ rfl; (with_reducible repeat (first | refine blk_drewN ?_ _ | refine blk_drew ?_ | refine blk_alloc ?_ _)); refine blk_put (cs := #[.int .i32 0, .int .u32 0, .slice none 0 0]) ?_ 0 _ rfl; (with_reducible repeat (first | refine blk_drewN ?_ _ | refine blk_drew ?_ | refine blk_alloc ?_ _)); exact BK118.out) Try.underlying117 rfl (by kernel_rfl)) rfl ?_
     exact ⟨_, by first | rfl | (simp [errW_none, errW_some] <;> rfl) | (simp only [← hji8]; first | rfl | (simp [errW_none, errW_some] <;> rfl)) | (simp [*, errW_none, errW_some] <;> rfl), by (with_reducible repeat (first | apply Kd.R_alloc | apply Kd.R_drewN | apply Kd.R_drew)); exact Kd.R_mono (Kd.R_far (p := ⟨gb118, 2, none⟩) (Kd.R_far (p := ⟨gb118, 1, none⟩) (Kd.R_far (p := ⟨gb118, 0, none⟩) (Kd.R_types HO_126002.out BK118.out (by decide)) (fun _ hk => hk.2) (.int .i32 (wrap32 (wrap64 (t120))))) (fun _ hk => hk.2) (.int .u32 ((wrap64 (Int.tdiv (wrap64 ((wrap64 ((wrap64 ((wrap64 (t121)) - (wrap64 (t120)))) + (wrap64 ((ji8) - 1)))) - 1)) (wrap64 ((ji8) - 1)))) % 4294967296))) (fun _ hk => hk.2) (.slice Ao32 x126002_1.length co32)) (fun _ hk => trivial), by repeat (first | (with_reducible first | exact HB.out | apply below_alloc | apply pw_below_drewN | apply below_drew1 | refine below_set ?_ GE118.out | refine below_set ?_ GE125.out) | exact HB.out)⟩
 ·
  rw [if_neg c4] at H
  have c4b0 : (t119 == 0) = false := beq_eq_false_iff_ne.mpr c4
  have c4b1 : (t119 != 0) = true := bne_iff_ne.mpr c4
  simp only [Option.some.injEq, Prod.mk.injEq] at H
  obtain ⟨rfl, rfl, rfl, rfl⟩ := H
  go_enter Try.func62, Try.ntmps62
  go_wp2_with (first | ((with_reducible refine gate_dst (N := 4) rfl ?_); refine box_event ?hg (N := 4) ?hd (cs := #[.int .i32 0, .int .u32 0, .slice none 0 0]) (t := 117) ?hr ?_; (case hd => rfl); (case hg => rfl); (case hr => first | (go_simp; done) | (go_simp; rfl)); intro gb118 hg w33 hbox hb; have n0_ := Aside0.mk (below_step (by with_reducible exact HB.out) hb); have n1_ := Aside0.mk (hbox); have n2_ := Aside0.mk ((by rw [hg]; exact (below_size (by with_reducible exact HB.out)) : w.heap.size ≤ gb118)); have n3_ := Aside0.mk ((by rw [hg]; exact (below_size (by with_reducible exact HB.out)) : w.heap.size ≤ gb118)); clear HB; have HB := n0_; have BK118 := n1_; have GW118 := n2_; have GE118 := n3_; clear n0_ n1_ n2_ n3_; clear hb hbox hg) | ((with_reducible refine gate_callee (f := 67) rfl ?_); refine goesL_ (some 17) rfl rfl Try.func67 (by kernel_rfl) rfl #[.int .i64 (l0.length : Int), .int .i64 a1] rfl (by (try simp only [List.map_toArray, List.map_cons, List.map_nil]); first | done | rfl | (simp only [List.length_drop, List.length_take]; rfl)) ?_; (with_reducible refine (group_many.calls (l0.length : Int) a1 t119 _ A3.out).mono ?_); rintro e w' ⟨rfl, ⟨nd, rfl⟩⟩; refine ⟨_, rfl, ?_⟩; (try (rw [drewN_self w33]; generalize hq_ : World.drewN w33 _ = w33; have n0_ : Aside0 (w33.heap[gb118]? = some (.cells #[.int .i32 0, .int .u32 0, .slice none 0 0] 117 (0, 0))) := ⟨by rw [← hq_]; exact (by (with_reducible repeat (first | refine blk_drewN ?_ _ | refine blk_drew ?_ | refine blk_alloc ?_ _)); exact BK118.out)⟩; have n1_ : Aside0 (Below w.heap.size w w33) := ⟨by rw [← hq_]; exact (by repeat (first | (with_reducible first | exact HB.out | apply below_alloc | apply pw_below_drewN | apply below_drew1 | refine below_set ?_ GE118.out) | exact HB.out))⟩; clear BK118 HB hq_; have BK118 := n0_; have HB := n1_; clear n0_ n1_)); have hcz34_0 : w33.cell? ⟨gb118, 0, none⟩ = some (.int .i32 0) := (blk_cell BK118.out 0).trans rfl; have hcz34_1 : w33.cell? ⟨gb118, 1, none⟩ = some (.int .u32 0) := (blk_cell BK118.out 1).trans rfl; have hcz34_2 : w33.cell? ⟨gb118, 2, none⟩ = some (.slice none 0 0) := (blk_cell BK118.out 2).trans rfl; have hfz34_0 := blk_frozen BK118.out 0; have hfz34_1 := blk_frozen BK118.out 1; have hfz34_2 := blk_frozen BK118.out 2))
  refine bodyPost_ret (results_ct rfl _ _ gb118 117 #[.int .i32 0, .int .u32 0, .slice none 0 0] (0, 0) _ rfl (by (with_reducible repeat (first | refine blk_drewN ?_ _ | refine blk_drew ?_ | refine blk_alloc ?_ _)); refine blk_put (cs := #[.int .i32 0, .int .u32 0, .slice none 0 0]) ?_ 2 _ rfl; (with_reducible repeat (first | refine blk_drewN ?_ _ | refine blk_drew ?_ | refine blk_alloc ?_ _)); refine blk_put (cs := #[.int .i32 0, .int .u32 0, .slice none 0 0]) ?_ 1 _ rfl; (with_reducible repeat (first | refine blk_drewN ?_ _ | refine blk_drew ?_ | refine blk_alloc ?_ _)); refine blk_put (cs := #[.int .i32 0, .int .u32 0, .slice none 0 0]) ?_ 0 _ rfl; (with_reducible repeat (first | refine blk_drewN ?_ _ | refine blk_drew ?_ | refine blk_alloc ?_ _)); exact BK118.out) Try.underlying117 rfl (by kernel_rfl)) rfl ?_
  exact ⟨_, by first | rfl | (simp [errW_none, errW_some] <;> rfl) | (simp [*, errW_none, errW_some] <;> rfl), by first | exact Kd.R_nil _ _ _ _ _ | exact Kd.N_nil _ _ _ _ _ | exact Kd.V_nil _ _ _ _ _ | exact Kd.Q_nil _ _ _ _ _ | exact Kd.S_nil _ _ _ _ _, by repeat (first | (with_reducible first | exact HB.out | apply below_alloc | apply pw_below_drewN | apply below_drew1 | refine below_set ?_ GE118.out) | exact HB.out)⟩

/-! ### page_codes: function 71 -/
def page_codes.l0 : Nat → List (S117) → Int → Int → List (S117) → Int → Int → Option (Bool)
 | 0, _, _, _, _, _, _ => none
 | k + 1, x0, x1, x2, x9, x10, x11 => if x11 < x10 then (if 0 ≤ x11 then (if x11 < (x9.length : Int) then (if (((rd_T117 x9 x11).f2).length : Int) = x2 then (page_codes.l0 k x0 x1 x2 x9 x10 (wrap64 (x11 + 1))) else (some false)) else (none)) else (none)) else (some ((x0.length : Int) == x1))
def page_codes.f (k : Nat) (l0 : List (S117)) (a1 : Int) (a2 : Int) : Option (Bool) := page_codes.l0 k l0 a1 a2 l0 (l0.length : Int) 0
theorem page_codes.mono_l : ∀ k, (∀ y0 y1 y2 y3 y4 y5, LeO (page_codes.l0 k y0 y1 y2 y3 y4 y5) (page_codes.l0 (k + 1) y0 y1 y2 y3 y4 y5))
 | 0 => fun _ _ _ _ _ _ r h => by simp [page_codes.l0] at h
 | k + 1 => by
  have ih0 := page_codes.mono_l k
  ·
   intro y0 y1 y2 y3 y4 y5
   unfold page_codes.l0
   repeat' first
   | (with_reducible exact ih0 _ _ _ _ _ _)
   | (with_reducible exact LeO.refl _)
   | (with_reducible exact LeO.none _)
   | (with_reducible refine LeO.ite ?_ ?_)
   | (with_reducible refine LeO.bind ?_ (fun _ => ?_))
   | exact ih0 _ _ _ _ _ _
   | exact LeO.none _
   | refine LeO.ite ?_ ?_
   | refine LeO.bind ?_ (fun _ => ?_)
theorem page_codes.mono : ∀ a0 a1 a2 k, LeO (page_codes.f k a0 a1 a2) (page_codes.f (k + 1) a0 a1 a2) := by
 intro a0 a1 a2 k
 have ih0 := page_codes.mono_l k
 unfold page_codes.f
 repeat' first
   | (with_reducible exact ih0 _ _ _ _ _ _)
   | (with_reducible exact LeO.refl _)
   | (with_reducible exact LeO.none _)
   | (with_reducible refine LeO.ite ?_ ?_)
   | (with_reducible refine LeO.bind ?_ (fun _ => ?_))
   | exact ih0 _ _ _ _ _ _
   | exact LeO.none _
   | refine LeO.ite ?_ ?_
   | refine LeO.bind ?_ (fun _ => ?_)
set_option maxHeartbeats 8000000 in
set_option maxRecDepth 100000 in
theorem page_codes.calls (k : Nat) (A0 : Option Addr) (c0 : Nat) (l0 : List (S117)) (a1 : Int) (a2 : Int) (r : Bool) (w : World) (hr0 : Kd.C k117 w A0 l0.length l0) (hc0 : l0.length ≤ c0) (h : page_codes.f k l0 a1 a2 = some r) :
  Calls Try.prog 71 #[.slice A0 l0.length c0, .int .i64 a1, .int .i64 a2] w fun e w' => e = .returned (.bool r) ∧ Below w.heap.size w w' := by
 have hu117 := Try.underlying117
 have HR0 := Aside0.mk hr0
 have HC0 := Aside0.mk hc0
 clear hr0 hc0
 have HB := Aside0.mk (Below.refl w.heap.size w)
 have H : (page_codes.l0 k l0 a1 a2 l0 (l0.length : Int) 0) = some r := h
 clear h
 have H' := Aside0.mk H
 clear H
 go_enter Try.func71, Try.ntmps71
 go_wp2
 go_loopg [11] k (fun kq v11 w' => ∃ (x11_1 : Int), v11 = .int .i64 x11_1 ∧ Aside0 (page_codes.l0 kq l0 a1 a2 l0 (l0.length : Int) x11_1 = some r) ∧ Aside0 (kq ≤ k) ∧ Aside0 (Below w.heap.size w w'))
 case atStart => exact ⟨(0), (by first | rfl | (simp; done) | (simp [*]; done)), H', ⟨Nat.le_refl _⟩, ⟨by with_reducible exact HB.out⟩⟩
 case round =>
  clear H'
  try clear p2
  obtain ⟨x11_1, rfl, HA, HK1, HB⟩ := hrel
  cases gk with
  | zero => exact absurd HA.out (by simp [page_codes.l0])
  | succ k1 =>
   have H := HA.out
   clear HA
   simp only [page_codes.l0] at H
   by_cases c4 : x11_1 < (l0.length : Int)
   ·
    rw [if_pos c4] at H
    have c4b0 : decide (x11_1 < (l0.length : Int)) = true := decide_eq_true c4
    clear c4
    by_cases c5 : 0 ≤ x11_1
    case neg => (rw [if_neg c5] at H; exact absurd H (by simp))
    rw [if_pos c5] at H
    have c5b0 : decide (0 ≤ x11_1) = true := decide_eq_true c5
    clear c5
    by_cases c6 : x11_1 < (l0.length : Int)
    case neg => (rw [if_neg c6] at H; exact absurd H (by simp))
    rw [if_pos c6] at H
    have c6b0 : decide (x11_1 < (l0.length : Int)) = true := decide_eq_true c6
    clear c6
    by_cases c7 : (((rd_T117 l0 x11_1).f2).length : Int) = a2
    ·
     rw [if_pos c7] at H
     have c7b0 : ((((rd_T117 l0 x11_1).f2).length : Int) == a2) = true := beq_iff_eq.mpr c7
     have c7b1 : ((((rd_T117 l0 x11_1).f2).length : Int) != a2) = false := bne_eq_false_iff_eq.mpr c7
     clear c7
     have H' := Aside0.mk H
     clear H
     have p129 : 0 ≤ (x11_1 : Int) := of_decide_eq_true (by first | (with_reducible assumption) | assumption)
     have q129 : x11_1 < (l0.length : Int) := of_decide_eq_true (by first | (with_reducible assumption) | assumption)
     obtain ⟨ad129, A129_2, c129_2, e129, hx129_0, hx129_1, hx129_2, hl129_2, hi129_2⟩ := at_T117 HR0.out x11_1 p129 q129
     cases e129
     replace hx129_0 := (HB.out.cell (World.block_lt_of_cell? w _ hx129_0)).trans hx129_0
     replace hx129_1 := (HB.out.cell (World.block_lt_of_cell? w _ hx129_1)).trans hx129_1
     replace hx129_2 := (HB.out.cell (World.block_lt_of_cell? w _ hx129_2)).trans hx129_2
     have HR129_2 := Aside0.mk hi129_2
     have HC129_2 := Aside0.mk hl129_2
     clear hi129_2 hl129_2
     replace p129 := eq_true p129
     replace q129 := eq_true q129
     go_wp2_with (first | ((with_reducible refine gate_dst (N := 8) rfl ?_); refine box_event ?hg (N := 8) ?hd (cs := #[.int .i32 0, .int .u32 0, .slice none 0 0]) (t := 117) ?hr ?_; (case hd => rfl); (case hg => rfl); (case hr => first | (go_simp; done) | (go_simp; rfl)); intro gb130 hg w8 hbox hb; have n0_ := Aside0.mk (below_step (by with_reducible exact HB.out) hb); have n1_ := Aside0.mk (hbox); have n2_ := Aside0.mk ((by rw [hg]; exact (below_size (by with_reducible exact HB.out)) : w.heap.size ≤ gb130)); have n3_ := Aside0.mk ((by rw [hg]; exact (below_size (by with_reducible exact HB.out)) : w.heap.size ≤ gb130)); clear HB; have HB := n0_; have BK130 := n1_; have GW130 := n2_; have GE130 := n3_; clear n0_ n1_ n2_ n3_; clear hb hbox hg; have hcz9_0 : w8.cell? ⟨gb130, 0, none⟩ = some (.int .i32 0) := (blk_cell BK130.out 0).trans rfl; have hcz9_1 : w8.cell? ⟨gb130, 1, none⟩ = some (.int .u32 0) := (blk_cell BK130.out 1).trans rfl; have hcz9_2 : w8.cell? ⟨gb130, 2, none⟩ = some (.slice none 0 0) := (blk_cell BK130.out 2).trans rfl; have hfz9_0 := blk_frozen BK130.out 0; have hfz9_1 := blk_frozen BK130.out 1; have hfz9_2 := blk_frozen BK130.out 2))
     go_roundg k1
     case measure => have := HK1.out; omega
     case rel => exact ⟨(wrap64 (x11_1 + 1)), (by first | rfl | (simp; done) | (simp [*]; done)), H', ⟨by have := HK1.out; omega⟩, ⟨by repeat (first | (with_reducible first | exact HB.out | apply below_alloc | apply pw_below_drewN | apply below_drew1 | refine below_set ?_ GE130.out) | exact HB.out)⟩⟩
    ·
     rw [if_neg c7] at H
     have c7b0 : ((((rd_T117 l0 x11_1).f2).length : Int) == a2) = false := beq_eq_false_iff_ne.mpr c7
     have c7b1 : ((((rd_T117 l0 x11_1).f2).length : Int) != a2) = true := bne_iff_ne.mpr c7
     obtain rfl := Option.some.inj H
     have p129 : 0 ≤ (x11_1 : Int) := of_decide_eq_true (by first | (with_reducible assumption) | assumption)
     have q129 : x11_1 < (l0.length : Int) := of_decide_eq_true (by first | (with_reducible assumption) | assumption)
     obtain ⟨ad129, A129_2, c129_2, e129, hx129_0, hx129_1, hx129_2, hl129_2, hi129_2⟩ := at_T117 HR0.out x11_1 p129 q129
     cases e129
     replace hx129_0 := (HB.out.cell (World.block_lt_of_cell? w _ hx129_0)).trans hx129_0
     replace hx129_1 := (HB.out.cell (World.block_lt_of_cell? w _ hx129_1)).trans hx129_1
     replace hx129_2 := (HB.out.cell (World.block_lt_of_cell? w _ hx129_2)).trans hx129_2
     have HR129_2 := Aside0.mk hi129_2
     have HC129_2 := Aside0.mk hl129_2
     clear hi129_2 hl129_2
     replace p129 := eq_true p129
     replace q129 := eq_true q129
     go_wp2_with (first | ((with_reducible refine gate_dst (N := 8) rfl ?_); refine box_event ?hg (N := 8) ?hd (cs := #[.int .i32 0, .int .u32 0, .slice none 0 0]) (t := 117) ?hr ?_; (case hd => rfl); (case hg => rfl); (case hr => first | (go_simp; done) | (go_simp; rfl)); intro gb130 hg w10 hbox hb; have n0_ := Aside0.mk (below_step (by with_reducible exact HB.out) hb); have n1_ := Aside0.mk (hbox); have n2_ := Aside0.mk ((by rw [hg]; exact (below_size (by with_reducible exact HB.out)) : w.heap.size ≤ gb130)); have n3_ := Aside0.mk ((by rw [hg]; exact (below_size (by with_reducible exact HB.out)) : w.heap.size ≤ gb130)); clear HB; have HB := n0_; have BK130 := n1_; have GW130 := n2_; have GE130 := n3_; clear n0_ n1_ n2_ n3_; clear hb hbox hg; have hcz11_0 : w10.cell? ⟨gb130, 0, none⟩ = some (.int .i32 0) := (blk_cell BK130.out 0).trans rfl; have hcz11_1 : w10.cell? ⟨gb130, 1, none⟩ = some (.int .u32 0) := (blk_cell BK130.out 1).trans rfl; have hcz11_2 : w10.cell? ⟨gb130, 2, none⟩ = some (.slice none 0 0) := (blk_cell BK130.out 2).trans rfl; have hfz11_0 := blk_frozen BK130.out 0; have hfz11_1 := blk_frozen BK130.out 1; have hfz11_2 := blk_frozen BK130.out 2))
     go_ret
     exact ⟨by first | rfl | (simp [errW_none, errW_some] <;> rfl) | (simp [*, errW_none, errW_some] <;> rfl), by repeat (first | (with_reducible first | exact HB.out | apply below_alloc | apply pw_below_drewN | apply below_drew1 | refine below_set ?_ GE130.out) | exact HB.out)⟩
   ·
    rw [if_neg c4] at H
    have c4b0 : decide (x11_1 < (l0.length : Int)) = false := decide_eq_false c4
    clear c4
    obtain rfl := Option.some.inj H
    go_wp2
    go_ret
    exact ⟨by first | rfl | (simp [errW_none, errW_some] <;> rfl) | (simp [*, errW_none, errW_some] <;> rfl), by with_reducible exact HB.out⟩

-- NOT PRINTED: function 81 (slices_IndexFunc_int_int)

-- NOT PRINTED: function 75 (slices_ContainsFunc_int_int)

/-! ### group_Right_1_any: function 75 at 76 -/
def group_Right_1.p (x : Int) : Bool := x != 0
set_option maxHeartbeats 8000000 in
set_option maxRecDepth 100000 in
theorem group_Right_1.calls (x : Int) (w : World) :
  Calls Try.prog 76 #[.int .i64 x] w fun e w' => e = .returned (.bool (group_Right_1.p x)) ∧ Drawn0 w w' := by
 obtain ⟨q, hq⟩ : ∃ q : Bool, group_Right_1.p x = q := ⟨_, rfl⟩
 have HQ := Aside0.mk hq
 rw [hq]
 clear hq
 go_enter Try.func76, Try.ntmps76
 go_wp2
 go_ret
 exact ⟨by rw [← HQ.out]; first | rfl | simp [group_Right_1.p], Drawn0.refl _⟩


def group_Right_1_any.f (l0 : List Int) : Option Bool := some (l0.any group_Right_1.p)
set_option maxHeartbeats 8000000 in
set_option maxRecDepth 100000 in
theorem group_Right_1_ix.calls (A0 : Option Addr) (c0 : Nat) (l0 : List Int) (w : World) (hr0 : Kd.C (Kd.int .i64) w A0 l0.length l0) :
  Calls Try.prog 81 #[.slice A0 l0.length c0, .func (.func 76) #[] #[]] w fun e w' => ∃ r : Int, e = .returned (.int .i64 r) ∧ Aside0 (decide (0 ≤ r) = l0.any group_Right_1.p) ∧ Drawn0 w w' := by
 have HR0 := Aside0.mk hr0
 clear hr0
 go_enter Try.func81, Try.ntmps81
 go_wp2
 go_loopw [8, 5] (fun i _ w' => ∃ n : Nat, n ≤ l0.length ∧ i = .int .i64 n ∧ Aside0 ((l0.take n).any group_Right_1.p = false) ∧ Drawn0 w w') (fun i _ _ => l0.length - (intOf i).toNat)
 case atStart => exact ⟨0, Nat.zero_le _, rfl, ⟨by simp⟩, Drawn0.refl _⟩
 case round =>
  obtain ⟨n, hn, rfl, HA, ⟨m, rfl⟩⟩ := hrel
  have hl63 := HR0.out.2.1
  by_cases c : n < l0.length
  ·
   have c1 : decide ((n : Int) < (l0.length : Int)) = true := decide_eq_true (by omega)
   have c2 : decide (n < l0.length) = true := decide_eq_true c
   have hp0 : (0 : Int) ≤ (n : Int) := by omega
   have hq0 : (n : Int) < (l0.length : Int) := by omega
   obtain ⟨ad, e1, hx⟩ := Kd.at_int HR0.out (n : Int) hp0 hq0
   cases e1
   have hx2 : w.cell? (ad.add n) = some (.int .i64 (rd l0 (n : Int))) := by simpa using hx
   have hx3 : (w.drewN m).cell? (ad.add n) = some (.int .i64 (rd l0 (n : Int))) := hx2
   obtain ⟨y, hy⟩ : ∃ y : Int, rd l0 (n : Int) = y := ⟨_, rfl⟩
   rw [hy] at hx hx2 hx3
   obtain ⟨q, hq⟩ : ∃ q : Bool, group_Right_1.p y = q := ⟨_, rfl⟩
   have CC := Aside0.mk (fun (W : World) => by
    have h1 := group_Right_1.calls y W
    rw [hq] at h1
    exact h1)
   have HT : Aside0 ((l0.take (n + 1)).any group_Right_1.p = q) := ⟨by
    rw [List.take_succ_eq_append_getElem c, List.any_append, HA.out]
    have : l0[n] = y := by rw [← hy]; simp [rd, List.getElem?_eq_getElem c]
    simp [this, hq]⟩
   have HMEM : Aside0 (group_Right_1.p y = true → l0.any group_Right_1.p = true) := ⟨fun h => by
    rw [List.any_eq_true]
    refine ⟨y, ?_, h⟩
    have : l0[n] = y := by rw [← hy]; simp [rd, List.getElem?_eq_getElem c]
    rw [← this]
    exact List.getElem_mem c⟩
   have HQ := Aside0.mk hq
   clear hq hy HA
   cases q with
   | true =>
    go_wp2_with (first | (go_at_call 76; (with_reducible refine (CC.out _).mono ?_); rintro e w' ⟨rfl, ⟨nd, rfl⟩⟩))
    go_ret
    exact ⟨_, rfl, ⟨by rw [HMEM.out HQ.out]; simp⟩, by repeat (first | exact Drawn0.refl _ | apply Drawn0.step)⟩
   | false =>
    go_wp2_with (first | (go_at_call 76; (with_reducible refine (CC.out _).mono ?_); rintro e w' ⟨rfl, ⟨nd, rfl⟩⟩))
    go_roundw
    case rel => exact ⟨n + 1, by omega, by go_num, HT, by repeat (first | exact Drawn0.refl _ | apply Drawn0.step)⟩
    case measure => simp [intOf]; omega
  ·
   have c1 : decide ((n : Int) < (l0.length : Int)) = false := decide_eq_false (by omega)
   have c2 : decide (n < l0.length) = false := decide_eq_false c
   have hnl : n = l0.length := by omega
   subst hnl
   go_wp2
   go_ret
   exact ⟨_, rfl, ⟨by have h1 := HA.out; rw [List.take_length] at h1; rw [h1]; rfl⟩, by repeat (first | exact Drawn0.refl _ | apply Drawn0.step)⟩
set_option maxHeartbeats 8000000 in
set_option maxRecDepth 100000 in
theorem group_Right_1_any.calls (A0 : Option Addr) (c0 : Nat) (l0 : List Int) (r : Bool) (w : World) (hr0 : Kd.C (Kd.int .i64) w A0 l0.length l0) (hc0 : l0.length ≤ c0) (h : group_Right_1_any.f l0 = some r) :
  Calls Try.prog 75 #[.slice A0 l0.length c0, .func (.func 76) #[] #[]] w fun e w' => e = .returned (.bool r) ∧ Drawn0 w w' := by
 have h2 : some (l0.any group_Right_1.p) = some r := h
 clear h
 have HS := Aside0.mk (Option.some.inj h2)
 have HR0 := Aside0.mk hr0
 clear hr0 h2 hc0
 go_enter Try.func75, Try.ntmps75
 go_wp2_with (first | (go_at_call 81; (with_reducible refine (group_Right_1_ix.calls A0 c0 l0 _ HR0.out).mono ?_); rintro e w' ⟨r1, rfl, HE, ⟨nd, rfl⟩⟩))
 go_ret
 exact ⟨by rw [← HS.out, ← HE.out]; rfl, by repeat (first | exact Drawn0.refl _ | apply Drawn0.step)⟩

/-! ### group_Right_2_any: function 75 at 77 -/
def group_Right_2.ok (b : Int) : Bool := decide (0 ≤ b) && decide (b ≤ 62)
def group_Right_2.p (b x : Int) : Bool := decide (x < 0) || decide (2 ^ b.toNat ≤ x)
set_option maxHeartbeats 8000000 in
set_option maxRecDepth 100000 in
theorem group_Right_2.calls (g : Nat) (b x : Int) (w : World) (hg : w.heap[g]? = some (.cells #[.int .i64 b] 3 (0, 0))) (hk : group_Right_2.ok b = true) :
  Calls Try.prog 77 #[.int .i64 x, .pointer (some ⟨g, 0, none⟩)] w fun e w' => e = .returned (.bool (group_Right_2.p b x)) ∧ Drawn0 w w' := by
 have hk2 : 0 ≤ b ∧ b ≤ 62 := by simpa [group_Right_2.ok] using hk
 have h0 : 0 ≤ b := hk2.1
 have h62 : b ≤ 62 := hk2.2
 have hpow : (2 : Int) ^ b.toNat ≤ 2 ^ 62 := by
  have h1 : (2 : Nat) ^ b.toNat ≤ 2 ^ 62 := Nat.pow_le_pow_right (by decide) (by omega)
  exact_mod_cast h1
 have hpos : (0 : Int) < 2 ^ b.toNat := Int.pow_pos (by decide)
 have hwr : wrap64 (2 ^ b.toNat) = 2 ^ b.toNat := by
  have : (2 : Int) ^ 62 = 4611686018427387904 := by decide
  unfold wrap64
  omega
 have hcell : w.cell? ⟨g, 0, none⟩ = some (.int .i64 b) := (blk_cell hg 0).trans rfl
 obtain ⟨q, hq⟩ : ∃ q : Bool, group_Right_2.p b x = q := ⟨_, rfl⟩
 have HQ := Aside0.mk hq
 rw [hq]
 have HW := Aside0.mk hwr
 clear hq hk hk2 hpow hpos hwr hg
 by_cases hx : x < 0
 ·
  have hx1 : decide (x < 0) = true := decide_eq_true hx
  go_enter Try.func77, Try.ntmps77
  go_wp2
  all_goals (first | (go_ret; exact ⟨by rw [← HQ.out]; simp [group_Right_2.p, hx], Drawn0.refl _⟩) | (exfalso; omega))
 ·
  have hx1 : decide (x < 0) = false := decide_eq_false hx
  go_enter Try.func77, Try.ntmps77
  go_wp2
  all_goals (first | (go_ret; exact ⟨by rw [← HQ.out]; simp only [group_Right_2.p, hx1, HW.out, Bool.false_or]; rfl, Drawn0.refl _⟩) | (exfalso; omega))

def group_Right_2_any.f (l0 : List Int) (b : Int) : Option Bool := if group_Right_2.ok b = true then some (l0.any (group_Right_2.p b)) else none
set_option maxHeartbeats 8000000 in
set_option maxRecDepth 100000 in
theorem group_Right_2_ix.calls (A0 : Option Addr) (c0 : Nat) (l0 : List Int) (g : Nat) (b : Int) (w : World) (hr0 : Kd.C (Kd.int .i64) w A0 l0.length l0) (hg : w.heap[g]? = some (.cells #[.int .i64 b] 3 (0, 0))) (hk : group_Right_2.ok b = true) :
  Calls Try.prog 81 #[.slice A0 l0.length c0, .func (.func 77) #[] #[.pointer (some ⟨g, 0, none⟩)]] w fun e w' => ∃ r : Int, e = .returned (.int .i64 r) ∧ Aside0 (decide (0 ≤ r) = l0.any (group_Right_2.p b)) ∧ Drawn0 w w' := by
 have HR0 := Aside0.mk hr0
 have HG := Aside0.mk hg
 have HK := Aside0.mk hk
 clear hr0 hg hk
 go_enter Try.func81, Try.ntmps81
 go_wp2
 go_loopw [8, 5] (fun i _ w' => ∃ n : Nat, n ≤ l0.length ∧ i = .int .i64 n ∧ Aside0 ((l0.take n).any (group_Right_2.p b) = false) ∧ Drawn0 w w') (fun i _ _ => l0.length - (intOf i).toNat)
 case atStart => exact ⟨0, Nat.zero_le _, rfl, ⟨by simp⟩, Drawn0.refl _⟩
 case round =>
  obtain ⟨n, hn, rfl, HA, ⟨m, rfl⟩⟩ := hrel
  have hl63 := HR0.out.2.1
  by_cases c : n < l0.length
  ·
   have c1 : decide ((n : Int) < (l0.length : Int)) = true := decide_eq_true (by omega)
   have c2 : decide (n < l0.length) = true := decide_eq_true c
   have hp0 : (0 : Int) ≤ (n : Int) := by omega
   have hq0 : (n : Int) < (l0.length : Int) := by omega
   obtain ⟨ad, e1, hx⟩ := Kd.at_int HR0.out (n : Int) hp0 hq0
   cases e1
   have hx2 : w.cell? (ad.add n) = some (.int .i64 (rd l0 (n : Int))) := by simpa using hx
   have hx3 : (w.drewN m).cell? (ad.add n) = some (.int .i64 (rd l0 (n : Int))) := hx2
   obtain ⟨y, hy⟩ : ∃ y : Int, rd l0 (n : Int) = y := ⟨_, rfl⟩
   rw [hy] at hx hx2 hx3
   obtain ⟨q, hq⟩ : ∃ q : Bool, group_Right_2.p b y = q := ⟨_, rfl⟩
   have CC := Aside0.mk (fun (W : World) (hW : W.heap[g]? = some (.cells #[.int .i64 b] 3 (0, 0))) => by
    have h1 := group_Right_2.calls g b y W hW HK.out
    rw [hq] at h1
    exact h1)
   have HT : Aside0 ((l0.take (n + 1)).any (group_Right_2.p b) = q) := ⟨by
    rw [List.take_succ_eq_append_getElem c, List.any_append, HA.out]
    have : l0[n] = y := by rw [← hy]; simp [rd, List.getElem?_eq_getElem c]
    simp [this, hq]⟩
   have HMEM : Aside0 (group_Right_2.p b y = true → l0.any (group_Right_2.p b) = true) := ⟨fun h => by
    rw [List.any_eq_true]
    refine ⟨y, ?_, h⟩
    have : l0[n] = y := by rw [← hy]; simp [rd, List.getElem?_eq_getElem c]
    rw [← this]
    exact List.getElem_mem c⟩
   have HQ := Aside0.mk hq
   have HG2 := Aside0.mk (show (w.drewN m).heap[g]? = some (.cells #[.int .i64 b] 3 (0, 0)) from HG.out)
   clear hq hy HA
   cases q with
   | true =>
    go_wp2_with (first | (go_at_call 77; (with_reducible refine (CC.out _ HG2.out).mono ?_); rintro e w' ⟨rfl, ⟨nd, rfl⟩⟩))
    go_ret
    exact ⟨_, rfl, ⟨by rw [HMEM.out HQ.out]; simp⟩, by repeat (first | exact Drawn0.refl _ | apply Drawn0.step)⟩
   | false =>
    go_wp2_with (first | (go_at_call 77; (with_reducible refine (CC.out _ HG2.out).mono ?_); rintro e w' ⟨rfl, ⟨nd, rfl⟩⟩))
    go_roundw
    case rel => exact ⟨n + 1, by omega, by go_num, HT, by repeat (first | exact Drawn0.refl _ | apply Drawn0.step)⟩
    case measure => simp [intOf]; omega
  ·
   have c1 : decide ((n : Int) < (l0.length : Int)) = false := decide_eq_false (by omega)
   have c2 : decide (n < l0.length) = false := decide_eq_false c
   have hnl : n = l0.length := by omega
   subst hnl
   go_wp2
   go_ret
   exact ⟨_, rfl, ⟨by have h1 := HA.out; rw [List.take_length] at h1; rw [h1]; rfl⟩, by repeat (first | exact Drawn0.refl _ | apply Drawn0.step)⟩
set_option maxHeartbeats 8000000 in
set_option maxRecDepth 100000 in
theorem group_Right_2_any.calls (A0 : Option Addr) (c0 : Nat) (l0 : List Int) (g : Nat) (b : Int) (r : Bool) (w : World) (hr0 : Kd.C (Kd.int .i64) w A0 l0.length l0) (hc0 : l0.length ≤ c0) (hg : w.heap[g]? = some (.cells #[.int .i64 b] 3 (0, 0))) (h : group_Right_2_any.f l0 b = some r) :
  Calls Try.prog 75 #[.slice A0 l0.length c0, .func (.func 77) #[] #[.pointer (some ⟨g, 0, none⟩)]] w fun e w' => e = .returned (.bool r) ∧ Drawn0 w w' := by
 have h2 : (if group_Right_2.ok b = true then some (l0.any (group_Right_2.p b)) else none) = some r := h
 clear h
 by_cases hk : group_Right_2.ok b = true
 ·
  rw [if_pos hk] at h2
  have HS := Aside0.mk (Option.some.inj h2)
  have HR0 := Aside0.mk hr0
  have HG := Aside0.mk hg
  have HK := Aside0.mk hk
  clear hr0 hg hk h2 hc0
  go_enter Try.func75, Try.ntmps75
  go_wp2_with (first | (go_at_call 81; (with_reducible refine (group_Right_2_ix.calls A0 c0 l0 g b _ HR0.out HG.out HK.out).mono ?_); rintro e w' ⟨r1, rfl, HE, ⟨nd, rfl⟩⟩))
  go_ret
  exact ⟨by rw [← HS.out, ← HE.out]; rfl, by repeat (first | exact Drawn0.refl _ | apply Drawn0.step)⟩
 ·
  rw [if_neg hk] at h2
  cases h2

end Go.Proofs.Ytoofkemhikigoaa.PBlockPlays
