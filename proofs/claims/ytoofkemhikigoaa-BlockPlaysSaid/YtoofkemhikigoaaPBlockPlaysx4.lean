-- Written by a program of this session (wip/tools/mkprint.py over the kit's print).
import Derived.Test.YtoofkemhikigoaaPBlockPlaysx0
import Derived.Test.YtoofkemhikigoaaPBlockPlaysx1
import Derived.Test.YtoofkemhikigoaaPBlockPlaysx2
import Derived.Test.YtoofkemhikigoaaPBlockPlaysx3
namespace Go.Proofs.Ytoofkemhikigoaa.PBlockPlays
open Go.RowKit Go.Proofs.YtoofkemhikigoaaW.PrintWords Go.Proofs.YtoofkemhikigoaaW.PrintLast Go.Proofs.YtoofkemhikigoaaW.PrintMore
attribute [local go_sem] max2_int min2_int max_two min_two max_three min_three max_four min_four   -- for this text's walks alone
set_option linter.unusedVariables false
set_option linter.unusedSimpArgs false

/-! ### pack_Pack: function 74 -/
def pack_Pack.l0 : Nat → List Int → List Int → Int → Int → Int → Option (List Int × Int)
 | 0, _, _, _, _, _ => none
 | k + 1, x6, x28, x29, x30, x139000 => if x30 < x29 then (if 0 ≤ x30 then (if x30 < (x28.length : Int) then (if 0 ≤ (wrap64 (Int.tdiv (wrap64 (x30 * x139000)) 64)) then (if (wrap64 (Int.tdiv (wrap64 (x30 * x139000)) 64)) < (x6.length : Int) then (if 0 ≤ (Int.tmod (wrap64 (x30 * x139000)) 64) then (pack_Pack.l0 k (x6.set ((wrap64 (Int.tdiv (wrap64 (x30 * x139000)) 64)) : Int).toNat (Go.bits .or .u64 (rd x6 (wrap64 (Int.tdiv (wrap64 (x30 * x139000)) 64))) (shl .u64 (IntKind.u64.wrap (rd x28 x30)) (Int.tmod (wrap64 (x30 * x139000)) 64)))) x28 x29 (wrap64 (x30 + 1)) x139000) else (none)) else (none)) else (none)) else (none)) else (none)) else (some (x6, 0))
def pack_Pack.f (k : Nat) (l0 : List Int) (a1 : Int) : Option (List Int × Int) := (pack_Bits.f a1).bind fun t139 => (if t139 = true then ((pack_many.f (l0.length : Int)).bind fun t140 => (if t140 = true then ((pack_Pack_1_any.f l0 a1).bind fun t141 => (if t141 = true then (some (([] : List Int), 11)) else ((pack_Words.f (l0.length : Int) a1).bind fun t142 => (if 0 ≤ t142 then (if (t142 : Int).toNat ≤ 35184372088832 then (pack_Pack.l0 k (List.replicate (t142 : Int).toNat 0) l0 (l0.length : Int) 0 a1) else (none)) else (none))))) else (some (([] : List Int), 12)))) else (some (([] : List Int), 20)))
theorem pack_Pack.mono_l : ∀ k, (∀ y0 y1 y2 y3 y4, LeO (pack_Pack.l0 k y0 y1 y2 y3 y4) (pack_Pack.l0 (k + 1) y0 y1 y2 y3 y4))
 | 0 => fun _ _ _ _ _ r h => by simp [pack_Pack.l0] at h
 | k + 1 => by
  have ih0 := pack_Pack.mono_l k
  ·
   intro y0 y1 y2 y3 y4
   unfold pack_Pack.l0
   repeat' first
   | (with_reducible exact ih0 _ _ _ _ _)
   | (with_reducible exact LeO.refl _)
   | (with_reducible exact LeO.none _)
   | (with_reducible refine LeO.ite ?_ ?_)
   | (with_reducible refine LeO.bind ?_ (fun _ => ?_))
   | exact ih0 _ _ _ _ _
   | exact LeO.none _
   | refine LeO.ite ?_ ?_
   | refine LeO.bind ?_ (fun _ => ?_)
theorem pack_Pack.mono : ∀ a0 a1 k, LeO (pack_Pack.f k a0 a1) (pack_Pack.f (k + 1) a0 a1) := by
 intro a0 a1 k
 have ih0 := pack_Pack.mono_l k
 unfold pack_Pack.f
 repeat' first
   | (with_reducible exact ih0 _ _ _ _ _)
   | (with_reducible exact LeO.refl _)
   | (with_reducible exact LeO.none _)
   | (with_reducible refine LeO.ite ?_ ?_)
   | (with_reducible refine LeO.bind ?_ (fun _ => ?_))
   | exact ih0 _ _ _ _ _
   | exact LeO.none _
   | refine LeO.ite ?_ ?_
   | refine LeO.bind ?_ (fun _ => ?_)
def pack_Pack.T12 : Bool × List (List Nat × List Nat) := (true, [([], []), ([], []), ([1], [1]), ([0, 2], [0, 2]), ([3], [3]), ([], []), ([5], [5]), ([], []), ([7], [7]), ([6, 8], [6, 8]), ([4, 9], [4, 9]), ([0, 2, 0, 1, 2, 3, 4, 5, 6, 7, 8, 9, 10], [0, 2]), ([11, 10, 0, 1, 2, 3, 4, 5, 6, 7, 8, 9, 10], [10, 11])])
def pack_Pack.B12 : List Nat := [0, 0, 2, 7, 15, 0, 32, 0, 128, 480, 1023, 2047, 4095]
theorem pack_Pack.tab12 : rtab .any (opsOf Try.f74 12) = pack_Pack.T12 := by kernel_rfl
theorem pack_Pack.bits12 : waitsOk pack_Pack.T12.2 pack_Pack.B12 = true := by kernel_rfl
set_option maxHeartbeats 8000000 in
set_option maxRecDepth 100000 in
theorem pack_Pack.calls (k : Nat) (A0 : Option Addr) (c0 : Nat) (l0 : List Int) (a1 : Int) (r1 : List Int) (r2 : Int) (w : World) (hr0 : Kd.C (Kd.int .i64) w A0 l0.length l0) (hc0 : l0.length ≤ c0) (h : pack_Pack.f k l0 a1 = some (r1, r2)) :
  Calls Try.prog 74 #[.slice A0 l0.length c0, .int .i64 a1] w fun e w' => ∃ v0_ : Value, e = .returned (.tuple #[v0_, .int .i64 r2]) ∧ Kd.R (Kd.int .u64) 137 w' w.heap.size (fun _ => True) v0_ r1 ∧ Below w.heap.size w w' := by
 have HR0 := Aside0.mk hr0
 have HC0 := Aside0.mk hc0
 clear hr0 hc0
 have HB := Aside0.mk (Below.refl w.heap.size w)
 have H : ((pack_Bits.f a1).bind fun t139 => (if t139 = true then ((pack_many.f (l0.length : Int)).bind fun t140 => (if t140 = true then ((pack_Pack_1_any.f l0 a1).bind fun t141 => (if t141 = true then (some (([] : List Int), 11)) else ((pack_Words.f (l0.length : Int) a1).bind fun t142 => (if 0 ≤ t142 then (if (t142 : Int).toNat ≤ 35184372088832 then (pack_Pack.l0 k (List.replicate (t142 : Int).toNat 0) l0 (l0.length : Int) 0 a1) else (none)) else (none))))) else (some (([] : List Int), 12)))) else (some (([] : List Int), 20)))) = some (r1, r2) := h
 clear h
 replace H := Option.bind_eq_some_iff.mp H
 obtain ⟨t139, A30, H⟩ := H
 replace H : (if t139 = true then ((pack_many.f (l0.length : Int)).bind fun t140 => (if t140 = true then ((pack_Pack_1_any.f l0 a1).bind fun t141 => (if t141 = true then (some (([] : List Int), 11)) else ((pack_Words.f (l0.length : Int) a1).bind fun t142 => (if 0 ≤ t142 then (if (t142 : Int).toNat ≤ 35184372088832 then (pack_Pack.l0 k (List.replicate (t142 : Int).toNat 0) l0 (l0.length : Int) 0 a1) else (none)) else (none))))) else (some (([] : List Int), 12)))) else (some (([] : List Int), 20))) = some (r1, r2) := H
 have A3 := Aside0.mk A30
 clear A30
 by_cases c4 : t139 = true
 ·
  subst c4
  have H1 : ((pack_many.f (l0.length : Int)).bind fun t140 => (if t140 = true then ((pack_Pack_1_any.f l0 a1).bind fun t141 => (if t141 = true then (some (([] : List Int), 11)) else ((pack_Words.f (l0.length : Int) a1).bind fun t142 => (if 0 ≤ t142 then (if (t142 : Int).toNat ≤ 35184372088832 then (pack_Pack.l0 k (List.replicate (t142 : Int).toNat 0) l0 (l0.length : Int) 0 a1) else (none)) else (none))))) else (some (([] : List Int), 12)))) = some (r1, r2) := by rw [if_pos rfl] at H; exact H
  clear H
  have H := H1
  clear H1
  replace H := Option.bind_eq_some_iff.mp H
  obtain ⟨t140, A50, H⟩ := H
  replace H : (if t140 = true then ((pack_Pack_1_any.f l0 a1).bind fun t141 => (if t141 = true then (some (([] : List Int), 11)) else ((pack_Words.f (l0.length : Int) a1).bind fun t142 => (if 0 ≤ t142 then (if (t142 : Int).toNat ≤ 35184372088832 then (pack_Pack.l0 k (List.replicate (t142 : Int).toNat 0) l0 (l0.length : Int) 0 a1) else (none)) else (none))))) else (some (([] : List Int), 12))) = some (r1, r2) := H
  have A5 := Aside0.mk A50
  clear A50
  by_cases c6 : t140 = true
  ·
   subst c6
   have H1 : ((pack_Pack_1_any.f l0 a1).bind fun t141 => (if t141 = true then (some (([] : List Int), 11)) else ((pack_Words.f (l0.length : Int) a1).bind fun t142 => (if 0 ≤ t142 then (if (t142 : Int).toNat ≤ 35184372088832 then (pack_Pack.l0 k (List.replicate (t142 : Int).toNat 0) l0 (l0.length : Int) 0 a1) else (none)) else (none))))) = some (r1, r2) := by rw [if_pos rfl] at H; exact H
   clear H
   have H := H1
   clear H1
   replace H := Option.bind_eq_some_iff.mp H
   obtain ⟨t141, A70, H⟩ := H
   replace H : (if t141 = true then (some (([] : List Int), 11)) else ((pack_Words.f (l0.length : Int) a1).bind fun t142 => (if 0 ≤ t142 then (if (t142 : Int).toNat ≤ 35184372088832 then (pack_Pack.l0 k (List.replicate (t142 : Int).toNat 0) l0 (l0.length : Int) 0 a1) else (none)) else (none)))) = some (r1, r2) := H
   have A7 := Aside0.mk A70
   clear A70
   by_cases c8 : t141 = true
   ·
    subst c8
    have H1 : (some (([] : List Int), 11)) = some (r1, r2) := by rw [if_pos rfl] at H; exact H
    clear H
    have H := H1
    clear H1
    simp only [Option.some.injEq, Prod.mk.injEq] at H
    obtain ⟨rfl, rfl⟩ := H
    go_enter Try.func74, Try.ntmps74
    go_wp2_with (first | ((with_reducible refine gate_dst (N := 3) rfl ?_); refine box_event ?hg (N := 3) ?hd (cs := #[.int .i64 a1]) (t := 3) ?hr ?_; (case hd => rfl); (case hg => rfl); (case hr => first | (go_simp; done) | (go_simp; rfl)); intro gb138 hg w9 hbox hb; have n0_ := Aside0.mk (below_step (by with_reducible exact HB.out) hb); have n1_ := Aside0.mk (hbox); have n2_ := Aside0.mk ((by rw [hg]; exact (below_size (by with_reducible exact HB.out)) : w.heap.size ≤ gb138)); have n3_ := Aside0.mk ((by rw [hg]; exact (below_size (by with_reducible exact HB.out)) : w.heap.size ≤ gb138)); clear HB; have HB := n0_; have BK138 := n1_; have GW138 := n2_; have GE138 := n3_; clear n0_ n1_ n2_ n3_; clear hb hbox hg; have hcz10_0 : w9.cell? ⟨gb138, 0, none⟩ = some (.int .i64 a1) := (blk_cell BK138.out 0).trans rfl; have hfz10_0 := blk_frozen BK138.out 0) | ((with_reducible refine gate_callee (f := 65) rfl ?_); refine goesL_ (some 12) rfl rfl Try.func65 (by kernel_rfl) rfl #[.int .i64 a1] rfl (by (try simp only [List.map_toArray, List.map_cons, List.map_nil]); first | done | rfl | (simp only [List.length_drop, List.length_take]; rfl)) ?_; (with_reducible refine (pack_Bits.calls a1 true _ A3.out).mono ?_); rintro e w' ⟨rfl, ⟨nd, rfl⟩⟩; refine ⟨_, rfl, ?_⟩) | ((with_reducible refine gate_callee (f := 78) rfl ?_); refine goesL_ (some 17) rfl rfl Try.func78 (by kernel_rfl) rfl #[.int .i64 (l0.length : Int)] rfl (by (try simp only [List.map_toArray, List.map_cons, List.map_nil]); first | done | rfl | (simp only [List.length_drop, List.length_take]; rfl)) ?_; (with_reducible refine (pack_many.calls (l0.length : Int) true _ A5.out).mono ?_); rintro e w' ⟨rfl, ⟨nd, rfl⟩⟩; refine ⟨_, rfl, ?_⟩) | ((with_reducible refine gate_callee (f := 75) rfl ?_); refine goesL_ (some 22) rfl rfl Try.func75 (by kernel_rfl) rfl #[.slice A0 l0.length c0, .func (.func 79) #[] #[.pointer (some ⟨gb138, 0, none⟩)]] rfl (by (try simp only [List.map_toArray, List.map_cons, List.map_nil]); first | done | rfl | (simp only [List.length_drop, List.length_take]; rfl)) ?_; (with_reducible refine (pack_Pack_1_any.calls _ _ l0 gb138 a1 true _ ?side1 ?side2 ?side3 A7.out).mono ?_); (case side1 => repeat (first | exact (Kd.C_below HR0.out (by repeat (first | (with_reducible first | exact HB.out | apply below_alloc | apply pw_below_drewN | apply below_drew1 | refine below_set ?_ GE138.out) | exact HB.out))) | (with_reducible refine Kd.C_alloc ?_ _) | (with_reducible refine Kd.C_drewN ?_ _) | (with_reducible refine Kd.C_drew ?_))); (case side2 => exact HC0.out); (case side3 => exact by (with_reducible repeat (first | refine blk_drewN ?_ _ | refine blk_drew ?_ | refine blk_alloc ?_ _)); exact BK138.out); rintro e w' ⟨rfl, ⟨nd, rfl⟩⟩; refine ⟨_, rfl, ?_⟩))
    go_ret2
    exact ⟨_, by first | rfl | (simp [errW_none, errW_some] <;> rfl) | (simp [*, errW_none, errW_some] <;> rfl), by first | exact Kd.R_nil _ _ _ _ _ | exact Kd.N_nil _ _ _ _ _ | exact Kd.V_nil _ _ _ _ _ | exact Kd.Q_nil _ _ _ _ _ | exact Kd.S_nil _ _ _ _ _, by repeat (first | (with_reducible first | exact HB.out | apply below_alloc | apply pw_below_drewN | apply below_drew1 | refine below_set ?_ GE138.out) | exact HB.out)⟩
   ·
    replace c8 := Bool.eq_false_iff.mpr c8
    subst c8
    have H1 : ((pack_Words.f (l0.length : Int) a1).bind fun t142 => (if 0 ≤ t142 then (if (t142 : Int).toNat ≤ 35184372088832 then (pack_Pack.l0 k (List.replicate (t142 : Int).toNat 0) l0 (l0.length : Int) 0 a1) else (none)) else (none))) = some (r1, r2) := by rw [if_neg (show ¬ (false = true) by decide)] at H; exact H
    clear H
    have H := H1
    clear H1
    replace H := Option.bind_eq_some_iff.mp H
    obtain ⟨t142, A110, H⟩ := H
    replace H : (if 0 ≤ t142 then (if (t142 : Int).toNat ≤ 35184372088832 then (pack_Pack.l0 k (List.replicate (t142 : Int).toNat 0) l0 (l0.length : Int) 0 a1) else (none)) else (none)) = some (r1, r2) := H
    have A11 := Aside0.mk A110
    clear A110
    by_cases c12 : 0 ≤ t142
    case neg => (rw [if_neg c12] at H; exact absurd H (by simp))
    rw [if_pos c12] at H
    have c12b0 := eq_true c12
    have c12b1 : decide (0 ≤ t142) = true := decide_eq_true c12
    clear c12
    by_cases c13 : (t142 : Int).toNat ≤ 35184372088832
    case neg => (rw [if_neg c13] at H; exact absurd H (by simp))
    rw [if_pos c13] at H
    have c13b0 := eq_true c13
    have c13b1 : decide ((t142 : Int).toNat ≤ 35184372088832) = true := decide_eq_true c13
    clear c13
    obtain ⟨y143, hy143⟩ : ∃ y_ : List Int, y_ = (List.replicate (t142 : Int).toNat 0) := ⟨_, rfl⟩
    replace H : (pack_Pack.l0 k y143 l0 (l0.length : Int) 0 a1) = some (r1, r2) := by first | (rw [hy143]; with_reducible exact H) | (have H2_ := (Option.bind_some _ _).symm.trans H; rw [hy143]; with_reducible exact H2_) | (have H2_ := (Option.bind_some _ _).symm.trans H; with_reducible exact H2_) | with_reducible exact H | (rw [hy143]; exact H) | exact H
    have Ny143 := Aside0.mk hy143
    clear hy143
    have H' := Aside0.mk H
    clear H
    go_enter Try.func74, Try.ntmps74
    go_wp2_with (first | ((with_reducible refine gate_dst (N := 3) rfl ?_); refine box_event ?hg (N := 3) ?hd (cs := #[.int .i64 a1]) (t := 3) ?hr ?_; (case hd => rfl); (case hg => rfl); (case hr => first | (go_simp; done) | (go_simp; rfl)); intro gb138 hg w14 hbox hb; have n0_ := Aside0.mk (below_step (by with_reducible exact HB.out) hb); have n1_ := Aside0.mk (hbox); have n2_ := Aside0.mk ((by rw [hg]; exact (below_size (by with_reducible exact HB.out)) : w.heap.size ≤ gb138)); have n3_ := Aside0.mk ((by rw [hg]; exact (below_size (by with_reducible exact HB.out)) : w.heap.size ≤ gb138)); clear HB; have HB := n0_; have BK138 := n1_; have GW138 := n2_; have GE138 := n3_; clear n0_ n1_ n2_ n3_; clear hb hbox hg; have hcz15_0 : w14.cell? ⟨gb138, 0, none⟩ = some (.int .i64 a1) := (blk_cell BK138.out 0).trans rfl; have hfz15_0 := blk_frozen BK138.out 0) | ((with_reducible refine gate_callee (f := 65) rfl ?_); refine goesL_ (some 12) rfl rfl Try.func65 (by kernel_rfl) rfl #[.int .i64 a1] rfl (by (try simp only [List.map_toArray, List.map_cons, List.map_nil]); first | done | rfl | (simp only [List.length_drop, List.length_take]; rfl)) ?_; (with_reducible refine (pack_Bits.calls a1 true _ A3.out).mono ?_); rintro e w' ⟨rfl, ⟨nd, rfl⟩⟩; refine ⟨_, rfl, ?_⟩) | ((with_reducible refine gate_callee (f := 78) rfl ?_); refine goesL_ (some 17) rfl rfl Try.func78 (by kernel_rfl) rfl #[.int .i64 (l0.length : Int)] rfl (by (try simp only [List.map_toArray, List.map_cons, List.map_nil]); first | done | rfl | (simp only [List.length_drop, List.length_take]; rfl)) ?_; (with_reducible refine (pack_many.calls (l0.length : Int) true _ A5.out).mono ?_); rintro e w' ⟨rfl, ⟨nd, rfl⟩⟩; refine ⟨_, rfl, ?_⟩) | ((with_reducible refine gate_callee (f := 75) rfl ?_); refine goesL_ (some 22) rfl rfl Try.func75 (by kernel_rfl) rfl #[.slice A0 l0.length c0, .func (.func 79) #[] #[.pointer (some ⟨gb138, 0, none⟩)]] rfl (by (try simp only [List.map_toArray, List.map_cons, List.map_nil]); first | done | rfl | (simp only [List.length_drop, List.length_take]; rfl)) ?_; (with_reducible refine (pack_Pack_1_any.calls _ _ l0 gb138 a1 false _ ?side1 ?side2 ?side3 A7.out).mono ?_); (case side1 => repeat (first | exact (Kd.C_below HR0.out (by repeat (first | (with_reducible first | exact HB.out | apply below_alloc | apply pw_below_drewN | apply below_drew1 | refine below_set ?_ GE138.out) | exact HB.out))) | (with_reducible refine Kd.C_alloc ?_ _) | (with_reducible refine Kd.C_drewN ?_ _) | (with_reducible refine Kd.C_drew ?_))); (case side2 => exact HC0.out); (case side3 => exact by (with_reducible repeat (first | refine blk_drewN ?_ _ | refine blk_drew ?_ | refine blk_alloc ?_ _)); exact BK138.out); rintro e w' ⟨rfl, ⟨nd, rfl⟩⟩; refine ⟨_, rfl, ?_⟩) | ((with_reducible refine gate_callee (f := 80) rfl ?_); refine goesL_ (some 26) rfl rfl Try.func80 (by kernel_rfl) rfl #[.int .i64 (l0.length : Int), .int .i64 a1] rfl (by (try simp only [List.map_toArray, List.map_cons, List.map_nil]); first | done | rfl | (simp only [List.length_drop, List.length_take]; rfl)) ?_; (with_reducible refine (pack_Words.calls (l0.length : Int) a1 t142 _ A11.out).mono ?_); rintro e w' ⟨rfl, ⟨nd, rfl⟩⟩; refine ⟨_, rfl, ?_⟩) | ((with_reducible refine gate_dst (N := 27) rfl ?_); refine Kd.R_make (Kd.int .u64) _ 137 rfl (N := 27) rfl 130 _ _ rfl t142 rfl rfl Try.underlying130 (.int .u64 0) 8 info137 rfl (by decide) (by omega) 0 (ok := fun _ => True) (okp := fun _ => True) rfl (fun _ hk => hk) trivial (of_decide_eq_true (by first | (with_reducible assumption) | assumption)) (Nat.le_trans (Nat.mul_le_mul_right _ (of_decide_eq_true (by first | (with_reducible assumption) | assumption) : t142.toNat ≤ 35184372088832)) (by omega)) (Below.refl _ _) (Nat.le_refl _) ?_; intro v144 w16 ho17 hb hg_ hnew_; clear hg_ hnew_; (first | rw [← Ny143.out] at ho17 | (simp only [Int.reduceToNat] at ho17; rw [← Ny143.out] at ho17)); have n0_ := Aside0.mk (Kd.R_lower ho17 (below_size (by repeat (first | (with_reducible first | exact HB.out | apply below_alloc | apply pw_below_drewN | apply below_drew1 | refine below_set ?_ GE138.out) | exact HB.out)))); have n1_ := Aside0.mk (blk_below (g := gb138) (o := .cells #[.int .i64 a1] 3 (0, 0)) (by (with_reducible repeat (first | refine blk_drewN ?_ _ | refine blk_drew ?_ | refine blk_alloc ?_ _)); exact BK138.out) hb); have n2_ := Aside0.mk (below_step (by repeat (first | (with_reducible first | exact HB.out | apply below_alloc | apply pw_below_drewN | apply below_drew1 | refine below_set ?_ GE138.out) | exact HB.out)) hb); clear BK138; clear HB; have HO145 := n0_; have BK138 := n1_; have HB := n2_; clear n0_ n1_ n2_; clear hb ho17))
    go_loopg [30] k (fun kq v30 w' => ∃ (x6_1 : List Int) (x30_1 : Int), v30 = .int .i64 x30_1 ∧ Aside0 (pack_Pack.l0 kq x6_1 l0 (l0.length : Int) x30_1 a1 = some (r1, r2)) ∧ Aside0 (kq ≤ k) ∧ Aside0 (Kd.R (Kd.int .u64) 137 w' w.heap.size (fun _ => True) v144 x6_1) ∧ Aside0 (w'.heap[gb138]? = some (.cells #[.int .i64 a1] 3 (0, 0))) ∧ Aside0 (Below w.heap.size w w'))
    case atStart => exact ⟨(y143), (0), (by first | rfl | (simp; done) | (simp [*]; done)), H', ⟨Nat.le_refl _⟩, ⟨by exact HO145.out⟩, ⟨by exact BK138.out⟩, ⟨by with_reducible exact HB.out⟩⟩
    case round =>
     clear H'
     try clear c1
     try clear p2
     try clear c4
     try clear c6
     try clear c7
     try clear c8
     try clear c12
     try clear c12b0
     try clear c12b1
     try clear c13
     try clear c13b0
     try clear c13b1
     try clear hcz10_0
     try clear hcz15_0
     try clear hfz10_0
     try clear hfz15_0
     obtain ⟨x6_1, x30_1, rfl, HA, HK1, HO_6, BK138, HB⟩ := hrel
     cases gk with
     | zero => exact absurd HA.out (by simp [pack_Pack.l0])
     | succ k1 =>
      have H := HA.out
      clear HA
      simp only [pack_Pack.l0] at H
      by_cases c18 : x30_1 < (l0.length : Int)
      ·
       rw [if_pos c18] at H
       have c18b0 : decide (x30_1 < (l0.length : Int)) = true := decide_eq_true c18
       clear c18
       by_cases c19 : 0 ≤ x30_1
       case neg => (rw [if_neg c19] at H; exact absurd H (by simp))
       rw [if_pos c19] at H
       have c19b0 : decide (0 ≤ x30_1) = true := decide_eq_true c19
       clear c19
       by_cases c20 : x30_1 < (l0.length : Int)
       case neg => (rw [if_neg c20] at H; exact absurd H (by simp))
       rw [if_pos c20] at H
       have c20b0 : decide (x30_1 < (l0.length : Int)) = true := decide_eq_true c20
       clear c20
       obtain ⟨ji21, hji21⟩ : ∃ j_ : Int, (wrap64 (Int.tdiv (wrap64 (x30_1 * a1)) 64)) = j_ := ⟨_, rfl⟩
       replace H : (if 0 ≤ (ji21) then (if (ji21) < (x6_1.length : Int) then (if 0 ≤ (Int.tmod (wrap64 (x30_1 * a1)) 64) then (pack_Pack.l0 k1 (x6_1.set ((ji21) : Int).toNat (Go.bits .or .u64 (rd x6_1 (ji21)) (shl .u64 (IntKind.u64.wrap (rd l0 x30_1)) (Int.tmod (wrap64 (x30_1 * a1)) 64)))) l0 (l0.length : Int) (wrap64 (x30_1 + 1)) a1) else (none)) else (none)) else (none)) = some (r1, r2) := by first | (rw [hji21] at H; exact H) | (simp only [hji21] at H ⊢; exact H)
       have hji21w : (IntKind.i64.wrap (Int.tdiv (wrap64 (x30_1 * a1)) 64)) = ji21 := (i64_w _).trans hji21
       by_cases c22 : 0 ≤ (ji21)
       case neg => (rw [if_neg c22] at H; exact absurd H (by simp))
       rw [if_pos c22] at H
       have c22b0 : decide (0 ≤ (ji21)) = true := decide_eq_true c22
       clear c22
       by_cases c23 : (ji21) < (x6_1.length : Int)
       case neg => (rw [if_neg c23] at H; exact absurd H (by simp))
       rw [if_pos c23] at H
       have c23b0 : decide ((ji21) < (x6_1.length : Int)) = true := decide_eq_true c23
       clear c23
       obtain ⟨ji24, hji24⟩ : ∃ j_ : Int, (Int.tmod (wrap64 (x30_1 * a1)) 64) = j_ := ⟨_, rfl⟩
       replace H : (if 0 ≤ (ji24) then (pack_Pack.l0 k1 (x6_1.set ((ji21) : Int).toNat (Go.bits .or .u64 (rd x6_1 (ji21)) (shl .u64 (IntKind.u64.wrap (rd l0 x30_1)) (ji24)))) l0 (l0.length : Int) (wrap64 (x30_1 + 1)) a1) else (none)) = some (r1, r2) := by first | (rw [hji24] at H; exact H) | (simp only [hji24] at H ⊢; exact H)
       by_cases c25 : 0 ≤ (ji24)
       case neg => (rw [if_neg c25] at H; exact absurd H (by simp))
       rw [if_pos c25] at H
       have c25b0 := eq_true c25
       have c25b1 : decide (0 ≤ (ji24)) = true := decide_eq_true c25
       clear c25
       obtain ⟨ji26, hji26⟩ : ∃ j_ : Int, (shl .u64 (IntKind.u64.wrap (rd l0 x30_1)) (ji24)) = j_ := ⟨_, rfl⟩
       replace H : (pack_Pack.l0 k1 (x6_1.set ((ji21) : Int).toNat (Go.bits .or .u64 (rd x6_1 (ji21)) (ji26))) l0 (l0.length : Int) (wrap64 (x30_1 + 1)) a1) = some (r1, r2) := by first | (rw [hji26] at H; exact H) | (simp only [hji26] at H ⊢; exact H)
       have hji26_ : (IntKind.u64.wrap ((IntKind.u64.wrap (rd l0 x30_1)) * 2 ^ min (ji24).toNat 64)) = ji26 := hji26
       have hji26z : (ji24) ≤ 64 → (IntKind.u64.wrap ((IntKind.u64.wrap (rd l0 x30_1)) * 2 ^ (ji24).toNat)) = ji26 := shl_small hji26
       obtain ⟨y148, hy148⟩ : ∃ y_ : List Int, y_ = (x6_1.set ((ji21) : Int).toNat (Go.bits .or .u64 (rd x6_1 (ji21)) (ji26))) := ⟨_, rfl⟩
       replace H : (pack_Pack.l0 k1 y148 l0 (l0.length : Int) (wrap64 (x30_1 + 1)) a1) = some (r1, r2) := by first | (rw [hy148]; with_reducible exact H) | (have H2_ := (Option.bind_some _ _).symm.trans H; rw [hy148]; with_reducible exact H2_) | (have H2_ := (Option.bind_some _ _).symm.trans H; with_reducible exact H2_) | with_reducible exact H | (rw [hy148]; exact H) | exact H
       have Ny148 := Aside0.mk hy148
       clear hy148
       have H' := Aside0.mk H
       clear H
       have p146 : 0 ≤ (x30_1 : Int) := of_decide_eq_true (by first | (with_reducible assumption) | assumption)
       have q146 : x30_1 < (l0.length : Int) := of_decide_eq_true (by first | (with_reducible assumption) | assumption)
       obtain ⟨ad146, e146, hx146_0⟩ := Kd.at_int HR0.out x30_1 p146 q146
       cases e146
       replace hx146_0 := (HB.out.cell (World.block_lt_of_cell? w _ hx146_0)).trans hx146_0
       replace p146 := eq_true p146
       replace q146 := eq_true q146
       have hcz28_0 : wr.cell? ⟨gb138, 0, none⟩ = some (.int .i64 a1) := (blk_cell BK138.out 0).trans rfl
       have hfz28_0 := blk_frozen BK138.out 0
       try go_wp2
       have n0_ := Aside0.mk (Kd.R_drew HO_6.out)
       have n1_ := Aside0.mk (blk_drew BK138.out)
       have n2_ := Aside0.mk (below_drew1 HB.out)
       clear HO_6
       clear BK138
       clear HB
       have HO_6 := n0_
       have BK138 := n1_
       have HB := n2_
       clear n0_ n1_ n2_
       obtain ⟨Ao30, co30, eo30⟩ := Kd.R_slice HO_6.out
       (first | subst eo30 | (injection eo30 with f1_ f2_ f3_; have f4_ := f1_.symm; have f5_ := f3_.symm; clear f1_ f2_ f3_; subst f4_; subst f5_))
       have p147 : 0 ≤ ((ji21) : Int) := of_decide_eq_true (by first | (with_reducible assumption) | assumption)
       have q147 : (ji21) < (x6_1.length : Int) := of_decide_eq_true (by first | (with_reducible assumption) | assumption)
       obtain ⟨ad147, e147, hx147_0⟩ := Kd.at_int (Kd.R_reads' HO_6.out).2.2 (ji21) p147 q147
       cases e147
       replace p147 := eq_true p147
       replace q147 := eq_true q147
       have p27 : 0 ≤ ((ji21) : Int) := of_decide_eq_true (by first | (with_reducible assumption) | assumption)
       have q27 : ((ji21) : Int) < ((x6_1.length : Int) : Int) := of_decide_eq_true (by first | (with_reducible assumption) | assumption)
       obtain ⟨go27, co27, eo27, gb27, gl27, cl27, HG27⟩ := Kd.R_form HO_6.out (by omega)
       (first | cases eo27 | (injection eo27 with ea_ en_ ec_; (first | subst ea_ | (injection ea_ with ea_; subst ea_)); subst ec_; clear en_))
       have GB27 := Aside0.mk gb27
       have GG27 := Aside0.mk HG27
       clear gb27 gl27 HG27
       (first | simp only [add_plain] at hx147_0 | skip)
       obtain ⟨hx27_0, hf27_0⟩ := Kd.R_celln 0 HO_6.out ((ji21) : Int) p27 q27
       replace p27 := eq_true p27
       replace q27 := eq_true q27
       have HP31 := Kd.R_putn HO_6.out ((ji21) : Int) (Go.bits .or .u64 (rd x6_1 (ji21)) (ji26))
       rw [← Ny148.out] at HP31
       have HQ31 := Aside0.mk HP31
       clear HP31
       refine start_ (n := 13) (S := fun w' => w'.cell? ⟨go27, ((ji21)).toNat, none⟩ = some (.int .u64 (rd x6_1 (ji21)))) (ds := [12]) #[false, false, false, false, false, false, false, false, false, false, false, false, false] (by kernel_rfl) rfl rfl (hx147_0) (fun hHeld => ?_); refine with_tabW pack_Pack.tab12 pack_Pack.bits12 (fun HT_ HW_ => ?_)
       generalize wr.drew = w29 at HO_6 BK138 HB GG27 HQ31 hf27_0 hx147_0 hx27_0 hHeld ⊢
       refine pure_ (i := 0) (N := some 38) (v := ?_) (a' := ?_) #[true, false, false, false, false, false, false, false, false, false, false, false, false] rfl rfl (any_of HT_.out (by kernel_rfl)) (fun _ _ _ h => h) (Or.inl ⟨by rfl, ?_⟩) ?_ ?_
       rotate_left
       ·
        intro w'
        go_simp
        with_reducible rfl
       rotate_left
       ·
        simp only [Act.put, List.setIfInBounds_toArray, List.set_cons_zero, List.set_cons_succ, i64_w, i32_w, IntKind.wrap_u32]
        rfl
       refine pure_ (i := 1) (N := some 39) (v := ?_) (a' := ?_) #[true, true, false, false, false, false, false, false, false, false, false, false, false] rfl rfl (any_of HT_.out (by kernel_rfl)) (fun _ _ _ h => h) (Or.inl ⟨by rfl, ?_⟩) ?_ ?_
       rotate_left
       ·
        intro w'
        go_simp
        with_reducible rfl
       rotate_left
       ·
        simp only [Act.put, List.setIfInBounds_toArray, List.set_cons_zero, List.set_cons_succ, i64_w, i32_w, IntKind.wrap_u32]
        rfl
       refine pure_ (i := 2) (N := some 40) (v := ?_) (a' := ?_) #[true, true, true, false, false, false, false, false, false, false, false, false, false] rfl rfl (any_of HT_.out (by kernel_rfl)) (fun _ _ _ h => h) (Or.inl ⟨by rfl, ?_⟩) ?_ ?_
       rotate_left
       ·
        intro w'
        go_simp
        with_reducible rfl
       rotate_left
       ·
        simp only [Act.put, List.setIfInBounds_toArray, List.set_cons_zero, List.set_cons_succ, i64_w, i32_w, IntKind.wrap_u32]
        rfl
       refine pure_ (i := 3) (N := some 41) (v := ?_) (a' := ?_) #[true, true, true, true, false, false, false, false, false, false, false, false, false] rfl rfl (any_of HT_.out (by kernel_rfl)) (fun _ _ _ h => h) (Or.inl ⟨by rfl, ?_⟩) ?_ ?_
       rotate_left
       ·
        intro w'
        go_simp
        with_reducible rfl
       rotate_left
       ·
        simp only [Act.put, List.setIfInBounds_toArray, List.set_cons_zero, List.set_cons_succ, i64_w, i32_w, IntKind.wrap_u32]
        rfl
       refine pure_ (i := 5) (N := some 43) (v := ?_) (a' := ?_) #[true, true, true, true, false, true, false, false, false, false, false, false, false] rfl rfl (any_of HT_.out (by kernel_rfl)) (fun _ _ _ h => h) (Or.inl ⟨by rfl, ?_⟩) ?_ ?_
       rotate_left
       ·
        intro w'
        go_simp
        with_reducible rfl
       rotate_left
       ·
        simp only [Act.put, List.setIfInBounds_toArray, List.set_cons_zero, List.set_cons_succ, i64_w, i32_w, IntKind.wrap_u32]
        rfl
       refine pure_ (i := 6) (N := some 44) (v := ?_) (a' := ?_) #[true, true, true, true, false, true, true, false, false, false, false, false, false] rfl rfl (any_of HT_.out (by kernel_rfl)) (fun _ _ _ h => h) (Or.inl ⟨by rfl, ?_⟩) ?_ ?_
       rotate_left
       ·
        intro w'
        go_simp
        with_reducible rfl
       rotate_left
       ·
        simp only [Act.put, List.setIfInBounds_toArray, List.set_cons_zero, List.set_cons_succ, i64_w, i32_w, IntKind.wrap_u32]
        rfl
       refine pure_ (i := 7) (N := some 45) (v := ?_) (a' := ?_) #[true, true, true, true, false, true, true, true, false, false, false, false, false] rfl rfl (any_of HT_.out (by kernel_rfl)) (fun _ _ _ h => h) (Or.inl ⟨by rfl, ?_⟩) ?_ ?_
       rotate_left
       ·
        intro w'
        go_simp
        with_reducible rfl
       rotate_left
       ·
        simp only [Act.put, List.setIfInBounds_toArray, List.set_cons_zero, List.set_cons_succ, i64_w, i32_w, IntKind.wrap_u32]
        rfl
       refine pure_ (i := 8) (N := some 46) (v := ?_) (a' := ?_) #[true, true, true, true, false, true, true, true, true, false, false, false, false] rfl rfl (any_of HT_.out (by kernel_rfl)) (fun _ _ _ h => h) (Or.inl ⟨by rfl, ?_⟩) ?_ ?_
       rotate_left
       ·
        intro w'
        go_simp
        with_reducible rfl
       rotate_left
       ·
        simp only [Act.put, List.setIfInBounds_toArray, List.set_cons_zero, List.set_cons_succ, i64_w, i32_w, IntKind.wrap_u32]
        rfl
       refine pure_ (i := 9) (N := some 47) (v := ?_) (a' := ?_) #[true, true, true, true, false, true, true, true, true, true, false, false, false] rfl rfl (any_of HT_.out (by kernel_rfl)) (fun _ _ _ h => h) (Or.inl ⟨by rfl, ?_⟩) ?_ ?_
       rotate_left
       ·
        intro w'
        go_simp
        with_reducible rfl
       rotate_left
       ·
        simp only [Act.put, List.setIfInBounds_toArray, List.set_cons_zero, List.set_cons_succ, i64_w, i32_w, IntKind.wrap_u32]
        rfl
       refine take_ (i := 4) (N := some 42) (v := ?_) (a' := ?_) #[true, true, true, true, true, true, true, true, true, true, false, false, false] rfl rfl (take_ofW HT_.out HW_.out (by kernel_rfl)) (fun _ _ _ h => h) (Or.inl ⟨by rfl, ?_⟩) hHeld ?_ ?_
       rotate_left
       ·
        intro w' s0
        go_simp
        with_reducible rfl
       rotate_left
       ·
        simp only [Act.put, List.setIfInBounds_toArray, List.set_cons_zero, List.set_cons_succ, i64_w, i32_w, IntKind.wrap_u32]
        rfl
       refine pure_ (i := 10) (N := some 48) (v := ?_) (a' := ?_) #[true, true, true, true, true, true, true, true, true, true, true, false, false] rfl rfl (any_of HT_.out (by kernel_rfl)) (fun _ _ _ h => h) (Or.inl ⟨by rfl, ?_⟩) ?_ ?_
       rotate_left
       ·
        intro w'
        go_simp
        with_reducible rfl
       rotate_left
       ·
        simp only [Act.put, List.setIfInBounds_toArray, List.set_cons_zero, List.set_cons_succ, i64_w, i32_w, IntKind.wrap_u32]
        rfl
       refine pure_ (i := 11) (N := some 49) (v := ?_) (a' := ?_) #[true, true, true, true, true, true, true, true, true, true, true, true, false] rfl rfl (any_of HT_.out (by kernel_rfl)) (fun _ _ _ h => h) (Or.inl ⟨by rfl, ?_⟩) ?_ ?_
       rotate_left
       ·
        intro w'
        go_simp
        with_reducible rfl
       rotate_left
       ·
        simp only [Act.put, List.setIfInBounds_toArray, List.set_cons_zero, List.set_cons_succ, i64_w, i32_w, IntKind.wrap_u32]
        rfl
       refine last_ (i := 12) (N := none) #[true, true, true, true, true, true, true, true, true, true, true, true, true] rfl rfl (one_of HT_.out (by kernel_rfl)) (by decide) (fun K hK => ?_)
       refine skip_ (w1 := ?_) (by rfl) rfl ?_ ?_
       rotate_left
       ·
        go_simp
        rfl
       refine hK.out _ _ ?_
       clear hK K
       refine done_ (done_of HT_.out (by kernel_rfl)) ?_
       try go_wp2
       go_roundg k1
       case measure => have := HK1.out; omega
       case rel => exact ⟨(y148), (wrap64 (x30_1 + 1)), (by first | rfl | (simp; done) | (simp [*]; done)), H', ⟨by have := HK1.out; omega⟩, ⟨by (with_reducible repeat (first | apply Kd.R_alloc | apply Kd.R_drewN | apply Kd.R_drew)); exact HQ31.out⟩, ⟨by (with_reducible repeat (first | refine blk_drewN ?_ _ | refine blk_drew ?_ | refine blk_alloc ?_ _)); refine blk_far ?_ (by have h_ := Kd.R_ne HO_6.out BK138.out (by decide); intro e_; exact h_ (by rw [e_]; rfl)) _; (with_reducible repeat (first | refine blk_drewN ?_ _ | refine blk_drew ?_ | refine blk_alloc ?_ _)); exact BK138.out⟩, ⟨by repeat (first | (with_reducible first | exact HB.out | apply below_alloc | apply pw_below_drewN | apply below_drew1 | refine below_set ?_ GB27.out | refine below_set ?_ GE138.out) | exact HB.out)⟩⟩
      ·
       rw [if_neg c18] at H
       have c18b0 : decide (x30_1 < (l0.length : Int)) = false := decide_eq_false c18
       clear c18
       simp only [Option.some.injEq, Prod.mk.injEq] at H
       obtain ⟨rfl, rfl⟩ := H
       go_wp2
       go_ret2
       exact ⟨_, by first | rfl | (simp [errW_none, errW_some] <;> rfl) | (simp [*, errW_none, errW_some] <;> rfl), by exact HO_6.out, by with_reducible exact HB.out⟩
  ·
   replace c6 := Bool.eq_false_iff.mpr c6
   subst c6
   have H1 : (some (([] : List Int), 12)) = some (r1, r2) := by rw [if_neg (show ¬ (false = true) by decide)] at H; exact H
   clear H
   have H := H1
   clear H1
   simp only [Option.some.injEq, Prod.mk.injEq] at H
   obtain ⟨rfl, rfl⟩ := H
   go_enter Try.func74, Try.ntmps74
   go_wp2_with (first | ((with_reducible refine gate_dst (N := 3) rfl ?_); refine box_event ?hg (N := 3) ?hd (cs := #[.int .i64 a1]) (t := 3) ?hr ?_; (case hd => rfl); (case hg => rfl); (case hr => first | (go_simp; done) | (go_simp; rfl)); intro gb138 hg w32 hbox hb; have n0_ := Aside0.mk (below_step (by with_reducible exact HB.out) hb); have n1_ := Aside0.mk (hbox); have n2_ := Aside0.mk ((by rw [hg]; exact (below_size (by with_reducible exact HB.out)) : w.heap.size ≤ gb138)); have n3_ := Aside0.mk ((by rw [hg]; exact (below_size (by with_reducible exact HB.out)) : w.heap.size ≤ gb138)); clear HB; have HB := n0_; have BK138 := n1_; have GW138 := n2_; have GE138 := n3_; clear n0_ n1_ n2_ n3_; clear hb hbox hg; have hcz33_0 : w32.cell? ⟨gb138, 0, none⟩ = some (.int .i64 a1) := (blk_cell BK138.out 0).trans rfl; have hfz33_0 := blk_frozen BK138.out 0) | ((with_reducible refine gate_callee (f := 65) rfl ?_); refine goesL_ (some 12) rfl rfl Try.func65 (by kernel_rfl) rfl #[.int .i64 a1] rfl (by (try simp only [List.map_toArray, List.map_cons, List.map_nil]); first | done | rfl | (simp only [List.length_drop, List.length_take]; rfl)) ?_; (with_reducible refine (pack_Bits.calls a1 true _ A3.out).mono ?_); rintro e w' ⟨rfl, ⟨nd, rfl⟩⟩; refine ⟨_, rfl, ?_⟩) | ((with_reducible refine gate_callee (f := 78) rfl ?_); refine goesL_ (some 17) rfl rfl Try.func78 (by kernel_rfl) rfl #[.int .i64 (l0.length : Int)] rfl (by (try simp only [List.map_toArray, List.map_cons, List.map_nil]); first | done | rfl | (simp only [List.length_drop, List.length_take]; rfl)) ?_; (with_reducible refine (pack_many.calls (l0.length : Int) false _ A5.out).mono ?_); rintro e w' ⟨rfl, ⟨nd, rfl⟩⟩; refine ⟨_, rfl, ?_⟩))
   go_ret2
   exact ⟨_, by first | rfl | (simp [errW_none, errW_some] <;> rfl) | (simp [*, errW_none, errW_some] <;> rfl), by first | exact Kd.R_nil _ _ _ _ _ | exact Kd.N_nil _ _ _ _ _ | exact Kd.V_nil _ _ _ _ _ | exact Kd.Q_nil _ _ _ _ _ | exact Kd.S_nil _ _ _ _ _, by repeat (first | (with_reducible first | exact HB.out | apply below_alloc | apply pw_below_drewN | apply below_drew1 | refine below_set ?_ GE138.out) | exact HB.out)⟩
 ·
  replace c4 := Bool.eq_false_iff.mpr c4
  subst c4
  have H1 : (some (([] : List Int), 20)) = some (r1, r2) := by rw [if_neg (show ¬ (false = true) by decide)] at H; exact H
  clear H
  have H := H1
  clear H1
  simp only [Option.some.injEq, Prod.mk.injEq] at H
  obtain ⟨rfl, rfl⟩ := H
  go_enter Try.func74, Try.ntmps74
  go_wp2_with (first | ((with_reducible refine gate_dst (N := 3) rfl ?_); refine box_event ?hg (N := 3) ?hd (cs := #[.int .i64 a1]) (t := 3) ?hr ?_; (case hd => rfl); (case hg => rfl); (case hr => first | (go_simp; done) | (go_simp; rfl)); intro gb138 hg w34 hbox hb; have n0_ := Aside0.mk (below_step (by with_reducible exact HB.out) hb); have n1_ := Aside0.mk (hbox); have n2_ := Aside0.mk ((by rw [hg]; exact (below_size (by with_reducible exact HB.out)) : w.heap.size ≤ gb138)); have n3_ := Aside0.mk ((by rw [hg]; exact (below_size (by with_reducible exact HB.out)) : w.heap.size ≤ gb138)); clear HB; have HB := n0_; have BK138 := n1_; have GW138 := n2_; have GE138 := n3_; clear n0_ n1_ n2_ n3_; clear hb hbox hg; have hcz35_0 : w34.cell? ⟨gb138, 0, none⟩ = some (.int .i64 a1) := (blk_cell BK138.out 0).trans rfl; have hfz35_0 := blk_frozen BK138.out 0) | ((with_reducible refine gate_callee (f := 65) rfl ?_); refine goesL_ (some 12) rfl rfl Try.func65 (by kernel_rfl) rfl #[.int .i64 a1] rfl (by (try simp only [List.map_toArray, List.map_cons, List.map_nil]); first | done | rfl | (simp only [List.length_drop, List.length_take]; rfl)) ?_; (with_reducible refine (pack_Bits.calls a1 false _ A3.out).mono ?_); rintro e w' ⟨rfl, ⟨nd, rfl⟩⟩; refine ⟨_, rfl, ?_⟩))
  go_ret2
  exact ⟨_, by first | rfl | (simp [errW_none, errW_some] <;> rfl) | (simp [*, errW_none, errW_some] <;> rfl), by first | exact Kd.R_nil _ _ _ _ _ | exact Kd.N_nil _ _ _ _ _ | exact Kd.V_nil _ _ _ _ _ | exact Kd.Q_nil _ _ _ _ _ | exact Kd.S_nil _ _ _ _ _, by repeat (first | (with_reducible first | exact HB.out | apply below_alloc | apply pw_below_drewN | apply below_drew1 | refine below_set ?_ GE138.out) | exact HB.out)⟩

/-! ### page_packAll: function 72 -/
def page_packAll.l0 : Nat → Int → List (S134) → List (S117) → Int → Int → Option ((List (S134)) × Int)
 | 0, _, _, _, _, _ => none
 | k + 1, x1, x6, x12, x13, x14 => if x14 < x13 then (if 0 ≤ x14 then (if x14 < (x12.length : Int) then ((group_Right.f k ((rd_T117 x12 x14).f0) ((rd_T117 x12 x14).f1) ((rd_T117 x12 x14).f2) x1).bind fun t151 => (if t151 = 0 then ((pack_Pack.f k ((rd_T117 x12 x14).f2) x1).bind fun bt152 => (if bt152.2 = 0 then (if x6.length < 2513169434916 then (page_packAll.l0 k x1 (x6 ++ [(⟨(⟨(rd_T117 x12 x14).f0, (rd_T117 x12 x14).f1, ([] : List Int)⟩ : S117), bt152.1⟩ : S134)]) x12 x13 (wrap64 (x14 + 1))) else (none)) else (some (([] : List (S134)), bt152.2)))) else (some (([] : List (S134)), t151)))) else (none)) else (none)) else (some (x6, 0))
def page_packAll.f (k : Nat) (l0 : List (S117)) (a1 : Int) : Option ((List (S134)) × Int) := page_packAll.l0 k a1 ([] : List (S134)) l0 (l0.length : Int) 0
theorem page_packAll.mono_l : ∀ k, (∀ y0 y1 y2 y3 y4, LeO (page_packAll.l0 k y0 y1 y2 y3 y4) (page_packAll.l0 (k + 1) y0 y1 y2 y3 y4))
 | 0 => fun _ _ _ _ _ r h => by simp [page_packAll.l0] at h
 | k + 1 => by
  have ih0 := page_packAll.mono_l k
  ·
   intro y0 y1 y2 y3 y4
   unfold page_packAll.l0
   repeat' first
   | (with_reducible exact ih0 _ _ _ _ _)
   | (with_reducible exact group_Right.mono _ _ _ _ _)
   | (with_reducible exact pack_Pack.mono _ _ _)
   | (with_reducible exact LeO.refl _)
   | (with_reducible exact LeO.none _)
   | (with_reducible refine LeO.ite ?_ ?_)
   | (with_reducible refine LeO.bind ?_ (fun _ => ?_))
   | exact ih0 _ _ _ _ _
   | exact group_Right.mono _ _ _ _ _
   | exact pack_Pack.mono _ _ _
   | exact LeO.none _
   | refine LeO.ite ?_ ?_
   | refine LeO.bind ?_ (fun _ => ?_)
theorem page_packAll.mono : ∀ a0 a1 k, LeO (page_packAll.f k a0 a1) (page_packAll.f (k + 1) a0 a1) := by
 intro a0 a1 k
 have ih0 := page_packAll.mono_l k
 unfold page_packAll.f
 repeat' first
   | (with_reducible exact ih0 _ _ _ _ _)
   | (with_reducible exact group_Right.mono _ _ _ _ _)
   | (with_reducible exact pack_Pack.mono _ _ _)
   | (with_reducible exact LeO.refl _)
   | (with_reducible exact LeO.none _)
   | (with_reducible refine LeO.ite ?_ ?_)
   | (with_reducible refine LeO.bind ?_ (fun _ => ?_))
   | exact ih0 _ _ _ _ _
   | exact group_Right.mono _ _ _ _ _
   | exact pack_Pack.mono _ _ _
   | exact LeO.none _
   | refine LeO.ite ?_ ?_
   | refine LeO.bind ?_ (fun _ => ?_)
set_option maxHeartbeats 8000000 in
set_option maxRecDepth 100000 in
theorem page_packAll.calls (k : Nat) (A0 : Option Addr) (c0 : Nat) (l0 : List (S117)) (a1 : Int) (r1 : List (S134)) (r2 : Int) (w : World) (hr0 : Kd.C k117 w A0 l0.length l0) (hc0 : l0.length ≤ c0) (h : page_packAll.f k l0 a1 = some (r1, r2)) :
  Calls Try.prog 72 #[.slice A0 l0.length c0, .int .i64 a1] w fun e w' => ∃ v0_ : Value, e = .returned (.tuple #[v0_, .int .i64 r2]) ∧ Kd.S k134 134 w' w.heap.size (fun _ => True) v0_ r1 ∧ Below w.heap.size w w' := by
 have hu117 := Try.underlying117
 have hu134 := Try.underlying134
 have HR0 := Aside0.mk hr0
 have HC0 := Aside0.mk hc0
 clear hr0 hc0
 have HB := Aside0.mk (Below.refl w.heap.size w)
 have H : (page_packAll.l0 k a1 ([] : List (S134)) l0 (l0.length : Int) 0) = some (r1, r2) := h
 clear h
 have H' := Aside0.mk H
 clear H
 go_enter Try.func72, Try.ntmps72
 go_wp2
 go_loopg [6, 14] k (fun kq v6 v14 w' => ∃ (x6_1 : List (S134)) (x14_1 : Int), v14 = .int .i64 x14_1 ∧ Aside0 (page_packAll.l0 kq a1 x6_1 l0 (l0.length : Int) x14_1 = some (r1, r2)) ∧ Aside0 (kq ≤ k) ∧ Aside0 (Kd.S k134 134 w' w.heap.size (fun _ => True) v6 x6_1) ∧ Aside0 (Below w.heap.size w w'))
 case atStart => exact ⟨(([] : List (S134))), (0), (by first | rfl | (simp; done) | (simp [*]; done)), H', ⟨Nat.le_refl _⟩, ⟨by first | exact Kd.S_nil _ _ _ _ _ | exact Kd.N_nil _ _ _ _ _ | exact Kd.V_nil _ _ _ _ _ | exact Kd.Q_nil _ _ _ _ _ | exact Kd.R_nil _ _ _ _ _⟩, ⟨by with_reducible exact HB.out⟩⟩
 case round =>
  clear H'
  try clear p2
  obtain ⟨x6_1, x14_1, rfl, HA, HK1, HO_6, HB⟩ := hrel
  cases gk with
  | zero => exact absurd HA.out (by simp [page_packAll.l0])
  | succ k1 =>
   have H := HA.out
   clear HA
   simp only [page_packAll.l0] at H
   by_cases c3 : x14_1 < (l0.length : Int)
   ·
    rw [if_pos c3] at H
    have c3b0 : decide (x14_1 < (l0.length : Int)) = true := decide_eq_true c3
    clear c3
    by_cases c4 : 0 ≤ x14_1
    case neg => (rw [if_neg c4] at H; exact absurd H (by simp))
    rw [if_pos c4] at H
    have c4b0 : decide (0 ≤ x14_1) = true := decide_eq_true c4
    clear c4
    by_cases c5 : x14_1 < (l0.length : Int)
    case neg => (rw [if_neg c5] at H; exact absurd H (by simp))
    rw [if_pos c5] at H
    have c5b0 : decide (x14_1 < (l0.length : Int)) = true := decide_eq_true c5
    clear c5
    replace H := Option.bind_eq_some_iff.mp H
    obtain ⟨t151, A60, H⟩ := H
    replace H : (if t151 = 0 then ((pack_Pack.f k1 ((rd_T117 l0 x14_1).f2) a1).bind fun bt152 => (if bt152.2 = 0 then (if x6_1.length < 2513169434916 then (page_packAll.l0 k1 a1 (x6_1 ++ [(⟨(⟨(rd_T117 l0 x14_1).f0, (rd_T117 l0 x14_1).f1, ([] : List Int)⟩ : S117), bt152.1⟩ : S134)]) l0 (l0.length : Int) (wrap64 (x14_1 + 1))) else (none)) else (some (([] : List (S134)), bt152.2)))) else (some (([] : List (S134)), t151))) = some (r1, r2) := H
    have A6 := Aside0.mk A60
    clear A60
    by_cases c7 : t151 = 0
    ·
     rw [if_pos c7] at H
     have c7b0 : (t151 == 0) = true := beq_iff_eq.mpr c7
     have c7b1 : (t151 != 0) = false := bne_eq_false_iff_eq.mpr c7
     clear c7
     replace H := Option.bind_eq_some_iff.mp H
     obtain ⟨⟨t152, t153⟩, A80, H⟩ := H
     replace H : (if t153 = 0 then (if x6_1.length < 2513169434916 then (page_packAll.l0 k1 a1 (x6_1 ++ [(⟨(⟨(rd_T117 l0 x14_1).f0, (rd_T117 l0 x14_1).f1, ([] : List Int)⟩ : S117), t152⟩ : S134)]) l0 (l0.length : Int) (wrap64 (x14_1 + 1))) else (none)) else (some (([] : List (S134)), t153))) = some (r1, r2) := H
     have A8 := Aside0.mk A80
     clear A80
     by_cases c9 : t153 = 0
     ·
      rw [if_pos c9] at H
      have c9b0 : (t153 == 0) = true := beq_iff_eq.mpr c9
      have c9b1 : (t153 != 0) = false := bne_eq_false_iff_eq.mpr c9
      clear c9
      by_cases c10 : x6_1.length < 2513169434916
      case neg => (rw [if_neg c10] at H; exact absurd H (by simp))
      rw [if_pos c10] at H
      have LMc10 := Aside0.mk c10
      clear c10
      obtain ⟨y156, hy156⟩ : ∃ y_ : List (S134), y_ = (x6_1 ++ [(⟨(⟨(rd_T117 l0 x14_1).f0, (rd_T117 l0 x14_1).f1, ([] : List Int)⟩ : S117), t152⟩ : S134)]) := ⟨_, rfl⟩
      replace H : (page_packAll.l0 k1 a1 y156 l0 (l0.length : Int) (wrap64 (x14_1 + 1))) = some (r1, r2) := by first | (rw [hy156]; with_reducible exact H) | (have H2_ := (Option.bind_some _ _).symm.trans H; rw [hy156]; with_reducible exact H2_) | (have H2_ := (Option.bind_some _ _).symm.trans H; with_reducible exact H2_) | with_reducible exact H | (rw [hy156]; exact H) | exact H
      have Ny156 := Aside0.mk hy156
      clear hy156
      have H' := Aside0.mk H
      clear H
      have p149 : 0 ≤ (x14_1 : Int) := of_decide_eq_true (by first | (with_reducible assumption) | assumption)
      have q149 : x14_1 < (l0.length : Int) := of_decide_eq_true (by first | (with_reducible assumption) | assumption)
      obtain ⟨ad149, A149_2, c149_2, e149, hx149_0, hx149_1, hx149_2, hl149_2, hi149_2⟩ := at_T117 HR0.out x14_1 p149 q149
      cases e149
      replace hx149_0 := (HB.out.cell (World.block_lt_of_cell? w _ hx149_0)).trans hx149_0
      replace hx149_1 := (HB.out.cell (World.block_lt_of_cell? w _ hx149_1)).trans hx149_1
      replace hx149_2 := (HB.out.cell (World.block_lt_of_cell? w _ hx149_2)).trans hx149_2
      have HR149_2 := Aside0.mk hi149_2
      have HC149_2 := Aside0.mk hl149_2
      clear hi149_2 hl149_2
      replace p149 := eq_true p149
      replace q149 := eq_true q149
      go_wp2_with (first | ((with_reducible refine gate_dst (N := 8) rfl ?_); refine box_event ?hg (N := 8) ?hd (cs := #[.int .i32 0, .int .u32 0, .slice none 0 0]) (t := 117) ?hr ?_; (case hd => rfl); (case hg => rfl); (case hr => first | (go_simp; done) | (go_simp; rfl)); intro gb150 hg w11 hbox hb; have n0_ := Aside0.mk (Kd.S_below (by exact HO_6.out) hb); have n1_ := Aside0.mk (below_step (by with_reducible exact HB.out) hb); have n2_ := Aside0.mk (hbox); have n3_ := Aside0.mk ((by rw [hg]; exact (below_size (by with_reducible exact HB.out)) : w.heap.size ≤ gb150)); have n4_ := Aside0.mk ((by rw [hg]; exact (below_size (by with_reducible exact HB.out)) : w.heap.size ≤ gb150)); clear HO_6; clear HB; have HO_6 := n0_; have HB := n1_; have BK150 := n2_; have GW150 := n3_; have GE150 := n4_; clear n0_ n1_ n2_ n3_ n4_; clear hb hbox hg; have hcz12_0 : w11.cell? ⟨gb150, 0, none⟩ = some (.int .i32 0) := (blk_cell BK150.out 0).trans rfl; have hcz12_1 : w11.cell? ⟨gb150, 1, none⟩ = some (.int .u32 0) := (blk_cell BK150.out 1).trans rfl; have hcz12_2 : w11.cell? ⟨gb150, 2, none⟩ = some (.slice none 0 0) := (blk_cell BK150.out 2).trans rfl; have hfz12_0 := blk_frozen BK150.out 0; have hfz12_1 := blk_frozen BK150.out 1; have hfz12_2 := blk_frozen BK150.out 2) | ((with_reducible refine gate_callee (f := 73) rfl ?_); refine goesL_ (some 20) rfl rfl Try.func73 (by kernel_rfl) rfl #[.agg #[.int .i32 ((rd_T117 l0 x14_1).f0), .int .u32 ((rd_T117 l0 x14_1).f1), .slice A149_2 ((rd_T117 l0 x14_1).f2).length c149_2], .int .i64 a1] rfl (by (try simp only [List.map_toArray, List.map_cons, List.map_nil]); first | done | rfl | (simp only [List.length_drop, List.length_take]; rfl)) ?_; (with_reducible refine (group_Right.calls k1 ((rd_T117 l0 x14_1).f0) ((rd_T117 l0 x14_1).f1) _ _ ((rd_T117 l0 x14_1).f2) a1 t151 _ ?side1 ?side2 A6.out).mono ?_); (case side1 => exact Kd.C_below HR149_2.out (by repeat (first | (with_reducible first | exact HB.out | apply below_alloc | apply pw_below_drewN | apply below_drew1 | refine below_set ?_ GE150.out) | exact HB.out))); (case side2 => exact HC149_2.out); rintro e w13 ⟨rfl, hb⟩; refine ⟨_, rfl, ?_⟩; have n0_ := Aside0.mk (Kd.S_below (by (with_reducible repeat (first | apply Kd.S_alloc | apply Kd.S_drewN | apply Kd.S_drew)); exact (Kd.S_mono (Kd.S_far (p := ⟨gb150, 2, none⟩) (Kd.S_far (p := ⟨gb150, 1, none⟩) (Kd.S_far (p := ⟨gb150, 0, none⟩) (Kd.S_types HO_6.out BK150.out (by decide)) (fun _ hk => hk.2) (.int .i32 ((rd_T117 l0 x14_1).f0))) (fun _ hk => hk.2) (.int .u32 ((rd_T117 l0 x14_1).f1))) (fun _ hk => hk.2) (.slice A149_2 ((rd_T117 l0 x14_1).f2).length c149_2)) (fun _ h_ => h_.1))) hb); have n1_ := Aside0.mk (blk_below (g := gb150) (o := .cells #[.int .i32 ((rd_T117 l0 x14_1).f0), .int .u32 ((rd_T117 l0 x14_1).f1), .slice A149_2 ((rd_T117 l0 x14_1).f2).length c149_2] 117 (0, 0)) (by (with_reducible repeat (first | refine blk_drewN ?_ _ | refine blk_drew ?_ | refine blk_alloc ?_ _)); refine blk_put (cs := #[.int .i32 ((rd_T117 l0 x14_1).f0), .int .u32 ((rd_T117 l0 x14_1).f1), .slice none 0 0]) ?_ 2 _ rfl; (with_reducible repeat (first | refine blk_drewN ?_ _ | refine blk_drew ?_ | refine blk_alloc ?_ _)); refine blk_put (cs := #[.int .i32 ((rd_T117 l0 x14_1).f0), .int .u32 0, .slice none 0 0]) ?_ 1 _ rfl; (with_reducible repeat (first | refine blk_drewN ?_ _ | refine blk_drew ?_ | refine blk_alloc ?_ _)); refine blk_put (cs := #[.int .i32 0, .int .u32 0, .slice none 0 0]) ?_ 0 _ rfl; (with_reducible repeat (first | refine blk_drewN ?_ _ | refine blk_drew ?_ | refine blk_alloc ?_ _)); exact BK150.out) hb); have n2_ := Aside0.mk (below_step (by repeat (first | (with_reducible first | exact HB.out | apply below_alloc | apply pw_below_drewN | apply below_drew1 | refine below_set ?_ GE150.out) | exact HB.out)) hb); clear HO_6; clear BK150; clear HB; have HO_6 := n0_; have BK150 := n1_; have HB := n2_; clear n0_ n1_ n2_; (try clear hb); (try clear hb2); (try clear hk); (try clear hi); have hcz14_0 : w13.cell? ⟨gb150, 0, none⟩ = some (.int .i32 ((rd_T117 l0 x14_1).f0)) := (blk_cell BK150.out 0).trans rfl; have hcz14_1 : w13.cell? ⟨gb150, 1, none⟩ = some (.int .u32 ((rd_T117 l0 x14_1).f1)) := (blk_cell BK150.out 1).trans rfl; have hcz14_2 : w13.cell? ⟨gb150, 2, none⟩ = some (.slice A149_2 ((rd_T117 l0 x14_1).f2).length c149_2) := (blk_cell BK150.out 2).trans rfl; have hfz14_0 := blk_frozen BK150.out 0; have hfz14_1 := blk_frozen BK150.out 1; have hfz14_2 := blk_frozen BK150.out 2) | ((with_reducible refine gate_callee (f := 74) rfl ?_); refine goesL_ (some 28) rfl rfl Try.func74 (by kernel_rfl) rfl #[.slice A149_2 ((rd_T117 l0 x14_1).f2).length c149_2, .int .i64 a1] rfl (by (try simp only [List.map_toArray, List.map_cons, List.map_nil]); first | done | rfl | (simp only [List.length_drop, List.length_take]; rfl)) ?_; (with_reducible refine (pack_Pack.calls k1 _ _ ((rd_T117 l0 x14_1).f2) a1 t152 t153 _ ?side1 ?side2 A8.out).mono ?_); (case side1 => repeat (first | exact (Kd.C_below HR149_2.out HB.out) | (with_reducible refine Kd.C_alloc ?_ _) | (with_reducible refine Kd.C_drewN ?_ _) | (with_reducible refine Kd.C_drew ?_))); (case side2 => exact HC149_2.out); rintro e w15 ⟨v154, rfl, ho0, hb⟩; refine ⟨_, rfl, ?_⟩; have n0_ := Aside0.mk (Kd.S_elder' (by exact HO_6.out) (Kd.R_base ho0) hb); have n1_ := Aside0.mk (Kd.R_lower ho0 (below_size (by with_reducible exact HB.out))); have n2_ := Aside0.mk (blk_below (g := gb150) (o := .cells #[.int .i32 ((rd_T117 l0 x14_1).f0), .int .u32 ((rd_T117 l0 x14_1).f1), .slice A149_2 ((rd_T117 l0 x14_1).f2).length c149_2] 117 (0, 0)) (by exact BK150.out) hb); have n3_ := Aside0.mk (below_step (by with_reducible exact HB.out) hb); clear HO_6; clear BK150; clear HB; have HO_6 := n0_; have HO155 := n1_; have BK150 := n2_; have HB := n3_; clear n0_ n1_ n2_ n3_; (try clear hb); (try clear hb2); (try clear hk); (try clear hi); (try clear ho0); have hcz16_0 : w15.cell? ⟨gb150, 0, none⟩ = some (.int .i32 ((rd_T117 l0 x14_1).f0)) := (blk_cell BK150.out 0).trans rfl; have hcz16_1 : w15.cell? ⟨gb150, 1, none⟩ = some (.int .u32 ((rd_T117 l0 x14_1).f1)) := (blk_cell BK150.out 1).trans rfl; have hcz16_2 : w15.cell? ⟨gb150, 2, none⟩ = some (.slice A149_2 ((rd_T117 l0 x14_1).f2).length c149_2) := (blk_cell BK150.out 2).trans rfl; have hfz16_0 := blk_frozen BK150.out 0; have hfz16_1 := blk_frozen BK150.out 1; have hfz16_2 := blk_frozen BK150.out 2; obtain ⟨Ao17, co17, eo17⟩ := Kd.R_slice HO155.out; subst eo17) | ((with_reducible refine gate_builtin (b := .append) (xs := #[.tmp 34, .tmp 42]) rfl ?_); at_builtin; refine Kd.S_append k134 (w0 := w) w.heap.size rfl (.tmp 34) (.tmp 42) 94 134 (.agg #[(.int .i32 0), (.int .u32 0), (.slice none 0 0), (.slice none 0 0)]) 56 rfl Try.underlying94 info134 rfl (by decide) (by omega) u6 x6_1 (⟨(⟨(rd_T117 l0 x14_1).f0, (rd_T117 l0 x14_1).f1, ([] : List Int)⟩ : S117), t152⟩ : S134) [.int .i32 ((rd_T117 l0 x14_1).f0), .int .u32 ((rd_T117 l0 x14_1).f1), .slice none 0 0, .slice Ao17 t152.length co17] (fun _ => True) (fun k_ => some k_ = (.slice Ao17 t152.length co17 : Value).ownBlock) rfl rfl ?aP (fun k_ hk_ => ((Kd.R_mono (ok' := fun k_ => ((fun _ => True)) k_ ∧ some k_ ≠ (u6 : Value).ownBlock) (Kd.R_apart' (HO155.out) (Kd.S_typed HO_6.out) (by decide)) (fun k_ hk => ⟨trivial, hk.2⟩))).1 k_ hk_.symm) ?aF ?aO ?aB ?aS ?aL ?_; (case aP => exact k134_mkM _ _ _ (⟨(⟨(rd_T117 l0 x14_1).f0, (rd_T117 l0 x14_1).f1, ([] : List Int)⟩ : S117), t152⟩ : S134) (Kd.R_nil _ _ _ _ _) (Kd.R_mono (Kd.R_tight rfl (Kd.R_mono (ok' := fun k_ => ((fun _ => True)) k_ ∧ some k_ ≠ (u6 : Value).ownBlock) (Kd.R_apart' (HO155.out) (Kd.S_typed HO_6.out) (by decide)) (fun k_ hk => ⟨trivial, hk.2⟩))) (fun _ h_ => h_))); (case aB => exact (by with_reducible exact HB.out)); (case aF => exact (fun _ _ => trivial)); (case aO => exact (by (with_reducible repeat (first | apply Kd.S_alloc | apply Kd.S_drewN | apply Kd.S_drew)); exact Kd.S_mono HO_6.out (fun k_ hk => ⟨trivial, fun e_ => hk.2 e_⟩))); (case aS => exact (below_size (by with_reducible exact HB.out))); (case aL => have := LMc10.out; omega); intro v157 w18 ho hb hg hat; rw [← Ny156.out] at ho; have n0_ := Aside0.mk (blk_grown (g := gb150) (o := .cells #[.int .i32 ((rd_T117 l0 x14_1).f0), .int .u32 ((rd_T117 l0 x14_1).f1), .slice A149_2 ((rd_T117 l0 x14_1).f2).length c149_2] 117 (0, 0)) (by exact BK150.out) hg (Kd.S_ne HO_6.out BK150.out (by decide))); have n1_ := Aside0.mk (hb); have n2_ := Aside0.mk (ho); clear BK150; clear HB; clear HO_6; clear HO155; have BK150 := n0_; have HB := n1_; have HO158 := n2_; clear n0_ n1_ n2_; clear ho hb hg hat))
      go_roundg k1
      case measure => have := HK1.out; omega
      case rel => exact ⟨(y156), (wrap64 (x14_1 + 1)), (by first | rfl | (simp; done) | (simp [*]; done)), H', ⟨by have := HK1.out; omega⟩, ⟨by exact HO158.out⟩, ⟨by with_reducible exact HB.out⟩⟩
     ·
      rw [if_neg c9] at H
      have c9b0 : (t153 == 0) = false := beq_eq_false_iff_ne.mpr c9
      have c9b1 : (t153 != 0) = true := bne_iff_ne.mpr c9
      simp only [Option.some.injEq, Prod.mk.injEq] at H
      obtain ⟨rfl, rfl⟩ := H
      have p149 : 0 ≤ (x14_1 : Int) := of_decide_eq_true (by first | (with_reducible assumption) | assumption)
      have q149 : x14_1 < (l0.length : Int) := of_decide_eq_true (by first | (with_reducible assumption) | assumption)
      obtain ⟨ad149, A149_2, c149_2, e149, hx149_0, hx149_1, hx149_2, hl149_2, hi149_2⟩ := at_T117 HR0.out x14_1 p149 q149
      cases e149
      replace hx149_0 := (HB.out.cell (World.block_lt_of_cell? w _ hx149_0)).trans hx149_0
      replace hx149_1 := (HB.out.cell (World.block_lt_of_cell? w _ hx149_1)).trans hx149_1
      replace hx149_2 := (HB.out.cell (World.block_lt_of_cell? w _ hx149_2)).trans hx149_2
      have HR149_2 := Aside0.mk hi149_2
      have HC149_2 := Aside0.mk hl149_2
      clear hi149_2 hl149_2
      replace p149 := eq_true p149
      replace q149 := eq_true q149
      go_wp2_with (first | ((with_reducible refine gate_dst (N := 8) rfl ?_); refine box_event ?hg (N := 8) ?hd (cs := #[.int .i32 0, .int .u32 0, .slice none 0 0]) (t := 117) ?hr ?_; (case hd => rfl); (case hg => rfl); (case hr => first | (go_simp; done) | (go_simp; rfl)); intro gb150 hg w19 hbox hb; have n0_ := Aside0.mk (Kd.S_below (by exact HO_6.out) hb); have n1_ := Aside0.mk (below_step (by with_reducible exact HB.out) hb); have n2_ := Aside0.mk (hbox); have n3_ := Aside0.mk ((by rw [hg]; exact (below_size (by with_reducible exact HB.out)) : w.heap.size ≤ gb150)); have n4_ := Aside0.mk ((by rw [hg]; exact (below_size (by with_reducible exact HB.out)) : w.heap.size ≤ gb150)); clear HO_6; clear HB; have HO_6 := n0_; have HB := n1_; have BK150 := n2_; have GW150 := n3_; have GE150 := n4_; clear n0_ n1_ n2_ n3_ n4_; clear hb hbox hg; have hcz20_0 : w19.cell? ⟨gb150, 0, none⟩ = some (.int .i32 0) := (blk_cell BK150.out 0).trans rfl; have hcz20_1 : w19.cell? ⟨gb150, 1, none⟩ = some (.int .u32 0) := (blk_cell BK150.out 1).trans rfl; have hcz20_2 : w19.cell? ⟨gb150, 2, none⟩ = some (.slice none 0 0) := (blk_cell BK150.out 2).trans rfl; have hfz20_0 := blk_frozen BK150.out 0; have hfz20_1 := blk_frozen BK150.out 1; have hfz20_2 := blk_frozen BK150.out 2) | ((with_reducible refine gate_callee (f := 73) rfl ?_); refine goesL_ (some 20) rfl rfl Try.func73 (by kernel_rfl) rfl #[.agg #[.int .i32 ((rd_T117 l0 x14_1).f0), .int .u32 ((rd_T117 l0 x14_1).f1), .slice A149_2 ((rd_T117 l0 x14_1).f2).length c149_2], .int .i64 a1] rfl (by (try simp only [List.map_toArray, List.map_cons, List.map_nil]); first | done | rfl | (simp only [List.length_drop, List.length_take]; rfl)) ?_; (with_reducible refine (group_Right.calls k1 ((rd_T117 l0 x14_1).f0) ((rd_T117 l0 x14_1).f1) _ _ ((rd_T117 l0 x14_1).f2) a1 t151 _ ?side1 ?side2 A6.out).mono ?_); (case side1 => exact Kd.C_below HR149_2.out (by repeat (first | (with_reducible first | exact HB.out | apply below_alloc | apply pw_below_drewN | apply below_drew1 | refine below_set ?_ GE150.out) | exact HB.out))); (case side2 => exact HC149_2.out); rintro e w21 ⟨rfl, hb⟩; refine ⟨_, rfl, ?_⟩; have n0_ := Aside0.mk (Kd.S_below (by (with_reducible repeat (first | apply Kd.S_alloc | apply Kd.S_drewN | apply Kd.S_drew)); exact (Kd.S_mono (Kd.S_far (p := ⟨gb150, 2, none⟩) (Kd.S_far (p := ⟨gb150, 1, none⟩) (Kd.S_far (p := ⟨gb150, 0, none⟩) (Kd.S_types HO_6.out BK150.out (by decide)) (fun _ hk => hk.2) (.int .i32 ((rd_T117 l0 x14_1).f0))) (fun _ hk => hk.2) (.int .u32 ((rd_T117 l0 x14_1).f1))) (fun _ hk => hk.2) (.slice A149_2 ((rd_T117 l0 x14_1).f2).length c149_2)) (fun _ h_ => h_.1))) hb); have n1_ := Aside0.mk (blk_below (g := gb150) (o := .cells #[.int .i32 ((rd_T117 l0 x14_1).f0), .int .u32 ((rd_T117 l0 x14_1).f1), .slice A149_2 ((rd_T117 l0 x14_1).f2).length c149_2] 117 (0, 0)) (by (with_reducible repeat (first | refine blk_drewN ?_ _ | refine blk_drew ?_ | refine blk_alloc ?_ _)); refine blk_put (cs := #[.int .i32 ((rd_T117 l0 x14_1).f0), .int .u32 ((rd_T117 l0 x14_1).f1), .slice none 0 0]) ?_ 2 _ rfl; (with_reducible repeat (first | refine blk_drewN ?_ _ | refine blk_drew ?_ | refine blk_alloc ?_ _)); refine blk_put (cs := #[.int .i32 ((rd_T117 l0 x14_1).f0), .int .u32 0, .slice none 0 0]) ?_ 1 _ rfl; (with_reducible repeat (first | refine blk_drewN ?_ _ | refine blk_drew ?_ | refine blk_alloc ?_ _)); refine blk_put (cs := #[.int .i32 0, .int .u32 0, .slice none 0 0]) ?_ 0 _ rfl; (with_reducible repeat (first | refine blk_drewN ?_ _ | refine blk_drew ?_ | refine blk_alloc ?_ _)); exact BK150.out) hb); have n2_ := Aside0.mk (below_step (by repeat (first | (with_reducible first | exact HB.out | apply below_alloc | apply pw_below_drewN | apply below_drew1 | refine below_set ?_ GE150.out) | exact HB.out)) hb); clear HO_6; clear BK150; clear HB; have HO_6 := n0_; have BK150 := n1_; have HB := n2_; clear n0_ n1_ n2_; (try clear hb); (try clear hb2); (try clear hk); (try clear hi); have hcz22_0 : w21.cell? ⟨gb150, 0, none⟩ = some (.int .i32 ((rd_T117 l0 x14_1).f0)) := (blk_cell BK150.out 0).trans rfl; have hcz22_1 : w21.cell? ⟨gb150, 1, none⟩ = some (.int .u32 ((rd_T117 l0 x14_1).f1)) := (blk_cell BK150.out 1).trans rfl; have hcz22_2 : w21.cell? ⟨gb150, 2, none⟩ = some (.slice A149_2 ((rd_T117 l0 x14_1).f2).length c149_2) := (blk_cell BK150.out 2).trans rfl; have hfz22_0 := blk_frozen BK150.out 0; have hfz22_1 := blk_frozen BK150.out 1; have hfz22_2 := blk_frozen BK150.out 2) | ((with_reducible refine gate_callee (f := 74) rfl ?_); refine goesL_ (some 28) rfl rfl Try.func74 (by kernel_rfl) rfl #[.slice A149_2 ((rd_T117 l0 x14_1).f2).length c149_2, .int .i64 a1] rfl (by (try simp only [List.map_toArray, List.map_cons, List.map_nil]); first | done | rfl | (simp only [List.length_drop, List.length_take]; rfl)) ?_; (with_reducible refine (pack_Pack.calls k1 _ _ ((rd_T117 l0 x14_1).f2) a1 t152 t153 _ ?side1 ?side2 A8.out).mono ?_); (case side1 => repeat (first | exact (Kd.C_below HR149_2.out HB.out) | (with_reducible refine Kd.C_alloc ?_ _) | (with_reducible refine Kd.C_drewN ?_ _) | (with_reducible refine Kd.C_drew ?_))); (case side2 => exact HC149_2.out); rintro e w23 ⟨v154, rfl, ho0, hb⟩; refine ⟨_, rfl, ?_⟩; have n0_ := Aside0.mk (Kd.S_elder' (by exact HO_6.out) (Kd.R_base ho0) hb); have n1_ := Aside0.mk (Kd.R_lower ho0 (below_size (by with_reducible exact HB.out))); have n2_ := Aside0.mk (blk_below (g := gb150) (o := .cells #[.int .i32 ((rd_T117 l0 x14_1).f0), .int .u32 ((rd_T117 l0 x14_1).f1), .slice A149_2 ((rd_T117 l0 x14_1).f2).length c149_2] 117 (0, 0)) (by exact BK150.out) hb); have n3_ := Aside0.mk (below_step (by with_reducible exact HB.out) hb); clear HO_6; clear BK150; clear HB; have HO_6 := n0_; have HO155 := n1_; have BK150 := n2_; have HB := n3_; clear n0_ n1_ n2_ n3_; (try clear hb); (try clear hb2); (try clear hk); (try clear hi); (try clear ho0)))
      go_ret2
      exact ⟨_, by first | rfl | (simp [errW_none, errW_some] <;> rfl) | (simp [*, errW_none, errW_some] <;> rfl), by first | exact Kd.S_nil _ _ _ _ _ | exact Kd.N_nil _ _ _ _ _ | exact Kd.V_nil _ _ _ _ _ | exact Kd.Q_nil _ _ _ _ _ | exact Kd.R_nil _ _ _ _ _, by with_reducible exact HB.out⟩
    ·
     rw [if_neg c7] at H
     have c7b0 : (t151 == 0) = false := beq_eq_false_iff_ne.mpr c7
     have c7b1 : (t151 != 0) = true := bne_iff_ne.mpr c7
     simp only [Option.some.injEq, Prod.mk.injEq] at H
     obtain ⟨rfl, rfl⟩ := H
     have p149 : 0 ≤ (x14_1 : Int) := of_decide_eq_true (by first | (with_reducible assumption) | assumption)
     have q149 : x14_1 < (l0.length : Int) := of_decide_eq_true (by first | (with_reducible assumption) | assumption)
     obtain ⟨ad149, A149_2, c149_2, e149, hx149_0, hx149_1, hx149_2, hl149_2, hi149_2⟩ := at_T117 HR0.out x14_1 p149 q149
     cases e149
     replace hx149_0 := (HB.out.cell (World.block_lt_of_cell? w _ hx149_0)).trans hx149_0
     replace hx149_1 := (HB.out.cell (World.block_lt_of_cell? w _ hx149_1)).trans hx149_1
     replace hx149_2 := (HB.out.cell (World.block_lt_of_cell? w _ hx149_2)).trans hx149_2
     have HR149_2 := Aside0.mk hi149_2
     have HC149_2 := Aside0.mk hl149_2
     clear hi149_2 hl149_2
     replace p149 := eq_true p149
     replace q149 := eq_true q149
     go_wp2_with (first | ((with_reducible refine gate_dst (N := 8) rfl ?_); refine box_event ?hg (N := 8) ?hd (cs := #[.int .i32 0, .int .u32 0, .slice none 0 0]) (t := 117) ?hr ?_; (case hd => rfl); (case hg => rfl); (case hr => first | (go_simp; done) | (go_simp; rfl)); intro gb150 hg w24 hbox hb; have n0_ := Aside0.mk (Kd.S_below (by exact HO_6.out) hb); have n1_ := Aside0.mk (below_step (by with_reducible exact HB.out) hb); have n2_ := Aside0.mk (hbox); have n3_ := Aside0.mk ((by rw [hg]; exact (below_size (by with_reducible exact HB.out)) : w.heap.size ≤ gb150)); have n4_ := Aside0.mk ((by rw [hg]; exact (below_size (by with_reducible exact HB.out)) : w.heap.size ≤ gb150)); clear HO_6; clear HB; have HO_6 := n0_; have HB := n1_; have BK150 := n2_; have GW150 := n3_; have GE150 := n4_; clear n0_ n1_ n2_ n3_ n4_; clear hb hbox hg; have hcz25_0 : w24.cell? ⟨gb150, 0, none⟩ = some (.int .i32 0) := (blk_cell BK150.out 0).trans rfl; have hcz25_1 : w24.cell? ⟨gb150, 1, none⟩ = some (.int .u32 0) := (blk_cell BK150.out 1).trans rfl; have hcz25_2 : w24.cell? ⟨gb150, 2, none⟩ = some (.slice none 0 0) := (blk_cell BK150.out 2).trans rfl; have hfz25_0 := blk_frozen BK150.out 0; have hfz25_1 := blk_frozen BK150.out 1; have hfz25_2 := blk_frozen BK150.out 2) | ((with_reducible refine gate_callee (f := 73) rfl ?_); refine goesL_ (some 20) rfl rfl Try.func73 (by kernel_rfl) rfl #[.agg #[.int .i32 ((rd_T117 l0 x14_1).f0), .int .u32 ((rd_T117 l0 x14_1).f1), .slice A149_2 ((rd_T117 l0 x14_1).f2).length c149_2], .int .i64 a1] rfl (by (try simp only [List.map_toArray, List.map_cons, List.map_nil]); first | done | rfl | (simp only [List.length_drop, List.length_take]; rfl)) ?_; (with_reducible refine (group_Right.calls k1 ((rd_T117 l0 x14_1).f0) ((rd_T117 l0 x14_1).f1) _ _ ((rd_T117 l0 x14_1).f2) a1 t151 _ ?side1 ?side2 A6.out).mono ?_); (case side1 => exact Kd.C_below HR149_2.out (by repeat (first | (with_reducible first | exact HB.out | apply below_alloc | apply pw_below_drewN | apply below_drew1 | refine below_set ?_ GE150.out) | exact HB.out))); (case side2 => exact HC149_2.out); rintro e w26 ⟨rfl, hb⟩; refine ⟨_, rfl, ?_⟩; have n0_ := Aside0.mk (Kd.S_below (by (with_reducible repeat (first | apply Kd.S_alloc | apply Kd.S_drewN | apply Kd.S_drew)); exact (Kd.S_mono (Kd.S_far (p := ⟨gb150, 2, none⟩) (Kd.S_far (p := ⟨gb150, 1, none⟩) (Kd.S_far (p := ⟨gb150, 0, none⟩) (Kd.S_types HO_6.out BK150.out (by decide)) (fun _ hk => hk.2) (.int .i32 ((rd_T117 l0 x14_1).f0))) (fun _ hk => hk.2) (.int .u32 ((rd_T117 l0 x14_1).f1))) (fun _ hk => hk.2) (.slice A149_2 ((rd_T117 l0 x14_1).f2).length c149_2)) (fun _ h_ => h_.1))) hb); have n1_ := Aside0.mk (blk_below (g := gb150) (o := .cells #[.int .i32 ((rd_T117 l0 x14_1).f0), .int .u32 ((rd_T117 l0 x14_1).f1), .slice A149_2 ((rd_T117 l0 x14_1).f2).length c149_2] 117 (0, 0)) (by (with_reducible repeat (first | refine blk_drewN ?_ _ | refine blk_drew ?_ | refine blk_alloc ?_ _)); refine blk_put (cs := #[.int .i32 ((rd_T117 l0 x14_1).f0), .int .u32 ((rd_T117 l0 x14_1).f1), .slice none 0 0]) ?_ 2 _ rfl; (with_reducible repeat (first | refine blk_drewN ?_ _ | refine blk_drew ?_ | refine blk_alloc ?_ _)); refine blk_put (cs := #[.int .i32 ((rd_T117 l0 x14_1).f0), .int .u32 0, .slice none 0 0]) ?_ 1 _ rfl; (with_reducible repeat (first | refine blk_drewN ?_ _ | refine blk_drew ?_ | refine blk_alloc ?_ _)); refine blk_put (cs := #[.int .i32 0, .int .u32 0, .slice none 0 0]) ?_ 0 _ rfl; (with_reducible repeat (first | refine blk_drewN ?_ _ | refine blk_drew ?_ | refine blk_alloc ?_ _)); exact BK150.out) hb); have n2_ := Aside0.mk (below_step (by repeat (first | (with_reducible first | exact HB.out | apply below_alloc | apply pw_below_drewN | apply below_drew1 | refine below_set ?_ GE150.out) | exact HB.out)) hb); clear HO_6; clear BK150; clear HB; have HO_6 := n0_; have BK150 := n1_; have HB := n2_; clear n0_ n1_ n2_; (try clear hb); (try clear hb2); (try clear hk); (try clear hi)))
     go_ret2
     exact ⟨_, by first | rfl | (simp [errW_none, errW_some] <;> rfl) | (simp [*, errW_none, errW_some] <;> rfl), by first | exact Kd.S_nil _ _ _ _ _ | exact Kd.N_nil _ _ _ _ _ | exact Kd.V_nil _ _ _ _ _ | exact Kd.Q_nil _ _ _ _ _ | exact Kd.R_nil _ _ _ _ _, by with_reducible exact HB.out⟩
   ·
    rw [if_neg c3] at H
    have c3b0 : decide (x14_1 < (l0.length : Int)) = false := decide_eq_false c3
    clear c3
    simp only [Option.some.injEq, Prod.mk.injEq] at H
    obtain ⟨rfl, rfl⟩ := H
    go_wp2
    go_ret2
    exact ⟨_, by first | rfl | (simp [errW_none, errW_some] <;> rfl) | (simp [*, errW_none, errW_some] <;> rfl), by exact HO_6.out, by with_reducible exact HB.out⟩

/-! ### page_New: function 63 -/
theorem R_box {α : Type} (d : Kd α) (e : Nat) (W : World) (base : Nat) {x : α} {cs : List Value} {okp : Nat → Prop} (hM : d.M W base okp x cs) (hb : base ≤ W.heap.size) : d.R e (W.alloc (.cells cs.toArray e)) base (fun _ => True) (.slice (some ⟨W.heap.size, 0, none⟩) 1 1) [x] := by
 have hlen : cs.length = d.sz := d.K_len (d.K_of_M hM)
 have hrep : Reps (d.M W base okp) d.sz [x] cs := by simpa using (Reps.none (d.M W base okp) d.sz).snoc hM hlen
 refine ⟨fun k hk => trivial, cs, ?_, ?_⟩
 ·
  have h2 := World.ownsRow_lit (base := base) (e := e) (size := d.sz) W cs.toArray 1 hb (by decide) (by simpa using hlen)
  simpa using h2
 ·
  refine hrep.imp_ (fun p c hp => d.M_mono (fun k hk => ⟨trivial, fun he => ?_⟩) (Kd.M_below (d.M_bound hp) (below_alloc (Below.refl _ _) _)))
  have h3 : k = W.heap.size := by simpa [Value.ownBlock] using he
  have := hk.2.2.1
  omega
def page_New.f (k : Nat) (a0_0 : Int) (a0_1 : Int) (a0_2 : Int) (a0_3 : Int) (a0_4 : Int) (a0_5 : Int) (a0_6 : Int) (l1 : List S117) (l2 : List S117) : Option (List S96 × Int) :=
 (page_Right.f a0_0 a0_1 a0_2 a0_3 a0_4 a0_5 a0_6).bind fun b => if b = true then
  (page_codes.f k l1 a0_3 a0_2).bind fun c => if c = true then
   (page_codes.f k l2 a0_2 a0_3).bind fun d => if d = true then
    (page_packAll.f k l1 a0_0).bind fun p => if p.2 = 0 then
     (page_packAll.f k l2 a0_1).bind fun q => if q.2 = 0 then some ([⟨⟨a0_0, a0_1, a0_2, a0_3, a0_4, a0_5, a0_6⟩, p.1, q.1⟩], 0)
     else some ([], q.2)
    else some ([], p.2)
   else some ([], 25)
  else some ([], 25)
 else some ([], 11)
theorem page_New.mono : ∀ a0_0 a0_1 a0_2 a0_3 a0_4 a0_5 a0_6 l1 l2 k, LeO (page_New.f k a0_0 a0_1 a0_2 a0_3 a0_4 a0_5 a0_6 l1 l2) (page_New.f (k + 1) a0_0 a0_1 a0_2 a0_3 a0_4 a0_5 a0_6 l1 l2) := by
 intro a0_0 a0_1 a0_2 a0_3 a0_4 a0_5 a0_6 l1 l2 k
 unfold page_New.f
 repeat' first
   | (with_reducible exact LeO.refl _)
   | (with_reducible exact LeO.none _)
   | (with_reducible exact page_codes.mono _ _ _ _)
   | (with_reducible exact page_packAll.mono _ _ _)
   | (with_reducible refine LeO.ite ?_ ?_)
   | (with_reducible refine LeO.bind ?_ (fun _ => ?_))
   | exact LeO.none _
   | refine LeO.ite ?_ ?_
   | refine LeO.bind ?_ (fun _ => ?_)
set_option maxHeartbeats 8000000 in
set_option maxRecDepth 100000 in
theorem page_New.calls (k : Nat) (a0_0 : Int) (a0_1 : Int) (a0_2 : Int) (a0_3 : Int) (a0_4 : Int) (a0_5 : Int) (a0_6 : Int) (A1 : Option Addr) (c1 : Nat) (l1 : List S117) (A2 : Option Addr) (c2 : Nat) (l2 : List S117) (r1 : List S96) (r2 : Int) (w : World)
  (hr1 : Kd.C k117 w A1 l1.length l1) (hc1 : l1.length ≤ c1) (hr2 : Kd.C k117 w A2 l2.length l2) (hc2 : l2.length ≤ c2) (h : page_New.f k a0_0 a0_1 a0_2 a0_3 a0_4 a0_5 a0_6 l1 l2 = some (r1, r2)) :
  Calls Try.prog 63 #[.agg #[.int .i64 a0_0, .int .i64 a0_1, .int .i64 a0_2, .int .i64 a0_3, .int .i64 a0_4, .int .i64 a0_5, .int .i64 a0_6], .slice A1 l1.length c1, .slice A2 l2.length c2] w fun e w' => ∃ v0_ : Value, e = .returned (.tuple #[asPtr v0_, .int .i64 r2]) ∧ Kd.R k96 96 w' w.heap.size (fun _ => True) v0_ r1 ∧ Below w.heap.size w w' := by
 have HR1 := Aside0.mk hr1
 have HC1 := Aside0.mk hc1
 have HR2 := Aside0.mk hr2
 have HC2 := Aside0.mk hc2
 clear hr1 hc1 hr2 hc2
 unfold page_New.f at h
 obtain ⟨b, hx, h⟩ := Option.bind_eq_some_iff.mp h
 have X1 := Aside0.mk hx
 clear hx
 cases b with
 | false =>
  rw [if_neg (by decide)] at h
  simp only [Option.some.injEq, Prod.mk.injEq] at h
  obtain ⟨rfl, rfl⟩ := h
  go_enter Try.func63, Try.ntmps63
  go_wp2_with (first | (go_at_call 60; (with_reducible refine (page_Right.calls a0_0 a0_1 a0_2 a0_3 a0_4 a0_5 a0_6 false _ X1.out).mono ?_); rintro e w1 ⟨rfl, hb⟩; have BT1 := Aside0.mk (blk_below (blk_new w (.cells #[.int .i64 a0_0, .int .i64 a0_1, .int .i64 a0_2, .int .i64 a0_3, .int .i64 a0_4, .int .i64 a0_5, .int .i64 a0_6] 48)) hb); have hq1_0 : w1.cell? ⟨w.heap.size, 0, none⟩ = some (.int .i64 a0_0) := (blk_cell BT1.out 0).trans rfl; have hq1_1 : w1.cell? ⟨w.heap.size, 1, none⟩ = some (.int .i64 a0_1) := (blk_cell BT1.out 1).trans rfl; have hq1_2 : w1.cell? ⟨w.heap.size, 2, none⟩ = some (.int .i64 a0_2) := (blk_cell BT1.out 2).trans rfl; have hq1_3 : w1.cell? ⟨w.heap.size, 3, none⟩ = some (.int .i64 a0_3) := (blk_cell BT1.out 3).trans rfl; have hq1_4 : w1.cell? ⟨w.heap.size, 4, none⟩ = some (.int .i64 a0_4) := (blk_cell BT1.out 4).trans rfl; have hq1_5 : w1.cell? ⟨w.heap.size, 5, none⟩ = some (.int .i64 a0_5) := (blk_cell BT1.out 5).trans rfl; have hq1_6 : w1.cell? ⟨w.heap.size, 6, none⟩ = some (.int .i64 a0_6) := (blk_cell BT1.out 6).trans rfl; have HB1 := Aside0.mk (below_step (below_alloc (Below.refl w.heap.size w) (.cells #[.int .i64 a0_0, .int .i64 a0_1, .int .i64 a0_2, .int .i64 a0_3, .int .i64 a0_4, .int .i64 a0_5, .int .i64 a0_6] 48)) hb); clear hb))
  go_ret2
  exact ⟨.slice none 0 0, by first | rfl | simp [asPtr], Kd.R_nil _ _ _ _ _, HB1.out⟩
 | true =>
  rw [if_pos rfl] at h
  obtain ⟨c, hx, h⟩ := Option.bind_eq_some_iff.mp h
  have X2 := Aside0.mk hx
  clear hx
  cases c with
  | false =>
   rw [if_neg (by decide)] at h
   simp only [Option.some.injEq, Prod.mk.injEq] at h
   obtain ⟨rfl, rfl⟩ := h
   go_enter Try.func63, Try.ntmps63
   go_wp2_with (first | (go_at_call 60; (with_reducible refine (page_Right.calls a0_0 a0_1 a0_2 a0_3 a0_4 a0_5 a0_6 true _ X1.out).mono ?_); rintro e w1 ⟨rfl, hb⟩; have BT1 := Aside0.mk (blk_below (blk_new w (.cells #[.int .i64 a0_0, .int .i64 a0_1, .int .i64 a0_2, .int .i64 a0_3, .int .i64 a0_4, .int .i64 a0_5, .int .i64 a0_6] 48)) hb); have hq1_0 : w1.cell? ⟨w.heap.size, 0, none⟩ = some (.int .i64 a0_0) := (blk_cell BT1.out 0).trans rfl; have hq1_1 : w1.cell? ⟨w.heap.size, 1, none⟩ = some (.int .i64 a0_1) := (blk_cell BT1.out 1).trans rfl; have hq1_2 : w1.cell? ⟨w.heap.size, 2, none⟩ = some (.int .i64 a0_2) := (blk_cell BT1.out 2).trans rfl; have hq1_3 : w1.cell? ⟨w.heap.size, 3, none⟩ = some (.int .i64 a0_3) := (blk_cell BT1.out 3).trans rfl; have hq1_4 : w1.cell? ⟨w.heap.size, 4, none⟩ = some (.int .i64 a0_4) := (blk_cell BT1.out 4).trans rfl; have hq1_5 : w1.cell? ⟨w.heap.size, 5, none⟩ = some (.int .i64 a0_5) := (blk_cell BT1.out 5).trans rfl; have hq1_6 : w1.cell? ⟨w.heap.size, 6, none⟩ = some (.int .i64 a0_6) := (blk_cell BT1.out 6).trans rfl; have HB1 := Aside0.mk (below_step (below_alloc (Below.refl w.heap.size w) (.cells #[.int .i64 a0_0, .int .i64 a0_1, .int .i64 a0_2, .int .i64 a0_3, .int .i64 a0_4, .int .i64 a0_5, .int .i64 a0_6] 48)) hb); clear hb) | (go_at_call 71; (with_reducible refine (page_codes.calls k A1 c1 l1 a0_3 a0_2 false _ ?q1 ?q2 X2.out).mono ?_); (case q1 => exact Kd.C_below HR1.out HB1.out); (case q2 => exact HC1.out); rintro e w2 ⟨rfl, hb⟩; have BT2 := Aside0.mk (blk_below BT1.out hb); have hq2_0 : w2.cell? ⟨w.heap.size, 0, none⟩ = some (.int .i64 a0_0) := (blk_cell BT2.out 0).trans rfl; have hq2_1 : w2.cell? ⟨w.heap.size, 1, none⟩ = some (.int .i64 a0_1) := (blk_cell BT2.out 1).trans rfl; have hq2_2 : w2.cell? ⟨w.heap.size, 2, none⟩ = some (.int .i64 a0_2) := (blk_cell BT2.out 2).trans rfl; have hq2_3 : w2.cell? ⟨w.heap.size, 3, none⟩ = some (.int .i64 a0_3) := (blk_cell BT2.out 3).trans rfl; have hq2_4 : w2.cell? ⟨w.heap.size, 4, none⟩ = some (.int .i64 a0_4) := (blk_cell BT2.out 4).trans rfl; have hq2_5 : w2.cell? ⟨w.heap.size, 5, none⟩ = some (.int .i64 a0_5) := (blk_cell BT2.out 5).trans rfl; have hq2_6 : w2.cell? ⟨w.heap.size, 6, none⟩ = some (.int .i64 a0_6) := (blk_cell BT2.out 6).trans rfl; have HB2 := Aside0.mk (below_step HB1.out hb); clear hb))
   go_ret2
   exact ⟨.slice none 0 0, by first | rfl | simp [asPtr], Kd.R_nil _ _ _ _ _, HB2.out⟩
  | true =>
   rw [if_pos rfl] at h
   obtain ⟨d, hx, h⟩ := Option.bind_eq_some_iff.mp h
   have X3 := Aside0.mk hx
   clear hx
   cases d with
   | false =>
    rw [if_neg (by decide)] at h
    simp only [Option.some.injEq, Prod.mk.injEq] at h
    obtain ⟨rfl, rfl⟩ := h
    go_enter Try.func63, Try.ntmps63
    go_wp2_with (first | (go_at_call 60; (with_reducible refine (page_Right.calls a0_0 a0_1 a0_2 a0_3 a0_4 a0_5 a0_6 true _ X1.out).mono ?_); rintro e w1 ⟨rfl, hb⟩; have BT1 := Aside0.mk (blk_below (blk_new w (.cells #[.int .i64 a0_0, .int .i64 a0_1, .int .i64 a0_2, .int .i64 a0_3, .int .i64 a0_4, .int .i64 a0_5, .int .i64 a0_6] 48)) hb); have hq1_0 : w1.cell? ⟨w.heap.size, 0, none⟩ = some (.int .i64 a0_0) := (blk_cell BT1.out 0).trans rfl; have hq1_1 : w1.cell? ⟨w.heap.size, 1, none⟩ = some (.int .i64 a0_1) := (blk_cell BT1.out 1).trans rfl; have hq1_2 : w1.cell? ⟨w.heap.size, 2, none⟩ = some (.int .i64 a0_2) := (blk_cell BT1.out 2).trans rfl; have hq1_3 : w1.cell? ⟨w.heap.size, 3, none⟩ = some (.int .i64 a0_3) := (blk_cell BT1.out 3).trans rfl; have hq1_4 : w1.cell? ⟨w.heap.size, 4, none⟩ = some (.int .i64 a0_4) := (blk_cell BT1.out 4).trans rfl; have hq1_5 : w1.cell? ⟨w.heap.size, 5, none⟩ = some (.int .i64 a0_5) := (blk_cell BT1.out 5).trans rfl; have hq1_6 : w1.cell? ⟨w.heap.size, 6, none⟩ = some (.int .i64 a0_6) := (blk_cell BT1.out 6).trans rfl; have HB1 := Aside0.mk (below_step (below_alloc (Below.refl w.heap.size w) (.cells #[.int .i64 a0_0, .int .i64 a0_1, .int .i64 a0_2, .int .i64 a0_3, .int .i64 a0_4, .int .i64 a0_5, .int .i64 a0_6] 48)) hb); clear hb) | (go_at_call 71; (with_reducible refine (page_codes.calls k A1 c1 l1 a0_3 a0_2 true _ ?q1 ?q2 X2.out).mono ?_); (case q1 => exact Kd.C_below HR1.out HB1.out); (case q2 => exact HC1.out); rintro e w2 ⟨rfl, hb⟩; have BT2 := Aside0.mk (blk_below BT1.out hb); have hq2_0 : w2.cell? ⟨w.heap.size, 0, none⟩ = some (.int .i64 a0_0) := (blk_cell BT2.out 0).trans rfl; have hq2_1 : w2.cell? ⟨w.heap.size, 1, none⟩ = some (.int .i64 a0_1) := (blk_cell BT2.out 1).trans rfl; have hq2_2 : w2.cell? ⟨w.heap.size, 2, none⟩ = some (.int .i64 a0_2) := (blk_cell BT2.out 2).trans rfl; have hq2_3 : w2.cell? ⟨w.heap.size, 3, none⟩ = some (.int .i64 a0_3) := (blk_cell BT2.out 3).trans rfl; have hq2_4 : w2.cell? ⟨w.heap.size, 4, none⟩ = some (.int .i64 a0_4) := (blk_cell BT2.out 4).trans rfl; have hq2_5 : w2.cell? ⟨w.heap.size, 5, none⟩ = some (.int .i64 a0_5) := (blk_cell BT2.out 5).trans rfl; have hq2_6 : w2.cell? ⟨w.heap.size, 6, none⟩ = some (.int .i64 a0_6) := (blk_cell BT2.out 6).trans rfl; have HB2 := Aside0.mk (below_step HB1.out hb); clear hb) | (go_at_call 71; (with_reducible refine (page_codes.calls k A2 c2 l2 a0_2 a0_3 false _ ?q1 ?q2 X3.out).mono ?_); (case q1 => exact Kd.C_below HR2.out HB2.out); (case q2 => exact HC2.out); rintro e w3 ⟨rfl, hb⟩; have BT3 := Aside0.mk (blk_below BT2.out hb); have hq3_0 : w3.cell? ⟨w.heap.size, 0, none⟩ = some (.int .i64 a0_0) := (blk_cell BT3.out 0).trans rfl; have hq3_1 : w3.cell? ⟨w.heap.size, 1, none⟩ = some (.int .i64 a0_1) := (blk_cell BT3.out 1).trans rfl; have hq3_2 : w3.cell? ⟨w.heap.size, 2, none⟩ = some (.int .i64 a0_2) := (blk_cell BT3.out 2).trans rfl; have hq3_3 : w3.cell? ⟨w.heap.size, 3, none⟩ = some (.int .i64 a0_3) := (blk_cell BT3.out 3).trans rfl; have hq3_4 : w3.cell? ⟨w.heap.size, 4, none⟩ = some (.int .i64 a0_4) := (blk_cell BT3.out 4).trans rfl; have hq3_5 : w3.cell? ⟨w.heap.size, 5, none⟩ = some (.int .i64 a0_5) := (blk_cell BT3.out 5).trans rfl; have hq3_6 : w3.cell? ⟨w.heap.size, 6, none⟩ = some (.int .i64 a0_6) := (blk_cell BT3.out 6).trans rfl; have HB3 := Aside0.mk (below_step HB2.out hb); clear hb))
    go_ret2
    exact ⟨.slice none 0 0, by first | rfl | simp [asPtr], Kd.R_nil _ _ _ _ _, HB3.out⟩
   | true =>
    rw [if_pos rfl] at h
    obtain ⟨⟨p1, p2⟩, hx, h⟩ := Option.bind_eq_some_iff.mp h
    have X4 := Aside0.mk hx
    clear hx
    by_cases c9 : ¬ (p2 = 0)
    ·
     rw [if_neg c9] at h
     simp only [Option.some.injEq, Prod.mk.injEq] at h
     obtain ⟨rfl, rfl⟩ := h
     have d1 : (p2 == 0) = false := beq_eq_false_iff_ne.2 c9
     have d2 : (p2 != 0) = true := bne_iff_ne.2 c9
     clear c9
     go_enter Try.func63, Try.ntmps63
     go_wp2_with (first | (go_at_call 60; (with_reducible refine (page_Right.calls a0_0 a0_1 a0_2 a0_3 a0_4 a0_5 a0_6 true _ X1.out).mono ?_); rintro e w1 ⟨rfl, hb⟩; have BT1 := Aside0.mk (blk_below (blk_new w (.cells #[.int .i64 a0_0, .int .i64 a0_1, .int .i64 a0_2, .int .i64 a0_3, .int .i64 a0_4, .int .i64 a0_5, .int .i64 a0_6] 48)) hb); have hq1_0 : w1.cell? ⟨w.heap.size, 0, none⟩ = some (.int .i64 a0_0) := (blk_cell BT1.out 0).trans rfl; have hq1_1 : w1.cell? ⟨w.heap.size, 1, none⟩ = some (.int .i64 a0_1) := (blk_cell BT1.out 1).trans rfl; have hq1_2 : w1.cell? ⟨w.heap.size, 2, none⟩ = some (.int .i64 a0_2) := (blk_cell BT1.out 2).trans rfl; have hq1_3 : w1.cell? ⟨w.heap.size, 3, none⟩ = some (.int .i64 a0_3) := (blk_cell BT1.out 3).trans rfl; have hq1_4 : w1.cell? ⟨w.heap.size, 4, none⟩ = some (.int .i64 a0_4) := (blk_cell BT1.out 4).trans rfl; have hq1_5 : w1.cell? ⟨w.heap.size, 5, none⟩ = some (.int .i64 a0_5) := (blk_cell BT1.out 5).trans rfl; have hq1_6 : w1.cell? ⟨w.heap.size, 6, none⟩ = some (.int .i64 a0_6) := (blk_cell BT1.out 6).trans rfl; have HB1 := Aside0.mk (below_step (below_alloc (Below.refl w.heap.size w) (.cells #[.int .i64 a0_0, .int .i64 a0_1, .int .i64 a0_2, .int .i64 a0_3, .int .i64 a0_4, .int .i64 a0_5, .int .i64 a0_6] 48)) hb); clear hb) | (go_at_call 71; (with_reducible refine (page_codes.calls k A1 c1 l1 a0_3 a0_2 true _ ?q1 ?q2 X2.out).mono ?_); (case q1 => exact Kd.C_below HR1.out HB1.out); (case q2 => exact HC1.out); rintro e w2 ⟨rfl, hb⟩; have BT2 := Aside0.mk (blk_below BT1.out hb); have hq2_0 : w2.cell? ⟨w.heap.size, 0, none⟩ = some (.int .i64 a0_0) := (blk_cell BT2.out 0).trans rfl; have hq2_1 : w2.cell? ⟨w.heap.size, 1, none⟩ = some (.int .i64 a0_1) := (blk_cell BT2.out 1).trans rfl; have hq2_2 : w2.cell? ⟨w.heap.size, 2, none⟩ = some (.int .i64 a0_2) := (blk_cell BT2.out 2).trans rfl; have hq2_3 : w2.cell? ⟨w.heap.size, 3, none⟩ = some (.int .i64 a0_3) := (blk_cell BT2.out 3).trans rfl; have hq2_4 : w2.cell? ⟨w.heap.size, 4, none⟩ = some (.int .i64 a0_4) := (blk_cell BT2.out 4).trans rfl; have hq2_5 : w2.cell? ⟨w.heap.size, 5, none⟩ = some (.int .i64 a0_5) := (blk_cell BT2.out 5).trans rfl; have hq2_6 : w2.cell? ⟨w.heap.size, 6, none⟩ = some (.int .i64 a0_6) := (blk_cell BT2.out 6).trans rfl; have HB2 := Aside0.mk (below_step HB1.out hb); clear hb) | (go_at_call 71; (with_reducible refine (page_codes.calls k A2 c2 l2 a0_2 a0_3 true _ ?q1 ?q2 X3.out).mono ?_); (case q1 => exact Kd.C_below HR2.out HB2.out); (case q2 => exact HC2.out); rintro e w3 ⟨rfl, hb⟩; have BT3 := Aside0.mk (blk_below BT2.out hb); have hq3_0 : w3.cell? ⟨w.heap.size, 0, none⟩ = some (.int .i64 a0_0) := (blk_cell BT3.out 0).trans rfl; have hq3_1 : w3.cell? ⟨w.heap.size, 1, none⟩ = some (.int .i64 a0_1) := (blk_cell BT3.out 1).trans rfl; have hq3_2 : w3.cell? ⟨w.heap.size, 2, none⟩ = some (.int .i64 a0_2) := (blk_cell BT3.out 2).trans rfl; have hq3_3 : w3.cell? ⟨w.heap.size, 3, none⟩ = some (.int .i64 a0_3) := (blk_cell BT3.out 3).trans rfl; have hq3_4 : w3.cell? ⟨w.heap.size, 4, none⟩ = some (.int .i64 a0_4) := (blk_cell BT3.out 4).trans rfl; have hq3_5 : w3.cell? ⟨w.heap.size, 5, none⟩ = some (.int .i64 a0_5) := (blk_cell BT3.out 5).trans rfl; have hq3_6 : w3.cell? ⟨w.heap.size, 6, none⟩ = some (.int .i64 a0_6) := (blk_cell BT3.out 6).trans rfl; have HB3 := Aside0.mk (below_step HB2.out hb); clear hb) | (go_at_call 72; (with_reducible refine (page_packAll.calls k A1 c1 l1 a0_0 p1 p2 _ ?q1 ?q2 X4.out).mono ?_); (case q1 => exact Kd.C_below HR1.out HB3.out); (case q2 => exact HC1.out); rintro e w4 ⟨v1, rfl, ho, hb⟩; obtain ⟨B1, d1, e1⟩ := Kd.R_slice (Kd.S_R ho); subst e1; have BT4 := Aside0.mk (blk_below BT3.out hb); have hq4_0 : w4.cell? ⟨w.heap.size, 0, none⟩ = some (.int .i64 a0_0) := (blk_cell BT4.out 0).trans rfl; have hq4_1 : w4.cell? ⟨w.heap.size, 1, none⟩ = some (.int .i64 a0_1) := (blk_cell BT4.out 1).trans rfl; have hq4_2 : w4.cell? ⟨w.heap.size, 2, none⟩ = some (.int .i64 a0_2) := (blk_cell BT4.out 2).trans rfl; have hq4_3 : w4.cell? ⟨w.heap.size, 3, none⟩ = some (.int .i64 a0_3) := (blk_cell BT4.out 3).trans rfl; have hq4_4 : w4.cell? ⟨w.heap.size, 4, none⟩ = some (.int .i64 a0_4) := (blk_cell BT4.out 4).trans rfl; have hq4_5 : w4.cell? ⟨w.heap.size, 5, none⟩ = some (.int .i64 a0_5) := (blk_cell BT4.out 5).trans rfl; have hq4_6 : w4.cell? ⟨w.heap.size, 6, none⟩ = some (.int .i64 a0_6) := (blk_cell BT4.out 6).trans rfl; have HB4 := Aside0.mk (below_step HB3.out hb); have HO1 := Aside0.mk (Kd.R_lower (Kd.S_R ho) HB3.out.size); clear hb ho))
     go_ret2
     exact ⟨.slice none 0 0, by first | rfl | simp [asPtr], Kd.R_nil _ _ _ _ _, HB4.out⟩
    ·
     have c0 := Classical.not_not.1 c9; clear c9; rw [if_pos c0] at h
     subst c0
     obtain ⟨⟨q1, q2⟩, hx, h⟩ := Option.bind_eq_some_iff.mp h
     have X5 := Aside0.mk hx
     clear hx
     by_cases c10 : ¬ (q2 = 0)
     ·
      rw [if_neg c10] at h
      simp only [Option.some.injEq, Prod.mk.injEq] at h
      obtain ⟨rfl, rfl⟩ := h
      have d1 : (q2 == 0) = false := beq_eq_false_iff_ne.2 c10
      have d2 : (q2 != 0) = true := bne_iff_ne.2 c10
      clear c10
      go_enter Try.func63, Try.ntmps63
      go_wp2_with (first | (go_at_call 60; (with_reducible refine (page_Right.calls a0_0 a0_1 a0_2 a0_3 a0_4 a0_5 a0_6 true _ X1.out).mono ?_); rintro e w1 ⟨rfl, hb⟩; have BT1 := Aside0.mk (blk_below (blk_new w (.cells #[.int .i64 a0_0, .int .i64 a0_1, .int .i64 a0_2, .int .i64 a0_3, .int .i64 a0_4, .int .i64 a0_5, .int .i64 a0_6] 48)) hb); have hq1_0 : w1.cell? ⟨w.heap.size, 0, none⟩ = some (.int .i64 a0_0) := (blk_cell BT1.out 0).trans rfl; have hq1_1 : w1.cell? ⟨w.heap.size, 1, none⟩ = some (.int .i64 a0_1) := (blk_cell BT1.out 1).trans rfl; have hq1_2 : w1.cell? ⟨w.heap.size, 2, none⟩ = some (.int .i64 a0_2) := (blk_cell BT1.out 2).trans rfl; have hq1_3 : w1.cell? ⟨w.heap.size, 3, none⟩ = some (.int .i64 a0_3) := (blk_cell BT1.out 3).trans rfl; have hq1_4 : w1.cell? ⟨w.heap.size, 4, none⟩ = some (.int .i64 a0_4) := (blk_cell BT1.out 4).trans rfl; have hq1_5 : w1.cell? ⟨w.heap.size, 5, none⟩ = some (.int .i64 a0_5) := (blk_cell BT1.out 5).trans rfl; have hq1_6 : w1.cell? ⟨w.heap.size, 6, none⟩ = some (.int .i64 a0_6) := (blk_cell BT1.out 6).trans rfl; have HB1 := Aside0.mk (below_step (below_alloc (Below.refl w.heap.size w) (.cells #[.int .i64 a0_0, .int .i64 a0_1, .int .i64 a0_2, .int .i64 a0_3, .int .i64 a0_4, .int .i64 a0_5, .int .i64 a0_6] 48)) hb); clear hb) | (go_at_call 71; (with_reducible refine (page_codes.calls k A1 c1 l1 a0_3 a0_2 true _ ?q1 ?q2 X2.out).mono ?_); (case q1 => exact Kd.C_below HR1.out HB1.out); (case q2 => exact HC1.out); rintro e w2 ⟨rfl, hb⟩; have BT2 := Aside0.mk (blk_below BT1.out hb); have hq2_0 : w2.cell? ⟨w.heap.size, 0, none⟩ = some (.int .i64 a0_0) := (blk_cell BT2.out 0).trans rfl; have hq2_1 : w2.cell? ⟨w.heap.size, 1, none⟩ = some (.int .i64 a0_1) := (blk_cell BT2.out 1).trans rfl; have hq2_2 : w2.cell? ⟨w.heap.size, 2, none⟩ = some (.int .i64 a0_2) := (blk_cell BT2.out 2).trans rfl; have hq2_3 : w2.cell? ⟨w.heap.size, 3, none⟩ = some (.int .i64 a0_3) := (blk_cell BT2.out 3).trans rfl; have hq2_4 : w2.cell? ⟨w.heap.size, 4, none⟩ = some (.int .i64 a0_4) := (blk_cell BT2.out 4).trans rfl; have hq2_5 : w2.cell? ⟨w.heap.size, 5, none⟩ = some (.int .i64 a0_5) := (blk_cell BT2.out 5).trans rfl; have hq2_6 : w2.cell? ⟨w.heap.size, 6, none⟩ = some (.int .i64 a0_6) := (blk_cell BT2.out 6).trans rfl; have HB2 := Aside0.mk (below_step HB1.out hb); clear hb) | (go_at_call 71; (with_reducible refine (page_codes.calls k A2 c2 l2 a0_2 a0_3 true _ ?q1 ?q2 X3.out).mono ?_); (case q1 => exact Kd.C_below HR2.out HB2.out); (case q2 => exact HC2.out); rintro e w3 ⟨rfl, hb⟩; have BT3 := Aside0.mk (blk_below BT2.out hb); have hq3_0 : w3.cell? ⟨w.heap.size, 0, none⟩ = some (.int .i64 a0_0) := (blk_cell BT3.out 0).trans rfl; have hq3_1 : w3.cell? ⟨w.heap.size, 1, none⟩ = some (.int .i64 a0_1) := (blk_cell BT3.out 1).trans rfl; have hq3_2 : w3.cell? ⟨w.heap.size, 2, none⟩ = some (.int .i64 a0_2) := (blk_cell BT3.out 2).trans rfl; have hq3_3 : w3.cell? ⟨w.heap.size, 3, none⟩ = some (.int .i64 a0_3) := (blk_cell BT3.out 3).trans rfl; have hq3_4 : w3.cell? ⟨w.heap.size, 4, none⟩ = some (.int .i64 a0_4) := (blk_cell BT3.out 4).trans rfl; have hq3_5 : w3.cell? ⟨w.heap.size, 5, none⟩ = some (.int .i64 a0_5) := (blk_cell BT3.out 5).trans rfl; have hq3_6 : w3.cell? ⟨w.heap.size, 6, none⟩ = some (.int .i64 a0_6) := (blk_cell BT3.out 6).trans rfl; have HB3 := Aside0.mk (below_step HB2.out hb); clear hb) | (go_at_call 72; (with_reducible refine (page_packAll.calls k A1 c1 l1 a0_0 p1 0 _ ?q1 ?q2 X4.out).mono ?_); (case q1 => exact Kd.C_below HR1.out HB3.out); (case q2 => exact HC1.out); rintro e w4 ⟨v1, rfl, ho, hb⟩; obtain ⟨B1, d1, e1⟩ := Kd.R_slice (Kd.S_R ho); subst e1; have BT4 := Aside0.mk (blk_below BT3.out hb); have hq4_0 : w4.cell? ⟨w.heap.size, 0, none⟩ = some (.int .i64 a0_0) := (blk_cell BT4.out 0).trans rfl; have hq4_1 : w4.cell? ⟨w.heap.size, 1, none⟩ = some (.int .i64 a0_1) := (blk_cell BT4.out 1).trans rfl; have hq4_2 : w4.cell? ⟨w.heap.size, 2, none⟩ = some (.int .i64 a0_2) := (blk_cell BT4.out 2).trans rfl; have hq4_3 : w4.cell? ⟨w.heap.size, 3, none⟩ = some (.int .i64 a0_3) := (blk_cell BT4.out 3).trans rfl; have hq4_4 : w4.cell? ⟨w.heap.size, 4, none⟩ = some (.int .i64 a0_4) := (blk_cell BT4.out 4).trans rfl; have hq4_5 : w4.cell? ⟨w.heap.size, 5, none⟩ = some (.int .i64 a0_5) := (blk_cell BT4.out 5).trans rfl; have hq4_6 : w4.cell? ⟨w.heap.size, 6, none⟩ = some (.int .i64 a0_6) := (blk_cell BT4.out 6).trans rfl; have HB4 := Aside0.mk (below_step HB3.out hb); have HO1 := Aside0.mk (Kd.R_lower (Kd.S_R ho) HB3.out.size); clear hb ho) | (go_at_call 72; (with_reducible refine (page_packAll.calls k A2 c2 l2 a0_1 q1 q2 _ ?q1 ?q2 X5.out).mono ?_); (case q1 => exact Kd.C_below HR2.out HB4.out); (case q2 => exact HC2.out); rintro e w5 ⟨v2, rfl, ho, hb⟩; obtain ⟨B2, d2, e2⟩ := Kd.R_slice (Kd.S_R ho); subst e2; have BT5 := Aside0.mk (blk_below BT4.out hb); have hq5_0 : w5.cell? ⟨w.heap.size, 0, none⟩ = some (.int .i64 a0_0) := (blk_cell BT5.out 0).trans rfl; have hq5_1 : w5.cell? ⟨w.heap.size, 1, none⟩ = some (.int .i64 a0_1) := (blk_cell BT5.out 1).trans rfl; have hq5_2 : w5.cell? ⟨w.heap.size, 2, none⟩ = some (.int .i64 a0_2) := (blk_cell BT5.out 2).trans rfl; have hq5_3 : w5.cell? ⟨w.heap.size, 3, none⟩ = some (.int .i64 a0_3) := (blk_cell BT5.out 3).trans rfl; have hq5_4 : w5.cell? ⟨w.heap.size, 4, none⟩ = some (.int .i64 a0_4) := (blk_cell BT5.out 4).trans rfl; have hq5_5 : w5.cell? ⟨w.heap.size, 5, none⟩ = some (.int .i64 a0_5) := (blk_cell BT5.out 5).trans rfl; have hq5_6 : w5.cell? ⟨w.heap.size, 6, none⟩ = some (.int .i64 a0_6) := (blk_cell BT5.out 6).trans rfl; have HB5 := Aside0.mk (below_step HB4.out hb); have HO1b := Aside0.mk (Kd.R_below HO1.out hb); have HO2 := Aside0.mk (Kd.R_lower (Kd.S_R ho) HB4.out.size); clear hb ho))
      go_ret2
      exact ⟨.slice none 0 0, by first | rfl | simp [asPtr], Kd.R_nil _ _ _ _ _, HB5.out⟩
     ·
      have c0 := Classical.not_not.1 c10; clear c10; rw [if_pos c0] at h
      subst c0
      simp only [Option.some.injEq, Prod.mk.injEq] at h
      obtain ⟨rfl, rfl⟩ := h
      go_enter Try.func63, Try.ntmps63
      go_wp2_with (first | (go_at_call 60; (with_reducible refine (page_Right.calls a0_0 a0_1 a0_2 a0_3 a0_4 a0_5 a0_6 true _ X1.out).mono ?_); rintro e w1 ⟨rfl, hb⟩; have BT1 := Aside0.mk (blk_below (blk_new w (.cells #[.int .i64 a0_0, .int .i64 a0_1, .int .i64 a0_2, .int .i64 a0_3, .int .i64 a0_4, .int .i64 a0_5, .int .i64 a0_6] 48)) hb); have hq1_0 : w1.cell? ⟨w.heap.size, 0, none⟩ = some (.int .i64 a0_0) := (blk_cell BT1.out 0).trans rfl; have hq1_1 : w1.cell? ⟨w.heap.size, 1, none⟩ = some (.int .i64 a0_1) := (blk_cell BT1.out 1).trans rfl; have hq1_2 : w1.cell? ⟨w.heap.size, 2, none⟩ = some (.int .i64 a0_2) := (blk_cell BT1.out 2).trans rfl; have hq1_3 : w1.cell? ⟨w.heap.size, 3, none⟩ = some (.int .i64 a0_3) := (blk_cell BT1.out 3).trans rfl; have hq1_4 : w1.cell? ⟨w.heap.size, 4, none⟩ = some (.int .i64 a0_4) := (blk_cell BT1.out 4).trans rfl; have hq1_5 : w1.cell? ⟨w.heap.size, 5, none⟩ = some (.int .i64 a0_5) := (blk_cell BT1.out 5).trans rfl; have hq1_6 : w1.cell? ⟨w.heap.size, 6, none⟩ = some (.int .i64 a0_6) := (blk_cell BT1.out 6).trans rfl; have HB1 := Aside0.mk (below_step (below_alloc (Below.refl w.heap.size w) (.cells #[.int .i64 a0_0, .int .i64 a0_1, .int .i64 a0_2, .int .i64 a0_3, .int .i64 a0_4, .int .i64 a0_5, .int .i64 a0_6] 48)) hb); clear hb) | (go_at_call 71; (with_reducible refine (page_codes.calls k A1 c1 l1 a0_3 a0_2 true _ ?q1 ?q2 X2.out).mono ?_); (case q1 => exact Kd.C_below HR1.out HB1.out); (case q2 => exact HC1.out); rintro e w2 ⟨rfl, hb⟩; have BT2 := Aside0.mk (blk_below BT1.out hb); have hq2_0 : w2.cell? ⟨w.heap.size, 0, none⟩ = some (.int .i64 a0_0) := (blk_cell BT2.out 0).trans rfl; have hq2_1 : w2.cell? ⟨w.heap.size, 1, none⟩ = some (.int .i64 a0_1) := (blk_cell BT2.out 1).trans rfl; have hq2_2 : w2.cell? ⟨w.heap.size, 2, none⟩ = some (.int .i64 a0_2) := (blk_cell BT2.out 2).trans rfl; have hq2_3 : w2.cell? ⟨w.heap.size, 3, none⟩ = some (.int .i64 a0_3) := (blk_cell BT2.out 3).trans rfl; have hq2_4 : w2.cell? ⟨w.heap.size, 4, none⟩ = some (.int .i64 a0_4) := (blk_cell BT2.out 4).trans rfl; have hq2_5 : w2.cell? ⟨w.heap.size, 5, none⟩ = some (.int .i64 a0_5) := (blk_cell BT2.out 5).trans rfl; have hq2_6 : w2.cell? ⟨w.heap.size, 6, none⟩ = some (.int .i64 a0_6) := (blk_cell BT2.out 6).trans rfl; have HB2 := Aside0.mk (below_step HB1.out hb); clear hb) | (go_at_call 71; (with_reducible refine (page_codes.calls k A2 c2 l2 a0_2 a0_3 true _ ?q1 ?q2 X3.out).mono ?_); (case q1 => exact Kd.C_below HR2.out HB2.out); (case q2 => exact HC2.out); rintro e w3 ⟨rfl, hb⟩; have BT3 := Aside0.mk (blk_below BT2.out hb); have hq3_0 : w3.cell? ⟨w.heap.size, 0, none⟩ = some (.int .i64 a0_0) := (blk_cell BT3.out 0).trans rfl; have hq3_1 : w3.cell? ⟨w.heap.size, 1, none⟩ = some (.int .i64 a0_1) := (blk_cell BT3.out 1).trans rfl; have hq3_2 : w3.cell? ⟨w.heap.size, 2, none⟩ = some (.int .i64 a0_2) := (blk_cell BT3.out 2).trans rfl; have hq3_3 : w3.cell? ⟨w.heap.size, 3, none⟩ = some (.int .i64 a0_3) := (blk_cell BT3.out 3).trans rfl; have hq3_4 : w3.cell? ⟨w.heap.size, 4, none⟩ = some (.int .i64 a0_4) := (blk_cell BT3.out 4).trans rfl; have hq3_5 : w3.cell? ⟨w.heap.size, 5, none⟩ = some (.int .i64 a0_5) := (blk_cell BT3.out 5).trans rfl; have hq3_6 : w3.cell? ⟨w.heap.size, 6, none⟩ = some (.int .i64 a0_6) := (blk_cell BT3.out 6).trans rfl; have HB3 := Aside0.mk (below_step HB2.out hb); clear hb) | (go_at_call 72; (with_reducible refine (page_packAll.calls k A1 c1 l1 a0_0 p1 0 _ ?q1 ?q2 X4.out).mono ?_); (case q1 => exact Kd.C_below HR1.out HB3.out); (case q2 => exact HC1.out); rintro e w4 ⟨v1, rfl, ho, hb⟩; obtain ⟨B1, d1, e1⟩ := Kd.R_slice (Kd.S_R ho); subst e1; have BT4 := Aside0.mk (blk_below BT3.out hb); have hq4_0 : w4.cell? ⟨w.heap.size, 0, none⟩ = some (.int .i64 a0_0) := (blk_cell BT4.out 0).trans rfl; have hq4_1 : w4.cell? ⟨w.heap.size, 1, none⟩ = some (.int .i64 a0_1) := (blk_cell BT4.out 1).trans rfl; have hq4_2 : w4.cell? ⟨w.heap.size, 2, none⟩ = some (.int .i64 a0_2) := (blk_cell BT4.out 2).trans rfl; have hq4_3 : w4.cell? ⟨w.heap.size, 3, none⟩ = some (.int .i64 a0_3) := (blk_cell BT4.out 3).trans rfl; have hq4_4 : w4.cell? ⟨w.heap.size, 4, none⟩ = some (.int .i64 a0_4) := (blk_cell BT4.out 4).trans rfl; have hq4_5 : w4.cell? ⟨w.heap.size, 5, none⟩ = some (.int .i64 a0_5) := (blk_cell BT4.out 5).trans rfl; have hq4_6 : w4.cell? ⟨w.heap.size, 6, none⟩ = some (.int .i64 a0_6) := (blk_cell BT4.out 6).trans rfl; have HB4 := Aside0.mk (below_step HB3.out hb); have HO1 := Aside0.mk (Kd.R_lower (Kd.S_R ho) HB3.out.size); clear hb ho) | (go_at_call 72; (with_reducible refine (page_packAll.calls k A2 c2 l2 a0_1 q1 0 _ ?q1 ?q2 X5.out).mono ?_); (case q1 => exact Kd.C_below HR2.out HB4.out); (case q2 => exact HC2.out); rintro e w5 ⟨v2, rfl, ho, hb⟩; obtain ⟨B2, d2, e2⟩ := Kd.R_slice (Kd.S_R ho); subst e2; have BT5 := Aside0.mk (blk_below BT4.out hb); have hq5_0 : w5.cell? ⟨w.heap.size, 0, none⟩ = some (.int .i64 a0_0) := (blk_cell BT5.out 0).trans rfl; have hq5_1 : w5.cell? ⟨w.heap.size, 1, none⟩ = some (.int .i64 a0_1) := (blk_cell BT5.out 1).trans rfl; have hq5_2 : w5.cell? ⟨w.heap.size, 2, none⟩ = some (.int .i64 a0_2) := (blk_cell BT5.out 2).trans rfl; have hq5_3 : w5.cell? ⟨w.heap.size, 3, none⟩ = some (.int .i64 a0_3) := (blk_cell BT5.out 3).trans rfl; have hq5_4 : w5.cell? ⟨w.heap.size, 4, none⟩ = some (.int .i64 a0_4) := (blk_cell BT5.out 4).trans rfl; have hq5_5 : w5.cell? ⟨w.heap.size, 5, none⟩ = some (.int .i64 a0_5) := (blk_cell BT5.out 5).trans rfl; have hq5_6 : w5.cell? ⟨w.heap.size, 6, none⟩ = some (.int .i64 a0_6) := (blk_cell BT5.out 6).trans rfl; have HB5 := Aside0.mk (below_step HB4.out hb); have HO1b := Aside0.mk (Kd.R_below HO1.out hb); have HO2 := Aside0.mk (Kd.R_lower (Kd.S_R ho) HB4.out.size); clear hb ho))
      go_ret2
      refine ⟨.slice (some ⟨w5.heap.size, 0, none⟩) 1 1, rfl, ?_, below_alloc HB5.out _⟩
      exact R_box k96 96 w5 w.heap.size (k96_mkM w5 w.heap.size (fun _ => True) (⟨⟨a0_0, a0_1, a0_2, a0_3, a0_4, a0_5, a0_6⟩, p1, q1⟩ : S96) HO1b.out HO2.out) HB5.out.size

end Go.Proofs.Ytoofkemhikigoaa.PBlockPlays
