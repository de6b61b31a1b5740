-- Written by a program of this session (wip/tools/mkprint.py over the kit's print).
import Derived.Test.YtoofkemhikigoaaPBlockPlaysx0
namespace Go.Proofs.Ytoofkemhikigoaa.PBlockPlays
open Go.RowKit Go.Proofs.YtoofkemhikigoaaW.PrintWords Go.Proofs.YtoofkemhikigoaaW.PrintLast Go.Proofs.YtoofkemhikigoaaW.PrintMore
attribute [local go_sem] max2_int min2_int max_two min_two max_three min_three max_four min_four   -- for this text's walks alone
set_option linter.unusedVariables false
set_option linter.unusedSimpArgs false

-- NOT PRINTED: function 55 (atomic_StoreInt32)

-- NOT PRINTED: function 40 (atomic_Int32_Store)

-- NOT PRINTED: function 12 (pool_New)

/-! ### page_Page_Head: function 25 -/
def page_Page_Head.f (l0 : List (S96)) : Option (Int × Int × Int × Int × Int × Int × Int) := if 0 < (l0.length : Int) then (some ((rd_T96 l0 0).f0.f0, (rd_T96 l0 0).f0.f1, (rd_T96 l0 0).f0.f2, (rd_T96 l0 0).f0.f3, (rd_T96 l0 0).f0.f4, (rd_T96 l0 0).f0.f5, (rd_T96 l0 0).f0.f6)) else (none)
set_option maxHeartbeats 8000000 in
set_option maxRecDepth 100000 in
theorem page_Page_Head.calls (A0 : Option Addr) (c0 : Nat) (l0 : List (S96)) (r1 : Int) (r2 : Int) (r3 : Int) (r4 : Int) (r5 : Int) (r6 : Int) (r7 : Int) (w : World) (hr0 : Kd.C k96 w A0 l0.length l0) (hc0 : l0.length ≤ c0) (h : page_Page_Head.f l0 = some (r1, r2, r3, r4, r5, r6, r7)) :
  Calls Try.prog 25 #[asPtr (.slice A0 l0.length c0)] w fun e w' => e = .returned (.agg #[.int .i64 r1, .int .i64 r2, .int .i64 r3, .int .i64 r4, .int .i64 r5, .int .i64 r6, .int .i64 r7]) ∧ Below w.heap.size w w' := by
 have hu48 := Try.underlying48
 have HR0 := Aside0.mk hr0
 have HC0 := Aside0.mk hc0
 clear hr0 hc0
 have HB := Aside0.mk (Below.refl w.heap.size w)
 have H : (if 0 < (l0.length : Int) then (some ((rd_T96 l0 0).f0.f0, (rd_T96 l0 0).f0.f1, (rd_T96 l0 0).f0.f2, (rd_T96 l0 0).f0.f3, (rd_T96 l0 0).f0.f4, (rd_T96 l0 0).f0.f5, (rd_T96 l0 0).f0.f6)) else (none)) = some (r1, r2, r3, r4, r5, r6, r7) := h
 clear h
 by_cases c2 : 0 < (l0.length : Int)
 case neg => (rw [if_neg c2] at H; exact absurd H (by simp))
 rw [if_pos c2] at H
 have c2b0 : decide (0 < (l0.length : Int)) = true := decide_eq_true c2
 have c2b1 : decide (0 < l0.length) = true := decide_eq_true (by omega)
 clear c2
 simp only [Option.some.injEq, Prod.mk.injEq] at H
 obtain ⟨rfl, rfl, rfl, rfl, rfl, rfl, rfl⟩ := H
 go_enter Try.func25, Try.ntmps25
 go_wp2_with (first | ((with_reducible refine gate_dst (N := 2) rfl ?_); refine box_event ?hg (N := 2) ?hd (cs := #[.int .i64 0, .int .i64 0, .int .i64 0, .int .i64 0, .int .i64 0, .int .i64 0, .int .i64 0]) (t := 48) ?hr ?_; (case hd => rfl); (case hg => rfl); (case hr => first | (go_simp; done) | (go_simp; rfl)); intro gb101 hg w3 hbox hb; have n0_ := Aside0.mk (below_step (by with_reducible exact HB.out) hb); have n1_ := Aside0.mk (hbox); have n2_ := Aside0.mk ((by rw [hg]; exact (below_size (by with_reducible exact HB.out)) : w.heap.size ≤ gb101)); have n3_ := Aside0.mk ((by rw [hg]; exact (below_size (by with_reducible exact HB.out)) : w.heap.size ≤ gb101)); clear HB; have HB := n0_; have BK101 := n1_; have GW101 := n2_; have GE101 := n3_; clear n0_ n1_ n2_ n3_; clear hb hbox hg; have p102 : 0 ≤ (0 : Int) := (by omega); have q102 : 0 < (l0.length : Int) := of_decide_eq_true (by first | (with_reducible assumption) | assumption); obtain ⟨ad102, A102_7, c102_7, A102_8, c102_8, e102, hx102_0, hx102_1, hx102_2, hx102_3, hx102_4, hx102_5, hx102_6, _, _, _, _, _, _⟩ := at_T96 HR0.out 0 p102 q102; cases e102; have qi102 : (0 < l0.length) = True := eq_true (by omega); (try rw [show ((0 : Int)).toNat = 0 from rfl] at hx102_0); (try rw [show 0 * 9 = 0 from rfl] at hx102_0); (try rw [Addr.add_zero'] at hx102_0); (try rw [show ((0 : Int)).toNat = 0 from rfl] at hx102_1); (try rw [show 0 * 9 = 0 from rfl] at hx102_1); (try rw [Addr.add_zero'] at hx102_1); (try rw [show ((0 : Int)).toNat = 0 from rfl] at hx102_2); (try rw [show 0 * 9 = 0 from rfl] at hx102_2); (try rw [Addr.add_zero'] at hx102_2); (try rw [show ((0 : Int)).toNat = 0 from rfl] at hx102_3); (try rw [show 0 * 9 = 0 from rfl] at hx102_3); (try rw [Addr.add_zero'] at hx102_3); (try rw [show ((0 : Int)).toNat = 0 from rfl] at hx102_4); (try rw [show 0 * 9 = 0 from rfl] at hx102_4); (try rw [Addr.add_zero'] at hx102_4); (try rw [show ((0 : Int)).toNat = 0 from rfl] at hx102_5); (try rw [show 0 * 9 = 0 from rfl] at hx102_5); (try rw [Addr.add_zero'] at hx102_5); (try rw [show ((0 : Int)).toNat = 0 from rfl] at hx102_6); (try rw [show 0 * 9 = 0 from rfl] at hx102_6); (try rw [Addr.add_zero'] at hx102_6); replace hx102_0 := (HB.out.cell (World.block_lt_of_cell? w _ hx102_0)).trans hx102_0; replace hx102_1 := (HB.out.cell (World.block_lt_of_cell? w _ hx102_1)).trans hx102_1; replace hx102_2 := (HB.out.cell (World.block_lt_of_cell? w _ hx102_2)).trans hx102_2; replace hx102_3 := (HB.out.cell (World.block_lt_of_cell? w _ hx102_3)).trans hx102_3; replace hx102_4 := (HB.out.cell (World.block_lt_of_cell? w _ hx102_4)).trans hx102_4; replace hx102_5 := (HB.out.cell (World.block_lt_of_cell? w _ hx102_5)).trans hx102_5; replace hx102_6 := (HB.out.cell (World.block_lt_of_cell? w _ hx102_6)).trans hx102_6; replace p102 := eq_true p102; replace q102 := eq_true q102; have hP102 : asPtr (.slice (some ad102) l0.length c0) = .pointer (some ad102) := asPtr_some (of_decide_eq_true (by first | (with_reducible assumption) | assumption)); have hcz4_0 : w3.cell? ⟨gb101, 0, none⟩ = some (.int .i64 0) := (blk_cell BK101.out 0).trans rfl; have hcz4_1 : w3.cell? ⟨gb101, 1, none⟩ = some (.int .i64 0) := (blk_cell BK101.out 1).trans rfl; have hcz4_2 : w3.cell? ⟨gb101, 2, none⟩ = some (.int .i64 0) := (blk_cell BK101.out 2).trans rfl; have hcz4_3 : w3.cell? ⟨gb101, 3, none⟩ = some (.int .i64 0) := (blk_cell BK101.out 3).trans rfl; have hcz4_4 : w3.cell? ⟨gb101, 4, none⟩ = some (.int .i64 0) := (blk_cell BK101.out 4).trans rfl; have hcz4_5 : w3.cell? ⟨gb101, 5, none⟩ = some (.int .i64 0) := (blk_cell BK101.out 5).trans rfl; have hcz4_6 : w3.cell? ⟨gb101, 6, none⟩ = some (.int .i64 0) := (blk_cell BK101.out 6).trans rfl; have hfz4_0 := blk_frozen BK101.out 0; have hfz4_1 := blk_frozen BK101.out 1; have hfz4_2 := blk_frozen BK101.out 2; have hfz4_3 := blk_frozen BK101.out 3; have hfz4_4 := blk_frozen BK101.out 4; have hfz4_5 := blk_frozen BK101.out 5; have hfz4_6 := blk_frozen BK101.out 6))
 refine bodyPost_ret (results_cell_row rfl _ _ gb101 48 #[.int .i64 ((rd_T96 l0 0).f0.f0), .int .i64 ((rd_T96 l0 0).f0.f1), .int .i64 ((rd_T96 l0 0).f0.f2), .int .i64 ((rd_T96 l0 0).f0.f3), .int .i64 ((rd_T96 l0 0).f0.f4), .int .i64 ((rd_T96 l0 0).f0.f5), .int .i64 ((rd_T96 l0 0).f0.f6)] (0, 0) _ rfl (by (with_reducible repeat (first | refine blk_drewN ?_ _ | refine blk_drew ?_ | refine blk_alloc ?_ _)); refine blk_put (cs := #[.int .i64 ((rd_T96 l0 0).f0.f0), .int .i64 ((rd_T96 l0 0).f0.f1), .int .i64 ((rd_T96 l0 0).f0.f2), .int .i64 ((rd_T96 l0 0).f0.f3), .int .i64 ((rd_T96 l0 0).f0.f4), .int .i64 ((rd_T96 l0 0).f0.f5), .int .i64 0]) ?_ 6 _ rfl; (with_reducible repeat (first | refine blk_drewN ?_ _ | refine blk_drew ?_ | refine blk_alloc ?_ _)); refine blk_put (cs := #[.int .i64 ((rd_T96 l0 0).f0.f0), .int .i64 ((rd_T96 l0 0).f0.f1), .int .i64 ((rd_T96 l0 0).f0.f2), .int .i64 ((rd_T96 l0 0).f0.f3), .int .i64 ((rd_T96 l0 0).f0.f4), .int .i64 0, .int .i64 0]) ?_ 5 _ rfl; (with_reducible repeat (first | refine blk_drewN ?_ _ | refine blk_drew ?_ | refine blk_alloc ?_ _)); refine blk_put (cs := #[.int .i64 ((rd_T96 l0 0).f0.f0), .int .i64 ((rd_T96 l0 0).f0.f1), .int .i64 ((rd_T96 l0 0).f0.f2), .int .i64 ((rd_T96 l0 0).f0.f3), .int .i64 0, .int .i64 0, .int .i64 0]) ?_ 4 _ rfl; (with_reducible repeat (first | refine blk_drewN ?_ _ | refine blk_drew ?_ | refine blk_alloc ?_ _)); refine blk_put (cs := #[.int .i64 ((rd_T96 l0 0).f0.f0), .int .i64 ((rd_T96 l0 0).f0.f1), .int .i64 ((rd_T96 l0 0).f0.f2), .int .i64 0, .int .i64 0, .int .i64 0, .int .i64 0]) ?_ 3 _ rfl; (with_reducible repeat (first | refine blk_drewN ?_ _ | refine blk_drew ?_ | refine blk_alloc ?_ _)); refine blk_put (cs := #[.int .i64 ((rd_T96 l0 0).f0.f0), .int .i64 ((rd_T96 l0 0).f0.f1), .int .i64 0, .int .i64 0, .int .i64 0, .int .i64 0, .int .i64 0]) ?_ 2 _ rfl; (with_reducible repeat (first | refine blk_drewN ?_ _ | refine blk_drew ?_ | refine blk_alloc ?_ _)); refine blk_put (cs := #[.int .i64 ((rd_T96 l0 0).f0.f0), .int .i64 0, .int .i64 0, .int .i64 0, .int .i64 0, .int .i64 0, .int .i64 0]) ?_ 1 _ rfl; (with_reducible repeat (first | refine blk_drewN ?_ _ | refine blk_drew ?_ | refine blk_alloc ?_ _)); refine blk_put (cs := #[.int .i64 0, .int .i64 0, .int .i64 0, .int .i64 0, .int .i64 0, .int .i64 0, .int .i64 0]) ?_ 0 _ rfl; (with_reducible repeat (first | refine blk_drewN ?_ _ | refine blk_drew ?_ | refine blk_alloc ?_ _)); exact BK101.out) Try.underlying48 rfl (by kernel_rfl)) rfl ?_
 exact ⟨by first | rfl | (simp [errW_none, errW_some] <;> rfl) | (simp [*, errW_none, errW_some] <;> rfl), by repeat (first | (with_reducible first | exact HB.out | apply below_alloc | apply pw_below_drewN | apply below_drew1 | refine below_set ?_ GE101.out) | exact HB.out)⟩

-- NOT PRINTED: function 57 (atomic_LoadInt32)

-- NOT PRINTED: function 44 (atomic_Int32_Load)

-- NOT PRINTED: function 45 (pool_Pool_held)

-- NOT PRINTED: function 26 (pool_Pool_Refs)

-- NOT PRINTED: function 59 (atomic_AddInt32)

-- NOT PRINTED: function 47 (atomic_Int32_Add)

-- NOT PRINTED: function 23 (pool_Pool_Hold)

-- NOT PRINTED: function 52 (slices_Clone_int_int)

-- NOT PRINTED: function 31 (block_Table_Fork)

-- NOT PRINTED: function 64 (slices_Grow_int_int)

-- NOT PRINTED: function 53 (slices_Concat_int_int)

-- NOT PRINTED: function 32 (block_Table_Slots)

-- NOT PRINTED: function 58 (atomic_CompareAndSwapInt32)

-- NOT PRINTED: function 46 (atomic_Int32_CompareAndSwap)

-- NOT PRINTED: function 21 (pool_Pool_Put)

-- NOT PRINTED: function 54 (block_Table_row)

-- NOT PRINTED: function 33 (block_Table_Add)

/-! ### pack_Bits: function 65 -/
def pack_Bits.f (a0 : Int) : Option (Bool) := if a0 = 2 then (some true) else (if a0 = 4 then (some true) else (some (a0 == 8)))
set_option maxHeartbeats 8000000 in
set_option maxRecDepth 100000 in
theorem pack_Bits.calls (a0 : Int) (r : Bool) (w : World) (h : pack_Bits.f a0 = some r) :
  Calls Try.prog 65 #[.int .i64 a0] w fun e w' => e = .returned (.bool r) ∧ Drawn0 w w' := by
 have H : (if a0 = 2 then (some true) else (if a0 = 4 then (some true) else (some (a0 == 8)))) = some r := h
 clear h
 by_cases c2 : a0 = 2
 ·
  rw [if_pos c2] at H
  have c2b0 : (a0 == 2) = true := beq_iff_eq.mpr c2
  have c2b1 : (a0 != 2) = false := bne_eq_false_iff_eq.mpr c2
  clear c2
  obtain rfl := Option.some.inj H
  go_enter Try.func65, Try.ntmps65
  go_wp2
  go_ret
  exact ⟨by first | rfl | (simp; done) | (simp [*]; done), by repeat (first | exact Drawn0.refl _ | apply Drawn0.step)⟩
 ·
  rw [if_neg c2] at H
  have c2b0 : (a0 == 2) = false := beq_eq_false_iff_ne.mpr c2
  have c2b1 : (a0 != 2) = true := bne_iff_ne.mpr c2
  by_cases c3 : a0 = 4
  ·
   rw [if_pos c3] at H
   have c3b0 : (a0 == 4) = true := beq_iff_eq.mpr c3
   have c3b1 : (a0 != 4) = false := bne_eq_false_iff_eq.mpr c3
   clear c3
   obtain rfl := Option.some.inj H
   go_enter Try.func65, Try.ntmps65
   go_wp2
   go_ret
   exact ⟨by first | rfl | (simp; done) | (simp [*]; done), by repeat (first | exact Drawn0.refl _ | apply Drawn0.step)⟩
  ·
   rw [if_neg c3] at H
   have c3b0 : (a0 == 4) = false := beq_eq_false_iff_ne.mpr c3
   have c3b1 : (a0 != 4) = true := bne_iff_ne.mpr c3
   obtain rfl := Option.some.inj H
   go_enter Try.func65, Try.ntmps65
   go_wp2
   go_ret
   exact ⟨by first | rfl | (simp; done) | (simp [*]; done), by repeat (first | exact Drawn0.refl _ | apply Drawn0.step)⟩

/-! ### page_within: function 66 -/
def page_within.f (a0 : Int) (a1 : Int) (a2 : Int) : Option (Bool) := if a0 ≥ a1 then (some (decide (a0 ≤ a2))) else (some false)
set_option maxHeartbeats 8000000 in
set_option maxRecDepth 100000 in
theorem page_within.calls (a0 : Int) (a1 : Int) (a2 : Int) (r : Bool) (w : World) (h : page_within.f a0 a1 a2 = some r) :
  Calls Try.prog 66 #[.int .i64 a0, .int .i64 a1, .int .i64 a2] w fun e w' => e = .returned (.bool r) ∧ Drawn0 w w' := by
 have H : (if a0 ≥ a1 then (some (decide (a0 ≤ a2))) else (some false)) = some r := h
 clear h
 by_cases c4 : a0 ≥ a1
 ·
  rw [if_pos c4] at H
  have c4b0 : decide (a1 ≤ a0) = true := decide_eq_true c4
  clear c4
  obtain rfl := Option.some.inj H
  go_enter Try.func66, Try.ntmps66
  go_wp2
  go_ret
  exact ⟨by first | rfl | (simp; done) | (simp [*]; done), by repeat (first | exact Drawn0.refl _ | apply Drawn0.step)⟩
 ·
  rw [if_neg c4] at H
  have c4b0 : decide (a1 ≤ a0) = false := decide_eq_false c4
  clear c4
  obtain rfl := Option.some.inj H
  go_enter Try.func66, Try.ntmps66
  go_wp2
  go_ret
  exact ⟨by first | rfl | (simp; done) | (simp [*]; done), by repeat (first | exact Drawn0.refl _ | apply Drawn0.step)⟩

/-! ### page_Right: function 60 -/
def page_Right.f (a0_0 : Int) (a0_1 : Int) (a0_2 : Int) (a0_3 : Int) (a0_4 : Int) (a0_5 : Int) (a0_6 : Int) : Option (Bool) := (pack_Bits.f a0_0).bind fun t105 => (if t105 = true then ((pack_Bits.f a0_1).bind fun t106 => (if t106 = true then ((page_within.f a0_2 1 16).bind fun t107 => (if t107 = true then ((page_within.f a0_3 1 16).bind fun t108 => (if t108 = true then ((page_within.f a0_4 0 3).bind fun t109 => (if t109 = true then ((page_within.f a0_5 0 3).bind fun t110 => (if t110 = true then ((page_within.f a0_6 0 1023).bind fun t111 => (some t111)) else (some false))) else (some false))) else (some false))) else (some false))) else (some false))) else (some false))
set_option maxHeartbeats 8000000 in
set_option maxRecDepth 100000 in
theorem page_Right.calls (a0_0 : Int) (a0_1 : Int) (a0_2 : Int) (a0_3 : Int) (a0_4 : Int) (a0_5 : Int) (a0_6 : Int) (r : Bool) (w : World) (h : page_Right.f a0_0 a0_1 a0_2 a0_3 a0_4 a0_5 a0_6 = some r) :
  Calls Try.prog 60 #[.agg #[.int .i64 a0_0, .int .i64 a0_1, .int .i64 a0_2, .int .i64 a0_3, .int .i64 a0_4, .int .i64 a0_5, .int .i64 a0_6]] w fun e w' => e = .returned (.bool r) ∧ Below w.heap.size w w' := by
 have hu48 := Try.underlying48
 have HB := Aside0.mk (Below.refl w.heap.size w)
 have H : ((pack_Bits.f a0_0).bind fun t105 => (if t105 = true then ((pack_Bits.f a0_1).bind fun t106 => (if t106 = true then ((page_within.f a0_2 1 16).bind fun t107 => (if t107 = true then ((page_within.f a0_3 1 16).bind fun t108 => (if t108 = true then ((page_within.f a0_4 0 3).bind fun t109 => (if t109 = true then ((page_within.f a0_5 0 3).bind fun t110 => (if t110 = true then ((page_within.f a0_6 0 1023).bind fun t111 => (some t111)) else (some false))) else (some false))) else (some false))) else (some false))) else (some false))) else (some false))) = some r := h
 clear h
 replace H := Option.bind_eq_some_iff.mp H
 obtain ⟨t105, A20, H⟩ := H
 replace H : (if t105 = true then ((pack_Bits.f a0_1).bind fun t106 => (if t106 = true then ((page_within.f a0_2 1 16).bind fun t107 => (if t107 = true then ((page_within.f a0_3 1 16).bind fun t108 => (if t108 = true then ((page_within.f a0_4 0 3).bind fun t109 => (if t109 = true then ((page_within.f a0_5 0 3).bind fun t110 => (if t110 = true then ((page_within.f a0_6 0 1023).bind fun t111 => (some t111)) else (some false))) else (some false))) else (some false))) else (some false))) else (some false))) else (some false)) = some r := H
 have A2 := Aside0.mk A20
 clear A20
 by_cases c3 : t105 = true
 ·
  subst c3
  have H1 : ((pack_Bits.f a0_1).bind fun t106 => (if t106 = true then ((page_within.f a0_2 1 16).bind fun t107 => (if t107 = true then ((page_within.f a0_3 1 16).bind fun t108 => (if t108 = true then ((page_within.f a0_4 0 3).bind fun t109 => (if t109 = true then ((page_within.f a0_5 0 3).bind fun t110 => (if t110 = true then ((page_within.f a0_6 0 1023).bind fun t111 => (some t111)) else (some false))) else (some false))) else (some false))) else (some false))) else (some false))) = some r := by rw [if_pos rfl] at H; exact H
  clear H
  have H := H1
  clear H1
  replace H := Option.bind_eq_some_iff.mp H
  obtain ⟨t106, A40, H⟩ := H
  replace H : (if t106 = true then ((page_within.f a0_2 1 16).bind fun t107 => (if t107 = true then ((page_within.f a0_3 1 16).bind fun t108 => (if t108 = true then ((page_within.f a0_4 0 3).bind fun t109 => (if t109 = true then ((page_within.f a0_5 0 3).bind fun t110 => (if t110 = true then ((page_within.f a0_6 0 1023).bind fun t111 => (some t111)) else (some false))) else (some false))) else (some false))) else (some false))) else (some false)) = some r := H
  have A4 := Aside0.mk A40
  clear A40
  by_cases c5 : t106 = true
  ·
   subst c5
   have H1 : ((page_within.f a0_2 1 16).bind fun t107 => (if t107 = true then ((page_within.f a0_3 1 16).bind fun t108 => (if t108 = true then ((page_within.f a0_4 0 3).bind fun t109 => (if t109 = true then ((page_within.f a0_5 0 3).bind fun t110 => (if t110 = true then ((page_within.f a0_6 0 1023).bind fun t111 => (some t111)) else (some false))) else (some false))) else (some false))) else (some false))) = some r := by rw [if_pos rfl] at H; exact H
   clear H
   have H := H1
   clear H1
   replace H := Option.bind_eq_some_iff.mp H
   obtain ⟨t107, A60, H⟩ := H
   replace H : (if t107 = true then ((page_within.f a0_3 1 16).bind fun t108 => (if t108 = true then ((page_within.f a0_4 0 3).bind fun t109 => (if t109 = true then ((page_within.f a0_5 0 3).bind fun t110 => (if t110 = true then ((page_within.f a0_6 0 1023).bind fun t111 => (some t111)) else (some false))) else (some false))) else (some false))) else (some false)) = some r := H
   have A6 := Aside0.mk A60
   clear A60
   by_cases c7 : t107 = true
   ·
    subst c7
    have H1 : ((page_within.f a0_3 1 16).bind fun t108 => (if t108 = true then ((page_within.f a0_4 0 3).bind fun t109 => (if t109 = true then ((page_within.f a0_5 0 3).bind fun t110 => (if t110 = true then ((page_within.f a0_6 0 1023).bind fun t111 => (some t111)) else (some false))) else (some false))) else (some false))) = some r := by rw [if_pos rfl] at H; exact H
    clear H
    have H := H1
    clear H1
    replace H := Option.bind_eq_some_iff.mp H
    obtain ⟨t108, A80, H⟩ := H
    replace H : (if t108 = true then ((page_within.f a0_4 0 3).bind fun t109 => (if t109 = true then ((page_within.f a0_5 0 3).bind fun t110 => (if t110 = true then ((page_within.f a0_6 0 1023).bind fun t111 => (some t111)) else (some false))) else (some false))) else (some false)) = some r := H
    have A8 := Aside0.mk A80
    clear A80
    by_cases c9 : t108 = true
    ·
     subst c9
     have H1 : ((page_within.f a0_4 0 3).bind fun t109 => (if t109 = true then ((page_within.f a0_5 0 3).bind fun t110 => (if t110 = true then ((page_within.f a0_6 0 1023).bind fun t111 => (some t111)) else (some false))) else (some false))) = some r := by rw [if_pos rfl] at H; exact H
     clear H
     have H := H1
     clear H1
     replace H := Option.bind_eq_some_iff.mp H
     obtain ⟨t109, A100, H⟩ := H
     replace H : (if t109 = true then ((page_within.f a0_5 0 3).bind fun t110 => (if t110 = true then ((page_within.f a0_6 0 1023).bind fun t111 => (some t111)) else (some false))) else (some false)) = some r := H
     have A10 := Aside0.mk A100
     clear A100
     by_cases c11 : t109 = true
     ·
      subst c11
      have H1 : ((page_within.f a0_5 0 3).bind fun t110 => (if t110 = true then ((page_within.f a0_6 0 1023).bind fun t111 => (some t111)) else (some false))) = some r := by rw [if_pos rfl] at H; exact H
      clear H
      have H := H1
      clear H1
      replace H := Option.bind_eq_some_iff.mp H
      obtain ⟨t110, A120, H⟩ := H
      replace H : (if t110 = true then ((page_within.f a0_6 0 1023).bind fun t111 => (some t111)) else (some false)) = some r := H
      have A12 := Aside0.mk A120
      clear A120
      by_cases c13 : t110 = true
      ·
       subst c13
       have H1 : ((page_within.f a0_6 0 1023).bind fun t111 => (some t111)) = some r := by rw [if_pos rfl] at H; exact H
       clear H
       have H := H1
       clear H1
       replace H := Option.bind_eq_some_iff.mp H
       obtain ⟨t111, A140, H⟩ := H
       replace H : (some t111) = some r := H
       have A14 := Aside0.mk A140
       clear A140
       obtain rfl := Option.some.inj H
       go_enter Try.func60, Try.ntmps60
       go_wp2_with (first | ((with_reducible refine gate_dst (N := 1) rfl ?_); refine box_event ?hg (N := 1) ?hd (cs := #[.int .i64 a0_0, .int .i64 a0_1, .int .i64 a0_2, .int .i64 a0_3, .int .i64 a0_4, .int .i64 a0_5, .int .i64 a0_6]) (t := 48) ?hr ?_; (case hd => rfl); (case hg => rfl); (case hr => first | (go_simp; done) | (go_simp; rfl)); intro gb104 hg w15 hbox hb; have n0_ := Aside0.mk (below_step (by with_reducible exact HB.out) hb); have n1_ := Aside0.mk (hbox); have n2_ := Aside0.mk ((by rw [hg]; exact (below_size (by with_reducible exact HB.out)) : w.heap.size ≤ gb104)); have n3_ := Aside0.mk ((by rw [hg]; exact (below_size (by with_reducible exact HB.out)) : w.heap.size ≤ gb104)); clear HB; have HB := n0_; have BK104 := n1_; have GW104 := n2_; have GE104 := n3_; clear n0_ n1_ n2_ n3_; clear hb hbox hg; have hcz16_0 : w15.cell? ⟨gb104, 0, none⟩ = some (.int .i64 a0_0) := (blk_cell BK104.out 0).trans rfl; have hcz16_1 : w15.cell? ⟨gb104, 1, none⟩ = some (.int .i64 a0_1) := (blk_cell BK104.out 1).trans rfl; have hcz16_2 : w15.cell? ⟨gb104, 2, none⟩ = some (.int .i64 a0_2) := (blk_cell BK104.out 2).trans rfl; have hcz16_3 : w15.cell? ⟨gb104, 3, none⟩ = some (.int .i64 a0_3) := (blk_cell BK104.out 3).trans rfl; have hcz16_4 : w15.cell? ⟨gb104, 4, none⟩ = some (.int .i64 a0_4) := (blk_cell BK104.out 4).trans rfl; have hcz16_5 : w15.cell? ⟨gb104, 5, none⟩ = some (.int .i64 a0_5) := (blk_cell BK104.out 5).trans rfl; have hcz16_6 : w15.cell? ⟨gb104, 6, none⟩ = some (.int .i64 a0_6) := (blk_cell BK104.out 6).trans rfl; have hfz16_0 := blk_frozen BK104.out 0; have hfz16_1 := blk_frozen BK104.out 1; have hfz16_2 := blk_frozen BK104.out 2; have hfz16_3 := blk_frozen BK104.out 3; have hfz16_4 := blk_frozen BK104.out 4; have hfz16_5 := blk_frozen BK104.out 5; have hfz16_6 := blk_frozen BK104.out 6) | ((with_reducible refine gate_callee (f := 65) rfl ?_); refine goesL_ (some 5) rfl rfl Try.func65 (by kernel_rfl) rfl #[.int .i64 a0_0] rfl (by (try simp only [List.map_toArray, List.map_cons, List.map_nil]); first | done | rfl | (simp only [List.length_drop, List.length_take]; rfl)) ?_; (with_reducible refine (pack_Bits.calls a0_0 true _ A2.out).mono ?_); rintro e w' ⟨rfl, ⟨nd, rfl⟩⟩; refine ⟨_, rfl, ?_⟩) | (go_at_call 65; (with_reducible refine (pack_Bits.calls a0_1 true _ A4.out).mono ?_); rintro e w' ⟨rfl, ⟨nd, rfl⟩⟩) | (go_at_call 66; (with_reducible refine (page_within.calls a0_2 1 16 true _ A6.out).mono ?_); rintro e w' ⟨rfl, ⟨nd, rfl⟩⟩) | (go_at_call 66; (with_reducible refine (page_within.calls a0_3 1 16 true _ A8.out).mono ?_); rintro e w' ⟨rfl, ⟨nd, rfl⟩⟩) | (go_at_call 66; (with_reducible refine (page_within.calls a0_4 0 3 true _ A10.out).mono ?_); rintro e w' ⟨rfl, ⟨nd, rfl⟩⟩) | (go_at_call 66; (with_reducible refine (page_within.calls a0_5 0 3 true _ A12.out).mono ?_); rintro e w' ⟨rfl, ⟨nd, rfl⟩⟩) | (go_at_call 66; (with_reducible refine (page_within.calls a0_6 0 1023 t111 _ A14.out).mono ?_); rintro e w' ⟨rfl, ⟨nd, rfl⟩⟩))
       go_ret
       exact ⟨by first | rfl | (simp [errW_none, errW_some] <;> rfl) | (simp [*, errW_none, errW_some] <;> rfl), by repeat (first | (with_reducible first | exact HB.out | apply below_alloc | apply pw_below_drewN | apply below_drew1 | refine below_set ?_ GE104.out) | exact HB.out)⟩
      ·
       replace c13 := Bool.eq_false_iff.mpr c13
       subst c13
       have H1 : (some false) = some r := by rw [if_neg (show ¬ (false = true) by decide)] at H; exact H
       clear H
       have H := H1
       clear H1
       obtain rfl := Option.some.inj H
       go_enter Try.func60, Try.ntmps60
       go_wp2_with (first | ((with_reducible refine gate_dst (N := 1) rfl ?_); refine box_event ?hg (N := 1) ?hd (cs := #[.int .i64 a0_0, .int .i64 a0_1, .int .i64 a0_2, .int .i64 a0_3, .int .i64 a0_4, .int .i64 a0_5, .int .i64 a0_6]) (t := 48) ?hr ?_; (case hd => rfl); (case hg => rfl); (case hr => first | (go_simp; done) | (go_simp; rfl)); intro gb104 hg w17 hbox hb; have n0_ := Aside0.mk (below_step (by with_reducible exact HB.out) hb); have n1_ := Aside0.mk (hbox); have n2_ := Aside0.mk ((by rw [hg]; exact (below_size (by with_reducible exact HB.out)) : w.heap.size ≤ gb104)); have n3_ := Aside0.mk ((by rw [hg]; exact (below_size (by with_reducible exact HB.out)) : w.heap.size ≤ gb104)); clear HB; have HB := n0_; have BK104 := n1_; have GW104 := n2_; have GE104 := n3_; clear n0_ n1_ n2_ n3_; clear hb hbox hg; have hcz18_0 : w17.cell? ⟨gb104, 0, none⟩ = some (.int .i64 a0_0) := (blk_cell BK104.out 0).trans rfl; have hcz18_1 : w17.cell? ⟨gb104, 1, none⟩ = some (.int .i64 a0_1) := (blk_cell BK104.out 1).trans rfl; have hcz18_2 : w17.cell? ⟨gb104, 2, none⟩ = some (.int .i64 a0_2) := (blk_cell BK104.out 2).trans rfl; have hcz18_3 : w17.cell? ⟨gb104, 3, none⟩ = some (.int .i64 a0_3) := (blk_cell BK104.out 3).trans rfl; have hcz18_4 : w17.cell? ⟨gb104, 4, none⟩ = some (.int .i64 a0_4) := (blk_cell BK104.out 4).trans rfl; have hcz18_5 : w17.cell? ⟨gb104, 5, none⟩ = some (.int .i64 a0_5) := (blk_cell BK104.out 5).trans rfl; have hcz18_6 : w17.cell? ⟨gb104, 6, none⟩ = some (.int .i64 a0_6) := (blk_cell BK104.out 6).trans rfl; have hfz18_0 := blk_frozen BK104.out 0; have hfz18_1 := blk_frozen BK104.out 1; have hfz18_2 := blk_frozen BK104.out 2; have hfz18_3 := blk_frozen BK104.out 3; have hfz18_4 := blk_frozen BK104.out 4; have hfz18_5 := blk_frozen BK104.out 5; have hfz18_6 := blk_frozen BK104.out 6) | ((with_reducible refine gate_callee (f := 65) rfl ?_); refine goesL_ (some 5) rfl rfl Try.func65 (by kernel_rfl) rfl #[.int .i64 a0_0] rfl (by (try simp only [List.map_toArray, List.map_cons, List.map_nil]); first | done | rfl | (simp only [List.length_drop, List.length_take]; rfl)) ?_; (with_reducible refine (pack_Bits.calls a0_0 true _ A2.out).mono ?_); rintro e w' ⟨rfl, ⟨nd, rfl⟩⟩; refine ⟨_, rfl, ?_⟩) | (go_at_call 65; (with_reducible refine (pack_Bits.calls a0_1 true _ A4.out).mono ?_); rintro e w' ⟨rfl, ⟨nd, rfl⟩⟩) | (go_at_call 66; (with_reducible refine (page_within.calls a0_2 1 16 true _ A6.out).mono ?_); rintro e w' ⟨rfl, ⟨nd, rfl⟩⟩) | (go_at_call 66; (with_reducible refine (page_within.calls a0_3 1 16 true _ A8.out).mono ?_); rintro e w' ⟨rfl, ⟨nd, rfl⟩⟩) | (go_at_call 66; (with_reducible refine (page_within.calls a0_4 0 3 true _ A10.out).mono ?_); rintro e w' ⟨rfl, ⟨nd, rfl⟩⟩) | (go_at_call 66; (with_reducible refine (page_within.calls a0_5 0 3 false _ A12.out).mono ?_); rintro e w' ⟨rfl, ⟨nd, rfl⟩⟩))
       go_ret
       exact ⟨by first | rfl | (simp [errW_none, errW_some] <;> rfl) | (simp [*, errW_none, errW_some] <;> rfl), by repeat (first | (with_reducible first | exact HB.out | apply below_alloc | apply pw_below_drewN | apply below_drew1 | refine below_set ?_ GE104.out) | exact HB.out)⟩
     ·
      replace c11 := Bool.eq_false_iff.mpr c11
      subst c11
      have H1 : (some false) = some r := by rw [if_neg (show ¬ (false = true) by decide)] at H; exact H
      clear H
      have H := H1
      clear H1
      obtain rfl := Option.some.inj H
      go_enter Try.func60, Try.ntmps60
      go_wp2_with (first | ((with_reducible refine gate_dst (N := 1) rfl ?_); refine box_event ?hg (N := 1) ?hd (cs := #[.int .i64 a0_0, .int .i64 a0_1, .int .i64 a0_2, .int .i64 a0_3, .int .i64 a0_4, .int .i64 a0_5, .int .i64 a0_6]) (t := 48) ?hr ?_; (case hd => rfl); (case hg => rfl); (case hr => first | (go_simp; done) | (go_simp; rfl)); intro gb104 hg w19 hbox hb; have n0_ := Aside0.mk (below_step (by with_reducible exact HB.out) hb); have n1_ := Aside0.mk (hbox); have n2_ := Aside0.mk ((by rw [hg]; exact (below_size (by with_reducible exact HB.out)) : w.heap.size ≤ gb104)); have n3_ := Aside0.mk ((by rw [hg]; exact (below_size (by with_reducible exact HB.out)) : w.heap.size ≤ gb104)); clear HB; have HB := n0_; have BK104 := n1_; have GW104 := n2_; have GE104 := n3_; clear n0_ n1_ n2_ n3_; clear hb hbox hg; have hcz20_0 : w19.cell? ⟨gb104, 0, none⟩ = some (.int .i64 a0_0) := (blk_cell BK104.out 0).trans rfl; have hcz20_1 : w19.cell? ⟨gb104, 1, none⟩ = some (.int .i64 a0_1) := (blk_cell BK104.out 1).trans rfl; have hcz20_2 : w19.cell? ⟨gb104, 2, none⟩ = some (.int .i64 a0_2) := (blk_cell BK104.out 2).trans rfl; have hcz20_3 : w19.cell? ⟨gb104, 3, none⟩ = some (.int .i64 a0_3) := (blk_cell BK104.out 3).trans rfl; have hcz20_4 : w19.cell? ⟨gb104, 4, none⟩ = some (.int .i64 a0_4) := (blk_cell BK104.out 4).trans rfl; have hcz20_5 : w19.cell? ⟨gb104, 5, none⟩ = some (.int .i64 a0_5) := (blk_cell BK104.out 5).trans rfl; have hcz20_6 : w19.cell? ⟨gb104, 6, none⟩ = some (.int .i64 a0_6) := (blk_cell BK104.out 6).trans rfl; have hfz20_0 := blk_frozen BK104.out 0; have hfz20_1 := blk_frozen BK104.out 1; have hfz20_2 := blk_frozen BK104.out 2; have hfz20_3 := blk_frozen BK104.out 3; have hfz20_4 := blk_frozen BK104.out 4; have hfz20_5 := blk_frozen BK104.out 5; have hfz20_6 := blk_frozen BK104.out 6) | ((with_reducible refine gate_callee (f := 65) rfl ?_); refine goesL_ (some 5) rfl rfl Try.func65 (by kernel_rfl) rfl #[.int .i64 a0_0] rfl (by (try simp only [List.map_toArray, List.map_cons, List.map_nil]); first | done | rfl | (simp only [List.length_drop, List.length_take]; rfl)) ?_; (with_reducible refine (pack_Bits.calls a0_0 true _ A2.out).mono ?_); rintro e w' ⟨rfl, ⟨nd, rfl⟩⟩; refine ⟨_, rfl, ?_⟩) | (go_at_call 65; (with_reducible refine (pack_Bits.calls a0_1 true _ A4.out).mono ?_); rintro e w' ⟨rfl, ⟨nd, rfl⟩⟩) | (go_at_call 66; (with_reducible refine (page_within.calls a0_2 1 16 true _ A6.out).mono ?_); rintro e w' ⟨rfl, ⟨nd, rfl⟩⟩) | (go_at_call 66; (with_reducible refine (page_within.calls a0_3 1 16 true _ A8.out).mono ?_); rintro e w' ⟨rfl, ⟨nd, rfl⟩⟩) | (go_at_call 66; (with_reducible refine (page_within.calls a0_4 0 3 false _ A10.out).mono ?_); rintro e w' ⟨rfl, ⟨nd, rfl⟩⟩))
      go_ret
      exact ⟨by first | rfl | (simp [errW_none, errW_some] <;> rfl) | (simp [*, errW_none, errW_some] <;> rfl), by repeat (first | (with_reducible first | exact HB.out | apply below_alloc | apply pw_below_drewN | apply below_drew1 | refine below_set ?_ GE104.out) | exact HB.out)⟩
    ·
     replace c9 := Bool.eq_false_iff.mpr c9
     subst c9
     have H1 : (some false) = some r := by rw [if_neg (show ¬ (false = true) by decide)] at H; exact H
     clear H
     have H := H1
     clear H1
     obtain rfl := Option.some.inj H
     go_enter Try.func60, Try.ntmps60
     go_wp2_with (first | ((with_reducible refine gate_dst (N := 1) rfl ?_); refine box_event ?hg (N := 1) ?hd (cs := #[.int .i64 a0_0, .int .i64 a0_1, .int .i64 a0_2, .int .i64 a0_3, .int .i64 a0_4, .int .i64 a0_5, .int .i64 a0_6]) (t := 48) ?hr ?_; (case hd => rfl); (case hg => rfl); (case hr => first | (go_simp; done) | (go_simp; rfl)); intro gb104 hg w21 hbox hb; have n0_ := Aside0.mk (below_step (by with_reducible exact HB.out) hb); have n1_ := Aside0.mk (hbox); have n2_ := Aside0.mk ((by rw [hg]; exact (below_size (by with_reducible exact HB.out)) : w.heap.size ≤ gb104)); have n3_ := Aside0.mk ((by rw [hg]; exact (below_size (by with_reducible exact HB.out)) : w.heap.size ≤ gb104)); clear HB; have HB := n0_; have BK104 := n1_; have GW104 := n2_; have GE104 := n3_; clear n0_ n1_ n2_ n3_; clear hb hbox hg; have hcz22_0 : w21.cell? ⟨gb104, 0, none⟩ = some (.int .i64 a0_0) := (blk_cell BK104.out 0).trans rfl; have hcz22_1 : w21.cell? ⟨gb104, 1, none⟩ = some (.int .i64 a0_1) := (blk_cell BK104.out 1).trans rfl; have hcz22_2 : w21.cell? ⟨gb104, 2, none⟩ = some (.int .i64 a0_2) := (blk_cell BK104.out 2).trans rfl; have hcz22_3 : w21.cell? ⟨gb104, 3, none⟩ = some (.int .i64 a0_3) := (blk_cell BK104.out 3).trans rfl; have hcz22_4 : w21.cell? ⟨gb104, 4, none⟩ = some (.int .i64 a0_4) := (blk_cell BK104.out 4).trans rfl; have hcz22_5 : w21.cell? ⟨gb104, 5, none⟩ = some (.int .i64 a0_5) := (blk_cell BK104.out 5).trans rfl; have hcz22_6 : w21.cell? ⟨gb104, 6, none⟩ = some (.int .i64 a0_6) := (blk_cell BK104.out 6).trans rfl; have hfz22_0 := blk_frozen BK104.out 0; have hfz22_1 := blk_frozen BK104.out 1; have hfz22_2 := blk_frozen BK104.out 2; have hfz22_3 := blk_frozen BK104.out 3; have hfz22_4 := blk_frozen BK104.out 4; have hfz22_5 := blk_frozen BK104.out 5; have hfz22_6 := blk_frozen BK104.out 6) | ((with_reducible refine gate_callee (f := 65) rfl ?_); refine goesL_ (some 5) rfl rfl Try.func65 (by kernel_rfl) rfl #[.int .i64 a0_0] rfl (by (try simp only [List.map_toArray, List.map_cons, List.map_nil]); first | done | rfl | (simp only [List.length_drop, List.length_take]; rfl)) ?_; (with_reducible refine (pack_Bits.calls a0_0 true _ A2.out).mono ?_); rintro e w' ⟨rfl, ⟨nd, rfl⟩⟩; refine ⟨_, rfl, ?_⟩) | (go_at_call 65; (with_reducible refine (pack_Bits.calls a0_1 true _ A4.out).mono ?_); rintro e w' ⟨rfl, ⟨nd, rfl⟩⟩) | (go_at_call 66; (with_reducible refine (page_within.calls a0_2 1 16 true _ A6.out).mono ?_); rintro e w' ⟨rfl, ⟨nd, rfl⟩⟩) | (go_at_call 66; (with_reducible refine (page_within.calls a0_3 1 16 false _ A8.out).mono ?_); rintro e w' ⟨rfl, ⟨nd, rfl⟩⟩))
     go_ret
     exact ⟨by first | rfl | (simp [errW_none, errW_some] <;> rfl) | (simp [*, errW_none, errW_some] <;> rfl), by repeat (first | (with_reducible first | exact HB.out | apply below_alloc | apply pw_below_drewN | apply below_drew1 | refine below_set ?_ GE104.out) | exact HB.out)⟩
   ·
    replace c7 := Bool.eq_false_iff.mpr c7
    subst c7
    have H1 : (some false) = some r := by rw [if_neg (show ¬ (false = true) by decide)] at H; exact H
    clear H
    have H := H1
    clear H1
    obtain rfl := Option.some.inj H
    go_enter Try.func60, Try.ntmps60
    go_wp2_with (first | ((with_reducible refine gate_dst (N := 1) rfl ?_); refine box_event ?hg (N := 1) ?hd (cs := #[.int .i64 a0_0, .int .i64 a0_1, .int .i64 a0_2, .int .i64 a0_3, .int .i64 a0_4, .int .i64 a0_5, .int .i64 a0_6]) (t := 48) ?hr ?_; (case hd => rfl); (case hg => rfl); (case hr => first | (go_simp; done) | (go_simp; rfl)); intro gb104 hg w23 hbox hb; have n0_ := Aside0.mk (below_step (by with_reducible exact HB.out) hb); have n1_ := Aside0.mk (hbox); have n2_ := Aside0.mk ((by rw [hg]; exact (below_size (by with_reducible exact HB.out)) : w.heap.size ≤ gb104)); have n3_ := Aside0.mk ((by rw [hg]; exact (below_size (by with_reducible exact HB.out)) : w.heap.size ≤ gb104)); clear HB; have HB := n0_; have BK104 := n1_; have GW104 := n2_; have GE104 := n3_; clear n0_ n1_ n2_ n3_; clear hb hbox hg; have hcz24_0 : w23.cell? ⟨gb104, 0, none⟩ = some (.int .i64 a0_0) := (blk_cell BK104.out 0).trans rfl; have hcz24_1 : w23.cell? ⟨gb104, 1, none⟩ = some (.int .i64 a0_1) := (blk_cell BK104.out 1).trans rfl; have hcz24_2 : w23.cell? ⟨gb104, 2, none⟩ = some (.int .i64 a0_2) := (blk_cell BK104.out 2).trans rfl; have hcz24_3 : w23.cell? ⟨gb104, 3, none⟩ = some (.int .i64 a0_3) := (blk_cell BK104.out 3).trans rfl; have hcz24_4 : w23.cell? ⟨gb104, 4, none⟩ = some (.int .i64 a0_4) := (blk_cell BK104.out 4).trans rfl; have hcz24_5 : w23.cell? ⟨gb104, 5, none⟩ = some (.int .i64 a0_5) := (blk_cell BK104.out 5).trans rfl; have hcz24_6 : w23.cell? ⟨gb104, 6, none⟩ = some (.int .i64 a0_6) := (blk_cell BK104.out 6).trans rfl; have hfz24_0 := blk_frozen BK104.out 0; have hfz24_1 := blk_frozen BK104.out 1; have hfz24_2 := blk_frozen BK104.out 2; have hfz24_3 := blk_frozen BK104.out 3; have hfz24_4 := blk_frozen BK104.out 4; have hfz24_5 := blk_frozen BK104.out 5; have hfz24_6 := blk_frozen BK104.out 6) | ((with_reducible refine gate_callee (f := 65) rfl ?_); refine goesL_ (some 5) rfl rfl Try.func65 (by kernel_rfl) rfl #[.int .i64 a0_0] rfl (by (try simp only [List.map_toArray, List.map_cons, List.map_nil]); first | done | rfl | (simp only [List.length_drop, List.length_take]; rfl)) ?_; (with_reducible refine (pack_Bits.calls a0_0 true _ A2.out).mono ?_); rintro e w' ⟨rfl, ⟨nd, rfl⟩⟩; refine ⟨_, rfl, ?_⟩) | (go_at_call 65; (with_reducible refine (pack_Bits.calls a0_1 true _ A4.out).mono ?_); rintro e w' ⟨rfl, ⟨nd, rfl⟩⟩) | (go_at_call 66; (with_reducible refine (page_within.calls a0_2 1 16 false _ A6.out).mono ?_); rintro e w' ⟨rfl, ⟨nd, rfl⟩⟩))
    go_ret
    exact ⟨by first | rfl | (simp [errW_none, errW_some] <;> rfl) | (simp [*, errW_none, errW_some] <;> rfl), by repeat (first | (with_reducible first | exact HB.out | apply below_alloc | apply pw_below_drewN | apply below_drew1 | refine below_set ?_ GE104.out) | exact HB.out)⟩
  ·
   replace c5 := Bool.eq_false_iff.mpr c5
   subst c5
   have H1 : (some false) = some r := by rw [if_neg (show ¬ (false = true) by decide)] at H; exact H
   clear H
   have H := H1
   clear H1
   obtain rfl := Option.some.inj H
   go_enter Try.func60, Try.ntmps60
   go_wp2_with (first | ((with_reducible refine gate_dst (N := 1) rfl ?_); refine box_event ?hg (N := 1) ?hd (cs := #[.int .i64 a0_0, .int .i64 a0_1, .int .i64 a0_2, .int .i64 a0_3, .int .i64 a0_4, .int .i64 a0_5, .int .i64 a0_6]) (t := 48) ?hr ?_; (case hd => rfl); (case hg => rfl); (case hr => first | (go_simp; done) | (go_simp; rfl)); intro gb104 hg w25 hbox hb; have n0_ := Aside0.mk (below_step (by with_reducible exact HB.out) hb); have n1_ := Aside0.mk (hbox); have n2_ := Aside0.mk ((by rw [hg]; exact (below_size (by with_reducible exact HB.out)) : w.heap.size ≤ gb104)); have n3_ := Aside0.mk ((by rw [hg]; exact (below_size (by with_reducible exact HB.out)) : w.heap.size ≤ gb104)); clear HB; have HB := n0_; have BK104 := n1_; have GW104 := n2_; have GE104 := n3_; clear n0_ n1_ n2_ n3_; clear hb hbox hg; have hcz26_0 : w25.cell? ⟨gb104, 0, none⟩ = some (.int .i64 a0_0) := (blk_cell BK104.out 0).trans rfl; have hcz26_1 : w25.cell? ⟨gb104, 1, none⟩ = some (.int .i64 a0_1) := (blk_cell BK104.out 1).trans rfl; have hcz26_2 : w25.cell? ⟨gb104, 2, none⟩ = some (.int .i64 a0_2) := (blk_cell BK104.out 2).trans rfl; have hcz26_3 : w25.cell? ⟨gb104, 3, none⟩ = some (.int .i64 a0_3) := (blk_cell BK104.out 3).trans rfl; have hcz26_4 : w25.cell? ⟨gb104, 4, none⟩ = some (.int .i64 a0_4) := (blk_cell BK104.out 4).trans rfl; have hcz26_5 : w25.cell? ⟨gb104, 5, none⟩ = some (.int .i64 a0_5) := (blk_cell BK104.out 5).trans rfl; have hcz26_6 : w25.cell? ⟨gb104, 6, none⟩ = some (.int .i64 a0_6) := (blk_cell BK104.out 6).trans rfl; have hfz26_0 := blk_frozen BK104.out 0; have hfz26_1 := blk_frozen BK104.out 1; have hfz26_2 := blk_frozen BK104.out 2; have hfz26_3 := blk_frozen BK104.out 3; have hfz26_4 := blk_frozen BK104.out 4; have hfz26_5 := blk_frozen BK104.out 5; have hfz26_6 := blk_frozen BK104.out 6) | ((with_reducible refine gate_callee (f := 65) rfl ?_); refine goesL_ (some 5) rfl rfl Try.func65 (by kernel_rfl) rfl #[.int .i64 a0_0] rfl (by (try simp only [List.map_toArray, List.map_cons, List.map_nil]); first | done | rfl | (simp only [List.length_drop, List.length_take]; rfl)) ?_; (with_reducible refine (pack_Bits.calls a0_0 true _ A2.out).mono ?_); rintro e w' ⟨rfl, ⟨nd, rfl⟩⟩; refine ⟨_, rfl, ?_⟩) | (go_at_call 65; (with_reducible refine (pack_Bits.calls a0_1 false _ A4.out).mono ?_); rintro e w' ⟨rfl, ⟨nd, rfl⟩⟩))
   go_ret
   exact ⟨by first | rfl | (simp [errW_none, errW_some] <;> rfl) | (simp [*, errW_none, errW_some] <;> rfl), by repeat (first | (with_reducible first | exact HB.out | apply below_alloc | apply pw_below_drewN | apply below_drew1 | refine below_set ?_ GE104.out) | exact HB.out)⟩
 ·
  replace c3 := Bool.eq_false_iff.mpr c3
  subst c3
  have H1 : (some false) = some r := by rw [if_neg (show ¬ (false = true) by decide)] at H; exact H
  clear H
  have H := H1
  clear H1
  obtain rfl := Option.some.inj H
  go_enter Try.func60, Try.ntmps60
  go_wp2_with (first | ((with_reducible refine gate_dst (N := 1) rfl ?_); refine box_event ?hg (N := 1) ?hd (cs := #[.int .i64 a0_0, .int .i64 a0_1, .int .i64 a0_2, .int .i64 a0_3, .int .i64 a0_4, .int .i64 a0_5, .int .i64 a0_6]) (t := 48) ?hr ?_; (case hd => rfl); (case hg => rfl); (case hr => first | (go_simp; done) | (go_simp; rfl)); intro gb104 hg w27 hbox hb; have n0_ := Aside0.mk (below_step (by with_reducible exact HB.out) hb); have n1_ := Aside0.mk (hbox); have n2_ := Aside0.mk ((by rw [hg]; exact (below_size (by with_reducible exact HB.out)) : w.heap.size ≤ gb104)); have n3_ := Aside0.mk ((by rw [hg]; exact (below_size (by with_reducible exact HB.out)) : w.heap.size ≤ gb104)); clear HB; have HB := n0_; have BK104 := n1_; have GW104 := n2_; have GE104 := n3_; clear n0_ n1_ n2_ n3_; clear hb hbox hg; have hcz28_0 : w27.cell? ⟨gb104, 0, none⟩ = some (.int .i64 a0_0) := (blk_cell BK104.out 0).trans rfl; have hcz28_1 : w27.cell? ⟨gb104, 1, none⟩ = some (.int .i64 a0_1) := (blk_cell BK104.out 1).trans rfl; have hcz28_2 : w27.cell? ⟨gb104, 2, none⟩ = some (.int .i64 a0_2) := (blk_cell BK104.out 2).trans rfl; have hcz28_3 : w27.cell? ⟨gb104, 3, none⟩ = some (.int .i64 a0_3) := (blk_cell BK104.out 3).trans rfl; have hcz28_4 : w27.cell? ⟨gb104, 4, none⟩ = some (.int .i64 a0_4) := (blk_cell BK104.out 4).trans rfl; have hcz28_5 : w27.cell? ⟨gb104, 5, none⟩ = some (.int .i64 a0_5) := (blk_cell BK104.out 5).trans rfl; have hcz28_6 : w27.cell? ⟨gb104, 6, none⟩ = some (.int .i64 a0_6) := (blk_cell BK104.out 6).trans rfl; have hfz28_0 := blk_frozen BK104.out 0; have hfz28_1 := blk_frozen BK104.out 1; have hfz28_2 := blk_frozen BK104.out 2; have hfz28_3 := blk_frozen BK104.out 3; have hfz28_4 := blk_frozen BK104.out 4; have hfz28_5 := blk_frozen BK104.out 5; have hfz28_6 := blk_frozen BK104.out 6) | ((with_reducible refine gate_callee (f := 65) rfl ?_); refine goesL_ (some 5) rfl rfl Try.func65 (by kernel_rfl) rfl #[.int .i64 a0_0] rfl (by (try simp only [List.map_toArray, List.map_cons, List.map_nil]); first | done | rfl | (simp only [List.length_drop, List.length_take]; rfl)) ?_; (with_reducible refine (pack_Bits.calls a0_0 false _ A2.out).mono ?_); rintro e w' ⟨rfl, ⟨nd, rfl⟩⟩; refine ⟨_, rfl, ?_⟩))
  go_ret
  exact ⟨by first | rfl | (simp [errW_none, errW_some] <;> rfl) | (simp [*, errW_none, errW_some] <;> rfl), by repeat (first | (with_reducible first | exact HB.out | apply below_alloc | apply pw_below_drewN | apply below_drew1 | refine below_set ?_ GE104.out) | exact HB.out)⟩

/-! ### page_numbers: function 61 -/
def page_numbers.l0 : Nat → List (List Int) → Int → Int → List (List Int) → Int → Int → Option (Bool)
 | 0, _, _, _, _, _, _ => none
 | k + 1, x0, x1, x2, x9, x10, x11 => if x11 < x10 then (if 0 ≤ x11 then (if x11 < (x9.length : Int) then (if ((rd_L11 x9 x11).length : Int) = x2 then (page_numbers.l0 k x0 x1 x2 x9 x10 (wrap64 (x11 + 1))) else (some false)) else (none)) else (none)) else (some ((x0.length : Int) == x1))
def page_numbers.f (k : Nat) (l0 : List (List Int)) (a1 : Int) (a2 : Int) : Option (Bool) := page_numbers.l0 k l0 a1 a2 l0 (l0.length : Int) 0
theorem page_numbers.mono_l : ∀ k, (∀ y0 y1 y2 y3 y4 y5, LeO (page_numbers.l0 k y0 y1 y2 y3 y4 y5) (page_numbers.l0 (k + 1) y0 y1 y2 y3 y4 y5))
 | 0 => fun _ _ _ _ _ _ r h => by simp [page_numbers.l0] at h
 | k + 1 => by
  have ih0 := page_numbers.mono_l k
  ·
   intro y0 y1 y2 y3 y4 y5
   unfold page_numbers.l0
   repeat' first
   | (with_reducible exact ih0 _ _ _ _ _ _)
   | (with_reducible exact LeO.refl _)
   | (with_reducible exact LeO.none _)
   | (with_reducible refine LeO.ite ?_ ?_)
   | (with_reducible refine LeO.bind ?_ (fun _ => ?_))
   | exact ih0 _ _ _ _ _ _
   | exact LeO.none _
   | refine LeO.ite ?_ ?_
   | refine LeO.bind ?_ (fun _ => ?_)
theorem page_numbers.mono : ∀ a0 a1 a2 k, LeO (page_numbers.f k a0 a1 a2) (page_numbers.f (k + 1) a0 a1 a2) := by
 intro a0 a1 a2 k
 have ih0 := page_numbers.mono_l k
 unfold page_numbers.f
 repeat' first
   | (with_reducible exact ih0 _ _ _ _ _ _)
   | (with_reducible exact LeO.refl _)
   | (with_reducible exact LeO.none _)
   | (with_reducible refine LeO.ite ?_ ?_)
   | (with_reducible refine LeO.bind ?_ (fun _ => ?_))
   | exact ih0 _ _ _ _ _ _
   | exact LeO.none _
   | refine LeO.ite ?_ ?_
   | refine LeO.bind ?_ (fun _ => ?_)
set_option maxHeartbeats 8000000 in
set_option maxRecDepth 100000 in
theorem page_numbers.calls (k : Nat) (A0 : Option Addr) (c0 : Nat) (l0 : List (List Int)) (a1 : Int) (a2 : Int) (r : Bool) (w : World) (hr0 : Kd.C (Kd.slice 21 (Kd.int .i32)) w A0 l0.length l0) (hc0 : l0.length ≤ c0) (h : page_numbers.f k l0 a1 a2 = some r) :
  Calls Try.prog 61 #[.slice A0 l0.length c0, .int .i64 a1, .int .i64 a2] w fun e w' => e = .returned (.bool r) ∧ Drawn0 w w' := by
 have HR0 := Aside0.mk hr0
 have HC0 := Aside0.mk hc0
 clear hr0 hc0
 have H : (page_numbers.l0 k l0 a1 a2 l0 (l0.length : Int) 0) = some r := h
 clear h
 have H' := Aside0.mk H
 clear H
 go_enter Try.func61, Try.ntmps61
 go_wp2
 go_loopg [11] k (fun kq v11 w' => ∃ (x11_1 : Int), v11 = .int .i64 x11_1 ∧ Aside0 (page_numbers.l0 kq l0 a1 a2 l0 (l0.length : Int) x11_1 = some r) ∧ Aside0 (kq ≤ k) ∧ Drawn0 w w')
 case atStart => exact ⟨(0), (by first | rfl | (simp; done) | (simp [*]; done)), H', ⟨Nat.le_refl _⟩, by repeat (first | exact Drawn0.refl _ | apply Drawn0.step)⟩
 case round =>
  clear H'
  try clear p2
  obtain ⟨x11_1, rfl, HA, HK1, ⟨m1, rfl⟩⟩ := hrel
  cases gk with
  | zero => exact absurd HA.out (by simp [page_numbers.l0])
  | succ k1 =>
   have H := HA.out
   clear HA
   simp only [page_numbers.l0] at H
   by_cases c4 : x11_1 < (l0.length : Int)
   ·
    rw [if_pos c4] at H
    have c4b0 : decide (x11_1 < (l0.length : Int)) = true := decide_eq_true c4
    clear c4
    by_cases c5 : 0 ≤ x11_1
    case neg => (rw [if_neg c5] at H; exact absurd H (by simp))
    rw [if_pos c5] at H
    have c5b0 : decide (0 ≤ x11_1) = true := decide_eq_true c5
    clear c5
    by_cases c6 : x11_1 < (l0.length : Int)
    case neg => (rw [if_neg c6] at H; exact absurd H (by simp))
    rw [if_pos c6] at H
    have c6b0 : decide (x11_1 < (l0.length : Int)) = true := decide_eq_true c6
    clear c6
    by_cases c7 : ((rd_L11 l0 x11_1).length : Int) = a2
    ·
     rw [if_pos c7] at H
     have c7b0 : (((rd_L11 l0 x11_1).length : Int) == a2) = true := beq_iff_eq.mpr c7
     have c7b1 : (((rd_L11 l0 x11_1).length : Int) != a2) = false := bne_eq_false_iff_eq.mpr c7
     clear c7
     have H' := Aside0.mk H
     clear H
     have p112 : 0 ≤ (x11_1 : Int) := of_decide_eq_true (by first | (with_reducible assumption) | assumption)
     have q112 : x11_1 < (l0.length : Int) := of_decide_eq_true (by first | (with_reducible assumption) | assumption)
     obtain ⟨ad112, A112_0, c112_0, e112, hx112_0, hl112_0, hi112_0⟩ := at_L11 HR0.out x11_1 p112 q112
     cases e112
     have HR112_0 := Aside0.mk hi112_0
     have HC112_0 := Aside0.mk hl112_0
     clear hi112_0 hl112_0
     replace p112 := eq_true p112
     replace q112 := eq_true q112
     go_wp2
     go_roundg k1
     case measure => have := HK1.out; omega
     case rel => exact ⟨(wrap64 (x11_1 + 1)), (by first | rfl | (simp; done) | (simp [*]; done)), H', ⟨by have := HK1.out; omega⟩, by repeat (first | exact Drawn0.refl _ | apply Drawn0.step)⟩
    ·
     rw [if_neg c7] at H
     have c7b0 : (((rd_L11 l0 x11_1).length : Int) == a2) = false := beq_eq_false_iff_ne.mpr c7
     have c7b1 : (((rd_L11 l0 x11_1).length : Int) != a2) = true := bne_iff_ne.mpr c7
     obtain rfl := Option.some.inj H
     have p112 : 0 ≤ (x11_1 : Int) := of_decide_eq_true (by first | (with_reducible assumption) | assumption)
     have q112 : x11_1 < (l0.length : Int) := of_decide_eq_true (by first | (with_reducible assumption) | assumption)
     obtain ⟨ad112, A112_0, c112_0, e112, hx112_0, hl112_0, hi112_0⟩ := at_L11 HR0.out x11_1 p112 q112
     cases e112
     have HR112_0 := Aside0.mk hi112_0
     have HC112_0 := Aside0.mk hl112_0
     clear hi112_0 hl112_0
     replace p112 := eq_true p112
     replace q112 := eq_true q112
     go_wp2
     go_ret
     exact ⟨by first | rfl | (simp; done) | (simp [*]; done), by repeat (first | exact Drawn0.refl _ | apply Drawn0.step)⟩
   ·
    rw [if_neg c4] at H
    have c4b0 : decide (x11_1 < (l0.length : Int)) = false := decide_eq_false c4
    clear c4
    obtain rfl := Option.some.inj H
    go_wp2
    go_ret
    exact ⟨by first | rfl | (simp; done) | (simp [*]; done), by repeat (first | exact Drawn0.refl _ | apply Drawn0.step)⟩

/-! ### group_many: function 67 -/
def group_many.f (a0 : Int) (a1 : Int) : Option (Int) := (pack_Bits.f a1).bind fun t113 => (if t113 = true then (if a0 = 0 then (some 14) else (if a0 > 256 then (some 12) else (some 0))) else (some 20))
set_option maxHeartbeats 8000000 in
set_option maxRecDepth 100000 in
theorem group_many.calls (a0 : Int) (a1 : Int) (r : Int) (w : World) (h : group_many.f a0 a1 = some r) :
  Calls Try.prog 67 #[.int .i64 a0, .int .i64 a1] w fun e w' => e = .returned (.int .i64 r) ∧ Drawn0 w w' := by
 have H : ((pack_Bits.f a1).bind fun t113 => (if t113 = true then (if a0 = 0 then (some 14) else (if a0 > 256 then (some 12) else (some 0))) else (some 20))) = some r := h
 clear h
 replace H := Option.bind_eq_some_iff.mp H
 obtain ⟨t113, A30, H⟩ := H
 replace H : (if t113 = true then (if a0 = 0 then (some 14) else (if a0 > 256 then (some 12) else (some 0))) else (some 20)) = some r := H
 have A3 := Aside0.mk A30
 clear A30
 by_cases c4 : t113 = true
 ·
  subst c4
  have H1 : (if a0 = 0 then (some 14) else (if a0 > 256 then (some 12) else (some 0))) = some r := by rw [if_pos rfl] at H; exact H
  clear H
  have H := H1
  clear H1
  by_cases c5 : a0 = 0
  ·
   rw [if_pos c5] at H
   have c5b0 : (a0 == 0) = true := beq_iff_eq.mpr c5
   have c5b1 : (a0 != 0) = false := bne_eq_false_iff_eq.mpr c5
   clear c5
   obtain rfl := Option.some.inj H
   go_enter Try.func67, Try.ntmps67
   go_wp2_with (first | ((with_reducible refine gate_callee (f := 65) rfl ?_); refine goesL_ (some 7) rfl rfl Try.func65 (by kernel_rfl) rfl #[.int .i64 a1] rfl (by (try simp only [List.map_toArray, List.map_cons, List.map_nil]); first | done | rfl | (simp only [List.length_drop, List.length_take]; rfl)) ?_; (with_reducible refine (pack_Bits.calls a1 true _ A3.out).mono ?_); rintro e w' ⟨rfl, ⟨nd, rfl⟩⟩; refine ⟨_, rfl, ?_⟩))
   go_ret
   exact ⟨by first | rfl | (simp; done) | (simp [*]; done), by repeat (first | exact Drawn0.refl _ | apply Drawn0.step)⟩
  ·
   rw [if_neg c5] at H
   have c5b0 : (a0 == 0) = false := beq_eq_false_iff_ne.mpr c5
   have c5b1 : (a0 != 0) = true := bne_iff_ne.mpr c5
   by_cases c6 : a0 > 256
   ·
    rw [if_pos c6] at H
    have c6b0 : decide (256 < a0) = true := decide_eq_true c6
    clear c6
    obtain rfl := Option.some.inj H
    go_enter Try.func67, Try.ntmps67
    go_wp2_with (first | ((with_reducible refine gate_callee (f := 65) rfl ?_); refine goesL_ (some 7) rfl rfl Try.func65 (by kernel_rfl) rfl #[.int .i64 a1] rfl (by (try simp only [List.map_toArray, List.map_cons, List.map_nil]); first | done | rfl | (simp only [List.length_drop, List.length_take]; rfl)) ?_; (with_reducible refine (pack_Bits.calls a1 true _ A3.out).mono ?_); rintro e w' ⟨rfl, ⟨nd, rfl⟩⟩; refine ⟨_, rfl, ?_⟩))
    go_ret
    exact ⟨by first | rfl | (simp; done) | (simp [*]; done), by repeat (first | exact Drawn0.refl _ | apply Drawn0.step)⟩
   ·
    rw [if_neg c6] at H
    have c6b0 : decide (256 < a0) = false := decide_eq_false c6
    clear c6
    obtain rfl := Option.some.inj H
    go_enter Try.func67, Try.ntmps67
    go_wp2_with (first | ((with_reducible refine gate_callee (f := 65) rfl ?_); refine goesL_ (some 7) rfl rfl Try.func65 (by kernel_rfl) rfl #[.int .i64 a1] rfl (by (try simp only [List.map_toArray, List.map_cons, List.map_nil]); first | done | rfl | (simp only [List.length_drop, List.length_take]; rfl)) ?_; (with_reducible refine (pack_Bits.calls a1 true _ A3.out).mono ?_); rintro e w' ⟨rfl, ⟨nd, rfl⟩⟩; refine ⟨_, rfl, ?_⟩))
    go_ret
    exact ⟨by first | rfl | (simp; done) | (simp [*]; done), by repeat (first | exact Drawn0.refl _ | apply Drawn0.step)⟩
 ·
  replace c4 := Bool.eq_false_iff.mpr c4
  subst c4
  have H1 : (some 20) = some r := by rw [if_neg (show ¬ (false = true) by decide)] at H; exact H
  clear H
  have H := H1
  clear H1
  obtain rfl := Option.some.inj H
  go_enter Try.func67, Try.ntmps67
  go_wp2_with (first | ((with_reducible refine gate_callee (f := 65) rfl ?_); refine goesL_ (some 7) rfl rfl Try.func65 (by kernel_rfl) rfl #[.int .i64 a1] rfl (by (try simp only [List.map_toArray, List.map_cons, List.map_nil]); first | done | rfl | (simp only [List.length_drop, List.length_take]; rfl)) ?_; (with_reducible refine (pack_Bits.calls a1 false _ A3.out).mono ?_); rintro e w' ⟨rfl, ⟨nd, rfl⟩⟩; refine ⟨_, rfl, ?_⟩))
  go_ret
  exact ⟨by first | rfl | (simp; done) | (simp [*]; done), by repeat (first | exact Drawn0.refl _ | apply Drawn0.step)⟩

/-! ### slices_Min_int32_int32: function 68 -/
def slices_Min_int32_int32.l0 : Nat → List Int → Int → Int → Option (Int)
 | 0, _, _, _ => none
 | k + 1, x0, x3, x4 => if x4 < (x0.length : Int) then (if 0 ≤ x4 then (slices_Min_int32_int32.l0 k x0 (mn x3 (rd x0 x4)) (wrap64 (x4 + 1))) else (none)) else (some x3)
def slices_Min_int32_int32.f (k : Nat) (l0 : List Int) : Option (Int) := if (l0.length : Int) < 1 then (none) else (if 0 < (l0.length : Int) then (slices_Min_int32_int32.l0 k l0 (rd l0 0) 1) else (none))
theorem slices_Min_int32_int32.mono_l : ∀ k, (∀ y0 y1 y2, LeO (slices_Min_int32_int32.l0 k y0 y1 y2) (slices_Min_int32_int32.l0 (k + 1) y0 y1 y2))
 | 0 => fun _ _ _ r h => by simp [slices_Min_int32_int32.l0] at h
 | k + 1 => by
  have ih0 := slices_Min_int32_int32.mono_l k
  ·
   intro y0 y1 y2
   unfold slices_Min_int32_int32.l0
   repeat' first
   | (with_reducible exact ih0 _ _ _)
   | (with_reducible exact LeO.refl _)
   | (with_reducible exact LeO.none _)
   | (with_reducible refine LeO.ite ?_ ?_)
   | (with_reducible refine LeO.bind ?_ (fun _ => ?_))
   | exact ih0 _ _ _
   | exact LeO.none _
   | refine LeO.ite ?_ ?_
   | refine LeO.bind ?_ (fun _ => ?_)
theorem slices_Min_int32_int32.mono : ∀ a0 k, LeO (slices_Min_int32_int32.f k a0) (slices_Min_int32_int32.f (k + 1) a0) := by
 intro a0 k
 have ih0 := slices_Min_int32_int32.mono_l k
 unfold slices_Min_int32_int32.f
 repeat' first
   | (with_reducible exact ih0 _ _ _)
   | (with_reducible exact LeO.refl _)
   | (with_reducible exact LeO.none _)
   | (with_reducible refine LeO.ite ?_ ?_)
   | (with_reducible refine LeO.bind ?_ (fun _ => ?_))
   | exact ih0 _ _ _
   | exact LeO.none _
   | refine LeO.ite ?_ ?_
   | refine LeO.bind ?_ (fun _ => ?_)
set_option maxHeartbeats 8000000 in
set_option maxRecDepth 100000 in
theorem slices_Min_int32_int32.calls (k : Nat) (A0 : Option Addr) (c0 : Nat) (l0 : List Int) (r : Int) (w : World) (hr0 : Kd.C (Kd.int .i32) w A0 l0.length l0) (hc0 : l0.length ≤ c0) (h : slices_Min_int32_int32.f k l0 = some r) :
  Calls Try.prog 68 #[.slice A0 l0.length c0] w fun e w' => e = .returned (.int .i32 r) ∧ Below w.heap.size w w' := by
 have HR0 := Aside0.mk hr0
 have HC0 := Aside0.mk hc0
 clear hr0 hc0
 have HB := Aside0.mk (Below.refl w.heap.size w)
 have H : (if (l0.length : Int) < 1 then (none) else (if 0 < (l0.length : Int) then (slices_Min_int32_int32.l0 k l0 (rd l0 0) 1) else (none))) = some r := h
 clear h
 by_cases c2 : (l0.length : Int) < 1
 case pos => (rw [if_pos c2] at H; exact absurd H (by simp))
 rw [if_neg c2] at H
 have c2b0 : decide ((l0.length : Int) < 1) = false := decide_eq_false c2
 have c2b1 : decide (l0.length < 1) = false := decide_eq_false (by omega)
 clear c2
 by_cases c3 : 0 < (l0.length : Int)
 case neg => (rw [if_neg c3] at H; exact absurd H (by simp))
 rw [if_pos c3] at H
 have c3b0 : decide (0 < (l0.length : Int)) = true := decide_eq_true c3
 have c3b1 : decide (0 < l0.length) = true := decide_eq_true (by omega)
 clear c3
 have H' := Aside0.mk H
 clear H
 have p114 : 0 ≤ (0 : Int) := (by omega)
 have q114 : 0 < (l0.length : Int) := of_decide_eq_true (by first | (with_reducible assumption) | assumption)
 obtain ⟨ad114, e114, hx114_0⟩ := Kd.at_int HR0.out 0 p114 q114
 cases e114
 have qi114 : (0 < l0.length) = True := eq_true (by omega)
 (try rw [show ((0 : Int)).toNat = 0 from rfl] at hx114_0)
 (try rw [Addr.add_zero'] at hx114_0)
 replace p114 := eq_true p114
 replace q114 := eq_true q114
 go_enter Try.func68, Try.ntmps68
 go_wp2
 go_loopg [3, 4] k (fun kq v3 v4 w' => ∃ (x3_1 : Int) (x4_1 : Int), v3 = .int .i32 x3_1 ∧ v4 = .int .i64 x4_1 ∧ Aside0 (slices_Min_int32_int32.l0 kq l0 x3_1 x4_1 = some r) ∧ Aside0 (kq ≤ k) ∧ Aside0 (Below w.heap.size w w'))
 case atStart => exact ⟨(rd l0 0), (1), (by first | rfl | (simp; done) | (simp [*]; done)), (by first | rfl | (simp; done) | (simp [*]; done)), H', ⟨Nat.le_refl _⟩, ⟨by with_reducible exact HB.out⟩⟩
 case round =>
  clear H'
  try clear p1
  try clear q1
  try clear hx1
  try clear qi1
  try clear c2
  try clear c2b0
  try clear c2b1
  try clear p2
  try clear c3
  try clear c3b0
  try clear c3b1
  try clear hx114_0
  try clear p114
  try clear q114
  obtain ⟨x3_1, x4_1, rfl, rfl, HA, HK1, HB⟩ := hrel
  cases gk with
  | zero => exact absurd HA.out (by simp [slices_Min_int32_int32.l0])
  | succ k1 =>
   have H := HA.out
   clear HA
   simp only [slices_Min_int32_int32.l0] at H
   by_cases c4 : x4_1 < (l0.length : Int)
   ·
    rw [if_pos c4] at H
    have c4b0 : decide (x4_1 < (l0.length : Int)) = true := decide_eq_true c4
    clear c4
    by_cases c5 : 0 ≤ x4_1
    case neg => (rw [if_neg c5] at H; exact absurd H (by simp))
    rw [if_pos c5] at H
    have c5b0 : decide (0 ≤ x4_1) = true := decide_eq_true c5
    clear c5
    obtain ⟨ji6, hji6⟩ : ∃ j_ : Int, (mn x3_1 (rd l0 x4_1)) = j_ := ⟨_, rfl⟩
    replace H : (slices_Min_int32_int32.l0 k1 l0 ji6 (wrap64 (x4_1 + 1))) = some r := by first | (rw [hji6] at H; exact H) | (simp only [hji6] at H ⊢; exact H)
    have hji6_ : (if (rd l0 x4_1) < x3_1 then (rd l0 x4_1) else x3_1) = ji6 := hji6
    have H' := Aside0.mk H
    clear H
    have p115 : 0 ≤ (x4_1 : Int) := of_decide_eq_true (by first | (with_reducible assumption) | assumption)
    have q115 : x4_1 < (l0.length : Int) := of_decide_eq_true (by first | (with_reducible assumption) | assumption)
    obtain ⟨ad115, e115, hx115_0⟩ := Kd.at_int HR0.out x4_1 p115 q115
    obtain rfl : ad114 = ad115 := (by injection e115)
    replace hx115_0 := (HB.out.cell (World.block_lt_of_cell? w _ hx115_0)).trans hx115_0
    replace p115 := eq_true p115
    replace q115 := eq_true q115
    go_wp2
    go_roundg k1
    case measure => have := HK1.out; omega
    case rel => exact ⟨(ji6), (wrap64 (x4_1 + 1)), (by first | rfl | (simp; done) | (simp only [← hji6] <;> (first | rfl | simp)) | (simp [*]; done)), (by first | rfl | (simp; done) | (simp [*]; done)), H', ⟨by have := HK1.out; omega⟩, ⟨by with_reducible exact HB.out⟩⟩
   ·
    rw [if_neg c4] at H
    have c4b0 : decide (x4_1 < (l0.length : Int)) = false := decide_eq_false c4
    clear c4
    obtain rfl := Option.some.inj H
    go_wp2
    go_ret
    exact ⟨by first | rfl | (simp [errW_none, errW_some] <;> rfl) | (simp [*, errW_none, errW_some] <;> rfl), by with_reducible exact HB.out⟩

/-! ### slices_Max_int32_int32: function 69 -/
def slices_Max_int32_int32.l0 : Nat → List Int → Int → Int → Option (Int)
 | 0, _, _, _ => none
 | k + 1, x0, x3, x4 => if x4 < (x0.length : Int) then (if 0 ≤ x4 then (slices_Max_int32_int32.l0 k x0 (mx x3 (rd x0 x4)) (wrap64 (x4 + 1))) else (none)) else (some x3)
def slices_Max_int32_int32.f (k : Nat) (l0 : List Int) : Option (Int) := if (l0.length : Int) < 1 then (none) else (if 0 < (l0.length : Int) then (slices_Max_int32_int32.l0 k l0 (rd l0 0) 1) else (none))
theorem slices_Max_int32_int32.mono_l : ∀ k, (∀ y0 y1 y2, LeO (slices_Max_int32_int32.l0 k y0 y1 y2) (slices_Max_int32_int32.l0 (k + 1) y0 y1 y2))
 | 0 => fun _ _ _ r h => by simp [slices_Max_int32_int32.l0] at h
 | k + 1 => by
  have ih0 := slices_Max_int32_int32.mono_l k
  ·
   intro y0 y1 y2
   unfold slices_Max_int32_int32.l0
   repeat' first
   | (with_reducible exact ih0 _ _ _)
   | (with_reducible exact LeO.refl _)
   | (with_reducible exact LeO.none _)
   | (with_reducible refine LeO.ite ?_ ?_)
   | (with_reducible refine LeO.bind ?_ (fun _ => ?_))
   | exact ih0 _ _ _
   | exact LeO.none _
   | refine LeO.ite ?_ ?_
   | refine LeO.bind ?_ (fun _ => ?_)
theorem slices_Max_int32_int32.mono : ∀ a0 k, LeO (slices_Max_int32_int32.f k a0) (slices_Max_int32_int32.f (k + 1) a0) := by
 intro a0 k
 have ih0 := slices_Max_int32_int32.mono_l k
 unfold slices_Max_int32_int32.f
 repeat' first
   | (with_reducible exact ih0 _ _ _)
   | (with_reducible exact LeO.refl _)
   | (with_reducible exact LeO.none _)
   | (with_reducible refine LeO.ite ?_ ?_)
   | (with_reducible refine LeO.bind ?_ (fun _ => ?_))
   | exact ih0 _ _ _
   | exact LeO.none _
   | refine LeO.ite ?_ ?_
   | refine LeO.bind ?_ (fun _ => ?_)
set_option maxHeartbeats 8000000 in
set_option maxRecDepth 100000 in
theorem slices_Max_int32_int32.calls (k : Nat) (A0 : Option Addr) (c0 : Nat) (l0 : List Int) (r : Int) (w : World) (hr0 : Kd.C (Kd.int .i32) w A0 l0.length l0) (hc0 : l0.length ≤ c0) (h : slices_Max_int32_int32.f k l0 = some r) :
  Calls Try.prog 69 #[.slice A0 l0.length c0] w fun e w' => e = .returned (.int .i32 r) ∧ Below w.heap.size w w' := by
 have HR0 := Aside0.mk hr0
 have HC0 := Aside0.mk hc0
 clear hr0 hc0
 have HB := Aside0.mk (Below.refl w.heap.size w)
 have H : (if (l0.length : Int) < 1 then (none) else (if 0 < (l0.length : Int) then (slices_Max_int32_int32.l0 k l0 (rd l0 0) 1) else (none))) = some r := h
 clear h
 by_cases c2 : (l0.length : Int) < 1
 case pos => (rw [if_pos c2] at H; exact absurd H (by simp))
 rw [if_neg c2] at H
 have c2b0 : decide ((l0.length : Int) < 1) = false := decide_eq_false c2
 have c2b1 : decide (l0.length < 1) = false := decide_eq_false (by omega)
 clear c2
 by_cases c3 : 0 < (l0.length : Int)
 case neg => (rw [if_neg c3] at H; exact absurd H (by simp))
 rw [if_pos c3] at H
 have c3b0 : decide (0 < (l0.length : Int)) = true := decide_eq_true c3
 have c3b1 : decide (0 < l0.length) = true := decide_eq_true (by omega)
 clear c3
 have H' := Aside0.mk H
 clear H
 have p116 : 0 ≤ (0 : Int) := (by omega)
 have q116 : 0 < (l0.length : Int) := of_decide_eq_true (by first | (with_reducible assumption) | assumption)
 obtain ⟨ad116, e116, hx116_0⟩ := Kd.at_int HR0.out 0 p116 q116
 cases e116
 have qi116 : (0 < l0.length) = True := eq_true (by omega)
 (try rw [show ((0 : Int)).toNat = 0 from rfl] at hx116_0)
 (try rw [Addr.add_zero'] at hx116_0)
 replace p116 := eq_true p116
 replace q116 := eq_true q116
 go_enter Try.func69, Try.ntmps69
 go_wp2
 go_loopg [3, 4] k (fun kq v3 v4 w' => ∃ (x3_1 : Int) (x4_1 : Int), v3 = .int .i32 x3_1 ∧ v4 = .int .i64 x4_1 ∧ Aside0 (slices_Max_int32_int32.l0 kq l0 x3_1 x4_1 = some r) ∧ Aside0 (kq ≤ k) ∧ Aside0 (Below w.heap.size w w'))
 case atStart => exact ⟨(rd l0 0), (1), (by first | rfl | (simp; done) | (simp [*]; done)), (by first | rfl | (simp; done) | (simp [*]; done)), H', ⟨Nat.le_refl _⟩, ⟨by with_reducible exact HB.out⟩⟩
 case round =>
  clear H'
  try clear p1
  try clear q1
  try clear hx1
  try clear qi1
  try clear c2
  try clear c2b0
  try clear c2b1
  try clear p2
  try clear c3
  try clear c3b0
  try clear c3b1
  try clear hx116_0
  try clear p116
  try clear q116
  obtain ⟨x3_1, x4_1, rfl, rfl, HA, HK1, HB⟩ := hrel
  cases gk with
  | zero => exact absurd HA.out (by simp [slices_Max_int32_int32.l0])
  | succ k1 =>
   have H := HA.out
   clear HA
   simp only [slices_Max_int32_int32.l0] at H
   by_cases c4 : x4_1 < (l0.length : Int)
   ·
    rw [if_pos c4] at H
    have c4b0 : decide (x4_1 < (l0.length : Int)) = true := decide_eq_true c4
    clear c4
    by_cases c5 : 0 ≤ x4_1
    case neg => (rw [if_neg c5] at H; exact absurd H (by simp))
    rw [if_pos c5] at H
    have c5b0 : decide (0 ≤ x4_1) = true := decide_eq_true c5
    clear c5
    obtain ⟨ji6, hji6⟩ : ∃ j_ : Int, (mx x3_1 (rd l0 x4_1)) = j_ := ⟨_, rfl⟩
    replace H : (slices_Max_int32_int32.l0 k1 l0 ji6 (wrap64 (x4_1 + 1))) = some r := by first | (rw [hji6] at H; exact H) | (simp only [hji6] at H ⊢; exact H)
    have hji6_ : (if x3_1 < (rd l0 x4_1) then (rd l0 x4_1) else x3_1) = ji6 := hji6
    have H' := Aside0.mk H
    clear H
    have p117 : 0 ≤ (x4_1 : Int) := of_decide_eq_true (by first | (with_reducible assumption) | assumption)
    have q117 : x4_1 < (l0.length : Int) := of_decide_eq_true (by first | (with_reducible assumption) | assumption)
    obtain ⟨ad117, e117, hx117_0⟩ := Kd.at_int HR0.out x4_1 p117 q117
    obtain rfl : ad116 = ad117 := (by injection e117)
    replace hx117_0 := (HB.out.cell (World.block_lt_of_cell? w _ hx117_0)).trans hx117_0
    replace p117 := eq_true p117
    replace q117 := eq_true q117
    go_wp2
    go_roundg k1
    case measure => have := HK1.out; omega
    case rel => exact ⟨(ji6), (wrap64 (x4_1 + 1)), (by first | rfl | (simp; done) | (simp only [← hji6] <;> (first | rfl | simp)) | (simp [*]; done)), (by first | rfl | (simp; done) | (simp [*]; done)), H', ⟨by have := HK1.out; omega⟩, ⟨by with_reducible exact HB.out⟩⟩
   ·
    rw [if_neg c4] at H
    have c4b0 : decide (x4_1 < (l0.length : Int)) = false := decide_eq_false c4
    clear c4
    obtain rfl := Option.some.inj H
    go_wp2
    go_ret
    exact ⟨by first | rfl | (simp [errW_none, errW_some] <;> rfl) | (simp [*, errW_none, errW_some] <;> rfl), by with_reducible exact HB.out⟩

/-! ### fix_Ratio: function 70 -/
def fix_Ratio.f (a0 : Int) (a1 : Int) : Option (Int) := if a1 ≤ 0 then (some 0) else (if a1 = 0 then (none) else (if (Int.tmod a0 a1) < 0 then (if (wrap64 ((Int.tmod a0 a1) + a1)) > (wrap64 (a1 - (wrap64 ((Int.tmod a0 a1) + a1)))) then (some (wrap64 ((wrap64 ((wrap64 (Int.tdiv a0 a1)) - 1)) + 1))) else (if (wrap64 ((Int.tmod a0 a1) + a1)) = (wrap64 (a1 - (wrap64 ((Int.tmod a0 a1) + a1)))) then (if (Go.bits .and .i64 (wrap64 ((wrap64 (Int.tdiv a0 a1)) - 1)) 1) = 0 then (some (wrap64 ((wrap64 (Int.tdiv a0 a1)) - 1))) else (some (wrap64 ((wrap64 ((wrap64 (Int.tdiv a0 a1)) - 1)) + 1)))) else (some (wrap64 ((wrap64 (Int.tdiv a0 a1)) - 1))))) else (if (Int.tmod a0 a1) > (wrap64 (a1 - (Int.tmod a0 a1))) then (some (wrap64 ((wrap64 (Int.tdiv a0 a1)) + 1))) else (if (Int.tmod a0 a1) = (wrap64 (a1 - (Int.tmod a0 a1))) then (if (Go.bits .and .i64 (wrap64 (Int.tdiv a0 a1)) 1) = 0 then (some (wrap64 (Int.tdiv a0 a1))) else (some (wrap64 ((wrap64 (Int.tdiv a0 a1)) + 1)))) else (some (wrap64 (Int.tdiv a0 a1)))))))
set_option maxHeartbeats 8000000 in
set_option maxRecDepth 100000 in
theorem fix_Ratio.calls (a0 : Int) (a1 : Int) (r : Int) (w : World) (h : fix_Ratio.f a0 a1 = some r) :
  Calls Try.prog 70 #[.int .i64 a0, .int .i64 a1] w fun e w' => e = .returned (.int .i64 r) ∧ Drawn0 w w' := by
 have H : (if a1 ≤ 0 then (some 0) else (if a1 = 0 then (none) else (if (Int.tmod a0 a1) < 0 then (if (wrap64 ((Int.tmod a0 a1) + a1)) > (wrap64 (a1 - (wrap64 ((Int.tmod a0 a1) + a1)))) then (some (wrap64 ((wrap64 ((wrap64 (Int.tdiv a0 a1)) - 1)) + 1))) else (if (wrap64 ((Int.tmod a0 a1) + a1)) = (wrap64 (a1 - (wrap64 ((Int.tmod a0 a1) + a1)))) then (if (Go.bits .and .i64 (wrap64 ((wrap64 (Int.tdiv a0 a1)) - 1)) 1) = 0 then (some (wrap64 ((wrap64 (Int.tdiv a0 a1)) - 1))) else (some (wrap64 ((wrap64 ((wrap64 (Int.tdiv a0 a1)) - 1)) + 1)))) else (some (wrap64 ((wrap64 (Int.tdiv a0 a1)) - 1))))) else (if (Int.tmod a0 a1) > (wrap64 (a1 - (Int.tmod a0 a1))) then (some (wrap64 ((wrap64 (Int.tdiv a0 a1)) + 1))) else (if (Int.tmod a0 a1) = (wrap64 (a1 - (Int.tmod a0 a1))) then (if (Go.bits .and .i64 (wrap64 (Int.tdiv a0 a1)) 1) = 0 then (some (wrap64 (Int.tdiv a0 a1))) else (some (wrap64 ((wrap64 (Int.tdiv a0 a1)) + 1)))) else (some (wrap64 (Int.tdiv a0 a1)))))))) = some r := h
 clear h
 by_cases c3 : a1 ≤ 0
 ·
  rw [if_pos c3] at H
  have c3b0 : decide (a1 ≤ 0) = true := decide_eq_true c3
  clear c3
  obtain rfl := Option.some.inj H
  go_enter Try.func70, Try.ntmps70
  go_wp2
  repeat (go_quiet (fail); try go_wp2)
  go_ret
  exact ⟨by first | rfl | (simp; done) | (simp [*]; done), by repeat (first | exact Drawn0.refl _ | apply Drawn0.step)⟩
 ·
  rw [if_neg c3] at H
  have c3b0 : decide (a1 ≤ 0) = false := decide_eq_false c3
  clear c3
  by_cases c4 : a1 = 0
  case pos => (rw [if_pos c4] at H; exact absurd H (by simp))
  rw [if_neg c4] at H
  have c4b0 : (a1 == 0) = false := beq_eq_false_iff_ne.mpr c4
  have c4b1 : (a1 != 0) = true := bne_iff_ne.mpr c4
  by_cases c5 : (Int.tmod a0 a1) < 0
  ·
   rw [if_pos c5] at H
   have c5b0 : decide ((Int.tmod a0 a1) < 0) = true := decide_eq_true c5
   clear c5
   by_cases c6 : (wrap64 ((Int.tmod a0 a1) + a1)) > (wrap64 (a1 - (wrap64 ((Int.tmod a0 a1) + a1))))
   ·
    rw [if_pos c6] at H
    have c6b0 : decide ((wrap64 (a1 - (wrap64 ((Int.tmod a0 a1) + a1)))) < (wrap64 ((Int.tmod a0 a1) + a1))) = true := decide_eq_true c6
    clear c6
    obtain rfl := Option.some.inj H
    go_enter Try.func70, Try.ntmps70
    go_wp2
    repeat (go_quiet (fail); try go_wp2)
    go_ret
    exact ⟨by first | rfl | (simp; done) | (simp [*]; done), by repeat (first | exact Drawn0.refl _ | apply Drawn0.step)⟩
   ·
    rw [if_neg c6] at H
    have c6b0 : decide ((wrap64 (a1 - (wrap64 ((Int.tmod a0 a1) + a1)))) < (wrap64 ((Int.tmod a0 a1) + a1))) = false := decide_eq_false c6
    clear c6
    by_cases c7 : (wrap64 ((Int.tmod a0 a1) + a1)) = (wrap64 (a1 - (wrap64 ((Int.tmod a0 a1) + a1))))
    ·
     rw [if_pos c7] at H
     have c7b0 : ((wrap64 ((Int.tmod a0 a1) + a1)) == (wrap64 (a1 - (wrap64 ((Int.tmod a0 a1) + a1))))) = true := beq_iff_eq.mpr c7
     have c7b1 : ((wrap64 ((Int.tmod a0 a1) + a1)) != (wrap64 (a1 - (wrap64 ((Int.tmod a0 a1) + a1))))) = false := bne_eq_false_iff_eq.mpr c7
     clear c7
     by_cases c8 : (Go.bits .and .i64 (wrap64 ((wrap64 (Int.tdiv a0 a1)) - 1)) 1) = 0
     ·
      rw [if_pos c8] at H
      have c8b0 : ((Go.bits .and .i64 (wrap64 ((wrap64 (Int.tdiv a0 a1)) - 1)) 1) == 0) = true := beq_iff_eq.mpr c8
      have c8b1 : ((Go.bits .and .i64 (wrap64 ((wrap64 (Int.tdiv a0 a1)) - 1)) 1) != 0) = false := bne_eq_false_iff_eq.mpr c8
      clear c8
      obtain rfl := Option.some.inj H
      go_enter Try.func70, Try.ntmps70
      go_wp2
      repeat (go_quiet (fail); try go_wp2)
      go_ret
      exact ⟨by first | rfl | (simp; done) | (simp [*]; done), by repeat (first | exact Drawn0.refl _ | apply Drawn0.step)⟩
     ·
      rw [if_neg c8] at H
      have c8b0 : ((Go.bits .and .i64 (wrap64 ((wrap64 (Int.tdiv a0 a1)) - 1)) 1) == 0) = false := beq_eq_false_iff_ne.mpr c8
      have c8b1 : ((Go.bits .and .i64 (wrap64 ((wrap64 (Int.tdiv a0 a1)) - 1)) 1) != 0) = true := bne_iff_ne.mpr c8
      obtain rfl := Option.some.inj H
      go_enter Try.func70, Try.ntmps70
      go_wp2
      repeat (go_quiet (fail); try go_wp2)
      go_ret
      exact ⟨by first | rfl | (simp; done) | (simp [*]; done), by repeat (first | exact Drawn0.refl _ | apply Drawn0.step)⟩
    ·
     rw [if_neg c7] at H
     have c7b0 : ((wrap64 ((Int.tmod a0 a1) + a1)) == (wrap64 (a1 - (wrap64 ((Int.tmod a0 a1) + a1))))) = false := beq_eq_false_iff_ne.mpr c7
     have c7b1 : ((wrap64 ((Int.tmod a0 a1) + a1)) != (wrap64 (a1 - (wrap64 ((Int.tmod a0 a1) + a1))))) = true := bne_iff_ne.mpr c7
     obtain rfl := Option.some.inj H
     go_enter Try.func70, Try.ntmps70
     go_wp2
     repeat (go_quiet (fail); try go_wp2)
     go_ret
     exact ⟨by first | rfl | (simp; done) | (simp [*]; done), by repeat (first | exact Drawn0.refl _ | apply Drawn0.step)⟩
  ·
   rw [if_neg c5] at H
   have c5b0 : decide ((Int.tmod a0 a1) < 0) = false := decide_eq_false c5
   clear c5
   by_cases c9 : (Int.tmod a0 a1) > (wrap64 (a1 - (Int.tmod a0 a1)))
   ·
    rw [if_pos c9] at H
    have c9b0 : decide ((wrap64 (a1 - (Int.tmod a0 a1))) < (Int.tmod a0 a1)) = true := decide_eq_true c9
    clear c9
    obtain rfl := Option.some.inj H
    go_enter Try.func70, Try.ntmps70
    go_wp2
    repeat (go_quiet (fail); try go_wp2)
    go_ret
    exact ⟨by first | rfl | (simp; done) | (simp [*]; done), by repeat (first | exact Drawn0.refl _ | apply Drawn0.step)⟩
   ·
    rw [if_neg c9] at H
    have c9b0 : decide ((wrap64 (a1 - (Int.tmod a0 a1))) < (Int.tmod a0 a1)) = false := decide_eq_false c9
    clear c9
    by_cases c10 : (Int.tmod a0 a1) = (wrap64 (a1 - (Int.tmod a0 a1)))
    ·
     rw [if_pos c10] at H
     have c10b0 : ((Int.tmod a0 a1) == (wrap64 (a1 - (Int.tmod a0 a1)))) = true := beq_iff_eq.mpr c10
     have c10b1 : ((Int.tmod a0 a1) != (wrap64 (a1 - (Int.tmod a0 a1)))) = false := bne_eq_false_iff_eq.mpr c10
     clear c10
     by_cases c11 : (Go.bits .and .i64 (wrap64 (Int.tdiv a0 a1)) 1) = 0
     ·
      rw [if_pos c11] at H
      have c11b0 : ((Go.bits .and .i64 (wrap64 (Int.tdiv a0 a1)) 1) == 0) = true := beq_iff_eq.mpr c11
      have c11b1 : ((Go.bits .and .i64 (wrap64 (Int.tdiv a0 a1)) 1) != 0) = false := bne_eq_false_iff_eq.mpr c11
      clear c11
      obtain rfl := Option.some.inj H
      go_enter Try.func70, Try.ntmps70
      go_wp2
      repeat (go_quiet (fail); try go_wp2)
      go_ret
      exact ⟨by first | rfl | (simp; done) | (simp [*]; done), by repeat (first | exact Drawn0.refl _ | apply Drawn0.step)⟩
     ·
      rw [if_neg c11] at H
      have c11b0 : ((Go.bits .and .i64 (wrap64 (Int.tdiv a0 a1)) 1) == 0) = false := beq_eq_false_iff_ne.mpr c11
      have c11b1 : ((Go.bits .and .i64 (wrap64 (Int.tdiv a0 a1)) 1) != 0) = true := bne_iff_ne.mpr c11
      obtain rfl := Option.some.inj H
      go_enter Try.func70, Try.ntmps70
      go_wp2
      repeat (go_quiet (fail); try go_wp2)
      go_ret
      exact ⟨by first | rfl | (simp; done) | (simp [*]; done), by repeat (first | exact Drawn0.refl _ | apply Drawn0.step)⟩
    ·
     rw [if_neg c10] at H
     have c10b0 : ((Int.tmod a0 a1) == (wrap64 (a1 - (Int.tmod a0 a1)))) = false := beq_eq_false_iff_ne.mpr c10
     have c10b1 : ((Int.tmod a0 a1) != (wrap64 (a1 - (Int.tmod a0 a1)))) = true := bne_iff_ne.mpr c10
     obtain rfl := Option.some.inj H
     go_enter Try.func70, Try.ntmps70
     go_wp2
     repeat (go_quiet (fail); try go_wp2)
     go_ret
     exact ⟨by first | rfl | (simp; done) | (simp [*]; done), by repeat (first | exact Drawn0.refl _ | apply Drawn0.step)⟩

end Go.Proofs.Ytoofkemhikigoaa.PBlockPlays
