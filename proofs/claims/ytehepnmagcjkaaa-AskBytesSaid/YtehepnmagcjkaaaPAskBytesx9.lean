-- Written by a program of this session (wip/tools/mkprint.py over the kit's print).
import Derived.Test.YtehepnmagcjkaaaPAskBytesx0
import Derived.Test.YtehepnmagcjkaaaPAskBytesx8
namespace Go.Proofs.Ytehepnmagcjkaaa.PAskBytes
open Go.RowKit Go.Proofs.YtehepnmagcjkaaaW.PrintWords Go.Proofs.YtehepnmagcjkaaaW.PrintLast Go.Proofs.YtehepnmagcjkaaaW.PrintMore
attribute [local go_sem] max2_int min2_int max_two min_two max_three min_three max_four min_four   -- for this text's walks alone
set_option linter.unusedVariables false
set_option linter.unusedSimpArgs false

/-! ### credenzaref22_Bytes: function 18 -/
def credenzaref22_Bytes.l0 : Nat → ByteArray → Int → List Int → Int → Int → Int → Int → Int → Option (ByteArray)
 | 0, _, _, _, _, _, _, _, _ => none
 | k + 1, x3, x5, x285000, x285001, x285002, x285003, x285004, x285005 => if x5 < (x285000.length : Int) then (if 0 ≤ x5 then ((credenzaref06_Bytes.f k (IntKind.u64.wrap (rd x285000 x5)) 1).bind fun t292 => (if x3.size + t292.size ≤ 9223372036854775807 then (credenzaref22_Bytes.l0 k (x3 ++ t292) (wrap64 (x5 + 1)) x285000 x285001 x285002 x285003 x285004 x285005) else (none))) else (none)) else (some x3)
def credenzaref22_Bytes.f (k : Nat) (a0_0 : Int) (a0_1 : Int) (l0_2 : List Int) (a0_3 : Int) (a0_4 : Int) (a0_5 : Int) (a0_6 : Int) (a0_7 : Int) (a0_8 : Int) : Option (ByteArray) := (credenzaref06_Bytes.f k (IntKind.u64.wrap (a0_0)) 1).bind fun t281 => (if a0_0 > 2 then ((credenzaref06_Bytes.f k (IntKind.u64.wrap (a0_8)) 1).bind fun t282 => (if t281.size + t282.size ≤ 9223372036854775807 then (some (t281 ++ t282)) else (none))) else ((credenzaref06_Bytes.f k (IntKind.u64.wrap (a0_1)) 4).bind fun t283 => (if t281.size + t283.size ≤ 9223372036854775807 then (if a0_0 = 2 then (some (t281 ++ t283)) else ((credenzaref06_Bytes.f k (IntKind.u64.wrap (a0_3)) 2).bind fun t285 => ((credenzaref06_Bytes.f k (IntKind.u64.wrap (wrap64 (a0_4 + 1))) 1).bind fun t286 => (if t285.size + t286.size ≤ 9223372036854775807 then ((credenzaref06_Word.f k a0_5).bind fun t287 => (if (t285 ++ t286).size + t287.size ≤ 9223372036854775807 then (if (t281 ++ t283).size + ((t285 ++ t286) ++ t287).size ≤ 9223372036854775807 then ((credenzaref06_Bytes.f k (IntKind.u64.wrap (a0_6)) 1).bind fun t288 => ((credenzaref06_Bytes.f k a0_7 8).bind fun t289 => (if t288.size + t289.size ≤ 9223372036854775807 then ((credenzaref06_Bytes.f k (IntKind.u64.wrap ((l0_2.length : Int))) 2).bind fun t290 => (if (t288 ++ t289).size + t290.size ≤ 9223372036854775807 then (if ((t281 ++ t283) ++ ((t285 ++ t286) ++ t287)).size + ((t288 ++ t289) ++ t290).size ≤ 9223372036854775807 then (credenzaref22_Bytes.l0 k (((t281 ++ t283) ++ ((t285 ++ t286) ++ t287)) ++ ((t288 ++ t289) ++ t290)) 0 l0_2 a0_3 a0_4 a0_5 a0_6 a0_7) else (none)) else (none))) else (none)))) else (none)) else (none))) else (none))))) else (none))))
theorem credenzaref22_Bytes.mono_l : ∀ k, (∀ y0 y1 y2 y3 y4 y5 y6 y7, LeO (credenzaref22_Bytes.l0 k y0 y1 y2 y3 y4 y5 y6 y7) (credenzaref22_Bytes.l0 (k + 1) y0 y1 y2 y3 y4 y5 y6 y7))
 | 0 => fun _ _ _ _ _ _ _ _ r h => by simp [credenzaref22_Bytes.l0] at h
 | k + 1 => by
  have ih0 := credenzaref22_Bytes.mono_l k
  ·
   intro y0 y1 y2 y3 y4 y5 y6 y7
   unfold credenzaref22_Bytes.l0
   repeat' first
   | (with_reducible exact ih0 _ _ _ _ _ _ _ _)
   | (with_reducible exact credenzaref06_Bytes.mono _ _ _)
   | (with_reducible exact credenzaref06_Word.mono _ _)
   | (with_reducible exact LeO.refl _)
   | (with_reducible exact LeO.none _)
   | (with_reducible refine LeO.ite ?_ ?_)
   | (with_reducible refine LeO.bind ?_ (fun _ => ?_))
   | exact ih0 _ _ _ _ _ _ _ _
   | exact credenzaref06_Bytes.mono _ _ _
   | exact credenzaref06_Word.mono _ _
   | exact LeO.none _
   | refine LeO.ite ?_ ?_
   | refine LeO.bind ?_ (fun _ => ?_)
theorem credenzaref22_Bytes.mono : ∀ a0 a1 a2 a3 a4 a5 a6 a7 a8 k, LeO (credenzaref22_Bytes.f k a0 a1 a2 a3 a4 a5 a6 a7 a8) (credenzaref22_Bytes.f (k + 1) a0 a1 a2 a3 a4 a5 a6 a7 a8) := by
 intro a0 a1 a2 a3 a4 a5 a6 a7 a8 k
 have ih0 := credenzaref22_Bytes.mono_l k
 unfold credenzaref22_Bytes.f
 repeat' first
   | (with_reducible exact ih0 _ _ _ _ _ _ _ _)
   | (with_reducible exact credenzaref06_Bytes.mono _ _ _)
   | (with_reducible exact credenzaref06_Word.mono _ _)
   | (with_reducible exact LeO.refl _)
   | (with_reducible exact LeO.none _)
   | (with_reducible refine LeO.ite ?_ ?_)
   | (with_reducible refine LeO.bind ?_ (fun _ => ?_))
   | exact ih0 _ _ _ _ _ _ _ _
   | exact credenzaref06_Bytes.mono _ _ _
   | exact credenzaref06_Word.mono _ _
   | exact LeO.none _
   | refine LeO.ite ?_ ?_
   | refine LeO.bind ?_ (fun _ => ?_)
def credenzaref22_Bytes.T8 : Bool × List (List Nat × List Nat) := (true, [([], []), ([], []), ([1], [1]), ([2], [2]), ([3], [3]), ([], []), ([5], [5]), ([6], [6]), ([7], [7]), ([8, 4], [8]), ([4, 9], [4, 9]), ([], []), ([11], [11]), ([12, 9], [12]), ([10, 13], [10, 13]), ([0, 14], [0, 14]), ([15, 13, 0, 1, 2, 3, 4, 5, 6, 7, 8, 9, 10, 11, 12, 13, 14, 15], [0, 15])])
def credenzaref22_Bytes.B8 : List Nat := [0, 0, 2, 6, 14, 0, 32, 96, 224, 510, 1022, 0, 2048, 7166, 16382, 32767, 65535]
theorem credenzaref22_Bytes.tab8 : rtab .any (opsOf Try.f18 8) = credenzaref22_Bytes.T8 := by kernel_rfl
theorem credenzaref22_Bytes.bits8 : waitsOk credenzaref22_Bytes.T8.2 credenzaref22_Bytes.B8 = true := by kernel_rfl
def credenzaref22_Bytes.T9 : Bool × List (List Nat × List Nat) := (true, [([], []), ([], []), ([1], [1]), ([2], [2]), ([3], [3]), ([], []), ([5], [5]), ([6, 4], [6]), ([4, 7], [4, 7]), ([], []), ([9], [9]), ([10], [10]), ([11], [11]), ([12, 7], [12]), ([8, 13], [8, 13]), ([0, 14], [0, 14]), ([15, 13, 0, 1, 2, 3, 4, 5, 6, 7, 8, 9, 10, 11, 12, 13, 14, 15], [0, 15])])
def credenzaref22_Bytes.B9 : List Nat := [0, 0, 2, 6, 14, 0, 32, 126, 254, 0, 512, 1536, 3584, 7934, 16382, 32767, 65535]
theorem credenzaref22_Bytes.tab9 : rtab .any (opsOf Try.f18 9) = credenzaref22_Bytes.T9 := by kernel_rfl
theorem credenzaref22_Bytes.bits9 : waitsOk credenzaref22_Bytes.T9.2 credenzaref22_Bytes.B9 = true := by kernel_rfl
set_option maxHeartbeats 8000000 in
set_option maxRecDepth 100000 in
theorem credenzaref22_Bytes.calls (k : Nat) (a0_0 : Int) (a0_1 : Int) (A0_2 : Option Addr) (c0_2 : Nat) (l0_2 : List Int) (a0_3 : Int) (a0_4 : Int) (a0_5 : Int) (a0_6 : Int) (a0_7 : Int) (a0_8 : Int) (r : ByteArray) (w : World) (hr0_2 : Kd.C (Kd.int .i64) w A0_2 l0_2.length l0_2) (hc0_2 : l0_2.length ≤ c0_2) (h : credenzaref22_Bytes.f k a0_0 a0_1 l0_2 a0_3 a0_4 a0_5 a0_6 a0_7 a0_8 = some r) :
  Calls Try.prog 18 #[.agg #[.int .i64 a0_0, .int .u32 a0_1, .slice A0_2 l0_2.length c0_2, .int .i64 a0_3, .int .i64 a0_4, .int .i32 a0_5, .int .i64 a0_6, .int .u64 a0_7, .int .i64 a0_8]] w fun e w' => e = .returned (.string r) ∧ Below w.heap.size w w' := by
 have hu40 := Try.underlying40
 have hu38 := Try.underlying38
 have HR0_2 := Aside0.mk hr0_2
 have HC0_2 := Aside0.mk hc0_2
 clear hr0_2 hc0_2
 have HB := Aside0.mk (Below.refl w.heap.size w)
 have H : ((credenzaref06_Bytes.f k (IntKind.u64.wrap (a0_0)) 1).bind fun t281 => (if a0_0 > 2 then ((credenzaref06_Bytes.f k (IntKind.u64.wrap (a0_8)) 1).bind fun t282 => (if t281.size + t282.size ≤ 9223372036854775807 then (some (t281 ++ t282)) else (none))) else ((credenzaref06_Bytes.f k (IntKind.u64.wrap (a0_1)) 4).bind fun t283 => (if t281.size + t283.size ≤ 9223372036854775807 then (if a0_0 = 2 then (some (t281 ++ t283)) else ((credenzaref06_Bytes.f k (IntKind.u64.wrap (a0_3)) 2).bind fun t285 => ((credenzaref06_Bytes.f k (IntKind.u64.wrap (wrap64 (a0_4 + 1))) 1).bind fun t286 => (if t285.size + t286.size ≤ 9223372036854775807 then ((credenzaref06_Word.f k a0_5).bind fun t287 => (if (t285 ++ t286).size + t287.size ≤ 9223372036854775807 then (if (t281 ++ t283).size + ((t285 ++ t286) ++ t287).size ≤ 9223372036854775807 then ((credenzaref06_Bytes.f k (IntKind.u64.wrap (a0_6)) 1).bind fun t288 => ((credenzaref06_Bytes.f k a0_7 8).bind fun t289 => (if t288.size + t289.size ≤ 9223372036854775807 then ((credenzaref06_Bytes.f k (IntKind.u64.wrap ((l0_2.length : Int))) 2).bind fun t290 => (if (t288 ++ t289).size + t290.size ≤ 9223372036854775807 then (if ((t281 ++ t283) ++ ((t285 ++ t286) ++ t287)).size + ((t288 ++ t289) ++ t290).size ≤ 9223372036854775807 then (credenzaref22_Bytes.l0 k (((t281 ++ t283) ++ ((t285 ++ t286) ++ t287)) ++ ((t288 ++ t289) ++ t290)) 0 l0_2 a0_3 a0_4 a0_5 a0_6 a0_7) else (none)) else (none))) else (none)))) else (none)) else (none))) else (none))))) else (none))))) = some r := h
 clear h
 replace H := Option.bind_eq_some_iff.mp H
 obtain ⟨t281, A20, H⟩ := H
 replace H : (if a0_0 > 2 then ((credenzaref06_Bytes.f k (IntKind.u64.wrap (a0_8)) 1).bind fun t282 => (if t281.size + t282.size ≤ 9223372036854775807 then (some (t281 ++ t282)) else (none))) else ((credenzaref06_Bytes.f k (IntKind.u64.wrap (a0_1)) 4).bind fun t283 => (if t281.size + t283.size ≤ 9223372036854775807 then (if a0_0 = 2 then (some (t281 ++ t283)) else ((credenzaref06_Bytes.f k (IntKind.u64.wrap (a0_3)) 2).bind fun t285 => ((credenzaref06_Bytes.f k (IntKind.u64.wrap (wrap64 (a0_4 + 1))) 1).bind fun t286 => (if t285.size + t286.size ≤ 9223372036854775807 then ((credenzaref06_Word.f k a0_5).bind fun t287 => (if (t285 ++ t286).size + t287.size ≤ 9223372036854775807 then (if (t281 ++ t283).size + ((t285 ++ t286) ++ t287).size ≤ 9223372036854775807 then ((credenzaref06_Bytes.f k (IntKind.u64.wrap (a0_6)) 1).bind fun t288 => ((credenzaref06_Bytes.f k a0_7 8).bind fun t289 => (if t288.size + t289.size ≤ 9223372036854775807 then ((credenzaref06_Bytes.f k (IntKind.u64.wrap ((l0_2.length : Int))) 2).bind fun t290 => (if (t288 ++ t289).size + t290.size ≤ 9223372036854775807 then (if ((t281 ++ t283) ++ ((t285 ++ t286) ++ t287)).size + ((t288 ++ t289) ++ t290).size ≤ 9223372036854775807 then (credenzaref22_Bytes.l0 k (((t281 ++ t283) ++ ((t285 ++ t286) ++ t287)) ++ ((t288 ++ t289) ++ t290)) 0 l0_2 a0_3 a0_4 a0_5 a0_6 a0_7) else (none)) else (none))) else (none)))) else (none)) else (none))) else (none))))) else (none)))) = some r := H
 have A2 := Aside0.mk A20
 clear A20
 by_cases c3 : a0_0 > 2
 ·
  rw [if_pos c3] at H
  have c3b0 : decide (2 < a0_0) = true := decide_eq_true c3
  clear c3
  replace H := Option.bind_eq_some_iff.mp H
  obtain ⟨t282, A40, H⟩ := H
  replace H : (if t281.size + t282.size ≤ 9223372036854775807 then (some (t281 ++ t282)) else (none)) = some r := H
  have A4 := Aside0.mk A40
  clear A40
  by_cases c5 : t281.size + t282.size ≤ 9223372036854775807
  ·
   rw [if_pos c5] at H
   have c5b0 := eq_true c5
   have c5b1 : decide (t281.size + t282.size ≤ 9223372036854775807) = true := decide_eq_true c5
   try have c5b2 : (9223372036854775807 < t281.size + t282.size) = False := eq_false (Nat.not_lt.2 c5)
   (try (have c5b3 := c5b2; simp only [ByteArray.size_append] at c5b3))
   obtain rfl := Option.some.inj H
   go_enter Try.func18, Try.ntmps18
   go_wp2_with (first | ((with_reducible refine gate_dst (N := 1) rfl ?_); refine box_event ?hg (N := 1) ?hd (cs := #[.int .i64 a0_0, .int .u32 a0_1, .slice A0_2 l0_2.length c0_2, .int .i64 a0_3, .int .i64 a0_4, .int .i32 a0_5, .int .i64 a0_6, .int .u64 a0_7, .int .i64 a0_8]) (t := 40) ?hr ?_; (case hd => rfl); (case hg => rfl); (case hr => first | (go_simp; done) | (go_simp; rfl)); intro gb280 hg w6 hbox hb; have n0_ := Aside0.mk (below_step (by repeat (first | (with_reducible first | exact HB.out | apply below_alloc | apply pw_below_drewN | apply below_drew1) | exact HB.out)) hb); have n1_ := Aside0.mk (hbox); have n2_ := Aside0.mk ((by rw [hg]; exact (below_size (by repeat (first | (with_reducible first | exact HB.out | apply below_alloc | apply pw_below_drewN | apply below_drew1) | exact HB.out))) : w.heap.size ≤ gb280)); have n3_ := Aside0.mk ((by rw [hg]; exact (below_size (by repeat (first | (with_reducible first | exact HB.out | apply below_alloc | apply pw_below_drewN | apply below_drew1) | exact HB.out))) : w.heap.size ≤ gb280)); clear HB; have HB := n0_; have BK280 := n1_; have GW280 := n2_; have GE280 := n3_; clear n0_ n1_ n2_ n3_; clear hb hbox hg; have hcz7_0 : w6.cell? ⟨gb280, 0, none⟩ = some (.int .i64 a0_0) := (blk_cell BK280.out 0).trans rfl; have hcz7_1 : w6.cell? ⟨gb280, 1, none⟩ = some (.int .u32 a0_1) := (blk_cell BK280.out 1).trans rfl; have hcz7_2 : w6.cell? ⟨gb280, 2, none⟩ = some (.slice A0_2 l0_2.length c0_2) := (blk_cell BK280.out 2).trans rfl; have hcz7_3 : w6.cell? ⟨gb280, 3, none⟩ = some (.int .i64 a0_3) := (blk_cell BK280.out 3).trans rfl; have hcz7_4 : w6.cell? ⟨gb280, 4, none⟩ = some (.int .i64 a0_4) := (blk_cell BK280.out 4).trans rfl; have hcz7_5 : w6.cell? ⟨gb280, 5, none⟩ = some (.int .i32 a0_5) := (blk_cell BK280.out 5).trans rfl; have hcz7_6 : w6.cell? ⟨gb280, 6, none⟩ = some (.int .i64 a0_6) := (blk_cell BK280.out 6).trans rfl; have hcz7_7 : w6.cell? ⟨gb280, 7, none⟩ = some (.int .u64 a0_7) := (blk_cell BK280.out 7).trans rfl; have hcz7_8 : w6.cell? ⟨gb280, 8, none⟩ = some (.int .i64 a0_8) := (blk_cell BK280.out 8).trans rfl; have hfz7_0 := blk_frozen BK280.out 0; have hfz7_1 := blk_frozen BK280.out 1; have hfz7_2 := blk_frozen BK280.out 2; have hfz7_3 := blk_frozen BK280.out 3; have hfz7_4 := blk_frozen BK280.out 4; have hfz7_5 := blk_frozen BK280.out 5; have hfz7_6 := blk_frozen BK280.out 6; have hfz7_7 := blk_frozen BK280.out 7; have hfz7_8 := blk_frozen BK280.out 8) | ((with_reducible refine gate_callee (f := 50) rfl ?_); refine goesL_ (some 9) rfl rfl Try.func50 (by kernel_rfl) rfl #[.int .u64 (IntKind.u64.wrap (a0_0)), .int .i64 1] rfl (by (try simp only [List.map_toArray, List.map_cons, List.map_nil]); first | done | rfl | (simp only [List.length_drop, List.length_take]; rfl)) ?_; (with_reducible refine (credenzaref06_Bytes.calls k (IntKind.u64.wrap (a0_0)) 1 t281 _ A2.out).mono ?_); rintro e w8 ⟨rfl, hb⟩; refine ⟨_, rfl, ?_⟩; have n0_ := Aside0.mk (blk_below (g := gb280) (o := .cells #[.int .i64 a0_0, .int .u32 a0_1, .slice A0_2 l0_2.length c0_2, .int .i64 a0_3, .int .i64 a0_4, .int .i32 a0_5, .int .i64 a0_6, .int .u64 a0_7, .int .i64 a0_8] 40 (0, 0)) (by (with_reducible repeat (first | refine blk_drewN ?_ _ | refine blk_drew ?_ | refine blk_alloc ?_ _)); exact BK280.out) hb); have n1_ := Aside0.mk (below_step (by repeat (first | (with_reducible first | exact HB.out | apply below_alloc | apply pw_below_drewN | apply below_drew1 | refine below_set ?_ GE280.out) | exact HB.out)) hb); clear BK280; clear HB; have BK280 := n0_; have HB := n1_; clear n0_ n1_; (try clear hb); (try clear hb2); (try clear hk); (try clear hi); have hcz9_0 : w8.cell? ⟨gb280, 0, none⟩ = some (.int .i64 a0_0) := (blk_cell BK280.out 0).trans rfl; have hcz9_1 : w8.cell? ⟨gb280, 1, none⟩ = some (.int .u32 a0_1) := (blk_cell BK280.out 1).trans rfl; have hcz9_2 : w8.cell? ⟨gb280, 2, none⟩ = some (.slice A0_2 l0_2.length c0_2) := (blk_cell BK280.out 2).trans rfl; have hcz9_3 : w8.cell? ⟨gb280, 3, none⟩ = some (.int .i64 a0_3) := (blk_cell BK280.out 3).trans rfl; have hcz9_4 : w8.cell? ⟨gb280, 4, none⟩ = some (.int .i64 a0_4) := (blk_cell BK280.out 4).trans rfl; have hcz9_5 : w8.cell? ⟨gb280, 5, none⟩ = some (.int .i32 a0_5) := (blk_cell BK280.out 5).trans rfl; have hcz9_6 : w8.cell? ⟨gb280, 6, none⟩ = some (.int .i64 a0_6) := (blk_cell BK280.out 6).trans rfl; have hcz9_7 : w8.cell? ⟨gb280, 7, none⟩ = some (.int .u64 a0_7) := (blk_cell BK280.out 7).trans rfl; have hcz9_8 : w8.cell? ⟨gb280, 8, none⟩ = some (.int .i64 a0_8) := (blk_cell BK280.out 8).trans rfl; have hfz9_0 := blk_frozen BK280.out 0; have hfz9_1 := blk_frozen BK280.out 1; have hfz9_2 := blk_frozen BK280.out 2; have hfz9_3 := blk_frozen BK280.out 3; have hfz9_4 := blk_frozen BK280.out 4; have hfz9_5 := blk_frozen BK280.out 5; have hfz9_6 := blk_frozen BK280.out 6; have hfz9_7 := blk_frozen BK280.out 7; have hfz9_8 := blk_frozen BK280.out 8) | ((with_reducible refine gate_callee (f := 50) rfl ?_); refine goesL_ (some 17) rfl rfl Try.func50 (by kernel_rfl) rfl #[.int .u64 (IntKind.u64.wrap (a0_8)), .int .i64 1] rfl (by (try simp only [List.map_toArray, List.map_cons, List.map_nil]); first | done | rfl | (simp only [List.length_drop, List.length_take]; rfl)) ?_; (with_reducible refine (credenzaref06_Bytes.calls k (IntKind.u64.wrap (a0_8)) 1 t282 _ A4.out).mono ?_); rintro e w10 ⟨rfl, hb⟩; refine ⟨_, rfl, ?_⟩; have n0_ := Aside0.mk (blk_below (g := gb280) (o := .cells #[.int .i64 a0_0, .int .u32 a0_1, .slice A0_2 l0_2.length c0_2, .int .i64 a0_3, .int .i64 a0_4, .int .i32 a0_5, .int .i64 a0_6, .int .u64 a0_7, .int .i64 a0_8] 40 (0, 0)) (by (with_reducible repeat (first | refine blk_drewN ?_ _ | refine blk_drew ?_ | refine blk_alloc ?_ _)); exact BK280.out) hb); have n1_ := Aside0.mk (below_step (by repeat (first | (with_reducible first | exact HB.out | apply below_alloc | apply pw_below_drewN | apply below_drew1 | refine below_set ?_ GE280.out) | exact HB.out)) hb); clear BK280; clear HB; have BK280 := n0_; have HB := n1_; clear n0_ n1_; (try clear hb); (try clear hb2); (try clear hk); (try clear hi)))
   go_ret
   exact ⟨by first | rfl | (simp [errW_none, errW_some] <;> rfl) | (simp [*, errW_none, errW_some] <;> rfl), by repeat (first | (with_reducible first | exact HB.out | apply below_alloc | apply pw_below_drewN | apply below_drew1 | refine below_set ?_ GE280.out) | exact HB.out)⟩
  ·
   rw [if_neg c5] at H
   exact absurd H (by simp)
 ·
  rw [if_neg c3] at H
  have c3b0 : decide (2 < a0_0) = false := decide_eq_false c3
  clear c3
  replace H := Option.bind_eq_some_iff.mp H
  obtain ⟨t283, A110, H⟩ := H
  replace H : (if t281.size + t283.size ≤ 9223372036854775807 then (if a0_0 = 2 then (some (t281 ++ t283)) else ((credenzaref06_Bytes.f k (IntKind.u64.wrap (a0_3)) 2).bind fun t285 => ((credenzaref06_Bytes.f k (IntKind.u64.wrap (wrap64 (a0_4 + 1))) 1).bind fun t286 => (if t285.size + t286.size ≤ 9223372036854775807 then ((credenzaref06_Word.f k a0_5).bind fun t287 => (if (t285 ++ t286).size + t287.size ≤ 9223372036854775807 then (if (t281 ++ t283).size + ((t285 ++ t286) ++ t287).size ≤ 9223372036854775807 then ((credenzaref06_Bytes.f k (IntKind.u64.wrap (a0_6)) 1).bind fun t288 => ((credenzaref06_Bytes.f k a0_7 8).bind fun t289 => (if t288.size + t289.size ≤ 9223372036854775807 then ((credenzaref06_Bytes.f k (IntKind.u64.wrap ((l0_2.length : Int))) 2).bind fun t290 => (if (t288 ++ t289).size + t290.size ≤ 9223372036854775807 then (if ((t281 ++ t283) ++ ((t285 ++ t286) ++ t287)).size + ((t288 ++ t289) ++ t290).size ≤ 9223372036854775807 then (credenzaref22_Bytes.l0 k (((t281 ++ t283) ++ ((t285 ++ t286) ++ t287)) ++ ((t288 ++ t289) ++ t290)) 0 l0_2 a0_3 a0_4 a0_5 a0_6 a0_7) else (none)) else (none))) else (none)))) else (none)) else (none))) else (none))))) else (none)) = some r := H
  have A11 := Aside0.mk A110
  clear A110
  by_cases c12 : t281.size + t283.size ≤ 9223372036854775807
  ·
   rw [if_pos c12] at H
   have c12b0 := eq_true c12
   have c12b1 : decide (t281.size + t283.size ≤ 9223372036854775807) = true := decide_eq_true c12
   try have c12b2 : (9223372036854775807 < t281.size + t283.size) = False := eq_false (Nat.not_lt.2 c12)
   (try (have c12b3 := c12b2; simp only [ByteArray.size_append] at c12b3))
   by_cases c13 : a0_0 = 2
   ·
    rw [if_pos c13] at H
    have c13b0 : (a0_0 == 2) = true := beq_iff_eq.mpr c13
    have c13b1 : (a0_0 != 2) = false := bne_eq_false_iff_eq.mpr c13
    clear c13
    obtain rfl := Option.some.inj H
    go_enter Try.func18, Try.ntmps18
    go_wp2_with (first | ((with_reducible refine gate_dst (N := 1) rfl ?_); refine box_event ?hg (N := 1) ?hd (cs := #[.int .i64 a0_0, .int .u32 a0_1, .slice A0_2 l0_2.length c0_2, .int .i64 a0_3, .int .i64 a0_4, .int .i32 a0_5, .int .i64 a0_6, .int .u64 a0_7, .int .i64 a0_8]) (t := 40) ?hr ?_; (case hd => rfl); (case hg => rfl); (case hr => first | (go_simp; done) | (go_simp; rfl)); intro gb280 hg w14 hbox hb; have n0_ := Aside0.mk (below_step (by repeat (first | (with_reducible first | exact HB.out | apply below_alloc | apply pw_below_drewN | apply below_drew1) | exact HB.out)) hb); have n1_ := Aside0.mk (hbox); have n2_ := Aside0.mk ((by rw [hg]; exact (below_size (by repeat (first | (with_reducible first | exact HB.out | apply below_alloc | apply pw_below_drewN | apply below_drew1) | exact HB.out))) : w.heap.size ≤ gb280)); have n3_ := Aside0.mk ((by rw [hg]; exact (below_size (by repeat (first | (with_reducible first | exact HB.out | apply below_alloc | apply pw_below_drewN | apply below_drew1) | exact HB.out))) : w.heap.size ≤ gb280)); clear HB; have HB := n0_; have BK280 := n1_; have GW280 := n2_; have GE280 := n3_; clear n0_ n1_ n2_ n3_; clear hb hbox hg; have hcz15_0 : w14.cell? ⟨gb280, 0, none⟩ = some (.int .i64 a0_0) := (blk_cell BK280.out 0).trans rfl; have hcz15_1 : w14.cell? ⟨gb280, 1, none⟩ = some (.int .u32 a0_1) := (blk_cell BK280.out 1).trans rfl; have hcz15_2 : w14.cell? ⟨gb280, 2, none⟩ = some (.slice A0_2 l0_2.length c0_2) := (blk_cell BK280.out 2).trans rfl; have hcz15_3 : w14.cell? ⟨gb280, 3, none⟩ = some (.int .i64 a0_3) := (blk_cell BK280.out 3).trans rfl; have hcz15_4 : w14.cell? ⟨gb280, 4, none⟩ = some (.int .i64 a0_4) := (blk_cell BK280.out 4).trans rfl; have hcz15_5 : w14.cell? ⟨gb280, 5, none⟩ = some (.int .i32 a0_5) := (blk_cell BK280.out 5).trans rfl; have hcz15_6 : w14.cell? ⟨gb280, 6, none⟩ = some (.int .i64 a0_6) := (blk_cell BK280.out 6).trans rfl; have hcz15_7 : w14.cell? ⟨gb280, 7, none⟩ = some (.int .u64 a0_7) := (blk_cell BK280.out 7).trans rfl; have hcz15_8 : w14.cell? ⟨gb280, 8, none⟩ = some (.int .i64 a0_8) := (blk_cell BK280.out 8).trans rfl; have hfz15_0 := blk_frozen BK280.out 0; have hfz15_1 := blk_frozen BK280.out 1; have hfz15_2 := blk_frozen BK280.out 2; have hfz15_3 := blk_frozen BK280.out 3; have hfz15_4 := blk_frozen BK280.out 4; have hfz15_5 := blk_frozen BK280.out 5; have hfz15_6 := blk_frozen BK280.out 6; have hfz15_7 := blk_frozen BK280.out 7; have hfz15_8 := blk_frozen BK280.out 8) | ((with_reducible refine gate_callee (f := 50) rfl ?_); refine goesL_ (some 9) rfl rfl Try.func50 (by kernel_rfl) rfl #[.int .u64 (IntKind.u64.wrap (a0_0)), .int .i64 1] rfl (by (try simp only [List.map_toArray, List.map_cons, List.map_nil]); first | done | rfl | (simp only [List.length_drop, List.length_take]; rfl)) ?_; (with_reducible refine (credenzaref06_Bytes.calls k (IntKind.u64.wrap (a0_0)) 1 t281 _ A2.out).mono ?_); rintro e w16 ⟨rfl, hb⟩; refine ⟨_, rfl, ?_⟩; have n0_ := Aside0.mk (blk_below (g := gb280) (o := .cells #[.int .i64 a0_0, .int .u32 a0_1, .slice A0_2 l0_2.length c0_2, .int .i64 a0_3, .int .i64 a0_4, .int .i32 a0_5, .int .i64 a0_6, .int .u64 a0_7, .int .i64 a0_8] 40 (0, 0)) (by (with_reducible repeat (first | refine blk_drewN ?_ _ | refine blk_drew ?_ | refine blk_alloc ?_ _)); exact BK280.out) hb); have n1_ := Aside0.mk (below_step (by repeat (first | (with_reducible first | exact HB.out | apply below_alloc | apply pw_below_drewN | apply below_drew1 | refine below_set ?_ GE280.out) | exact HB.out)) hb); clear BK280; clear HB; have BK280 := n0_; have HB := n1_; clear n0_ n1_; (try clear hb); (try clear hb2); (try clear hk); (try clear hi); have hcz17_0 : w16.cell? ⟨gb280, 0, none⟩ = some (.int .i64 a0_0) := (blk_cell BK280.out 0).trans rfl; have hcz17_1 : w16.cell? ⟨gb280, 1, none⟩ = some (.int .u32 a0_1) := (blk_cell BK280.out 1).trans rfl; have hcz17_2 : w16.cell? ⟨gb280, 2, none⟩ = some (.slice A0_2 l0_2.length c0_2) := (blk_cell BK280.out 2).trans rfl; have hcz17_3 : w16.cell? ⟨gb280, 3, none⟩ = some (.int .i64 a0_3) := (blk_cell BK280.out 3).trans rfl; have hcz17_4 : w16.cell? ⟨gb280, 4, none⟩ = some (.int .i64 a0_4) := (blk_cell BK280.out 4).trans rfl; have hcz17_5 : w16.cell? ⟨gb280, 5, none⟩ = some (.int .i32 a0_5) := (blk_cell BK280.out 5).trans rfl; have hcz17_6 : w16.cell? ⟨gb280, 6, none⟩ = some (.int .i64 a0_6) := (blk_cell BK280.out 6).trans rfl; have hcz17_7 : w16.cell? ⟨gb280, 7, none⟩ = some (.int .u64 a0_7) := (blk_cell BK280.out 7).trans rfl; have hcz17_8 : w16.cell? ⟨gb280, 8, none⟩ = some (.int .i64 a0_8) := (blk_cell BK280.out 8).trans rfl; have hfz17_0 := blk_frozen BK280.out 0; have hfz17_1 := blk_frozen BK280.out 1; have hfz17_2 := blk_frozen BK280.out 2; have hfz17_3 := blk_frozen BK280.out 3; have hfz17_4 := blk_frozen BK280.out 4; have hfz17_5 := blk_frozen BK280.out 5; have hfz17_6 := blk_frozen BK280.out 6; have hfz17_7 := blk_frozen BK280.out 7; have hfz17_8 := blk_frozen BK280.out 8) | ((with_reducible refine gate_callee (f := 50) rfl ?_); refine goesL_ (some 23) rfl rfl Try.func50 (by kernel_rfl) rfl #[.int .u64 (IntKind.u64.wrap (a0_1)), .int .i64 4] rfl (by (try simp only [List.map_toArray, List.map_cons, List.map_nil]); first | done | rfl | (simp only [List.length_drop, List.length_take]; rfl)) ?_; (with_reducible refine (credenzaref06_Bytes.calls k (IntKind.u64.wrap (a0_1)) 4 t283 _ A11.out).mono ?_); rintro e w18 ⟨rfl, hb⟩; refine ⟨_, rfl, ?_⟩; have n0_ := Aside0.mk (blk_below (g := gb280) (o := .cells #[.int .i64 a0_0, .int .u32 a0_1, .slice A0_2 l0_2.length c0_2, .int .i64 a0_3, .int .i64 a0_4, .int .i32 a0_5, .int .i64 a0_6, .int .u64 a0_7, .int .i64 a0_8] 40 (0, 0)) (by (with_reducible repeat (first | refine blk_drewN ?_ _ | refine blk_drew ?_ | refine blk_alloc ?_ _)); exact BK280.out) hb); have n1_ := Aside0.mk (below_step (by repeat (first | (with_reducible first | exact HB.out | apply below_alloc | apply pw_below_drewN | apply below_drew1 | refine below_set ?_ GE280.out) | exact HB.out)) hb); clear BK280; clear HB; have BK280 := n0_; have HB := n1_; clear n0_ n1_; (try clear hb); (try clear hb2); (try clear hk); (try clear hi); have hcz19_0 : w18.cell? ⟨gb280, 0, none⟩ = some (.int .i64 a0_0) := (blk_cell BK280.out 0).trans rfl; have hcz19_1 : w18.cell? ⟨gb280, 1, none⟩ = some (.int .u32 a0_1) := (blk_cell BK280.out 1).trans rfl; have hcz19_2 : w18.cell? ⟨gb280, 2, none⟩ = some (.slice A0_2 l0_2.length c0_2) := (blk_cell BK280.out 2).trans rfl; have hcz19_3 : w18.cell? ⟨gb280, 3, none⟩ = some (.int .i64 a0_3) := (blk_cell BK280.out 3).trans rfl; have hcz19_4 : w18.cell? ⟨gb280, 4, none⟩ = some (.int .i64 a0_4) := (blk_cell BK280.out 4).trans rfl; have hcz19_5 : w18.cell? ⟨gb280, 5, none⟩ = some (.int .i32 a0_5) := (blk_cell BK280.out 5).trans rfl; have hcz19_6 : w18.cell? ⟨gb280, 6, none⟩ = some (.int .i64 a0_6) := (blk_cell BK280.out 6).trans rfl; have hcz19_7 : w18.cell? ⟨gb280, 7, none⟩ = some (.int .u64 a0_7) := (blk_cell BK280.out 7).trans rfl; have hcz19_8 : w18.cell? ⟨gb280, 8, none⟩ = some (.int .i64 a0_8) := (blk_cell BK280.out 8).trans rfl; have hfz19_0 := blk_frozen BK280.out 0; have hfz19_1 := blk_frozen BK280.out 1; have hfz19_2 := blk_frozen BK280.out 2; have hfz19_3 := blk_frozen BK280.out 3; have hfz19_4 := blk_frozen BK280.out 4; have hfz19_5 := blk_frozen BK280.out 5; have hfz19_6 := blk_frozen BK280.out 6; have hfz19_7 := blk_frozen BK280.out 7; have hfz19_8 := blk_frozen BK280.out 8))
    go_ret
    exact ⟨by first | rfl | (simp [errW_none, errW_some] <;> rfl) | (simp [*, errW_none, errW_some] <;> rfl), by repeat (first | (with_reducible first | exact HB.out | apply below_alloc | apply pw_below_drewN | apply below_drew1 | refine below_set ?_ GE280.out) | exact HB.out)⟩
   ·
    rw [if_neg c13] at H
    have c13b0 : (a0_0 == 2) = false := beq_eq_false_iff_ne.mpr c13
    have c13b1 : (a0_0 != 2) = true := bne_iff_ne.mpr c13
    replace H := Option.bind_eq_some_iff.mp H
    obtain ⟨t285, A200, H⟩ := H
    replace H : ((credenzaref06_Bytes.f k (IntKind.u64.wrap (wrap64 (a0_4 + 1))) 1).bind fun t286 => (if t285.size + t286.size ≤ 9223372036854775807 then ((credenzaref06_Word.f k a0_5).bind fun t287 => (if (t285 ++ t286).size + t287.size ≤ 9223372036854775807 then (if (t281 ++ t283).size + ((t285 ++ t286) ++ t287).size ≤ 9223372036854775807 then ((credenzaref06_Bytes.f k (IntKind.u64.wrap (a0_6)) 1).bind fun t288 => ((credenzaref06_Bytes.f k a0_7 8).bind fun t289 => (if t288.size + t289.size ≤ 9223372036854775807 then ((credenzaref06_Bytes.f k (IntKind.u64.wrap ((l0_2.length : Int))) 2).bind fun t290 => (if (t288 ++ t289).size + t290.size ≤ 9223372036854775807 then (if ((t281 ++ t283) ++ ((t285 ++ t286) ++ t287)).size + ((t288 ++ t289) ++ t290).size ≤ 9223372036854775807 then (credenzaref22_Bytes.l0 k (((t281 ++ t283) ++ ((t285 ++ t286) ++ t287)) ++ ((t288 ++ t289) ++ t290)) 0 l0_2 a0_3 a0_4 a0_5 a0_6 a0_7) else (none)) else (none))) else (none)))) else (none)) else (none))) else (none))) = some r := H
    have A20 := Aside0.mk A200
    clear A200
    replace H := Option.bind_eq_some_iff.mp H
    obtain ⟨t286, A210, H⟩ := H
    replace H : (if t285.size + t286.size ≤ 9223372036854775807 then ((credenzaref06_Word.f k a0_5).bind fun t287 => (if (t285 ++ t286).size + t287.size ≤ 9223372036854775807 then (if (t281 ++ t283).size + ((t285 ++ t286) ++ t287).size ≤ 9223372036854775807 then ((credenzaref06_Bytes.f k (IntKind.u64.wrap (a0_6)) 1).bind fun t288 => ((credenzaref06_Bytes.f k a0_7 8).bind fun t289 => (if t288.size + t289.size ≤ 9223372036854775807 then ((credenzaref06_Bytes.f k (IntKind.u64.wrap ((l0_2.length : Int))) 2).bind fun t290 => (if (t288 ++ t289).size + t290.size ≤ 9223372036854775807 then (if ((t281 ++ t283) ++ ((t285 ++ t286) ++ t287)).size + ((t288 ++ t289) ++ t290).size ≤ 9223372036854775807 then (credenzaref22_Bytes.l0 k (((t281 ++ t283) ++ ((t285 ++ t286) ++ t287)) ++ ((t288 ++ t289) ++ t290)) 0 l0_2 a0_3 a0_4 a0_5 a0_6 a0_7) else (none)) else (none))) else (none)))) else (none)) else (none))) else (none)) = some r := H
    have A21 := Aside0.mk A210
    clear A210
    by_cases c22 : t285.size + t286.size ≤ 9223372036854775807
    ·
     rw [if_pos c22] at H
     have c22b0 := eq_true c22
     have c22b1 : decide (t285.size + t286.size ≤ 9223372036854775807) = true := decide_eq_true c22
     try have c22b2 : (9223372036854775807 < t285.size + t286.size) = False := eq_false (Nat.not_lt.2 c22)
     (try (have c22b3 := c22b2; simp only [ByteArray.size_append] at c22b3))
     replace H := Option.bind_eq_some_iff.mp H
     obtain ⟨t287, A230, H⟩ := H
     replace H : (if (t285 ++ t286).size + t287.size ≤ 9223372036854775807 then (if (t281 ++ t283).size + ((t285 ++ t286) ++ t287).size ≤ 9223372036854775807 then ((credenzaref06_Bytes.f k (IntKind.u64.wrap (a0_6)) 1).bind fun t288 => ((credenzaref06_Bytes.f k a0_7 8).bind fun t289 => (if t288.size + t289.size ≤ 9223372036854775807 then ((credenzaref06_Bytes.f k (IntKind.u64.wrap ((l0_2.length : Int))) 2).bind fun t290 => (if (t288 ++ t289).size + t290.size ≤ 9223372036854775807 then (if ((t281 ++ t283) ++ ((t285 ++ t286) ++ t287)).size + ((t288 ++ t289) ++ t290).size ≤ 9223372036854775807 then (credenzaref22_Bytes.l0 k (((t281 ++ t283) ++ ((t285 ++ t286) ++ t287)) ++ ((t288 ++ t289) ++ t290)) 0 l0_2 a0_3 a0_4 a0_5 a0_6 a0_7) else (none)) else (none))) else (none)))) else (none)) else (none)) = some r := H
     have A23 := Aside0.mk A230
     clear A230
     by_cases c24 : (t285 ++ t286).size + t287.size ≤ 9223372036854775807
     ·
      rw [if_pos c24] at H
      have c24b0 := eq_true c24
      have c24b1 : decide ((t285 ++ t286).size + t287.size ≤ 9223372036854775807) = true := decide_eq_true c24
      try have c24b2 : (9223372036854775807 < (t285 ++ t286).size + t287.size) = False := eq_false (Nat.not_lt.2 c24)
      (try (have c24b3 := c24b2; simp only [ByteArray.size_append] at c24b3))
      by_cases c25 : (t281 ++ t283).size + ((t285 ++ t286) ++ t287).size ≤ 9223372036854775807
      ·
       rw [if_pos c25] at H
       have c25b0 := eq_true c25
       have c25b1 : decide ((t281 ++ t283).size + ((t285 ++ t286) ++ t287).size ≤ 9223372036854775807) = true := decide_eq_true c25
       try have c25b2 : (9223372036854775807 < (t281 ++ t283).size + ((t285 ++ t286) ++ t287).size) = False := eq_false (Nat.not_lt.2 c25)
       (try (have c25b3 := c25b2; simp only [ByteArray.size_append] at c25b3))
       replace H := Option.bind_eq_some_iff.mp H
       obtain ⟨t288, A260, H⟩ := H
       replace H : ((credenzaref06_Bytes.f k a0_7 8).bind fun t289 => (if t288.size + t289.size ≤ 9223372036854775807 then ((credenzaref06_Bytes.f k (IntKind.u64.wrap ((l0_2.length : Int))) 2).bind fun t290 => (if (t288 ++ t289).size + t290.size ≤ 9223372036854775807 then (if ((t281 ++ t283) ++ ((t285 ++ t286) ++ t287)).size + ((t288 ++ t289) ++ t290).size ≤ 9223372036854775807 then (credenzaref22_Bytes.l0 k (((t281 ++ t283) ++ ((t285 ++ t286) ++ t287)) ++ ((t288 ++ t289) ++ t290)) 0 l0_2 a0_3 a0_4 a0_5 a0_6 a0_7) else (none)) else (none))) else (none))) = some r := H
       have A26 := Aside0.mk A260
       clear A260
       replace H := Option.bind_eq_some_iff.mp H
       obtain ⟨t289, A270, H⟩ := H
       replace H : (if t288.size + t289.size ≤ 9223372036854775807 then ((credenzaref06_Bytes.f k (IntKind.u64.wrap ((l0_2.length : Int))) 2).bind fun t290 => (if (t288 ++ t289).size + t290.size ≤ 9223372036854775807 then (if ((t281 ++ t283) ++ ((t285 ++ t286) ++ t287)).size + ((t288 ++ t289) ++ t290).size ≤ 9223372036854775807 then (credenzaref22_Bytes.l0 k (((t281 ++ t283) ++ ((t285 ++ t286) ++ t287)) ++ ((t288 ++ t289) ++ t290)) 0 l0_2 a0_3 a0_4 a0_5 a0_6 a0_7) else (none)) else (none))) else (none)) = some r := H
       have A27 := Aside0.mk A270
       clear A270
       by_cases c28 : t288.size + t289.size ≤ 9223372036854775807
       ·
        rw [if_pos c28] at H
        have c28b0 := eq_true c28
        have c28b1 : decide (t288.size + t289.size ≤ 9223372036854775807) = true := decide_eq_true c28
        try have c28b2 : (9223372036854775807 < t288.size + t289.size) = False := eq_false (Nat.not_lt.2 c28)
        (try (have c28b3 := c28b2; simp only [ByteArray.size_append] at c28b3))
        replace H := Option.bind_eq_some_iff.mp H
        obtain ⟨t290, A290, H⟩ := H
        replace H : (if (t288 ++ t289).size + t290.size ≤ 9223372036854775807 then (if ((t281 ++ t283) ++ ((t285 ++ t286) ++ t287)).size + ((t288 ++ t289) ++ t290).size ≤ 9223372036854775807 then (credenzaref22_Bytes.l0 k (((t281 ++ t283) ++ ((t285 ++ t286) ++ t287)) ++ ((t288 ++ t289) ++ t290)) 0 l0_2 a0_3 a0_4 a0_5 a0_6 a0_7) else (none)) else (none)) = some r := H
        have A29 := Aside0.mk A290
        clear A290
        by_cases c30 : (t288 ++ t289).size + t290.size ≤ 9223372036854775807
        ·
         rw [if_pos c30] at H
         have c30b0 := eq_true c30
         have c30b1 : decide ((t288 ++ t289).size + t290.size ≤ 9223372036854775807) = true := decide_eq_true c30
         try have c30b2 : (9223372036854775807 < (t288 ++ t289).size + t290.size) = False := eq_false (Nat.not_lt.2 c30)
         (try (have c30b3 := c30b2; simp only [ByteArray.size_append] at c30b3))
         by_cases c31 : ((t281 ++ t283) ++ ((t285 ++ t286) ++ t287)).size + ((t288 ++ t289) ++ t290).size ≤ 9223372036854775807
         ·
          rw [if_pos c31] at H
          have c31b0 := eq_true c31
          have c31b1 : decide (((t281 ++ t283) ++ ((t285 ++ t286) ++ t287)).size + ((t288 ++ t289) ++ t290).size ≤ 9223372036854775807) = true := decide_eq_true c31
          try have c31b2 : (9223372036854775807 < ((t281 ++ t283) ++ ((t285 ++ t286) ++ t287)).size + ((t288 ++ t289) ++ t290).size) = False := eq_false (Nat.not_lt.2 c31)
          (try (have c31b3 := c31b2; simp only [ByteArray.size_append] at c31b3))
          have H' := Aside0.mk H
          clear H
          go_enter Try.func18, Try.ntmps18
          try go_wp2_with (first | ((with_reducible refine gate_dst (N := 1) rfl ?_); refine box_event ?hg (N := 1) ?hd (cs := #[.int .i64 a0_0, .int .u32 a0_1, .slice A0_2 l0_2.length c0_2, .int .i64 a0_3, .int .i64 a0_4, .int .i32 a0_5, .int .i64 a0_6, .int .u64 a0_7, .int .i64 a0_8]) (t := 40) ?hr ?_; (case hd => rfl); (case hg => rfl); (case hr => first | (go_simp; done) | (go_simp; rfl)); intro gb280 hg w32 hbox hb; have n0_ := Aside0.mk (below_step (by repeat (first | (with_reducible first | exact HB.out | apply below_alloc | apply pw_below_drewN | apply below_drew1) | exact HB.out)) hb); have n1_ := Aside0.mk (hbox); have n2_ := Aside0.mk ((by rw [hg]; exact (below_size (by repeat (first | (with_reducible first | exact HB.out | apply below_alloc | apply pw_below_drewN | apply below_drew1) | exact HB.out))) : w.heap.size ≤ gb280)); have n3_ := Aside0.mk ((by rw [hg]; exact (below_size (by repeat (first | (with_reducible first | exact HB.out | apply below_alloc | apply pw_below_drewN | apply below_drew1) | exact HB.out))) : w.heap.size ≤ gb280)); clear HB; have HB := n0_; have BK280 := n1_; have GW280 := n2_; have GE280 := n3_; clear n0_ n1_ n2_ n3_; clear hb hbox hg; have hcz33_0 : w32.cell? ⟨gb280, 0, none⟩ = some (.int .i64 a0_0) := (blk_cell BK280.out 0).trans rfl; have hcz33_1 : w32.cell? ⟨gb280, 1, none⟩ = some (.int .u32 a0_1) := (blk_cell BK280.out 1).trans rfl; have hcz33_2 : w32.cell? ⟨gb280, 2, none⟩ = some (.slice A0_2 l0_2.length c0_2) := (blk_cell BK280.out 2).trans rfl; have hcz33_3 : w32.cell? ⟨gb280, 3, none⟩ = some (.int .i64 a0_3) := (blk_cell BK280.out 3).trans rfl; have hcz33_4 : w32.cell? ⟨gb280, 4, none⟩ = some (.int .i64 a0_4) := (blk_cell BK280.out 4).trans rfl; have hcz33_5 : w32.cell? ⟨gb280, 5, none⟩ = some (.int .i32 a0_5) := (blk_cell BK280.out 5).trans rfl; have hcz33_6 : w32.cell? ⟨gb280, 6, none⟩ = some (.int .i64 a0_6) := (blk_cell BK280.out 6).trans rfl; have hcz33_7 : w32.cell? ⟨gb280, 7, none⟩ = some (.int .u64 a0_7) := (blk_cell BK280.out 7).trans rfl; have hcz33_8 : w32.cell? ⟨gb280, 8, none⟩ = some (.int .i64 a0_8) := (blk_cell BK280.out 8).trans rfl; have hfz33_0 := blk_frozen BK280.out 0; have hfz33_1 := blk_frozen BK280.out 1; have hfz33_2 := blk_frozen BK280.out 2; have hfz33_3 := blk_frozen BK280.out 3; have hfz33_4 := blk_frozen BK280.out 4; have hfz33_5 := blk_frozen BK280.out 5; have hfz33_6 := blk_frozen BK280.out 6; have hfz33_7 := blk_frozen BK280.out 7; have hfz33_8 := blk_frozen BK280.out 8) | ((with_reducible refine gate_callee (f := 50) rfl ?_); refine goesL_ (some 9) rfl rfl Try.func50 (by kernel_rfl) rfl #[.int .u64 (IntKind.u64.wrap (a0_0)), .int .i64 1] rfl (by (try simp only [List.map_toArray, List.map_cons, List.map_nil]); first | done | rfl | (simp only [List.length_drop, List.length_take]; rfl)) ?_; (with_reducible refine (credenzaref06_Bytes.calls k (IntKind.u64.wrap (a0_0)) 1 t281 _ A2.out).mono ?_); rintro e w34 ⟨rfl, hb⟩; refine ⟨_, rfl, ?_⟩; have n0_ := Aside0.mk (blk_below (g := gb280) (o := .cells #[.int .i64 a0_0, .int .u32 a0_1, .slice A0_2 l0_2.length c0_2, .int .i64 a0_3, .int .i64 a0_4, .int .i32 a0_5, .int .i64 a0_6, .int .u64 a0_7, .int .i64 a0_8] 40 (0, 0)) (by (with_reducible repeat (first | refine blk_drewN ?_ _ | refine blk_drew ?_ | refine blk_alloc ?_ _)); exact BK280.out) hb); have n1_ := Aside0.mk (below_step (by repeat (first | (with_reducible first | exact HB.out | apply below_alloc | apply pw_below_drewN | apply below_drew1 | refine below_set ?_ GE280.out) | exact HB.out)) hb); clear BK280; clear HB; have BK280 := n0_; have HB := n1_; clear n0_ n1_; (try clear hb); (try clear hb2); (try clear hk); (try clear hi); have hcz35_0 : w34.cell? ⟨gb280, 0, none⟩ = some (.int .i64 a0_0) := (blk_cell BK280.out 0).trans rfl; have hcz35_1 : w34.cell? ⟨gb280, 1, none⟩ = some (.int .u32 a0_1) := (blk_cell BK280.out 1).trans rfl; have hcz35_2 : w34.cell? ⟨gb280, 2, none⟩ = some (.slice A0_2 l0_2.length c0_2) := (blk_cell BK280.out 2).trans rfl; have hcz35_3 : w34.cell? ⟨gb280, 3, none⟩ = some (.int .i64 a0_3) := (blk_cell BK280.out 3).trans rfl; have hcz35_4 : w34.cell? ⟨gb280, 4, none⟩ = some (.int .i64 a0_4) := (blk_cell BK280.out 4).trans rfl; have hcz35_5 : w34.cell? ⟨gb280, 5, none⟩ = some (.int .i32 a0_5) := (blk_cell BK280.out 5).trans rfl; have hcz35_6 : w34.cell? ⟨gb280, 6, none⟩ = some (.int .i64 a0_6) := (blk_cell BK280.out 6).trans rfl; have hcz35_7 : w34.cell? ⟨gb280, 7, none⟩ = some (.int .u64 a0_7) := (blk_cell BK280.out 7).trans rfl; have hcz35_8 : w34.cell? ⟨gb280, 8, none⟩ = some (.int .i64 a0_8) := (blk_cell BK280.out 8).trans rfl; have hfz35_0 := blk_frozen BK280.out 0; have hfz35_1 := blk_frozen BK280.out 1; have hfz35_2 := blk_frozen BK280.out 2; have hfz35_3 := blk_frozen BK280.out 3; have hfz35_4 := blk_frozen BK280.out 4; have hfz35_5 := blk_frozen BK280.out 5; have hfz35_6 := blk_frozen BK280.out 6; have hfz35_7 := blk_frozen BK280.out 7; have hfz35_8 := blk_frozen BK280.out 8) | ((with_reducible refine gate_callee (f := 50) rfl ?_); refine goesL_ (some 23) rfl rfl Try.func50 (by kernel_rfl) rfl #[.int .u64 (IntKind.u64.wrap (a0_1)), .int .i64 4] rfl (by (try simp only [List.map_toArray, List.map_cons, List.map_nil]); first | done | rfl | (simp only [List.length_drop, List.length_take]; rfl)) ?_; (with_reducible refine (credenzaref06_Bytes.calls k (IntKind.u64.wrap (a0_1)) 4 t283 _ A11.out).mono ?_); rintro e w36 ⟨rfl, hb⟩; refine ⟨_, rfl, ?_⟩; have n0_ := Aside0.mk (blk_below (g := gb280) (o := .cells #[.int .i64 a0_0, .int .u32 a0_1, .slice A0_2 l0_2.length c0_2, .int .i64 a0_3, .int .i64 a0_4, .int .i32 a0_5, .int .i64 a0_6, .int .u64 a0_7, .int .i64 a0_8] 40 (0, 0)) (by (with_reducible repeat (first | refine blk_drewN ?_ _ | refine blk_drew ?_ | refine blk_alloc ?_ _)); exact BK280.out) hb); have n1_ := Aside0.mk (below_step (by repeat (first | (with_reducible first | exact HB.out | apply below_alloc | apply pw_below_drewN | apply below_drew1 | refine below_set ?_ GE280.out) | exact HB.out)) hb); clear BK280; clear HB; have BK280 := n0_; have HB := n1_; clear n0_ n1_; (try clear hb); (try clear hb2); (try clear hk); (try clear hi); have hcz37_0 : w36.cell? ⟨gb280, 0, none⟩ = some (.int .i64 a0_0) := (blk_cell BK280.out 0).trans rfl; have hcz37_1 : w36.cell? ⟨gb280, 1, none⟩ = some (.int .u32 a0_1) := (blk_cell BK280.out 1).trans rfl; have hcz37_2 : w36.cell? ⟨gb280, 2, none⟩ = some (.slice A0_2 l0_2.length c0_2) := (blk_cell BK280.out 2).trans rfl; have hcz37_3 : w36.cell? ⟨gb280, 3, none⟩ = some (.int .i64 a0_3) := (blk_cell BK280.out 3).trans rfl; have hcz37_4 : w36.cell? ⟨gb280, 4, none⟩ = some (.int .i64 a0_4) := (blk_cell BK280.out 4).trans rfl; have hcz37_5 : w36.cell? ⟨gb280, 5, none⟩ = some (.int .i32 a0_5) := (blk_cell BK280.out 5).trans rfl; have hcz37_6 : w36.cell? ⟨gb280, 6, none⟩ = some (.int .i64 a0_6) := (blk_cell BK280.out 6).trans rfl; have hcz37_7 : w36.cell? ⟨gb280, 7, none⟩ = some (.int .u64 a0_7) := (blk_cell BK280.out 7).trans rfl; have hcz37_8 : w36.cell? ⟨gb280, 8, none⟩ = some (.int .i64 a0_8) := (blk_cell BK280.out 8).trans rfl; have hfz37_0 := blk_frozen BK280.out 0; have hfz37_1 := blk_frozen BK280.out 1; have hfz37_2 := blk_frozen BK280.out 2; have hfz37_3 := blk_frozen BK280.out 3; have hfz37_4 := blk_frozen BK280.out 4; have hfz37_5 := blk_frozen BK280.out 5; have hfz37_6 := blk_frozen BK280.out 6; have hfz37_7 := blk_frozen BK280.out 7; have hfz37_8 := blk_frozen BK280.out 8) | ((with_reducible refine gate_dst (N := 4) rfl ?_); refine box_event ?hg (N := 4) ?hd (cs := #[.slice none 0 0, .int .i64 0, .int .i64 0, .int .i32 0, .int .i64 0, .int .u64 0]) (t := 38) ?hr ?_; (case hd => rfl); (case hg => rfl); (case hr => first | (go_simp; done) | (go_simp; rfl)); intro gb284 hg w38 hbox hb; have n0_ := Aside0.mk (blk_below (g := gb280) (o := .cells #[.int .i64 a0_0, .int .u32 a0_1, .slice A0_2 l0_2.length c0_2, .int .i64 a0_3, .int .i64 a0_4, .int .i32 a0_5, .int .i64 a0_6, .int .u64 a0_7, .int .i64 a0_8] 40 (0, 0)) (by (with_reducible repeat (first | refine blk_drewN ?_ _ | refine blk_drew ?_ | refine blk_alloc ?_ _)); exact BK280.out) hb); have n1_ := Aside0.mk (below_step (by repeat (first | (with_reducible first | exact HB.out | apply below_alloc | apply pw_below_drewN | apply below_drew1 | refine below_set ?_ GE280.out) | exact HB.out)) hb); have n2_ := Aside0.mk (hbox); have n3_ := Aside0.mk ((by rw [hg]; exact (below_size (by repeat (first | (with_reducible first | exact HB.out | apply below_alloc | apply pw_below_drewN | apply below_drew1 | refine below_set ?_ GE280.out) | exact HB.out))) : w.heap.size ≤ gb284)); have n4_ := Aside0.mk ((by rw [hg]; exact (below_size (by repeat (first | (with_reducible first | exact HB.out | apply below_alloc | apply pw_below_drewN | apply below_drew1 | refine below_set ?_ GE280.out) | exact HB.out))) : w.heap.size ≤ gb284)); have n5_ := Aside0.mk ((by rw [hg]; exact Nat.ne_of_lt (blk_lt (g := gb280) (o := .cells #[.int .i64 a0_0, .int .u32 a0_1, .slice A0_2 l0_2.length c0_2, .int .i64 a0_3, .int .i64 a0_4, .int .i32 a0_5, .int .i64 a0_6, .int .u64 a0_7, .int .i64 a0_8] 40 (0, 0)) (by (with_reducible repeat (first | refine blk_drewN ?_ _ | refine blk_drew ?_ | refine blk_alloc ?_ _)); exact BK280.out)) : gb280 ≠ gb284)); have n6_ := Aside0.mk ((by rw [hg]; exact Nat.ne_of_gt (blk_lt (g := gb280) (o := .cells #[.int .i64 a0_0, .int .u32 a0_1, .slice A0_2 l0_2.length c0_2, .int .i64 a0_3, .int .i64 a0_4, .int .i32 a0_5, .int .i64 a0_6, .int .u64 a0_7, .int .i64 a0_8] 40 (0, 0)) (by (with_reducible repeat (first | refine blk_drewN ?_ _ | refine blk_drew ?_ | refine blk_alloc ?_ _)); exact BK280.out)) : gb284 ≠ gb280)); clear BK280; clear HB; have BK280 := n0_; have HB := n1_; have BK284 := n2_; have GW284 := n3_; have GE284 := n4_; have NB280_284 := n5_; have NB284_280 := n6_; clear n0_ n1_ n2_ n3_ n4_ n5_ n6_; clear hb hbox hg; have hnb39 := NB284_280.out; have hnc39 := NB280_284.out; have hcz40_0 : w38.cell? ⟨gb284, 0, none⟩ = some (.slice none 0 0) := (blk_cell BK284.out 0).trans rfl; have hcz40_1 : w38.cell? ⟨gb284, 1, none⟩ = some (.int .i64 0) := (blk_cell BK284.out 1).trans rfl; have hcz40_2 : w38.cell? ⟨gb284, 2, none⟩ = some (.int .i64 0) := (blk_cell BK284.out 2).trans rfl; have hcz40_3 : w38.cell? ⟨gb284, 3, none⟩ = some (.int .i32 0) := (blk_cell BK284.out 3).trans rfl; have hcz40_4 : w38.cell? ⟨gb284, 4, none⟩ = some (.int .i64 0) := (blk_cell BK284.out 4).trans rfl; have hcz40_5 : w38.cell? ⟨gb284, 5, none⟩ = some (.int .u64 0) := (blk_cell BK284.out 5).trans rfl; have hfz40_0 := blk_frozen BK284.out 0; have hfz40_1 := blk_frozen BK284.out 1; have hfz40_2 := blk_frozen BK284.out 2; have hfz40_3 := blk_frozen BK284.out 3; have hfz40_4 := blk_frozen BK284.out 4; have hfz40_5 := blk_frozen BK284.out 5))
          have n0_ : Aside0 (((((((w38.setCell ⟨gb284, 0, none⟩ (.slice A0_2 l0_2.length c0_2)).setCell ⟨gb284, 1, none⟩ (.int .i64 a0_3)).setCell ⟨gb284, 2, none⟩ (.int .i64 a0_4)).setCell ⟨gb284, 3, none⟩ (.int .i32 a0_5)).setCell ⟨gb284, 4, none⟩ (.int .i64 a0_6)).setCell ⟨gb284, 5, none⟩ (.int .u64 a0_7)).heap[gb280]? = some (.cells #[.int .i64 a0_0, .int .u32 a0_1, .slice A0_2 l0_2.length c0_2, .int .i64 a0_3, .int .i64 a0_4, .int .i32 a0_5, .int .i64 a0_6, .int .u64 a0_7, .int .i64 a0_8] 40 (0, 0))) := ⟨by (with_reducible repeat (first | refine blk_drewN ?_ _ | refine blk_drew ?_ | refine blk_alloc ?_ _)); refine blk_far ?_ NB280_284.out _; (with_reducible repeat (first | refine blk_drewN ?_ _ | refine blk_drew ?_ | refine blk_alloc ?_ _)); refine blk_far ?_ NB280_284.out _; (with_reducible repeat (first | refine blk_drewN ?_ _ | refine blk_drew ?_ | refine blk_alloc ?_ _)); refine blk_far ?_ NB280_284.out _; (with_reducible repeat (first | refine blk_drewN ?_ _ | refine blk_drew ?_ | refine blk_alloc ?_ _)); refine blk_far ?_ NB280_284.out _; (with_reducible repeat (first | refine blk_drewN ?_ _ | refine blk_drew ?_ | refine blk_alloc ?_ _)); refine blk_far ?_ NB280_284.out _; (with_reducible repeat (first | refine blk_drewN ?_ _ | refine blk_drew ?_ | refine blk_alloc ?_ _)); refine blk_far ?_ NB280_284.out _; (with_reducible repeat (first | refine blk_drewN ?_ _ | refine blk_drew ?_ | refine blk_alloc ?_ _)); exact BK280.out⟩
          have n1_ : Aside0 (((((((w38.setCell ⟨gb284, 0, none⟩ (.slice A0_2 l0_2.length c0_2)).setCell ⟨gb284, 1, none⟩ (.int .i64 a0_3)).setCell ⟨gb284, 2, none⟩ (.int .i64 a0_4)).setCell ⟨gb284, 3, none⟩ (.int .i32 a0_5)).setCell ⟨gb284, 4, none⟩ (.int .i64 a0_6)).setCell ⟨gb284, 5, none⟩ (.int .u64 a0_7)).heap[gb284]? = some (.cells #[.slice A0_2 l0_2.length c0_2, .int .i64 a0_3, .int .i64 a0_4, .int .i32 a0_5, .int .i64 a0_6, .int .u64 a0_7] 38 (0, 0))) := ⟨by (with_reducible repeat (first | refine blk_drewN ?_ _ | refine blk_drew ?_ | refine blk_alloc ?_ _)); refine blk_put (cs := #[.slice A0_2 l0_2.length c0_2, .int .i64 a0_3, .int .i64 a0_4, .int .i32 a0_5, .int .i64 a0_6, .int .u64 0]) ?_ 5 _ rfl; (with_reducible repeat (first | refine blk_drewN ?_ _ | refine blk_drew ?_ | refine blk_alloc ?_ _)); refine blk_put (cs := #[.slice A0_2 l0_2.length c0_2, .int .i64 a0_3, .int .i64 a0_4, .int .i32 a0_5, .int .i64 0, .int .u64 0]) ?_ 4 _ rfl; (with_reducible repeat (first | refine blk_drewN ?_ _ | refine blk_drew ?_ | refine blk_alloc ?_ _)); refine blk_put (cs := #[.slice A0_2 l0_2.length c0_2, .int .i64 a0_3, .int .i64 a0_4, .int .i32 0, .int .i64 0, .int .u64 0]) ?_ 3 _ rfl; (with_reducible repeat (first | refine blk_drewN ?_ _ | refine blk_drew ?_ | refine blk_alloc ?_ _)); refine blk_put (cs := #[.slice A0_2 l0_2.length c0_2, .int .i64 a0_3, .int .i64 0, .int .i32 0, .int .i64 0, .int .u64 0]) ?_ 2 _ rfl; (with_reducible repeat (first | refine blk_drewN ?_ _ | refine blk_drew ?_ | refine blk_alloc ?_ _)); refine blk_put (cs := #[.slice A0_2 l0_2.length c0_2, .int .i64 0, .int .i64 0, .int .i32 0, .int .i64 0, .int .u64 0]) ?_ 1 _ rfl; (with_reducible repeat (first | refine blk_drewN ?_ _ | refine blk_drew ?_ | refine blk_alloc ?_ _)); refine blk_put (cs := #[.slice none 0 0, .int .i64 0, .int .i64 0, .int .i32 0, .int .i64 0, .int .u64 0]) ?_ 0 _ rfl; (with_reducible repeat (first | refine blk_drewN ?_ _ | refine blk_drew ?_ | refine blk_alloc ?_ _)); exact BK284.out⟩
          have n2_ : Aside0 (Below w.heap.size w ((((((w38.setCell ⟨gb284, 0, none⟩ (.slice A0_2 l0_2.length c0_2)).setCell ⟨gb284, 1, none⟩ (.int .i64 a0_3)).setCell ⟨gb284, 2, none⟩ (.int .i64 a0_4)).setCell ⟨gb284, 3, none⟩ (.int .i32 a0_5)).setCell ⟨gb284, 4, none⟩ (.int .i64 a0_6)).setCell ⟨gb284, 5, none⟩ (.int .u64 a0_7))) := ⟨by repeat (first | (with_reducible first | exact HB.out | apply below_alloc | apply pw_below_drewN | apply below_drew1 | refine below_set ?_ GE280.out | refine below_set ?_ GE284.out) | exact HB.out)⟩
          (try clear BK280)
          (try clear BK284)
          (try clear HB)
          generalize ((((((w38.setCell ⟨gb284, 0, none⟩ (.slice A0_2 l0_2.length c0_2)).setCell ⟨gb284, 1, none⟩ (.int .i64 a0_3)).setCell ⟨gb284, 2, none⟩ (.int .i64 a0_4)).setCell ⟨gb284, 3, none⟩ (.int .i32 a0_5)).setCell ⟨gb284, 4, none⟩ (.int .i64 a0_6)).setCell ⟨gb284, 5, none⟩ (.int .u64 a0_7)) = w41 at n0_ n1_ n2_ ⊢
          have BK280 := n0_
          have BK284 := n1_
          have HB := n2_
          clear n0_ n1_ n2_
          have n0_ := Aside0.mk (blk_drew BK280.out)
          have n1_ := Aside0.mk (blk_drew BK284.out)
          have n2_ := Aside0.mk (below_drew1 HB.out)
          clear BK280
          clear BK284
          clear HB
          have BK280 := n0_
          have BK284 := n1_
          have HB := n2_
          clear n0_ n1_ n2_
          refine start_ (n := 17) (S := fun w' => w'.cell? ⟨gb284, 0, none⟩ = some (.slice A0_2 l0_2.length c0_2) ∧ w'.cell? ⟨gb284, 1, none⟩ = some (.int .i64 a0_3) ∧ w'.cell? ⟨gb284, 2, none⟩ = some (.int .i64 a0_4) ∧ w'.cell? ⟨gb284, 3, none⟩ = some (.int .i32 a0_5) ∧ w'.cell? ⟨gb284, 4, none⟩ = some (.int .i64 a0_6) ∧ w'.cell? ⟨gb284, 5, none⟩ = some (.int .u64 a0_7)) (ds := []) #[false, false, false, false, false, false, false, false, false, false, false, false, false, false, false, false, false] (by kernel_rfl) rfl rfl ⟨(blk_cell BK284.out 0).trans rfl, (blk_cell BK284.out 1).trans rfl, (blk_cell BK284.out 2).trans rfl, (blk_cell BK284.out 3).trans rfl, (blk_cell BK284.out 4).trans rfl, (blk_cell BK284.out 5).trans rfl⟩ (fun hHeld => ?_); refine with_tabW credenzaref22_Bytes.tab8 credenzaref22_Bytes.bits8 (fun HT_ HW_ => ?_)
          generalize w41.drew = w42 at BK280 BK284 HB hHeld ⊢
          refine pure_ (i := 0) (N := some 31) (v := ?_) (a' := ?_) #[true, false, false, false, false, false, false, false, false, false, false, false, false, false, false, false, false] rfl rfl (any_of HT_.out (by kernel_rfl)) (fun _ _ _ h => h) (Or.inl ⟨by rfl, ?_⟩) ?_ ?_
          rotate_left
          ·
           intro w'
           go_simp
           with_reducible rfl
          rotate_left
          ·
           simp only [Act.put, List.setIfInBounds_toArray, List.set_cons_zero, List.set_cons_succ, i64_w, i32_w, IntKind.wrap_u32]
           rfl
          refine pure_ (i := 1) (N := some 32) (v := ?_) (a' := ?_) #[true, true, false, false, false, false, false, false, false, false, false, false, false, false, false, false, false] rfl rfl (any_of HT_.out (by kernel_rfl)) (fun _ _ _ h => h) (Or.inl ⟨by rfl, ?_⟩) ?_ ?_
          rotate_left
          ·
           intro w'
           go_simp
           with_reducible rfl
          rotate_left
          ·
           simp only [Act.put, List.setIfInBounds_toArray, List.set_cons_zero, List.set_cons_succ, i64_w, i32_w, IntKind.wrap_u32]
           rfl
          refine pure_ (i := 5) (N := some 36) (v := ?_) (a' := ?_) #[true, true, false, false, false, true, false, false, false, false, false, false, false, false, false, false, false] rfl rfl (any_of HT_.out (by kernel_rfl)) (fun _ _ _ h => h) (Or.inl ⟨by rfl, ?_⟩) ?_ ?_
          rotate_left
          ·
           intro w'
           go_simp
           with_reducible rfl
          rotate_left
          ·
           simp only [Act.put, List.setIfInBounds_toArray, List.set_cons_zero, List.set_cons_succ, i64_w, i32_w, IntKind.wrap_u32]
           rfl
          refine pure_ (i := 11) (N := some 42) (v := ?_) (a' := ?_) #[true, true, false, false, false, true, false, false, false, false, false, true, false, false, false, false, false] rfl rfl (any_of HT_.out (by kernel_rfl)) (fun _ _ _ h => h) (Or.inl ⟨by rfl, ?_⟩) ?_ ?_
          rotate_left
          ·
           intro w'
           go_simp
           with_reducible rfl
          rotate_left
          ·
           simp only [Act.put, List.setIfInBounds_toArray, List.set_cons_zero, List.set_cons_succ, i64_w, i32_w, IntKind.wrap_u32]
           rfl
          refine take_ (i := 2) (N := some 33) (v := ?_) (a' := ?_) #[true, true, true, false, false, true, false, false, false, false, false, true, false, false, false, false, false] rfl rfl (take_ofW HT_.out HW_.out (by kernel_rfl)) (fun _ _ _ h => h) (Or.inl ⟨by rfl, ?_⟩) hHeld ?_ ?_
          rotate_left
          ·
           rintro w' ⟨s0, s1, s2, s3, s4, s5⟩
           go_simp
           with_reducible rfl
          rotate_left
          ·
           simp only [Act.put, List.setIfInBounds_toArray, List.set_cons_zero, List.set_cons_succ, i64_w, i32_w, IntKind.wrap_u32]
           rfl
          refine pure_ (i := 3) (N := some 34) (v := ?_) (a' := ?_) #[true, true, true, true, false, true, false, false, false, false, false, true, false, false, false, false, false] rfl rfl (any_of HT_.out (by kernel_rfl)) (fun _ _ _ h => h) (Or.inl ⟨by rfl, ?_⟩) ?_ ?_
          rotate_left
          ·
           intro w'
           go_simp
           with_reducible rfl
          rotate_left
          ·
           simp only [Act.put, List.setIfInBounds_toArray, List.set_cons_zero, List.set_cons_succ, i64_w, i32_w, IntKind.wrap_u32]
           rfl
          refine take_ (i := 6) (N := some 37) (v := ?_) (a' := ?_) #[true, true, true, true, false, true, true, false, false, false, false, true, false, false, false, false, false] rfl rfl (take_ofW HT_.out HW_.out (by kernel_rfl)) (fun _ _ _ h => h) (Or.inl ⟨by rfl, ?_⟩) hHeld ?_ ?_
          rotate_left
          ·
           rintro w' ⟨s0, s1, s2, s3, s4, s5⟩
           go_simp
           with_reducible rfl
          rotate_left
          ·
           simp only [Act.put, List.setIfInBounds_toArray, List.set_cons_zero, List.set_cons_succ, i64_w, i32_w, IntKind.wrap_u32]
           rfl
          refine pure_ (i := 7) (N := some 38) (v := ?_) (a' := ?_) #[true, true, true, true, false, true, true, true, false, false, false, true, false, false, false, false, false] rfl rfl (any_of HT_.out (by kernel_rfl)) (fun _ _ _ h => h) (Or.inl ⟨by rfl, ?_⟩) ?_ ?_
          rotate_left
          ·
           intro w'
           go_simp
           with_reducible rfl
          rotate_left
          ·
           simp only [Act.put, List.setIfInBounds_toArray, List.set_cons_zero, List.set_cons_succ, i64_w, i32_w, IntKind.wrap_u32]
           rfl
          refine pure_ (i := 8) (N := some 39) (v := ?_) (a' := ?_) #[true, true, true, true, false, true, true, true, true, false, false, true, false, false, false, false, false] rfl rfl (any_of HT_.out (by kernel_rfl)) (fun _ _ _ h => h) (Or.inl ⟨by rfl, ?_⟩) ?_ ?_
          rotate_left
          ·
           intro w'
           go_simp
           with_reducible rfl
          rotate_left
          ·
           simp only [Act.put, List.setIfInBounds_toArray, List.set_cons_zero, List.set_cons_succ, i64_w, i32_w, IntKind.wrap_u32]
           rfl
          refine take_ (i := 12) (N := some 43) (v := ?_) (a' := ?_) #[true, true, true, true, false, true, true, true, true, false, false, true, true, false, false, false, false] rfl rfl (take_ofW HT_.out HW_.out (by kernel_rfl)) (fun _ _ _ h => h) (Or.inl ⟨by rfl, ?_⟩) hHeld ?_ ?_
          rotate_left
          ·
           rintro w' ⟨s0, s1, s2, s3, s4, s5⟩
           go_simp
           with_reducible rfl
          rotate_left
          ·
           simp only [Act.put, List.setIfInBounds_toArray, List.set_cons_zero, List.set_cons_succ, i64_w, i32_w, IntKind.wrap_u32]
           rfl
          refine one_ (i := 4) (N := some 35) #[true, true, true, true, true, true, true, true, true, false, false, true, true, false, false, false, false] rfl rfl (one_of HT_.out (by kernel_rfl)) (by decide) (fun K hK => ?_)
          refine goes_ Try.func50 (by kernel_rfl) rfl #[.int .u64 (IntKind.u64.wrap (a0_3)), .int .i64 2] (by rfl) rfl rfl (by (try simp only [List.map_toArray, List.map_cons, List.map_nil]); first | done | rfl | (simp only [List.length_drop, List.length_take]; rfl)) ?_
          with_reducible refine (credenzaref06_Bytes.calls k (IntKind.u64.wrap (a0_3)) 2 t285 _ A20.out).mono ?_
          rintro e w43 ⟨rfl, hb⟩
          refine ⟨_, rfl, ?_⟩
          have n0_ := Aside0.mk (blk_below (g := gb280) (o := .cells #[.int .i64 a0_0, .int .u32 a0_1, .slice A0_2 l0_2.length c0_2, .int .i64 a0_3, .int .i64 a0_4, .int .i32 a0_5, .int .i64 a0_6, .int .u64 a0_7, .int .i64 a0_8] 40 (0, 0)) (by (with_reducible repeat (first | refine blk_drewN ?_ _ | refine blk_drew ?_ | refine blk_alloc ?_ _)); exact BK280.out) hb)
          have n1_ := Aside0.mk (blk_below (g := gb284) (o := .cells #[.slice A0_2 l0_2.length c0_2, .int .i64 a0_3, .int .i64 a0_4, .int .i32 a0_5, .int .i64 a0_6, .int .u64 a0_7] 38 (0, 0)) (by (with_reducible repeat (first | refine blk_drewN ?_ _ | refine blk_drew ?_ | refine blk_alloc ?_ _)); exact BK284.out) hb)
          have n2_ := Aside0.mk (below_step (by repeat (first | (with_reducible first | exact HB.out | apply below_alloc | apply pw_below_drewN | apply below_drew1 | refine below_set ?_ GE280.out | refine below_set ?_ GE284.out) | exact HB.out)) hb)
          clear BK280
          clear BK284
          clear HB
          have BK280 := n0_
          have BK284 := n1_
          have HB := n2_
          clear n0_ n1_ n2_
          (try clear hb)
          (try clear hb2)
          (try clear hk)
          (try clear hi)
          refine hK.out _ _ ⟨(blk_cell BK284.out 0).trans rfl, (blk_cell BK284.out 1).trans rfl, (blk_cell BK284.out 2).trans rfl, (blk_cell BK284.out 3).trans rfl, (blk_cell BK284.out 4).trans rfl, (blk_cell BK284.out 5).trans rfl⟩ (fun hHeld => ?_)
          clear hK K
          refine norm_ (a' := ?_) ?_ ?_
          rotate_left
          ·
           show Act.put _ (some 35) _ = _
           simp only [Act.put, List.setIfInBounds_toArray, List.set_cons_zero, List.set_cons_succ, i64_w, i32_w, IntKind.wrap_u32]
           rfl
          refine one_ (i := 9) (N := some 40) #[true, true, true, true, true, true, true, true, true, true, false, true, true, false, false, false, false] rfl rfl (one_of HT_.out (by kernel_rfl)) (by decide) (fun K hK => ?_)
          refine goes_ Try.func50 (by kernel_rfl) rfl #[.int .u64 (IntKind.u64.wrap (wrap64 (a0_4 + 1))), .int .i64 1] (by rfl) rfl rfl (by (try simp only [List.map_toArray, List.map_cons, List.map_nil]); first | done | rfl | (simp only [List.length_drop, List.length_take]; rfl)) ?_
          with_reducible refine (credenzaref06_Bytes.calls k (IntKind.u64.wrap (wrap64 (a0_4 + 1))) 1 t286 _ A21.out).mono ?_
          rintro e w44 ⟨rfl, hb⟩
          refine ⟨_, rfl, ?_⟩
          have n0_ := Aside0.mk (blk_below (g := gb280) (o := .cells #[.int .i64 a0_0, .int .u32 a0_1, .slice A0_2 l0_2.length c0_2, .int .i64 a0_3, .int .i64 a0_4, .int .i32 a0_5, .int .i64 a0_6, .int .u64 a0_7, .int .i64 a0_8] 40 (0, 0)) (by (with_reducible repeat (first | refine blk_drewN ?_ _ | refine blk_drew ?_ | refine blk_alloc ?_ _)); exact BK280.out) hb)
          have n1_ := Aside0.mk (blk_below (g := gb284) (o := .cells #[.slice A0_2 l0_2.length c0_2, .int .i64 a0_3, .int .i64 a0_4, .int .i32 a0_5, .int .i64 a0_6, .int .u64 a0_7] 38 (0, 0)) (by (with_reducible repeat (first | refine blk_drewN ?_ _ | refine blk_drew ?_ | refine blk_alloc ?_ _)); exact BK284.out) hb)
          have n2_ := Aside0.mk (below_step (by repeat (first | (with_reducible first | exact HB.out | apply below_alloc | apply pw_below_drewN | apply below_drew1 | refine below_set ?_ GE280.out | refine below_set ?_ GE284.out) | exact HB.out)) hb)
          clear BK280
          clear BK284
          clear HB
          have BK280 := n0_
          have BK284 := n1_
          have HB := n2_
          clear n0_ n1_ n2_
          (try clear hb)
          (try clear hb2)
          (try clear hk)
          (try clear hi)
          refine hK.out _ _ ⟨(blk_cell BK284.out 0).trans rfl, (blk_cell BK284.out 1).trans rfl, (blk_cell BK284.out 2).trans rfl, (blk_cell BK284.out 3).trans rfl, (blk_cell BK284.out 4).trans rfl, (blk_cell BK284.out 5).trans rfl⟩ (fun hHeld => ?_)
          clear hK K
          refine norm_ (a' := ?_) ?_ ?_
          rotate_left
          ·
           show Act.put _ (some 40) _ = _
           simp only [Act.put, List.setIfInBounds_toArray, List.set_cons_zero, List.set_cons_succ, i64_w, i32_w, IntKind.wrap_u32]
           rfl
          refine pure_ (i := 10) (N := some 41) (v := ?_) (a' := ?_) #[true, true, true, true, true, true, true, true, true, true, true, true, true, false, false, false, false] rfl rfl (any_of HT_.out (by kernel_rfl)) (fun _ _ _ h => h) (Or.inl ⟨by rfl, ?_⟩) ?_ ?_
          rotate_left
          ·
           intro w'
           go_simp
           with_reducible rfl
          rotate_left
          ·
           simp only [Act.put, List.setIfInBounds_toArray, List.set_cons_zero, List.set_cons_succ, i64_w, i32_w, IntKind.wrap_u32]
           rfl
          refine one_ (i := 13) (N := some 44) #[true, true, true, true, true, true, true, true, true, true, true, true, true, true, false, false, false] rfl rfl (one_of HT_.out (by kernel_rfl)) (by decide) (fun K hK => ?_)
          refine goes_ Try.func51 (by kernel_rfl) rfl #[.int .i32 a0_5] (by rfl) rfl rfl (by (try simp only [List.map_toArray, List.map_cons, List.map_nil]); first | done | rfl | (simp only [List.length_drop, List.length_take]; rfl)) ?_
          with_reducible refine (credenzaref06_Word.calls k a0_5 t287 _ A23.out).mono ?_
          rintro e w45 ⟨rfl, hb⟩
          refine ⟨_, rfl, ?_⟩
          have n0_ := Aside0.mk (blk_below (g := gb280) (o := .cells #[.int .i64 a0_0, .int .u32 a0_1, .slice A0_2 l0_2.length c0_2, .int .i64 a0_3, .int .i64 a0_4, .int .i32 a0_5, .int .i64 a0_6, .int .u64 a0_7, .int .i64 a0_8] 40 (0, 0)) (by (with_reducible repeat (first | refine blk_drewN ?_ _ | refine blk_drew ?_ | refine blk_alloc ?_ _)); exact BK280.out) hb)
          have n1_ := Aside0.mk (blk_below (g := gb284) (o := .cells #[.slice A0_2 l0_2.length c0_2, .int .i64 a0_3, .int .i64 a0_4, .int .i32 a0_5, .int .i64 a0_6, .int .u64 a0_7] 38 (0, 0)) (by (with_reducible repeat (first | refine blk_drewN ?_ _ | refine blk_drew ?_ | refine blk_alloc ?_ _)); exact BK284.out) hb)
          have n2_ := Aside0.mk (below_step (by repeat (first | (with_reducible first | exact HB.out | apply below_alloc | apply pw_below_drewN | apply below_drew1 | refine below_set ?_ GE280.out | refine below_set ?_ GE284.out) | exact HB.out)) hb)
          clear BK280
          clear BK284
          clear HB
          have BK280 := n0_
          have BK284 := n1_
          have HB := n2_
          clear n0_ n1_ n2_
          (try clear hb)
          (try clear hb2)
          (try clear hk)
          (try clear hi)
          refine hK.out _ _ ⟨(blk_cell BK284.out 0).trans rfl, (blk_cell BK284.out 1).trans rfl, (blk_cell BK284.out 2).trans rfl, (blk_cell BK284.out 3).trans rfl, (blk_cell BK284.out 4).trans rfl, (blk_cell BK284.out 5).trans rfl⟩ (fun hHeld => ?_)
          clear hK K
          refine norm_ (a' := ?_) ?_ ?_
          rotate_left
          ·
           show Act.put _ (some 44) _ = _
           simp only [Act.put, List.setIfInBounds_toArray, List.set_cons_zero, List.set_cons_succ, i64_w, i32_w, IntKind.wrap_u32]
           rfl
          refine pure_ (i := 14) (N := some 45) (v := ?_) (a' := ?_) #[true, true, true, true, true, true, true, true, true, true, true, true, true, true, true, false, false] rfl rfl (any_of HT_.out (by kernel_rfl)) (fun _ _ _ h => h) (Or.inl ⟨by rfl, ?_⟩) ?_ ?_
          rotate_left
          ·
           intro w'
           go_simp
           with_reducible rfl
          rotate_left
          ·
           simp only [Act.put, List.setIfInBounds_toArray, List.set_cons_zero, List.set_cons_succ, i64_w, i32_w, IntKind.wrap_u32]
           rfl
          refine pure_ (i := 15) (N := some 46) (v := ?_) (a' := ?_) #[true, true, true, true, true, true, true, true, true, true, true, true, true, true, true, true, false] rfl rfl (any_of HT_.out (by kernel_rfl)) (fun _ _ _ h => h) (Or.inl ⟨by rfl, ?_⟩) ?_ ?_
          rotate_left
          ·
           intro w'
           go_simp
           with_reducible rfl
          rotate_left
          ·
           simp only [Act.put, List.setIfInBounds_toArray, List.set_cons_zero, List.set_cons_succ, i64_w, i32_w, IntKind.wrap_u32]
           rfl
          refine pure_ (i := 16) (N := some 3) (v := ?_) (a' := ?_) #[true, true, true, true, true, true, true, true, true, true, true, true, true, true, true, true, true] rfl rfl (any_of HT_.out (by kernel_rfl)) (fun _ _ _ h => h) (Or.inl ⟨by rfl, ?_⟩) ?_ ?_
          rotate_left
          ·
           intro w'
           go_simp
           with_reducible rfl
          rotate_left
          ·
           simp only [Act.put, List.setIfInBounds_toArray, List.set_cons_zero, List.set_cons_succ, i64_w, i32_w, IntKind.wrap_u32]
           rfl
          refine done_ (done_of HT_.out (by kernel_rfl)) ?_
          try go_wp2
          have n0_ := Aside0.mk (blk_drew BK280.out)
          have n1_ := Aside0.mk (blk_drew BK284.out)
          have n2_ := Aside0.mk (below_drew1 HB.out)
          clear BK280
          clear BK284
          clear HB
          have BK280 := n0_
          have BK284 := n1_
          have HB := n2_
          clear n0_ n1_ n2_
          refine start_ (n := 17) (S := fun w' => w'.cell? ⟨gb284, 0, none⟩ = some (.slice A0_2 l0_2.length c0_2) ∧ w'.cell? ⟨gb284, 1, none⟩ = some (.int .i64 a0_3) ∧ w'.cell? ⟨gb284, 2, none⟩ = some (.int .i64 a0_4) ∧ w'.cell? ⟨gb284, 3, none⟩ = some (.int .i32 a0_5) ∧ w'.cell? ⟨gb284, 4, none⟩ = some (.int .i64 a0_6) ∧ w'.cell? ⟨gb284, 5, none⟩ = some (.int .u64 a0_7)) (ds := []) #[false, false, false, false, false, false, false, false, false, false, false, false, false, false, false, false, false] (by kernel_rfl) rfl rfl ⟨(blk_cell BK284.out 0).trans rfl, (blk_cell BK284.out 1).trans rfl, (blk_cell BK284.out 2).trans rfl, (blk_cell BK284.out 3).trans rfl, (blk_cell BK284.out 4).trans rfl, (blk_cell BK284.out 5).trans rfl⟩ (fun hHeld => ?_); refine with_tabW credenzaref22_Bytes.tab9 credenzaref22_Bytes.bits9 (fun HT_ HW_ => ?_)
          generalize w45.drew = w46 at BK280 BK284 HB hHeld ⊢
          refine pure_ (i := 0) (N := some 47) (v := ?_) (a' := ?_) #[true, false, false, false, false, false, false, false, false, false, false, false, false, false, false, false, false] rfl rfl (any_of HT_.out (by kernel_rfl)) (fun _ _ _ h => h) (Or.inl ⟨by rfl, ?_⟩) ?_ ?_
          rotate_left
          ·
           intro w'
           go_simp
           with_reducible rfl
          rotate_left
          ·
           simp only [Act.put, List.setIfInBounds_toArray, List.set_cons_zero, List.set_cons_succ, i64_w, i32_w, IntKind.wrap_u32]
           rfl
          refine pure_ (i := 1) (N := some 48) (v := ?_) (a' := ?_) #[true, true, false, false, false, false, false, false, false, false, false, false, false, false, false, false, false] rfl rfl (any_of HT_.out (by kernel_rfl)) (fun _ _ _ h => h) (Or.inl ⟨by rfl, ?_⟩) ?_ ?_
          rotate_left
          ·
           intro w'
           go_simp
           with_reducible rfl
          rotate_left
          ·
           simp only [Act.put, List.setIfInBounds_toArray, List.set_cons_zero, List.set_cons_succ, i64_w, i32_w, IntKind.wrap_u32]
           rfl
          refine pure_ (i := 5) (N := some 52) (v := ?_) (a' := ?_) #[true, true, false, false, false, true, false, false, false, false, false, false, false, false, false, false, false] rfl rfl (any_of HT_.out (by kernel_rfl)) (fun _ _ _ h => h) (Or.inl ⟨by rfl, ?_⟩) ?_ ?_
          rotate_left
          ·
           intro w'
           go_simp
           with_reducible rfl
          rotate_left
          ·
           simp only [Act.put, List.setIfInBounds_toArray, List.set_cons_zero, List.set_cons_succ, i64_w, i32_w, IntKind.wrap_u32]
           rfl
          refine pure_ (i := 9) (N := some 56) (v := ?_) (a' := ?_) #[true, true, false, false, false, true, false, false, false, true, false, false, false, false, false, false, false] rfl rfl (any_of HT_.out (by kernel_rfl)) (fun _ _ _ h => h) (Or.inl ⟨by rfl, ?_⟩) ?_ ?_
          rotate_left
          ·
           intro w'
           go_simp
           with_reducible rfl
          rotate_left
          ·
           simp only [Act.put, List.setIfInBounds_toArray, List.set_cons_zero, List.set_cons_succ, i64_w, i32_w, IntKind.wrap_u32]
           rfl
          refine take_ (i := 2) (N := some 49) (v := ?_) (a' := ?_) #[true, true, true, false, false, true, false, false, false, true, false, false, false, false, false, false, false] rfl rfl (take_ofW HT_.out HW_.out (by kernel_rfl)) (fun _ _ _ h => h) (Or.inl ⟨by rfl, ?_⟩) hHeld ?_ ?_
          rotate_left
          ·
           rintro w' ⟨s0, s1, s2, s3, s4, s5⟩
           go_simp
           with_reducible rfl
          rotate_left
          ·
           simp only [Act.put, List.setIfInBounds_toArray, List.set_cons_zero, List.set_cons_succ, i64_w, i32_w, IntKind.wrap_u32]
           rfl
          refine pure_ (i := 3) (N := some 50) (v := ?_) (a' := ?_) #[true, true, true, true, false, true, false, false, false, true, false, false, false, false, false, false, false] rfl rfl (any_of HT_.out (by kernel_rfl)) (fun _ _ _ h => h) (Or.inl ⟨by rfl, ?_⟩) ?_ ?_
          rotate_left
          ·
           intro w'
           go_simp
           with_reducible rfl
          rotate_left
          ·
           simp only [Act.put, List.setIfInBounds_toArray, List.set_cons_zero, List.set_cons_succ, i64_w, i32_w, IntKind.wrap_u32]
           rfl
          refine take_ (i := 6) (N := some 53) (v := ?_) (a' := ?_) #[true, true, true, true, false, true, true, false, false, true, false, false, false, false, false, false, false] rfl rfl (take_ofW HT_.out HW_.out (by kernel_rfl)) (fun _ _ _ h => h) (Or.inl ⟨by rfl, ?_⟩) hHeld ?_ ?_
          rotate_left
          ·
           rintro w' ⟨s0, s1, s2, s3, s4, s5⟩
           go_simp
           with_reducible rfl
          rotate_left
          ·
           simp only [Act.put, List.setIfInBounds_toArray, List.set_cons_zero, List.set_cons_succ, i64_w, i32_w, IntKind.wrap_u32]
           rfl
          refine take_ (i := 10) (N := some 57) (v := ?_) (a' := ?_) #[true, true, true, true, false, true, true, false, false, true, true, false, false, false, false, false, false] rfl rfl (take_ofW HT_.out HW_.out (by kernel_rfl)) (fun _ _ _ h => h) (Or.inl ⟨by rfl, ?_⟩) hHeld ?_ ?_
          rotate_left
          ·
           rintro w' ⟨s0, s1, s2, s3, s4, s5⟩
           go_simp
           with_reducible rfl
          rotate_left
          ·
           simp only [Act.put, List.setIfInBounds_toArray, List.set_cons_zero, List.set_cons_succ, i64_w, i32_w, IntKind.wrap_u32]
           rfl
          refine pure_ (i := 11) (N := some 58) (v := ?_) (a' := ?_) #[true, true, true, true, false, true, true, false, false, true, true, true, false, false, false, false, false] rfl rfl (any_of HT_.out (by kernel_rfl)) (fun _ _ _ h => h) (Or.inl ⟨by rfl, ?_⟩) ?_ ?_
          rotate_left
          ·
           intro w'
           go_simp
           with_reducible rfl
          rotate_left
          ·
           simp only [Act.put, List.setIfInBounds_toArray, List.set_cons_zero, List.set_cons_succ, i64_w, i32_w, IntKind.wrap_u32]
           rfl
          refine pure_ (i := 12) (N := some 59) (v := ?_) (a' := ?_) #[true, true, true, true, false, true, true, false, false, true, true, true, true, false, false, false, false] rfl rfl (any_of HT_.out (by kernel_rfl)) (fun _ _ _ h => h) (Or.inl ⟨by rfl, ?_⟩) ?_ ?_
          rotate_left
          ·
           intro w'
           go_simp
           with_reducible rfl
          rotate_left
          ·
           simp only [Act.put, List.setIfInBounds_toArray, List.set_cons_zero, List.set_cons_succ, i64_w, i32_w, IntKind.wrap_u32]
           rfl
          refine one_ (i := 4) (N := some 51) #[true, true, true, true, true, true, true, false, false, true, true, true, true, false, false, false, false] rfl rfl (one_of HT_.out (by kernel_rfl)) (by decide) (fun K hK => ?_)
          refine goes_ Try.func50 (by kernel_rfl) rfl #[.int .u64 (IntKind.u64.wrap (a0_6)), .int .i64 1] (by rfl) rfl rfl (by (try simp only [List.map_toArray, List.map_cons, List.map_nil]); first | done | rfl | (simp only [List.length_drop, List.length_take]; rfl)) ?_
          with_reducible refine (credenzaref06_Bytes.calls k (IntKind.u64.wrap (a0_6)) 1 t288 _ A26.out).mono ?_
          rintro e w47 ⟨rfl, hb⟩
          refine ⟨_, rfl, ?_⟩
          have n0_ := Aside0.mk (blk_below (g := gb280) (o := .cells #[.int .i64 a0_0, .int .u32 a0_1, .slice A0_2 l0_2.length c0_2, .int .i64 a0_3, .int .i64 a0_4, .int .i32 a0_5, .int .i64 a0_6, .int .u64 a0_7, .int .i64 a0_8] 40 (0, 0)) (by (with_reducible repeat (first | refine blk_drewN ?_ _ | refine blk_drew ?_ | refine blk_alloc ?_ _)); exact BK280.out) hb)
          have n1_ := Aside0.mk (blk_below (g := gb284) (o := .cells #[.slice A0_2 l0_2.length c0_2, .int .i64 a0_3, .int .i64 a0_4, .int .i32 a0_5, .int .i64 a0_6, .int .u64 a0_7] 38 (0, 0)) (by (with_reducible repeat (first | refine blk_drewN ?_ _ | refine blk_drew ?_ | refine blk_alloc ?_ _)); exact BK284.out) hb)
          have n2_ := Aside0.mk (below_step (by repeat (first | (with_reducible first | exact HB.out | apply below_alloc | apply pw_below_drewN | apply below_drew1 | refine below_set ?_ GE280.out | refine below_set ?_ GE284.out) | exact HB.out)) hb)
          clear BK280
          clear BK284
          clear HB
          have BK280 := n0_
          have BK284 := n1_
          have HB := n2_
          clear n0_ n1_ n2_
          (try clear hb)
          (try clear hb2)
          (try clear hk)
          (try clear hi)
          refine hK.out _ _ ⟨(blk_cell BK284.out 0).trans rfl, (blk_cell BK284.out 1).trans rfl, (blk_cell BK284.out 2).trans rfl, (blk_cell BK284.out 3).trans rfl, (blk_cell BK284.out 4).trans rfl, (blk_cell BK284.out 5).trans rfl⟩ (fun hHeld => ?_)
          clear hK K
          refine norm_ (a' := ?_) ?_ ?_
          rotate_left
          ·
           show Act.put _ (some 51) _ = _
           simp only [Act.put, List.setIfInBounds_toArray, List.set_cons_zero, List.set_cons_succ, i64_w, i32_w, IntKind.wrap_u32]
           rfl
          refine one_ (i := 7) (N := some 54) #[true, true, true, true, true, true, true, true, false, true, true, true, true, false, false, false, false] rfl rfl (one_of HT_.out (by kernel_rfl)) (by decide) (fun K hK => ?_)
          refine goes_ Try.func50 (by kernel_rfl) rfl #[.int .u64 a0_7, .int .i64 8] (by rfl) rfl rfl (by (try simp only [List.map_toArray, List.map_cons, List.map_nil]); first | done | rfl | (simp only [List.length_drop, List.length_take]; rfl)) ?_
          with_reducible refine (credenzaref06_Bytes.calls k a0_7 8 t289 _ A27.out).mono ?_
          rintro e w48 ⟨rfl, hb⟩
          refine ⟨_, rfl, ?_⟩
          have n0_ := Aside0.mk (blk_below (g := gb280) (o := .cells #[.int .i64 a0_0, .int .u32 a0_1, .slice A0_2 l0_2.length c0_2, .int .i64 a0_3, .int .i64 a0_4, .int .i32 a0_5, .int .i64 a0_6, .int .u64 a0_7, .int .i64 a0_8] 40 (0, 0)) (by (with_reducible repeat (first | refine blk_drewN ?_ _ | refine blk_drew ?_ | refine blk_alloc ?_ _)); exact BK280.out) hb)
          have n1_ := Aside0.mk (blk_below (g := gb284) (o := .cells #[.slice A0_2 l0_2.length c0_2, .int .i64 a0_3, .int .i64 a0_4, .int .i32 a0_5, .int .i64 a0_6, .int .u64 a0_7] 38 (0, 0)) (by (with_reducible repeat (first | refine blk_drewN ?_ _ | refine blk_drew ?_ | refine blk_alloc ?_ _)); exact BK284.out) hb)
          have n2_ := Aside0.mk (below_step (by repeat (first | (with_reducible first | exact HB.out | apply below_alloc | apply pw_below_drewN | apply below_drew1 | refine below_set ?_ GE280.out | refine below_set ?_ GE284.out) | exact HB.out)) hb)
          clear BK280
          clear BK284
          clear HB
          have BK280 := n0_
          have BK284 := n1_
          have HB := n2_
          clear n0_ n1_ n2_
          (try clear hb)
          (try clear hb2)
          (try clear hk)
          (try clear hi)
          refine hK.out _ _ ⟨(blk_cell BK284.out 0).trans rfl, (blk_cell BK284.out 1).trans rfl, (blk_cell BK284.out 2).trans rfl, (blk_cell BK284.out 3).trans rfl, (blk_cell BK284.out 4).trans rfl, (blk_cell BK284.out 5).trans rfl⟩ (fun hHeld => ?_)
          clear hK K
          refine norm_ (a' := ?_) ?_ ?_
          rotate_left
          ·
           show Act.put _ (some 54) _ = _
           simp only [Act.put, List.setIfInBounds_toArray, List.set_cons_zero, List.set_cons_succ, i64_w, i32_w, IntKind.wrap_u32]
           rfl
          refine pure_ (i := 8) (N := some 55) (v := ?_) (a' := ?_) #[true, true, true, true, true, true, true, true, true, true, true, true, true, false, false, false, false] rfl rfl (any_of HT_.out (by kernel_rfl)) (fun _ _ _ h => h) (Or.inl ⟨by rfl, ?_⟩) ?_ ?_
          rotate_left
          ·
           intro w'
           go_simp
           with_reducible rfl
          rotate_left
          ·
           simp only [Act.put, List.setIfInBounds_toArray, List.set_cons_zero, List.set_cons_succ, i64_w, i32_w, IntKind.wrap_u32]
           rfl
          refine one_ (i := 13) (N := some 60) #[true, true, true, true, true, true, true, true, true, true, true, true, true, true, false, false, false] rfl rfl (one_of HT_.out (by kernel_rfl)) (by decide) (fun K hK => ?_)
          refine goes_ Try.func50 (by kernel_rfl) rfl #[.int .u64 (IntKind.u64.wrap ((l0_2.length : Int))), .int .i64 2] (by rfl) rfl rfl (by (try simp only [List.map_toArray, List.map_cons, List.map_nil]); first | done | rfl | (simp only [List.length_drop, List.length_take]; rfl)) ?_
          with_reducible refine (credenzaref06_Bytes.calls k (IntKind.u64.wrap ((l0_2.length : Int))) 2 t290 _ A29.out).mono ?_
          rintro e w49 ⟨rfl, hb⟩
          refine ⟨_, rfl, ?_⟩
          have n0_ := Aside0.mk (blk_below (g := gb280) (o := .cells #[.int .i64 a0_0, .int .u32 a0_1, .slice A0_2 l0_2.length c0_2, .int .i64 a0_3, .int .i64 a0_4, .int .i32 a0_5, .int .i64 a0_6, .int .u64 a0_7, .int .i64 a0_8] 40 (0, 0)) (by (with_reducible repeat (first | refine blk_drewN ?_ _ | refine blk_drew ?_ | refine blk_alloc ?_ _)); exact BK280.out) hb)
          have n1_ := Aside0.mk (blk_below (g := gb284) (o := .cells #[.slice A0_2 l0_2.length c0_2, .int .i64 a0_3, .int .i64 a0_4, .int .i32 a0_5, .int .i64 a0_6, .int .u64 a0_7] 38 (0, 0)) (by (with_reducible repeat (first | refine blk_drewN ?_ _ | refine blk_drew ?_ | refine blk_alloc ?_ _)); exact BK284.out) hb)
          have n2_ := Aside0.mk (below_step (by repeat (first | (with_reducible first | exact HB.out | apply below_alloc | apply pw_below_drewN | apply below_drew1 | refine below_set ?_ GE280.out | refine below_set ?_ GE284.out) | exact HB.out)) hb)
          clear BK280
          clear BK284
          clear HB
          have BK280 := n0_
          have BK284 := n1_
          have HB := n2_
          clear n0_ n1_ n2_
          (try clear hb)
          (try clear hb2)
          (try clear hk)
          (try clear hi)
          refine hK.out _ _ ⟨(blk_cell BK284.out 0).trans rfl, (blk_cell BK284.out 1).trans rfl, (blk_cell BK284.out 2).trans rfl, (blk_cell BK284.out 3).trans rfl, (blk_cell BK284.out 4).trans rfl, (blk_cell BK284.out 5).trans rfl⟩ (fun hHeld => ?_)
          clear hK K
          refine norm_ (a' := ?_) ?_ ?_
          rotate_left
          ·
           show Act.put _ (some 60) _ = _
           simp only [Act.put, List.setIfInBounds_toArray, List.set_cons_zero, List.set_cons_succ, i64_w, i32_w, IntKind.wrap_u32]
           rfl
          refine pure_ (i := 14) (N := some 61) (v := ?_) (a' := ?_) #[true, true, true, true, true, true, true, true, true, true, true, true, true, true, true, false, false] rfl rfl (any_of HT_.out (by kernel_rfl)) (fun _ _ _ h => h) (Or.inl ⟨by rfl, ?_⟩) ?_ ?_
          rotate_left
          ·
           intro w'
           go_simp
           with_reducible rfl
          rotate_left
          ·
           simp only [Act.put, List.setIfInBounds_toArray, List.set_cons_zero, List.set_cons_succ, i64_w, i32_w, IntKind.wrap_u32]
           rfl
          refine pure_ (i := 15) (N := some 62) (v := ?_) (a' := ?_) #[true, true, true, true, true, true, true, true, true, true, true, true, true, true, true, true, false] rfl rfl (any_of HT_.out (by kernel_rfl)) (fun _ _ _ h => h) (Or.inl ⟨by rfl, ?_⟩) ?_ ?_
          rotate_left
          ·
           intro w'
           go_simp
           with_reducible rfl
          rotate_left
          ·
           simp only [Act.put, List.setIfInBounds_toArray, List.set_cons_zero, List.set_cons_succ, i64_w, i32_w, IntKind.wrap_u32]
           rfl
          refine pure_ (i := 16) (N := some 3) (v := ?_) (a' := ?_) #[true, true, true, true, true, true, true, true, true, true, true, true, true, true, true, true, true] rfl rfl (any_of HT_.out (by kernel_rfl)) (fun _ _ _ h => h) (Or.inl ⟨by rfl, ?_⟩) ?_ ?_
          rotate_left
          ·
           intro w'
           go_simp
           with_reducible rfl
          rotate_left
          ·
           simp only [Act.put, List.setIfInBounds_toArray, List.set_cons_zero, List.set_cons_succ, i64_w, i32_w, IntKind.wrap_u32]
           rfl
          refine done_ (done_of HT_.out (by kernel_rfl)) ?_
          try go_wp2
          go_loopg [3, 5] k (fun kq v3 v5 w' => ∃ (x3_1 : ByteArray) (x5_1 : Int), v3 = .string x3_1 ∧ v5 = .int .i64 x5_1 ∧ Aside0 (credenzaref22_Bytes.l0 kq x3_1 x5_1 l0_2 a0_3 a0_4 a0_5 a0_6 a0_7 = some r) ∧ Aside0 (kq ≤ k) ∧ Aside0 (w'.heap[gb280]? = some (.cells #[.int .i64 a0_0, .int .u32 a0_1, (.slice A0_2 l0_2.length c0_2), .int .i64 a0_3, .int .i64 a0_4, .int .i32 a0_5, .int .i64 a0_6, .int .u64 a0_7, .int .i64 a0_8] 40 (0, 0))) ∧ Aside0 (w'.heap[gb284]? = some (.cells #[(.slice A0_2 l0_2.length c0_2), .int .i64 a0_3, .int .i64 a0_4, .int .i32 a0_5, .int .i64 a0_6, .int .u64 a0_7] 38 (0, 0))) ∧ Aside0 (Below w.heap.size w w'))
          case atStart => exact ⟨(((t281 ++ t283) ++ ((t285 ++ t286) ++ t287)) ++ ((t288 ++ t289) ++ t290)), (0), (by first | rfl | (simp; done) | (simp [*]; done)), (by first | rfl | (simp; done) | (simp [*]; done)), H', ⟨Nat.le_refl _⟩, ⟨by (with_reducible repeat (first | refine blk_drewN ?_ _ | refine blk_drew ?_ | refine blk_alloc ?_ _)); exact BK280.out⟩, ⟨by (with_reducible repeat (first | refine blk_drewN ?_ _ | refine blk_drew ?_ | refine blk_alloc ?_ _)); exact BK284.out⟩, ⟨by repeat (first | (with_reducible first | exact HB.out | apply below_alloc | apply pw_below_drewN | apply below_drew1 | refine below_set ?_ GE280.out | refine below_set ?_ GE284.out) | exact HB.out)⟩⟩
          case round =>
           clear H'
           try clear c1
           try clear c2
           try clear p2
           try clear c3
           try clear c3b0
           try clear c5
           try clear c5b0
           try clear c5b1
           try clear c5b2
           try clear p6
           try clear c12
           try clear c12b0
           try clear c12b1
           try clear c12b2
           try clear c13
           try clear c13b0
           try clear c13b1
           try clear c18
           try clear c22
           try clear c22b0
           try clear c22b1
           try clear c22b2
           try clear c24
           try clear c24b0
           try clear c24b1
           try clear c24b2
           try clear c25
           try clear c25b0
           try clear c25b1
           try clear c25b2
           try clear c28
           try clear c28b0
           try clear c28b1
           try clear c28b2
           try clear c30
           try clear c30b0
           try clear c30b1
           try clear c30b2
           try clear c31
           try clear c31b0
           try clear c31b1
           try clear c31b2
           try clear c39
           try clear hcz15_0
           try clear hcz15_1
           try clear hcz15_2
           try clear hcz15_3
           try clear hcz15_4
           try clear hcz15_5
           try clear hcz15_6
           try clear hcz15_7
           try clear hcz15_8
           try clear hcz17_0
           try clear hcz17_1
           try clear hcz17_2
           try clear hcz17_3
           try clear hcz17_4
           try clear hcz17_5
           try clear hcz17_6
           try clear hcz17_7
           try clear hcz17_8
           try clear hcz19_0
           try clear hcz19_1
           try clear hcz19_2
           try clear hcz19_3
           try clear hcz19_4
           try clear hcz19_5
           try clear hcz19_6
           try clear hcz19_7
           try clear hcz19_8
           try clear hcz33_0
           try clear hcz33_1
           try clear hcz33_2
           try clear hcz33_3
           try clear hcz33_4
           try clear hcz33_5
           try clear hcz33_6
           try clear hcz33_7
           try clear hcz33_8
           try clear hcz35_0
           try clear hcz35_1
           try clear hcz35_2
           try clear hcz35_3
           try clear hcz35_4
           try clear hcz35_5
           try clear hcz35_6
           try clear hcz35_7
           try clear hcz35_8
           try clear hcz37_0
           try clear hcz37_1
           try clear hcz37_2
           try clear hcz37_3
           try clear hcz37_4
           try clear hcz37_5
           try clear hcz37_6
           try clear hcz37_7
           try clear hcz37_8
           try clear hcz40_0
           try clear hcz40_1
           try clear hcz40_2
           try clear hcz40_3
           try clear hcz40_4
           try clear hcz40_5
           try clear hcz7_0
           try clear hcz7_1
           try clear hcz7_2
           try clear hcz7_3
           try clear hcz7_4
           try clear hcz7_5
           try clear hcz7_6
           try clear hcz7_7
           try clear hcz7_8
           try clear hcz9_0
           try clear hcz9_1
           try clear hcz9_2
           try clear hcz9_3
           try clear hcz9_4
           try clear hcz9_5
           try clear hcz9_6
           try clear hcz9_7
           try clear hcz9_8
           try clear hfz15_0
           try clear hfz15_1
           try clear hfz15_2
           try clear hfz15_3
           try clear hfz15_4
           try clear hfz15_5
           try clear hfz15_6
           try clear hfz15_7
           try clear hfz15_8
           try clear hfz17_0
           try clear hfz17_1
           try clear hfz17_2
           try clear hfz17_3
           try clear hfz17_4
           try clear hfz17_5
           try clear hfz17_6
           try clear hfz17_7
           try clear hfz17_8
           try clear hfz19_0
           try clear hfz19_1
           try clear hfz19_2
           try clear hfz19_3
           try clear hfz19_4
           try clear hfz19_5
           try clear hfz19_6
           try clear hfz19_7
           try clear hfz19_8
           try clear hfz33_0
           try clear hfz33_1
           try clear hfz33_2
           try clear hfz33_3
           try clear hfz33_4
           try clear hfz33_5
           try clear hfz33_6
           try clear hfz33_7
           try clear hfz33_8
           try clear hfz35_0
           try clear hfz35_1
           try clear hfz35_2
           try clear hfz35_3
           try clear hfz35_4
           try clear hfz35_5
           try clear hfz35_6
           try clear hfz35_7
           try clear hfz35_8
           try clear hfz37_0
           try clear hfz37_1
           try clear hfz37_2
           try clear hfz37_3
           try clear hfz37_4
           try clear hfz37_5
           try clear hfz37_6
           try clear hfz37_7
           try clear hfz37_8
           try clear hfz40_0
           try clear hfz40_1
           try clear hfz40_2
           try clear hfz40_3
           try clear hfz40_4
           try clear hfz40_5
           try clear hfz7_0
           try clear hfz7_1
           try clear hfz7_2
           try clear hfz7_3
           try clear hfz7_4
           try clear hfz7_5
           try clear hfz7_6
           try clear hfz7_7
           try clear hfz7_8
           try clear hfz9_0
           try clear hfz9_1
           try clear hfz9_2
           try clear hfz9_3
           try clear hfz9_4
           try clear hfz9_5
           try clear hfz9_6
           try clear hfz9_7
           try clear hfz9_8
           obtain ⟨x3_1, x5_1, rfl, rfl, HA, HK1, BK280, BK284, HB⟩ := hrel
           cases gk with
           | zero => exact absurd HA.out (by simp [credenzaref22_Bytes.l0])
           | succ k1 =>
            have H := HA.out
            clear HA
            simp only [credenzaref22_Bytes.l0] at H
            by_cases c50 : x5_1 < (l0_2.length : Int)
            ·
             rw [if_pos c50] at H
             have c50b0 : decide (x5_1 < (l0_2.length : Int)) = true := decide_eq_true c50
             clear c50
             by_cases c51 : 0 ≤ x5_1
             ·
              rw [if_pos c51] at H
              have c51b0 : decide (0 ≤ x5_1) = true := decide_eq_true c51
              clear c51
              replace H := Option.bind_eq_some_iff.mp H
              obtain ⟨t292, A520, H⟩ := H
              replace H : (if x3_1.size + t292.size ≤ 9223372036854775807 then (credenzaref22_Bytes.l0 k1 (x3_1 ++ t292) (wrap64 (x5_1 + 1)) l0_2 a0_3 a0_4 a0_5 a0_6 a0_7) else (none)) = some r := H
              have A52 := Aside0.mk A520
              clear A520
              by_cases c53 : x3_1.size + t292.size ≤ 9223372036854775807
              ·
               rw [if_pos c53] at H
               have c53b0 := eq_true c53
               have c53b1 : decide (x3_1.size + t292.size ≤ 9223372036854775807) = true := decide_eq_true c53
               try have c53b2 : (9223372036854775807 < x3_1.size + t292.size) = False := eq_false (Nat.not_lt.2 c53)
               (try (have c53b3 := c53b2; simp only [ByteArray.size_append] at c53b3))
               have H' := Aside0.mk H
               clear H
               have hnb54 := NB284_280.out
               have hnc54 := NB280_284.out
               have hcz55_0 : wr.cell? ⟨gb284, 0, none⟩ = some (.slice A0_2 l0_2.length c0_2) := (blk_cell BK284.out 0).trans rfl
               have hcz55_1 : wr.cell? ⟨gb284, 1, none⟩ = some (.int .i64 a0_3) := (blk_cell BK284.out 1).trans rfl
               have hcz55_2 : wr.cell? ⟨gb284, 2, none⟩ = some (.int .i64 a0_4) := (blk_cell BK284.out 2).trans rfl
               have hcz55_3 : wr.cell? ⟨gb284, 3, none⟩ = some (.int .i32 a0_5) := (blk_cell BK284.out 3).trans rfl
               have hcz55_4 : wr.cell? ⟨gb284, 4, none⟩ = some (.int .i64 a0_6) := (blk_cell BK284.out 4).trans rfl
               have hcz55_5 : wr.cell? ⟨gb284, 5, none⟩ = some (.int .u64 a0_7) := (blk_cell BK284.out 5).trans rfl
               have hfz55_0 := blk_frozen BK284.out 0
               have hfz55_1 := blk_frozen BK284.out 1
               have hfz55_2 := blk_frozen BK284.out 2
               have hfz55_3 := blk_frozen BK284.out 3
               have hfz55_4 := blk_frozen BK284.out 4
               have hfz55_5 := blk_frozen BK284.out 5
               have p291 : 0 ≤ (x5_1 : Int) := of_decide_eq_true (by first | (with_reducible assumption) | assumption)
               have q291 : x5_1 < (l0_2.length : Int) := of_decide_eq_true (by first | (with_reducible assumption) | assumption)
               obtain ⟨ad291, e291, hx291_0⟩ := Kd.at_int HR0_2.out x5_1 p291 q291
               cases e291
               replace hx291_0 := (HB.out.cell (World.block_lt_of_cell? w _ hx291_0)).trans hx291_0
               replace p291 := eq_true p291
               replace q291 := eq_true q291
               go_wp2_with (first | ((with_reducible refine gate_callee (f := 50) rfl ?_); refine goesL_ (some 77) rfl rfl Try.func50 (by kernel_rfl) rfl #[.int .u64 (IntKind.u64.wrap (rd l0_2 x5_1)), .int .i64 1] rfl (by (try simp only [List.map_toArray, List.map_cons, List.map_nil]); first | done | rfl | (simp only [List.length_drop, List.length_take]; rfl)) ?_; (with_reducible refine (credenzaref06_Bytes.calls k1 (IntKind.u64.wrap (rd l0_2 x5_1)) 1 t292 _ A52.out).mono ?_); rintro e w56 ⟨rfl, hb⟩; refine ⟨_, rfl, ?_⟩; have n0_ := Aside0.mk (blk_below (g := gb280) (o := .cells #[.int .i64 a0_0, .int .u32 a0_1, .slice (some ad291) l0_2.length c0_2, .int .i64 a0_3, .int .i64 a0_4, .int .i32 a0_5, .int .i64 a0_6, .int .u64 a0_7, .int .i64 a0_8] 40 (0, 0)) (by (with_reducible repeat (first | refine blk_drewN ?_ _ | refine blk_drew ?_ | refine blk_alloc ?_ _)); exact BK280.out) hb); have n1_ := Aside0.mk (blk_below (g := gb284) (o := .cells #[.slice (some ad291) l0_2.length c0_2, .int .i64 a0_3, .int .i64 a0_4, .int .i32 a0_5, .int .i64 a0_6, .int .u64 a0_7] 38 (0, 0)) (by (with_reducible repeat (first | refine blk_drewN ?_ _ | refine blk_drew ?_ | refine blk_alloc ?_ _)); exact BK284.out) hb); have n2_ := Aside0.mk (below_step (by repeat (first | (with_reducible first | exact HB.out | apply below_alloc | apply pw_below_drewN | apply below_drew1 | refine below_set ?_ GE280.out | refine below_set ?_ GE284.out) | exact HB.out)) hb); clear BK280; clear BK284; clear HB; have BK280 := n0_; have BK284 := n1_; have HB := n2_; clear n0_ n1_ n2_; (try clear hb); (try clear hb2); (try clear hk); (try clear hi)))
               go_roundg k1
               case measure => have := HK1.out; omega
               case rel => exact ⟨(x3_1 ++ t292), (wrap64 (x5_1 + 1)), (by first | rfl | (simp; done) | (simp [*]; done)), (by first | rfl | (simp; done) | (simp [*]; done)), H', ⟨by have := HK1.out; omega⟩, ⟨by (with_reducible repeat (first | refine blk_drewN ?_ _ | refine blk_drew ?_ | refine blk_alloc ?_ _)); exact BK280.out⟩, ⟨by (with_reducible repeat (first | refine blk_drewN ?_ _ | refine blk_drew ?_ | refine blk_alloc ?_ _)); exact BK284.out⟩, ⟨by repeat (first | (with_reducible first | exact HB.out | apply below_alloc | apply pw_below_drewN | apply below_drew1 | refine below_set ?_ GE280.out | refine below_set ?_ GE284.out) | exact HB.out)⟩⟩
              ·
               rw [if_neg c53] at H
               exact absurd H (by simp)
             ·
              rw [if_neg c51] at H
              exact absurd H (by simp)
            ·
             rw [if_neg c50] at H
             have c50b0 : decide (x5_1 < (l0_2.length : Int)) = false := decide_eq_false c50
             clear c50
             obtain rfl := Option.some.inj H
             have hnb57 := NB284_280.out
             have hnc57 := NB280_284.out
             have hcz58_0 : wr.cell? ⟨gb284, 0, none⟩ = some (.slice A0_2 l0_2.length c0_2) := (blk_cell BK284.out 0).trans rfl
             have hcz58_1 : wr.cell? ⟨gb284, 1, none⟩ = some (.int .i64 a0_3) := (blk_cell BK284.out 1).trans rfl
             have hcz58_2 : wr.cell? ⟨gb284, 2, none⟩ = some (.int .i64 a0_4) := (blk_cell BK284.out 2).trans rfl
             have hcz58_3 : wr.cell? ⟨gb284, 3, none⟩ = some (.int .i32 a0_5) := (blk_cell BK284.out 3).trans rfl
             have hcz58_4 : wr.cell? ⟨gb284, 4, none⟩ = some (.int .i64 a0_6) := (blk_cell BK284.out 4).trans rfl
             have hcz58_5 : wr.cell? ⟨gb284, 5, none⟩ = some (.int .u64 a0_7) := (blk_cell BK284.out 5).trans rfl
             have hfz58_0 := blk_frozen BK284.out 0
             have hfz58_1 := blk_frozen BK284.out 1
             have hfz58_2 := blk_frozen BK284.out 2
             have hfz58_3 := blk_frozen BK284.out 3
             have hfz58_4 := blk_frozen BK284.out 4
             have hfz58_5 := blk_frozen BK284.out 5
             go_wp2
             go_ret
             exact ⟨by first | rfl | (simp [errW_none, errW_some] <;> rfl) | (simp [*, errW_none, errW_some] <;> rfl), by repeat (first | (with_reducible first | exact HB.out | apply below_alloc | apply pw_below_drewN | apply below_drew1 | refine below_set ?_ GE280.out | refine below_set ?_ GE284.out) | exact HB.out)⟩
         ·
          rw [if_neg c31] at H
          exact absurd H (by simp)
        ·
         rw [if_neg c30] at H
         exact absurd H (by simp)
       ·
        rw [if_neg c28] at H
        exact absurd H (by simp)
      ·
       rw [if_neg c25] at H
       exact absurd H (by simp)
     ·
      rw [if_neg c24] at H
      exact absurd H (by simp)
    ·
     rw [if_neg c22] at H
     exact absurd H (by simp)
  ·
   rw [if_neg c12] at H
   exact absurd H (by simp)

end Go.Proofs.Ytehepnmagcjkaaa.PAskBytes
