-- Written by a program of this session (wip/tools/mkprint.py over the kit's print).
import Derived.Test.YtehepnmagcjkaaaPBlobParsesx0
import Derived.Test.YtehepnmagcjkaaaPBlobParsesx12
namespace Go.Proofs.Ytehepnmagcjkaaa.PBlobParses
open Go.RowKit Go.Proofs.YtehepnmagcjkaaaW.PrintWords Go.Proofs.YtehepnmagcjkaaaW.PrintLast Go.Proofs.YtehepnmagcjkaaaW.PrintMore
attribute [local go_sem] max2_int min2_int max_two min_two max_three min_three max_four min_four   -- for this text's walks alone
set_option linter.unusedVariables false
set_option linter.unusedSimpArgs false
theorem bx3 {w : World} {g : Nat} {t : TypeId} {a0 a1 a2 : Value} (h : w.heap[g]? = some (.cells #[a0, a1, a2] t (0, 0))) : w.cell? ⟨g, 0, none⟩ = some a0 ∧ w.cell? ⟨g, 1, none⟩ = some a1 ∧ w.cell? ⟨g, 2, none⟩ = some a2 ∧ (∀ i, w.frozen? ⟨g, i, none⟩ = false) := ⟨(blk_cell h 0).trans rfl, (blk_cell h 1).trans rfl, (blk_cell h 2).trans rfl, blk_frozen h⟩
theorem bnd {α β : Type} {o : Option α} {f : α → Option β} {b : β} (h : o.bind f = some b) : ∃ a, Aside0 (o = some a) ∧ f a = some b := by
 obtain ⟨a, h1, h2⟩ := Option.bind_eq_some_iff.mp h
 exact ⟨a, ⟨h1⟩, h2⟩
theorem rst {α : Type} {d : Kd α} {e base : Nat} {w w1 : World} {ok : Nat → Prop} {v : Value} {xs : List α} (h : Aside0 (d.R e w base ok v xs)) (hb : Below w.heap.size w w1) : Aside0 (d.R e w1 base ok v xs) := ⟨Kd.R_below h.out hb⟩
section
variable {P : Program} {ops : Array Oper} {Q : Exit → Act → World → Prop} {md : Region.Mode} {S : World → Prop} {ds : List Nat} {T : Bool × List (List Nat × List Nat)} {BM : List Nat}
theorem pT (n i d m : Nat) {oi : Oper} {v : Value} {fuel : Nat} {l : Array Bool} {a a' : Act} {w : World} (hT : Aside0 (rtab md ops = T)) (hc : anyT T l.toList (bA n m).toList i = true := by kernel_rfl) (hi : ops[i]? = some oi := by rfl) (hN : oi.dst = some d := by rfl)
  (hQ : ∀ c a w, Q (.panic c) (a.put oi.dst v) w → Q (.panic c) a w := by exact fun _ _ _ h => h) (hy : Yields P ops oi v a := by first | exact Or.inl ⟨by rfl, by intro w'; go_simp; with_reducible rfl⟩ | exact Or.inr ⟨by rfl, rfl⟩)
  (ha : a.put (some d) v = a' := by simp only [Act.put, List.setIfInBounds_toArray, List.set_cons_zero, List.set_cons_succ, i64_w, i32_w, IntKind.wrap_u32]; rfl)
  (h : wpAnyLast P md ops Q S ds fuel (bA n m) a' w) : wpAnyLast P md ops Q S ds (fuel + 1) l a w := pure_ (bA n m) hi hN (any_of hT.out hc) hQ hy ha h
theorem tT (n i d m : Nat) {oi : Oper} {v : Value} {fuel : Nat} {l : Array Bool} {a a' : Act} {w : World} (hT : Aside0 (rtab md ops = T)) (hB : Aside0 (waitsOk T.2 BM = true)) (hS : S w) (hc : takeW T BM ds l.toList (bA n m).toList i = true := by kernel_rfl) (hi : ops[i]? = some oi := by rfl) (hN : oi.dst = some d := by rfl)
  (hQ : ∀ c a w, Q (.panic c) (a.put oi.dst v) w → Q (.panic c) a w := by exact fun _ _ _ h => h) (hy : YieldsIf P ops S oi v a := by exact Or.inl ⟨by rfl, by intro w' s; (try dsimp only at s); go_simp; with_reducible rfl⟩)
  (ha : a.put (some d) v = a' := by simp only [Act.put, List.setIfInBounds_toArray, List.set_cons_zero, List.set_cons_succ, i64_w, i32_w, IntKind.wrap_u32]; rfl)
  (h : wpAnyLast P md ops Q S ds fuel (bA n m) a' w) : wpAnyLast P md ops Q S ds (fuel + 1) l a w := take_ (bA n m) hi hN (take_ofW hT.out hB.out hc) hQ hy hS ha h
theorem nT (d : Nat) {fuel : Nat} {l : Array Bool} {a a' : Act} {v : Value} {w : World} (ha : Act.put a (some d) v = a' := by simp only [Act.put, List.setIfInBounds_toArray, List.set_cons_zero, List.set_cons_succ, i64_w, i32_w, IntKind.wrap_u32]; rfl) (h : wpAnyLast P md ops Q S ds fuel l a' w) : wpAnyLast P md ops Q S ds fuel l (Act.put a (some d) v) w := ha ▸ h
theorem gA {oi : Oper} {N : Option Tmp} {a : Act} {w : World} {K : Act → World → Prop} {f : FuncId} {fn : Func} (hf : P.funcs[f]? = some fn) {xs : Array Operand} {ts : Array TypeId} (args : Array Value) (hname : (fn.name == "runtime.NumGoroutine") = false := by kernel_rfl) (hb : fn.body.isSome = true := by rfl)
  (hw : Region.wanted oi (yielded ops a.tmps) = true := by rfl) (hN : oi.dst = N := by rfl) (hop : oi.op = .call { callee := .value (.func f), args := xs, argTypes := ts } := by rfl) (hargs : xs.map a.eval = args := by first | rfl | (simp only [List.map_toArray, List.map_cons, List.map_nil]; first | done | rfl))
  (h : Calls P f args w fun e w' => ∃ v, e = .returned v ∧ K (a.put N v) w') : if Region.wanted oi (yielded ops a.tmps) = true then Oper.wp P oi a w K Q else K (a.put N undef) w := goes_ hf hname hb args hw hN hop hargs h
end
section
variable {P : Program} {ops : Array Oper} {rest : List Oper} {o : Oper} {a : Act} {Q : Exit → Act → World → Prop}
theorem gL {oi : Oper} {w : World} (N : Nat) {f : FuncId} {fn : Func} (hf : P.funcs[f]? = some fn) {xs : Array Operand} {ts : Array TypeId} (args : Array Value) (hd : oi.dst = some N := by rfl) (hg : oi.guard = none := by rfl) (hop : oi.op = .call { callee := .value (.func f), args := xs, argTypes := ts } := by rfl) (hname : (fn.name == "runtime.NumGoroutine") = false := by kernel_rfl) (hb : fn.body.isSome = true := by rfl)
  (hargs : xs.map a.eval = args := by (try simp only [List.map_toArray, List.map_cons, List.map_nil]); first | done | rfl | (simp only [List.length_drop, List.length_take]; rfl))
  (h : Calls P f args w fun e w' => ∃ v, e = .returned v ∧ wpList P ops Q rest (a.put (some N) v) w') : wpList P ops Q (oi :: rest) a w := goesL_ (some N) hd hg hf hname hb args hop hargs h
end
theorem bZ {p : Prop} (h : p := by repeat (first | (with_reducible first | exact Aside0.out (by assumption) | apply below_alloc | apply pw_below_drewN | apply below_drew1 | refine below_set ?_ (Aside0.out (by assumption))))) : p := h
theorem oD {p : Prop} [Decidable p] (h : decide p = true := by first | (with_reducible assumption) | assumption) : p := of_decide_eq_true h
theorem cU {w W : World} {x : Addr} {v : Value} (HB : Aside0 (Below w.heap.size w W)) (h : w.cell? x = some v) : W.cell? x = some v := (HB.out.cell (World.block_lt_of_cell? w _ h)).trans h
theorem bK {p q : Prop} (h : q) (k : q → p := by intro z; (with_reducible repeat (first | refine blk_drewN ?_ _ | refine blk_drew ?_ | refine blk_alloc ?_ _)); exact z) : p := k h
theorem kR {p q : Prop} (h : q) (k : q → p := by intro z; (with_reducible repeat (first | apply Kd.R_alloc | apply Kd.R_drewN | apply Kd.R_drew)); exact z) : p := k h
theorem cL {w : World} {g : Nat} {t : TypeId} {cs : Array Value} {v : Value} (h : Aside0 (w.heap[g]? = some (.cells cs t (0, 0)))) (i : Nat) (hv : cs[i]? = some v := by rfl) : w.cell? ⟨g, i, none⟩ = some v := (blk_cell h.out i).trans hv

/-! ### credenzaref18_Right: function 31 -/
mutual
def credenzaref18_Right.j0 : Nat → List (S110) → Bool → Int → Int → Int → Int → Int → Int → Int → List Int → List (S111) → Option (Int)
 | 0, _, _, _, _, _, _, _, _, _, _, _ => none
 | k + 1, x3, x39, x187000, x187001, x187002, x187003, x187004, x187005, x187006, x187007, x187008 => if x39 = true then (some 25) else (credenzaref18_Right.l0 k x3 0 x187000 x187001 x187002 x187003 x187004 x187005 x187006 x187007 x187008)
def credenzaref18_Right.l0 : Nat → List (S110) → Int → Int → Int → Int → Int → Int → Int → Int → List Int → List (S111) → Option (Int)
 | 0, _, _, _, _, _, _, _, _, _, _, _ => none
 | k + 1, x3, x4, x187000, x187001, x187002, x187003, x187004, x187005, x187006, x187007, x187008 => if x4 < (x3.length : Int) then (if 0 ≤ x4 then (if x4 < (x187008.length : Int) then ((credenzaref18_count.f ((rd_T110 x3 x4).f0) ((rd_T110 x3 x4).f1)).bind fun t194 => (if (((rd_T111 x187008 x4).f2).length : Int) = t194 then (if ((rd_T110 x3 x4).f0) = 0 then (credenzaref18_Right.l0 k x3 (wrap64 (x4 + 1)) x187000 x187001 x187002 x187003 x187004 x187005 x187006 x187007 x187008) else (if ((rd_T111 x187008 x4).f0) = ((rd_T110 x3 x4).f0) then (if ((rd_T111 x187008 x4).f1) = ((rd_T110 x3 x4).f1) then (credenzaref18_Right.l0 k x3 (wrap64 (x4 + 1)) x187000 x187001 x187002 x187003 x187004 x187005 x187006 x187007 x187008) else (some 25)) else (some 25))) else (some 25))) else (none)) else (none)) else (credenzaref18_Right.l1 k 0 x187000 x187001 x187002 x187003 x187004 x187005 x187006 x187007 x187008)
def credenzaref18_Right.l1 : Nat → Int → Int → Int → Int → Int → Int → Int → Int → List Int → List (S111) → Option (Int)
 | 0, _, _, _, _, _, _, _, _, _, _ => none
 | k + 1, x6, x187000, x187001, x187002, x187003, x187004, x187005, x187006, x187007, x187008 => if x6 < (x187007.length : Int) then (if 0 ≤ x6 then (if (rd x187007 x6) < (-65536) then (some 11) else (if (rd x187007 x6) > 65536 then (some 11) else (credenzaref18_Right.l1 k (wrap64 (x6 + 1)) x187000 x187001 x187002 x187003 x187004 x187005 x187006 x187007 x187008))) else (none)) else (credenzaref18_Right.l2 k 0 x187000 x187001 x187002 x187003 x187004 x187005 x187006 x187007 x187008)
def credenzaref18_Right.l2 : Nat → Int → Int → Int → Int → Int → Int → Int → Int → List Int → List (S111) → Option (Int)
 | 0, _, _, _, _, _, _, _, _, _, _ => none
 | k + 1, x7, x187000, x187001, x187002, x187003, x187004, x187005, x187006, x187007, x187008 => if x7 < (x187008.length : Int) then (credenzaref18_Right.l3 k x7 0 x187000 x187001 x187002 x187003 x187004 x187005 x187006 x187007 x187008) else (some 0)
def credenzaref18_Right.l3 : Nat → Int → Int → Int → Int → Int → Int → Int → Int → Int → List Int → List (S111) → Option (Int)
 | 0, _, _, _, _, _, _, _, _, _, _, _ => none
 | k + 1, x7, x8, x187000, x187001, x187002, x187003, x187004, x187005, x187006, x187007, x187008 => if 0 ≤ x7 then (if x7 < (x187008.length : Int) then (if x8 < (((rd_T111 x187008 x7).f2).length : Int) then (if 0 ≤ x8 then (if (rd ((rd_T111 x187008 x7).f2) x8) < (-1048576) then (some 11) else (if (rd ((rd_T111 x187008 x7).f2) x8) > 1048576 then (some 11) else (credenzaref18_Right.l3 k x7 (wrap64 (x8 + 1)) x187000 x187001 x187002 x187003 x187004 x187005 x187006 x187007 x187008))) else (none)) else (credenzaref18_Right.l2 k (wrap64 (x7 + 1)) x187000 x187001 x187002 x187003 x187004 x187005 x187006 x187007 x187008)) else (none)) else (none)
end
def credenzaref18_Right.f (k : Nat) (a0_0 : Int) (a0_1 : Int) (a0_2 : Int) (a0_3 : Int) (a0_4 : Int) (a0_5 : Int) (a0_6 : Int) (l0_7 : List Int) (l0_8 : List (S111)) : Option (Int) := (credenzaref18_RightConfig.f a0_0 a0_1 a0_2 a0_3 a0_4 a0_5).bind fun t187 => (if t187 = true then ((credenzaref18_Sizes.f k a0_0 a0_1 a0_2 a0_3 a0_4 a0_5).bind fun t188 => (if a0_6 = a0_0 then (if (l0_7.length : Int) = a0_3 then (credenzaref18_Right.j0 k t188 ((l0_8.length : Int) != (t188.length : Int)) a0_0 a0_1 a0_2 a0_3 a0_4 a0_5 a0_6 l0_7 l0_8) else (credenzaref18_Right.j0 k t188 true a0_0 a0_1 a0_2 a0_3 a0_4 a0_5 a0_6 l0_7 l0_8)) else (credenzaref18_Right.j0 k t188 true a0_0 a0_1 a0_2 a0_3 a0_4 a0_5 a0_6 l0_7 l0_8))) else (some 11))
theorem credenzaref18_Right.mono_l : ∀ k, (∀ y0 y1 y2 y3 y4 y5 y6 y7 y8 y9 y10, LeO (credenzaref18_Right.j0 k y0 y1 y2 y3 y4 y5 y6 y7 y8 y9 y10) (credenzaref18_Right.j0 (k + 1) y0 y1 y2 y3 y4 y5 y6 y7 y8 y9 y10)) ∧ (∀ y0 y1 y2 y3 y4 y5 y6 y7 y8 y9 y10, LeO (credenzaref18_Right.l0 k y0 y1 y2 y3 y4 y5 y6 y7 y8 y9 y10) (credenzaref18_Right.l0 (k + 1) y0 y1 y2 y3 y4 y5 y6 y7 y8 y9 y10)) ∧ (∀ y0 y1 y2 y3 y4 y5 y6 y7 y8 y9, LeO (credenzaref18_Right.l1 k y0 y1 y2 y3 y4 y5 y6 y7 y8 y9) (credenzaref18_Right.l1 (k + 1) y0 y1 y2 y3 y4 y5 y6 y7 y8 y9)) ∧ (∀ y0 y1 y2 y3 y4 y5 y6 y7 y8 y9, LeO (credenzaref18_Right.l2 k y0 y1 y2 y3 y4 y5 y6 y7 y8 y9) (credenzaref18_Right.l2 (k + 1) y0 y1 y2 y3 y4 y5 y6 y7 y8 y9)) ∧ (∀ y0 y1 y2 y3 y4 y5 y6 y7 y8 y9 y10, LeO (credenzaref18_Right.l3 k y0 y1 y2 y3 y4 y5 y6 y7 y8 y9 y10) (credenzaref18_Right.l3 (k + 1) y0 y1 y2 y3 y4 y5 y6 y7 y8 y9 y10))
 | 0 => ⟨fun _ _ _ _ _ _ _ _ _ _ _ r h => by simp [credenzaref18_Right.j0] at h, fun _ _ _ _ _ _ _ _ _ _ _ r h => by simp [credenzaref18_Right.l0] at h, fun _ _ _ _ _ _ _ _ _ _ r h => by simp [credenzaref18_Right.l1] at h, fun _ _ _ _ _ _ _ _ _ _ r h => by simp [credenzaref18_Right.l2] at h, fun _ _ _ _ _ _ _ _ _ _ _ r h => by simp [credenzaref18_Right.l3] at h⟩
 | k + 1 => by
  obtain ⟨ih0, ih1, ih2, ih3, ih4⟩ := credenzaref18_Right.mono_l k
  refine ⟨?_, ?_, ?_, ?_, ?_⟩
  all_goals intros
  all_goals first | unfold credenzaref18_Right.j0 | unfold credenzaref18_Right.l0 | unfold credenzaref18_Right.l1 | unfold credenzaref18_Right.l2 | unfold credenzaref18_Right.l3
  all_goals repeat' with_reducible first | exact ih0 _ _ _ _ _ _ _ _ _ _ _ | exact ih1 _ _ _ _ _ _ _ _ _ _ _ | exact ih2 _ _ _ _ _ _ _ _ _ _ | exact ih3 _ _ _ _ _ _ _ _ _ _ | exact ih4 _ _ _ _ _ _ _ _ _ _ _ | exact credenzaref18_Sizes.mono _ _ _ _ _ _ _ | exact LeO.refl _ | exact LeO.none _ | refine LeO.ite ?_ ?_ | refine LeO.bind ?_ (fun _ => ?_)
theorem credenzaref18_Right.mono : ∀ a0 a1 a2 a3 a4 a5 a6 a7 a8 k, LeO (credenzaref18_Right.f k a0 a1 a2 a3 a4 a5 a6 a7 a8) (credenzaref18_Right.f (k + 1) a0 a1 a2 a3 a4 a5 a6 a7 a8) := by
 intro a0 a1 a2 a3 a4 a5 a6 a7 a8 k
 obtain ⟨ih0, ih1, ih2, ih3, ih4⟩ := credenzaref18_Right.mono_l k
 unfold credenzaref18_Right.f
 repeat' with_reducible first | exact ih0 _ _ _ _ _ _ _ _ _ _ _ | exact ih1 _ _ _ _ _ _ _ _ _ _ _ | exact ih2 _ _ _ _ _ _ _ _ _ _ | exact ih3 _ _ _ _ _ _ _ _ _ _ | exact ih4 _ _ _ _ _ _ _ _ _ _ _ | exact credenzaref18_Sizes.mono _ _ _ _ _ _ _ | exact LeO.refl _ | exact LeO.none _ | refine LeO.ite ?_ ?_ | refine LeO.bind ?_ (fun _ => ?_)
def credenzaref18_Right.T10 : Bool × List (List Nat × List Nat) := (true, [([], []), ([0], [0]), ([1], [1]), ([], []), ([], []), ([3, 4], [3, 4]), ([5], [5]), ([6], [6]), ([2, 7], [2, 7]), ([8, 7], [8]), ([9], [9]), ([9], [9]), ([10, 11, 9], [9, 10, 11]), ([12, 9], [9, 12]), ([13, 9], [9, 13]), ([14, 9], [9, 14]), ([15, 9, 9], [9, 15]), ([16], [16]), ([17, 16], [16, 17]), ([16], [16]), ([16], [16]), ([19, 20, 16], [16, 19, 20]), ([21, 16], [16, 21]), ([22, 16], [16, 22]), ([18, 23, 16], [16, 18, 23]), ([24, 16, 16], [16, 24]), ([25], [25]), ([26, 25], [25, 26]), ([25], [25]), ([25], [25]), ([28, 29, 25], [25, 28, 29]), ([30, 25], [25, 30]), ([31, 25], [25, 31]), ([27, 32, 25], [25, 27, 32]), ([25, 33, 16], [16, 25, 33]), ([16, 34, 9], [9, 16, 34]), ([9, 35], [9, 35])])
def credenzaref18_Right.B10 : List Nat := [0, 1, 3, 0, 0, 24, 56, 120, 255, 511, 1023, 1023, 4095, 8191, 16383, 32767, 65535, 131071, 262143, 131071, 131071, 1703935, 3801087, 7995391, 16777215, 33554431, 67108863, 134217727, 67108863, 67108863, 872415231, 1946157055, 4093640703, 8589934591, 17179869183, 34359738367, 68719476735]
theorem credenzaref18_Right.tab10 : rtab .any (opsOf Try.f31 10) = credenzaref18_Right.T10 := by kernel_rfl
theorem credenzaref18_Right.bits10 : waitsOk credenzaref18_Right.T10.2 credenzaref18_Right.B10 = true := by kernel_rfl
set_option maxHeartbeats 8000000 in
set_option maxRecDepth 100000 in
theorem credenzaref18_Right.calls (k : Nat) (a0_0 : Int) (a0_1 : Int) (a0_2 : Int) (a0_3 : Int) (a0_4 : Int) (a0_5 : Int) (a0_6 : Int) (A0_7 : Option Addr) (c0_7 : Nat) (l0_7 : List Int) (A0_8 : Option Addr) (c0_8 : Nat) (l0_8 : List (S111)) (r : Int) (w : World) (hr0_7 : Kd.C (Kd.int .i32) w A0_7 l0_7.length l0_7) (hc0_7 : l0_7.length ≤ c0_7) (hr0_8 : Kd.C k111 w A0_8 l0_8.length l0_8) (hc0_8 : l0_8.length ≤ c0_8) (h : credenzaref18_Right.f k a0_0 a0_1 a0_2 a0_3 a0_4 a0_5 a0_6 l0_7 l0_8 = some r) :
  Calls Try.prog 31 #[.agg #[.int .i64 a0_0, .int .i64 a0_1, .int .i64 a0_2, .int .i64 a0_3, .int .i64 a0_4, .int .i64 a0_5, .int .i64 a0_6, .slice A0_7 l0_7.length c0_7, .slice A0_8 l0_8.length c0_8]] w fun e w' => e = .returned (.int .i64 r) ∧ Below w.heap.size w w' := by
 have hu73 := Try.underlying73
 have hu56 := Try.underlying56
 have hu111 := Try.underlying111
 have hu110 := Try.underlying110
 have HR0_7 := aM hr0_7
 have HC0_7 := aM hc0_7
 clear hr0_7 hc0_7
 have HR0_8 := aM hr0_8
 have HC0_8 := aM hc0_8
 clear hr0_8 hc0_8
 have HB := aM (Below.refl w.heap.size w)
 have H := h
 clear h
 unfold credenzaref18_Right.f at H
 obtain ⟨t187, A2, H⟩ := bnd H
 by_cases c3 : t187 = true
 ·
  subst c3
  rw [if_pos rfl] at H
  obtain ⟨t188, A4, H⟩ := bnd H
  have HC5 := aM H
  clear H
  go_enter Try.func31, Try.ntmps31
  go_upto_region 4 with (first | ((with_reducible refine gate_dst (N := 1) rfl ?_); (try (refine gate_guard (by rfl) ?_; dsimp only)); refine bxE 1 #[.int .i64 a0_0, .int .i64 a0_1, .int .i64 a0_2, .int .i64 a0_3, .int .i64 a0_4, .int .i64 a0_5, .int .i64 a0_6, .slice A0_7 l0_7.length c0_7, .slice A0_8 l0_8.length c0_8] 73 (h := ?_); intro gb186 hg w6 hbox hb; have n0_ := bst HB hb; have n1_ := aM (hbox); have n2_ := gE hg HB; have n3_ := gE hg HB; clear HB; have HB := n0_; have BK186 := n1_; have GW186 := n2_; have GE186 := n3_; clear n0_ n1_ n2_ n3_; clear hb hbox hg; have hz7 := bx9 BK186.out) | ((with_reducible refine gate_callee (f := 22) rfl ?_); refine gL 12 Try.func22 #[.agg #[.int .i64 a0_0, .int .i64 a0_1, .int .i64 a0_2, .int .i64 a0_3, .int .i64 a0_4, .int .i64 a0_5]] (h := ?_); (with_reducible refine (credenzaref18_RightConfig.calls a0_0 a0_1 a0_2 a0_3 a0_4 a0_5 true _ A2.out).mono ?_); rintro e w8 ⟨rfl, hb⟩; refine ⟨_, rfl, ?_⟩; have n0_ := kst BK186 hb; have n1_ := bst HB hb; clear BK186; clear HB; have BK186 := n0_; have HB := n1_; clear n0_ n1_; (try clear hb); (try clear hb2); (try clear hk); (try clear hi); have hz9 := bx9 BK186.out) | ((with_reducible refine gate_callee (f := 59) rfl ?_); refine gL 16 Try.func59 #[.agg #[.int .i64 a0_0, .int .i64 a0_1, .int .i64 a0_2, .int .i64 a0_3, .int .i64 a0_4, .int .i64 a0_5]] (h := ?_); (with_reducible refine (credenzaref18_Sizes.calls k a0_0 a0_1 a0_2 a0_3 a0_4 a0_5 t188 _ A4.out).mono ?_); rintro e w10 ⟨v189, rfl, ho0, hb⟩; refine ⟨_, rfl, ?_⟩; have n0_ := aM (Kd.R_lower ho0 (bsz HB)); have n1_ := kst BK186 hb; have n2_ := bst HB hb; clear BK186; clear HB; have HO190 := n0_; have BK186 := n1_; have HB := n2_; clear n0_ n1_ n2_; (try clear hb); (try clear hb2); (try clear hk); (try clear hi); (try clear ho0)))
  (try simp only [Act.put, List.setIfInBounds_toArray, List.set_cons_zero, List.set_cons_succ])
  go_cut [39] (fun v39 wc => ∃ (kq : Nat) (x39_4 : Bool), v39 = .bool x39_4 ∧ Aside0 (credenzaref18_Right.j0 kq t188 x39_4 a0_0 a0_1 a0_2 a0_3 a0_4 a0_5 a0_6 l0_7 l0_8 = some r) ∧ Aside0 (kq ≤ k) ∧ Aside0 (Kd.R k110 110 wc w.heap.size (fun _ => True) v189 t188) ∧ Aside0 (wc.heap[gb186]? = some (.cells #[.int .i64 a0_0, .int .i64 a0_1, .int .i64 a0_2, .int .i64 a0_3, .int .i64 a0_4, .int .i64 a0_5, .int .i64 a0_6, (.slice A0_7 l0_7.length c0_7), (.slice A0_8 l0_8.length c0_8)] 73 (0, 0))) ∧ Aside0 (Below w.heap.size w wc))
  case first =>
   have H := HC5.out
   clear HC5
   by_cases c11 : a0_6 = a0_0
   ·
    rw [if_pos c11] at H
    have c11b0 : (a0_6 == a0_0) = true := beq_iff_eq.mpr c11
    have c11b1 : (a0_6 != a0_0) = false := bne_eq_false_iff_eq.mpr c11
    clear c11
    (first | rw [c11b0] | (simp only [i64_w, i32_w]; rw [c11b0]) | skip)
    by_cases c12 : (l0_7.length : Int) = a0_3
    ·
     rw [if_pos c12] at H
     have c12b0 : ((l0_7.length : Int) == a0_3) = true := beq_iff_eq.mpr c12
     have c12b1 : ((l0_7.length : Int) != a0_3) = false := bne_eq_false_iff_eq.mpr c12
     clear c12
     have H' := aM H
     clear H
     have hz13 := bx9 BK186.out
     obtain ⟨Ao14, co14, eo14⟩ := Kd.R_slice HO190.out
     subst eo14
     go_wp2
     go_meet
     case rel => exact ⟨_, (((l0_8.length : Int) != (t188.length : Int))), rfl, H', ⟨by first | omega | exact Nat.le_refl _⟩, HO190, BK186, HB⟩
    ·
     rw [if_neg c12] at H
     have c12b0 : ((l0_7.length : Int) == a0_3) = false := beq_eq_false_iff_ne.mpr c12
     have c12b1 : ((l0_7.length : Int) != a0_3) = true := bne_iff_ne.mpr c12
     have H' := aM H
     clear H
     have hz15 := bx9 BK186.out
     go_wp2
     go_meet
     case rel => exact ⟨_, (true), rfl, H', ⟨by first | omega | exact Nat.le_refl _⟩, HO190, BK186, HB⟩
   ·
    rw [if_neg c11] at H
    have c11b0 : (a0_6 == a0_0) = false := beq_eq_false_iff_ne.mpr c11
    have c11b1 : (a0_6 != a0_0) = true := bne_iff_ne.mpr c11
    (first | rw [c11b0] | (simp only [i64_w, i32_w]; rw [c11b0]) | skip)
    have H' := aM H
    clear H
    have hz16 := bx9 BK186.out
    go_wp2
    go_meet
    case rel => exact ⟨_, (true), rfl, H', ⟨by first | omega | exact Nat.le_refl _⟩, HO190, BK186, HB⟩
  case rest =>
   clear HC5
   try clear c1
   try clear c2
   try clear p2
   try clear c3
   try clear c5
   try clear c11
   try clear c11b0
   try clear c11b1
   try clear c12
   try clear c12b0
   try clear c12b1
   try clear hz13
   try clear hz15
   try clear hz16
   try clear hz7
   try clear hz9
   obtain ⟨kq, x39_4, rfl, HA, HJ4, HO_3, BK186, HB⟩ := hcut
   cases kq with
   | zero => exact absurd HA.out (by simp [credenzaref18_Right.j0])
   | succ kj4 =>
    have H := HA.out
    clear HA
    simp only [credenzaref18_Right.j0] at H
    by_cases c17 : x39_4 = true
    ·
     subst c17
     rw [if_pos rfl] at H
     obtain rfl := oI H
     go_wp2
     go_ret
     exact ⟨rfl, HB.out⟩
    ·
     replace c17 := Bool.eq_false_iff.mpr c17
     subst c17
     rw [if_neg (show ¬ (false = true) by decide)] at H
     have H' := aM H
     clear H
     go_wp2
     go_loopg [4] kj4 (fun kq v4 w' => ∃ (x4_2 : Int), v4 = .int .i64 x4_2 ∧ Aside0 (credenzaref18_Right.l0 kq t188 x4_2 a0_0 a0_1 a0_2 a0_3 a0_4 a0_5 a0_6 l0_7 l0_8 = some r) ∧ Aside0 (kq ≤ kj4) ∧ Aside0 (Kd.R k110 110 w' w.heap.size (fun _ => True) v189 t188) ∧ Aside0 (w'.heap[gb186]? = some (.cells #[.int .i64 a0_0, .int .i64 a0_1, .int .i64 a0_2, .int .i64 a0_3, .int .i64 a0_4, .int .i64 a0_5, .int .i64 a0_6, (.slice A0_7 l0_7.length c0_7), (.slice A0_8 l0_8.length c0_8)] 73 (0, 0))) ∧ Aside0 (Below w.heap.size w w'))
     case atStart => exact ⟨(0), rfl, H', ⟨Nat.le_refl _⟩, HO_3, BK186, HB⟩
     case round =>
      clear H'
      try clear c1
      try clear c2
      try clear p2
      try clear c3
      try clear c5
      try clear c11
      try clear c11b0
      try clear c11b1
      try clear c12
      try clear c12b0
      try clear c12b1
      try clear c17
      try clear hz13
      try clear hz15
      try clear hz16
      try clear hz7
      try clear hz9
      try clear p2
      obtain ⟨x4_2, rfl, HA, HK2, HO_3, BK186, HB⟩ := hrel
      cases gk with
      | zero => exact absurd HA.out (by simp [credenzaref18_Right.l0])
      | succ k2 =>
       have H := HA.out
       clear HA
       simp only [credenzaref18_Right.l0] at H
       by_cases c18 : x4_2 < (t188.length : Int)
       ·
        rw [if_pos c18] at H
        have c18b0 : decide (x4_2 < (t188.length : Int)) = true := dT c18
        clear c18
        obtain ⟨c19, H⟩ := ifp H
        have c19b0 : decide (0 ≤ x4_2) = true := dT c19
        clear c19
        obtain ⟨c20, H⟩ := ifp H
        have c20b0 : decide (x4_2 < (l0_8.length : Int)) = true := dT c20
        clear c20
        obtain ⟨t194, A21, H⟩ := bnd H
        by_cases c22 : (((rd_T111 l0_8 x4_2).f2).length : Int) = t194
        ·
         rw [if_pos c22] at H
         have c22b0 : ((((rd_T111 l0_8 x4_2).f2).length : Int) == t194) = true := beq_iff_eq.mpr c22
         have c22b1 : ((((rd_T111 l0_8 x4_2).f2).length : Int) != t194) = false := bne_eq_false_iff_eq.mpr c22
         clear c22
         by_cases c23 : ((rd_T110 t188 x4_2).f0) = 0
         ·
          rw [if_pos c23] at H
          have c23b0 : (((rd_T110 t188 x4_2).f0) == 0) = true := beq_iff_eq.mpr c23
          have c23b1 : (((rd_T110 t188 x4_2).f0) != 0) = false := bne_eq_false_iff_eq.mpr c23
          clear c23
          have H' := aM H
          clear H
          obtain ⟨Ao24, co24, eo24⟩ := Kd.R_slice HO_3.out
          subst eo24
          have hz25 := bx9 BK186.out
          have p191 : 0 ≤ (x4_2 : Int) := oD
          have q191 : x4_2 < (l0_8.length : Int) := oD
          obtain ⟨ad191, A191_2, c191_2, e191, hx191_0, hx191_1, hx191_2, hl191_2, hi191_2⟩ := at_T111 HR0_8.out x4_2 p191 q191
          cases e191
          replace hx191_0 := cU HB hx191_0
          replace hx191_1 := cU HB hx191_1
          replace hx191_2 := cU HB hx191_2
          have HR191_2 := aM hi191_2
          have HC191_2 := aM hl191_2
          clear hi191_2 hl191_2
          replace p191 := eq_true p191
          replace q191 := eq_true q191
          try go_wp2_with (first | ((with_reducible refine gate_dst (N := 5) rfl ?_); (try (refine gate_guard (by rfl) ?_; dsimp only)); refine bxE 5 #[.int .i64 0, .int .i64 0, .slice none 0 0] 111 (h := ?_); intro gb192 hg w26 hbox hb; replace HO_3 := rst HO_3 hb; have BK192 := aM (hbox); have GW192 := gE hg HB; have GE192 := gE hg HB; replace HB := bst HB hb; have NB186_192 := aM ((by rw [hg]; exact Nat.ne_of_lt (blk_lt (g := gb186) (o := .cells #[.int .i64 a0_0, .int .i64 a0_1, .int .i64 a0_2, .int .i64 a0_3, .int .i64 a0_4, .int .i64 a0_5, .int .i64 a0_6, .slice A0_7 l0_7.length c0_7, .slice (some ad191) l0_8.length c0_8] 73 (0, 0)) BK186.out) : gb186 ≠ gb192)); have NB192_186 := aM ((by rw [hg]; exact Nat.ne_of_gt (blk_lt (g := gb186) (o := .cells #[.int .i64 a0_0, .int .i64 a0_1, .int .i64 a0_2, .int .i64 a0_3, .int .i64 a0_4, .int .i64 a0_5, .int .i64 a0_6, .slice A0_7 l0_7.length c0_7, .slice (some ad191) l0_8.length c0_8] 73 (0, 0)) BK186.out) : gb192 ≠ gb186)); replace BK186 := kst BK186 hb; clear hb hbox hg; have hnb27 := NB192_186.out; have hnc27 := NB186_192.out; have hz28 := bx3 BK192.out))
          have n0_ : Aside0 (Kd.R k110 110 (((w26.setCell ⟨gb192, 0, none⟩ (.int .i64 ((rd_T111 l0_8 x4_2).f0))).setCell ⟨gb192, 1, none⟩ (.int .i64 ((rd_T111 l0_8 x4_2).f1))).setCell ⟨gb192, 2, none⟩ (.slice A191_2 ((rd_T111 l0_8 x4_2).f2).length c191_2)) w.heap.size (fun _ => True) (.slice Ao24 t188.length co24) t188) := ⟨by (with_reducible repeat (first | apply Kd.R_alloc | apply Kd.R_drewN | apply Kd.R_drew)); exact Kd.R_mono (Kd.R_far (p := ⟨gb192, 2, none⟩) (Kd.R_far (p := ⟨gb192, 1, none⟩) (Kd.R_far (p := ⟨gb192, 0, none⟩) (Kd.R_types HO_3.out BK192.out (by decide)) (fun _ hk => hk.2) (.int .i64 ((rd_T111 l0_8 x4_2).f0))) (fun _ hk => hk.2) (.int .i64 ((rd_T111 l0_8 x4_2).f1))) (fun _ hk => hk.2) (.slice A191_2 ((rd_T111 l0_8 x4_2).f2).length c191_2)) (fun _ hk => trivial)⟩
          have n1_ : Aside0 ((((w26.setCell ⟨gb192, 0, none⟩ (.int .i64 ((rd_T111 l0_8 x4_2).f0))).setCell ⟨gb192, 1, none⟩ (.int .i64 ((rd_T111 l0_8 x4_2).f1))).setCell ⟨gb192, 2, none⟩ (.slice A191_2 ((rd_T111 l0_8 x4_2).f2).length c191_2)).heap[gb186]? = some (.cells #[.int .i64 a0_0, .int .i64 a0_1, .int .i64 a0_2, .int .i64 a0_3, .int .i64 a0_4, .int .i64 a0_5, .int .i64 a0_6, .slice A0_7 l0_7.length c0_7, .slice (some ad191) l0_8.length c0_8] 73 (0, 0))) := ⟨by (with_reducible repeat (first | refine blk_drewN ?_ _ | refine blk_drew ?_ | refine blk_alloc ?_ _)); refine blk_far ?_ NB186_192.out _; (with_reducible repeat (first | refine blk_drewN ?_ _ | refine blk_drew ?_ | refine blk_alloc ?_ _)); refine blk_far ?_ NB186_192.out _; (with_reducible repeat (first | refine blk_drewN ?_ _ | refine blk_drew ?_ | refine blk_alloc ?_ _)); refine blk_far ?_ NB186_192.out _; (with_reducible repeat (first | refine blk_drewN ?_ _ | refine blk_drew ?_ | refine blk_alloc ?_ _)); exact BK186.out⟩
          have n2_ : Aside0 ((((w26.setCell ⟨gb192, 0, none⟩ (.int .i64 ((rd_T111 l0_8 x4_2).f0))).setCell ⟨gb192, 1, none⟩ (.int .i64 ((rd_T111 l0_8 x4_2).f1))).setCell ⟨gb192, 2, none⟩ (.slice A191_2 ((rd_T111 l0_8 x4_2).f2).length c191_2)).heap[gb192]? = some (.cells #[.int .i64 ((rd_T111 l0_8 x4_2).f0), .int .i64 ((rd_T111 l0_8 x4_2).f1), .slice A191_2 ((rd_T111 l0_8 x4_2).f2).length c191_2] 111 (0, 0))) := ⟨by (with_reducible repeat (first | refine blk_drewN ?_ _ | refine blk_drew ?_ | refine blk_alloc ?_ _)); refine blk_put (cs := #[.int .i64 ((rd_T111 l0_8 x4_2).f0), .int .i64 ((rd_T111 l0_8 x4_2).f1), .slice none 0 0]) ?_ 2 _ rfl; (with_reducible repeat (first | refine blk_drewN ?_ _ | refine blk_drew ?_ | refine blk_alloc ?_ _)); refine blk_put (cs := #[.int .i64 ((rd_T111 l0_8 x4_2).f0), .int .i64 0, .slice none 0 0]) ?_ 1 _ rfl; (with_reducible repeat (first | refine blk_drewN ?_ _ | refine blk_drew ?_ | refine blk_alloc ?_ _)); refine blk_put (cs := #[.int .i64 0, .int .i64 0, .slice none 0 0]) ?_ 0 _ rfl; (with_reducible repeat (first | refine blk_drewN ?_ _ | refine blk_drew ?_ | refine blk_alloc ?_ _)); exact BK192.out⟩
          have n3_ : Aside0 (Below w.heap.size w (((w26.setCell ⟨gb192, 0, none⟩ (.int .i64 ((rd_T111 l0_8 x4_2).f0))).setCell ⟨gb192, 1, none⟩ (.int .i64 ((rd_T111 l0_8 x4_2).f1))).setCell ⟨gb192, 2, none⟩ (.slice A191_2 ((rd_T111 l0_8 x4_2).f2).length c191_2))) := ⟨bZ⟩
          (try clear HO_3)
          (try clear BK186)
          (try clear BK192)
          (try clear HB)
          generalize (((w26.setCell ⟨gb192, 0, none⟩ (.int .i64 ((rd_T111 l0_8 x4_2).f0))).setCell ⟨gb192, 1, none⟩ (.int .i64 ((rd_T111 l0_8 x4_2).f1))).setCell ⟨gb192, 2, none⟩ (.slice A191_2 ((rd_T111 l0_8 x4_2).f2).length c191_2)) = w29 at n0_ n1_ n2_ n3_ ⊢
          have HO_3 := n0_
          have BK186 := n1_
          have BK192 := n2_
          have HB := n3_
          clear n0_ n1_ n2_ n3_
          replace HO_3 := aM (Kd.R_drew HO_3.out)
          replace BK186 := aM (blk_drew BK186.out)
          replace BK192 := aM (blk_drew BK192.out)
          replace HB := aM (below_drew1 HB.out)
          have p193 : 0 ≤ (x4_2 : Int) := oD
          have q193 : x4_2 < (t188.length : Int) := oD
          obtain ⟨ad193, e193, hx193_0, hx193_1⟩ := at_T110 (Kd.R_reads' HO_3.out).2.2 x4_2 p193 q193
          cases e193
          replace p193 := eq_true p193
          replace q193 := eq_true q193
          have p195 : 0 ≤ (x4_2 : Int) := oD
          have q195 : x4_2 < (t188.length : Int) := oD
          obtain ⟨ad195, e195, hx195_0, hx195_1⟩ := at_T110 (Kd.R_reads' HO_3.out).2.2 x4_2 p195 q195
          obtain rfl : ad193 = ad195 := (by injection e195)
          replace p195 := eq_true p195
          replace q195 := eq_true q195
          refine start_ (n := 37) (S := fun w' => w'.cell? ⟨gb192, 0, none⟩ = some (.int .i64 ((rd_T111 l0_8 x4_2).f0)) ∧ w'.cell? ⟨gb192, 1, none⟩ = some (.int .i64 ((rd_T111 l0_8 x4_2).f1)) ∧ w'.cell? ⟨gb192, 2, none⟩ = some (.slice A191_2 ((rd_T111 l0_8 x4_2).f2).length c191_2) ∧ w'.cell? (ad193.add ((x4_2).toNat * 2)) = some (.int .i64 ((rd_T110 t188 x4_2).f0)) ∧ w'.cell? ⟨(ad193.add ((x4_2).toNat * 2)).block, (ad193.add ((x4_2).toNat * 2)).off + 1, none⟩ = some (.int .i64 ((rd_T110 t188 x4_2).f1)) ∧ w'.cell? (ad193.add ((x4_2).toNat * 2)) = some (.int .i64 ((rd_T110 t188 x4_2).f0)) ∧ w'.cell? ⟨(ad193.add ((x4_2).toNat * 2)).block, (ad193.add ((x4_2).toNat * 2)).off + 1, none⟩ = some (.int .i64 ((rd_T110 t188 x4_2).f1))) (ds := []) (bA 37 0) (by kernel_rfl) rfl (by kernel_rfl) ⟨cL BK192 0, cL BK192 1, cL BK192 2, hx193_0, hx193_1, hx195_0, hx195_1⟩ (fun hHeld => ?_); refine with_tabW credenzaref18_Right.tab10 credenzaref18_Right.bits10 (fun HT_ HW_ => ?_)
          generalize w29.drew = w30 at HO_3 BK186 BK192 HB hx193_0 hx193_1 hx195_0 hx195_1 hHeld ⊢
          refine pT 37 0 51 1 HT_ (h := ?_)
          refine pT 37 3 54 9 HT_ (h := ?_)
          refine pT 37 4 55 25 HT_ (h := ?_)
          refine pT 37 5 56 57 HT_ (h := ?_)
          refine tT 37 1 52 59 HT_ HW_ hHeld (h := ?_)
          refine pT 37 2 53 63 HT_ (h := ?_)
          refine tT 37 6 57 127 HT_ HW_ hHeld (h := ?_)
          refine one_ (i := 7) (N := some 58) (bA 37 255) rfl rfl (one_of HT_.out (by kernel_rfl)) (by decide) (fun K hK => ?_)
          refine gA Try.func60 #[.agg #[.int .i64 ((rd_T110 t188 x4_2).f0), .int .i64 ((rd_T110 t188 x4_2).f1)]] (h := ?_)
          with_reducible refine (credenzaref18_count.calls ((rd_T110 t188 x4_2).f0) ((rd_T110 t188 x4_2).f1) t194 _ A21.out).mono ?_
          rintro e w31 ⟨rfl, hb⟩
          have HS3_ := (hb.cell (World.block_lt_of_cell? _ _ (hHeld.2.2.2.1))).trans (hHeld.2.2.2.1)
          have HS4_ := (hb.cell (World.block_lt_of_cell? _ _ (hHeld.2.2.2.2.1))).trans (hHeld.2.2.2.2.1)
          have HS5_ := (hb.cell (World.block_lt_of_cell? _ _ (hHeld.2.2.2.2.2.1))).trans (hHeld.2.2.2.2.2.1)
          have HS6_ := (hb.cell (World.block_lt_of_cell? _ _ (hHeld.2.2.2.2.2.2))).trans (hHeld.2.2.2.2.2.2)
          refine ⟨_, rfl, ?_⟩
          replace HO_3 := aM (Kd.R_below (kR HO_3.out) hb)
          replace BK186 := aM (blk_below (g := gb186) (o := .cells #[.int .i64 a0_0, .int .i64 a0_1, .int .i64 a0_2, .int .i64 a0_3, .int .i64 a0_4, .int .i64 a0_5, .int .i64 a0_6, .slice A0_7 l0_7.length c0_7, .slice (some ad191) l0_8.length c0_8] 73 (0, 0)) (bK BK186.out) hb)
          replace BK192 := aM (blk_below (g := gb192) (o := .cells #[.int .i64 ((rd_T111 l0_8 x4_2).f0), .int .i64 ((rd_T111 l0_8 x4_2).f1), .slice A191_2 ((rd_T111 l0_8 x4_2).f2).length c191_2] 111 (0, 0)) (bK BK192.out) hb)
          replace HB := aM (below_step bZ hb)
          (try clear hb)
          (try clear hb2)
          (try clear hk)
          (try clear hi)
          refine hK.out _ _ ⟨cL BK192 0, cL BK192 1, cL BK192 2, HS3_, HS4_, HS5_, HS6_⟩ (fun hHeld => ?_)
          clear hK K
          refine nT 58 (h := ?_)
          refine pT 37 8 59 511 HT_ (h := ?_)
          refine pT 37 9 60 1023 HT_ (h := ?_)
          refine pT 37 10 61 2047 HT_ (h := ?_)
          refine pT 37 11 62 4095 HT_ (h := ?_)
          refine pT 37 12 63 8191 HT_ (h := ?_)
          refine pT 37 13 64 16383 HT_ (h := ?_)
          refine tT 37 14 65 32767 HT_ HW_ hHeld (h := ?_)
          refine pT 37 15 66 65535 HT_ (h := ?_)
          refine pT 37 16 67 131071 HT_ (h := ?_)
          refine pT 37 17 68 262143 HT_ (h := ?_)
          refine pT 37 18 69 524287 HT_ (h := ?_)
          refine pT 37 19 70 1048575 HT_ (h := ?_)
          refine pT 37 20 71 2097151 HT_ (h := ?_)
          refine pT 37 21 72 4194303 HT_ (h := ?_)
          refine pT 37 22 73 8388607 HT_ (h := ?_)
          refine pT 37 23 74 16777215 HT_ (h := ?_)
          refine pT 37 24 75 33554431 HT_ (h := ?_)
          refine pT 37 25 76 67108863 HT_ (h := ?_)
          refine pT 37 26 77 134217727 HT_ (h := ?_)
          refine pT 37 27 78 268435455 HT_ (h := ?_)
          refine pT 37 28 79 536870911 HT_ (h := ?_)
          refine pT 37 29 80 1073741823 HT_ (h := ?_)
          refine pT 37 30 81 2147483647 HT_ (h := ?_)
          refine pT 37 31 82 4294967295 HT_ (h := ?_)
          refine pT 37 32 83 8589934591 HT_ (h := ?_)
          refine pT 37 33 84 17179869183 HT_ (h := ?_)
          refine pT 37 34 85 34359738367 HT_ (h := ?_)
          refine pT 37 35 86 68719476735 HT_ (h := ?_)
          refine pT 37 36 87 137438953471 HT_ (h := ?_)
          refine done_ (done_of HT_.out (by kernel_rfl)) ?_
          try go_wp2
          go_roundg k2
          case measure => have := HJ4.out; have := HK2.out; omega
          case rel => exact ⟨(wrap64 (x4_2 + 1)), rfl, H', ⟨by have := HJ4.out; have := HK2.out; omega⟩, HO_3, BK186, HB⟩
         ·
          rw [if_neg c23] at H
          have c23b0 : (((rd_T110 t188 x4_2).f0) == 0) = false := beq_eq_false_iff_ne.mpr c23
          have c23b1 : (((rd_T110 t188 x4_2).f0) != 0) = true := bne_iff_ne.mpr c23
          by_cases c32 : ((rd_T111 l0_8 x4_2).f0) = ((rd_T110 t188 x4_2).f0)
          ·
           rw [if_pos c32] at H
           have c32b0 : (((rd_T111 l0_8 x4_2).f0) == ((rd_T110 t188 x4_2).f0)) = true := beq_iff_eq.mpr c32
           have c32b1 : (((rd_T111 l0_8 x4_2).f0) != ((rd_T110 t188 x4_2).f0)) = false := bne_eq_false_iff_eq.mpr c32
           clear c32
           by_cases c33 : ((rd_T111 l0_8 x4_2).f1) = ((rd_T110 t188 x4_2).f1)
           ·
            rw [if_pos c33] at H
            have c33b0 : (((rd_T111 l0_8 x4_2).f1) == ((rd_T110 t188 x4_2).f1)) = true := beq_iff_eq.mpr c33
            have c33b1 : (((rd_T111 l0_8 x4_2).f1) != ((rd_T110 t188 x4_2).f1)) = false := bne_eq_false_iff_eq.mpr c33
            clear c33
            have H' := aM H
            clear H
            obtain ⟨Ao34, co34, eo34⟩ := Kd.R_slice HO_3.out
            subst eo34
            have hz35 := bx9 BK186.out
            have p191 : 0 ≤ (x4_2 : Int) := oD
            have q191 : x4_2 < (l0_8.length : Int) := oD
            obtain ⟨ad191, A191_2, c191_2, e191, hx191_0, hx191_1, hx191_2, hl191_2, hi191_2⟩ := at_T111 HR0_8.out x4_2 p191 q191
            cases e191
            replace hx191_0 := cU HB hx191_0
            replace hx191_1 := cU HB hx191_1
            replace hx191_2 := cU HB hx191_2
            have HR191_2 := aM hi191_2
            have HC191_2 := aM hl191_2
            clear hi191_2 hl191_2
            replace p191 := eq_true p191
            replace q191 := eq_true q191
            try go_wp2_with (first | ((with_reducible refine gate_dst (N := 5) rfl ?_); (try (refine gate_guard (by rfl) ?_; dsimp only)); refine bxE 5 #[.int .i64 0, .int .i64 0, .slice none 0 0] 111 (h := ?_); intro gb192 hg w36 hbox hb; replace HO_3 := rst HO_3 hb; have BK192 := aM (hbox); have GW192 := gE hg HB; have GE192 := gE hg HB; replace HB := bst HB hb; have NB186_192 := aM ((by rw [hg]; exact Nat.ne_of_lt (blk_lt (g := gb186) (o := .cells #[.int .i64 a0_0, .int .i64 a0_1, .int .i64 a0_2, .int .i64 a0_3, .int .i64 a0_4, .int .i64 a0_5, .int .i64 a0_6, .slice A0_7 l0_7.length c0_7, .slice (some ad191) l0_8.length c0_8] 73 (0, 0)) BK186.out) : gb186 ≠ gb192)); have NB192_186 := aM ((by rw [hg]; exact Nat.ne_of_gt (blk_lt (g := gb186) (o := .cells #[.int .i64 a0_0, .int .i64 a0_1, .int .i64 a0_2, .int .i64 a0_3, .int .i64 a0_4, .int .i64 a0_5, .int .i64 a0_6, .slice A0_7 l0_7.length c0_7, .slice (some ad191) l0_8.length c0_8] 73 (0, 0)) BK186.out) : gb192 ≠ gb186)); replace BK186 := kst BK186 hb; clear hb hbox hg; have hnb37 := NB192_186.out; have hnc37 := NB186_192.out; have hz38 := bx3 BK192.out))
            have n0_ : Aside0 (Kd.R k110 110 (((w36.setCell ⟨gb192, 0, none⟩ (.int .i64 ((rd_T111 l0_8 x4_2).f0))).setCell ⟨gb192, 1, none⟩ (.int .i64 ((rd_T111 l0_8 x4_2).f1))).setCell ⟨gb192, 2, none⟩ (.slice A191_2 ((rd_T111 l0_8 x4_2).f2).length c191_2)) w.heap.size (fun _ => True) (.slice Ao34 t188.length co34) t188) := ⟨by (with_reducible repeat (first | apply Kd.R_alloc | apply Kd.R_drewN | apply Kd.R_drew)); exact Kd.R_mono (Kd.R_far (p := ⟨gb192, 2, none⟩) (Kd.R_far (p := ⟨gb192, 1, none⟩) (Kd.R_far (p := ⟨gb192, 0, none⟩) (Kd.R_types HO_3.out BK192.out (by decide)) (fun _ hk => hk.2) (.int .i64 ((rd_T111 l0_8 x4_2).f0))) (fun _ hk => hk.2) (.int .i64 ((rd_T111 l0_8 x4_2).f1))) (fun _ hk => hk.2) (.slice A191_2 ((rd_T111 l0_8 x4_2).f2).length c191_2)) (fun _ hk => trivial)⟩
            have n1_ : Aside0 ((((w36.setCell ⟨gb192, 0, none⟩ (.int .i64 ((rd_T111 l0_8 x4_2).f0))).setCell ⟨gb192, 1, none⟩ (.int .i64 ((rd_T111 l0_8 x4_2).f1))).setCell ⟨gb192, 2, none⟩ (.slice A191_2 ((rd_T111 l0_8 x4_2).f2).length c191_2)).heap[gb186]? = some (.cells #[.int .i64 a0_0, .int .i64 a0_1, .int .i64 a0_2, .int .i64 a0_3, .int .i64 a0_4, .int .i64 a0_5, .int .i64 a0_6, .slice A0_7 l0_7.length c0_7, .slice (some ad191) l0_8.length c0_8] 73 (0, 0))) := ⟨by (with_reducible repeat (first | refine blk_drewN ?_ _ | refine blk_drew ?_ | refine blk_alloc ?_ _)); refine blk_far ?_ NB186_192.out _; (with_reducible repeat (first | refine blk_drewN ?_ _ | refine blk_drew ?_ | refine blk_alloc ?_ _)); refine blk_far ?_ NB186_192.out _; (with_reducible repeat (first | refine blk_drewN ?_ _ | refine blk_drew ?_ | refine blk_alloc ?_ _)); refine blk_far ?_ NB186_192.out _; (with_reducible repeat (first | refine blk_drewN ?_ _ | refine blk_drew ?_ | refine blk_alloc ?_ _)); exact BK186.out⟩
            have n2_ : Aside0 ((((w36.setCell ⟨gb192, 0, none⟩ (.int .i64 ((rd_T111 l0_8 x4_2).f0))).setCell ⟨gb192, 1, none⟩ (.int .i64 ((rd_T111 l0_8 x4_2).f1))).setCell ⟨gb192, 2, none⟩ (.slice A191_2 ((rd_T111 l0_8 x4_2).f2).length c191_2)).heap[gb192]? = some (.cells #[.int .i64 ((rd_T111 l0_8 x4_2).f0), .int .i64 ((rd_T111 l0_8 x4_2).f1), .slice A191_2 ((rd_T111 l0_8 x4_2).f2).length c191_2] 111 (0, 0))) := ⟨by (with_reducible repeat (first | refine blk_drewN ?_ _ | refine blk_drew ?_ | refine blk_alloc ?_ _)); refine blk_put (cs := #[.int .i64 ((rd_T111 l0_8 x4_2).f0), .int .i64 ((rd_T111 l0_8 x4_2).f1), .slice none 0 0]) ?_ 2 _ rfl; (with_reducible repeat (first | refine blk_drewN ?_ _ | refine blk_drew ?_ | refine blk_alloc ?_ _)); refine blk_put (cs := #[.int .i64 ((rd_T111 l0_8 x4_2).f0), .int .i64 0, .slice none 0 0]) ?_ 1 _ rfl; (with_reducible repeat (first | refine blk_drewN ?_ _ | refine blk_drew ?_ | refine blk_alloc ?_ _)); refine blk_put (cs := #[.int .i64 0, .int .i64 0, .slice none 0 0]) ?_ 0 _ rfl; (with_reducible repeat (first | refine blk_drewN ?_ _ | refine blk_drew ?_ | refine blk_alloc ?_ _)); exact BK192.out⟩
            have n3_ : Aside0 (Below w.heap.size w (((w36.setCell ⟨gb192, 0, none⟩ (.int .i64 ((rd_T111 l0_8 x4_2).f0))).setCell ⟨gb192, 1, none⟩ (.int .i64 ((rd_T111 l0_8 x4_2).f1))).setCell ⟨gb192, 2, none⟩ (.slice A191_2 ((rd_T111 l0_8 x4_2).f2).length c191_2))) := ⟨bZ⟩
            (try clear HO_3)
            (try clear BK186)
            (try clear BK192)
            (try clear HB)
            generalize (((w36.setCell ⟨gb192, 0, none⟩ (.int .i64 ((rd_T111 l0_8 x4_2).f0))).setCell ⟨gb192, 1, none⟩ (.int .i64 ((rd_T111 l0_8 x4_2).f1))).setCell ⟨gb192, 2, none⟩ (.slice A191_2 ((rd_T111 l0_8 x4_2).f2).length c191_2)) = w39 at n0_ n1_ n2_ n3_ ⊢
            have HO_3 := n0_
            have BK186 := n1_
            have BK192 := n2_
            have HB := n3_
            clear n0_ n1_ n2_ n3_
            replace HO_3 := aM (Kd.R_drew HO_3.out)
            replace BK186 := aM (blk_drew BK186.out)
            replace BK192 := aM (blk_drew BK192.out)
            replace HB := aM (below_drew1 HB.out)
            have p193 : 0 ≤ (x4_2 : Int) := oD
            have q193 : x4_2 < (t188.length : Int) := oD
            obtain ⟨ad193, e193, hx193_0, hx193_1⟩ := at_T110 (Kd.R_reads' HO_3.out).2.2 x4_2 p193 q193
            cases e193
            replace p193 := eq_true p193
            replace q193 := eq_true q193
            have p195 : 0 ≤ (x4_2 : Int) := oD
            have q195 : x4_2 < (t188.length : Int) := oD
            obtain ⟨ad195, e195, hx195_0, hx195_1⟩ := at_T110 (Kd.R_reads' HO_3.out).2.2 x4_2 p195 q195
            obtain rfl : ad193 = ad195 := (by injection e195)
            replace p195 := eq_true p195
            replace q195 := eq_true q195
            have p196 : 0 ≤ (x4_2 : Int) := oD
            have q196 : x4_2 < (t188.length : Int) := oD
            obtain ⟨ad196, e196, hx196_0, hx196_1⟩ := at_T110 (Kd.R_reads' HO_3.out).2.2 x4_2 p196 q196
            obtain rfl : ad193 = ad196 := (by injection e196)
            replace p196 := eq_true p196
            replace q196 := eq_true q196
            have p197 : 0 ≤ (x4_2 : Int) := oD
            have q197 : x4_2 < (t188.length : Int) := oD
            obtain ⟨ad197, e197, hx197_0, hx197_1⟩ := at_T110 (Kd.R_reads' HO_3.out).2.2 x4_2 p197 q197
            obtain rfl : ad193 = ad197 := (by injection e197)
            replace p197 := eq_true p197
            replace q197 := eq_true q197
            refine start_ (n := 37) (S := fun w' => w'.cell? ⟨gb192, 0, none⟩ = some (.int .i64 ((rd_T111 l0_8 x4_2).f0)) ∧ w'.cell? ⟨gb192, 1, none⟩ = some (.int .i64 ((rd_T111 l0_8 x4_2).f1)) ∧ w'.cell? ⟨gb192, 2, none⟩ = some (.slice A191_2 ((rd_T111 l0_8 x4_2).f2).length c191_2) ∧ w'.cell? (ad193.add ((x4_2).toNat * 2)) = some (.int .i64 ((rd_T110 t188 x4_2).f0)) ∧ w'.cell? ⟨(ad193.add ((x4_2).toNat * 2)).block, (ad193.add ((x4_2).toNat * 2)).off + 1, none⟩ = some (.int .i64 ((rd_T110 t188 x4_2).f1)) ∧ w'.cell? (ad193.add ((x4_2).toNat * 2)) = some (.int .i64 ((rd_T110 t188 x4_2).f0)) ∧ w'.cell? ⟨(ad193.add ((x4_2).toNat * 2)).block, (ad193.add ((x4_2).toNat * 2)).off + 1, none⟩ = some (.int .i64 ((rd_T110 t188 x4_2).f1)) ∧ w'.cell? (ad193.add ((x4_2).toNat * 2)) = some (.int .i64 ((rd_T110 t188 x4_2).f0)) ∧ w'.cell? ⟨(ad193.add ((x4_2).toNat * 2)).block, (ad193.add ((x4_2).toNat * 2)).off + 1, none⟩ = some (.int .i64 ((rd_T110 t188 x4_2).f1)) ∧ w'.cell? (ad193.add ((x4_2).toNat * 2)) = some (.int .i64 ((rd_T110 t188 x4_2).f0)) ∧ w'.cell? ⟨(ad193.add ((x4_2).toNat * 2)).block, (ad193.add ((x4_2).toNat * 2)).off + 1, none⟩ = some (.int .i64 ((rd_T110 t188 x4_2).f1))) (ds := []) (bA 37 0) (by kernel_rfl) rfl (by kernel_rfl) ⟨cL BK192 0, cL BK192 1, cL BK192 2, hx193_0, hx193_1, hx195_0, hx195_1, hx196_0, hx196_1, hx197_0, hx197_1⟩ (fun hHeld => ?_); refine with_tabW credenzaref18_Right.tab10 credenzaref18_Right.bits10 (fun HT_ HW_ => ?_)
            generalize w39.drew = w40 at HO_3 BK186 BK192 HB hx193_0 hx193_1 hx195_0 hx195_1 hx196_0 hx196_1 hx197_0 hx197_1 hHeld ⊢
            refine pT 37 0 51 1 HT_ (h := ?_)
            refine pT 37 3 54 9 HT_ (h := ?_)
            refine pT 37 4 55 25 HT_ (h := ?_)
            refine pT 37 5 56 57 HT_ (h := ?_)
            refine tT 37 1 52 59 HT_ HW_ hHeld (h := ?_)
            refine pT 37 2 53 63 HT_ (h := ?_)
            refine tT 37 6 57 127 HT_ HW_ hHeld (h := ?_)
            refine one_ (i := 7) (N := some 58) (bA 37 255) rfl rfl (one_of HT_.out (by kernel_rfl)) (by decide) (fun K hK => ?_)
            refine gA Try.func60 #[.agg #[.int .i64 ((rd_T110 t188 x4_2).f0), .int .i64 ((rd_T110 t188 x4_2).f1)]] (h := ?_)
            with_reducible refine (credenzaref18_count.calls ((rd_T110 t188 x4_2).f0) ((rd_T110 t188 x4_2).f1) t194 _ A21.out).mono ?_
            rintro e w41 ⟨rfl, hb⟩
            have HS3_ := (hb.cell (World.block_lt_of_cell? _ _ (hHeld.2.2.2.1))).trans (hHeld.2.2.2.1)
            have HS4_ := (hb.cell (World.block_lt_of_cell? _ _ (hHeld.2.2.2.2.1))).trans (hHeld.2.2.2.2.1)
            have HS5_ := (hb.cell (World.block_lt_of_cell? _ _ (hHeld.2.2.2.2.2.1))).trans (hHeld.2.2.2.2.2.1)
            have HS6_ := (hb.cell (World.block_lt_of_cell? _ _ (hHeld.2.2.2.2.2.2.1))).trans (hHeld.2.2.2.2.2.2.1)
            have HS7_ := (hb.cell (World.block_lt_of_cell? _ _ (hHeld.2.2.2.2.2.2.2.1))).trans (hHeld.2.2.2.2.2.2.2.1)
            have HS8_ := (hb.cell (World.block_lt_of_cell? _ _ (hHeld.2.2.2.2.2.2.2.2.1))).trans (hHeld.2.2.2.2.2.2.2.2.1)
            have HS9_ := (hb.cell (World.block_lt_of_cell? _ _ (hHeld.2.2.2.2.2.2.2.2.2.1))).trans (hHeld.2.2.2.2.2.2.2.2.2.1)
            have HS10_ := (hb.cell (World.block_lt_of_cell? _ _ (hHeld.2.2.2.2.2.2.2.2.2.2))).trans (hHeld.2.2.2.2.2.2.2.2.2.2)
            refine ⟨_, rfl, ?_⟩
            replace HO_3 := aM (Kd.R_below (kR HO_3.out) hb)
            replace BK186 := aM (blk_below (g := gb186) (o := .cells #[.int .i64 a0_0, .int .i64 a0_1, .int .i64 a0_2, .int .i64 a0_3, .int .i64 a0_4, .int .i64 a0_5, .int .i64 a0_6, .slice A0_7 l0_7.length c0_7, .slice (some ad191) l0_8.length c0_8] 73 (0, 0)) (bK BK186.out) hb)
            replace BK192 := aM (blk_below (g := gb192) (o := .cells #[.int .i64 ((rd_T111 l0_8 x4_2).f0), .int .i64 ((rd_T111 l0_8 x4_2).f1), .slice A191_2 ((rd_T111 l0_8 x4_2).f2).length c191_2] 111 (0, 0)) (bK BK192.out) hb)
            replace HB := aM (below_step bZ hb)
            (try clear hb)
            (try clear hb2)
            (try clear hk)
            (try clear hi)
            refine hK.out _ _ ⟨cL BK192 0, cL BK192 1, cL BK192 2, HS3_, HS4_, HS5_, HS6_, HS7_, HS8_, HS9_, HS10_⟩ (fun hHeld => ?_)
            clear hK K
            refine nT 58 (h := ?_)
            refine pT 37 8 59 511 HT_ (h := ?_)
            refine pT 37 9 60 1023 HT_ (h := ?_)
            refine pT 37 10 61 2047 HT_ (h := ?_)
            refine pT 37 11 62 4095 HT_ (h := ?_)
            refine pT 37 12 63 8191 HT_ (h := ?_)
            refine pT 37 13 64 16383 HT_ (h := ?_)
            refine tT 37 14 65 32767 HT_ HW_ hHeld (h := ?_)
            refine pT 37 15 66 65535 HT_ (h := ?_)
            refine pT 37 16 67 131071 HT_ (h := ?_)
            refine pT 37 17 68 262143 HT_ (h := ?_)
            refine pT 37 19 70 786431 HT_ (h := ?_)
            refine pT 37 20 71 1835007 HT_ (h := ?_)
            refine pT 37 21 72 3932159 HT_ (h := ?_)
            refine pT 37 22 73 8126463 HT_ (h := ?_)
            refine tT 37 18 69 8388607 HT_ HW_ hHeld (h := ?_)
            refine tT 37 23 74 16777215 HT_ HW_ hHeld (h := ?_)
            refine pT 37 24 75 33554431 HT_ (h := ?_)
            refine pT 37 25 76 67108863 HT_ (h := ?_)
            refine pT 37 26 77 134217727 HT_ (h := ?_)
            refine pT 37 28 79 402653183 HT_ (h := ?_)
            refine pT 37 29 80 939524095 HT_ (h := ?_)
            refine pT 37 30 81 2013265919 HT_ (h := ?_)
            refine pT 37 31 82 4160749567 HT_ (h := ?_)
            refine tT 37 27 78 4294967295 HT_ HW_ hHeld (h := ?_)
            refine tT 37 32 83 8589934591 HT_ HW_ hHeld (h := ?_)
            refine pT 37 33 84 17179869183 HT_ (h := ?_)
            refine pT 37 34 85 34359738367 HT_ (h := ?_)
            refine pT 37 35 86 68719476735 HT_ (h := ?_)
            refine pT 37 36 87 137438953471 HT_ (h := ?_)
            refine done_ (done_of HT_.out (by kernel_rfl)) ?_
            try go_wp2
            go_roundg k2
            case measure => have := HJ4.out; have := HK2.out; omega
            case rel => exact ⟨(wrap64 (x4_2 + 1)), rfl, H', ⟨by have := HJ4.out; have := HK2.out; omega⟩, HO_3, BK186, HB⟩
           ·
            rw [if_neg c33] at H
            have c33b0 : (((rd_T111 l0_8 x4_2).f1) == ((rd_T110 t188 x4_2).f1)) = false := beq_eq_false_iff_ne.mpr c33
            have c33b1 : (((rd_T111 l0_8 x4_2).f1) != ((rd_T110 t188 x4_2).f1)) = true := bne_iff_ne.mpr c33
            obtain rfl := oI H
            obtain ⟨Ao42, co42, eo42⟩ := Kd.R_slice HO_3.out
            subst eo42
            have hz43 := bx9 BK186.out
            have p191 : 0 ≤ (x4_2 : Int) := oD
            have q191 : x4_2 < (l0_8.length : Int) := oD
            obtain ⟨ad191, A191_2, c191_2, e191, hx191_0, hx191_1, hx191_2, hl191_2, hi191_2⟩ := at_T111 HR0_8.out x4_2 p191 q191
            cases e191
            replace hx191_0 := cU HB hx191_0
            replace hx191_1 := cU HB hx191_1
            replace hx191_2 := cU HB hx191_2
            have HR191_2 := aM hi191_2
            have HC191_2 := aM hl191_2
            clear hi191_2 hl191_2
            replace p191 := eq_true p191
            replace q191 := eq_true q191
            try go_wp2_with (first | ((with_reducible refine gate_dst (N := 5) rfl ?_); (try (refine gate_guard (by rfl) ?_; dsimp only)); refine bxE 5 #[.int .i64 0, .int .i64 0, .slice none 0 0] 111 (h := ?_); intro gb192 hg w44 hbox hb; replace HO_3 := rst HO_3 hb; have BK192 := aM (hbox); have GW192 := gE hg HB; have GE192 := gE hg HB; replace HB := bst HB hb; have NB186_192 := aM ((by rw [hg]; exact Nat.ne_of_lt (blk_lt (g := gb186) (o := .cells #[.int .i64 a0_0, .int .i64 a0_1, .int .i64 a0_2, .int .i64 a0_3, .int .i64 a0_4, .int .i64 a0_5, .int .i64 a0_6, .slice A0_7 l0_7.length c0_7, .slice (some ad191) l0_8.length c0_8] 73 (0, 0)) BK186.out) : gb186 ≠ gb192)); have NB192_186 := aM ((by rw [hg]; exact Nat.ne_of_gt (blk_lt (g := gb186) (o := .cells #[.int .i64 a0_0, .int .i64 a0_1, .int .i64 a0_2, .int .i64 a0_3, .int .i64 a0_4, .int .i64 a0_5, .int .i64 a0_6, .slice A0_7 l0_7.length c0_7, .slice (some ad191) l0_8.length c0_8] 73 (0, 0)) BK186.out) : gb192 ≠ gb186)); replace BK186 := kst BK186 hb; clear hb hbox hg; have hnb45 := NB192_186.out; have hnc45 := NB186_192.out; have hz46 := bx3 BK192.out))
            have n0_ : Aside0 (Kd.R k110 110 (((w44.setCell ⟨gb192, 0, none⟩ (.int .i64 ((rd_T111 l0_8 x4_2).f0))).setCell ⟨gb192, 1, none⟩ (.int .i64 ((rd_T111 l0_8 x4_2).f1))).setCell ⟨gb192, 2, none⟩ (.slice A191_2 ((rd_T111 l0_8 x4_2).f2).length c191_2)) w.heap.size (fun _ => True) (.slice Ao42 t188.length co42) t188) := ⟨by (with_reducible repeat (first | apply Kd.R_alloc | apply Kd.R_drewN | apply Kd.R_drew)); exact Kd.R_mono (Kd.R_far (p := ⟨gb192, 2, none⟩) (Kd.R_far (p := ⟨gb192, 1, none⟩) (Kd.R_far (p := ⟨gb192, 0, none⟩) (Kd.R_types HO_3.out BK192.out (by decide)) (fun _ hk => hk.2) (.int .i64 ((rd_T111 l0_8 x4_2).f0))) (fun _ hk => hk.2) (.int .i64 ((rd_T111 l0_8 x4_2).f1))) (fun _ hk => hk.2) (.slice A191_2 ((rd_T111 l0_8 x4_2).f2).length c191_2)) (fun _ hk => trivial)⟩
            have n1_ : Aside0 ((((w44.setCell ⟨gb192, 0, none⟩ (.int .i64 ((rd_T111 l0_8 x4_2).f0))).setCell ⟨gb192, 1, none⟩ (.int .i64 ((rd_T111 l0_8 x4_2).f1))).setCell ⟨gb192, 2, none⟩ (.slice A191_2 ((rd_T111 l0_8 x4_2).f2).length c191_2)).heap[gb186]? = some (.cells #[.int .i64 a0_0, .int .i64 a0_1, .int .i64 a0_2, .int .i64 a0_3, .int .i64 a0_4, .int .i64 a0_5, .int .i64 a0_6, .slice A0_7 l0_7.length c0_7, .slice (some ad191) l0_8.length c0_8] 73 (0, 0))) := ⟨by (with_reducible repeat (first | refine blk_drewN ?_ _ | refine blk_drew ?_ | refine blk_alloc ?_ _)); refine blk_far ?_ NB186_192.out _; (with_reducible repeat (first | refine blk_drewN ?_ _ | refine blk_drew ?_ | refine blk_alloc ?_ _)); refine blk_far ?_ NB186_192.out _; (with_reducible repeat (first | refine blk_drewN ?_ _ | refine blk_drew ?_ | refine blk_alloc ?_ _)); refine blk_far ?_ NB186_192.out _; (with_reducible repeat (first | refine blk_drewN ?_ _ | refine blk_drew ?_ | refine blk_alloc ?_ _)); exact BK186.out⟩
            have n2_ : Aside0 ((((w44.setCell ⟨gb192, 0, none⟩ (.int .i64 ((rd_T111 l0_8 x4_2).f0))).setCell ⟨gb192, 1, none⟩ (.int .i64 ((rd_T111 l0_8 x4_2).f1))).setCell ⟨gb192, 2, none⟩ (.slice A191_2 ((rd_T111 l0_8 x4_2).f2).length c191_2)).heap[gb192]? = some (.cells #[.int .i64 ((rd_T111 l0_8 x4_2).f0), .int .i64 ((rd_T111 l0_8 x4_2).f1), .slice A191_2 ((rd_T111 l0_8 x4_2).f2).length c191_2] 111 (0, 0))) := ⟨by (with_reducible repeat (first | refine blk_drewN ?_ _ | refine blk_drew ?_ | refine blk_alloc ?_ _)); refine blk_put (cs := #[.int .i64 ((rd_T111 l0_8 x4_2).f0), .int .i64 ((rd_T111 l0_8 x4_2).f1), .slice none 0 0]) ?_ 2 _ rfl; (with_reducible repeat (first | refine blk_drewN ?_ _ | refine blk_drew ?_ | refine blk_alloc ?_ _)); refine blk_put (cs := #[.int .i64 ((rd_T111 l0_8 x4_2).f0), .int .i64 0, .slice none 0 0]) ?_ 1 _ rfl; (with_reducible repeat (first | refine blk_drewN ?_ _ | refine blk_drew ?_ | refine blk_alloc ?_ _)); refine blk_put (cs := #[.int .i64 0, .int .i64 0, .slice none 0 0]) ?_ 0 _ rfl; (with_reducible repeat (first | refine blk_drewN ?_ _ | refine blk_drew ?_ | refine blk_alloc ?_ _)); exact BK192.out⟩
            have n3_ : Aside0 (Below w.heap.size w (((w44.setCell ⟨gb192, 0, none⟩ (.int .i64 ((rd_T111 l0_8 x4_2).f0))).setCell ⟨gb192, 1, none⟩ (.int .i64 ((rd_T111 l0_8 x4_2).f1))).setCell ⟨gb192, 2, none⟩ (.slice A191_2 ((rd_T111 l0_8 x4_2).f2).length c191_2))) := ⟨bZ⟩
            (try clear HO_3)
            (try clear BK186)
            (try clear BK192)
            (try clear HB)
            generalize (((w44.setCell ⟨gb192, 0, none⟩ (.int .i64 ((rd_T111 l0_8 x4_2).f0))).setCell ⟨gb192, 1, none⟩ (.int .i64 ((rd_T111 l0_8 x4_2).f1))).setCell ⟨gb192, 2, none⟩ (.slice A191_2 ((rd_T111 l0_8 x4_2).f2).length c191_2)) = w47 at n0_ n1_ n2_ n3_ ⊢
            have HO_3 := n0_
            have BK186 := n1_
            have BK192 := n2_
            have HB := n3_
            clear n0_ n1_ n2_ n3_
            replace HO_3 := aM (Kd.R_drew HO_3.out)
            replace BK186 := aM (blk_drew BK186.out)
            replace BK192 := aM (blk_drew BK192.out)
            replace HB := aM (below_drew1 HB.out)
            have p193 : 0 ≤ (x4_2 : Int) := oD
            have q193 : x4_2 < (t188.length : Int) := oD
            obtain ⟨ad193, e193, hx193_0, hx193_1⟩ := at_T110 (Kd.R_reads' HO_3.out).2.2 x4_2 p193 q193
            cases e193
            replace p193 := eq_true p193
            replace q193 := eq_true q193
            have p195 : 0 ≤ (x4_2 : Int) := oD
            have q195 : x4_2 < (t188.length : Int) := oD
            obtain ⟨ad195, e195, hx195_0, hx195_1⟩ := at_T110 (Kd.R_reads' HO_3.out).2.2 x4_2 p195 q195
            obtain rfl : ad193 = ad195 := (by injection e195)
            replace p195 := eq_true p195
            replace q195 := eq_true q195
            have p196 : 0 ≤ (x4_2 : Int) := oD
            have q196 : x4_2 < (t188.length : Int) := oD
            obtain ⟨ad196, e196, hx196_0, hx196_1⟩ := at_T110 (Kd.R_reads' HO_3.out).2.2 x4_2 p196 q196
            obtain rfl : ad193 = ad196 := (by injection e196)
            replace p196 := eq_true p196
            replace q196 := eq_true q196
            have p197 : 0 ≤ (x4_2 : Int) := oD
            have q197 : x4_2 < (t188.length : Int) := oD
            obtain ⟨ad197, e197, hx197_0, hx197_1⟩ := at_T110 (Kd.R_reads' HO_3.out).2.2 x4_2 p197 q197
            obtain rfl : ad193 = ad197 := (by injection e197)
            replace p197 := eq_true p197
            replace q197 := eq_true q197
            refine start_ (n := 37) (S := fun w' => w'.cell? ⟨gb192, 0, none⟩ = some (.int .i64 ((rd_T111 l0_8 x4_2).f0)) ∧ w'.cell? ⟨gb192, 1, none⟩ = some (.int .i64 ((rd_T111 l0_8 x4_2).f1)) ∧ w'.cell? ⟨gb192, 2, none⟩ = some (.slice A191_2 ((rd_T111 l0_8 x4_2).f2).length c191_2) ∧ w'.cell? (ad193.add ((x4_2).toNat * 2)) = some (.int .i64 ((rd_T110 t188 x4_2).f0)) ∧ w'.cell? ⟨(ad193.add ((x4_2).toNat * 2)).block, (ad193.add ((x4_2).toNat * 2)).off + 1, none⟩ = some (.int .i64 ((rd_T110 t188 x4_2).f1)) ∧ w'.cell? (ad193.add ((x4_2).toNat * 2)) = some (.int .i64 ((rd_T110 t188 x4_2).f0)) ∧ w'.cell? ⟨(ad193.add ((x4_2).toNat * 2)).block, (ad193.add ((x4_2).toNat * 2)).off + 1, none⟩ = some (.int .i64 ((rd_T110 t188 x4_2).f1)) ∧ w'.cell? (ad193.add ((x4_2).toNat * 2)) = some (.int .i64 ((rd_T110 t188 x4_2).f0)) ∧ w'.cell? ⟨(ad193.add ((x4_2).toNat * 2)).block, (ad193.add ((x4_2).toNat * 2)).off + 1, none⟩ = some (.int .i64 ((rd_T110 t188 x4_2).f1)) ∧ w'.cell? (ad193.add ((x4_2).toNat * 2)) = some (.int .i64 ((rd_T110 t188 x4_2).f0)) ∧ w'.cell? ⟨(ad193.add ((x4_2).toNat * 2)).block, (ad193.add ((x4_2).toNat * 2)).off + 1, none⟩ = some (.int .i64 ((rd_T110 t188 x4_2).f1))) (ds := []) (bA 37 0) (by kernel_rfl) rfl (by kernel_rfl) ⟨cL BK192 0, cL BK192 1, cL BK192 2, hx193_0, hx193_1, hx195_0, hx195_1, hx196_0, hx196_1, hx197_0, hx197_1⟩ (fun hHeld => ?_); refine with_tabW credenzaref18_Right.tab10 credenzaref18_Right.bits10 (fun HT_ HW_ => ?_)
            generalize w47.drew = w48 at HO_3 BK186 BK192 HB hx193_0 hx193_1 hx195_0 hx195_1 hx196_0 hx196_1 hx197_0 hx197_1 hHeld ⊢
            refine pT 37 0 51 1 HT_ (h := ?_)
            refine pT 37 3 54 9 HT_ (h := ?_)
            refine pT 37 4 55 25 HT_ (h := ?_)
            refine pT 37 5 56 57 HT_ (h := ?_)
            refine tT 37 1 52 59 HT_ HW_ hHeld (h := ?_)
            refine pT 37 2 53 63 HT_ (h := ?_)
            refine tT 37 6 57 127 HT_ HW_ hHeld (h := ?_)
            refine one_ (i := 7) (N := some 58) (bA 37 255) rfl rfl (one_of HT_.out (by kernel_rfl)) (by decide) (fun K hK => ?_)
            refine gA Try.func60 #[.agg #[.int .i64 ((rd_T110 t188 x4_2).f0), .int .i64 ((rd_T110 t188 x4_2).f1)]] (h := ?_)
            with_reducible refine (credenzaref18_count.calls ((rd_T110 t188 x4_2).f0) ((rd_T110 t188 x4_2).f1) t194 _ A21.out).mono ?_
            rintro e w49 ⟨rfl, hb⟩
            have HS3_ := (hb.cell (World.block_lt_of_cell? _ _ (hHeld.2.2.2.1))).trans (hHeld.2.2.2.1)
            have HS4_ := (hb.cell (World.block_lt_of_cell? _ _ (hHeld.2.2.2.2.1))).trans (hHeld.2.2.2.2.1)
            have HS5_ := (hb.cell (World.block_lt_of_cell? _ _ (hHeld.2.2.2.2.2.1))).trans (hHeld.2.2.2.2.2.1)
            have HS6_ := (hb.cell (World.block_lt_of_cell? _ _ (hHeld.2.2.2.2.2.2.1))).trans (hHeld.2.2.2.2.2.2.1)
            have HS7_ := (hb.cell (World.block_lt_of_cell? _ _ (hHeld.2.2.2.2.2.2.2.1))).trans (hHeld.2.2.2.2.2.2.2.1)
            have HS8_ := (hb.cell (World.block_lt_of_cell? _ _ (hHeld.2.2.2.2.2.2.2.2.1))).trans (hHeld.2.2.2.2.2.2.2.2.1)
            have HS9_ := (hb.cell (World.block_lt_of_cell? _ _ (hHeld.2.2.2.2.2.2.2.2.2.1))).trans (hHeld.2.2.2.2.2.2.2.2.2.1)
            have HS10_ := (hb.cell (World.block_lt_of_cell? _ _ (hHeld.2.2.2.2.2.2.2.2.2.2))).trans (hHeld.2.2.2.2.2.2.2.2.2.2)
            refine ⟨_, rfl, ?_⟩
            replace HO_3 := aM (Kd.R_below (kR HO_3.out) hb)
            replace BK186 := aM (blk_below (g := gb186) (o := .cells #[.int .i64 a0_0, .int .i64 a0_1, .int .i64 a0_2, .int .i64 a0_3, .int .i64 a0_4, .int .i64 a0_5, .int .i64 a0_6, .slice A0_7 l0_7.length c0_7, .slice (some ad191) l0_8.length c0_8] 73 (0, 0)) (bK BK186.out) hb)
            replace BK192 := aM (blk_below (g := gb192) (o := .cells #[.int .i64 ((rd_T111 l0_8 x4_2).f0), .int .i64 ((rd_T111 l0_8 x4_2).f1), .slice A191_2 ((rd_T111 l0_8 x4_2).f2).length c191_2] 111 (0, 0)) (bK BK192.out) hb)
            replace HB := aM (below_step bZ hb)
            (try clear hb)
            (try clear hb2)
            (try clear hk)
            (try clear hi)
            refine hK.out _ _ ⟨cL BK192 0, cL BK192 1, cL BK192 2, HS3_, HS4_, HS5_, HS6_, HS7_, HS8_, HS9_, HS10_⟩ (fun hHeld => ?_)
            clear hK K
            refine nT 58 (h := ?_)
            refine pT 37 8 59 511 HT_ (h := ?_)
            refine pT 37 9 60 1023 HT_ (h := ?_)
            refine pT 37 10 61 2047 HT_ (h := ?_)
            refine pT 37 11 62 4095 HT_ (h := ?_)
            refine pT 37 12 63 8191 HT_ (h := ?_)
            refine pT 37 13 64 16383 HT_ (h := ?_)
            refine tT 37 14 65 32767 HT_ HW_ hHeld (h := ?_)
            refine pT 37 15 66 65535 HT_ (h := ?_)
            refine pT 37 16 67 131071 HT_ (h := ?_)
            refine pT 37 17 68 262143 HT_ (h := ?_)
            refine pT 37 19 70 786431 HT_ (h := ?_)
            refine pT 37 20 71 1835007 HT_ (h := ?_)
            refine pT 37 21 72 3932159 HT_ (h := ?_)
            refine pT 37 22 73 8126463 HT_ (h := ?_)
            refine tT 37 18 69 8388607 HT_ HW_ hHeld (h := ?_)
            refine tT 37 23 74 16777215 HT_ HW_ hHeld (h := ?_)
            refine pT 37 24 75 33554431 HT_ (h := ?_)
            refine pT 37 25 76 67108863 HT_ (h := ?_)
            refine pT 37 26 77 134217727 HT_ (h := ?_)
            refine pT 37 28 79 402653183 HT_ (h := ?_)
            refine pT 37 29 80 939524095 HT_ (h := ?_)
            refine pT 37 30 81 2013265919 HT_ (h := ?_)
            refine pT 37 31 82 4160749567 HT_ (h := ?_)
            refine tT 37 27 78 4294967295 HT_ HW_ hHeld (h := ?_)
            refine tT 37 32 83 8589934591 HT_ HW_ hHeld (h := ?_)
            refine pT 37 33 84 17179869183 HT_ (h := ?_)
            refine pT 37 34 85 34359738367 HT_ (h := ?_)
            refine pT 37 35 86 68719476735 HT_ (h := ?_)
            refine pT 37 36 87 137438953471 HT_ (h := ?_)
            refine done_ (done_of HT_.out (by kernel_rfl)) ?_
            try go_wp2
            go_ret
            exact ⟨rfl, HB.out⟩
          ·
           rw [if_neg c32] at H
           have c32b0 : (((rd_T111 l0_8 x4_2).f0) == ((rd_T110 t188 x4_2).f0)) = false := beq_eq_false_iff_ne.mpr c32
           have c32b1 : (((rd_T111 l0_8 x4_2).f0) != ((rd_T110 t188 x4_2).f0)) = true := bne_iff_ne.mpr c32
           obtain rfl := oI H
           obtain ⟨Ao50, co50, eo50⟩ := Kd.R_slice HO_3.out
           subst eo50
           have hz51 := bx9 BK186.out
           have p191 : 0 ≤ (x4_2 : Int) := oD
           have q191 : x4_2 < (l0_8.length : Int) := oD
           obtain ⟨ad191, A191_2, c191_2, e191, hx191_0, hx191_1, hx191_2, hl191_2, hi191_2⟩ := at_T111 HR0_8.out x4_2 p191 q191
           cases e191
           replace hx191_0 := cU HB hx191_0
           replace hx191_1 := cU HB hx191_1
           replace hx191_2 := cU HB hx191_2
           have HR191_2 := aM hi191_2
           have HC191_2 := aM hl191_2
           clear hi191_2 hl191_2
           replace p191 := eq_true p191
           replace q191 := eq_true q191
           try go_wp2_with (first | ((with_reducible refine gate_dst (N := 5) rfl ?_); (try (refine gate_guard (by rfl) ?_; dsimp only)); refine bxE 5 #[.int .i64 0, .int .i64 0, .slice none 0 0] 111 (h := ?_); intro gb192 hg w52 hbox hb; replace HO_3 := rst HO_3 hb; have BK192 := aM (hbox); have GW192 := gE hg HB; have GE192 := gE hg HB; replace HB := bst HB hb; have NB186_192 := aM ((by rw [hg]; exact Nat.ne_of_lt (blk_lt (g := gb186) (o := .cells #[.int .i64 a0_0, .int .i64 a0_1, .int .i64 a0_2, .int .i64 a0_3, .int .i64 a0_4, .int .i64 a0_5, .int .i64 a0_6, .slice A0_7 l0_7.length c0_7, .slice (some ad191) l0_8.length c0_8] 73 (0, 0)) BK186.out) : gb186 ≠ gb192)); have NB192_186 := aM ((by rw [hg]; exact Nat.ne_of_gt (blk_lt (g := gb186) (o := .cells #[.int .i64 a0_0, .int .i64 a0_1, .int .i64 a0_2, .int .i64 a0_3, .int .i64 a0_4, .int .i64 a0_5, .int .i64 a0_6, .slice A0_7 l0_7.length c0_7, .slice (some ad191) l0_8.length c0_8] 73 (0, 0)) BK186.out) : gb192 ≠ gb186)); replace BK186 := kst BK186 hb; clear hb hbox hg; have hnb53 := NB192_186.out; have hnc53 := NB186_192.out; have hz54 := bx3 BK192.out))
           have n0_ : Aside0 (Kd.R k110 110 (((w52.setCell ⟨gb192, 0, none⟩ (.int .i64 ((rd_T111 l0_8 x4_2).f0))).setCell ⟨gb192, 1, none⟩ (.int .i64 ((rd_T111 l0_8 x4_2).f1))).setCell ⟨gb192, 2, none⟩ (.slice A191_2 ((rd_T111 l0_8 x4_2).f2).length c191_2)) w.heap.size (fun _ => True) (.slice Ao50 t188.length co50) t188) := ⟨by (with_reducible repeat (first | apply Kd.R_alloc | apply Kd.R_drewN | apply Kd.R_drew)); exact Kd.R_mono (Kd.R_far (p := ⟨gb192, 2, none⟩) (Kd.R_far (p := ⟨gb192, 1, none⟩) (Kd.R_far (p := ⟨gb192, 0, none⟩) (Kd.R_types HO_3.out BK192.out (by decide)) (fun _ hk => hk.2) (.int .i64 ((rd_T111 l0_8 x4_2).f0))) (fun _ hk => hk.2) (.int .i64 ((rd_T111 l0_8 x4_2).f1))) (fun _ hk => hk.2) (.slice A191_2 ((rd_T111 l0_8 x4_2).f2).length c191_2)) (fun _ hk => trivial)⟩
           have n1_ : Aside0 ((((w52.setCell ⟨gb192, 0, none⟩ (.int .i64 ((rd_T111 l0_8 x4_2).f0))).setCell ⟨gb192, 1, none⟩ (.int .i64 ((rd_T111 l0_8 x4_2).f1))).setCell ⟨gb192, 2, none⟩ (.slice A191_2 ((rd_T111 l0_8 x4_2).f2).length c191_2)).heap[gb186]? = some (.cells #[.int .i64 a0_0, .int .i64 a0_1, .int .i64 a0_2, .int .i64 a0_3, .int .i64 a0_4, .int .i64 a0_5, .int .i64 a0_6, .slice A0_7 l0_7.length c0_7, .slice (some ad191) l0_8.length c0_8] 73 (0, 0))) := ⟨by (with_reducible repeat (first | refine blk_drewN ?_ _ | refine blk_drew ?_ | refine blk_alloc ?_ _)); refine blk_far ?_ NB186_192.out _; (with_reducible repeat (first | refine blk_drewN ?_ _ | refine blk_drew ?_ | refine blk_alloc ?_ _)); refine blk_far ?_ NB186_192.out _; (with_reducible repeat (first | refine blk_drewN ?_ _ | refine blk_drew ?_ | refine blk_alloc ?_ _)); refine blk_far ?_ NB186_192.out _; (with_reducible repeat (first | refine blk_drewN ?_ _ | refine blk_drew ?_ | refine blk_alloc ?_ _)); exact BK186.out⟩
           have n2_ : Aside0 ((((w52.setCell ⟨gb192, 0, none⟩ (.int .i64 ((rd_T111 l0_8 x4_2).f0))).setCell ⟨gb192, 1, none⟩ (.int .i64 ((rd_T111 l0_8 x4_2).f1))).setCell ⟨gb192, 2, none⟩ (.slice A191_2 ((rd_T111 l0_8 x4_2).f2).length c191_2)).heap[gb192]? = some (.cells #[.int .i64 ((rd_T111 l0_8 x4_2).f0), .int .i64 ((rd_T111 l0_8 x4_2).f1), .slice A191_2 ((rd_T111 l0_8 x4_2).f2).length c191_2] 111 (0, 0))) := ⟨by (with_reducible repeat (first | refine blk_drewN ?_ _ | refine blk_drew ?_ | refine blk_alloc ?_ _)); refine blk_put (cs := #[.int .i64 ((rd_T111 l0_8 x4_2).f0), .int .i64 ((rd_T111 l0_8 x4_2).f1), .slice none 0 0]) ?_ 2 _ rfl; (with_reducible repeat (first | refine blk_drewN ?_ _ | refine blk_drew ?_ | refine blk_alloc ?_ _)); refine blk_put (cs := #[.int .i64 ((rd_T111 l0_8 x4_2).f0), .int .i64 0, .slice none 0 0]) ?_ 1 _ rfl; (with_reducible repeat (first | refine blk_drewN ?_ _ | refine blk_drew ?_ | refine blk_alloc ?_ _)); refine blk_put (cs := #[.int .i64 0, .int .i64 0, .slice none 0 0]) ?_ 0 _ rfl; (with_reducible repeat (first | refine blk_drewN ?_ _ | refine blk_drew ?_ | refine blk_alloc ?_ _)); exact BK192.out⟩
           have n3_ : Aside0 (Below w.heap.size w (((w52.setCell ⟨gb192, 0, none⟩ (.int .i64 ((rd_T111 l0_8 x4_2).f0))).setCell ⟨gb192, 1, none⟩ (.int .i64 ((rd_T111 l0_8 x4_2).f1))).setCell ⟨gb192, 2, none⟩ (.slice A191_2 ((rd_T111 l0_8 x4_2).f2).length c191_2))) := ⟨bZ⟩
           (try clear HO_3)
           (try clear BK186)
           (try clear BK192)
           (try clear HB)
           generalize (((w52.setCell ⟨gb192, 0, none⟩ (.int .i64 ((rd_T111 l0_8 x4_2).f0))).setCell ⟨gb192, 1, none⟩ (.int .i64 ((rd_T111 l0_8 x4_2).f1))).setCell ⟨gb192, 2, none⟩ (.slice A191_2 ((rd_T111 l0_8 x4_2).f2).length c191_2)) = w55 at n0_ n1_ n2_ n3_ ⊢
           have HO_3 := n0_
           have BK186 := n1_
           have BK192 := n2_
           have HB := n3_
           clear n0_ n1_ n2_ n3_
           replace HO_3 := aM (Kd.R_drew HO_3.out)
           replace BK186 := aM (blk_drew BK186.out)
           replace BK192 := aM (blk_drew BK192.out)
           replace HB := aM (below_drew1 HB.out)
           have p193 : 0 ≤ (x4_2 : Int) := oD
           have q193 : x4_2 < (t188.length : Int) := oD
           obtain ⟨ad193, e193, hx193_0, hx193_1⟩ := at_T110 (Kd.R_reads' HO_3.out).2.2 x4_2 p193 q193
           cases e193
           replace p193 := eq_true p193
           replace q193 := eq_true q193
           have p195 : 0 ≤ (x4_2 : Int) := oD
           have q195 : x4_2 < (t188.length : Int) := oD
           obtain ⟨ad195, e195, hx195_0, hx195_1⟩ := at_T110 (Kd.R_reads' HO_3.out).2.2 x4_2 p195 q195
           obtain rfl : ad193 = ad195 := (by injection e195)
           replace p195 := eq_true p195
           replace q195 := eq_true q195
           have p196 : 0 ≤ (x4_2 : Int) := oD
           have q196 : x4_2 < (t188.length : Int) := oD
           obtain ⟨ad196, e196, hx196_0, hx196_1⟩ := at_T110 (Kd.R_reads' HO_3.out).2.2 x4_2 p196 q196
           obtain rfl : ad193 = ad196 := (by injection e196)
           replace p196 := eq_true p196
           replace q196 := eq_true q196
           refine start_ (n := 37) (S := fun w' => w'.cell? ⟨gb192, 0, none⟩ = some (.int .i64 ((rd_T111 l0_8 x4_2).f0)) ∧ w'.cell? ⟨gb192, 1, none⟩ = some (.int .i64 ((rd_T111 l0_8 x4_2).f1)) ∧ w'.cell? ⟨gb192, 2, none⟩ = some (.slice A191_2 ((rd_T111 l0_8 x4_2).f2).length c191_2) ∧ w'.cell? (ad193.add ((x4_2).toNat * 2)) = some (.int .i64 ((rd_T110 t188 x4_2).f0)) ∧ w'.cell? ⟨(ad193.add ((x4_2).toNat * 2)).block, (ad193.add ((x4_2).toNat * 2)).off + 1, none⟩ = some (.int .i64 ((rd_T110 t188 x4_2).f1)) ∧ w'.cell? (ad193.add ((x4_2).toNat * 2)) = some (.int .i64 ((rd_T110 t188 x4_2).f0)) ∧ w'.cell? ⟨(ad193.add ((x4_2).toNat * 2)).block, (ad193.add ((x4_2).toNat * 2)).off + 1, none⟩ = some (.int .i64 ((rd_T110 t188 x4_2).f1)) ∧ w'.cell? (ad193.add ((x4_2).toNat * 2)) = some (.int .i64 ((rd_T110 t188 x4_2).f0)) ∧ w'.cell? ⟨(ad193.add ((x4_2).toNat * 2)).block, (ad193.add ((x4_2).toNat * 2)).off + 1, none⟩ = some (.int .i64 ((rd_T110 t188 x4_2).f1))) (ds := []) (bA 37 0) (by kernel_rfl) rfl (by kernel_rfl) ⟨cL BK192 0, cL BK192 1, cL BK192 2, hx193_0, hx193_1, hx195_0, hx195_1, hx196_0, hx196_1⟩ (fun hHeld => ?_); refine with_tabW credenzaref18_Right.tab10 credenzaref18_Right.bits10 (fun HT_ HW_ => ?_)
           generalize w55.drew = w56 at HO_3 BK186 BK192 HB hx193_0 hx193_1 hx195_0 hx195_1 hx196_0 hx196_1 hHeld ⊢
           refine pT 37 0 51 1 HT_ (h := ?_)
           refine pT 37 3 54 9 HT_ (h := ?_)
           refine pT 37 4 55 25 HT_ (h := ?_)
           refine pT 37 5 56 57 HT_ (h := ?_)
           refine tT 37 1 52 59 HT_ HW_ hHeld (h := ?_)
           refine pT 37 2 53 63 HT_ (h := ?_)
           refine tT 37 6 57 127 HT_ HW_ hHeld (h := ?_)
           refine one_ (i := 7) (N := some 58) (bA 37 255) rfl rfl (one_of HT_.out (by kernel_rfl)) (by decide) (fun K hK => ?_)
           refine gA Try.func60 #[.agg #[.int .i64 ((rd_T110 t188 x4_2).f0), .int .i64 ((rd_T110 t188 x4_2).f1)]] (h := ?_)
           with_reducible refine (credenzaref18_count.calls ((rd_T110 t188 x4_2).f0) ((rd_T110 t188 x4_2).f1) t194 _ A21.out).mono ?_
           rintro e w57 ⟨rfl, hb⟩
           have HS3_ := (hb.cell (World.block_lt_of_cell? _ _ (hHeld.2.2.2.1))).trans (hHeld.2.2.2.1)
           have HS4_ := (hb.cell (World.block_lt_of_cell? _ _ (hHeld.2.2.2.2.1))).trans (hHeld.2.2.2.2.1)
           have HS5_ := (hb.cell (World.block_lt_of_cell? _ _ (hHeld.2.2.2.2.2.1))).trans (hHeld.2.2.2.2.2.1)
           have HS6_ := (hb.cell (World.block_lt_of_cell? _ _ (hHeld.2.2.2.2.2.2.1))).trans (hHeld.2.2.2.2.2.2.1)
           have HS7_ := (hb.cell (World.block_lt_of_cell? _ _ (hHeld.2.2.2.2.2.2.2.1))).trans (hHeld.2.2.2.2.2.2.2.1)
           have HS8_ := (hb.cell (World.block_lt_of_cell? _ _ (hHeld.2.2.2.2.2.2.2.2))).trans (hHeld.2.2.2.2.2.2.2.2)
           refine ⟨_, rfl, ?_⟩
           replace HO_3 := aM (Kd.R_below (kR HO_3.out) hb)
           replace BK186 := aM (blk_below (g := gb186) (o := .cells #[.int .i64 a0_0, .int .i64 a0_1, .int .i64 a0_2, .int .i64 a0_3, .int .i64 a0_4, .int .i64 a0_5, .int .i64 a0_6, .slice A0_7 l0_7.length c0_7, .slice (some ad191) l0_8.length c0_8] 73 (0, 0)) (bK BK186.out) hb)
           replace BK192 := aM (blk_below (g := gb192) (o := .cells #[.int .i64 ((rd_T111 l0_8 x4_2).f0), .int .i64 ((rd_T111 l0_8 x4_2).f1), .slice A191_2 ((rd_T111 l0_8 x4_2).f2).length c191_2] 111 (0, 0)) (bK BK192.out) hb)
           replace HB := aM (below_step bZ hb)
           (try clear hb)
           (try clear hb2)
           (try clear hk)
           (try clear hi)
           refine hK.out _ _ ⟨cL BK192 0, cL BK192 1, cL BK192 2, HS3_, HS4_, HS5_, HS6_, HS7_, HS8_⟩ (fun hHeld => ?_)
           clear hK K
           refine nT 58 (h := ?_)
           refine pT 37 8 59 511 HT_ (h := ?_)
           refine pT 37 9 60 1023 HT_ (h := ?_)
           refine pT 37 10 61 2047 HT_ (h := ?_)
           refine pT 37 11 62 4095 HT_ (h := ?_)
           refine pT 37 12 63 8191 HT_ (h := ?_)
           refine pT 37 13 64 16383 HT_ (h := ?_)
           refine tT 37 14 65 32767 HT_ HW_ hHeld (h := ?_)
           refine pT 37 15 66 65535 HT_ (h := ?_)
           refine pT 37 16 67 131071 HT_ (h := ?_)
           refine pT 37 17 68 262143 HT_ (h := ?_)
           refine pT 37 19 70 786431 HT_ (h := ?_)
           refine pT 37 20 71 1835007 HT_ (h := ?_)
           refine pT 37 21 72 3932159 HT_ (h := ?_)
           refine pT 37 22 73 8126463 HT_ (h := ?_)
           refine tT 37 18 69 8388607 HT_ HW_ hHeld (h := ?_)
           refine tT 37 23 74 16777215 HT_ HW_ hHeld (h := ?_)
           refine pT 37 24 75 33554431 HT_ (h := ?_)
           refine pT 37 25 76 67108863 HT_ (h := ?_)
           refine pT 37 26 77 134217727 HT_ (h := ?_)
           refine pT 37 27 78 268435455 HT_ (h := ?_)
           refine pT 37 28 79 536870911 HT_ (h := ?_)
           refine pT 37 29 80 1073741823 HT_ (h := ?_)
           refine pT 37 30 81 2147483647 HT_ (h := ?_)
           refine pT 37 31 82 4294967295 HT_ (h := ?_)
           refine pT 37 32 83 8589934591 HT_ (h := ?_)
           refine pT 37 33 84 17179869183 HT_ (h := ?_)
           refine pT 37 34 85 34359738367 HT_ (h := ?_)
           refine pT 37 35 86 68719476735 HT_ (h := ?_)
           refine pT 37 36 87 137438953471 HT_ (h := ?_)
           refine done_ (done_of HT_.out (by kernel_rfl)) ?_
           try go_wp2
           go_ret
           exact ⟨rfl, HB.out⟩
        ·
         rw [if_neg c22] at H
         have c22b0 : ((((rd_T111 l0_8 x4_2).f2).length : Int) == t194) = false := beq_eq_false_iff_ne.mpr c22
         have c22b1 : ((((rd_T111 l0_8 x4_2).f2).length : Int) != t194) = true := bne_iff_ne.mpr c22
         obtain rfl := oI H
         obtain ⟨Ao58, co58, eo58⟩ := Kd.R_slice HO_3.out
         subst eo58
         have hz59 := bx9 BK186.out
         have p191 : 0 ≤ (x4_2 : Int) := oD
         have q191 : x4_2 < (l0_8.length : Int) := oD
         obtain ⟨ad191, A191_2, c191_2, e191, hx191_0, hx191_1, hx191_2, hl191_2, hi191_2⟩ := at_T111 HR0_8.out x4_2 p191 q191
         cases e191
         replace hx191_0 := cU HB hx191_0
         replace hx191_1 := cU HB hx191_1
         replace hx191_2 := cU HB hx191_2
         have HR191_2 := aM hi191_2
         have HC191_2 := aM hl191_2
         clear hi191_2 hl191_2
         replace p191 := eq_true p191
         replace q191 := eq_true q191
         try go_wp2_with (first | ((with_reducible refine gate_dst (N := 5) rfl ?_); (try (refine gate_guard (by rfl) ?_; dsimp only)); refine bxE 5 #[.int .i64 0, .int .i64 0, .slice none 0 0] 111 (h := ?_); intro gb192 hg w60 hbox hb; replace HO_3 := rst HO_3 hb; have BK192 := aM (hbox); have GW192 := gE hg HB; have GE192 := gE hg HB; replace HB := bst HB hb; have NB186_192 := aM ((by rw [hg]; exact Nat.ne_of_lt (blk_lt (g := gb186) (o := .cells #[.int .i64 a0_0, .int .i64 a0_1, .int .i64 a0_2, .int .i64 a0_3, .int .i64 a0_4, .int .i64 a0_5, .int .i64 a0_6, .slice A0_7 l0_7.length c0_7, .slice (some ad191) l0_8.length c0_8] 73 (0, 0)) BK186.out) : gb186 ≠ gb192)); have NB192_186 := aM ((by rw [hg]; exact Nat.ne_of_gt (blk_lt (g := gb186) (o := .cells #[.int .i64 a0_0, .int .i64 a0_1, .int .i64 a0_2, .int .i64 a0_3, .int .i64 a0_4, .int .i64 a0_5, .int .i64 a0_6, .slice A0_7 l0_7.length c0_7, .slice (some ad191) l0_8.length c0_8] 73 (0, 0)) BK186.out) : gb192 ≠ gb186)); replace BK186 := kst BK186 hb; clear hb hbox hg; have hnb61 := NB192_186.out; have hnc61 := NB186_192.out; have hz62 := bx3 BK192.out))
         have n0_ : Aside0 (Kd.R k110 110 (((w60.setCell ⟨gb192, 0, none⟩ (.int .i64 ((rd_T111 l0_8 x4_2).f0))).setCell ⟨gb192, 1, none⟩ (.int .i64 ((rd_T111 l0_8 x4_2).f1))).setCell ⟨gb192, 2, none⟩ (.slice A191_2 ((rd_T111 l0_8 x4_2).f2).length c191_2)) w.heap.size (fun _ => True) (.slice Ao58 t188.length co58) t188) := ⟨by (with_reducible repeat (first | apply Kd.R_alloc | apply Kd.R_drewN | apply Kd.R_drew)); exact Kd.R_mono (Kd.R_far (p := ⟨gb192, 2, none⟩) (Kd.R_far (p := ⟨gb192, 1, none⟩) (Kd.R_far (p := ⟨gb192, 0, none⟩) (Kd.R_types HO_3.out BK192.out (by decide)) (fun _ hk => hk.2) (.int .i64 ((rd_T111 l0_8 x4_2).f0))) (fun _ hk => hk.2) (.int .i64 ((rd_T111 l0_8 x4_2).f1))) (fun _ hk => hk.2) (.slice A191_2 ((rd_T111 l0_8 x4_2).f2).length c191_2)) (fun _ hk => trivial)⟩
         have n1_ : Aside0 ((((w60.setCell ⟨gb192, 0, none⟩ (.int .i64 ((rd_T111 l0_8 x4_2).f0))).setCell ⟨gb192, 1, none⟩ (.int .i64 ((rd_T111 l0_8 x4_2).f1))).setCell ⟨gb192, 2, none⟩ (.slice A191_2 ((rd_T111 l0_8 x4_2).f2).length c191_2)).heap[gb186]? = some (.cells #[.int .i64 a0_0, .int .i64 a0_1, .int .i64 a0_2, .int .i64 a0_3, .int .i64 a0_4, .int .i64 a0_5, .int .i64 a0_6, .slice A0_7 l0_7.length c0_7, .slice (some ad191) l0_8.length c0_8] 73 (0, 0))) := ⟨by (with_reducible repeat (first | refine blk_drewN ?_ _ | refine blk_drew ?_ | refine blk_alloc ?_ _)); refine blk_far ?_ NB186_192.out _; (with_reducible repeat (first | refine blk_drewN ?_ _ | refine blk_drew ?_ | refine blk_alloc ?_ _)); refine blk_far ?_ NB186_192.out _; (with_reducible repeat (first | refine blk_drewN ?_ _ | refine blk_drew ?_ | refine blk_alloc ?_ _)); refine blk_far ?_ NB186_192.out _; (with_reducible repeat (first | refine blk_drewN ?_ _ | refine blk_drew ?_ | refine blk_alloc ?_ _)); exact BK186.out⟩
         have n2_ : Aside0 ((((w60.setCell ⟨gb192, 0, none⟩ (.int .i64 ((rd_T111 l0_8 x4_2).f0))).setCell ⟨gb192, 1, none⟩ (.int .i64 ((rd_T111 l0_8 x4_2).f1))).setCell ⟨gb192, 2, none⟩ (.slice A191_2 ((rd_T111 l0_8 x4_2).f2).length c191_2)).heap[gb192]? = some (.cells #[.int .i64 ((rd_T111 l0_8 x4_2).f0), .int .i64 ((rd_T111 l0_8 x4_2).f1), .slice A191_2 ((rd_T111 l0_8 x4_2).f2).length c191_2] 111 (0, 0))) := ⟨by (with_reducible repeat (first | refine blk_drewN ?_ _ | refine blk_drew ?_ | refine blk_alloc ?_ _)); refine blk_put (cs := #[.int .i64 ((rd_T111 l0_8 x4_2).f0), .int .i64 ((rd_T111 l0_8 x4_2).f1), .slice none 0 0]) ?_ 2 _ rfl; (with_reducible repeat (first | refine blk_drewN ?_ _ | refine blk_drew ?_ | refine blk_alloc ?_ _)); refine blk_put (cs := #[.int .i64 ((rd_T111 l0_8 x4_2).f0), .int .i64 0, .slice none 0 0]) ?_ 1 _ rfl; (with_reducible repeat (first | refine blk_drewN ?_ _ | refine blk_drew ?_ | refine blk_alloc ?_ _)); refine blk_put (cs := #[.int .i64 0, .int .i64 0, .slice none 0 0]) ?_ 0 _ rfl; (with_reducible repeat (first | refine blk_drewN ?_ _ | refine blk_drew ?_ | refine blk_alloc ?_ _)); exact BK192.out⟩
         have n3_ : Aside0 (Below w.heap.size w (((w60.setCell ⟨gb192, 0, none⟩ (.int .i64 ((rd_T111 l0_8 x4_2).f0))).setCell ⟨gb192, 1, none⟩ (.int .i64 ((rd_T111 l0_8 x4_2).f1))).setCell ⟨gb192, 2, none⟩ (.slice A191_2 ((rd_T111 l0_8 x4_2).f2).length c191_2))) := ⟨bZ⟩
         (try clear HO_3)
         (try clear BK186)
         (try clear BK192)
         (try clear HB)
         generalize (((w60.setCell ⟨gb192, 0, none⟩ (.int .i64 ((rd_T111 l0_8 x4_2).f0))).setCell ⟨gb192, 1, none⟩ (.int .i64 ((rd_T111 l0_8 x4_2).f1))).setCell ⟨gb192, 2, none⟩ (.slice A191_2 ((rd_T111 l0_8 x4_2).f2).length c191_2)) = w63 at n0_ n1_ n2_ n3_ ⊢
         have HO_3 := n0_
         have BK186 := n1_
         have BK192 := n2_
         have HB := n3_
         clear n0_ n1_ n2_ n3_
         replace HO_3 := aM (Kd.R_drew HO_3.out)
         replace BK186 := aM (blk_drew BK186.out)
         replace BK192 := aM (blk_drew BK192.out)
         replace HB := aM (below_drew1 HB.out)
         have p193 : 0 ≤ (x4_2 : Int) := oD
         have q193 : x4_2 < (t188.length : Int) := oD
         obtain ⟨ad193, e193, hx193_0, hx193_1⟩ := at_T110 (Kd.R_reads' HO_3.out).2.2 x4_2 p193 q193
         cases e193
         replace p193 := eq_true p193
         replace q193 := eq_true q193
         refine start_ (n := 37) (S := fun w' => w'.cell? ⟨gb192, 0, none⟩ = some (.int .i64 ((rd_T111 l0_8 x4_2).f0)) ∧ w'.cell? ⟨gb192, 1, none⟩ = some (.int .i64 ((rd_T111 l0_8 x4_2).f1)) ∧ w'.cell? ⟨gb192, 2, none⟩ = some (.slice A191_2 ((rd_T111 l0_8 x4_2).f2).length c191_2) ∧ w'.cell? (ad193.add ((x4_2).toNat * 2)) = some (.int .i64 ((rd_T110 t188 x4_2).f0)) ∧ w'.cell? ⟨(ad193.add ((x4_2).toNat * 2)).block, (ad193.add ((x4_2).toNat * 2)).off + 1, none⟩ = some (.int .i64 ((rd_T110 t188 x4_2).f1))) (ds := []) (bA 37 0) (by kernel_rfl) rfl (by kernel_rfl) ⟨cL BK192 0, cL BK192 1, cL BK192 2, hx193_0, hx193_1⟩ (fun hHeld => ?_); refine with_tabW credenzaref18_Right.tab10 credenzaref18_Right.bits10 (fun HT_ HW_ => ?_)
         generalize w63.drew = w64 at HO_3 BK186 BK192 HB hx193_0 hx193_1 hHeld ⊢
         refine pT 37 0 51 1 HT_ (h := ?_)
         refine pT 37 3 54 9 HT_ (h := ?_)
         refine pT 37 4 55 25 HT_ (h := ?_)
         refine pT 37 5 56 57 HT_ (h := ?_)
         refine tT 37 1 52 59 HT_ HW_ hHeld (h := ?_)
         refine pT 37 2 53 63 HT_ (h := ?_)
         refine tT 37 6 57 127 HT_ HW_ hHeld (h := ?_)
         refine one_ (i := 7) (N := some 58) (bA 37 255) rfl rfl (one_of HT_.out (by kernel_rfl)) (by decide) (fun K hK => ?_)
         refine gA Try.func60 #[.agg #[.int .i64 ((rd_T110 t188 x4_2).f0), .int .i64 ((rd_T110 t188 x4_2).f1)]] (h := ?_)
         with_reducible refine (credenzaref18_count.calls ((rd_T110 t188 x4_2).f0) ((rd_T110 t188 x4_2).f1) t194 _ A21.out).mono ?_
         rintro e w65 ⟨rfl, hb⟩
         have HS3_ := (hb.cell (World.block_lt_of_cell? _ _ (hHeld.2.2.2.1))).trans (hHeld.2.2.2.1)
         have HS4_ := (hb.cell (World.block_lt_of_cell? _ _ (hHeld.2.2.2.2))).trans (hHeld.2.2.2.2)
         refine ⟨_, rfl, ?_⟩
         replace HO_3 := aM (Kd.R_below (kR HO_3.out) hb)
         replace BK186 := aM (blk_below (g := gb186) (o := .cells #[.int .i64 a0_0, .int .i64 a0_1, .int .i64 a0_2, .int .i64 a0_3, .int .i64 a0_4, .int .i64 a0_5, .int .i64 a0_6, .slice A0_7 l0_7.length c0_7, .slice (some ad191) l0_8.length c0_8] 73 (0, 0)) (bK BK186.out) hb)
         replace BK192 := aM (blk_below (g := gb192) (o := .cells #[.int .i64 ((rd_T111 l0_8 x4_2).f0), .int .i64 ((rd_T111 l0_8 x4_2).f1), .slice A191_2 ((rd_T111 l0_8 x4_2).f2).length c191_2] 111 (0, 0)) (bK BK192.out) hb)
         replace HB := aM (below_step bZ hb)
         (try clear hb)
         (try clear hb2)
         (try clear hk)
         (try clear hi)
         refine hK.out _ _ ⟨cL BK192 0, cL BK192 1, cL BK192 2, HS3_, HS4_⟩ (fun hHeld => ?_)
         clear hK K
         refine nT 58 (h := ?_)
         refine pT 37 8 59 511 HT_ (h := ?_)
         refine pT 37 9 60 1023 HT_ (h := ?_)
         refine pT 37 10 61 2047 HT_ (h := ?_)
         refine pT 37 11 62 4095 HT_ (h := ?_)
         refine pT 37 12 63 8191 HT_ (h := ?_)
         refine pT 37 13 64 16383 HT_ (h := ?_)
         refine pT 37 14 65 32767 HT_ (h := ?_)
         refine pT 37 15 66 65535 HT_ (h := ?_)
         refine pT 37 16 67 131071 HT_ (h := ?_)
         refine pT 37 17 68 262143 HT_ (h := ?_)
         refine pT 37 18 69 524287 HT_ (h := ?_)
         refine pT 37 19 70 1048575 HT_ (h := ?_)
         refine pT 37 20 71 2097151 HT_ (h := ?_)
         refine pT 37 21 72 4194303 HT_ (h := ?_)
         refine pT 37 22 73 8388607 HT_ (h := ?_)
         refine pT 37 23 74 16777215 HT_ (h := ?_)
         refine pT 37 24 75 33554431 HT_ (h := ?_)
         refine pT 37 25 76 67108863 HT_ (h := ?_)
         refine pT 37 26 77 134217727 HT_ (h := ?_)
         refine pT 37 27 78 268435455 HT_ (h := ?_)
         refine pT 37 28 79 536870911 HT_ (h := ?_)
         refine pT 37 29 80 1073741823 HT_ (h := ?_)
         refine pT 37 30 81 2147483647 HT_ (h := ?_)
         refine pT 37 31 82 4294967295 HT_ (h := ?_)
         refine pT 37 32 83 8589934591 HT_ (h := ?_)
         refine pT 37 33 84 17179869183 HT_ (h := ?_)
         refine pT 37 34 85 34359738367 HT_ (h := ?_)
         refine pT 37 35 86 68719476735 HT_ (h := ?_)
         refine pT 37 36 87 137438953471 HT_ (h := ?_)
         refine done_ (done_of HT_.out (by kernel_rfl)) ?_
         try go_wp2
         go_ret
         exact ⟨rfl, HB.out⟩
       ·
        rw [if_neg c18] at H
        have c18b0 : decide (x4_2 < (t188.length : Int)) = false := dF c18
        clear c18
        have H' := aM H
        clear H
        obtain ⟨Ao66, co66, eo66⟩ := Kd.R_slice HO_3.out
        subst eo66
        go_wp2
        go_loopg [6] k2 (fun kq v6 w' => ∃ (x6_3 : Int), v6 = .int .i64 x6_3 ∧ Aside0 (credenzaref18_Right.l1 kq x6_3 a0_0 a0_1 a0_2 a0_3 a0_4 a0_5 a0_6 l0_7 l0_8 = some r) ∧ Aside0 (kq ≤ k2) ∧ Aside0 (w'.heap[gb186]? = some (.cells #[.int .i64 a0_0, .int .i64 a0_1, .int .i64 a0_2, .int .i64 a0_3, .int .i64 a0_4, .int .i64 a0_5, .int .i64 a0_6, (.slice A0_7 l0_7.length c0_7), (.slice A0_8 l0_8.length c0_8)] 73 (0, 0))) ∧ Aside0 (Below w.heap.size w w'))
        case atStart => exact ⟨(0), rfl, H', ⟨Nat.le_refl _⟩, BK186, HB⟩
        case round =>
         clear H'
         try clear c1
         try clear p1
         try clear q1
         try clear hx1
         try clear c2
         try clear p2
         try clear c6
         try clear c18
         try clear c18b0
         try clear c19
         try clear p19
         try clear q19
         try clear hx19
         try clear c22
         try clear c22b0
         try clear c22b1
         try clear c60
         try clear c61
         try clear hz59
         try clear hz62
         try clear hx191_0
         try clear hx191_1
         try clear hx191_2
         try clear hx193_0
         try clear hx193_1
         try clear hx195_0
         try clear hx195_1
         try clear hx196_0
         try clear hx196_1
         try clear p191
         try clear p193
         try clear q191
         try clear q193
         obtain ⟨x6_3, rfl, HA, HK3, BK186, HB⟩ := hrel
         cases gk with
         | zero => exact absurd HA.out (by simp [credenzaref18_Right.l1])
         | succ k3 =>
          have H := HA.out
          clear HA
          simp only [credenzaref18_Right.l1] at H
          by_cases c67 : x6_3 < (l0_7.length : Int)
          ·
           rw [if_pos c67] at H
           have c67b0 : decide (x6_3 < (l0_7.length : Int)) = true := dT c67
           clear c67
           obtain ⟨c68, H⟩ := ifp H
           have c68b0 : decide (0 ≤ x6_3) = true := dT c68
           clear c68
           by_cases c69 : (rd l0_7 x6_3) < (-65536)
           ·
            rw [if_pos c69] at H
            have c69b0 : decide ((rd l0_7 x6_3) < (-65536)) = true := dT c69
            clear c69
            obtain rfl := oI H
            have hz70 := bx9 BK186.out
            have p198 : 0 ≤ (x6_3 : Int) := oD
            have q198 : x6_3 < (l0_7.length : Int) := oD
            obtain ⟨ad198, e198, hx198_0⟩ := Kd.at_int HR0_7.out x6_3 p198 q198
            cases e198
            replace hx198_0 := cU HB hx198_0
            replace p198 := eq_true p198
            replace q198 := eq_true q198
            go_wp2
            go_ret
            exact ⟨rfl, HB.out⟩
           ·
            rw [if_neg c69] at H
            have c69b0 : decide ((rd l0_7 x6_3) < (-65536)) = false := dF c69
            clear c69
            by_cases c71 : (rd l0_7 x6_3) > 65536
            ·
             rw [if_pos c71] at H
             have c71b0 : decide (65536 < (rd l0_7 x6_3)) = true := dT c71
             clear c71
             obtain rfl := oI H
             have hz72 := bx9 BK186.out
             have p198 : 0 ≤ (x6_3 : Int) := oD
             have q198 : x6_3 < (l0_7.length : Int) := oD
             obtain ⟨ad198, e198, hx198_0⟩ := Kd.at_int HR0_7.out x6_3 p198 q198
             cases e198
             replace hx198_0 := cU HB hx198_0
             replace p198 := eq_true p198
             replace q198 := eq_true q198
             have p199 : 0 ≤ (x6_3 : Int) := oD
             have q199 : x6_3 < (l0_7.length : Int) := oD
             obtain ⟨ad199, e199, hx199_0⟩ := Kd.at_int HR0_7.out x6_3 p199 q199
             obtain rfl : ad198 = ad199 := (by injection e199)
             replace hx199_0 := cU HB hx199_0
             replace p199 := eq_true p199
             replace q199 := eq_true q199
             go_wp2
             go_ret
             exact ⟨rfl, HB.out⟩
            ·
             rw [if_neg c71] at H
             have c71b0 : decide (65536 < (rd l0_7 x6_3)) = false := dF c71
             clear c71
             have H' := aM H
             clear H
             have hz73 := bx9 BK186.out
             have p198 : 0 ≤ (x6_3 : Int) := oD
             have q198 : x6_3 < (l0_7.length : Int) := oD
             obtain ⟨ad198, e198, hx198_0⟩ := Kd.at_int HR0_7.out x6_3 p198 q198
             cases e198
             replace hx198_0 := cU HB hx198_0
             replace p198 := eq_true p198
             replace q198 := eq_true q198
             have p199 : 0 ≤ (x6_3 : Int) := oD
             have q199 : x6_3 < (l0_7.length : Int) := oD
             obtain ⟨ad199, e199, hx199_0⟩ := Kd.at_int HR0_7.out x6_3 p199 q199
             obtain rfl : ad198 = ad199 := (by injection e199)
             replace hx199_0 := cU HB hx199_0
             replace p199 := eq_true p199
             replace q199 := eq_true q199
             go_wp2
             go_roundg k3
             case measure => have := HJ4.out; have := HK2.out; have := HK3.out; omega
             case rel => exact ⟨(wrap64 (x6_3 + 1)), rfl, H', ⟨by have := HJ4.out; have := HK2.out; have := HK3.out; omega⟩, BK186, HB⟩
          ·
           rw [if_neg c67] at H
           have c67b0 : decide (x6_3 < (l0_7.length : Int)) = false := dF c67
           clear c67
           have H' := aM H
           clear H
           have hz74 := bx9 BK186.out
           go_wp2
           go_loopg [7] k3 (fun kq v7 w' => ∃ (x7_4 : Int), v7 = .int .i64 x7_4 ∧ Aside0 (credenzaref18_Right.l2 kq x7_4 a0_0 a0_1 a0_2 a0_3 a0_4 a0_5 a0_6 l0_7 l0_8 = some r) ∧ Aside0 (kq ≤ k3) ∧ Aside0 (w'.heap[gb186]? = some (.cells #[.int .i64 a0_0, .int .i64 a0_1, .int .i64 a0_2, .int .i64 a0_3, .int .i64 a0_4, .int .i64 a0_5, .int .i64 a0_6, (.slice A0_7 l0_7.length c0_7), (.slice A0_8 l0_8.length c0_8)] 73 (0, 0))) ∧ Aside0 (Below w.heap.size w w'))
           case atStart => exact ⟨(0), rfl, H', ⟨Nat.le_refl _⟩, BK186, HB⟩
           case round =>
            clear H'
            try clear c1
            try clear p1
            try clear q1
            try clear hx1
            try clear c2
            try clear p2
            try clear c6
            try clear p6
            try clear c7
            try clear c18
            try clear c18b0
            try clear c19
            try clear p19
            try clear q19
            try clear hx19
            try clear c22
            try clear c22b0
            try clear c22b1
            try clear c60
            try clear c61
            try clear p64
            try clear c67
            try clear c67b0
            try clear c68
            try clear c68b0
            try clear c69
            try clear c69b0
            try clear c71
            try clear c71b0
            try clear hz59
            try clear hz62
            try clear hz70
            try clear hz72
            try clear hz73
            try clear hz74
            try clear hx191_0
            try clear hx191_1
            try clear hx191_2
            try clear hx193_0
            try clear hx193_1
            try clear hx195_0
            try clear hx195_1
            try clear hx196_0
            try clear hx196_1
            try clear hx198_0
            try clear hx199_0
            try clear p1
            try clear p19
            try clear p191
            try clear p193
            try clear p198
            try clear p199
            try clear p2
            try clear q1
            try clear q19
            try clear q191
            try clear q193
            try clear q198
            try clear q199
            obtain ⟨x7_4, rfl, HA, HK4, BK186, HB⟩ := hrel
            cases gk with
            | zero => exact absurd HA.out (by simp [credenzaref18_Right.l2])
            | succ k4 =>
             have H := HA.out
             clear HA
             simp only [credenzaref18_Right.l2] at H
             by_cases c75 : x7_4 < (l0_8.length : Int)
             ·
              rw [if_pos c75] at H
              have c75b0 : decide (x7_4 < (l0_8.length : Int)) = true := dT c75
              clear c75
              have H' := aM H
              clear H
              have hz76 := bx9 BK186.out
              go_wp2
              go_loopg [8] k4 (fun kq v8 w' => ∃ (x8_5 : Int), v8 = .int .i64 x8_5 ∧ Aside0 (credenzaref18_Right.l3 kq x7_4 x8_5 a0_0 a0_1 a0_2 a0_3 a0_4 a0_5 a0_6 l0_7 l0_8 = some r) ∧ Aside0 (kq ≤ k4) ∧ Aside0 (w'.heap[gb186]? = some (.cells #[.int .i64 a0_0, .int .i64 a0_1, .int .i64 a0_2, .int .i64 a0_3, .int .i64 a0_4, .int .i64 a0_5, .int .i64 a0_6, (.slice A0_7 l0_7.length c0_7), (.slice A0_8 l0_8.length c0_8)] 73 (0, 0))) ∧ Aside0 (Below w.heap.size w w'))
              case atStart => exact ⟨(0), rfl, H', ⟨Nat.le_refl _⟩, BK186, HB⟩
              case round =>
               clear H'
               try clear c1
               try clear p1
               try clear q1
               try clear hx1
               try clear c2
               try clear p2
               try clear c6
               try clear p6
               try clear c7
               try clear c18
               try clear c18b0
               try clear c19
               try clear p19
               try clear q19
               try clear hx19
               try clear c22
               try clear c22b0
               try clear c22b1
               try clear c60
               try clear c61
               try clear p64
               try clear c67
               try clear c67b0
               try clear c68
               try clear c68b0
               try clear c69
               try clear c69b0
               try clear c71
               try clear c71b0
               try clear c75
               try clear c75b0
               try clear hz59
               try clear hz62
               try clear hz70
               try clear hz72
               try clear hz73
               try clear hz74
               try clear hz76
               try clear hx191_0
               try clear hx191_1
               try clear hx191_2
               try clear hx193_0
               try clear hx193_1
               try clear hx195_0
               try clear hx195_1
               try clear hx196_0
               try clear hx196_1
               try clear hx198_0
               try clear hx199_0
               try clear p1
               try clear p19
               try clear p191
               try clear p193
               try clear p198
               try clear p199
               try clear p2
               try clear p6
               try clear p64
               try clear q1
               try clear q19
               try clear q191
               try clear q193
               try clear q198
               try clear q199
               obtain ⟨x8_5, rfl, HA, HK5, BK186, HB⟩ := hrel
               cases gk with
               | zero => exact absurd HA.out (by simp [credenzaref18_Right.l3])
               | succ k5 =>
                have H := HA.out
                clear HA
                simp only [credenzaref18_Right.l3] at H
                obtain ⟨c77, H⟩ := ifp H
                have c77b0 : decide (0 ≤ x7_4) = true := dT c77
                clear c77
                obtain ⟨c78, H⟩ := ifp H
                have c78b0 : decide (x7_4 < (l0_8.length : Int)) = true := dT c78
                clear c78
                by_cases c79 : x8_5 < (((rd_T111 l0_8 x7_4).f2).length : Int)
                ·
                 rw [if_pos c79] at H
                 have c79b0 : decide (x8_5 < (((rd_T111 l0_8 x7_4).f2).length : Int)) = true := dT c79
                 clear c79
                 obtain ⟨c80, H⟩ := ifp H
                 have c80b0 : decide (0 ≤ x8_5) = true := dT c80
                 clear c80
                 by_cases c81 : (rd ((rd_T111 l0_8 x7_4).f2) x8_5) < (-1048576)
                 ·
                  rw [if_pos c81] at H
                  have c81b0 : decide ((rd ((rd_T111 l0_8 x7_4).f2) x8_5) < (-1048576)) = true := dT c81
                  clear c81
                  obtain rfl := oI H
                  have hz82 := bx9 BK186.out
                  have p200 : 0 ≤ (x7_4 : Int) := oD
                  have q200 : x7_4 < (l0_8.length : Int) := oD
                  obtain ⟨ad200, A200_2, c200_2, e200, hx200_0, hx200_1, hx200_2, hl200_2, hi200_2⟩ := at_T111 HR0_8.out x7_4 p200 q200
                  cases e200
                  replace hx200_0 := cU HB hx200_0
                  replace hx200_1 := cU HB hx200_1
                  replace hx200_2 := cU HB hx200_2
                  have HR200_2 := aM hi200_2
                  have HC200_2 := aM hl200_2
                  clear hi200_2 hl200_2
                  replace p200 := eq_true p200
                  replace q200 := eq_true q200
                  have p201 : 0 ≤ (x7_4 : Int) := oD
                  have q201 : x7_4 < (l0_8.length : Int) := oD
                  obtain ⟨ad201, A201_2, c201_2, e201, hx201_0, hx201_1, hx201_2, hl201_2, hi201_2⟩ := at_T111 HR0_8.out x7_4 p201 q201
                  obtain rfl : ad200 = ad201 := (by injection e201)
                  replace hx201_0 := cU HB hx201_0
                  replace hx201_1 := cU HB hx201_1
                  replace hx201_2 := cU HB hx201_2
                  have HR201_2 := aM hi201_2
                  have HC201_2 := aM hl201_2
                  clear hi201_2 hl201_2
                  replace p201 := eq_true p201
                  replace q201 := eq_true q201
                  have ea_ := oI (hx200_2.symm.trans hx201_2)
                  injection ea_ with ea_ en_ ec_
                  subst ea_
                  subst ec_
                  clear en_
                  have p202 : 0 ≤ (x8_5 : Int) := oD
                  have q202 : x8_5 < (((rd_T111 l0_8 x7_4).f2).length : Int) := oD
                  obtain ⟨ad202, e202, hx202_0⟩ := Kd.at_int HR201_2.out x8_5 p202 q202
                  cases e202
                  replace hx202_0 := cU HB hx202_0
                  replace p202 := eq_true p202
                  replace q202 := eq_true q202
                  go_wp2
                  go_ret
                  exact ⟨rfl, HB.out⟩
                 ·
                  rw [if_neg c81] at H
                  have c81b0 : decide ((rd ((rd_T111 l0_8 x7_4).f2) x8_5) < (-1048576)) = false := dF c81
                  clear c81
                  by_cases c83 : (rd ((rd_T111 l0_8 x7_4).f2) x8_5) > 1048576
                  ·
                   rw [if_pos c83] at H
                   have c83b0 : decide (1048576 < (rd ((rd_T111 l0_8 x7_4).f2) x8_5)) = true := dT c83
                   clear c83
                   obtain rfl := oI H
                   have hz84 := bx9 BK186.out
                   have p200 : 0 ≤ (x7_4 : Int) := oD
                   have q200 : x7_4 < (l0_8.length : Int) := oD
                   obtain ⟨ad200, A200_2, c200_2, e200, hx200_0, hx200_1, hx200_2, hl200_2, hi200_2⟩ := at_T111 HR0_8.out x7_4 p200 q200
                   cases e200
                   replace hx200_0 := cU HB hx200_0
                   replace hx200_1 := cU HB hx200_1
                   replace hx200_2 := cU HB hx200_2
                   have HR200_2 := aM hi200_2
                   have HC200_2 := aM hl200_2
                   clear hi200_2 hl200_2
                   replace p200 := eq_true p200
                   replace q200 := eq_true q200
                   have p201 : 0 ≤ (x7_4 : Int) := oD
                   have q201 : x7_4 < (l0_8.length : Int) := oD
                   obtain ⟨ad201, A201_2, c201_2, e201, hx201_0, hx201_1, hx201_2, hl201_2, hi201_2⟩ := at_T111 HR0_8.out x7_4 p201 q201
                   obtain rfl : ad200 = ad201 := (by injection e201)
                   replace hx201_0 := cU HB hx201_0
                   replace hx201_1 := cU HB hx201_1
                   replace hx201_2 := cU HB hx201_2
                   have HR201_2 := aM hi201_2
                   have HC201_2 := aM hl201_2
                   clear hi201_2 hl201_2
                   replace p201 := eq_true p201
                   replace q201 := eq_true q201
                   have ea_ := oI (hx200_2.symm.trans hx201_2)
                   injection ea_ with ea_ en_ ec_
                   subst ea_
                   subst ec_
                   clear en_
                   have p202 : 0 ≤ (x8_5 : Int) := oD
                   have q202 : x8_5 < (((rd_T111 l0_8 x7_4).f2).length : Int) := oD
                   obtain ⟨ad202, e202, hx202_0⟩ := Kd.at_int HR201_2.out x8_5 p202 q202
                   cases e202
                   replace hx202_0 := cU HB hx202_0
                   replace p202 := eq_true p202
                   replace q202 := eq_true q202
                   go_wp2
                   go_ret
                   exact ⟨rfl, HB.out⟩
                  ·
                   rw [if_neg c83] at H
                   have c83b0 : decide (1048576 < (rd ((rd_T111 l0_8 x7_4).f2) x8_5)) = false := dF c83
                   clear c83
                   have H' := aM H
                   clear H
                   have hz85 := bx9 BK186.out
                   have p200 : 0 ≤ (x7_4 : Int) := oD
                   have q200 : x7_4 < (l0_8.length : Int) := oD
                   obtain ⟨ad200, A200_2, c200_2, e200, hx200_0, hx200_1, hx200_2, hl200_2, hi200_2⟩ := at_T111 HR0_8.out x7_4 p200 q200
                   cases e200
                   replace hx200_0 := cU HB hx200_0
                   replace hx200_1 := cU HB hx200_1
                   replace hx200_2 := cU HB hx200_2
                   have HR200_2 := aM hi200_2
                   have HC200_2 := aM hl200_2
                   clear hi200_2 hl200_2
                   replace p200 := eq_true p200
                   replace q200 := eq_true q200
                   have p201 : 0 ≤ (x7_4 : Int) := oD
                   have q201 : x7_4 < (l0_8.length : Int) := oD
                   obtain ⟨ad201, A201_2, c201_2, e201, hx201_0, hx201_1, hx201_2, hl201_2, hi201_2⟩ := at_T111 HR0_8.out x7_4 p201 q201
                   obtain rfl : ad200 = ad201 := (by injection e201)
                   replace hx201_0 := cU HB hx201_0
                   replace hx201_1 := cU HB hx201_1
                   replace hx201_2 := cU HB hx201_2
                   have HR201_2 := aM hi201_2
                   have HC201_2 := aM hl201_2
                   clear hi201_2 hl201_2
                   replace p201 := eq_true p201
                   replace q201 := eq_true q201
                   have ea_ := oI (hx200_2.symm.trans hx201_2)
                   injection ea_ with ea_ en_ ec_
                   subst ea_
                   subst ec_
                   clear en_
                   have p202 : 0 ≤ (x8_5 : Int) := oD
                   have q202 : x8_5 < (((rd_T111 l0_8 x7_4).f2).length : Int) := oD
                   obtain ⟨ad202, e202, hx202_0⟩ := Kd.at_int HR201_2.out x8_5 p202 q202
                   cases e202
                   replace hx202_0 := cU HB hx202_0
                   replace p202 := eq_true p202
                   replace q202 := eq_true q202
                   go_wp2
                   go_roundg k5
                   case measure => have := HJ4.out; have := HK2.out; have := HK3.out; have := HK4.out; have := HK5.out; omega
                   case rel => exact ⟨(wrap64 (x8_5 + 1)), rfl, H', ⟨by have := HJ4.out; have := HK2.out; have := HK3.out; have := HK4.out; have := HK5.out; omega⟩, BK186, HB⟩
                ·
                 rw [if_neg c79] at H
                 have c79b0 : decide (x8_5 < (((rd_T111 l0_8 x7_4).f2).length : Int)) = false := dF c79
                 clear c79
                 have H' := aM H
                 clear H
                 have hz86 := bx9 BK186.out
                 have p200 : 0 ≤ (x7_4 : Int) := oD
                 have q200 : x7_4 < (l0_8.length : Int) := oD
                 obtain ⟨ad200, A200_2, c200_2, e200, hx200_0, hx200_1, hx200_2, hl200_2, hi200_2⟩ := at_T111 HR0_8.out x7_4 p200 q200
                 cases e200
                 replace hx200_0 := cU HB hx200_0
                 replace hx200_1 := cU HB hx200_1
                 replace hx200_2 := cU HB hx200_2
                 have HR200_2 := aM hi200_2
                 have HC200_2 := aM hl200_2
                 clear hi200_2 hl200_2
                 replace p200 := eq_true p200
                 replace q200 := eq_true q200
                 go_wp2
                 go_roundg k5
                 case measure => have := HJ4.out; have := HK2.out; have := HK3.out; have := HK4.out; have := HK5.out; omega
                 case rel => exact ⟨(wrap64 (x7_4 + 1)), rfl, H', ⟨by have := HJ4.out; have := HK2.out; have := HK3.out; have := HK4.out; have := HK5.out; omega⟩, BK186, HB⟩
             ·
              rw [if_neg c75] at H
              have c75b0 : decide (x7_4 < (l0_8.length : Int)) = false := dF c75
              clear c75
              obtain rfl := oI H
              have hz87 := bx9 BK186.out
              go_wp2
              go_ret
              exact ⟨rfl, HB.out⟩
 ·
  replace c3 := Bool.eq_false_iff.mpr c3
  subst c3
  rw [if_neg (show ¬ (false = true) by decide)] at H
  obtain rfl := oI H
  go_enter Try.func31, Try.ntmps31
  go_wp2_with (first | ((with_reducible refine gate_dst (N := 1) rfl ?_); (try (refine gate_guard (by rfl) ?_; dsimp only)); refine bxE 1 #[.int .i64 a0_0, .int .i64 a0_1, .int .i64 a0_2, .int .i64 a0_3, .int .i64 a0_4, .int .i64 a0_5, .int .i64 a0_6, .slice A0_7 l0_7.length c0_7, .slice A0_8 l0_8.length c0_8] 73 (h := ?_); intro gb186 hg w88 hbox hb; have BK186 := aM (hbox); have GW186 := gE hg HB; have GE186 := gE hg HB; replace HB := bst HB hb; clear hb hbox hg; have hz89 := bx9 BK186.out) | ((with_reducible refine gate_callee (f := 22) rfl ?_); refine gL 12 Try.func22 #[.agg #[.int .i64 a0_0, .int .i64 a0_1, .int .i64 a0_2, .int .i64 a0_3, .int .i64 a0_4, .int .i64 a0_5]] (h := ?_); (with_reducible refine (credenzaref18_RightConfig.calls a0_0 a0_1 a0_2 a0_3 a0_4 a0_5 false _ A2.out).mono ?_); rintro e w90 ⟨rfl, hb⟩; refine ⟨_, rfl, ?_⟩; replace BK186 := kst BK186 hb; replace HB := bst HB hb; clear hb))
  go_ret
  exact ⟨rfl, HB.out⟩

end Go.Proofs.Ytehepnmagcjkaaa.PBlobParses
