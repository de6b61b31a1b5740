-- Written by a program of this session (wip/tools/mkprint.py over the kit's print).
import Derived.Test.YtekenaclmplocaaProg
import Derived.Lib.SliceRun
import Derived.Maps.OwnSet
import Derived.Lib.Hide
import Derived.Deep.DeepFit
import Derived.Below
import Derived.Deep.Draws
import Derived.Deep.AppendLies
import Derived.Maps.AppendAt
import Derived.OwnWalk
import Derived.Laws.BytesArg
import Derived.Laws.MakeOwn
import Derived.Laws.OwnMore
import Derived.Deep.OwnRows
import Derived.Tactics
import Derived.Lib.ConvBytes
import Derived.Laws.Slices
import Derived.WalkKit
import Derived.KernelRfl
import Derived.RowKit3
import Derived.Deep.LoopGhost
import Derived.Deep.QuietTactic
import Derived.BigQuiet
import Derived.WideLaws
import Derived.Deep.DeepCutAuto
import Derived.Deep.CutBlock
import Derived.Deep.RegionHeld3
import Derived.Laws.Rows
import Derived.Lib.AppendStr
import Derived.ArgAppend
import Derived.Laws.IdiomCopy
import Derived.OrdersHeld
import Derived.Laws.BitsLemmas
import Derived.RowKit
import Derived.ChangeKeysEq
import Derived.Test.YtekenaclmplocaaVPageParsesWords
import Derived.Test.YtekenaclmplocaaVPageParsesLast
import Derived.Test.YtekenaclmplocaaVPageParsesTab
import Derived.Test.YtekenaclmplocaaVPageParsesApart
import Derived.Test.YtekenaclmplocaaVPageParsesArr
import Derived.Test.YtekenaclmplocaaVPageParsesFoot
import Derived.Test.YtekenaclmplocaaVPageParsesKept
import Derived.Test.YtekenaclmplocaaVPageParsesShare
import Derived.Test.YtekenaclmplocaaVPageParsesN
import Derived.Test.YtekenaclmplocaaVPageParsesEqStruct
import Derived.Test.YtekenaclmplocaaVPageParsesRepsOne
import Derived.Test.YtekenaclmplocaaVPageParsesGuard
import Derived.Test.YtekenaclmplocaaVPageParsesNEv
import Derived.Test.YtekenaclmplocaaVPageParsesMore
namespace Go.Proofs.Ytekenaclmplocaa.PPageParses
open Go.RowKit Go.Proofs.YtekenaclmplocaaW.PrintWords Go.Proofs.YtekenaclmplocaaW.PrintLast Go.Proofs.YtekenaclmplocaaW.PrintMore
attribute [local go_sem] max2_int min2_int max_two min_two max_three min_three max_four min_four
set_option linter.unusedVariables false
set_option linter.unusedSimpArgs false



def errW : Option Int → Value
 | none => .nilIface
 | some c => .iface 0 (.int .i64 c)
theorem errW_none : errW none = .nilIface := rfl
theorem errW_some (c : Int) : errW (some c) = .iface 0 (.int .i64 c) := rfl

theorem bx1 {w : World} {g : Nat} {t : TypeId} {a0 : Value} (h : w.heap[g]? = some (.cells #[a0] t (0, 0))) : w.cell? ⟨g, 0, none⟩ = some a0 ∧ (∀ i, w.frozen? ⟨g, i, none⟩ = false) := ⟨(blk_cell h 0).trans rfl, blk_frozen h⟩
theorem bx3 {w : World} {g : Nat} {t : TypeId} {a0 a1 a2 : Value} (h : w.heap[g]? = some (.cells #[a0, a1, a2] t (0, 0))) : w.cell? ⟨g, 0, none⟩ = some a0 ∧ w.cell? ⟨g, 1, none⟩ = some a1 ∧ w.cell? ⟨g, 2, none⟩ = some a2 ∧ (∀ i, w.frozen? ⟨g, i, none⟩ = false) := ⟨(blk_cell h 0).trans rfl, (blk_cell h 1).trans rfl, (blk_cell h 2).trans rfl, blk_frozen h⟩
theorem bx4 {w : World} {g : Nat} {t : TypeId} {a0 a1 a2 a3 : Value} (h : w.heap[g]? = some (.cells #[a0, a1, a2, a3] t (0, 0))) : w.cell? ⟨g, 0, none⟩ = some a0 ∧ w.cell? ⟨g, 1, none⟩ = some a1 ∧ w.cell? ⟨g, 2, none⟩ = some a2 ∧ w.cell? ⟨g, 3, none⟩ = some a3 ∧ (∀ i, w.frozen? ⟨g, i, none⟩ = false) := ⟨(blk_cell h 0).trans rfl, (blk_cell h 1).trans rfl, (blk_cell h 2).trans rfl, (blk_cell h 3).trans rfl, blk_frozen h⟩
theorem bx7 {w : World} {g : Nat} {t : TypeId} {a0 a1 a2 a3 a4 a5 a6 : Value} (h : w.heap[g]? = some (.cells #[a0, a1, a2, a3, a4, a5, a6] t (0, 0))) : w.cell? ⟨g, 0, none⟩ = some a0 ∧ w.cell? ⟨g, 1, none⟩ = some a1 ∧ w.cell? ⟨g, 2, none⟩ = some a2 ∧ w.cell? ⟨g, 3, none⟩ = some a3 ∧ w.cell? ⟨g, 4, none⟩ = some a4 ∧ w.cell? ⟨g, 5, none⟩ = some a5 ∧ w.cell? ⟨g, 6, none⟩ = some a6 ∧ (∀ i, w.frozen? ⟨g, i, none⟩ = false) := ⟨(blk_cell h 0).trans rfl, (blk_cell h 1).trans rfl, (blk_cell h 2).trans rfl, (blk_cell h 3).trans rfl, (blk_cell h 4).trans rfl, (blk_cell h 5).trans rfl, (blk_cell h 6).trans rfl, blk_frozen h⟩
theorem bx9 {w : World} {g : Nat} {t : TypeId} {a0 a1 a2 a3 a4 a5 a6 a7 a8 : Value} (h : w.heap[g]? = some (.cells #[a0, a1, a2, a3, a4, a5, a6, a7, a8] t (0, 0))) : w.cell? ⟨g, 0, none⟩ = some a0 ∧ w.cell? ⟨g, 1, none⟩ = some a1 ∧ w.cell? ⟨g, 2, none⟩ = some a2 ∧ w.cell? ⟨g, 3, none⟩ = some a3 ∧ w.cell? ⟨g, 4, none⟩ = some a4 ∧ w.cell? ⟨g, 5, none⟩ = some a5 ∧ w.cell? ⟨g, 6, none⟩ = some a6 ∧ w.cell? ⟨g, 7, none⟩ = some a7 ∧ w.cell? ⟨g, 8, none⟩ = some a8 ∧ (∀ i, w.frozen? ⟨g, i, none⟩ = false) := ⟨(blk_cell h 0).trans rfl, (blk_cell h 1).trans rfl, (blk_cell h 2).trans rfl, (blk_cell h 3).trans rfl, (blk_cell h 4).trans rfl, (blk_cell h 5).trans rfl, (blk_cell h 6).trans rfl, (blk_cell h 7).trans rfl, (blk_cell h 8).trans rfl, blk_frozen h⟩
theorem ifp {P : Prop} {_ : Decidable P} {α : Type} {x : Option α} {r : α} (h : (if P then x else none) = some r) : P ∧ x = some r := by
 by_cases p : P
 ·
  rw [if_pos p] at h; exact ⟨p, h⟩
 ·
  rw [if_neg p] at h; cases h
theorem ifn {P : Prop} {_ : Decidable P} {α : Type} {x : Option α} {r : α} (h : (if P then none else x) = some r) : ¬ P ∧ x = some r := by
 by_cases p : P
 ·
  rw [if_pos p] at h; cases h
 ·
  rw [if_neg p] at h; exact ⟨p, h⟩
theorem bnd {α β : Type} {o : Option α} {f : α → Option β} {b : β} (h : o.bind f = some b) : ∃ a, Aside0 (o = some a) ∧ f a = some b := by
 obtain ⟨a, h1, h2⟩ := Option.bind_eq_some_iff.mp h
 exact ⟨a, ⟨h1⟩, h2⟩
theorem bst {w W w2 : World} (h : Aside0 (Below w.heap.size w W)) (k : Below W.heap.size W w2) : Aside0 (Below w.heap.size w w2) := ⟨below_step h.out k⟩
theorem bsz {w W : World} (h : Aside0 (Below w.heap.size w W)) : w.heap.size ≤ W.heap.size := below_size h.out
theorem kst {w w1 : World} {g : Nat} {o : Obj} (h : Aside0 (w.heap[g]? = some o)) (hb : Below w.heap.size w w1) : Aside0 (w1.heap[g]? = some o) := ⟨blk_below h.out hb⟩
theorem nst {α : Type} {d : Kd α} {e base : Nat} {w w1 : World} {ok : Nat → Prop} {v : Value} {xs : List α} (h : Aside0 (Kd.N d e w base ok v xs)) (hb : Below w.heap.size w w1) : Aside0 (Kd.N d e w1 base ok v xs) := ⟨Kd.N_below h.out hb⟩
theorem rst {α : Type} {d : Kd α} {e base : Nat} {w w1 : World} {ok : Nat → Prop} {v : Value} {xs : List α} (h : Aside0 (d.R e w base ok v xs)) (hb : Below w.heap.size w w1) : Aside0 (d.R e w1 base ok v xs) := ⟨Kd.R_below h.out hb⟩
theorem sst {α : Type} {d : Kd α} {e base : Nat} {w w1 : World} {ok : Nat → Prop} {v : Value} {xs : List α} (h : Aside0 (Kd.S d e w base ok v xs)) (hb : Below w.heap.size w w1) : Aside0 (Kd.S d e w1 base ok v xs) := ⟨Kd.S_below h.out hb⟩
def bA (n m : Nat) : Array Bool := ⟨(List.range n).map fun i => m.testBit i⟩
section
variable {P : Program} {ops : Array Oper} {Q : Exit → Act → World → Prop} {md : Region.Mode} {S : World → Prop} {ds : List Nat} {T : Bool × List (List Nat × List Nat)} {BM : List Nat}
theorem pT (n i d m : Nat) {oi : Oper} {v : Value} {fuel : Nat} {l : Array Bool} {a a' : Act} {w : World} (hT : Aside0 (rtab md ops = T)) (hc : anyT T l.toList (bA n m).toList i = true := by kernel_rfl) (hi : ops[i]? = some oi := by rfl) (hN : oi.dst = some d := by rfl)
  (hQ : ∀ c a w, Q (.panic c) (a.put oi.dst v) w → Q (.panic c) a w := by exact fun _ _ _ h => h) (hy : Yields P ops oi v a := by first | exact Or.inl ⟨by rfl, by intro w'; go_simp; with_reducible rfl⟩ | exact Or.inr ⟨by rfl, rfl⟩)
  (ha : a.put (some d) v = a' := by simp only [Act.put, List.setIfInBounds_toArray, List.set_cons_zero, List.set_cons_succ, i64_w, i32_w, IntKind.wrap_u32]; rfl)
  (h : wpAnyLast P md ops Q S ds fuel (bA n m) a' w) : wpAnyLast P md ops Q S ds (fuel + 1) l a w := pure_ (bA n m) hi hN (any_of hT.out hc) hQ hy ha h
theorem pB (n i d m : Nat) {oi : Oper} {v : Value} {fuel : Nat} {l : Array Bool} {a a' : Act} {w : World} (hc : anyB md ops l (bA n m) i = true := by kernel_rfl) (hi : ops[i]? = some oi := by rfl) (hN : oi.dst = some d := by rfl)
  (hQ : ∀ c a w, Q (.panic c) (a.put oi.dst v) w → Q (.panic c) a w := by exact fun _ _ _ h => h) (hy : Yields P ops oi v a := by first | exact Or.inl ⟨by rfl, by intro w'; go_simp; with_reducible rfl⟩ | exact Or.inr ⟨by rfl, rfl⟩)
  (ha : a.put (some d) v = a' := by simp only [Act.put, List.setIfInBounds_toArray, List.set_cons_zero, List.set_cons_succ, i64_w, i32_w, IntKind.wrap_u32]; rfl)
  (h : wpAnyLast P md ops Q S ds fuel (bA n m) a' w) : wpAnyLast P md ops Q S ds (fuel + 1) l a w := pure_ (bA n m) hi hN hc hQ hy ha h
theorem tT (n i d m : Nat) {oi : Oper} {v : Value} {fuel : Nat} {l : Array Bool} {a a' : Act} {w : World} (hT : Aside0 (rtab md ops = T)) (hB : Aside0 (waitsOk T.2 BM = true)) (hS : S w) (hc : takeW T BM ds l.toList (bA n m).toList i = true := by kernel_rfl) (hi : ops[i]? = some oi := by rfl) (hN : oi.dst = some d := by rfl)
  (hQ : ∀ c a w, Q (.panic c) (a.put oi.dst v) w → Q (.panic c) a w := by exact fun _ _ _ h => h) (hy : YieldsIf P ops S oi v a := by exact Or.inl ⟨by rfl, by intro w' s; (try dsimp only at s); go_simp; with_reducible rfl⟩)
  (ha : a.put (some d) v = a' := by simp only [Act.put, List.setIfInBounds_toArray, List.set_cons_zero, List.set_cons_succ, i64_w, i32_w, IntKind.wrap_u32]; rfl)
  (h : wpAnyLast P md ops Q S ds fuel (bA n m) a' w) : wpAnyLast P md ops Q S ds (fuel + 1) l a w := take_ (bA n m) hi hN (take_ofW hT.out hB.out hc) hQ hy hS ha h
theorem tB (n i d m : Nat) {oi : Oper} {v : Value} {fuel : Nat} {l : Array Bool} {a a' : Act} {w : World} (hS : S w) (hc : takeB md ops ds l (bA n m) i = true := by kernel_rfl) (hi : ops[i]? = some oi := by rfl) (hN : oi.dst = some d := by rfl)
  (hQ : ∀ c a w, Q (.panic c) (a.put oi.dst v) w → Q (.panic c) a w := by exact fun _ _ _ h => h) (hy : YieldsIf P ops S oi v a := by exact Or.inl ⟨by rfl, by intro w' s; (try dsimp only at s); go_simp; with_reducible rfl⟩)
  (ha : a.put (some d) v = a' := by simp only [Act.put, List.setIfInBounds_toArray, List.set_cons_zero, List.set_cons_succ, i64_w, i32_w, IntKind.wrap_u32]; rfl)
  (h : wpAnyLast P md ops Q S ds fuel (bA n m) a' w) : wpAnyLast P md ops Q S ds (fuel + 1) l a w := take_ (bA n m) hi hN hc hQ hy hS ha h
theorem nT (d : Nat) {fuel : Nat} {l : Array Bool} {a a' : Act} {v : Value} {w : World} (ha : Act.put a (some d) v = a' := by simp only [Act.put, List.setIfInBounds_toArray, List.set_cons_zero, List.set_cons_succ, i64_w, i32_w, IntKind.wrap_u32]; rfl) (h : wpAnyLast P md ops Q S ds fuel l a' w) : wpAnyLast P md ops Q S ds fuel l (Act.put a (some d) v) w := ha ▸ h
theorem gA {oi : Oper} {N : Option Tmp} {a : Act} {w : World} {K : Act → World → Prop} {f : FuncId} {fn : Func} (hf : P.funcs[f]? = some fn) {xs : Array Operand} {ts : Array TypeId} (args : Array Value) (hname : (fn.name == "runtime.NumGoroutine") = false := by kernel_rfl) (hb : fn.body.isSome = true := by rfl)
  (hw : Region.wanted oi (yielded ops a.tmps) = true := by rfl) (hN : oi.dst = N := by rfl) (hop : oi.op = .call { callee := .value (.func f), args := xs, argTypes := ts } := by rfl) (hargs : xs.map a.eval = args := by first | rfl | (simp only [List.map_toArray, List.map_cons, List.map_nil]; first | done | rfl))
  (h : Calls P f args w fun e w' => ∃ v, e = .returned v ∧ K (a.put N v) w') : if Region.wanted oi (yielded ops a.tmps) = true then Oper.wp P oi a w K Q else K (a.put N undef) w := goes_ hf hname hb args hw hN hop hargs h
end
section
variable {P : Program} {ops : Array Oper} {rest : List Oper} {o : Oper} {a : Act} {Q : Exit → Act → World → Prop}
theorem gL {oi : Oper} {w : World} (N : Nat) {f : FuncId} {fn : Func} (hf : P.funcs[f]? = some fn) {xs : Array Operand} {ts : Array TypeId} (args : Array Value) (hd : oi.dst = some N := by rfl) (hg : oi.guard = none := by rfl) (hop : oi.op = .call { callee := .value (.func f), args := xs, argTypes := ts } := by rfl) (hname : (fn.name == "runtime.NumGoroutine") = false := by kernel_rfl) (hb : fn.body.isSome = true := by rfl)
  (hargs : xs.map a.eval = args := by (try simp only [List.map_toArray, List.map_cons, List.map_nil]); first | done | rfl | (simp only [List.length_drop, List.length_take]; rfl))
  (h : Calls P f args w fun e w' => ∃ v, e = .returned v ∧ wpList P ops Q rest (a.put (some N) v) w') : wpList P ops Q (oi :: rest) a w := goesL_ (some N) hd hg hf hname hb args hop hargs h
theorem bxE {W : World} (N : Nat) (cs : Array Value) (t : TypeId) (hgd : o.guard = none := by rfl) (hd : o.dst = some N := by rfl) (hr : (execOp a.eval o).run P W = .ok (.value (.pointer (some ⟨W.heap.size, 0, none⟩))) (W.alloc (.cells cs t (0, 0))) := by first | (go_simp; done) | (go_simp; rfl))
  (h : ∀ g, g = W.heap.size → ∀ w1, w1.heap[g]? = some (.cells cs t (0, 0)) → Below W.heap.size W w1 → wpList P ops Q rest (a.put o.dst (.pointer (some ⟨g, 0, none⟩))) w1) : wpList P ops Q (o :: rest) a W := box_event hgd hd hr h
end
theorem gE {w W : World} {gb : Nat} (hg : gb = W.heap.size) (h : Aside0 (Below w.heap.size w W)) : Aside0 (w.heap.size ≤ gb) := ⟨by rw [hg]; exact below_size h.out⟩
theorem bZ {p : Prop} (h : p := by repeat (first | (with_reducible first | exact Aside0.out (by assumption) | apply below_alloc | apply pw_below_drewN | apply below_drew1 | refine below_set ?_ (Aside0.out (by assumption))))) : p := h
theorem oD {p : Prop} [Decidable p] (h : decide p = true := by first | (with_reducible assumption) | assumption) : p := of_decide_eq_true h
theorem cU {w W : World} {x : Addr} {v : Value} (HB : Aside0 (Below w.heap.size w W)) (h : w.cell? x = some v) : W.cell? x = some v := (HB.out.cell (World.block_lt_of_cell? w _ h)).trans h
theorem cx3 {w : World} {g : Nat} {t : TypeId} {a0 a1 a2 : Value} (h : w.heap[g]? = some (.cells #[a0, a1, a2] t (0, 0))) : w.cell? ⟨g, 0, none⟩ = some a0 ∧ w.cell? ⟨g, 1, none⟩ = some a1 ∧ w.cell? ⟨g, 2, none⟩ = some a2 := ⟨(blk_cell h 0).trans rfl, (blk_cell h 1).trans rfl, (blk_cell h 2).trans rfl⟩
theorem cx4 {w : World} {g : Nat} {t : TypeId} {a0 a1 a2 a3 : Value} (h : w.heap[g]? = some (.cells #[a0, a1, a2, a3] t (0, 0))) : w.cell? ⟨g, 0, none⟩ = some a0 ∧ w.cell? ⟨g, 1, none⟩ = some a1 ∧ w.cell? ⟨g, 2, none⟩ = some a2 ∧ w.cell? ⟨g, 3, none⟩ = some a3 := ⟨(blk_cell h 0).trans rfl, (blk_cell h 1).trans rfl, (blk_cell h 2).trans rfl, (blk_cell h 3).trans rfl⟩
theorem cx6 {w : World} {g : Nat} {t : TypeId} {a0 a1 a2 a3 a4 a5 : Value} (h : w.heap[g]? = some (.cells #[a0, a1, a2, a3, a4, a5] t (0, 0))) : w.cell? ⟨g, 0, none⟩ = some a0 ∧ w.cell? ⟨g, 1, none⟩ = some a1 ∧ w.cell? ⟨g, 2, none⟩ = some a2 ∧ w.cell? ⟨g, 3, none⟩ = some a3 ∧ w.cell? ⟨g, 4, none⟩ = some a4 ∧ w.cell? ⟨g, 5, none⟩ = some a5 := ⟨(blk_cell h 0).trans rfl, (blk_cell h 1).trans rfl, (blk_cell h 2).trans rfl, (blk_cell h 3).trans rfl, (blk_cell h 4).trans rfl, (blk_cell h 5).trans rfl⟩
theorem cx7 {w : World} {g : Nat} {t : TypeId} {a0 a1 a2 a3 a4 a5 a6 : Value} (h : w.heap[g]? = some (.cells #[a0, a1, a2, a3, a4, a5, a6] t (0, 0))) : w.cell? ⟨g, 0, none⟩ = some a0 ∧ w.cell? ⟨g, 1, none⟩ = some a1 ∧ w.cell? ⟨g, 2, none⟩ = some a2 ∧ w.cell? ⟨g, 3, none⟩ = some a3 ∧ w.cell? ⟨g, 4, none⟩ = some a4 ∧ w.cell? ⟨g, 5, none⟩ = some a5 ∧ w.cell? ⟨g, 6, none⟩ = some a6 := ⟨(blk_cell h 0).trans rfl, (blk_cell h 1).trans rfl, (blk_cell h 2).trans rfl, (blk_cell h 3).trans rfl, (blk_cell h 4).trans rfl, (blk_cell h 5).trans rfl, (blk_cell h 6).trans rfl⟩
theorem cx9 {w : World} {g : Nat} {t : TypeId} {a0 a1 a2 a3 a4 a5 a6 a7 a8 : Value} (h : w.heap[g]? = some (.cells #[a0, a1, a2, a3, a4, a5, a6, a7, a8] t (0, 0))) : w.cell? ⟨g, 0, none⟩ = some a0 ∧ w.cell? ⟨g, 1, none⟩ = some a1 ∧ w.cell? ⟨g, 2, none⟩ = some a2 ∧ w.cell? ⟨g, 3, none⟩ = some a3 ∧ w.cell? ⟨g, 4, none⟩ = some a4 ∧ w.cell? ⟨g, 5, none⟩ = some a5 ∧ w.cell? ⟨g, 6, none⟩ = some a6 ∧ w.cell? ⟨g, 7, none⟩ = some a7 ∧ w.cell? ⟨g, 8, none⟩ = some a8 := ⟨(blk_cell h 0).trans rfl, (blk_cell h 1).trans rfl, (blk_cell h 2).trans rfl, (blk_cell h 3).trans rfl, (blk_cell h 4).trans rfl, (blk_cell h 5).trans rfl, (blk_cell h 6).trans rfl, (blk_cell h 7).trans rfl, (blk_cell h 8).trans rfl⟩
theorem aM {p : Prop} (h : p) : Aside0 p := ⟨h⟩
theorem dT {p : Prop} [Decidable p] (h : p) : decide p = true := decide_eq_true h
theorem dF {p : Prop} [Decidable p] (h : ¬ p) : decide p = false := decide_eq_false h
theorem oI {α : Type} {a b : α} (h : some a = some b) : a = b := Option.some.inj h
theorem bK {p q : Prop} (h : q) (k : q → p := by intro z; (with_reducible repeat (first | refine blk_drewN ?_ _ | refine blk_drew ?_ | refine blk_alloc ?_ _)); exact z) : p := k h
theorem kC {p q : Prop} (h : q) (k : q → p := by intro z; repeat (first | (with_reducible exact z) | (with_reducible refine Kd.C_alloc ?_ _) | (with_reducible refine Kd.C_drewN ?_ _) | (with_reducible refine Kd.C_drew ?_) | exact z)) : p := k h
theorem dR {p : Prop} (h : p := by repeat (first | exact Drawn0.refl _ | apply Drawn0.step)) : p := h
theorem kR {p q : Prop} (h : q) (k : q → p := by intro z; (with_reducible repeat (first | apply Kd.R_alloc | apply Kd.R_drewN | apply Kd.R_drew)); exact z) : p := k h
theorem kN {p q : Prop} (h : q) (k : q → p := by intro z; (with_reducible repeat (first | apply Kd.N_alloc | apply Kd.N_drewN | apply Kd.N_drew)); exact z) : p := k h
theorem kS {p q : Prop} (h : q) (k : q → p := by intro z; (with_reducible repeat (first | apply Kd.S_alloc | apply Kd.S_drewN | apply Kd.S_drew)); exact z) : p := k h
theorem kV {p q : Prop} (h : q) (k : q → p := by intro z; (with_reducible repeat (first | apply Kd.V_alloc | apply Kd.V_drewN | apply Kd.V_drew)); exact z) : p := k h
theorem cF {b g : Nat} {p q : Prop} (n : Aside0 (b ≠ g)) (h : q) (k : b ≠ g → q → p := by intro n z; repeat (first | (with_reducible exact z) | (with_reducible refine Eq.trans (cell_far ?_ _) ?_; exact n))) : p := k n.out h
theorem cL {w : World} {g : Nat} {t : TypeId} {cs : Array Value} {v : Value} (h : Aside0 (w.heap[g]? = some (.cells cs t (0, 0)))) (i : Nat) (hv : cs[i]? = some v := by rfl) : w.cell? ⟨g, i, none⟩ = some v := (blk_cell h.out i).trans hv
-- this session's own lemmas, ahead of the printed texts
/-- A literal row of bytes that is turned into its own type ('[]byte("..")'): it is marked, and from here on it is only read. -/
theorem run_mark {P : Program} {t e : TypeId} (ht : P.underlying t = some (.slice e)) (he : P.underlying e = some (.int .u8)) {W : World} {base : Nat} {ok : Nat → Prop} {A : Option Addr} {c : Nat} {xs : List Int}
  (HO : (Kd.int .u8).R e W base ok (.slice A xs.length c) xs) (hne : 0 < xs.length) :
  ∃ w1, (convert t t (.slice A xs.length c)).run P W = .ok (.slice A xs.length c) w1 ∧ (Kd.int .u8).C w1 A xs.length xs ∧ W.grownBy w1 (Value.slice A xs.length c).ownBlock ∧ (∀ w0 : World, Below base w0 W → Below base w0 w1) ∧ xs.length ≤ c := by
 have hC := (Kd.R_reads' HO).2.2
 have hl := (Kd.R_reads' HO).2.1
 have ho := Kd.own_of_R HO
 rcases ho.2 with ⟨h1, h2⟩ | ⟨g, cap, cur, hv, hg, hh, hn, hcm, hsz, htk⟩
 ·
  omega
 ·
  injection hv with hv1 hv2 hv3
  subst hv1
  refine ⟨W.freeze ⟨g, cur.size, none⟩ 1, ?_, ?_, ?_, ?_, hl⟩
  ·
   have hsh : W.shape? g = some (e, cur.size) := by
    unfold World.shape?
    rw [hh]
   simp [convert, run_underlying ht, run_underlying he, markStringish, hsh]
  ·
   have hcell : ∀ a, (W.freeze ⟨g, cur.size, none⟩ 1).cell? a = W.cell? a := by
    intro a
    unfold World.freeze World.cell?
    rw [if_neg (by decide)]
    simp only [Array.getElem?_modify]
    by_cases hb : g = a.block
    ·
     rw [if_pos hb, ← hb, hh]
     rfl
    ·
     rw [if_neg hb]
   refine ⟨hC.1, hC.2.1, fun hp => ?_⟩
   obtain ⟨ad, hA, hread⟩ := hC.2.2 hp
   refine ⟨ad, hA, fun j p hj => ?_⟩
   obtain ⟨cs, h1, h2, h3⟩ := hread j p hj
   exact ⟨cs, h1, h2, fun i u hu => by rw [hcell]; exact h3 i u hu⟩
  ·
   refine ⟨rfl, rfl, rfl, ?_, fun k hk hne2 => ?_⟩
   ·
    unfold World.freeze
    rw [if_neg (by decide)]
    simp
   ·
    unfold World.freeze
    rw [if_neg (by decide)]
    have : g ≠ k := fun h => hne2 (by rw [h]; rfl)
    simp [Array.getElem?_modify, this]
  ·
   intro w0 hb
   refine ⟨hb.os, hb.tape, hb.output, ?_, fun k hk => ?_⟩
   ·
    unfold World.freeze
    rw [if_neg (by decide)]
    simpa using hb.size
   ·
    unfold World.freeze
    rw [if_neg (by decide)]
    have : g ≠ k := by omega
    simp only [Array.getElem?_modify, this, if_false]
    exact hb.block k hk
/-- '[]byte(s)': one row more, marked: it is only read. -/
theorem run_bytes {P : Program} {st dt e : TypeId} (hs : P.underlying st = some .string) (hd : P.underlying dt = some (.slice e)) (he : P.underlying e = some (.int .u8)) (W : World) (s : ByteArray) (hl : s.size < 140737488355328) :
  ∃ w1 A c, (convert st dt (.string s)).run P W = .ok (.slice A (bytesOf s).length c) w1 ∧ (Kd.int .u8).C w1 A (bytesOf s).length (bytesOf s) ∧ Below W.heap.size W w1 ∧ (bytesOf s).length ≤ c := by
 have h := bytes_reads W e s (by omega)
 rw [← bytesOf_length s] at h
 refine ⟨Lib.bytesWorld W e s, _, grownCap W s.size 0 e, by rw [bytesOf_length]; exact print_bytes st dt e hs hd he s W, Kd.C_of_reads (enc := Value.int .u8) (d := (0 : Int)) (h1 := fun _ => rfl) h, bytes_below (Below.refl _ _) (Nat.le_refl _) e s, ?_⟩
 rw [bytesOf_length]
 exact grownCap_ge W s.size 0 e

/-- A pointer to a struct that nobody writes, told as a row of at most one element. -/
def asPtr : Value → Value
 | .slice A n _ => if n = 0 then .pointer none else .pointer A
 | _ => .pointer none
def isNilP (v : Value) : Bool := match asPtr v with
 | .pointer (some _) => false
 | _ => true
def notNilP (v : Value) : Bool := !isNilP v
theorem asPtr_some {ad : Addr} {n c : Nat} (h : (0 : Int) < (n : Int)) : asPtr (.slice (some ad) n c) = .pointer (some ad) := by
 simp only [asPtr]
 rw [if_neg (by omega)]
theorem asPtr_form (v : Value) : asPtr v = .pointer none ∧ isNilP v = true ∨ ∃ a, asPtr v = .pointer (some a) ∧ isNilP v = false := by
 have : asPtr v = .pointer none ∨ ∃ a, asPtr v = .pointer (some a) := by
  cases v <;> simp [asPtr]
  rename_i A n c
  by_cases h : n = 0
  ·
   simp [h]
  ·
   cases A <;> simp [h]
 rcases this with h | ⟨a, h⟩
 ·
  exact .inl ⟨h, by simp [isNilP, h]⟩
 ·
  exact .inr ⟨a, h, by simp [isNilP, h]⟩
section
variable {P : Program}
@[go_sem] theorem run_eql_asPtr (w : World) (t u : TypeId) (v : Value) (ht : P.underlying t = some (.pointer u)) : (binOp .eql t (asPtr v) (.pointer none)).run P w = .ok (.bool (isNilP v)) w := by
 have hp : P.underlying t = some (.pointer (P.pointee t)) := by simp [Program.pointee, ht]
 rcases asPtr_form v with ⟨h, h2⟩ | ⟨a, h, h2⟩ <;> rw [h, h2, run_eql_pointer_nil w t _ hp] <;> rfl
@[go_sem] theorem run_neq_asPtr (w : World) (t u : TypeId) (v : Value) (ht : P.underlying t = some (.pointer u)) : (binOp .neq t (asPtr v) (.pointer none)).run P w = .ok (.bool (notNilP v)) w := by
 unfold notNilP
 have hp : P.underlying t = some (.pointer (P.pointee t)) := by simp [Program.pointee, ht]
 rcases asPtr_form v with ⟨h, h2⟩ | ⟨a, h, h2⟩ <;> rw [h, h2, run_neq_pointer_nil w t _ hp] <;> rfl
@[go_sem] theorem run_eqGuard_asPtr (w : World) (op : BinOp) (t : TypeId) (x y : Operand) (v : Value) : (eqGuard op t x y (asPtr v) (.pointer none)).run P w = .ok () w := by
 rcases asPtr_form v with ⟨h, _⟩ | ⟨a, h, _⟩ <;> rw [h] <;> cases op <;> rfl
end
/-- An array that is read at a variable index. -/
def flatDesc : Option TypeDesc → Bool
 | some (.struct _) => false
 | some (.array _ _) => false
 | some _ => true
 | none => false
theorem run_index_arr {P : Program} (t e n : Nat) (ht : P.underlying t = some (.array n e)) (hag : flatDesc (P.underlying e) = true) (hsz : (P.info? e).map (fun i => i.size) = some 1) (cs : Array Value) (j : Int) (v : Value) (W : World) (h0 : 0 ≤ j) (h1 : j < (n : Int)) (hv : cs[j.toNat]? = some v) :
  (Instr.index t (.agg cs) (.int .i64 j)).run P W = .ok v W := by
 obtain ⟨i, hi, hs⟩ := Option.map_eq_some_iff.1 hsz
 cases hd : P.underlying e with
 | none => rw [hd] at hag; cases hag
 | some d =>
  have hA : ∀ W : World, (isAgg e).run P W = .ok false W := by
   intro W
   rw [hd] at hag
   simp only [isAgg, Sem.run_bind, run_underlying hd, Result.andThen]
   cases d <;> first | rfl | cases hag
  simp [Instr.index, run_underlying ht, asIntOf, h0, h1, sizeOf, typeInfo, hi, hs, part, hA, hv]
theorem arr_ints (k : IntKind) (l : List Int) (j : Int) (h0 : 0 ≤ j) (h1 : j.toNat < l.length) : (l.map (Value.int k)).toArray[j.toNat]? = some (.int k (rd l j)) := by
 simp [rd, List.getElem?_eq_getElem h1]
/-- An array of seven in a block, at a variable index. -/
theorem blk_rd7 {w : World} {g : Nat} {t : TypeId} {k : IntKind} {cs : Array Value} {x0 x1 x2 x3 x4 x5 x6 : Int} (h : w.heap[g]? = some (.cells cs t (0, 0))) (e0 : cs[0]? = some (.int k x0)) (e1 : cs[1]? = some (.int k x1)) (e2 : cs[2]? = some (.int k x2)) (e3 : cs[3]? = some (.int k x3)) (e4 : cs[4]? = some (.int k x4)) (e5 : cs[5]? = some (.int k x5)) (e6 : cs[6]? = some (.int k x6)) (j : Int) (h0 : 0 ≤ j) (h1 : j < 7) : w.cell? ⟨g, j.toNat, none⟩ = some (.int k (rd [x0, x1, x2, x3, x4, x5, x6] j)) := by
 rcases (show j = 0 ∨ j = 1 ∨ j = 2 ∨ j = 3 ∨ j = 4 ∨ j = 5 ∨ j = 6 by omega) with rfl | rfl | rfl | rfl | rfl | rfl | rfl
 ·
  exact (blk_cell h 0).trans e0
 ·
  exact (blk_cell h 1).trans e1
 ·
  exact (blk_cell h 2).trans e2
 ·
  exact (blk_cell h 3).trans e3
 ·
  exact (blk_cell h 4).trans e4
 ·
  exact (blk_cell h 5).trans e5
 ·
  exact (blk_cell h 6).trans e6
def sel2 {α : Type} (a b : α) (j : Int) : α := if j = 0 then a else b
theorem arr_rows2 {α : Type} {d : Kd α} {w : World} {A1 A2 : Option Addr} {c1 c2 : Nat} {l1 l2 : List α} {j : Int} (h0 : 0 ≤ j) (h1 : j < 2) (r1 : d.C w A1 l1.length l1) (k1 : l1.length ≤ c1) (r2 : d.C w A2 l2.length l2) (k2 : l2.length ≤ c2) :
  ∃ A c, (#[.slice A1 l1.length c1, .slice A2 l2.length c2] : Array Value)[j.toNat]? = some (.slice A (sel2 l1 l2 j).length c) ∧ d.C w A (sel2 l1 l2 j).length (sel2 l1 l2 j) ∧ (sel2 l1 l2 j).length ≤ c := by
 rcases (show j = 0 ∨ j = 1 by omega) with rfl | rfl
 ·
  exact ⟨A1, c1, rfl, r1, k1⟩
 ·
  exact ⟨A2, c2, rfl, r2, k2⟩
section
variable {P : Program} {ops : Array Oper} {Q : Exit → Act → World → Prop}
/-- A call of a method that is bound to its receiver, through a function value. -/
theorem goesB_ {oi : Oper} {N : Option Tmp} {a : Act} {w : World} {K : Act → World → Prop} {f : FuncId} {fn : Func} {T : Tmp} {xs : Array Operand} {ts : Array TypeId} (hf : P.funcs[f]? = some fn) (hname : (fn.name == "runtime.NumGoroutine") = false) (hb : fn.body.isSome = true) (args : Array Value)
  (hw : Region.wanted oi (yielded ops a.tmps) = true) (hN : oi.dst = N) (hop : oi.op = .call { callee := .value (.tmp T), args := xs, argTypes := ts }) (first : Array Value) (hv : a.eval (.tmp T) = .func (.func f) first #[]) (hargs : first ++ xs.map a.eval = args)
  (h : Calls P f args w fun e w' => ∃ v, e = .returned v ∧ K (a.put N v) w') : if Region.wanted oi (yielded ops a.tmps) = true then Oper.wp P oi a w K Q else K (a.put N undef) w := by
 refine call_ f args hw hN ?_ h
 have he := enters_ hf hname hb args w
 unfold execOp
 simp [hop, resolve, Deferred.ofValue, invoke, hv, hargs, he]
end
theorem isNilP_C {α : Type} {d : Kd α} {w : World} {A : Option Addr} {c : Nat} {xs : List α} (hr : d.C w A xs.length xs) : isNilP (.slice A xs.length c) = ((xs.length : Int) == 0) := by
 cases xs with
 | nil => simp [isNilP, asPtr]
 | cons x t =>
  obtain ⟨ad, hA, _⟩ := hr.2.2 (by simp)
  subst hA
  simp [isNilP, asPtr]
  omega
theorem notNilP_C {α : Type} {d : Kd α} {w : World} {A : Option Addr} {c : Nat} {xs : List α} (hr : d.C w A xs.length xs) : notNilP (.slice A xs.length c) = ((xs.length : Int) != 0) := by
 unfold notNilP
 rw [isNilP_C hr]
 rfl

theorem info3 : (Try.prog.info? 3).map (fun i => (i.zero, i.size, i.bytes)) = some (some (.int .i64 0), 1, 8) := by kernel_rfl
theorem info5 : (Try.prog.info? 5).map (fun i => (i.zero, i.size, i.bytes)) = some (some (.int .u8 0), 1, 1) := by kernel_rfl
theorem info21 : (Try.prog.info? 21).map (fun i => (i.zero, i.size, i.bytes)) = some (some (.int .i32 0), 1, 4) := by kernel_rfl
theorem info43 : (Try.prog.info? 43).map (fun i => (i.zero, i.size, i.bytes)) = some (some (.slice none 0 0), 1, 24) := by kernel_rfl
theorem info47 : (Try.prog.info? 47).map (fun i => (i.zero, i.size, i.bytes)) = some (some (.agg #[(.int .i32 0), (.int .u32 0), (.slice none 0 0)]), 3, 32) := by kernel_rfl
theorem info75 : (Try.prog.info? 75).map (fun i => (i.zero, i.size, i.bytes)) = some (some (.agg #[(.int .i64 0), (.int .i64 0), (.int .i64 0), (.int .i64 0), (.int .i64 0), (.int .i64 0), (.int .i64 0), (.slice none 0 0), (.slice none 0 0)]), 9, 104) := by kernel_rfl
theorem info78 : (Try.prog.info? 78).map (fun i => (i.zero, i.size, i.bytes)) = some (some (.int .u64 0), 1, 8) := by kernel_rfl
theorem info82 : (Try.prog.info? 82).map (fun i => (i.zero, i.size, i.bytes)) = some (some (.agg #[(.int .i32 0), (.int .u32 0), (.slice none 0 0), (.slice none 0 0)]), 4, 56) := by kernel_rfl
theorem info98 : (Try.prog.info? 98).map (fun i => (i.zero, i.size, i.bytes)) = some (some (.agg #[(.int .i32 0), (.int .u32 0), (.slice none 0 0)]), 3, 32) := by kernel_rfl
-- the values' own types
def rd_L3 (xs : List (List Int)) (i : Int) : (List Int) := xs.getD i.toNat ([] : List Int)
theorem at_L3 {w : World} {A : Option Addr} {n : Nat} {xs : List (List Int)} (h : Kd.C (Kd.slice 3 (Kd.int .i64)) w A n xs) (i : Int) (h0 : 0 ≤ i) (h1 : i < n) : ∃ ad A0 c0, A = some ad ∧ w.cell? (ad.add i.toNat) = some (.slice A0 (rd_L3 xs i).length c0) ∧ (rd_L3 xs i).length ≤ c0 ∧ (Kd.int .i64).C w A0 (rd_L3 xs i).length (rd_L3 xs i) := by
 obtain ⟨ad, c, e, _, hK, hc0⟩ := Kd.C_get h ([] : List Int) i h0 h1
 have hc : ∀ j u, c[j]? = some u → w.cell? (ad.add (i.toNat * 1 + j)) = some u := hc0
 obtain ⟨A0, c0, rfl, l0, g0⟩ := hK
 exact ⟨ad, A0, c0, e, by have hq := hc 0 _ rfl; rwa [Nat.mul_one, Nat.add_zero] at hq, l0, g0⟩

/-! #### struct type 47 -/
structure S47 where
 f0 : Int
 f1 : Int
 f2 : (List Int)
def z47 : S47 := ⟨(0 : Int), (0 : Int), ([] : List Int)⟩
def k47 : Kd S47 := Kd.iso (Kd.pair (Kd.int .i32) (Kd.pair (Kd.int .u32) (Kd.slice 3 (Kd.int .i64)))) (fun x : S47 => (x.f0, x.f1, x.f2))
theorem k47_open {w : World} {x : S47} {cs : List Value} (h : k47.K w x cs) : ∃ A2 c2, cs = [.int .i32 x.f0, .int .u32 x.f1, .slice A2 x.f2.length c2] ∧ x.f2.length ≤ c2 ∧ (Kd.int .i64).C w A2 x.f2.length x.f2 := by
 obtain ⟨_, _, rfl, rfl, ⟨_, _, rfl, rfl, ⟨A2, c2, rfl, l2, g2⟩⟩⟩ := h
 exact ⟨A2, c2, rfl, l2, g2⟩
theorem k47_openM {w : World} {base : Nat} {ok : Nat → Prop} {x : S47} {cs : List Value} (h : k47.M w base ok x cs) : ∃ v2, cs = [.int .i32 x.f0, .int .u32 x.f1, v2] ∧ (Kd.int .i64).R 3 w base ok v2 x.f2 := by
 obtain ⟨_, _, rfl, rfl, ⟨_, _, rfl, rfl, ⟨v2, rfl, g2⟩⟩⟩ := h
 exact ⟨v2, rfl, g2⟩
theorem k47_mk (w : World) (x : S47) {A2 : Option Addr} {c2 : Nat} (l2 : x.f2.length ≤ c2) (g2 : (Kd.int .i64).C w A2 x.f2.length x.f2) : k47.K w x [.int .i32 x.f0, .int .u32 x.f1, .slice A2 x.f2.length c2] := ⟨[.int .i32 x.f0], [.int .u32 x.f1, .slice A2 x.f2.length c2], rfl, rfl, ⟨[.int .u32 x.f1], [.slice A2 x.f2.length c2], rfl, rfl, ⟨A2, c2, rfl, l2, g2⟩⟩⟩
theorem k47_mkM (w : World) (base : Nat) (ok : Nat → Prop) (x : S47) {v2 : Value} (g2 : (Kd.int .i64).R 3 w base ok v2 x.f2) : k47.M w base ok x [.int .i32 x.f0, .int .u32 x.f1, v2] := ⟨[.int .i32 x.f0], [.int .u32 x.f1, v2], rfl, rfl, ⟨[.int .u32 x.f1], [v2], rfl, rfl, ⟨v2, rfl, g2⟩⟩⟩
theorem k47_openF {W : World} {ok : Nat → Prop} {x : S47} {cs : List Value} (h : Kd.FK k47 W ok x cs) : ∃ A2 c2, cs = [.int .i32 x.f0, .int .u32 x.f1, .slice A2 x.f2.length c2] ∧ x.f2.length ≤ c2 ∧ Kd.F (Kd.int .i64) W ok A2 x.f2.length x.f2 := by
 obtain ⟨A2, c2, rfl, l2, _⟩ := k47_open (Kd.FK_now h)
 exact ⟨A2, c2, rfl, l2, (fun W' hW => by obtain ⟨A2_, c2_, he, l2_, g2_⟩ := k47_open (h W' hW); injection (Option.some.inj (show some (Value.slice A2 x.f2.length c2) = some (Value.slice A2_ x.f2.length c2_) from congrArg (fun l => l[2]?) he)) with ha_ _ _; rw [ha_]; exact g2_)⟩
theorem k47_mkF (W : World) (ok : Nat → Prop) (x : S47) {A2 : Option Addr} {c2 : Nat} (l2 : x.f2.length ≤ c2) (g2 : Kd.F (Kd.int .i64) W ok A2 x.f2.length x.f2) : Kd.FK k47 W ok x [.int .i32 x.f0, .int .u32 x.f1, .slice A2 x.f2.length c2] := fun W2 hW => k47_mk W2 x l2 (g2 W2 hW)
def rd_T47 (xs : List S47) (i : Int) : S47 := xs.getD i.toNat z47
theorem at_T47 {w : World} {A : Option Addr} {n : Nat} {xs : List S47} (h : Kd.C k47 w A n xs) (i : Int) (h0 : 0 ≤ i) (h1 : i < n) : ∃ ad A2 c2, A = some ad ∧ w.cell? (ad.add (i.toNat * 3)) = some (.int .i32 (rd_T47 xs i).f0) ∧ w.cell? ⟨(ad.add (i.toNat * 3)).block, (ad.add (i.toNat * 3)).off + 1, none⟩ = some (.int .u32 (rd_T47 xs i).f1) ∧ w.cell? ⟨(ad.add (i.toNat * 3)).block, (ad.add (i.toNat * 3)).off + 2, none⟩ = some (.slice A2 (rd_T47 xs i).f2.length c2) ∧ (rd_T47 xs i).f2.length ≤ c2 ∧ (Kd.int .i64).C w A2 (rd_T47 xs i).f2.length (rd_T47 xs i).f2 := by
 obtain ⟨ad, c, e, _, hK, hc0⟩ := Kd.C_get h z47 i h0 h1
 have hc : ∀ j u, c[j]? = some u → w.cell? (ad.add (i.toNat * 3 + j)) = some u := hc0
 obtain ⟨A2, c2, rfl, l2, g2⟩ := k47_open hK
 exact ⟨ad, A2, c2, e, hc 0 _ rfl, by rw [← add_field _ _ 1 (by omega)]; exact hc 1 _ rfl, by rw [← add_field _ _ 2 (by omega)]; exact hc 2 _ rfl, l2, g2⟩

def rd_L6 (xs : List (List Int)) (i : Int) : (List Int) := xs.getD i.toNat ([] : List Int)
theorem at_L6 {w : World} {A : Option Addr} {n : Nat} {xs : List (List Int)} (h : Kd.C (Kd.slice 78 (Kd.int .u64)) w A n xs) (i : Int) (h0 : 0 ≤ i) (h1 : i < n) : ∃ ad A0 c0, A = some ad ∧ w.cell? (ad.add i.toNat) = some (.slice A0 (rd_L6 xs i).length c0) ∧ (rd_L6 xs i).length ≤ c0 ∧ (Kd.int .u64).C w A0 (rd_L6 xs i).length (rd_L6 xs i) := by
 obtain ⟨ad, c, e, _, hK, hc0⟩ := Kd.C_get h ([] : List Int) i h0 h1
 have hc : ∀ j u, c[j]? = some u → w.cell? (ad.add (i.toNat * 1 + j)) = some u := hc0
 obtain ⟨A0, c0, rfl, l0, g0⟩ := hK
 exact ⟨ad, A0, c0, e, by have hq := hc 0 _ rfl; rwa [Nat.mul_one, Nat.add_zero] at hq, l0, g0⟩

/-! #### struct type 82 -/
structure S82 where
 f0 : S47
 f1 : (List Int)
def z82 : S82 := ⟨z47, ([] : List Int)⟩
def k82 : Kd S82 := Kd.iso (Kd.pair k47 (Kd.slice 78 (Kd.int .u64))) (fun x : S82 => (x.f0, x.f1))
theorem k82_open {w : World} {x : S82} {cs : List Value} (h : k82.K w x cs) : ∃ A2 c2 A3 c3, cs = [.int .i32 x.f0.f0, .int .u32 x.f0.f1, .slice A2 x.f0.f2.length c2, .slice A3 x.f1.length c3] ∧ x.f0.f2.length ≤ c2 ∧ (Kd.int .i64).C w A2 x.f0.f2.length x.f0.f2 ∧ x.f1.length ≤ c3 ∧ (Kd.int .u64).C w A3 x.f1.length x.f1 := by
 obtain ⟨_, _, rfl, s0, ⟨A3, c3, rfl, l3, g3⟩⟩ := h
 obtain ⟨A2, c2, rfl, l2, g2⟩ := k47_open s0
 exact ⟨A2, c2, A3, c3, rfl, l2, g2, l3, g3⟩
theorem k82_openM {w : World} {base : Nat} {ok : Nat → Prop} {x : S82} {cs : List Value} (h : k82.M w base ok x cs) : ∃ v2 v3, cs = [.int .i32 x.f0.f0, .int .u32 x.f0.f1, v2, v3] ∧ (Kd.int .i64).R 3 w base ok v2 x.f0.f2 ∧ (Kd.int .u64).R 78 w base ok v3 x.f1 := by
 obtain ⟨_, _, rfl, s0, ⟨v3, rfl, g3⟩⟩ := h
 obtain ⟨v2, rfl, g2⟩ := k47_openM s0
 exact ⟨v2, v3, rfl, g2, g3⟩
theorem k82_mk (w : World) (x : S82) {A2 : Option Addr} {c2 : Nat} (l2 : x.f0.f2.length ≤ c2) (g2 : (Kd.int .i64).C w A2 x.f0.f2.length x.f0.f2) {A3 : Option Addr} {c3 : Nat} (l3 : x.f1.length ≤ c3) (g3 : (Kd.int .u64).C w A3 x.f1.length x.f1) : k82.K w x [.int .i32 x.f0.f0, .int .u32 x.f0.f1, .slice A2 x.f0.f2.length c2, .slice A3 x.f1.length c3] := ⟨[.int .i32 x.f0.f0, .int .u32 x.f0.f1, .slice A2 x.f0.f2.length c2], [.slice A3 x.f1.length c3], rfl, (k47_mk w x.f0 l2 g2), ⟨A3, c3, rfl, l3, g3⟩⟩
theorem k82_mkM (w : World) (base : Nat) (ok : Nat → Prop) (x : S82) {v2 : Value} (g2 : (Kd.int .i64).R 3 w base ok v2 x.f0.f2) {v3 : Value} (g3 : (Kd.int .u64).R 78 w base ok v3 x.f1) : k82.M w base ok x [.int .i32 x.f0.f0, .int .u32 x.f0.f1, v2, v3] := ⟨[.int .i32 x.f0.f0, .int .u32 x.f0.f1, v2], [v3], rfl, (k47_mkM w base ok x.f0 g2), ⟨v3, rfl, g3⟩⟩
theorem k82_openF {W : World} {ok : Nat → Prop} {x : S82} {cs : List Value} (h : Kd.FK k82 W ok x cs) : ∃ A2 c2 A3 c3, cs = [.int .i32 x.f0.f0, .int .u32 x.f0.f1, .slice A2 x.f0.f2.length c2, .slice A3 x.f1.length c3] ∧ x.f0.f2.length ≤ c2 ∧ Kd.F (Kd.int .i64) W ok A2 x.f0.f2.length x.f0.f2 ∧ x.f1.length ≤ c3 ∧ Kd.F (Kd.int .u64) W ok A3 x.f1.length x.f1 := by
 obtain ⟨A2, c2, A3, c3, rfl, l2, _, l3, _⟩ := k82_open (Kd.FK_now h)
 exact ⟨A2, c2, A3, c3, rfl, l2, (fun W' hW => by obtain ⟨A2_, c2_, A3_, c3_, he, l2_, g2_, l3_, g3_⟩ := k82_open (h W' hW); injection (Option.some.inj (show some (Value.slice A2 x.f0.f2.length c2) = some (Value.slice A2_ x.f0.f2.length c2_) from congrArg (fun l => l[2]?) he)) with ha_ _ _; rw [ha_]; exact g2_), l3, (fun W' hW => by obtain ⟨A2_, c2_, A3_, c3_, he, l2_, g2_, l3_, g3_⟩ := k82_open (h W' hW); injection (Option.some.inj (show some (Value.slice A3 x.f1.length c3) = some (Value.slice A3_ x.f1.length c3_) from congrArg (fun l => l[3]?) he)) with ha_ _ _; rw [ha_]; exact g3_)⟩
theorem k82_mkF (W : World) (ok : Nat → Prop) (x : S82) {A2 : Option Addr} {c2 : Nat} (l2 : x.f0.f2.length ≤ c2) (g2 : Kd.F (Kd.int .i64) W ok A2 x.f0.f2.length x.f0.f2) {A3 : Option Addr} {c3 : Nat} (l3 : x.f1.length ≤ c3) (g3 : Kd.F (Kd.int .u64) W ok A3 x.f1.length x.f1) : Kd.FK k82 W ok x [.int .i32 x.f0.f0, .int .u32 x.f0.f1, .slice A2 x.f0.f2.length c2, .slice A3 x.f1.length c3] := fun W2 hW => k82_mk W2 x l2 (g2 W2 hW) l3 (g3 W2 hW)
def rd_T82 (xs : List S82) (i : Int) : S82 := xs.getD i.toNat z82
theorem at_T82 {w : World} {A : Option Addr} {n : Nat} {xs : List S82} (h : Kd.C k82 w A n xs) (i : Int) (h0 : 0 ≤ i) (h1 : i < n) : ∃ ad A2 c2 A3 c3, A = some ad ∧ w.cell? (ad.add (i.toNat * 4)) = some (.int .i32 (rd_T82 xs i).f0.f0) ∧ w.cell? ⟨(ad.add (i.toNat * 4)).block, (ad.add (i.toNat * 4)).off + 1, none⟩ = some (.int .u32 (rd_T82 xs i).f0.f1) ∧ w.cell? ⟨(ad.add (i.toNat * 4)).block, (ad.add (i.toNat * 4)).off + 2, none⟩ = some (.slice A2 (rd_T82 xs i).f0.f2.length c2) ∧ w.cell? ⟨(ad.add (i.toNat * 4)).block, (ad.add (i.toNat * 4)).off + 3, none⟩ = some (.slice A3 (rd_T82 xs i).f1.length c3) ∧ (rd_T82 xs i).f0.f2.length ≤ c2 ∧ (Kd.int .i64).C w A2 (rd_T82 xs i).f0.f2.length (rd_T82 xs i).f0.f2 ∧ (rd_T82 xs i).f1.length ≤ c3 ∧ (Kd.int .u64).C w A3 (rd_T82 xs i).f1.length (rd_T82 xs i).f1 := by
 obtain ⟨ad, c, e, _, hK, hc0⟩ := Kd.C_get h z82 i h0 h1
 have hc : ∀ j u, c[j]? = some u → w.cell? (ad.add (i.toNat * 4 + j)) = some u := hc0
 obtain ⟨A2, c2, A3, c3, rfl, l2, g2, l3, g3⟩ := k82_open hK
 exact ⟨ad, A2, c2, A3, c3, e, hc 0 _ rfl, by rw [← add_field _ _ 1 (by omega)]; exact hc 1 _ rfl, by rw [← add_field _ _ 2 (by omega)]; exact hc 2 _ rfl, by rw [← add_field _ _ 3 (by omega)]; exact hc 3 _ rfl, l2, g2, l3, g3⟩

def rd_L8 (xs : List (List S47)) (i : Int) : (List S47) := xs.getD i.toNat ([] : List S47)
theorem at_L8 {w : World} {A : Option Addr} {n : Nat} {xs : List (List S47)} (h : Kd.C (Kd.slice 47 k47) w A n xs) (i : Int) (h0 : 0 ≤ i) (h1 : i < n) : ∃ ad A0 c0, A = some ad ∧ w.cell? (ad.add i.toNat) = some (.slice A0 (rd_L8 xs i).length c0) ∧ (rd_L8 xs i).length ≤ c0 ∧ k47.C w A0 (rd_L8 xs i).length (rd_L8 xs i) := by
 obtain ⟨ad, c, e, _, hK, hc0⟩ := Kd.C_get h ([] : List S47) i h0 h1
 have hc : ∀ j u, c[j]? = some u → w.cell? (ad.add (i.toNat * 1 + j)) = some u := hc0
 obtain ⟨A0, c0, rfl, l0, g0⟩ := hK
 exact ⟨ad, A0, c0, e, by have hq := hc 0 _ rfl; rwa [Nat.mul_one, Nat.add_zero] at hq, l0, g0⟩

/-! #### struct type 23 -/
structure S23 where
 f0 : Int
 f1 : Int
 f2 : Int
 f3 : Int
 f4 : Int
 f5 : Int
 f6 : Int
def z23 : S23 := ⟨(0 : Int), (0 : Int), (0 : Int), (0 : Int), (0 : Int), (0 : Int), (0 : Int)⟩
def k23 : Kd S23 := Kd.iso (Kd.pair (Kd.int .i64) (Kd.pair (Kd.int .i64) (Kd.pair (Kd.int .i64) (Kd.pair (Kd.int .i64) (Kd.pair (Kd.int .i64) (Kd.pair (Kd.int .i64) (Kd.int .i64))))))) (fun x : S23 => (x.f0, x.f1, x.f2, x.f3, x.f4, x.f5, x.f6))
theorem k23_open {w : World} {x : S23} {cs : List Value} (h : k23.K w x cs) : cs = [.int .i64 x.f0, .int .i64 x.f1, .int .i64 x.f2, .int .i64 x.f3, .int .i64 x.f4, .int .i64 x.f5, .int .i64 x.f6] := by
 obtain ⟨_, _, rfl, rfl, ⟨_, _, rfl, rfl, ⟨_, _, rfl, rfl, ⟨_, _, rfl, rfl, ⟨_, _, rfl, rfl, ⟨_, _, rfl, rfl, rfl⟩⟩⟩⟩⟩⟩ := h
 exact rfl
theorem k23_openM {w : World} {base : Nat} {ok : Nat → Prop} {x : S23} {cs : List Value} (h : k23.M w base ok x cs) : cs = [.int .i64 x.f0, .int .i64 x.f1, .int .i64 x.f2, .int .i64 x.f3, .int .i64 x.f4, .int .i64 x.f5, .int .i64 x.f6] := by
 obtain ⟨_, _, rfl, rfl, ⟨_, _, rfl, rfl, ⟨_, _, rfl, rfl, ⟨_, _, rfl, rfl, ⟨_, _, rfl, rfl, ⟨_, _, rfl, rfl, rfl⟩⟩⟩⟩⟩⟩ := h
 exact rfl
theorem k23_mk (w : World) (x : S23)  : k23.K w x [.int .i64 x.f0, .int .i64 x.f1, .int .i64 x.f2, .int .i64 x.f3, .int .i64 x.f4, .int .i64 x.f5, .int .i64 x.f6] := ⟨[.int .i64 x.f0], [.int .i64 x.f1, .int .i64 x.f2, .int .i64 x.f3, .int .i64 x.f4, .int .i64 x.f5, .int .i64 x.f6], rfl, rfl, ⟨[.int .i64 x.f1], [.int .i64 x.f2, .int .i64 x.f3, .int .i64 x.f4, .int .i64 x.f5, .int .i64 x.f6], rfl, rfl, ⟨[.int .i64 x.f2], [.int .i64 x.f3, .int .i64 x.f4, .int .i64 x.f5, .int .i64 x.f6], rfl, rfl, ⟨[.int .i64 x.f3], [.int .i64 x.f4, .int .i64 x.f5, .int .i64 x.f6], rfl, rfl, ⟨[.int .i64 x.f4], [.int .i64 x.f5, .int .i64 x.f6], rfl, rfl, ⟨[.int .i64 x.f5], [.int .i64 x.f6], rfl, rfl, rfl⟩⟩⟩⟩⟩⟩
theorem k23_mkM (w : World) (base : Nat) (ok : Nat → Prop) (x : S23)  : k23.M w base ok x [.int .i64 x.f0, .int .i64 x.f1, .int .i64 x.f2, .int .i64 x.f3, .int .i64 x.f4, .int .i64 x.f5, .int .i64 x.f6] := ⟨[.int .i64 x.f0], [.int .i64 x.f1, .int .i64 x.f2, .int .i64 x.f3, .int .i64 x.f4, .int .i64 x.f5, .int .i64 x.f6], rfl, rfl, ⟨[.int .i64 x.f1], [.int .i64 x.f2, .int .i64 x.f3, .int .i64 x.f4, .int .i64 x.f5, .int .i64 x.f6], rfl, rfl, ⟨[.int .i64 x.f2], [.int .i64 x.f3, .int .i64 x.f4, .int .i64 x.f5, .int .i64 x.f6], rfl, rfl, ⟨[.int .i64 x.f3], [.int .i64 x.f4, .int .i64 x.f5, .int .i64 x.f6], rfl, rfl, ⟨[.int .i64 x.f4], [.int .i64 x.f5, .int .i64 x.f6], rfl, rfl, ⟨[.int .i64 x.f5], [.int .i64 x.f6], rfl, rfl, rfl⟩⟩⟩⟩⟩⟩
theorem k23_mkF (W : World) (ok : Nat → Prop) (x : S23) : Kd.FK k23 W ok x [.int .i64 x.f0, .int .i64 x.f1, .int .i64 x.f2, .int .i64 x.f3, .int .i64 x.f4, .int .i64 x.f5, .int .i64 x.f6] := fun W2 _ => k23_mk W2 x
def rd_T23 (xs : List S23) (i : Int) : S23 := xs.getD i.toNat z23
theorem at_T23 {w : World} {A : Option Addr} {n : Nat} {xs : List S23} (h : Kd.C k23 w A n xs) (i : Int) (h0 : 0 ≤ i) (h1 : i < n) : ∃ ad , A = some ad ∧ w.cell? (ad.add (i.toNat * 7)) = some (.int .i64 (rd_T23 xs i).f0) ∧ w.cell? ⟨(ad.add (i.toNat * 7)).block, (ad.add (i.toNat * 7)).off + 1, none⟩ = some (.int .i64 (rd_T23 xs i).f1) ∧ w.cell? ⟨(ad.add (i.toNat * 7)).block, (ad.add (i.toNat * 7)).off + 2, none⟩ = some (.int .i64 (rd_T23 xs i).f2) ∧ w.cell? ⟨(ad.add (i.toNat * 7)).block, (ad.add (i.toNat * 7)).off + 3, none⟩ = some (.int .i64 (rd_T23 xs i).f3) ∧ w.cell? ⟨(ad.add (i.toNat * 7)).block, (ad.add (i.toNat * 7)).off + 4, none⟩ = some (.int .i64 (rd_T23 xs i).f4) ∧ w.cell? ⟨(ad.add (i.toNat * 7)).block, (ad.add (i.toNat * 7)).off + 5, none⟩ = some (.int .i64 (rd_T23 xs i).f5) ∧ w.cell? ⟨(ad.add (i.toNat * 7)).block, (ad.add (i.toNat * 7)).off + 6, none⟩ = some (.int .i64 (rd_T23 xs i).f6) := by
 obtain ⟨ad, c, e, _, hK, hc0⟩ := Kd.C_get h z23 i h0 h1
 have hc : ∀ j u, c[j]? = some u → w.cell? (ad.add (i.toNat * 7 + j)) = some u := hc0
 obtain rfl := k23_open hK
 exact ⟨ad, e, hc 0 _ rfl, by rw [← add_field _ _ 1 (by omega)]; exact hc 1 _ rfl, by rw [← add_field _ _ 2 (by omega)]; exact hc 2 _ rfl, by rw [← add_field _ _ 3 (by omega)]; exact hc 3 _ rfl, by rw [← add_field _ _ 4 (by omega)]; exact hc 4 _ rfl, by rw [← add_field _ _ 5 (by omega)]; exact hc 5 _ rfl, by rw [← add_field _ _ 6 (by omega)]; exact hc 6 _ rfl⟩

def rd_L10 (xs : List (List S82)) (i : Int) : (List S82) := xs.getD i.toNat ([] : List S82)
theorem at_L10 {w : World} {A : Option Addr} {n : Nat} {xs : List (List S82)} (h : Kd.C (Kd.slice 82 k82) w A n xs) (i : Int) (h0 : 0 ≤ i) (h1 : i < n) : ∃ ad A0 c0, A = some ad ∧ w.cell? (ad.add i.toNat) = some (.slice A0 (rd_L10 xs i).length c0) ∧ (rd_L10 xs i).length ≤ c0 ∧ k82.C w A0 (rd_L10 xs i).length (rd_L10 xs i) := by
 obtain ⟨ad, c, e, _, hK, hc0⟩ := Kd.C_get h ([] : List S82) i h0 h1
 have hc : ∀ j u, c[j]? = some u → w.cell? (ad.add (i.toNat * 1 + j)) = some u := hc0
 obtain ⟨A0, c0, rfl, l0, g0⟩ := hK
 exact ⟨ad, A0, c0, e, by have hq := hc 0 _ rfl; rwa [Nat.mul_one, Nat.add_zero] at hq, l0, g0⟩

/-! #### struct type 75 -/
structure S75 where
 f0 : S23
 f1 : (List S82)
 f2 : (List S82)
def z75 : S75 := ⟨z23, ([] : List S82), ([] : List S82)⟩
def k75 : Kd S75 := Kd.iso (Kd.pair k23 (Kd.pair (Kd.slice 82 k82) (Kd.slice 82 k82))) (fun x : S75 => (x.f0, x.f1, x.f2))
theorem k75_open {w : World} {x : S75} {cs : List Value} (h : k75.K w x cs) : ∃ A7 c7 A8 c8, cs = [.int .i64 x.f0.f0, .int .i64 x.f0.f1, .int .i64 x.f0.f2, .int .i64 x.f0.f3, .int .i64 x.f0.f4, .int .i64 x.f0.f5, .int .i64 x.f0.f6, .slice A7 x.f1.length c7, .slice A8 x.f2.length c8] ∧ x.f1.length ≤ c7 ∧ k82.C w A7 x.f1.length x.f1 ∧ x.f2.length ≤ c8 ∧ k82.C w A8 x.f2.length x.f2 := by
 obtain ⟨_, _, rfl, s0, ⟨_, _, rfl, ⟨A7, c7, rfl, l7, g7⟩, ⟨A8, c8, rfl, l8, g8⟩⟩⟩ := h
 obtain rfl := k23_open s0
 exact ⟨A7, c7, A8, c8, rfl, l7, g7, l8, g8⟩
theorem k75_openM {w : World} {base : Nat} {ok : Nat → Prop} {x : S75} {cs : List Value} (h : k75.M w base ok x cs) : ∃ v7 v8, cs = [.int .i64 x.f0.f0, .int .i64 x.f0.f1, .int .i64 x.f0.f2, .int .i64 x.f0.f3, .int .i64 x.f0.f4, .int .i64 x.f0.f5, .int .i64 x.f0.f6, v7, v8] ∧ k82.R 82 w base ok v7 x.f1 ∧ k82.R 82 w base ok v8 x.f2 := by
 obtain ⟨_, _, rfl, s0, ⟨_, _, rfl, ⟨v7, rfl, g7⟩, ⟨v8, rfl, g8⟩⟩⟩ := h
 obtain rfl := k23_openM s0
 exact ⟨v7, v8, rfl, g7, g8⟩
theorem k75_mk (w : World) (x : S75) {A7 : Option Addr} {c7 : Nat} (l7 : x.f1.length ≤ c7) (g7 : k82.C w A7 x.f1.length x.f1) {A8 : Option Addr} {c8 : Nat} (l8 : x.f2.length ≤ c8) (g8 : k82.C w A8 x.f2.length x.f2) : k75.K w x [.int .i64 x.f0.f0, .int .i64 x.f0.f1, .int .i64 x.f0.f2, .int .i64 x.f0.f3, .int .i64 x.f0.f4, .int .i64 x.f0.f5, .int .i64 x.f0.f6, .slice A7 x.f1.length c7, .slice A8 x.f2.length c8] := ⟨[.int .i64 x.f0.f0, .int .i64 x.f0.f1, .int .i64 x.f0.f2, .int .i64 x.f0.f3, .int .i64 x.f0.f4, .int .i64 x.f0.f5, .int .i64 x.f0.f6], [.slice A7 x.f1.length c7, .slice A8 x.f2.length c8], rfl, (k23_mk w x.f0 ), ⟨[.slice A7 x.f1.length c7], [.slice A8 x.f2.length c8], rfl, ⟨A7, c7, rfl, l7, g7⟩, ⟨A8, c8, rfl, l8, g8⟩⟩⟩
theorem k75_mkM (w : World) (base : Nat) (ok : Nat → Prop) (x : S75) {v7 : Value} (g7 : k82.R 82 w base ok v7 x.f1) {v8 : Value} (g8 : k82.R 82 w base ok v8 x.f2) : k75.M w base ok x [.int .i64 x.f0.f0, .int .i64 x.f0.f1, .int .i64 x.f0.f2, .int .i64 x.f0.f3, .int .i64 x.f0.f4, .int .i64 x.f0.f5, .int .i64 x.f0.f6, v7, v8] := ⟨[.int .i64 x.f0.f0, .int .i64 x.f0.f1, .int .i64 x.f0.f2, .int .i64 x.f0.f3, .int .i64 x.f0.f4, .int .i64 x.f0.f5, .int .i64 x.f0.f6], [v7, v8], rfl, (k23_mkM w base ok x.f0 ), ⟨[v7], [v8], rfl, ⟨v7, rfl, g7⟩, ⟨v8, rfl, g8⟩⟩⟩
theorem k75_openF {W : World} {ok : Nat → Prop} {x : S75} {cs : List Value} (h : Kd.FK k75 W ok x cs) : ∃ A7 c7 A8 c8, cs = [.int .i64 x.f0.f0, .int .i64 x.f0.f1, .int .i64 x.f0.f2, .int .i64 x.f0.f3, .int .i64 x.f0.f4, .int .i64 x.f0.f5, .int .i64 x.f0.f6, .slice A7 x.f1.length c7, .slice A8 x.f2.length c8] ∧ x.f1.length ≤ c7 ∧ Kd.F k82 W ok A7 x.f1.length x.f1 ∧ x.f2.length ≤ c8 ∧ Kd.F k82 W ok A8 x.f2.length x.f2 := by
 obtain ⟨A7, c7, A8, c8, rfl, l7, _, l8, _⟩ := k75_open (Kd.FK_now h)
 exact ⟨A7, c7, A8, c8, rfl, l7, (fun W' hW => by obtain ⟨A7_, c7_, A8_, c8_, he, l7_, g7_, l8_, g8_⟩ := k75_open (h W' hW); injection (Option.some.inj (show some (Value.slice A7 x.f1.length c7) = some (Value.slice A7_ x.f1.length c7_) from congrArg (fun l => l[7]?) he)) with ha_ _ _; rw [ha_]; exact g7_), l8, (fun W' hW => by obtain ⟨A7_, c7_, A8_, c8_, he, l7_, g7_, l8_, g8_⟩ := k75_open (h W' hW); injection (Option.some.inj (show some (Value.slice A8 x.f2.length c8) = some (Value.slice A8_ x.f2.length c8_) from congrArg (fun l => l[8]?) he)) with ha_ _ _; rw [ha_]; exact g8_)⟩
theorem k75_mkF (W : World) (ok : Nat → Prop) (x : S75) {A7 : Option Addr} {c7 : Nat} (l7 : x.f1.length ≤ c7) (g7 : Kd.F k82 W ok A7 x.f1.length x.f1) {A8 : Option Addr} {c8 : Nat} (l8 : x.f2.length ≤ c8) (g8 : Kd.F k82 W ok A8 x.f2.length x.f2) : Kd.FK k75 W ok x [.int .i64 x.f0.f0, .int .i64 x.f0.f1, .int .i64 x.f0.f2, .int .i64 x.f0.f3, .int .i64 x.f0.f4, .int .i64 x.f0.f5, .int .i64 x.f0.f6, .slice A7 x.f1.length c7, .slice A8 x.f2.length c8] := fun W2 hW => k75_mk W2 x l7 (g7 W2 hW) l8 (g8 W2 hW)
def rd_T75 (xs : List S75) (i : Int) : S75 := xs.getD i.toNat z75
theorem at_T75 {w : World} {A : Option Addr} {n : Nat} {xs : List S75} (h : Kd.C k75 w A n xs) (i : Int) (h0 : 0 ≤ i) (h1 : i < n) : ∃ ad A7 c7 A8 c8, A = some ad ∧ w.cell? (ad.add (i.toNat * 9)) = some (.int .i64 (rd_T75 xs i).f0.f0) ∧ w.cell? ⟨(ad.add (i.toNat * 9)).block, (ad.add (i.toNat * 9)).off + 1, none⟩ = some (.int .i64 (rd_T75 xs i).f0.f1) ∧ w.cell? ⟨(ad.add (i.toNat * 9)).block, (ad.add (i.toNat * 9)).off + 2, none⟩ = some (.int .i64 (rd_T75 xs i).f0.f2) ∧ w.cell? ⟨(ad.add (i.toNat * 9)).block, (ad.add (i.toNat * 9)).off + 3, none⟩ = some (.int .i64 (rd_T75 xs i).f0.f3) ∧ w.cell? ⟨(ad.add (i.toNat * 9)).block, (ad.add (i.toNat * 9)).off + 4, none⟩ = some (.int .i64 (rd_T75 xs i).f0.f4) ∧ w.cell? ⟨(ad.add (i.toNat * 9)).block, (ad.add (i.toNat * 9)).off + 5, none⟩ = some (.int .i64 (rd_T75 xs i).f0.f5) ∧ w.cell? ⟨(ad.add (i.toNat * 9)).block, (ad.add (i.toNat * 9)).off + 6, none⟩ = some (.int .i64 (rd_T75 xs i).f0.f6) ∧ w.cell? ⟨(ad.add (i.toNat * 9)).block, (ad.add (i.toNat * 9)).off + 7, none⟩ = some (.slice A7 (rd_T75 xs i).f1.length c7) ∧ w.cell? ⟨(ad.add (i.toNat * 9)).block, (ad.add (i.toNat * 9)).off + 8, none⟩ = some (.slice A8 (rd_T75 xs i).f2.length c8) ∧ (rd_T75 xs i).f1.length ≤ c7 ∧ k82.C w A7 (rd_T75 xs i).f1.length (rd_T75 xs i).f1 ∧ (rd_T75 xs i).f2.length ≤ c8 ∧ k82.C w A8 (rd_T75 xs i).f2.length (rd_T75 xs i).f2 := by
 obtain ⟨ad, c, e, _, hK, hc0⟩ := Kd.C_get h z75 i h0 h1
 have hc : ∀ j u, c[j]? = some u → w.cell? (ad.add (i.toNat * 9 + j)) = some u := hc0
 obtain ⟨A7, c7, A8, c8, rfl, l7, g7, l8, g8⟩ := k75_open hK
 exact ⟨ad, A7, c7, A8, c8, e, hc 0 _ rfl, by rw [← add_field _ _ 1 (by omega)]; exact hc 1 _ rfl, by rw [← add_field _ _ 2 (by omega)]; exact hc 2 _ rfl, by rw [← add_field _ _ 3 (by omega)]; exact hc 3 _ rfl, by rw [← add_field _ _ 4 (by omega)]; exact hc 4 _ rfl, by rw [← add_field _ _ 5 (by omega)]; exact hc 5 _ rfl, by rw [← add_field _ _ 6 (by omega)]; exact hc 6 _ rfl, by rw [← add_field _ _ 7 (by omega)]; exact hc 7 _ rfl, by rw [← add_field _ _ 8 (by omega)]; exact hc 8 _ rfl, l7, g7, l8, g8⟩

def rd_L12 (xs : List (List S75)) (i : Int) : (List S75) := xs.getD i.toNat ([] : List S75)
theorem at_L12 {w : World} {A : Option Addr} {n : Nat} {xs : List (List S75)} (h : Kd.C (Kd.slice 75 k75) w A n xs) (i : Int) (h0 : 0 ≤ i) (h1 : i < n) : ∃ ad A0 c0, A = some ad ∧ w.cell? (ad.add i.toNat) = some (.slice A0 (rd_L12 xs i).length c0) ∧ (rd_L12 xs i).length ≤ c0 ∧ k75.C w A0 (rd_L12 xs i).length (rd_L12 xs i) := by
 obtain ⟨ad, c, e, _, hK, hc0⟩ := Kd.C_get h ([] : List S75) i h0 h1
 have hc : ∀ j u, c[j]? = some u → w.cell? (ad.add (i.toNat * 1 + j)) = some u := hc0
 obtain ⟨A0, c0, rfl, l0, g0⟩ := hK
 exact ⟨ad, A0, c0, e, by have hq := hc 0 _ rfl; rwa [Nat.mul_one, Nat.add_zero] at hq, l0, g0⟩

def rd_L13 (xs : List (List Int)) (i : Int) : (List Int) := xs.getD i.toNat ([] : List Int)
theorem at_L13 {w : World} {A : Option Addr} {n : Nat} {xs : List (List Int)} (h : Kd.C (Kd.slice 21 (Kd.int .i32)) w A n xs) (i : Int) (h0 : 0 ≤ i) (h1 : i < n) : ∃ ad A0 c0, A = some ad ∧ w.cell? (ad.add i.toNat) = some (.slice A0 (rd_L13 xs i).length c0) ∧ (rd_L13 xs i).length ≤ c0 ∧ (Kd.int .i32).C w A0 (rd_L13 xs i).length (rd_L13 xs i) := by
 obtain ⟨ad, c, e, _, hK, hc0⟩ := Kd.C_get h ([] : List Int) i h0 h1
 have hc : ∀ j u, c[j]? = some u → w.cell? (ad.add (i.toNat * 1 + j)) = some u := hc0
 obtain ⟨A0, c0, rfl, l0, g0⟩ := hK
 exact ⟨ad, A0, c0, e, by have hq := hc 0 _ rfl; rwa [Nat.mul_one, Nat.add_zero] at hq, l0, g0⟩

def rd_L15 (xs : List (List Int)) (i : Int) : (List Int) := xs.getD i.toNat ([] : List Int)
theorem at_L15 {w : World} {A : Option Addr} {n : Nat} {xs : List (List Int)} (h : Kd.C (Kd.slice 5 (Kd.int .u8)) w A n xs) (i : Int) (h0 : 0 ≤ i) (h1 : i < n) : ∃ ad A0 c0, A = some ad ∧ w.cell? (ad.add i.toNat) = some (.slice A0 (rd_L15 xs i).length c0) ∧ (rd_L15 xs i).length ≤ c0 ∧ (Kd.int .u8).C w A0 (rd_L15 xs i).length (rd_L15 xs i) := by
 obtain ⟨ad, c, e, _, hK, hc0⟩ := Kd.C_get h ([] : List Int) i h0 h1
 have hc : ∀ j u, c[j]? = some u → w.cell? (ad.add (i.toNat * 1 + j)) = some u := hc0
 obtain ⟨A0, c0, rfl, l0, g0⟩ := hK
 exact ⟨ad, A0, c0, e, by have hq := hc 0 _ rfl; rwa [Nat.mul_one, Nat.add_zero] at hq, l0, g0⟩

/-! #### struct type 98 -/
structure S98 where
 f0 : Int
 f1 : Int
 f2 : (List Int)
def z98 : S98 := ⟨(0 : Int), (0 : Int), ([] : List Int)⟩
def k98 : Kd S98 := Kd.iso (Kd.pair (Kd.int .i32) (Kd.pair (Kd.int .u32) (Kd.slice 3 (Kd.int .i64)))) (fun x : S98 => (x.f0, x.f1, x.f2))
theorem k98_open {w : World} {x : S98} {cs : List Value} (h : k98.K w x cs) : ∃ A2 c2, cs = [.int .i32 x.f0, .int .u32 x.f1, .slice A2 x.f2.length c2] ∧ x.f2.length ≤ c2 ∧ (Kd.int .i64).C w A2 x.f2.length x.f2 := by
 obtain ⟨_, _, rfl, rfl, ⟨_, _, rfl, rfl, ⟨A2, c2, rfl, l2, g2⟩⟩⟩ := h
 exact ⟨A2, c2, rfl, l2, g2⟩
theorem k98_openM {w : World} {base : Nat} {ok : Nat → Prop} {x : S98} {cs : List Value} (h : k98.M w base ok x cs) : ∃ v2, cs = [.int .i32 x.f0, .int .u32 x.f1, v2] ∧ (Kd.int .i64).R 3 w base ok v2 x.f2 := by
 obtain ⟨_, _, rfl, rfl, ⟨_, _, rfl, rfl, ⟨v2, rfl, g2⟩⟩⟩ := h
 exact ⟨v2, rfl, g2⟩
theorem k98_mk (w : World) (x : S98) {A2 : Option Addr} {c2 : Nat} (l2 : x.f2.length ≤ c2) (g2 : (Kd.int .i64).C w A2 x.f2.length x.f2) : k98.K w x [.int .i32 x.f0, .int .u32 x.f1, .slice A2 x.f2.length c2] := ⟨[.int .i32 x.f0], [.int .u32 x.f1, .slice A2 x.f2.length c2], rfl, rfl, ⟨[.int .u32 x.f1], [.slice A2 x.f2.length c2], rfl, rfl, ⟨A2, c2, rfl, l2, g2⟩⟩⟩
theorem k98_mkM (w : World) (base : Nat) (ok : Nat → Prop) (x : S98) {v2 : Value} (g2 : (Kd.int .i64).R 3 w base ok v2 x.f2) : k98.M w base ok x [.int .i32 x.f0, .int .u32 x.f1, v2] := ⟨[.int .i32 x.f0], [.int .u32 x.f1, v2], rfl, rfl, ⟨[.int .u32 x.f1], [v2], rfl, rfl, ⟨v2, rfl, g2⟩⟩⟩
theorem k98_openF {W : World} {ok : Nat → Prop} {x : S98} {cs : List Value} (h : Kd.FK k98 W ok x cs) : ∃ A2 c2, cs = [.int .i32 x.f0, .int .u32 x.f1, .slice A2 x.f2.length c2] ∧ x.f2.length ≤ c2 ∧ Kd.F (Kd.int .i64) W ok A2 x.f2.length x.f2 := by
 obtain ⟨A2, c2, rfl, l2, _⟩ := k98_open (Kd.FK_now h)
 exact ⟨A2, c2, rfl, l2, (fun W' hW => by obtain ⟨A2_, c2_, he, l2_, g2_⟩ := k98_open (h W' hW); injection (Option.some.inj (show some (Value.slice A2 x.f2.length c2) = some (Value.slice A2_ x.f2.length c2_) from congrArg (fun l => l[2]?) he)) with ha_ _ _; rw [ha_]; exact g2_)⟩
theorem k98_mkF (W : World) (ok : Nat → Prop) (x : S98) {A2 : Option Addr} {c2 : Nat} (l2 : x.f2.length ≤ c2) (g2 : Kd.F (Kd.int .i64) W ok A2 x.f2.length x.f2) : Kd.FK k98 W ok x [.int .i32 x.f0, .int .u32 x.f1, .slice A2 x.f2.length c2] := fun W2 hW => k98_mk W2 x l2 (g2 W2 hW)
def rd_T98 (xs : List S98) (i : Int) : S98 := xs.getD i.toNat z98
theorem at_T98 {w : World} {A : Option Addr} {n : Nat} {xs : List S98} (h : Kd.C k98 w A n xs) (i : Int) (h0 : 0 ≤ i) (h1 : i < n) : ∃ ad A2 c2, A = some ad ∧ w.cell? (ad.add (i.toNat * 3)) = some (.int .i32 (rd_T98 xs i).f0) ∧ w.cell? ⟨(ad.add (i.toNat * 3)).block, (ad.add (i.toNat * 3)).off + 1, none⟩ = some (.int .u32 (rd_T98 xs i).f1) ∧ w.cell? ⟨(ad.add (i.toNat * 3)).block, (ad.add (i.toNat * 3)).off + 2, none⟩ = some (.slice A2 (rd_T98 xs i).f2.length c2) ∧ (rd_T98 xs i).f2.length ≤ c2 ∧ (Kd.int .i64).C w A2 (rd_T98 xs i).f2.length (rd_T98 xs i).f2 := by
 obtain ⟨ad, c, e, _, hK, hc0⟩ := Kd.C_get h z98 i h0 h1
 have hc : ∀ j u, c[j]? = some u → w.cell? (ad.add (i.toNat * 3 + j)) = some u := hc0
 obtain ⟨A2, c2, rfl, l2, g2⟩ := k98_open hK
 exact ⟨ad, A2, c2, e, hc 0 _ rfl, by rw [← add_field _ _ 1 (by omega)]; exact hc 1 _ rfl, by rw [← add_field _ _ 2 (by omega)]; exact hc 2 _ rfl, l2, g2⟩

def rd_L18 (xs : List (List S98)) (i : Int) : (List S98) := xs.getD i.toNat ([] : List S98)
theorem at_L18 {w : World} {A : Option Addr} {n : Nat} {xs : List (List S98)} (h : Kd.C (Kd.slice 98 k98) w A n xs) (i : Int) (h0 : 0 ≤ i) (h1 : i < n) : ∃ ad A0 c0, A = some ad ∧ w.cell? (ad.add i.toNat) = some (.slice A0 (rd_L18 xs i).length c0) ∧ (rd_L18 xs i).length ≤ c0 ∧ k98.C w A0 (rd_L18 xs i).length (rd_L18 xs i) := by
 obtain ⟨ad, c, e, _, hK, hc0⟩ := Kd.C_get h ([] : List S98) i h0 h1
 have hc : ∀ j u, c[j]? = some u → w.cell? (ad.add (i.toNat * 1 + j)) = some u := hc0
 obtain ⟨A0, c0, rfl, l0, g0⟩ := hK
 exact ⟨ad, A0, c0, e, by have hq := hc 0 _ rfl; rwa [Nat.mul_one, Nat.add_zero] at hq, l0, g0⟩

end Go.Proofs.Ytekenaclmplocaa.PPageParses
