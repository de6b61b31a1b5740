-- Written by a program of this session (wip/tools/mkprint.py over the kit's print).
import Derived.Test.YtoofkemhikigoaaProg
import Derived.Lib.SliceRun
import Derived.Maps.OwnSet
import Derived.Lib.Hide
import Derived.Deep.DeepFit
import Derived.Below
import Derived.Deep.Draws
import Derived.Deep.AppendLies
import Derived.Maps.AppendAt
import Derived.OwnWalk
import Derived.Laws.BytesArg
import Derived.Laws.MakeOwn
import Derived.Laws.OwnMore
import Derived.Deep.OwnRows
import Derived.Tactics
import Derived.Lib.ConvBytes
import Derived.Laws.Slices
import Derived.WalkKit
import Derived.KernelRfl
import Derived.RowKit3
import Derived.Deep.LoopGhost
import Derived.Deep.QuietTactic
import Derived.BigQuiet
import Derived.WideLaws
import Derived.Deep.DeepCutAuto
import Derived.Deep.CutBlock
import Derived.Deep.RegionHeld3
import Derived.Laws.Rows
import Derived.Lib.AppendStr
import Derived.ArgAppend
import Derived.Laws.IdiomCopy
import Derived.OrdersHeld
import Derived.Laws.BitsLemmas
import Derived.RowKit
import Derived.Test.YtoofkemhikigoaaVBlockPlaysWords
import Derived.Test.YtoofkemhikigoaaVBlockPlaysLast
import Derived.Test.YtoofkemhikigoaaVBlockPlaysTab
import Derived.Test.YtoofkemhikigoaaVBlockPlaysApart
import Derived.Test.YtoofkemhikigoaaVBlockPlaysArr
import Derived.Test.YtoofkemhikigoaaVBlockPlaysZeros
import Derived.Test.YtoofkemhikigoaaVBlockPlaysFoot
import Derived.Test.YtoofkemhikigoaaVBlockPlaysKept
import Derived.Test.YtoofkemhikigoaaVBlockPlaysShare
import Derived.Test.YtoofkemhikigoaaVBlockPlaysN
import Derived.Test.YtoofkemhikigoaaVBlockPlaysRepsOne
import Derived.Test.YtoofkemhikigoaaVBlockPlaysGuard
import Derived.Test.YtoofkemhikigoaaVBlockPlaysNEv
import Derived.Test.YtoofkemhikigoaaVBlockPlaysMore
namespace Go.Proofs.Ytoofkemhikigoaa.PBlockPlays
open Go.RowKit Go.Proofs.YtoofkemhikigoaaW.PrintWords Go.Proofs.YtoofkemhikigoaaW.PrintLast Go.Proofs.YtoofkemhikigoaaW.PrintMore
attribute [local go_sem] max2_int min2_int max_two min_two max_three min_three max_four min_four   -- for this text's walks alone
set_option linter.unusedVariables false
set_option linter.unusedSimpArgs false



def errW : Option Int → Value
 | none => .nilIface
 | some c => .iface 0 (.int .i64 c)
theorem errW_none : errW none = .nilIface := rfl
theorem errW_some (c : Int) : errW (some c) = .iface 0 (.int .i64 c) := rfl

-- this session's own lemmas, ahead of the printed texts
/-- A literal row of bytes that is turned into its own type ('[]byte("..")'): it is marked, and from here on it is only read. -/
theorem run_mark {P : Program} {t e : TypeId} (ht : P.underlying t = some (.slice e)) (he : P.underlying e = some (.int .u8)) {W : World} {base : Nat} {ok : Nat → Prop} {A : Option Addr} {c : Nat} {xs : List Int}
  (HO : (Kd.int .u8).R e W base ok (.slice A xs.length c) xs) (hne : 0 < xs.length) :
  ∃ w1, (convert t t (.slice A xs.length c)).run P W = .ok (.slice A xs.length c) w1 ∧ (Kd.int .u8).C w1 A xs.length xs ∧ W.grownBy w1 (Value.slice A xs.length c).ownBlock ∧ (∀ w0 : World, Below base w0 W → Below base w0 w1) ∧ xs.length ≤ c := by
 have hC := (Kd.R_reads' HO).2.2
 have hl := (Kd.R_reads' HO).2.1
 have ho := Kd.own_of_R HO
 rcases ho.2 with ⟨h1, h2⟩ | ⟨g, cap, cur, hv, hg, hh, hn, hcm, hsz, htk⟩
 ·
  omega
 ·
  injection hv with hv1 hv2 hv3
  subst hv1
  refine ⟨W.freeze ⟨g, cur.size, none⟩ 1, ?_, ?_, ?_, ?_, hl⟩
  ·
   have hsh : W.shape? g = some (e, cur.size) := by
    unfold World.shape?
    rw [hh]
   simp [convert, run_underlying ht, run_underlying he, markStringish, hsh]
  ·
   have hcell : ∀ a, (W.freeze ⟨g, cur.size, none⟩ 1).cell? a = W.cell? a := by
    intro a
    unfold World.freeze World.cell?
    rw [if_neg (by decide)]
    simp only [Array.getElem?_modify]
    by_cases hb : g = a.block
    ·
     rw [if_pos hb, ← hb, hh]
     rfl
    ·
     rw [if_neg hb]
   refine ⟨hC.1, hC.2.1, fun hp => ?_⟩
   obtain ⟨ad, hA, hread⟩ := hC.2.2 hp
   refine ⟨ad, hA, fun j p hj => ?_⟩
   obtain ⟨cs, h1, h2, h3⟩ := hread j p hj
   exact ⟨cs, h1, h2, fun i u hu => by rw [hcell]; exact h3 i u hu⟩
  ·
   refine ⟨rfl, rfl, rfl, ?_, fun k hk hne2 => ?_⟩
   ·
    unfold World.freeze
    rw [if_neg (by decide)]
    simp
   ·
    unfold World.freeze
    rw [if_neg (by decide)]
    have : g ≠ k := fun h => hne2 (by rw [h]; rfl)
    simp [Array.getElem?_modify, this]
  ·
   intro w0 hb
   refine ⟨hb.os, hb.tape, hb.output, ?_, fun k hk => ?_⟩
   ·
    unfold World.freeze
    rw [if_neg (by decide)]
    simpa using hb.size
   ·
    unfold World.freeze
    rw [if_neg (by decide)]
    have : g ≠ k := by omega
    simp only [Array.getElem?_modify, this, if_false]
    exact hb.block k hk
/-- '[]byte(s)': one row more, marked: it is only read. -/
theorem run_bytes {P : Program} {st dt e : TypeId} (hs : P.underlying st = some .string) (hd : P.underlying dt = some (.slice e)) (he : P.underlying e = some (.int .u8)) (W : World) (s : ByteArray) (hl : s.size < 140737488355328) :
  ∃ w1 A c, (convert st dt (.string s)).run P W = .ok (.slice A (bytesOf s).length c) w1 ∧ (Kd.int .u8).C w1 A (bytesOf s).length (bytesOf s) ∧ Below W.heap.size W w1 ∧ (bytesOf s).length ≤ c := by
 have h := bytes_reads W e s (by omega)
 rw [← bytesOf_length s] at h
 refine ⟨Lib.bytesWorld W e s, _, grownCap W s.size 0 e, by rw [bytesOf_length]; exact print_bytes st dt e hs hd he s W, Kd.C_of_reads (enc := Value.int .u8) (d := (0 : Int)) (h1 := fun _ => rfl) h, bytes_below (Below.refl _ _) (Nat.le_refl _) e s, ?_⟩
 rw [bytesOf_length]
 exact grownCap_ge W s.size 0 e

/-- A pointer to a struct that nobody writes, told as a row of at most one element. -/
def asPtr : Value → Value
 | .slice A n _ => if n = 0 then .pointer none else .pointer A
 | _ => .pointer none
def isNilP (v : Value) : Bool := match asPtr v with
 | .pointer (some _) => false
 | _ => true
def notNilP (v : Value) : Bool := !isNilP v
theorem asPtr_some {ad : Addr} {n c : Nat} (h : (0 : Int) < (n : Int)) : asPtr (.slice (some ad) n c) = .pointer (some ad) := by
 simp only [asPtr]
 rw [if_neg (by omega)]
theorem asPtr_form (v : Value) : asPtr v = .pointer none ∧ isNilP v = true ∨ ∃ a, asPtr v = .pointer (some a) ∧ isNilP v = false := by
 have : asPtr v = .pointer none ∨ ∃ a, asPtr v = .pointer (some a) := by
  cases v <;> simp [asPtr]
  rename_i A n c
  by_cases h : n = 0
  ·
   simp [h]
  ·
   cases A <;> simp [h]
 rcases this with h | ⟨a, h⟩
 ·
  exact .inl ⟨h, by simp [isNilP, h]⟩
 ·
  exact .inr ⟨a, h, by simp [isNilP, h]⟩
section
variable {P : Program}
@[go_sem] theorem run_eql_asPtr (w : World) (t u : TypeId) (v : Value) (ht : P.underlying t = some (.pointer u)) : (binOp .eql t (asPtr v) (.pointer none)).run P w = .ok (.bool (isNilP v)) w := by
 have hp : P.underlying t = some (.pointer (P.pointee t)) := by simp [Program.pointee, ht]
 rcases asPtr_form v with ⟨h, h2⟩ | ⟨a, h, h2⟩ <;> rw [h, h2, run_eql_pointer_nil w t _ hp] <;> rfl
@[go_sem] theorem run_neq_asPtr (w : World) (t u : TypeId) (v : Value) (ht : P.underlying t = some (.pointer u)) : (binOp .neq t (asPtr v) (.pointer none)).run P w = .ok (.bool (notNilP v)) w := by
 unfold notNilP
 have hp : P.underlying t = some (.pointer (P.pointee t)) := by simp [Program.pointee, ht]
 rcases asPtr_form v with ⟨h, h2⟩ | ⟨a, h, h2⟩ <;> rw [h, h2, run_neq_pointer_nil w t _ hp] <;> rfl
@[go_sem] theorem run_eqGuard_asPtr (w : World) (op : BinOp) (t : TypeId) (x y : Operand) (v : Value) : (eqGuard op t x y (asPtr v) (.pointer none)).run P w = .ok () w := by
 rcases asPtr_form v with ⟨h, _⟩ | ⟨a, h, _⟩ <;> rw [h] <;> cases op <;> rfl
end
/-- An array that is read at a variable index. -/
def flatDesc : Option TypeDesc → Bool
 | some (.struct _) => false
 | some (.array _ _) => false
 | some _ => true
 | none => false
theorem run_index_arr {P : Program} (t e n : Nat) (ht : P.underlying t = some (.array n e)) (hag : flatDesc (P.underlying e) = true) (hsz : (P.info? e).map (fun i => i.size) = some 1) (cs : Array Value) (j : Int) (v : Value) (W : World) (h0 : 0 ≤ j) (h1 : j < (n : Int)) (hv : cs[j.toNat]? = some v) :
  (Instr.index t (.agg cs) (.int .i64 j)).run P W = .ok v W := by
 obtain ⟨i, hi, hs⟩ := Option.map_eq_some_iff.1 hsz
 cases hd : P.underlying e with
 | none => rw [hd] at hag; cases hag
 | some d =>
  have hA : ∀ W : World, (isAgg e).run P W = .ok false W := by
   intro W
   rw [hd] at hag
   simp only [isAgg, Sem.run_bind, run_underlying hd, Result.andThen]
   cases d <;> first | rfl | cases hag
  simp [Instr.index, run_underlying ht, asIntOf, h0, h1, sizeOf, typeInfo, hi, hs, part, hA, hv]
theorem arr_ints (k : IntKind) (l : List Int) (j : Int) (h0 : 0 ≤ j) (h1 : j.toNat < l.length) : (l.map (Value.int k)).toArray[j.toNat]? = some (.int k (rd l j)) := by
 simp [rd, List.getElem?_eq_getElem h1]
/-- An array of seven in a block, at a variable index. -/
theorem blk_rd7 {w : World} {g : Nat} {t : TypeId} {k : IntKind} {cs : Array Value} {x0 x1 x2 x3 x4 x5 x6 : Int} (h : w.heap[g]? = some (.cells cs t (0, 0))) (e0 : cs[0]? = some (.int k x0)) (e1 : cs[1]? = some (.int k x1)) (e2 : cs[2]? = some (.int k x2)) (e3 : cs[3]? = some (.int k x3)) (e4 : cs[4]? = some (.int k x4)) (e5 : cs[5]? = some (.int k x5)) (e6 : cs[6]? = some (.int k x6)) (j : Int) (h0 : 0 ≤ j) (h1 : j < 7) : w.cell? ⟨g, j.toNat, none⟩ = some (.int k (rd [x0, x1, x2, x3, x4, x5, x6] j)) := by
 rcases (show j = 0 ∨ j = 1 ∨ j = 2 ∨ j = 3 ∨ j = 4 ∨ j = 5 ∨ j = 6 by omega) with rfl | rfl | rfl | rfl | rfl | rfl | rfl
 ·
  exact (blk_cell h 0).trans e0
 ·
  exact (blk_cell h 1).trans e1
 ·
  exact (blk_cell h 2).trans e2
 ·
  exact (blk_cell h 3).trans e3
 ·
  exact (blk_cell h 4).trans e4
 ·
  exact (blk_cell h 5).trans e5
 ·
  exact (blk_cell h 6).trans e6
def sel2 {α : Type} (a b : α) (j : Int) : α := if j = 0 then a else b
theorem arr_rows2 {α : Type} {d : Kd α} {w : World} {A1 A2 : Option Addr} {c1 c2 : Nat} {l1 l2 : List α} {j : Int} (h0 : 0 ≤ j) (h1 : j < 2) (r1 : d.C w A1 l1.length l1) (k1 : l1.length ≤ c1) (r2 : d.C w A2 l2.length l2) (k2 : l2.length ≤ c2) :
  ∃ A c, (#[.slice A1 l1.length c1, .slice A2 l2.length c2] : Array Value)[j.toNat]? = some (.slice A (sel2 l1 l2 j).length c) ∧ d.C w A (sel2 l1 l2 j).length (sel2 l1 l2 j) ∧ (sel2 l1 l2 j).length ≤ c := by
 rcases (show j = 0 ∨ j = 1 by omega) with rfl | rfl
 ·
  exact ⟨A1, c1, rfl, r1, k1⟩
 ·
  exact ⟨A2, c2, rfl, r2, k2⟩
section
variable {P : Program} {ops : Array Oper} {Q : Exit → Act → World → Prop}
/-- A call of a method that is bound to its receiver, through a function value. -/
theorem goesB_ {oi : Oper} {N : Option Tmp} {a : Act} {w : World} {K : Act → World → Prop} {f : FuncId} {fn : Func} {T : Tmp} {xs : Array Operand} {ts : Array TypeId} (hf : P.funcs[f]? = some fn) (hname : (fn.name == "runtime.NumGoroutine") = false) (hb : fn.body.isSome = true) (args : Array Value)
  (hw : Region.wanted oi (yielded ops a.tmps) = true) (hN : oi.dst = N) (hop : oi.op = .call { callee := .value (.tmp T), args := xs, argTypes := ts }) (first : Array Value) (hv : a.eval (.tmp T) = .func (.func f) first #[]) (hargs : first ++ xs.map a.eval = args)
  (h : Calls P f args w fun e w' => ∃ v, e = .returned v ∧ K (a.put N v) w') : if Region.wanted oi (yielded ops a.tmps) = true then Oper.wp P oi a w K Q else K (a.put N undef) w := by
 refine call_ f args hw hN ?_ h
 have he := enters_ hf hname hb args w
 unfold execOp
 simp [hop, resolve, Deferred.ofValue, invoke, hv, hargs, he]
end
theorem isNilP_C {α : Type} {d : Kd α} {w : World} {A : Option Addr} {c : Nat} {xs : List α} (hr : d.C w A xs.length xs) : isNilP (.slice A xs.length c) = ((xs.length : Int) == 0) := by
 cases xs with
 | nil => simp [isNilP, asPtr]
 | cons x t =>
  obtain ⟨ad, hA, _⟩ := hr.2.2 (by simp)
  subst hA
  simp [isNilP, asPtr]
  omega
theorem notNilP_C {α : Type} {d : Kd α} {w : World} {A : Option Addr} {c : Nat} {xs : List α} (hr : d.C w A xs.length xs) : notNilP (.slice A xs.length c) = ((xs.length : Int) != 0) := by
 unfold notNilP
 rw [isNilP_C hr]
 rfl

theorem info3 : (Try.prog.info? 3).map (fun i => (i.zero, i.size, i.bytes)) = some (some (.int .i64 0), 1, 8) := by kernel_rfl
theorem info21 : (Try.prog.info? 21).map (fun i => (i.zero, i.size, i.bytes)) = some (some (.int .i32 0), 1, 4) := by kernel_rfl
theorem info28 : (Try.prog.info? 28).map (fun i => (i.zero, i.size, i.bytes)) = some (some (.slice none 0 0), 1, 24) := by kernel_rfl
theorem info57 : (Try.prog.info? 57).map (fun i => (i.zero, i.size, i.bytes)) = some (some (.agg #[(.int .i64 0), (.int .i64 0), (.int .i64 0), (.int .i64 0)]), 4, 32) := by kernel_rfl
theorem info92 : (Try.prog.info? 92).map (fun i => (i.zero, i.size, i.bytes)) = some (some (.slice none 0 0), 1, 24) := by kernel_rfl
theorem info96 : (Try.prog.info? 96).map (fun i => (i.zero, i.size, i.bytes)) = some (some (.agg #[(.int .i64 0), (.int .i64 0), (.int .i64 0), (.int .i64 0), (.int .i64 0), (.int .i64 0), (.int .i64 0), (.slice none 0 0), (.slice none 0 0)]), 9, 104) := by kernel_rfl
theorem info117 : (Try.prog.info? 117).map (fun i => (i.zero, i.size, i.bytes)) = some (some (.agg #[(.int .i32 0), (.int .u32 0), (.slice none 0 0)]), 3, 32) := by kernel_rfl
theorem info134 : (Try.prog.info? 134).map (fun i => (i.zero, i.size, i.bytes)) = some (some (.agg #[(.int .i32 0), (.int .u32 0), (.slice none 0 0), (.slice none 0 0)]), 4, 56) := by kernel_rfl
theorem info137 : (Try.prog.info? 137).map (fun i => (i.zero, i.size, i.bytes)) = some (some (.int .u64 0), 1, 8) := by kernel_rfl
-- the values' own types
/-! #### struct type 48 -/
structure S48 where
 f0 : Int
 f1 : Int
 f2 : Int
 f3 : Int
 f4 : Int
 f5 : Int
 f6 : Int
def z48 : S48 := ⟨(0 : Int), (0 : Int), (0 : Int), (0 : Int), (0 : Int), (0 : Int), (0 : Int)⟩
def k48 : Kd S48 := Kd.iso (Kd.pair (Kd.int .i64) (Kd.pair (Kd.int .i64) (Kd.pair (Kd.int .i64) (Kd.pair (Kd.int .i64) (Kd.pair (Kd.int .i64) (Kd.pair (Kd.int .i64) (Kd.int .i64))))))) (fun x : S48 => (x.f0, x.f1, x.f2, x.f3, x.f4, x.f5, x.f6))
theorem k48_open {w : World} {x : S48} {cs : List Value} (h : k48.K w x cs) : cs = [.int .i64 x.f0, .int .i64 x.f1, .int .i64 x.f2, .int .i64 x.f3, .int .i64 x.f4, .int .i64 x.f5, .int .i64 x.f6] := by
 obtain ⟨_, _, rfl, rfl, ⟨_, _, rfl, rfl, ⟨_, _, rfl, rfl, ⟨_, _, rfl, rfl, ⟨_, _, rfl, rfl, ⟨_, _, rfl, rfl, rfl⟩⟩⟩⟩⟩⟩ := h
 exact rfl
theorem k48_openM {w : World} {base : Nat} {ok : Nat → Prop} {x : S48} {cs : List Value} (h : k48.M w base ok x cs) : cs = [.int .i64 x.f0, .int .i64 x.f1, .int .i64 x.f2, .int .i64 x.f3, .int .i64 x.f4, .int .i64 x.f5, .int .i64 x.f6] := by
 obtain ⟨_, _, rfl, rfl, ⟨_, _, rfl, rfl, ⟨_, _, rfl, rfl, ⟨_, _, rfl, rfl, ⟨_, _, rfl, rfl, ⟨_, _, rfl, rfl, rfl⟩⟩⟩⟩⟩⟩ := h
 exact rfl
theorem k48_mk (w : World) (x : S48)  : k48.K w x [.int .i64 x.f0, .int .i64 x.f1, .int .i64 x.f2, .int .i64 x.f3, .int .i64 x.f4, .int .i64 x.f5, .int .i64 x.f6] := ⟨[.int .i64 x.f0], [.int .i64 x.f1, .int .i64 x.f2, .int .i64 x.f3, .int .i64 x.f4, .int .i64 x.f5, .int .i64 x.f6], rfl, rfl, ⟨[.int .i64 x.f1], [.int .i64 x.f2, .int .i64 x.f3, .int .i64 x.f4, .int .i64 x.f5, .int .i64 x.f6], rfl, rfl, ⟨[.int .i64 x.f2], [.int .i64 x.f3, .int .i64 x.f4, .int .i64 x.f5, .int .i64 x.f6], rfl, rfl, ⟨[.int .i64 x.f3], [.int .i64 x.f4, .int .i64 x.f5, .int .i64 x.f6], rfl, rfl, ⟨[.int .i64 x.f4], [.int .i64 x.f5, .int .i64 x.f6], rfl, rfl, ⟨[.int .i64 x.f5], [.int .i64 x.f6], rfl, rfl, rfl⟩⟩⟩⟩⟩⟩
theorem k48_mkM (w : World) (base : Nat) (ok : Nat → Prop) (x : S48)  : k48.M w base ok x [.int .i64 x.f0, .int .i64 x.f1, .int .i64 x.f2, .int .i64 x.f3, .int .i64 x.f4, .int .i64 x.f5, .int .i64 x.f6] := ⟨[.int .i64 x.f0], [.int .i64 x.f1, .int .i64 x.f2, .int .i64 x.f3, .int .i64 x.f4, .int .i64 x.f5, .int .i64 x.f6], rfl, rfl, ⟨[.int .i64 x.f1], [.int .i64 x.f2, .int .i64 x.f3, .int .i64 x.f4, .int .i64 x.f5, .int .i64 x.f6], rfl, rfl, ⟨[.int .i64 x.f2], [.int .i64 x.f3, .int .i64 x.f4, .int .i64 x.f5, .int .i64 x.f6], rfl, rfl, ⟨[.int .i64 x.f3], [.int .i64 x.f4, .int .i64 x.f5, .int .i64 x.f6], rfl, rfl, ⟨[.int .i64 x.f4], [.int .i64 x.f5, .int .i64 x.f6], rfl, rfl, ⟨[.int .i64 x.f5], [.int .i64 x.f6], rfl, rfl, rfl⟩⟩⟩⟩⟩⟩
theorem k48_mkF (W : World) (ok : Nat → Prop) (x : S48) : Kd.FK k48 W ok x [.int .i64 x.f0, .int .i64 x.f1, .int .i64 x.f2, .int .i64 x.f3, .int .i64 x.f4, .int .i64 x.f5, .int .i64 x.f6] := fun W2 _ => k48_mk W2 x
def rd_T48 (xs : List S48) (i : Int) : S48 := xs.getD i.toNat z48
theorem at_T48 {w : World} {A : Option Addr} {n : Nat} {xs : List S48} (h : Kd.C k48 w A n xs) (i : Int) (h0 : 0 ≤ i) (h1 : i < n) : ∃ ad , A = some ad ∧ w.cell? (ad.add (i.toNat * 7)) = some (.int .i64 (rd_T48 xs i).f0) ∧ w.cell? ⟨(ad.add (i.toNat * 7)).block, (ad.add (i.toNat * 7)).off + 1, none⟩ = some (.int .i64 (rd_T48 xs i).f1) ∧ w.cell? ⟨(ad.add (i.toNat * 7)).block, (ad.add (i.toNat * 7)).off + 2, none⟩ = some (.int .i64 (rd_T48 xs i).f2) ∧ w.cell? ⟨(ad.add (i.toNat * 7)).block, (ad.add (i.toNat * 7)).off + 3, none⟩ = some (.int .i64 (rd_T48 xs i).f3) ∧ w.cell? ⟨(ad.add (i.toNat * 7)).block, (ad.add (i.toNat * 7)).off + 4, none⟩ = some (.int .i64 (rd_T48 xs i).f4) ∧ w.cell? ⟨(ad.add (i.toNat * 7)).block, (ad.add (i.toNat * 7)).off + 5, none⟩ = some (.int .i64 (rd_T48 xs i).f5) ∧ w.cell? ⟨(ad.add (i.toNat * 7)).block, (ad.add (i.toNat * 7)).off + 6, none⟩ = some (.int .i64 (rd_T48 xs i).f6) := by
 obtain ⟨ad, c, e, _, hK, hc0⟩ := Kd.C_get h z48 i h0 h1
 have hc : ∀ j u, c[j]? = some u → w.cell? (ad.add (i.toNat * 7 + j)) = some u := hc0
 obtain rfl := k48_open hK
 exact ⟨ad, e, hc 0 _ rfl, by rw [← add_field _ _ 1 (by omega)]; exact hc 1 _ rfl, by rw [← add_field _ _ 2 (by omega)]; exact hc 2 _ rfl, by rw [← add_field _ _ 3 (by omega)]; exact hc 3 _ rfl, by rw [← add_field _ _ 4 (by omega)]; exact hc 4 _ rfl, by rw [← add_field _ _ 5 (by omega)]; exact hc 5 _ rfl, by rw [← add_field _ _ 6 (by omega)]; exact hc 6 _ rfl⟩

def rd_L4 (xs : List (List Int)) (i : Int) : (List Int) := xs.getD i.toNat ([] : List Int)
theorem at_L4 {w : World} {A : Option Addr} {n : Nat} {xs : List (List Int)} (h : Kd.C (Kd.slice 3 (Kd.int .i64)) w A n xs) (i : Int) (h0 : 0 ≤ i) (h1 : i < n) : ∃ ad A0 c0, A = some ad ∧ w.cell? (ad.add i.toNat) = some (.slice A0 (rd_L4 xs i).length c0) ∧ (rd_L4 xs i).length ≤ c0 ∧ (Kd.int .i64).C w A0 (rd_L4 xs i).length (rd_L4 xs i) := by
 obtain ⟨ad, c, e, _, hK, hc0⟩ := Kd.C_get h ([] : List Int) i h0 h1
 have hc : ∀ j u, c[j]? = some u → w.cell? (ad.add (i.toNat * 1 + j)) = some u := hc0
 obtain ⟨A0, c0, rfl, l0, g0⟩ := hK
 exact ⟨ad, A0, c0, e, by have hq := hc 0 _ rfl; rwa [Nat.mul_one, Nat.add_zero] at hq, l0, g0⟩

/-! #### struct type 117 -/
structure S117 where
 f0 : Int
 f1 : Int
 f2 : (List Int)
def z117 : S117 := ⟨(0 : Int), (0 : Int), ([] : List Int)⟩
def k117 : Kd S117 := Kd.iso (Kd.pair (Kd.int .i32) (Kd.pair (Kd.int .u32) (Kd.slice 3 (Kd.int .i64)))) (fun x : S117 => (x.f0, x.f1, x.f2))
theorem k117_open {w : World} {x : S117} {cs : List Value} (h : k117.K w x cs) : ∃ A2 c2, cs = [.int .i32 x.f0, .int .u32 x.f1, .slice A2 x.f2.length c2] ∧ x.f2.length ≤ c2 ∧ (Kd.int .i64).C w A2 x.f2.length x.f2 := by
 obtain ⟨_, _, rfl, rfl, ⟨_, _, rfl, rfl, ⟨A2, c2, rfl, l2, g2⟩⟩⟩ := h
 exact ⟨A2, c2, rfl, l2, g2⟩
theorem k117_openM {w : World} {base : Nat} {ok : Nat → Prop} {x : S117} {cs : List Value} (h : k117.M w base ok x cs) : ∃ v2, cs = [.int .i32 x.f0, .int .u32 x.f1, v2] ∧ (Kd.int .i64).R 3 w base ok v2 x.f2 := by
 obtain ⟨_, _, rfl, rfl, ⟨_, _, rfl, rfl, ⟨v2, rfl, g2⟩⟩⟩ := h
 exact ⟨v2, rfl, g2⟩
theorem k117_mk (w : World) (x : S117) {A2 : Option Addr} {c2 : Nat} (l2 : x.f2.length ≤ c2) (g2 : (Kd.int .i64).C w A2 x.f2.length x.f2) : k117.K w x [.int .i32 x.f0, .int .u32 x.f1, .slice A2 x.f2.length c2] := ⟨[.int .i32 x.f0], [.int .u32 x.f1, .slice A2 x.f2.length c2], rfl, rfl, ⟨[.int .u32 x.f1], [.slice A2 x.f2.length c2], rfl, rfl, ⟨A2, c2, rfl, l2, g2⟩⟩⟩
theorem k117_mkM (w : World) (base : Nat) (ok : Nat → Prop) (x : S117) {v2 : Value} (g2 : (Kd.int .i64).R 3 w base ok v2 x.f2) : k117.M w base ok x [.int .i32 x.f0, .int .u32 x.f1, v2] := ⟨[.int .i32 x.f0], [.int .u32 x.f1, v2], rfl, rfl, ⟨[.int .u32 x.f1], [v2], rfl, rfl, ⟨v2, rfl, g2⟩⟩⟩
theorem k117_openF {W : World} {ok : Nat → Prop} {x : S117} {cs : List Value} (h : Kd.FK k117 W ok x cs) : ∃ A2 c2, cs = [.int .i32 x.f0, .int .u32 x.f1, .slice A2 x.f2.length c2] ∧ x.f2.length ≤ c2 ∧ Kd.F (Kd.int .i64) W ok A2 x.f2.length x.f2 := by
 obtain ⟨A2, c2, rfl, l2, _⟩ := k117_open (Kd.FK_now h)
 exact ⟨A2, c2, rfl, l2, (fun W' hW => by obtain ⟨A2_, c2_, he, l2_, g2_⟩ := k117_open (h W' hW); injection (Option.some.inj (show some (Value.slice A2 x.f2.length c2) = some (Value.slice A2_ x.f2.length c2_) from congrArg (fun l => l[2]?) he)) with ha_ _ _; rw [ha_]; exact g2_)⟩
theorem k117_mkF (W : World) (ok : Nat → Prop) (x : S117) {A2 : Option Addr} {c2 : Nat} (l2 : x.f2.length ≤ c2) (g2 : Kd.F (Kd.int .i64) W ok A2 x.f2.length x.f2) : Kd.FK k117 W ok x [.int .i32 x.f0, .int .u32 x.f1, .slice A2 x.f2.length c2] := fun W2 hW => k117_mk W2 x l2 (g2 W2 hW)
def rd_T117 (xs : List S117) (i : Int) : S117 := xs.getD i.toNat z117
theorem at_T117 {w : World} {A : Option Addr} {n : Nat} {xs : List S117} (h : Kd.C k117 w A n xs) (i : Int) (h0 : 0 ≤ i) (h1 : i < n) : ∃ ad A2 c2, A = some ad ∧ w.cell? (ad.add (i.toNat * 3)) = some (.int .i32 (rd_T117 xs i).f0) ∧ w.cell? ⟨(ad.add (i.toNat * 3)).block, (ad.add (i.toNat * 3)).off + 1, none⟩ = some (.int .u32 (rd_T117 xs i).f1) ∧ w.cell? ⟨(ad.add (i.toNat * 3)).block, (ad.add (i.toNat * 3)).off + 2, none⟩ = some (.slice A2 (rd_T117 xs i).f2.length c2) ∧ (rd_T117 xs i).f2.length ≤ c2 ∧ (Kd.int .i64).C w A2 (rd_T117 xs i).f2.length (rd_T117 xs i).f2 := by
 obtain ⟨ad, c, e, _, hK, hc0⟩ := Kd.C_get h z117 i h0 h1
 have hc : ∀ j u, c[j]? = some u → w.cell? (ad.add (i.toNat * 3 + j)) = some u := hc0
 obtain ⟨A2, c2, rfl, l2, g2⟩ := k117_open hK
 exact ⟨ad, A2, c2, e, hc 0 _ rfl, by rw [← add_field _ _ 1 (by omega)]; exact hc 1 _ rfl, by rw [← add_field _ _ 2 (by omega)]; exact hc 2 _ rfl, l2, g2⟩

def rd_L7 (xs : List (List Int)) (i : Int) : (List Int) := xs.getD i.toNat ([] : List Int)
theorem at_L7 {w : World} {A : Option Addr} {n : Nat} {xs : List (List Int)} (h : Kd.C (Kd.slice 137 (Kd.int .u64)) w A n xs) (i : Int) (h0 : 0 ≤ i) (h1 : i < n) : ∃ ad A0 c0, A = some ad ∧ w.cell? (ad.add i.toNat) = some (.slice A0 (rd_L7 xs i).length c0) ∧ (rd_L7 xs i).length ≤ c0 ∧ (Kd.int .u64).C w A0 (rd_L7 xs i).length (rd_L7 xs i) := by
 obtain ⟨ad, c, e, _, hK, hc0⟩ := Kd.C_get h ([] : List Int) i h0 h1
 have hc : ∀ j u, c[j]? = some u → w.cell? (ad.add (i.toNat * 1 + j)) = some u := hc0
 obtain ⟨A0, c0, rfl, l0, g0⟩ := hK
 exact ⟨ad, A0, c0, e, by have hq := hc 0 _ rfl; rwa [Nat.mul_one, Nat.add_zero] at hq, l0, g0⟩

/-! #### struct type 134 -/
structure S134 where
 f0 : S117
 f1 : (List Int)
def z134 : S134 := ⟨z117, ([] : List Int)⟩
def k134 : Kd S134 := Kd.iso (Kd.pair k117 (Kd.slice 137 (Kd.int .u64))) (fun x : S134 => (x.f0, x.f1))
theorem k134_open {w : World} {x : S134} {cs : List Value} (h : k134.K w x cs) : ∃ A2 c2 A3 c3, cs = [.int .i32 x.f0.f0, .int .u32 x.f0.f1, .slice A2 x.f0.f2.length c2, .slice A3 x.f1.length c3] ∧ x.f0.f2.length ≤ c2 ∧ (Kd.int .i64).C w A2 x.f0.f2.length x.f0.f2 ∧ x.f1.length ≤ c3 ∧ (Kd.int .u64).C w A3 x.f1.length x.f1 := by
 obtain ⟨_, _, rfl, s0, ⟨A3, c3, rfl, l3, g3⟩⟩ := h
 obtain ⟨A2, c2, rfl, l2, g2⟩ := k117_open s0
 exact ⟨A2, c2, A3, c3, rfl, l2, g2, l3, g3⟩
theorem k134_openM {w : World} {base : Nat} {ok : Nat → Prop} {x : S134} {cs : List Value} (h : k134.M w base ok x cs) : ∃ v2 v3, cs = [.int .i32 x.f0.f0, .int .u32 x.f0.f1, v2, v3] ∧ (Kd.int .i64).R 3 w base ok v2 x.f0.f2 ∧ (Kd.int .u64).R 137 w base ok v3 x.f1 := by
 obtain ⟨_, _, rfl, s0, ⟨v3, rfl, g3⟩⟩ := h
 obtain ⟨v2, rfl, g2⟩ := k117_openM s0
 exact ⟨v2, v3, rfl, g2, g3⟩
theorem k134_mk (w : World) (x : S134) {A2 : Option Addr} {c2 : Nat} (l2 : x.f0.f2.length ≤ c2) (g2 : (Kd.int .i64).C w A2 x.f0.f2.length x.f0.f2) {A3 : Option Addr} {c3 : Nat} (l3 : x.f1.length ≤ c3) (g3 : (Kd.int .u64).C w A3 x.f1.length x.f1) : k134.K w x [.int .i32 x.f0.f0, .int .u32 x.f0.f1, .slice A2 x.f0.f2.length c2, .slice A3 x.f1.length c3] := ⟨[.int .i32 x.f0.f0, .int .u32 x.f0.f1, .slice A2 x.f0.f2.length c2], [.slice A3 x.f1.length c3], rfl, (k117_mk w x.f0 l2 g2), ⟨A3, c3, rfl, l3, g3⟩⟩
theorem k134_mkM (w : World) (base : Nat) (ok : Nat → Prop) (x : S134) {v2 : Value} (g2 : (Kd.int .i64).R 3 w base ok v2 x.f0.f2) {v3 : Value} (g3 : (Kd.int .u64).R 137 w base ok v3 x.f1) : k134.M w base ok x [.int .i32 x.f0.f0, .int .u32 x.f0.f1, v2, v3] := ⟨[.int .i32 x.f0.f0, .int .u32 x.f0.f1, v2], [v3], rfl, (k117_mkM w base ok x.f0 g2), ⟨v3, rfl, g3⟩⟩
theorem k134_openF {W : World} {ok : Nat → Prop} {x : S134} {cs : List Value} (h : Kd.FK k134 W ok x cs) : ∃ A2 c2 A3 c3, cs = [.int .i32 x.f0.f0, .int .u32 x.f0.f1, .slice A2 x.f0.f2.length c2, .slice A3 x.f1.length c3] ∧ x.f0.f2.length ≤ c2 ∧ Kd.F (Kd.int .i64) W ok A2 x.f0.f2.length x.f0.f2 ∧ x.f1.length ≤ c3 ∧ Kd.F (Kd.int .u64) W ok A3 x.f1.length x.f1 := by
 obtain ⟨A2, c2, A3, c3, rfl, l2, _, l3, _⟩ := k134_open (Kd.FK_now h)
 exact ⟨A2, c2, A3, c3, rfl, l2, (fun W' hW => by obtain ⟨A2_, c2_, A3_, c3_, he, l2_, g2_, l3_, g3_⟩ := k134_open (h W' hW); injection (Option.some.inj (show some (Value.slice A2 x.f0.f2.length c2) = some (Value.slice A2_ x.f0.f2.length c2_) from congrArg (fun l => l[2]?) he)) with ha_ _ _; rw [ha_]; exact g2_), l3, (fun W' hW => by obtain ⟨A2_, c2_, A3_, c3_, he, l2_, g2_, l3_, g3_⟩ := k134_open (h W' hW); injection (Option.some.inj (show some (Value.slice A3 x.f1.length c3) = some (Value.slice A3_ x.f1.length c3_) from congrArg (fun l => l[3]?) he)) with ha_ _ _; rw [ha_]; exact g3_)⟩
theorem k134_mkF (W : World) (ok : Nat → Prop) (x : S134) {A2 : Option Addr} {c2 : Nat} (l2 : x.f0.f2.length ≤ c2) (g2 : Kd.F (Kd.int .i64) W ok A2 x.f0.f2.length x.f0.f2) {A3 : Option Addr} {c3 : Nat} (l3 : x.f1.length ≤ c3) (g3 : Kd.F (Kd.int .u64) W ok A3 x.f1.length x.f1) : Kd.FK k134 W ok x [.int .i32 x.f0.f0, .int .u32 x.f0.f1, .slice A2 x.f0.f2.length c2, .slice A3 x.f1.length c3] := fun W2 hW => k134_mk W2 x l2 (g2 W2 hW) l3 (g3 W2 hW)
def rd_T134 (xs : List S134) (i : Int) : S134 := xs.getD i.toNat z134
theorem at_T134 {w : World} {A : Option Addr} {n : Nat} {xs : List S134} (h : Kd.C k134 w A n xs) (i : Int) (h0 : 0 ≤ i) (h1 : i < n) : ∃ ad A2 c2 A3 c3, A = some ad ∧ w.cell? (ad.add (i.toNat * 4)) = some (.int .i32 (rd_T134 xs i).f0.f0) ∧ w.cell? ⟨(ad.add (i.toNat * 4)).block, (ad.add (i.toNat * 4)).off + 1, none⟩ = some (.int .u32 (rd_T134 xs i).f0.f1) ∧ w.cell? ⟨(ad.add (i.toNat * 4)).block, (ad.add (i.toNat * 4)).off + 2, none⟩ = some (.slice A2 (rd_T134 xs i).f0.f2.length c2) ∧ w.cell? ⟨(ad.add (i.toNat * 4)).block, (ad.add (i.toNat * 4)).off + 3, none⟩ = some (.slice A3 (rd_T134 xs i).f1.length c3) ∧ (rd_T134 xs i).f0.f2.length ≤ c2 ∧ (Kd.int .i64).C w A2 (rd_T134 xs i).f0.f2.length (rd_T134 xs i).f0.f2 ∧ (rd_T134 xs i).f1.length ≤ c3 ∧ (Kd.int .u64).C w A3 (rd_T134 xs i).f1.length (rd_T134 xs i).f1 := by
 obtain ⟨ad, c, e, _, hK, hc0⟩ := Kd.C_get h z134 i h0 h1
 have hc : ∀ j u, c[j]? = some u → w.cell? (ad.add (i.toNat * 4 + j)) = some u := hc0
 obtain ⟨A2, c2, A3, c3, rfl, l2, g2, l3, g3⟩ := k134_open hK
 exact ⟨ad, A2, c2, A3, c3, e, hc 0 _ rfl, by rw [← add_field _ _ 1 (by omega)]; exact hc 1 _ rfl, by rw [← add_field _ _ 2 (by omega)]; exact hc 2 _ rfl, by rw [← add_field _ _ 3 (by omega)]; exact hc 3 _ rfl, l2, g2, l3, g3⟩

def rd_L9 (xs : List (List S134)) (i : Int) : (List S134) := xs.getD i.toNat ([] : List S134)
theorem at_L9 {w : World} {A : Option Addr} {n : Nat} {xs : List (List S134)} (h : Kd.C (Kd.slice 134 k134) w A n xs) (i : Int) (h0 : 0 ≤ i) (h1 : i < n) : ∃ ad A0 c0, A = some ad ∧ w.cell? (ad.add i.toNat) = some (.slice A0 (rd_L9 xs i).length c0) ∧ (rd_L9 xs i).length ≤ c0 ∧ k134.C w A0 (rd_L9 xs i).length (rd_L9 xs i) := by
 obtain ⟨ad, c, e, _, hK, hc0⟩ := Kd.C_get h ([] : List S134) i h0 h1
 have hc : ∀ j u, c[j]? = some u → w.cell? (ad.add (i.toNat * 1 + j)) = some u := hc0
 obtain ⟨A0, c0, rfl, l0, g0⟩ := hK
 exact ⟨ad, A0, c0, e, by have hq := hc 0 _ rfl; rwa [Nat.mul_one, Nat.add_zero] at hq, l0, g0⟩

/-! #### struct type 96 -/
structure S96 where
 f0 : S48
 f1 : (List S134)
 f2 : (List S134)
def z96 : S96 := ⟨z48, ([] : List S134), ([] : List S134)⟩
def k96 : Kd S96 := Kd.iso (Kd.pair k48 (Kd.pair (Kd.slice 134 k134) (Kd.slice 134 k134))) (fun x : S96 => (x.f0, x.f1, x.f2))
theorem k96_open {w : World} {x : S96} {cs : List Value} (h : k96.K w x cs) : ∃ A7 c7 A8 c8, cs = [.int .i64 x.f0.f0, .int .i64 x.f0.f1, .int .i64 x.f0.f2, .int .i64 x.f0.f3, .int .i64 x.f0.f4, .int .i64 x.f0.f5, .int .i64 x.f0.f6, .slice A7 x.f1.length c7, .slice A8 x.f2.length c8] ∧ x.f1.length ≤ c7 ∧ k134.C w A7 x.f1.length x.f1 ∧ x.f2.length ≤ c8 ∧ k134.C w A8 x.f2.length x.f2 := by
 obtain ⟨_, _, rfl, s0, ⟨_, _, rfl, ⟨A7, c7, rfl, l7, g7⟩, ⟨A8, c8, rfl, l8, g8⟩⟩⟩ := h
 obtain rfl := k48_open s0
 exact ⟨A7, c7, A8, c8, rfl, l7, g7, l8, g8⟩
theorem k96_openM {w : World} {base : Nat} {ok : Nat → Prop} {x : S96} {cs : List Value} (h : k96.M w base ok x cs) : ∃ v7 v8, cs = [.int .i64 x.f0.f0, .int .i64 x.f0.f1, .int .i64 x.f0.f2, .int .i64 x.f0.f3, .int .i64 x.f0.f4, .int .i64 x.f0.f5, .int .i64 x.f0.f6, v7, v8] ∧ k134.R 134 w base ok v7 x.f1 ∧ k134.R 134 w base ok v8 x.f2 := by
 obtain ⟨_, _, rfl, s0, ⟨_, _, rfl, ⟨v7, rfl, g7⟩, ⟨v8, rfl, g8⟩⟩⟩ := h
 obtain rfl := k48_openM s0
 exact ⟨v7, v8, rfl, g7, g8⟩
theorem k96_mk (w : World) (x : S96) {A7 : Option Addr} {c7 : Nat} (l7 : x.f1.length ≤ c7) (g7 : k134.C w A7 x.f1.length x.f1) {A8 : Option Addr} {c8 : Nat} (l8 : x.f2.length ≤ c8) (g8 : k134.C w A8 x.f2.length x.f2) : k96.K w x [.int .i64 x.f0.f0, .int .i64 x.f0.f1, .int .i64 x.f0.f2, .int .i64 x.f0.f3, .int .i64 x.f0.f4, .int .i64 x.f0.f5, .int .i64 x.f0.f6, .slice A7 x.f1.length c7, .slice A8 x.f2.length c8] := ⟨[.int .i64 x.f0.f0, .int .i64 x.f0.f1, .int .i64 x.f0.f2, .int .i64 x.f0.f3, .int .i64 x.f0.f4, .int .i64 x.f0.f5, .int .i64 x.f0.f6], [.slice A7 x.f1.length c7, .slice A8 x.f2.length c8], rfl, (k48_mk w x.f0 ), ⟨[.slice A7 x.f1.length c7], [.slice A8 x.f2.length c8], rfl, ⟨A7, c7, rfl, l7, g7⟩, ⟨A8, c8, rfl, l8, g8⟩⟩⟩
theorem k96_mkM (w : World) (base : Nat) (ok : Nat → Prop) (x : S96) {v7 : Value} (g7 : k134.R 134 w base ok v7 x.f1) {v8 : Value} (g8 : k134.R 134 w base ok v8 x.f2) : k96.M w base ok x [.int .i64 x.f0.f0, .int .i64 x.f0.f1, .int .i64 x.f0.f2, .int .i64 x.f0.f3, .int .i64 x.f0.f4, .int .i64 x.f0.f5, .int .i64 x.f0.f6, v7, v8] := ⟨[.int .i64 x.f0.f0, .int .i64 x.f0.f1, .int .i64 x.f0.f2, .int .i64 x.f0.f3, .int .i64 x.f0.f4, .int .i64 x.f0.f5, .int .i64 x.f0.f6], [v7, v8], rfl, (k48_mkM w base ok x.f0 ), ⟨[v7], [v8], rfl, ⟨v7, rfl, g7⟩, ⟨v8, rfl, g8⟩⟩⟩
theorem k96_openF {W : World} {ok : Nat → Prop} {x : S96} {cs : List Value} (h : Kd.FK k96 W ok x cs) : ∃ A7 c7 A8 c8, cs = [.int .i64 x.f0.f0, .int .i64 x.f0.f1, .int .i64 x.f0.f2, .int .i64 x.f0.f3, .int .i64 x.f0.f4, .int .i64 x.f0.f5, .int .i64 x.f0.f6, .slice A7 x.f1.length c7, .slice A8 x.f2.length c8] ∧ x.f1.length ≤ c7 ∧ Kd.F k134 W ok A7 x.f1.length x.f1 ∧ x.f2.length ≤ c8 ∧ Kd.F k134 W ok A8 x.f2.length x.f2 := by
 obtain ⟨A7, c7, A8, c8, rfl, l7, _, l8, _⟩ := k96_open (Kd.FK_now h)
 exact ⟨A7, c7, A8, c8, rfl, l7, (fun W' hW => by obtain ⟨A7_, c7_, A8_, c8_, he, l7_, g7_, l8_, g8_⟩ := k96_open (h W' hW); injection (Option.some.inj (show some (Value.slice A7 x.f1.length c7) = some (Value.slice A7_ x.f1.length c7_) from congrArg (fun l => l[7]?) he)) with ha_ _ _; rw [ha_]; exact g7_), l8, (fun W' hW => by obtain ⟨A7_, c7_, A8_, c8_, he, l7_, g7_, l8_, g8_⟩ := k96_open (h W' hW); injection (Option.some.inj (show some (Value.slice A8 x.f2.length c8) = some (Value.slice A8_ x.f2.length c8_) from congrArg (fun l => l[8]?) he)) with ha_ _ _; rw [ha_]; exact g8_)⟩
theorem k96_mkF (W : World) (ok : Nat → Prop) (x : S96) {A7 : Option Addr} {c7 : Nat} (l7 : x.f1.length ≤ c7) (g7 : Kd.F k134 W ok A7 x.f1.length x.f1) {A8 : Option Addr} {c8 : Nat} (l8 : x.f2.length ≤ c8) (g8 : Kd.F k134 W ok A8 x.f2.length x.f2) : Kd.FK k96 W ok x [.int .i64 x.f0.f0, .int .i64 x.f0.f1, .int .i64 x.f0.f2, .int .i64 x.f0.f3, .int .i64 x.f0.f4, .int .i64 x.f0.f5, .int .i64 x.f0.f6, .slice A7 x.f1.length c7, .slice A8 x.f2.length c8] := fun W2 hW => k96_mk W2 x l7 (g7 W2 hW) l8 (g8 W2 hW)
def rd_T96 (xs : List S96) (i : Int) : S96 := xs.getD i.toNat z96
theorem at_T96 {w : World} {A : Option Addr} {n : Nat} {xs : List S96} (h : Kd.C k96 w A n xs) (i : Int) (h0 : 0 ≤ i) (h1 : i < n) : ∃ ad A7 c7 A8 c8, A = some ad ∧ w.cell? (ad.add (i.toNat * 9)) = some (.int .i64 (rd_T96 xs i).f0.f0) ∧ w.cell? ⟨(ad.add (i.toNat * 9)).block, (ad.add (i.toNat * 9)).off + 1, none⟩ = some (.int .i64 (rd_T96 xs i).f0.f1) ∧ w.cell? ⟨(ad.add (i.toNat * 9)).block, (ad.add (i.toNat * 9)).off + 2, none⟩ = some (.int .i64 (rd_T96 xs i).f0.f2) ∧ w.cell? ⟨(ad.add (i.toNat * 9)).block, (ad.add (i.toNat * 9)).off + 3, none⟩ = some (.int .i64 (rd_T96 xs i).f0.f3) ∧ w.cell? ⟨(ad.add (i.toNat * 9)).block, (ad.add (i.toNat * 9)).off + 4, none⟩ = some (.int .i64 (rd_T96 xs i).f0.f4) ∧ w.cell? ⟨(ad.add (i.toNat * 9)).block, (ad.add (i.toNat * 9)).off + 5, none⟩ = some (.int .i64 (rd_T96 xs i).f0.f5) ∧ w.cell? ⟨(ad.add (i.toNat * 9)).block, (ad.add (i.toNat * 9)).off + 6, none⟩ = some (.int .i64 (rd_T96 xs i).f0.f6) ∧ w.cell? ⟨(ad.add (i.toNat * 9)).block, (ad.add (i.toNat * 9)).off + 7, none⟩ = some (.slice A7 (rd_T96 xs i).f1.length c7) ∧ w.cell? ⟨(ad.add (i.toNat * 9)).block, (ad.add (i.toNat * 9)).off + 8, none⟩ = some (.slice A8 (rd_T96 xs i).f2.length c8) ∧ (rd_T96 xs i).f1.length ≤ c7 ∧ k134.C w A7 (rd_T96 xs i).f1.length (rd_T96 xs i).f1 ∧ (rd_T96 xs i).f2.length ≤ c8 ∧ k134.C w A8 (rd_T96 xs i).f2.length (rd_T96 xs i).f2 := by
 obtain ⟨ad, c, e, _, hK, hc0⟩ := Kd.C_get h z96 i h0 h1
 have hc : ∀ j u, c[j]? = some u → w.cell? (ad.add (i.toNat * 9 + j)) = some u := hc0
 obtain ⟨A7, c7, A8, c8, rfl, l7, g7, l8, g8⟩ := k96_open hK
 exact ⟨ad, A7, c7, A8, c8, e, hc 0 _ rfl, by rw [← add_field _ _ 1 (by omega)]; exact hc 1 _ rfl, by rw [← add_field _ _ 2 (by omega)]; exact hc 2 _ rfl, by rw [← add_field _ _ 3 (by omega)]; exact hc 3 _ rfl, by rw [← add_field _ _ 4 (by omega)]; exact hc 4 _ rfl, by rw [← add_field _ _ 5 (by omega)]; exact hc 5 _ rfl, by rw [← add_field _ _ 6 (by omega)]; exact hc 6 _ rfl, by rw [← add_field _ _ 7 (by omega)]; exact hc 7 _ rfl, by rw [← add_field _ _ 8 (by omega)]; exact hc 8 _ rfl, l7, g7, l8, g8⟩

def rd_L11 (xs : List (List Int)) (i : Int) : (List Int) := xs.getD i.toNat ([] : List Int)
theorem at_L11 {w : World} {A : Option Addr} {n : Nat} {xs : List (List Int)} (h : Kd.C (Kd.slice 21 (Kd.int .i32)) w A n xs) (i : Int) (h0 : 0 ≤ i) (h1 : i < n) : ∃ ad A0 c0, A = some ad ∧ w.cell? (ad.add i.toNat) = some (.slice A0 (rd_L11 xs i).length c0) ∧ (rd_L11 xs i).length ≤ c0 ∧ (Kd.int .i32).C w A0 (rd_L11 xs i).length (rd_L11 xs i) := by
 obtain ⟨ad, c, e, _, hK, hc0⟩ := Kd.C_get h ([] : List Int) i h0 h1
 have hc : ∀ j u, c[j]? = some u → w.cell? (ad.add (i.toNat * 1 + j)) = some u := hc0
 obtain ⟨A0, c0, rfl, l0, g0⟩ := hK
 exact ⟨ad, A0, c0, e, by have hq := hc 0 _ rfl; rwa [Nat.mul_one, Nat.add_zero] at hq, l0, g0⟩

def rd_L12 (xs : List (List S117)) (i : Int) : (List S117) := xs.getD i.toNat ([] : List S117)
theorem at_L12 {w : World} {A : Option Addr} {n : Nat} {xs : List (List S117)} (h : Kd.C (Kd.slice 117 k117) w A n xs) (i : Int) (h0 : 0 ≤ i) (h1 : i < n) : ∃ ad A0 c0, A = some ad ∧ w.cell? (ad.add i.toNat) = some (.slice A0 (rd_L12 xs i).length c0) ∧ (rd_L12 xs i).length ≤ c0 ∧ k117.C w A0 (rd_L12 xs i).length (rd_L12 xs i) := by
 obtain ⟨ad, c, e, _, hK, hc0⟩ := Kd.C_get h ([] : List S117) i h0 h1
 have hc : ∀ j u, c[j]? = some u → w.cell? (ad.add (i.toNat * 1 + j)) = some u := hc0
 obtain ⟨A0, c0, rfl, l0, g0⟩ := hK
 exact ⟨ad, A0, c0, e, by have hq := hc 0 _ rfl; rwa [Nat.mul_one, Nat.add_zero] at hq, l0, g0⟩

def rd_L13 (xs : List (List S96)) (i : Int) : (List S96) := xs.getD i.toNat ([] : List S96)
theorem at_L13 {w : World} {A : Option Addr} {n : Nat} {xs : List (List S96)} (h : Kd.C (Kd.slice 96 k96) w A n xs) (i : Int) (h0 : 0 ≤ i) (h1 : i < n) : ∃ ad A0 c0, A = some ad ∧ w.cell? (ad.add i.toNat) = some (.slice A0 (rd_L13 xs i).length c0) ∧ (rd_L13 xs i).length ≤ c0 ∧ k96.C w A0 (rd_L13 xs i).length (rd_L13 xs i) := by
 obtain ⟨ad, c, e, _, hK, hc0⟩ := Kd.C_get h ([] : List S96) i h0 h1
 have hc : ∀ j u, c[j]? = some u → w.cell? (ad.add (i.toNat * 1 + j)) = some u := hc0
 obtain ⟨A0, c0, rfl, l0, g0⟩ := hK
 exact ⟨ad, A0, c0, e, by have hq := hc 0 _ rfl; rwa [Nat.mul_one, Nat.add_zero] at hq, l0, g0⟩

def rd_L15 (xs : List (List (List Int))) (i : Int) : (List (List Int)) := xs.getD i.toNat ([] : List (List Int))
theorem at_L15 {w : World} {A : Option Addr} {n : Nat} {xs : List (List (List Int))} (h : Kd.C (Kd.slice 28 (Kd.slice 3 (Kd.int .i64))) w A n xs) (i : Int) (h0 : 0 ≤ i) (h1 : i < n) : ∃ ad A0 c0, A = some ad ∧ w.cell? (ad.add i.toNat) = some (.slice A0 (rd_L15 xs i).length c0) ∧ (rd_L15 xs i).length ≤ c0 ∧ (Kd.slice 3 (Kd.int .i64)).C w A0 (rd_L15 xs i).length (rd_L15 xs i) := by
 obtain ⟨ad, c, e, _, hK, hc0⟩ := Kd.C_get h ([] : List (List Int)) i h0 h1
 have hc : ∀ j u, c[j]? = some u → w.cell? (ad.add (i.toNat * 1 + j)) = some u := hc0
 obtain ⟨A0, c0, rfl, l0, g0⟩ := hK
 exact ⟨ad, A0, c0, e, by have hq := hc 0 _ rfl; rwa [Nat.mul_one, Nat.add_zero] at hq, l0, g0⟩

/-! #### struct type 57 -/
structure S57 where
 f0 : Int
 f1 : Int
 f2 : Int
 f3 : Int
def z57 : S57 := ⟨(0 : Int), (0 : Int), (0 : Int), (0 : Int)⟩
def k57 : Kd S57 := Kd.iso (Kd.pair (Kd.int .i64) (Kd.pair (Kd.int .i64) (Kd.pair (Kd.int .i64) (Kd.int .i64)))) (fun x : S57 => (x.f0, x.f1, x.f2, x.f3))
theorem k57_open {w : World} {x : S57} {cs : List Value} (h : k57.K w x cs) : cs = [.int .i64 x.f0, .int .i64 x.f1, .int .i64 x.f2, .int .i64 x.f3] := by
 obtain ⟨_, _, rfl, rfl, ⟨_, _, rfl, rfl, ⟨_, _, rfl, rfl, rfl⟩⟩⟩ := h
 exact rfl
theorem k57_openM {w : World} {base : Nat} {ok : Nat → Prop} {x : S57} {cs : List Value} (h : k57.M w base ok x cs) : cs = [.int .i64 x.f0, .int .i64 x.f1, .int .i64 x.f2, .int .i64 x.f3] := by
 obtain ⟨_, _, rfl, rfl, ⟨_, _, rfl, rfl, ⟨_, _, rfl, rfl, rfl⟩⟩⟩ := h
 exact rfl
theorem k57_mk (w : World) (x : S57)  : k57.K w x [.int .i64 x.f0, .int .i64 x.f1, .int .i64 x.f2, .int .i64 x.f3] := ⟨[.int .i64 x.f0], [.int .i64 x.f1, .int .i64 x.f2, .int .i64 x.f3], rfl, rfl, ⟨[.int .i64 x.f1], [.int .i64 x.f2, .int .i64 x.f3], rfl, rfl, ⟨[.int .i64 x.f2], [.int .i64 x.f3], rfl, rfl, rfl⟩⟩⟩
theorem k57_mkM (w : World) (base : Nat) (ok : Nat → Prop) (x : S57)  : k57.M w base ok x [.int .i64 x.f0, .int .i64 x.f1, .int .i64 x.f2, .int .i64 x.f3] := ⟨[.int .i64 x.f0], [.int .i64 x.f1, .int .i64 x.f2, .int .i64 x.f3], rfl, rfl, ⟨[.int .i64 x.f1], [.int .i64 x.f2, .int .i64 x.f3], rfl, rfl, ⟨[.int .i64 x.f2], [.int .i64 x.f3], rfl, rfl, rfl⟩⟩⟩
theorem k57_mkF (W : World) (ok : Nat → Prop) (x : S57) : Kd.FK k57 W ok x [.int .i64 x.f0, .int .i64 x.f1, .int .i64 x.f2, .int .i64 x.f3] := fun W2 _ => k57_mk W2 x
def rd_T57 (xs : List S57) (i : Int) : S57 := xs.getD i.toNat z57
theorem at_T57 {w : World} {A : Option Addr} {n : Nat} {xs : List S57} (h : Kd.C k57 w A n xs) (i : Int) (h0 : 0 ≤ i) (h1 : i < n) : ∃ ad , A = some ad ∧ w.cell? (ad.add (i.toNat * 4)) = some (.int .i64 (rd_T57 xs i).f0) ∧ w.cell? ⟨(ad.add (i.toNat * 4)).block, (ad.add (i.toNat * 4)).off + 1, none⟩ = some (.int .i64 (rd_T57 xs i).f1) ∧ w.cell? ⟨(ad.add (i.toNat * 4)).block, (ad.add (i.toNat * 4)).off + 2, none⟩ = some (.int .i64 (rd_T57 xs i).f2) ∧ w.cell? ⟨(ad.add (i.toNat * 4)).block, (ad.add (i.toNat * 4)).off + 3, none⟩ = some (.int .i64 (rd_T57 xs i).f3) := by
 obtain ⟨ad, c, e, _, hK, hc0⟩ := Kd.C_get h z57 i h0 h1
 have hc : ∀ j u, c[j]? = some u → w.cell? (ad.add (i.toNat * 4 + j)) = some u := hc0
 obtain rfl := k57_open hK
 exact ⟨ad, e, hc 0 _ rfl, by rw [← add_field _ _ 1 (by omega)]; exact hc 1 _ rfl, by rw [← add_field _ _ 2 (by omega)]; exact hc 2 _ rfl, by rw [← add_field _ _ 3 (by omega)]; exact hc 3 _ rfl⟩

def rd_L17 (xs : List (List S57)) (i : Int) : (List S57) := xs.getD i.toNat ([] : List S57)
theorem at_L17 {w : World} {A : Option Addr} {n : Nat} {xs : List (List S57)} (h : Kd.C (Kd.slice 57 k57) w A n xs) (i : Int) (h0 : 0 ≤ i) (h1 : i < n) : ∃ ad A0 c0, A = some ad ∧ w.cell? (ad.add i.toNat) = some (.slice A0 (rd_L17 xs i).length c0) ∧ (rd_L17 xs i).length ≤ c0 ∧ k57.C w A0 (rd_L17 xs i).length (rd_L17 xs i) := by
 obtain ⟨ad, c, e, _, hK, hc0⟩ := Kd.C_get h ([] : List S57) i h0 h1
 have hc : ∀ j u, c[j]? = some u → w.cell? (ad.add (i.toNat * 1 + j)) = some u := hc0
 obtain ⟨A0, c0, rfl, l0, g0⟩ := hK
 exact ⟨ad, A0, c0, e, by have hq := hc 0 _ rfl; rwa [Nat.mul_one, Nat.add_zero] at hq, l0, g0⟩

end Go.Proofs.Ytoofkemhikigoaa.PBlockPlays
