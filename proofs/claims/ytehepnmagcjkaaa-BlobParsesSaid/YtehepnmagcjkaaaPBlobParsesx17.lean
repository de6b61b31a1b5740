-- Written by a program of this session (wip/tools/mkprint.py over the kit's print).
import Derived.Test.YtehepnmagcjkaaaPBlobParsesx0
import Derived.Test.YtehepnmagcjkaaaPBlobParsesx7
import Derived.Test.YtehepnmagcjkaaaPBlobParsesx9
import Derived.Test.YtehepnmagcjkaaaPBlobParsesx10
import Derived.Test.YtehepnmagcjkaaaPBlobParsesx11
import Derived.Test.YtehepnmagcjkaaaPBlobParsesx12
import Derived.Test.YtehepnmagcjkaaaPBlobParsesx16
namespace Go.Proofs.Ytehepnmagcjkaaa.PBlobParses
open Go.RowKit Go.Proofs.YtehepnmagcjkaaaW.PrintWords Go.Proofs.YtehepnmagcjkaaaW.PrintLast Go.Proofs.YtehepnmagcjkaaaW.PrintMore
attribute [local go_sem] max2_int min2_int max_two min_two max_three min_three max_four min_four   -- for this text's walks alone
set_option linter.unusedVariables false
set_option linter.unusedSimpArgs false

/-! ### credenzalaw18_BlobParses: function 9 -/
/-- What a blob's rows are, at a world. -/
def BlobC (w : World) (A0_6 : Option Addr) (c0_6 : Nat) (l0_6 : List S115) (A0_9 : Option Addr) (c0_9 : Nat) (l0_9 : List Int) (A0_10 : Option Addr) (c0_10 : Nat) (l0_10 : List S120) (A0_11 : Option Addr) (c0_11 : Nat) (l0_11 : List Int) (A0_14 : Option Addr) (c0_14 : Nat) (l0_14 : List Int) : Prop := Kd.C k115 w A0_6 l0_6.length l0_6 ∧ l0_6.length ≤ c0_6 ∧ Kd.C (Kd.int .i32) w A0_9 l0_9.length l0_9 ∧ l0_9.length ≤ c0_9 ∧ Kd.C k120 w A0_10 l0_10.length l0_10 ∧ l0_10.length ≤ c0_10 ∧ Kd.C (Kd.int .i32) w A0_11 l0_11.length l0_11 ∧ l0_11.length ≤ c0_11 ∧ Kd.C (Kd.int .i32) w A0_14 l0_14.length l0_14 ∧ l0_14.length ≤ c0_14
theorem BlobC.below {W W' : World} {A0_6 : Option Addr} {c0_6 : Nat} {l0_6 : List S115} {A0_9 : Option Addr} {c0_9 : Nat} {l0_9 : List Int} {A0_10 : Option Addr} {c0_10 : Nat} {l0_10 : List S120} {A0_11 : Option Addr} {c0_11 : Nat} {l0_11 : List Int} {A0_14 : Option Addr} {c0_14 : Nat} {l0_14 : List Int} (h : BlobC W A0_6 c0_6 l0_6 A0_9 c0_9 l0_9 A0_10 c0_10 l0_10 A0_11 c0_11 l0_11 A0_14 c0_14 l0_14) (hb : Below W.heap.size W W') : BlobC W' A0_6 c0_6 l0_6 A0_9 c0_9 l0_9 A0_10 c0_10 l0_10 A0_11 c0_11 l0_11 A0_14 c0_14 l0_14 := ⟨Kd.C_below h.1 hb, h.2.1, Kd.C_below h.2.2.1 hb, h.2.2.2.1, Kd.C_below h.2.2.2.2.1 hb, h.2.2.2.2.2.1, Kd.C_below h.2.2.2.2.2.2.1 hb, h.2.2.2.2.2.2.2.1, Kd.C_below h.2.2.2.2.2.2.2.2.1 hb, h.2.2.2.2.2.2.2.2.2⟩
theorem cRef (a0_0 : Int) (a0_1 : Int) (a0_2 : Int) (a0_3 : Int) (a0_4 : Int) (a0_5 : Int) (A0_6 : Option Addr) (c0_6 : Nat) (l0_6 : List S115) (a0_7 : Int) (a0_8 : Int) (A0_9 : Option Addr) (c0_9 : Nat) (l0_9 : List Int) (A0_10 : Option Addr) (c0_10 : Nat) (l0_10 : List S120) (A0_11 : Option Addr) (c0_11 : Nat) (l0_11 : List Int) (a0_12 : Int) (a0_13 : Int) (A0_14 : Option Addr) (c0_14 : Nat) (l0_14 : List Int) (T : List Int) (P : List S111) (w : World) (hq : BlobC w A0_6 c0_6 l0_6 A0_9 c0_9 l0_9 A0_10 c0_10 l0_10 A0_11 c0_11 l0_11 A0_14 c0_14 l0_14) (hbd : l0_6.length ≤ 17592186043904 ∧ l0_10.length ≤ 430000000000) (hT : refT l0_6 = T) (hP : refP a0_7 a0_8 l0_9 l0_10 l0_11 a0_12 a0_13 l0_14 = P) :
  Calls Try.prog 32 #[.agg #[.int .i64 a0_0, .int .i64 a0_1, .int .i64 a0_2, .int .i64 a0_3, .int .i64 a0_4, .int .i64 a0_5, .slice A0_6 l0_6.length c0_6, .int .i64 a0_7, .int .i64 a0_8, .slice A0_9 l0_9.length c0_9, .slice A0_10 l0_10.length c0_10, .slice A0_11 l0_11.length c0_11, .int .i64 a0_12, .int .i64 a0_13, .slice A0_14 l0_14.length c0_14]] w fun e w' => ∃ AT cT AP cP, e = .returned (.agg #[.int .i64 a0_0, .int .i64 a0_1, .int .i64 a0_2, .int .i64 a0_3, .int .i64 a0_4, .int .i64 a0_5, .int .i64 (l0_10.length : Int), .slice AT T.length cT, .slice AP P.length cP]) ∧ RefC w' AT cT T AP cP P ∧ Below w.heap.size w w' := by
 subst hT
 subst hP
 refine (bref.calls a0_0 a0_1 a0_2 a0_3 a0_4 a0_5 A0_6 c0_6 l0_6 a0_7 a0_8 A0_9 c0_9 l0_9 A0_10 c0_10 l0_10 A0_11 c0_11 l0_11 a0_12 a0_13 A0_14 c0_14 l0_14 w hq.1 hq.2.1 hq.2.2.1 hq.2.2.2.1 hq.2.2.2.2.1 hq.2.2.2.2.2.1 hq.2.2.2.2.2.2.1 hq.2.2.2.2.2.2.2.1 hq.2.2.2.2.2.2.2.2.1 hq.2.2.2.2.2.2.2.2.2 hbd.1 hbd.2).mono ?_
 rintro e w' ⟨AT, cT, AP, cP, rows, rfl, ht, hp, hrw, hb⟩
 exact ⟨AT, cT, AP, cP, rfl, ⟨(Kd.R_reads' ht).2.2, (Kd.R_reads' ht).2.1, (RowsP.reads hp hrw hb).1, (RowsP.reads hp hrw hb).2.2⟩, hb⟩
theorem cBytes (k : Nat) (a0_0 : Int) (a0_1 : Int) (a0_2 : Int) (a0_3 : Int) (a0_4 : Int) (a0_5 : Int) (A0_6 : Option Addr) (c0_6 : Nat) (l0_6 : List S115) (a0_7 : Int) (a0_8 : Int) (A0_9 : Option Addr) (c0_9 : Nat) (l0_9 : List Int) (A0_10 : Option Addr) (c0_10 : Nat) (l0_10 : List S120) (A0_11 : Option Addr) (c0_11 : Nat) (l0_11 : List Int) (a0_12 : Int) (a0_13 : Int) (A0_14 : Option Addr) (c0_14 : Nat) (l0_14 : List Int) (s : List Int) (x : Int) (w : World) (hq : BlobC w A0_6 c0_6 l0_6 A0_9 c0_9 l0_9 A0_10 c0_10 l0_10 A0_11 c0_11 l0_11 A0_14 c0_14 l0_14) (h : blob_Bytes.f k a0_0 a0_1 a0_2 a0_3 a0_4 a0_5 l0_6 a0_7 a0_8 l0_9 l0_10 l0_11 a0_12 a0_13 l0_14 = some (s, x)) :
  Calls Try.prog 30 #[.agg #[.int .i64 a0_0, .int .i64 a0_1, .int .i64 a0_2, .int .i64 a0_3, .int .i64 a0_4, .int .i64 a0_5, .slice A0_6 l0_6.length c0_6, .int .i64 a0_7, .int .i64 a0_8, .slice A0_9 l0_9.length c0_9, .slice A0_10 l0_10.length c0_10, .slice A0_11 l0_11.length c0_11, .int .i64 a0_12, .int .i64 a0_13, .slice A0_14 l0_14.length c0_14]] w fun e w' => ∃ A c, e = .returned (.tuple #[.slice A s.length c, .int .i64 x]) ∧ Kd.R (Kd.int .u8) 5 w' w.heap.size (fun _ => True) (.slice A s.length c) s ∧ Below w.heap.size w w' := by
 refine (blob_Bytes.calls k a0_0 a0_1 a0_2 a0_3 a0_4 a0_5 A0_6 c0_6 l0_6 a0_7 a0_8 A0_9 c0_9 l0_9 A0_10 c0_10 l0_10 A0_11 c0_11 l0_11 a0_12 a0_13 A0_14 c0_14 l0_14 s x w hq.1 hq.2.1 hq.2.2.1 hq.2.2.2.1 hq.2.2.2.2.1 hq.2.2.2.2.2.1 hq.2.2.2.2.2.2.1 hq.2.2.2.2.2.2.2.1 hq.2.2.2.2.2.2.2.2.1 hq.2.2.2.2.2.2.2.2.2 h).mono ?_
 rintro e w' ⟨v, rfl, hr, hb⟩
 obtain ⟨A, c, rfl⟩ := Kd.R_slice hr
 exact ⟨A, c, rfl, hr, hb⟩
theorem cEqual (k : Nat) (a0_0 : Int) (a0_1 : Int) (a0_2 : Int) (a0_3 : Int) (a0_4 : Int) (a0_5 : Int) (A0_6 : Option Addr) (c0_6 : Nat) (l0_6 : List S115) (a0_7 : Int) (a0_8 : Int) (A0_9 : Option Addr) (c0_9 : Nat) (l0_9 : List Int) (A0_10 : Option Addr) (c0_10 : Nat) (l0_10 : List S120) (A0_11 : Option Addr) (c0_11 : Nat) (l0_11 : List Int) (a0_12 : Int) (a0_13 : Int) (A0_14 : Option Addr) (c0_14 : Nat) (l0_14 : List Int) (a1_0 : Int) (a1_1 : Int) (a1_2 : Int) (a1_3 : Int) (a1_4 : Int) (a1_5 : Int) (A1_6 : Option Addr) (c1_6 : Nat) (l1_6 : List S115) (a1_7 : Int) (a1_8 : Int) (A1_9 : Option Addr) (c1_9 : Nat) (l1_9 : List Int) (A1_10 : Option Addr) (c1_10 : Nat) (l1_10 : List S120) (A1_11 : Option Addr) (c1_11 : Nat) (l1_11 : List Int) (a1_12 : Int) (a1_13 : Int) (A1_14 : Option Addr) (c1_14 : Nat) (l1_14 : List Int) (r : Bool) (w : World) (hq : BlobC w A0_6 c0_6 l0_6 A0_9 c0_9 l0_9 A0_10 c0_10 l0_10 A0_11 c0_11 l0_11 A0_14 c0_14 l0_14) (hq1 : BlobC w A1_6 c1_6 l1_6 A1_9 c1_9 l1_9 A1_10 c1_10 l1_10 A1_11 c1_11 l1_11 A1_14 c1_14 l1_14) (h : blob_Equal.f k a0_0 a0_1 a0_2 a0_3 a0_4 a0_5 l0_6 a0_7 a0_8 l0_9 l0_10 l0_11 a0_12 a0_13 l0_14 a1_0 a1_1 a1_2 a1_3 a1_4 a1_5 l1_6 a1_7 a1_8 l1_9 l1_10 l1_11 a1_12 a1_13 l1_14 = some r) :
  Calls Try.prog 36 #[.agg #[.int .i64 a0_0, .int .i64 a0_1, .int .i64 a0_2, .int .i64 a0_3, .int .i64 a0_4, .int .i64 a0_5, .slice A0_6 l0_6.length c0_6, .int .i64 a0_7, .int .i64 a0_8, .slice A0_9 l0_9.length c0_9, .slice A0_10 l0_10.length c0_10, .slice A0_11 l0_11.length c0_11, .int .i64 a0_12, .int .i64 a0_13, .slice A0_14 l0_14.length c0_14], .agg #[.int .i64 a1_0, .int .i64 a1_1, .int .i64 a1_2, .int .i64 a1_3, .int .i64 a1_4, .int .i64 a1_5, .slice A1_6 l1_6.length c1_6, .int .i64 a1_7, .int .i64 a1_8, .slice A1_9 l1_9.length c1_9, .slice A1_10 l1_10.length c1_10, .slice A1_11 l1_11.length c1_11, .int .i64 a1_12, .int .i64 a1_13, .slice A1_14 l1_14.length c1_14]] w fun e w' => e = .returned (.bool r) ∧ Below w.heap.size w w' := blob_Equal.calls k a0_0 a0_1 a0_2 a0_3 a0_4 a0_5 A0_6 c0_6 l0_6 a0_7 a0_8 A0_9 c0_9 l0_9 A0_10 c0_10 l0_10 A0_11 c0_11 l0_11 a0_12 a0_13 A0_14 c0_14 l0_14 a1_0 a1_1 a1_2 a1_3 a1_4 a1_5 A1_6 c1_6 l1_6 a1_7 a1_8 A1_9 c1_9 l1_9 A1_10 c1_10 l1_10 A1_11 c1_11 l1_11 a1_12 a1_13 A1_14 c1_14 l1_14 r w hq.1 hq.2.1 hq.2.2.1 hq.2.2.2.1 hq.2.2.2.2.1 hq.2.2.2.2.2.1 hq.2.2.2.2.2.2.1 hq.2.2.2.2.2.2.2.1 hq.2.2.2.2.2.2.2.2.1 hq.2.2.2.2.2.2.2.2.2 hq1.1 hq1.2.1 hq1.2.2.1 hq1.2.2.2.1 hq1.2.2.2.2.1 hq1.2.2.2.2.2.1 hq1.2.2.2.2.2.2.1 hq1.2.2.2.2.2.2.2.1 hq1.2.2.2.2.2.2.2.2.1 hq1.2.2.2.2.2.2.2.2.2 h
def KeepsFrom (B : Nat) (w w' : World) : Prop := ∀ k, B ≤ k → k < w.heap.size → w'.heap[k]? = w.heap[k]?
theorem R_from {α : Type} {d : Kd α} {e B : Nat} {W W' : World} {ok : Nat → Prop} {v : Value} {xs : List α} (h : d.R e W B ok v xs) (hk : KeepsFrom B W W') : d.R e W' B ok v xs :=
 Kd.R_mono (Kd.R_step (Kd.R_bound h) (fun k hk1 _ => by
  obtain ⟨h1, h2, h3, q, hq, cs, hc⟩ := hk1
  exact hk k h2 h3)) (fun k hk1 => hk1.1)
theorem cParse (k : Nat) (A0 : Option Addr) (c0 : Nat) (l0 : List Int) (a1_0 : Int) (a1_1 : Int) (a1_2 : Int) (a1_3 : Int) (a1_4 : Int) (a1_5 : Int) (l1_6 : List S115) (a1_7 : Int) (a1_8 : Int) (l1_9 : List Int) (l1_10 : List S120) (l1_11 : List Int) (a1_12 : Int) (a1_13 : Int) (l1_14 : List Int) (x : Int) (w : World) (hr0 : Kd.C (Kd.int .u8) w A0 l0.length l0) (hc0 : l0.length ≤ c0) (h : blob_Parse.f k l0 = some (a1_0, a1_1, a1_2, a1_3, a1_4, a1_5, l1_6, a1_7, a1_8, l1_9, l1_10, l1_11, a1_12, a1_13, l1_14, x)) :
  Calls Try.prog 34 #[.slice A0 l0.length c0] w fun e w' => ∃ A1_6 c1_6 A1_9 c1_9 A1_10 c1_10 A1_11 c1_11 A1_14 c1_14, e = .returned (.tuple #[.agg #[.int .i64 a1_0, .int .i64 a1_1, .int .i64 a1_2, .int .i64 a1_3, .int .i64 a1_4, .int .i64 a1_5, .slice A1_6 l1_6.length c1_6, .int .i64 a1_7, .int .i64 a1_8, .slice A1_9 l1_9.length c1_9, .slice A1_10 l1_10.length c1_10, .slice A1_11 l1_11.length c1_11, .int .i64 a1_12, .int .i64 a1_13, .slice A1_14 l1_14.length c1_14], .int .i64 x]) ∧ (∀ W', KeepsFrom w.heap.size w' W' → BlobC W' A1_6 c1_6 l1_6 A1_9 c1_9 l1_9 A1_10 c1_10 l1_10 A1_11 c1_11 l1_11 A1_14 c1_14 l1_14) ∧ Below w.heap.size w w' := by
 refine (blob_Parse.calls k A0 c0 l0 a1_0 a1_1 a1_2 a1_3 a1_4 a1_5 l1_6 a1_7 a1_8 l1_9 l1_10 l1_11 a1_12 a1_13 l1_14 x w hr0 hc0 h).mono ?_
 rintro e w' ⟨v6, v9, v10, v11, v14, rfl, h6, h9, h10, h11, h14, hb⟩
 have h10 := Kd.S_R h10
 obtain ⟨A1_6, c1_6, rfl⟩ := Kd.R_slice h6
 obtain ⟨A1_9, c1_9, rfl⟩ := Kd.R_slice h9
 obtain ⟨A1_10, c1_10, rfl⟩ := Kd.R_slice h10
 obtain ⟨A1_11, c1_11, rfl⟩ := Kd.R_slice h11
 obtain ⟨A1_14, c1_14, rfl⟩ := Kd.R_slice h14
 refine ⟨A1_6, c1_6, A1_9, c1_9, A1_10, c1_10, A1_11, c1_11, A1_14, c1_14, rfl, fun W' hk => ?_, hb⟩
 have g6 := Kd.R_reads' (R_from h6 hk)
 have g9 := Kd.R_reads' (R_from h9 hk)
 have g10 := Kd.R_reads' (R_from h10 hk)
 have g11 := Kd.R_reads' (R_from h11 hk)
 have g14 := Kd.R_reads' (R_from h14 hk)
 exact ⟨g6.2.2, g6.2.1, g9.2.2, g9.2.1, g10.2.2, g10.2.1, g11.2.2, g11.2.1, g14.2.2, g14.2.1⟩
theorem exec_load {P : Program} {W : World} {o : Oper} {a : Act} (ty : TypeId) (x : Operand) (ho : o.op = .load ty x) (ad : Addr) (hx : a.eval x = .pointer (some ad)) (vs : List Value) (hc : ∀ j v, vs[j]? = some v → W.cell? (ad.add j) = some v) (d : TypeDesc) (hu : P.underlying ty = some d) (hd : (match d with | .struct _ | .array _ _ => true | _ => false) = true) (hi : (P.info? ty).map (·.size) = some vs.length) : (execOp a.eval o).run P W = .ok (.value (.agg vs.toArray)) W := by
 unfold execOp
 simp only [ho, hx, Instr.loadAt, Instr.sureAddr, Sem.run_bind, Sem.run_pure, Result.andThen_ok, run_loadVar_at W ad ty vs d hc hu hd hi]
def AtC (w : World) (g : Nat) (vs : List Value) : Prop := ∀ j v, vs[j]? = some v → w.cell? ((⟨g, 0, none⟩ : Addr).add j) = some v
theorem BlobC_nil (w : World) : BlobC w none 0 [] none 0 [] none 0 [] none 0 [] none 0 [] := ⟨Kd.C_nil _ _, Nat.le_refl _, Kd.C_nil _ _, Nat.le_refl _, Kd.C_nil _ _, Nat.le_refl _, Kd.C_nil _ _, Nat.le_refl _, Kd.C_nil _ _, Nat.le_refl _⟩
theorem cSame18 (k : Nat) (a0_0 a0_1 a0_2 a0_3 a0_4 a0_5 a0_6 : Int) (AT : Option Addr) (cT : Nat) (T : List Int) (AP : Option Addr) (cP : Nat) (P : List S111) (a1_0 a1_1 a1_2 a1_3 a1_4 a1_5 a1_6 : Int) (BT : Option Addr) (dT : Nat) (U : List Int) (BP : Option Addr) (dP : Nat) (Q : List S111) (r : Bool) (w : World) (hq : RefC w AT cT T AP cP P) (hq1 : RefC w BT dT U BP dP Q) (h : credenzaref18_Same.f k a0_0 a0_1 a0_2 a0_3 a0_4 a0_5 a0_6 T P a1_0 a1_1 a1_2 a1_3 a1_4 a1_5 a1_6 U Q = some r) :
  Calls Try.prog 37 #[.agg #[.int .i64 a0_0, .int .i64 a0_1, .int .i64 a0_2, .int .i64 a0_3, .int .i64 a0_4, .int .i64 a0_5, .int .i64 a0_6, .slice AT T.length cT, .slice AP P.length cP], .agg #[.int .i64 a1_0, .int .i64 a1_1, .int .i64 a1_2, .int .i64 a1_3, .int .i64 a1_4, .int .i64 a1_5, .int .i64 a1_6, .slice BT U.length dT, .slice BP Q.length dP]] w fun e w' => e = .returned (.bool r) ∧ Below w.heap.size w w' := credenzaref18_Same.calls k a0_0 a0_1 a0_2 a0_3 a0_4 a0_5 a0_6 AT cT T AP cP P a1_0 a1_1 a1_2 a1_3 a1_4 a1_5 a1_6 BT dT U BP dP Q r w hq.1 hq.2.1 hq.2.2.1 hq.2.2.2 hq1.1 hq1.2.1 hq1.2.2.1 hq1.2.2.2 h
def BlobParses_ok (k : Nat) (s : List Int) : Prop :=
 credenzalaw18_awake.f k = some true ∧ (s.length ≤ 30000 → ∃ (a0_0 : Int) (a0_1 : Int) (a0_2 : Int) (a0_3 : Int) (a0_4 : Int) (a0_5 : Int) (l0_6 : List S115) (a0_7 : Int) (a0_8 : Int) (l0_9 : List Int) (l0_10 : List S120) (l0_11 : List Int) (a0_12 : Int) (a0_13 : Int) (l0_14 : List Int) (d0 d1 d2 d3 d4 d5 L : Int) (T : List Int) (P : List S111) (x : Int), blob_Parse.f k s = some (a0_0, a0_1, a0_2, a0_3, a0_4, a0_5, l0_6, a0_7, a0_8, l0_9, l0_10, l0_11, a0_12, a0_13, l0_14, x) ∧ P18 k (strOfNums s) d0 d1 d2 d3 d4 d5 L T P x ∧ (x ≠ 0 → blob_Equal.f k a0_0 a0_1 a0_2 a0_3 a0_4 a0_5 l0_6 a0_7 a0_8 l0_9 l0_10 l0_11 a0_12 a0_13 l0_14 0 0 0 0 0 0 ([] : List S115) 0 0 ([] : List Int) ([] : List S120) ([] : List Int) 0 0 ([] : List Int) = some true) ∧
  (x = 0 → (l0_6.length ≤ 1000 ∧ l0_10.length ≤ 1000) ∧ blob_Bytes.f k a0_0 a0_1 a0_2 a0_3 a0_4 a0_5 l0_6 a0_7 a0_8 l0_9 l0_10 l0_11 a0_12 a0_13 l0_14 = some (s, 0) ∧ credenzaref18_Same.f k a0_0 a0_1 a0_2 a0_3 a0_4 a0_5 (l0_10.length : Int) (refT l0_6) (refP a0_7 a0_8 l0_9 l0_10 l0_11 a0_12 a0_13 l0_14) d0 d1 d2 d3 d4 d5 L T P = some true))
theorem BlobParses_ok.mono {k : Nat} {s : List Int} (h : BlobParses_ok k s) : BlobParses_ok (k + 1) s := by
 obtain ⟨h2, h3⟩ := h
 refine ⟨credenzalaw18_awake.mono _ _ h2, fun hs => ?_⟩
 obtain ⟨a0_0, a0_1, a0_2, a0_3, a0_4, a0_5, l0_6, a0_7, a0_8, l0_9, l0_10, l0_11, a0_12, a0_13, l0_14, d0, d1, d2, d3, d4, d5, L, T, P, x, g1, g2, g3, g4⟩ := h3 hs
 exact ⟨a0_0, a0_1, a0_2, a0_3, a0_4, a0_5, l0_6, a0_7, a0_8, l0_9, l0_10, l0_11, a0_12, a0_13, l0_14, d0, d1, d2, d3, d4, d5, L, T, P, x, blob_Parse.mono _ _ _ g1, g2.mono, fun hx => blob_Equal.mono _ _ _ _ _ _ _ _ _ _ _ _ _ _ _ _ _ _ _ _ _ _ _ _ _ _ _ _ _ _ _ _ (g3 hx), fun hx => ⟨(g4 hx).1, blob_Bytes.mono _ _ _ _ _ _ _ _ _ _ _ _ _ _ _ _ _ (g4 hx).2.1, credenzaref18_Same.mono _ _ _ _ _ _ _ _ _ _ _ _ _ _ _ _ _ _ _ _ (g4 hx).2.2⟩⟩
open Classical in
noncomputable def credenzalaw18_BlobParses.f (k : Nat) (s : List Int) : Option Bool := if BlobParses_ok k s then some true else none
theorem credenzalaw18_BlobParses.mono : ∀ s k, LeO (credenzalaw18_BlobParses.f k s) (credenzalaw18_BlobParses.f (k + 1) s) := by
 intro s k r h
 unfold credenzalaw18_BlobParses.f at h ⊢
 split at h
 ·
  next hc => rw [if_pos hc.mono]; exact h
 ·
  cases h
def lwp.T10 : Bool × List (List Nat × List Nat) := (true, [([], []), ([0], [0]), ([], []), ([1, 2, 1], [1, 2]), ([3, 3], [3]), ([4], [4]), ([5, 4], [4, 5]), ([4, 6], [4, 6]), ([7, 4], [7]), ([8], [8]), ([9, 8], [8, 9]), ([8], [8]), ([11, 8], [8, 11]), ([10, 12, 8], [8, 10, 12]), ([8, 13], [8, 13]), ([14, 8], [14]), ([15, 15], [15]), ([15, 16], [15, 16]), ([17, 16, 0, 1, 2, 3, 4, 5, 6, 7, 8, 9, 10, 11, 12, 13, 14, 15, 16, 17], [17])])
def lwp.B10 : List Nat := [0, 1, 0, 7, 15, 31, 63, 127, 255, 511, 1023, 511, 2559, 8191, 16383, 32767, 65535, 131071, 262143]
theorem lwp.tab10 : rtab .any (opsOf Try.f9 10) = lwp.T10 := by kernel_rfl
theorem lwp.bits10 : waitsOk lwp.T10.2 lwp.B10 = true := by kernel_rfl
set_option maxHeartbeats 8000000 in
set_option maxRecDepth 100000 in
theorem lawParses.go (k : Nat) (As : Option Addr) (cs : Nat) (s : List Int) (w : World) (hr0 : Kd.C (Kd.int .u8) w As s.length s) (hc0 : s.length ≤ cs) (h : BlobParses_ok k s) :
  Calls Try.prog 9 #[.slice As s.length cs] w fun e w' => e = .returned (.bool true) ∧ Below w.heap.size w w' := by
 have hu67 := Try.underlying67
 have hu73 := Try.underlying73
 have HB := aM (Below.refl w.heap.size w)
 have HR0 := aM hr0
 have HC0 := aM hc0
 obtain ⟨haw, h⟩ := h
 have HAW := aM haw
 clear hr0 hc0 haw
 by_cases hs : s.length ≤ 30000
 case neg =>
  have c1 : decide ((s.length : Int) > 30000) = true := decide_eq_true (by omega)
  have c2 : decide (30000 < (s.length : Int)) = true := decide_eq_true (by omega)
  have c3 : decide (30000 < s.length) = true := decide_eq_true (by omega)
  clear h hs
  go_enter Try.func9, Try.ntmps9
  go_wp2_with (first | (go_at_call 26; (with_reducible refine (credenzalaw18_awake.calls k true _ HAW.out).mono ?_); rintro e wa ⟨rfl, hb⟩; replace HB := aM (below_step HB.out hb); clear hb))
  go_ret
  exact ⟨rfl, HB.out⟩
 obtain ⟨a0_0, a0_1, a0_2, a0_3, a0_4, a0_5, l0_6, a0_7, a0_8, l0_9, l0_10, l0_11, a0_12, a0_13, l0_14, d0, d1, d2, d3, d4, d5, L, T, P, x, hpa, hp18, heq, hok⟩ := h hs
 have HPA := aM hpa
 have HP18 := aM hp18
 have HEQ := aM heq
 have HOK := aM hok
 have c1 : decide ((s.length : Int) > 30000) = false := decide_eq_false (by omega)
 have c2 : decide (30000 < (s.length : Int)) = false := decide_eq_false (by omega)
 have c3 : decide (30000 < s.length) = false := decide_eq_false (by omega)
 have c4 : (x != x) = false := by simp
 clear h hs hpa hp18 heq hok
 go_enter Try.func9, Try.ntmps9
 go_upto_region 4 with (first | (go_at_call 34; (with_reducible refine (cParse k As cs s a0_0 a0_1 a0_2 a0_3 a0_4 a0_5 l0_6 a0_7 a0_8 l0_9 l0_10 l0_11 a0_12 a0_13 l0_14 x _ (Kd.C_below HR0.out HB.out) HC0.out HPA.out).mono ?_); rintro e w6 ⟨A0_6, c0_6, A0_9, c0_9, A0_10, c0_10, A0_11, c0_11, A0_14, c0_14, rfl, hbc, hb⟩; have HPF := aM hbc; have HB6 := aM (Below.refl w6.heap.size w6); clear hbc; replace HB := aM (below_step HB.out hb); have HW6 := aM (below_size HB.out); clear hb) | ((with_reducible refine gate_dst (N := 3) rfl ?_); refine box_event ?hg (N := 3) ?hd (cs := #[.int .i64 0, .int .i64 0, .int .i64 0, .int .i64 0, .int .i64 0, .int .i64 0, .slice none 0 0, .int .i64 0, .int .i64 0, .slice none 0 0, .slice none 0 0, .slice none 0 0, .int .i64 0, .int .i64 0, .slice none 0 0]) (t := 67) ?hr ?_; (case hd => rfl); (case hg => rfl); (case hr => first | (go_simp; done) | (go_simp; rfl)); intro g6 hg w7 hbox hb; have B6 := aM hbox; have GE6 := aM (show w6.heap.size ≤ g6 by rw [hg]; exact Nat.le_refl _); replace HB := aM (below_step HB.out hb); replace HB6 := aM (below_step HB6.out hb); clear hbox hb hg) | ((with_reducible refine gate_store (t := 67) (p := 3) (v := .tmp 16) rfl ?_); refine store_event ?hg ?hd 67 (.tmp 3) (.tmp 16) rfl g6 #[.int .i64 a0_0, .int .i64 a0_1, .int .i64 a0_2, .int .i64 a0_3, .int .i64 a0_4, .int .i64 a0_5, .slice A0_6 l0_6.length c0_6, .int .i64 a0_7, .int .i64 a0_8, .slice A0_9 l0_9.length c0_9, .slice A0_10 l0_10.length c0_10, .slice A0_11 l0_11.length c0_11, .int .i64 a0_12, .int .i64 a0_13, .slice A0_14 l0_14.length c0_14] ?hx ?hy 67 _ B6.out ?hi ?ho ?h1 ?_; (case hg => rfl); (case hd => rfl); (case hx => rfl); (case hy => rfl); (case hi => kernel_rfl); (case ho => rfl); (case h1 => simp [Value.oneCell']); intro w8 hnew hal far_; replace HB := aM (hal w HB.out (Nat.le_trans HW6.out GE6.out)); replace HB6 := aM (hal w6 HB6.out GE6.out); replace B6 := aM hnew; clear hnew hal far_))
 clear c1 c2 c3 HW6 GE6
 obtain ⟨rb, hrb⟩ : ∃ x_, strOfNums s = x_ := ⟨_, rfl⟩
 have hcv : (convert 32 9 (.slice As s.length cs)).run Try.prog w8 = .ok (.string rb) w8 := by rw [← hrb]; exact Kd.C_string Try.underlying32 Try.underlying5 Try.underlying9 (Kd.C_below HR0.out HB.out)
 have hp18 := HP18.out
 rw [hrb] at hp18
 replace HP18 := aM hp18
 have HRB := aM hrb
 clear hp18 hrb
 go_upto_region 5 with (first | (go_at_call 38; (with_reducible refine (p18.go k rb d0 d1 d2 d3 d4 d5 L T P x _ HP18.out).mono ?_); rintro e w9 ⟨AT, cT, AP, cP, rfl, hpc, hb⟩; have HPC := aM hpc; have HB9 := aM (Below.refl w9.heap.size w9); clear hpc; replace B6 := aM (blk_below B6.out hb); replace HB6 := aM (below_step HB6.out hb); replace HB := aM (below_step HB.out hb); have HW9 := aM (below_size HB.out); have HW69 := aM (below_size HB6.out); have GB9 := aM (blk_lt B6.out); clear hb) | ((with_reducible refine gate_dst (N := 5) rfl ?_); refine box_event ?hg (N := 5) ?hd (cs := #[.int .i64 0, .int .i64 0, .int .i64 0, .int .i64 0, .int .i64 0, .int .i64 0, .int .i64 0, .slice none 0 0, .slice none 0 0]) (t := 73) ?hr ?_; (case hd => rfl); (case hg => rfl); (case hr => first | (go_simp; done) | (go_simp; rfl)); intro g7 hg wA hbox hb; have B7 := aM hbox; have GE9 := aM (show w9.heap.size ≤ g7 by rw [hg]; exact Nat.le_refl _); replace B6 := aM (blk_below B6.out hb); replace HB6 := aM (below_step HB6.out hb); replace HB := aM (below_step HB.out hb); replace HB9 := aM (below_step HB9.out hb); clear hbox hb hg) | ((with_reducible refine gate_store (t := 73) (p := 5) (v := .tmp 22) rfl ?_); refine store_event ?hg ?hd 73 (.tmp 5) (.tmp 22) rfl g7 #[.int .i64 d0, .int .i64 d1, .int .i64 d2, .int .i64 d3, .int .i64 d4, .int .i64 d5, .int .i64 L, .slice AT T.length cT, .slice AP P.length cP] ?hx ?hy 73 _ B7.out ?hi ?ho ?h1 ?_; (case hg => rfl); (case hd => rfl); (case hx => rfl); (case hy => rfl); (case hi => kernel_rfl); (case ho => rfl); (case h1 => simp [Value.oneCell']); intro wB hnew hal far_; replace B6 := aM ((far_ g6 (by have h1_ := GE9.out; have h2_ := GB9.out; omega)).trans B6.out); replace HB := aM (hal w HB.out (Nat.le_trans HW9.out GE9.out)); replace HB6 := aM (hal w6 HB6.out (Nat.le_trans HW69.out GE9.out)); replace HB9 := aM (hal w9 HB9.out GE9.out); replace B7 := aM hnew; clear hnew hal far_))
 clear hcv HW9 HW69 GB9 GE9 HP18
 replace HPF := aM (HPF.out wB (fun k_ _ hk_ => HB6.out.block k_ hk_))
 replace HPC := aM (HPC.out.below HB9.out)
 clear HB6 HB9
 by_cases hx : x = 0
 case neg =>
  have HEQ2 := aM (HEQ.out hx)
  have d1 : (x != 0) = true := bne_iff_ne.mpr hx
  clear HEQ HOK hx
  go_wp2_with (first | ((with_reducible refine gate_dst (N := 29) rfl ?_); (try (refine gate_guard (by rfl) ?_; dsimp only)); refine load_event ?hg (N := 29) ?hd 67 (.tmp 3) rfl ⟨g6, 0, none⟩ ?hx [.int .i64 a0_0, .int .i64 a0_1, .int .i64 a0_2, .int .i64 a0_3, .int .i64 a0_4, .int .i64 a0_5, .slice A0_6 l0_6.length c0_6, .int .i64 a0_7, .int .i64 a0_8, .slice A0_9 l0_9.length c0_9, .slice A0_10 l0_10.length c0_10, .slice A0_11 l0_11.length c0_11, .int .i64 a0_12, .int .i64 a0_13, .slice A0_14 l0_14.length c0_14] (blk_cells (cs := [.int .i64 a0_0, .int .i64 a0_1, .int .i64 a0_2, .int .i64 a0_3, .int .i64 a0_4, .int .i64 a0_5, .slice A0_6 l0_6.length c0_6, .int .i64 a0_7, .int .i64 a0_8, .slice A0_9 l0_9.length c0_9, .slice A0_10 l0_10.length c0_10, .slice A0_11 l0_11.length c0_11, .int .i64 a0_12, .int .i64 a0_13, .slice A0_14 l0_14.length c0_14]) B6.out) _ Try.underlying67 rfl (by kernel_rfl) ?_; (case hg => rfl); (case hd => rfl); (case hx => rfl)) | (go_at_call 36; (refine (cEqual k a0_0 a0_1 a0_2 a0_3 a0_4 a0_5 A0_6 c0_6 l0_6 a0_7 a0_8 A0_9 c0_9 l0_9 A0_10 c0_10 l0_10 A0_11 c0_11 l0_11 a0_12 a0_13 A0_14 c0_14 l0_14 0 0 0 0 0 0 none 0 [] 0 0 none 0 [] none 0 [] none 0 [] 0 0 none 0 [] true _ HPF.out (BlobC_nil _) HEQ2.out).mono ?_); rintro e wk ⟨rfl, hb⟩; replace B6 := aM (blk_below B6.out hb); replace B7 := aM (blk_below B7.out hb); replace HPF := aM (HPF.out.below hb); replace HPC := aM (HPC.out.below hb); replace HB := aM (below_step HB.out hb); clear hb) | (go_at_call 26; (with_reducible refine (credenzalaw18_awake.calls k true _ HAW.out).mono ?_); rintro e wa ⟨rfl, hb⟩; replace B6 := aM (blk_below B6.out hb); replace B7 := aM (blk_below B7.out hb); replace HPF := aM (HPF.out.below hb); replace HPC := aM (HPC.out.below hb); replace HB := aM (below_step HB.out hb); clear hb))
  go_ret
  exact ⟨by first | rfl | simp, HB.out⟩
 subst hx
 obtain ⟨hbd, hby, hsa⟩ := HOK.out rfl
 have HBD0 : Aside0 (l0_6.length ≤ 17592186043904 ∧ l0_10.length ≤ 430000000000) := ⟨by omega⟩
 have HBY := aM hby
 have d1 : ((0 : Int) != 0) = false := rfl
 obtain ⟨P0, hP⟩ : ∃ x_, refP a0_7 a0_8 l0_9 l0_10 l0_11 a0_12 a0_13 l0_14 = x_ := ⟨_, rfl⟩
 obtain ⟨T0, hT⟩ : ∃ x_, refT l0_6 = x_ := ⟨_, rfl⟩
 rw [hP, hT] at hsa
 have HP := aM hP
 have HT := aM hT
 have HSA := aM hsa
 clear HEQ HOK hbd hby hsa hP hT
 go_upto_region 10 with (first | ((with_reducible refine gate_dst (N := 36) rfl ?_); (try (refine gate_guard (by rfl) ?_; dsimp only)); refine load_event ?hg (N := 36) ?hd 67 (.tmp 3) rfl ⟨g6, 0, none⟩ ?hx [.int .i64 a0_0, .int .i64 a0_1, .int .i64 a0_2, .int .i64 a0_3, .int .i64 a0_4, .int .i64 a0_5, .slice A0_6 l0_6.length c0_6, .int .i64 a0_7, .int .i64 a0_8, .slice A0_9 l0_9.length c0_9, .slice A0_10 l0_10.length c0_10, .slice A0_11 l0_11.length c0_11, .int .i64 a0_12, .int .i64 a0_13, .slice A0_14 l0_14.length c0_14] (blk_cells (cs := [.int .i64 a0_0, .int .i64 a0_1, .int .i64 a0_2, .int .i64 a0_3, .int .i64 a0_4, .int .i64 a0_5, .slice A0_6 l0_6.length c0_6, .int .i64 a0_7, .int .i64 a0_8, .slice A0_9 l0_9.length c0_9, .slice A0_10 l0_10.length c0_10, .slice A0_11 l0_11.length c0_11, .int .i64 a0_12, .int .i64 a0_13, .slice A0_14 l0_14.length c0_14]) B6.out) _ Try.underlying67 rfl (by kernel_rfl) ?_; (case hg => rfl); (case hd => rfl); (case hx => rfl)) | (go_at_call 30; (with_reducible refine (cBytes k a0_0 a0_1 a0_2 a0_3 a0_4 a0_5 A0_6 c0_6 l0_6 a0_7 a0_8 A0_9 c0_9 l0_9 A0_10 c0_10 l0_10 A0_11 c0_11 l0_11 a0_12 a0_13 A0_14 c0_14 l0_14 s 0 _ HPF.out HBY.out).mono ?_); rintro e wC ⟨Bs, ct, rfl, hr, hb⟩; have HSR := aM (Kd.R_lower hr (below_size HB.out)); clear hr; replace B6 := aM (blk_below B6.out hb); replace B7 := aM (blk_below B7.out hb); replace HPF := aM (HPF.out.below hb); replace HPC := aM (HPC.out.below hb); replace HB := aM (below_step HB.out hb); clear hb))
 clear d1 c4
 have hsb : (rb.toList == rb.toList) = true := beq_self_eq_true _
 replace B6 := aM (blk_drew B6.out)
 replace B7 := aM (blk_drew B7.out)
 replace HSR := aM (Kd.R_drew HSR.out)
 replace HPF := aM (HPF.out.below (below_drew1 (Below.refl _ _)))
 replace HPC := aM (HPC.out.below (below_drew1 (Below.refl _ _)))
 replace HB := aM (HB.out.drew)
 refine start_ (n := 19) (S := fun w' => AtC w' g6 [.int .i64 a0_0, .int .i64 a0_1, .int .i64 a0_2, .int .i64 a0_3, .int .i64 a0_4, .int .i64 a0_5, .slice A0_6 l0_6.length c0_6, .int .i64 a0_7, .int .i64 a0_8, .slice A0_9 l0_9.length c0_9, .slice A0_10 l0_10.length c0_10, .slice A0_11 l0_11.length c0_11, .int .i64 a0_12, .int .i64 a0_13, .slice A0_14 l0_14.length c0_14] ∧ AtC w' g7 [.int .i64 d0, .int .i64 d1, .int .i64 d2, .int .i64 d3, .int .i64 d4, .int .i64 d5, .int .i64 L, .slice AT T.length cT, .slice AP P.length cP] ∧ (convert 32 9 (.slice Bs s.length ct)).run Try.prog w' = .ok (.string rb) w' ∧ (convert 32 9 (.slice As s.length cs)).run Try.prog w' = .ok (.string rb) w') (ds := []) #[false, false, false, false, false, false, false, false, false, false, false, false, false, false, false, false, false, false, false] (by kernel_rfl) rfl rfl ⟨(blk_cells (cs := [.int .i64 a0_0, .int .i64 a0_1, .int .i64 a0_2, .int .i64 a0_3, .int .i64 a0_4, .int .i64 a0_5, .slice A0_6 l0_6.length c0_6, .int .i64 a0_7, .int .i64 a0_8, .slice A0_9 l0_9.length c0_9, .slice A0_10 l0_10.length c0_10, .slice A0_11 l0_11.length c0_11, .int .i64 a0_12, .int .i64 a0_13, .slice A0_14 l0_14.length c0_14]) B6.out), (blk_cells (cs := [.int .i64 d0, .int .i64 d1, .int .i64 d2, .int .i64 d3, .int .i64 d4, .int .i64 d5, .int .i64 L, .slice AT T.length cT, .slice AP P.length cP]) B7.out), (HRB.out ▸ own_string (P := Try.prog) Try.underlying32 Try.underlying5 Try.underlying9 (Kd.own_of_R HSR.out)), (HRB.out ▸ Kd.C_string (P := Try.prog) Try.underlying32 Try.underlying5 Try.underlying9 (Kd.C_below HR0.out HB.out))⟩ (fun hHeld => ?_); refine with_tabW lwp.tab10 lwp.bits10 (fun HT_ HW_ => ?_)
 generalize wC.drew = wD at B6 B7 HSR HPF HPC HB hHeld ⊢
 refine take_ (i := 0) (N := some 40) (v := ?_) (a' := ?_) #[true, false, false, false, false, false, false, false, false, false, false, false, false, false, false, false, false, false, false] rfl rfl (take_ofW HT_.out HW_.out (by kernel_rfl)) (fun _ _ _ h => h) (Or.inl ⟨by rfl, ?_⟩) hHeld ?_ ?_
 rotate_left
 ·
  rintro w' ⟨s0, s1, s2, s3⟩
  refine exec_load 67 (.tmp 3) ?_ ⟨g6, 0, none⟩ ?_ [.int .i64 a0_0, .int .i64 a0_1, .int .i64 a0_2, .int .i64 a0_3, .int .i64 a0_4, .int .i64 a0_5, .slice A0_6 l0_6.length c0_6, .int .i64 a0_7, .int .i64 a0_8, .slice A0_9 l0_9.length c0_9, .slice A0_10 l0_10.length c0_10, .slice A0_11 l0_11.length c0_11, .int .i64 a0_12, .int .i64 a0_13, .slice A0_14 l0_14.length c0_14] s0 _ Try.underlying67 rfl (by kernel_rfl)
  all_goals rfl
 rotate_left
 ·
  exact pS
 refine take_ (i := 2) (N := some 42) (v := ?_) (a' := ?_) #[true, false, true, false, false, false, false, false, false, false, false, false, false, false, false, false, false, false, false] rfl rfl (take_ofW HT_.out HW_.out (by kernel_rfl)) (fun _ _ _ h => h) (Or.inl ⟨by rfl, ?_⟩) hHeld ?_ ?_
 rotate_left
 ·
  rintro w' ⟨s0, s1, s2, s3⟩
  refine exec_load 73 (.tmp 5) ?_ ⟨g7, 0, none⟩ ?_ [.int .i64 d0, .int .i64 d1, .int .i64 d2, .int .i64 d3, .int .i64 d4, .int .i64 d5, .int .i64 L, .slice AT T.length cT, .slice AP P.length cP] s1 _ Try.underlying73 rfl (by kernel_rfl)
  all_goals rfl
 rotate_left
 ·
  exact pS
 refine one_ (i := 1) (N := some 41) #[true, true, true, false, false, false, false, false, false, false, false, false, false, false, false, false, false, false, false] rfl rfl (one_of HT_.out (by kernel_rfl)) (by decide) (fun K hK => ?_)
 refine goes_ Try.func32 (by kernel_rfl) rfl #[.agg #[.int .i64 a0_0, .int .i64 a0_1, .int .i64 a0_2, .int .i64 a0_3, .int .i64 a0_4, .int .i64 a0_5, .slice A0_6 l0_6.length c0_6, .int .i64 a0_7, .int .i64 a0_8, .slice A0_9 l0_9.length c0_9, .slice A0_10 l0_10.length c0_10, .slice A0_11 l0_11.length c0_11, .int .i64 a0_12, .int .i64 a0_13, .slice A0_14 l0_14.length c0_14]] (by rfl) rfl rfl (by (try simp only [List.map_toArray, List.map_cons, List.map_nil]); first | done | rfl) ?_
 with_reducible refine (cRef a0_0 a0_1 a0_2 a0_3 a0_4 a0_5 A0_6 c0_6 l0_6 a0_7 a0_8 A0_9 c0_9 l0_9 A0_10 c0_10 l0_10 A0_11 c0_11 l0_11 a0_12 a0_13 A0_14 c0_14 l0_14 T0 P0 _ HPF.out HBD0.out HT.out HP.out).mono ?_
 rintro e wb ⟨A1, c1, A2, c2, rfl, hpc, hb⟩
 refine ⟨_, rfl, ?_⟩
 have HPD := aM hpc
 clear hpc
 replace HSR := aM (Kd.R_below HSR.out hb)
 replace B6 := aM (blk_below B6.out hb)
 replace B7 := aM (blk_below B7.out hb)
 replace HPF := aM (HPF.out.below hb)
 replace HPC := aM (HPC.out.below hb)
 replace HB := aM (below_step HB.out hb)
 clear hb
 refine hK.out _ _ ⟨(blk_cells (cs := [.int .i64 a0_0, .int .i64 a0_1, .int .i64 a0_2, .int .i64 a0_3, .int .i64 a0_4, .int .i64 a0_5, .slice A0_6 l0_6.length c0_6, .int .i64 a0_7, .int .i64 a0_8, .slice A0_9 l0_9.length c0_9, .slice A0_10 l0_10.length c0_10, .slice A0_11 l0_11.length c0_11, .int .i64 a0_12, .int .i64 a0_13, .slice A0_14 l0_14.length c0_14]) B6.out), (blk_cells (cs := [.int .i64 d0, .int .i64 d1, .int .i64 d2, .int .i64 d3, .int .i64 d4, .int .i64 d5, .int .i64 L, .slice AT T.length cT, .slice AP P.length cP]) B7.out), (HRB.out ▸ own_string (P := Try.prog) Try.underlying32 Try.underlying5 Try.underlying9 (Kd.own_of_R HSR.out)), (HRB.out ▸ Kd.C_string (P := Try.prog) Try.underlying32 Try.underlying5 Try.underlying9 (Kd.C_below HR0.out HB.out))⟩ (fun hHeld => ?_)
 clear hK K
 refine norm_ (a' := ?_) ?_ ?_
 rotate_left
 ·
  show Act.put _ (some 41) _ = _
  simp only [Act.put, List.setIfInBounds_toArray, List.set_cons_zero, List.set_cons_succ, i64_w, i32_w, IntKind.wrap_u32]
  rfl
 refine one_ (i := 3) (N := some 43) #[true, true, true, true, false, false, false, false, false, false, false, false, false, false, false, false, false, false, false] rfl rfl (one_of HT_.out (by kernel_rfl)) (by decide) (fun K hK => ?_)
 refine goes_ Try.func37 (by kernel_rfl) rfl #[.agg #[.int .i64 a0_0, .int .i64 a0_1, .int .i64 a0_2, .int .i64 a0_3, .int .i64 a0_4, .int .i64 a0_5, .int .i64 (l0_10.length : Int), .slice A1 T0.length c1, .slice A2 P0.length c2], .agg #[.int .i64 d0, .int .i64 d1, .int .i64 d2, .int .i64 d3, .int .i64 d4, .int .i64 d5, .int .i64 L, .slice AT T.length cT, .slice AP P.length cP]] (by rfl) rfl rfl (by (try simp only [List.map_toArray, List.map_cons, List.map_nil]); first | done | rfl) ?_
 with_reducible refine (cSame18 k a0_0 a0_1 a0_2 a0_3 a0_4 a0_5 _ A1 c1 T0 A2 c2 P0 d0 d1 d2 d3 d4 d5 L AT cT T AP cP P true _ HPD.out HPC.out HSA.out).mono ?_
 rintro e wd ⟨rfl, hb⟩
 refine ⟨_, rfl, ?_⟩
 clear HPD
 replace HSR := aM (Kd.R_below HSR.out hb)
 replace B6 := aM (blk_below B6.out hb)
 replace B7 := aM (blk_below B7.out hb)
 replace HPF := aM (HPF.out.below hb)
 replace HPC := aM (HPC.out.below hb)
 replace HB := aM (below_step HB.out hb)
 clear hb
 refine hK.out _ _ ⟨(blk_cells (cs := [.int .i64 a0_0, .int .i64 a0_1, .int .i64 a0_2, .int .i64 a0_3, .int .i64 a0_4, .int .i64 a0_5, .slice A0_6 l0_6.length c0_6, .int .i64 a0_7, .int .i64 a0_8, .slice A0_9 l0_9.length c0_9, .slice A0_10 l0_10.length c0_10, .slice A0_11 l0_11.length c0_11, .int .i64 a0_12, .int .i64 a0_13, .slice A0_14 l0_14.length c0_14]) B6.out), (blk_cells (cs := [.int .i64 d0, .int .i64 d1, .int .i64 d2, .int .i64 d3, .int .i64 d4, .int .i64 d5, .int .i64 L, .slice AT T.length cT, .slice AP P.length cP]) B7.out), (HRB.out ▸ own_string (P := Try.prog) Try.underlying32 Try.underlying5 Try.underlying9 (Kd.own_of_R HSR.out)), (HRB.out ▸ Kd.C_string (P := Try.prog) Try.underlying32 Try.underlying5 Try.underlying9 (Kd.C_below HR0.out HB.out))⟩ (fun hHeld => ?_)
 clear hK K
 refine norm_ (a' := ?_) ?_ ?_
 rotate_left
 ·
  show Act.put _ (some 43) _ = _
  simp only [Act.put, List.setIfInBounds_toArray, List.set_cons_zero, List.set_cons_succ, i64_w, i32_w, IntKind.wrap_u32]
  rfl
 refine pure_ (i := 4) (N := some 44) (v := ?_) (a' := ?_) #[true, true, true, true, true, false, false, false, false, false, false, false, false, false, false, false, false, false, false] rfl rfl (any_of HT_.out (by kernel_rfl)) (fun _ _ _ h => h) (Or.inl ⟨by rfl, ?_⟩) ?_ ?_
 rotate_left; exact pI; rotate_left; exact pS
 refine pure_ (i := 5) (N := some 45) (v := ?_) (a' := ?_) #[true, true, true, true, true, true, false, false, false, false, false, false, false, false, false, false, false, false, false] rfl rfl (any_of HT_.out (by kernel_rfl)) (fun _ _ _ h => h) (Or.inl ⟨by rfl, ?_⟩) ?_ ?_
 rotate_left; exact pI; rotate_left; exact pS
 refine pure_ (i := 6) (N := some 46) (v := ?_) (a' := ?_) #[true, true, true, true, true, true, true, false, false, false, false, false, false, false, false, false, false, false, false] rfl rfl (any_of HT_.out (by kernel_rfl)) (fun _ _ _ h => h) (Or.inl ⟨by rfl, ?_⟩) ?_ ?_
 rotate_left; exact pI; rotate_left; exact pS
 refine pure_ (i := 7) (N := some 47) (v := ?_) (a' := ?_) #[true, true, true, true, true, true, true, true, false, false, false, false, false, false, false, false, false, false, false] rfl rfl (any_of HT_.out (by kernel_rfl)) (fun _ _ _ h => h) (Or.inl ⟨by rfl, ?_⟩) ?_ ?_
 rotate_left; exact pI; rotate_left; exact pS
 refine pure_ (i := 8) (N := some 48) (v := ?_) (a' := ?_) #[true, true, true, true, true, true, true, true, true, false, false, false, false, false, false, false, false, false, false] rfl rfl (any_of HT_.out (by kernel_rfl)) (fun _ _ _ h => h) (Or.inl ⟨by rfl, ?_⟩) ?_ ?_
 rotate_left; exact pI; rotate_left; exact pS
 refine pure_ (i := 9) (N := some 49) (v := ?_) (a' := ?_) #[true, true, true, true, true, true, true, true, true, true, false, false, false, false, false, false, false, false, false] rfl rfl (any_of HT_.out (by kernel_rfl)) (fun _ _ _ h => h) (Or.inl ⟨by rfl, ?_⟩) ?_ ?_
 rotate_left; exact pI; rotate_left; exact pS
 refine pure_ (i := 11) (N := some 51) (v := ?_) (a' := ?_) #[true, true, true, true, true, true, true, true, true, true, false, true, false, false, false, false, false, false, false] rfl rfl (any_of HT_.out (by kernel_rfl)) (fun _ _ _ h => h) (Or.inl ⟨by rfl, ?_⟩) ?_ ?_
 rotate_left; exact pI; rotate_left; exact pS
 refine take_ (i := 10) (N := some 50) (v := ?_) (a' := ?_) #[true, true, true, true, true, true, true, true, true, true, true, true, false, false, false, false, false, false, false] rfl rfl (take_ofW HT_.out HW_.out (by kernel_rfl)) (fun _ _ _ h => h) (Or.inl ⟨by rfl, ?_⟩) hHeld ?_ ?_
 rotate_left
 ·
  rintro w' ⟨s0, s1, s2, s3⟩
  go_simp
  with_reducible rfl
 rotate_left
 ·
  exact pS
 refine take_ (i := 12) (N := some 52) (v := ?_) (a' := ?_) #[true, true, true, true, true, true, true, true, true, true, true, true, true, false, false, false, false, false, false] rfl rfl (take_ofW HT_.out HW_.out (by kernel_rfl)) (fun _ _ _ h => h) (Or.inl ⟨by rfl, ?_⟩) hHeld ?_ ?_
 rotate_left
 ·
  rintro w' ⟨s0, s1, s2, s3⟩
  go_simp
  with_reducible rfl
 rotate_left
 ·
  exact pS
 refine pure_ (i := 13) (N := some 53) (v := ?_) (a' := ?_) #[true, true, true, true, true, true, true, true, true, true, true, true, true, true, false, false, false, false, false] rfl rfl (any_of HT_.out (by kernel_rfl)) (fun _ _ _ h => h) (Or.inl ⟨by rfl, ?_⟩) ?_ ?_
 rotate_left; exact pI; rotate_left; exact pS
 refine pure_ (i := 14) (N := some 54) (v := ?_) (a' := ?_) #[true, true, true, true, true, true, true, true, true, true, true, true, true, true, true, false, false, false, false] rfl rfl (any_of HT_.out (by kernel_rfl)) (fun _ _ _ h => h) (Or.inl ⟨by rfl, ?_⟩) ?_ ?_
 rotate_left; exact pI; rotate_left; exact pS
 refine pure_ (i := 15) (N := some 55) (v := ?_) (a' := ?_) #[true, true, true, true, true, true, true, true, true, true, true, true, true, true, true, true, false, false, false] rfl rfl (any_of HT_.out (by kernel_rfl)) (fun _ _ _ h => h) (Or.inl ⟨by rfl, ?_⟩) ?_ ?_
 rotate_left; exact pI; rotate_left; exact pS
 refine one_ (i := 16) (N := some 56) #[true, true, true, true, true, true, true, true, true, true, true, true, true, true, true, true, true, false, false] rfl rfl (one_of HT_.out (by kernel_rfl)) (by decide) (fun K hK => ?_)
 refine goes_ Try.func26 (by kernel_rfl) rfl #[] (by rfl) rfl rfl (by (try simp only [List.map_toArray, List.map_cons, List.map_nil]); first | done | rfl) ?_
 with_reducible refine (credenzalaw18_awake.calls k true _ HAW.out).mono ?_
 rintro e wh ⟨rfl, hb⟩
 refine ⟨_, rfl, ?_⟩
 replace HSR := aM (Kd.R_below HSR.out hb)
 replace B6 := aM (blk_below B6.out hb)
 replace B7 := aM (blk_below B7.out hb)
 replace HPF := aM (HPF.out.below hb)
 replace HPC := aM (HPC.out.below hb)
 replace HB := aM (below_step HB.out hb)
 clear hb
 refine hK.out _ _ ⟨(blk_cells (cs := [.int .i64 a0_0, .int .i64 a0_1, .int .i64 a0_2, .int .i64 a0_3, .int .i64 a0_4, .int .i64 a0_5, .slice A0_6 l0_6.length c0_6, .int .i64 a0_7, .int .i64 a0_8, .slice A0_9 l0_9.length c0_9, .slice A0_10 l0_10.length c0_10, .slice A0_11 l0_11.length c0_11, .int .i64 a0_12, .int .i64 a0_13, .slice A0_14 l0_14.length c0_14]) B6.out), (blk_cells (cs := [.int .i64 d0, .int .i64 d1, .int .i64 d2, .int .i64 d3, .int .i64 d4, .int .i64 d5, .int .i64 L, .slice AT T.length cT, .slice AP P.length cP]) B7.out), (HRB.out ▸ own_string (P := Try.prog) Try.underlying32 Try.underlying5 Try.underlying9 (Kd.own_of_R HSR.out)), (HRB.out ▸ Kd.C_string (P := Try.prog) Try.underlying32 Try.underlying5 Try.underlying9 (Kd.C_below HR0.out HB.out))⟩ (fun hHeld => ?_)
 clear hK K
 refine norm_ (a' := ?_) ?_ ?_
 rotate_left
 ·
  show Act.put _ (some 56) _ = _
  simp only [Act.put, List.setIfInBounds_toArray, List.set_cons_zero, List.set_cons_succ, i64_w, i32_w, IntKind.wrap_u32]
  rfl
 refine pure_ (i := 17) (N := some 57) (v := ?_) (a' := ?_) #[true, true, true, true, true, true, true, true, true, true, true, true, true, true, true, true, true, true, false] rfl rfl (any_of HT_.out (by kernel_rfl)) (fun _ _ _ h => h) (Or.inl ⟨by rfl, ?_⟩) ?_ ?_
 rotate_left; exact pI; rotate_left; exact pS
 refine pure_ (i := 18) (N := some 2) (v := ?_) (a' := ?_) #[true, true, true, true, true, true, true, true, true, true, true, true, true, true, true, true, true, true, true] rfl rfl (any_of HT_.out (by kernel_rfl)) (fun _ _ _ h => h) (Or.inl ⟨by rfl, ?_⟩) ?_ ?_
 rotate_left; exact pI; rotate_left; exact pS
 refine done_ (done_of HT_.out (by kernel_rfl)) ?_
 clear hHeld
 go_wp2
 go_ret
 exact ⟨by first | rfl | simp, HB.out⟩
theorem credenzalaw18_BlobParses.calls (k : Nat) (A0 : Option Addr) (c0 : Nat) (l0 : List Int) (r : Bool) (w : World) (hr0 : Kd.C (Kd.int .u8) w A0 l0.length l0) (hc0 : l0.length ≤ c0) (h : credenzalaw18_BlobParses.f k l0 = some r) :
  Calls Try.prog 9 #[.slice A0 l0.length c0] w fun e w' => e = .returned (.bool r) ∧ Below w.heap.size w w' := by
 unfold credenzalaw18_BlobParses.f at h
 split at h
 ·
  next hc =>
  obtain rfl := Option.some.inj h
  exact lawParses.go k A0 c0 l0 w hr0 hc0 hc
 ·
  cases h
-- calls: credenzalaw18_awake blob_Equal blob_Parse blob_Bytes credenzaref18_Parse credenzaref18_Same


/-- THE ONE PURE STATEMENT of credenzalaw18_BlobParses: yours. -/
def credenzalaw18_BlobParses.Pure : Prop := ∀ (l0 : List Int), l0.length ≤ maxLen → l0.length * 1 ≤ 140737488351232 → (∀ x ∈ l0, (Lit.int .u8 x).wf = true) → ∃ k, credenzalaw18_BlobParses.f k l0 = some true
theorem credenzalaw18_BlobParses.walk (P : credenzalaw18_BlobParses.Pure) (a0 : Option Addr) (len0 cap0 : Nat) (z0 : List Int) (w : World) (w0 : (a0 = none ∧ len0 = 0 ∧ cap0 = 0 ∧ z0 = []) ∨ ∃ x, a0 = some x ∧ len0 ≤ cap0 ∧ cap0 ≤ maxLen ∧ z0.length = cap0 ∧ (∀ i, i < z0.length → w.cell? (x.add i) = some (.int .u8 (z0.getD i 0))) ∧ ∀ n ∈ z0, (Lit.int .u8 n).wf = true) (y0 : len0 * 1 ≤ 140737488351232) :
  Calls Try.prog 9 #[.slice a0 len0 cap0] w fun e w' => e = .returned (.bool true) ∧ Below w.heap.size w w' := by
 obtain ⟨l0, rfl, hr0, hm0, hw0, hc0⟩ := ReadsInt.ofRowC w0
 obtain ⟨k, h⟩ := P l0 hm0 y0 hw0
 refine (credenzalaw18_BlobParses.calls k _ _ l0 true w (Kd.C_of_reads (d := (0 : Int)) (h1 := fun _ => rfl) hr0) hc0 h).mono ?_
 rintro e w' ⟨rfl, hd⟩
 exact ⟨rfl, hd⟩

end Go.Proofs.Ytehepnmagcjkaaa.PBlobParses
