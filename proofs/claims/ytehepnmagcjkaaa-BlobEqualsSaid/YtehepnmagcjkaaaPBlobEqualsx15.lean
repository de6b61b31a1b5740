-- Written by a program of this session (wip/tools/mkprint.py over the kit's print).
import Derived.Test.YtehepnmagcjkaaaPBlobEqualsx0
import Derived.Test.YtehepnmagcjkaaaPBlobEqualsx6
import Derived.Test.YtehepnmagcjkaaaPBlobEqualsx8
import Derived.Test.YtehepnmagcjkaaaPBlobEqualsx10
import Derived.Test.YtehepnmagcjkaaaPBlobEqualsx11
import Derived.Test.YtehepnmagcjkaaaPBlobEqualsx12
import Derived.Test.YtehepnmagcjkaaaPBlobEqualsx13
import Derived.Test.YtehepnmagcjkaaaPBlobEqualsx14
namespace Go.Proofs.Ytehepnmagcjkaaa.PBlobEquals
open Go.RowKit Go.Proofs.YtehepnmagcjkaaaW.PrintWords Go.Proofs.YtehepnmagcjkaaaW.PrintLast Go.Proofs.YtehepnmagcjkaaaW.PrintMore
attribute [local go_sem] max2_int min2_int max_two min_two max_three min_three max_four min_four   -- for this text's walks alone
set_option linter.unusedVariables false
set_option linter.unusedSimpArgs false

/-! ### credenzalaw18_BlobEquals: function 10 -/
/-- What a blob's rows are, at a world. -/
def BlobC (w : World) (A0_6 : Option Addr) (c0_6 : Nat) (l0_6 : List S115) (A0_9 : Option Addr) (c0_9 : Nat) (l0_9 : List Int) (A0_10 : Option Addr) (c0_10 : Nat) (l0_10 : List S120) (A0_11 : Option Addr) (c0_11 : Nat) (l0_11 : List Int) (A0_14 : Option Addr) (c0_14 : Nat) (l0_14 : List Int) : Prop := Kd.C k115 w A0_6 l0_6.length l0_6 ∧ l0_6.length ≤ c0_6 ∧ Kd.C (Kd.int .i32) w A0_9 l0_9.length l0_9 ∧ l0_9.length ≤ c0_9 ∧ Kd.C k120 w A0_10 l0_10.length l0_10 ∧ l0_10.length ≤ c0_10 ∧ Kd.C (Kd.int .i32) w A0_11 l0_11.length l0_11 ∧ l0_11.length ≤ c0_11 ∧ Kd.C (Kd.int .i32) w A0_14 l0_14.length l0_14 ∧ l0_14.length ≤ c0_14
theorem BlobC.below {W W' : World} {A0_6 : Option Addr} {c0_6 : Nat} {l0_6 : List S115} {A0_9 : Option Addr} {c0_9 : Nat} {l0_9 : List Int} {A0_10 : Option Addr} {c0_10 : Nat} {l0_10 : List S120} {A0_11 : Option Addr} {c0_11 : Nat} {l0_11 : List Int} {A0_14 : Option Addr} {c0_14 : Nat} {l0_14 : List Int} (h : BlobC W A0_6 c0_6 l0_6 A0_9 c0_9 l0_9 A0_10 c0_10 l0_10 A0_11 c0_11 l0_11 A0_14 c0_14 l0_14) (hb : Below W.heap.size W W') : BlobC W' A0_6 c0_6 l0_6 A0_9 c0_9 l0_9 A0_10 c0_10 l0_10 A0_11 c0_11 l0_11 A0_14 c0_14 l0_14 := ⟨Kd.C_below h.1 hb, h.2.1, Kd.C_below h.2.2.1 hb, h.2.2.2.1, Kd.C_below h.2.2.2.2.1 hb, h.2.2.2.2.2.1, Kd.C_below h.2.2.2.2.2.2.1 hb, h.2.2.2.2.2.2.2.1, Kd.C_below h.2.2.2.2.2.2.2.2.1 hb, h.2.2.2.2.2.2.2.2.2⟩
/-- The reference's rows. -/
def RefC (w : World) (AT : Option Addr) (cT : Nat) (T : List Int) (AP : Option Addr) (cP : Nat) (P : List S111) : Prop := Kd.C (Kd.int .i32) w AT T.length T ∧ T.length ≤ cT ∧ Kd.C k111 w AP P.length P ∧ P.length ≤ cP
theorem RefC.below {W W' : World} {AT AP : Option Addr} {cT cP : Nat} {T : List Int} {P : List S111} (h : RefC W AT cT T AP cP P) (hb : Below W.heap.size W W') : RefC W' AT cT T AP cP P := ⟨Kd.C_below h.1 hb, h.2.1, Kd.C_below h.2.2.1 hb, h.2.2.2⟩
theorem cSmall (a0_0 : Int) (a0_1 : Int) (a0_2 : Int) (a0_3 : Int) (a0_4 : Int) (a0_5 : Int) (A0_6 : Option Addr) (c0_6 : Nat) (l0_6 : List S115) (a0_7 : Int) (a0_8 : Int) (A0_9 : Option Addr) (c0_9 : Nat) (l0_9 : List Int) (A0_10 : Option Addr) (c0_10 : Nat) (l0_10 : List S120) (A0_11 : Option Addr) (c0_11 : Nat) (l0_11 : List Int) (a0_12 : Int) (a0_13 : Int) (A0_14 : Option Addr) (c0_14 : Nat) (l0_14 : List Int) (r : Bool) (w : World) (hq : BlobC w A0_6 c0_6 l0_6 A0_9 c0_9 l0_9 A0_10 c0_10 l0_10 A0_11 c0_11 l0_11 A0_14 c0_14 l0_14) (hbd : l0_6.length ≤ 17592186043904 ∧ l0_10.length ≤ 430000000000) (h : smallB l0_6.length l0_10.length (refP a0_7 a0_8 l0_9 l0_10 l0_11 a0_12 a0_13 l0_14) = r) :
  Calls Try.prog 29 #[.agg #[.int .i64 a0_0, .int .i64 a0_1, .int .i64 a0_2, .int .i64 a0_3, .int .i64 a0_4, .int .i64 a0_5, .slice A0_6 l0_6.length c0_6, .int .i64 a0_7, .int .i64 a0_8, .slice A0_9 l0_9.length c0_9, .slice A0_10 l0_10.length c0_10, .slice A0_11 l0_11.length c0_11, .int .i64 a0_12, .int .i64 a0_13, .slice A0_14 l0_14.length c0_14]] w fun e w' => e = .returned (.bool r) ∧ Below w.heap.size w w' := by
 subst h
 exact bsmall.calls a0_0 a0_1 a0_2 a0_3 a0_4 a0_5 A0_6 c0_6 l0_6 a0_7 a0_8 A0_9 c0_9 l0_9 A0_10 c0_10 l0_10 A0_11 c0_11 l0_11 a0_12 a0_13 A0_14 c0_14 l0_14 w hq.1 hq.2.1 hq.2.2.1 hq.2.2.2.1 hq.2.2.2.2.1 hq.2.2.2.2.2.1 hq.2.2.2.2.2.2.1 hq.2.2.2.2.2.2.2.1 hq.2.2.2.2.2.2.2.2.1 hq.2.2.2.2.2.2.2.2.2 hbd.1 hbd.2
theorem cRef (a0_0 : Int) (a0_1 : Int) (a0_2 : Int) (a0_3 : Int) (a0_4 : Int) (a0_5 : Int) (A0_6 : Option Addr) (c0_6 : Nat) (l0_6 : List S115) (a0_7 : Int) (a0_8 : Int) (A0_9 : Option Addr) (c0_9 : Nat) (l0_9 : List Int) (A0_10 : Option Addr) (c0_10 : Nat) (l0_10 : List S120) (A0_11 : Option Addr) (c0_11 : Nat) (l0_11 : List Int) (a0_12 : Int) (a0_13 : Int) (A0_14 : Option Addr) (c0_14 : Nat) (l0_14 : List Int) (T : List Int) (P : List S111) (w : World) (hq : BlobC w A0_6 c0_6 l0_6 A0_9 c0_9 l0_9 A0_10 c0_10 l0_10 A0_11 c0_11 l0_11 A0_14 c0_14 l0_14) (hbd : l0_6.length ≤ 17592186043904 ∧ l0_10.length ≤ 430000000000) (hT : refT l0_6 = T) (hP : refP a0_7 a0_8 l0_9 l0_10 l0_11 a0_12 a0_13 l0_14 = P) :
  Calls Try.prog 32 #[.agg #[.int .i64 a0_0, .int .i64 a0_1, .int .i64 a0_2, .int .i64 a0_3, .int .i64 a0_4, .int .i64 a0_5, .slice A0_6 l0_6.length c0_6, .int .i64 a0_7, .int .i64 a0_8, .slice A0_9 l0_9.length c0_9, .slice A0_10 l0_10.length c0_10, .slice A0_11 l0_11.length c0_11, .int .i64 a0_12, .int .i64 a0_13, .slice A0_14 l0_14.length c0_14]] w fun e w' => ∃ AT cT AP cP, e = .returned (.agg #[.int .i64 a0_0, .int .i64 a0_1, .int .i64 a0_2, .int .i64 a0_3, .int .i64 a0_4, .int .i64 a0_5, .int .i64 (l0_10.length : Int), .slice AT T.length cT, .slice AP P.length cP]) ∧ RefC w' AT cT T AP cP P ∧ Below w.heap.size w w' := by
 subst hT
 subst hP
 refine (bref.calls a0_0 a0_1 a0_2 a0_3 a0_4 a0_5 A0_6 c0_6 l0_6 a0_7 a0_8 A0_9 c0_9 l0_9 A0_10 c0_10 l0_10 A0_11 c0_11 l0_11 a0_12 a0_13 A0_14 c0_14 l0_14 w hq.1 hq.2.1 hq.2.2.1 hq.2.2.2.1 hq.2.2.2.2.1 hq.2.2.2.2.2.1 hq.2.2.2.2.2.2.1 hq.2.2.2.2.2.2.2.1 hq.2.2.2.2.2.2.2.2.1 hq.2.2.2.2.2.2.2.2.2 hbd.1 hbd.2).mono ?_
 rintro e w' ⟨AT, cT, AP, cP, rows, rfl, ht, hp, hrw, hb⟩
 exact ⟨AT, cT, AP, cP, rfl, ⟨(Kd.R_reads' ht).2.2, (Kd.R_reads' ht).2.1, (RowsP.reads hp hrw hb).1, (RowsP.reads hp hrw hb).2.2⟩, hb⟩
theorem cBytes (k : Nat) (a0_0 : Int) (a0_1 : Int) (a0_2 : Int) (a0_3 : Int) (a0_4 : Int) (a0_5 : Int) (A0_6 : Option Addr) (c0_6 : Nat) (l0_6 : List S115) (a0_7 : Int) (a0_8 : Int) (A0_9 : Option Addr) (c0_9 : Nat) (l0_9 : List Int) (A0_10 : Option Addr) (c0_10 : Nat) (l0_10 : List S120) (A0_11 : Option Addr) (c0_11 : Nat) (l0_11 : List Int) (a0_12 : Int) (a0_13 : Int) (A0_14 : Option Addr) (c0_14 : Nat) (l0_14 : List Int) (s : List Int) (x : Int) (w : World) (hq : BlobC w A0_6 c0_6 l0_6 A0_9 c0_9 l0_9 A0_10 c0_10 l0_10 A0_11 c0_11 l0_11 A0_14 c0_14 l0_14) (h : blob_Bytes.f k a0_0 a0_1 a0_2 a0_3 a0_4 a0_5 l0_6 a0_7 a0_8 l0_9 l0_10 l0_11 a0_12 a0_13 l0_14 = some (s, x)) :
  Calls Try.prog 30 #[.agg #[.int .i64 a0_0, .int .i64 a0_1, .int .i64 a0_2, .int .i64 a0_3, .int .i64 a0_4, .int .i64 a0_5, .slice A0_6 l0_6.length c0_6, .int .i64 a0_7, .int .i64 a0_8, .slice A0_9 l0_9.length c0_9, .slice A0_10 l0_10.length c0_10, .slice A0_11 l0_11.length c0_11, .int .i64 a0_12, .int .i64 a0_13, .slice A0_14 l0_14.length c0_14]] w fun e w' => ∃ A c, e = .returned (.tuple #[.slice A s.length c, .int .i64 x]) ∧ Kd.R (Kd.int .u8) 5 w' w.heap.size (fun _ => True) (.slice A s.length c) s ∧ Below w.heap.size w w' := by
 refine (blob_Bytes.calls k a0_0 a0_1 a0_2 a0_3 a0_4 a0_5 A0_6 c0_6 l0_6 a0_7 a0_8 A0_9 c0_9 l0_9 A0_10 c0_10 l0_10 A0_11 c0_11 l0_11 a0_12 a0_13 A0_14 c0_14 l0_14 s x w hq.1 hq.2.1 hq.2.2.1 hq.2.2.2.1 hq.2.2.2.2.1 hq.2.2.2.2.2.1 hq.2.2.2.2.2.2.1 hq.2.2.2.2.2.2.2.1 hq.2.2.2.2.2.2.2.2.1 hq.2.2.2.2.2.2.2.2.2 h).mono ?_
 rintro e w' ⟨v, rfl, hr, hb⟩
 obtain ⟨A, c, rfl⟩ := Kd.R_slice hr
 exact ⟨A, c, rfl, hr, hb⟩
theorem cRight (k : Nat) (a0_0 : Int) (a0_1 : Int) (a0_2 : Int) (a0_3 : Int) (a0_4 : Int) (a0_5 : Int) (A0_6 : Option Addr) (c0_6 : Nat) (l0_6 : List S115) (a0_7 : Int) (a0_8 : Int) (A0_9 : Option Addr) (c0_9 : Nat) (l0_9 : List Int) (A0_10 : Option Addr) (c0_10 : Nat) (l0_10 : List S120) (A0_11 : Option Addr) (c0_11 : Nat) (l0_11 : List Int) (a0_12 : Int) (a0_13 : Int) (A0_14 : Option Addr) (c0_14 : Nat) (l0_14 : List Int) (r : Int) (w : World) (hq : BlobC w A0_6 c0_6 l0_6 A0_9 c0_9 l0_9 A0_10 c0_10 l0_10 A0_11 c0_11 l0_11 A0_14 c0_14 l0_14) (h : blob_Right.f k a0_0 a0_1 a0_2 a0_3 a0_4 a0_5 l0_6 a0_7 a0_8 l0_9 l0_10 l0_11 a0_12 a0_13 l0_14 = some r) :
  Calls Try.prog 33 #[.agg #[.int .i64 a0_0, .int .i64 a0_1, .int .i64 a0_2, .int .i64 a0_3, .int .i64 a0_4, .int .i64 a0_5, .slice A0_6 l0_6.length c0_6, .int .i64 a0_7, .int .i64 a0_8, .slice A0_9 l0_9.length c0_9, .slice A0_10 l0_10.length c0_10, .slice A0_11 l0_11.length c0_11, .int .i64 a0_12, .int .i64 a0_13, .slice A0_14 l0_14.length c0_14]] w fun e w' => e = .returned (.int .i64 r) ∧ Below w.heap.size w w' := blob_Right.calls k a0_0 a0_1 a0_2 a0_3 a0_4 a0_5 A0_6 c0_6 l0_6 a0_7 a0_8 A0_9 c0_9 l0_9 A0_10 c0_10 l0_10 A0_11 c0_11 l0_11 a0_12 a0_13 A0_14 c0_14 l0_14 r w hq.1 hq.2.1 hq.2.2.1 hq.2.2.2.1 hq.2.2.2.2.1 hq.2.2.2.2.2.1 hq.2.2.2.2.2.2.1 hq.2.2.2.2.2.2.2.1 hq.2.2.2.2.2.2.2.2.1 hq.2.2.2.2.2.2.2.2.2 h
theorem cEqual (k : Nat) (a0_0 : Int) (a0_1 : Int) (a0_2 : Int) (a0_3 : Int) (a0_4 : Int) (a0_5 : Int) (A0_6 : Option Addr) (c0_6 : Nat) (l0_6 : List S115) (a0_7 : Int) (a0_8 : Int) (A0_9 : Option Addr) (c0_9 : Nat) (l0_9 : List Int) (A0_10 : Option Addr) (c0_10 : Nat) (l0_10 : List S120) (A0_11 : Option Addr) (c0_11 : Nat) (l0_11 : List Int) (a0_12 : Int) (a0_13 : Int) (A0_14 : Option Addr) (c0_14 : Nat) (l0_14 : List Int) (a1_0 : Int) (a1_1 : Int) (a1_2 : Int) (a1_3 : Int) (a1_4 : Int) (a1_5 : Int) (A1_6 : Option Addr) (c1_6 : Nat) (l1_6 : List S115) (a1_7 : Int) (a1_8 : Int) (A1_9 : Option Addr) (c1_9 : Nat) (l1_9 : List Int) (A1_10 : Option Addr) (c1_10 : Nat) (l1_10 : List S120) (A1_11 : Option Addr) (c1_11 : Nat) (l1_11 : List Int) (a1_12 : Int) (a1_13 : Int) (A1_14 : Option Addr) (c1_14 : Nat) (l1_14 : List Int) (r : Bool) (w : World) (hq : BlobC w A0_6 c0_6 l0_6 A0_9 c0_9 l0_9 A0_10 c0_10 l0_10 A0_11 c0_11 l0_11 A0_14 c0_14 l0_14) (hq1 : BlobC w A1_6 c1_6 l1_6 A1_9 c1_9 l1_9 A1_10 c1_10 l1_10 A1_11 c1_11 l1_11 A1_14 c1_14 l1_14) (h : blob_Equal.f k a0_0 a0_1 a0_2 a0_3 a0_4 a0_5 l0_6 a0_7 a0_8 l0_9 l0_10 l0_11 a0_12 a0_13 l0_14 a1_0 a1_1 a1_2 a1_3 a1_4 a1_5 l1_6 a1_7 a1_8 l1_9 l1_10 l1_11 a1_12 a1_13 l1_14 = some r) :
  Calls Try.prog 36 #[.agg #[.int .i64 a0_0, .int .i64 a0_1, .int .i64 a0_2, .int .i64 a0_3, .int .i64 a0_4, .int .i64 a0_5, .slice A0_6 l0_6.length c0_6, .int .i64 a0_7, .int .i64 a0_8, .slice A0_9 l0_9.length c0_9, .slice A0_10 l0_10.length c0_10, .slice A0_11 l0_11.length c0_11, .int .i64 a0_12, .int .i64 a0_13, .slice A0_14 l0_14.length c0_14], .agg #[.int .i64 a1_0, .int .i64 a1_1, .int .i64 a1_2, .int .i64 a1_3, .int .i64 a1_4, .int .i64 a1_5, .slice A1_6 l1_6.length c1_6, .int .i64 a1_7, .int .i64 a1_8, .slice A1_9 l1_9.length c1_9, .slice A1_10 l1_10.length c1_10, .slice A1_11 l1_11.length c1_11, .int .i64 a1_12, .int .i64 a1_13, .slice A1_14 l1_14.length c1_14]] w fun e w' => e = .returned (.bool r) ∧ Below w.heap.size w w' := blob_Equal.calls k a0_0 a0_1 a0_2 a0_3 a0_4 a0_5 A0_6 c0_6 l0_6 a0_7 a0_8 A0_9 c0_9 l0_9 A0_10 c0_10 l0_10 A0_11 c0_11 l0_11 a0_12 a0_13 A0_14 c0_14 l0_14 a1_0 a1_1 a1_2 a1_3 a1_4 a1_5 A1_6 c1_6 l1_6 a1_7 a1_8 A1_9 c1_9 l1_9 A1_10 c1_10 l1_10 A1_11 c1_11 l1_11 a1_12 a1_13 A1_14 c1_14 l1_14 r w hq.1 hq.2.1 hq.2.2.1 hq.2.2.2.1 hq.2.2.2.2.1 hq.2.2.2.2.2.1 hq.2.2.2.2.2.2.1 hq.2.2.2.2.2.2.2.1 hq.2.2.2.2.2.2.2.2.1 hq.2.2.2.2.2.2.2.2.2 hq1.1 hq1.2.1 hq1.2.2.1 hq1.2.2.2.1 hq1.2.2.2.2.1 hq1.2.2.2.2.2.1 hq1.2.2.2.2.2.2.1 hq1.2.2.2.2.2.2.2.1 hq1.2.2.2.2.2.2.2.2.1 hq1.2.2.2.2.2.2.2.2.2 h
def KeepsFrom (B : Nat) (w w' : World) : Prop := ∀ k, B ≤ k → k < w.heap.size → w'.heap[k]? = w.heap[k]?
theorem R_from {α : Type} {d : Kd α} {e B : Nat} {W W' : World} {ok : Nat → Prop} {v : Value} {xs : List α} (h : d.R e W B ok v xs) (hk : KeepsFrom B W W') : d.R e W' B ok v xs :=
 Kd.R_mono (Kd.R_step (Kd.R_bound h) (fun k hk1 _ => by
  obtain ⟨h1, h2, h3, q, hq, cs, hc⟩ := hk1
  exact hk k h2 h3)) (fun k hk1 => hk1.1)
theorem cParse (k : Nat) (A0 : Option Addr) (c0 : Nat) (l0 : List Int) (a1_0 : Int) (a1_1 : Int) (a1_2 : Int) (a1_3 : Int) (a1_4 : Int) (a1_5 : Int) (l1_6 : List S115) (a1_7 : Int) (a1_8 : Int) (l1_9 : List Int) (l1_10 : List S120) (l1_11 : List Int) (a1_12 : Int) (a1_13 : Int) (l1_14 : List Int) (x : Int) (w : World) (hr0 : Kd.C (Kd.int .u8) w A0 l0.length l0) (hc0 : l0.length ≤ c0) (h : blob_Parse.f k l0 = some (a1_0, a1_1, a1_2, a1_3, a1_4, a1_5, l1_6, a1_7, a1_8, l1_9, l1_10, l1_11, a1_12, a1_13, l1_14, x)) :
  Calls Try.prog 34 #[.slice A0 l0.length c0] w fun e w' => ∃ A1_6 c1_6 A1_9 c1_9 A1_10 c1_10 A1_11 c1_11 A1_14 c1_14, e = .returned (.tuple #[.agg #[.int .i64 a1_0, .int .i64 a1_1, .int .i64 a1_2, .int .i64 a1_3, .int .i64 a1_4, .int .i64 a1_5, .slice A1_6 l1_6.length c1_6, .int .i64 a1_7, .int .i64 a1_8, .slice A1_9 l1_9.length c1_9, .slice A1_10 l1_10.length c1_10, .slice A1_11 l1_11.length c1_11, .int .i64 a1_12, .int .i64 a1_13, .slice A1_14 l1_14.length c1_14], .int .i64 x]) ∧ (∀ W', KeepsFrom w.heap.size w' W' → BlobC W' A1_6 c1_6 l1_6 A1_9 c1_9 l1_9 A1_10 c1_10 l1_10 A1_11 c1_11 l1_11 A1_14 c1_14 l1_14) ∧ Below w.heap.size w w' := by
 refine (blob_Parse.calls k A0 c0 l0 a1_0 a1_1 a1_2 a1_3 a1_4 a1_5 l1_6 a1_7 a1_8 l1_9 l1_10 l1_11 a1_12 a1_13 l1_14 x w hr0 hc0 h).mono ?_
 rintro e w' ⟨v6, v9, v10, v11, v14, rfl, h6, h9, h10, h11, h14, hb⟩
 have h10 := Kd.S_R h10
 obtain ⟨A1_6, c1_6, rfl⟩ := Kd.R_slice h6
 obtain ⟨A1_9, c1_9, rfl⟩ := Kd.R_slice h9
 obtain ⟨A1_10, c1_10, rfl⟩ := Kd.R_slice h10
 obtain ⟨A1_11, c1_11, rfl⟩ := Kd.R_slice h11
 obtain ⟨A1_14, c1_14, rfl⟩ := Kd.R_slice h14
 refine ⟨A1_6, c1_6, A1_9, c1_9, A1_10, c1_10, A1_11, c1_11, A1_14, c1_14, rfl, fun W' hk => ?_, hb⟩
 have g6 := Kd.R_reads' (R_from h6 hk)
 have g9 := Kd.R_reads' (R_from h9 hk)
 have g10 := Kd.R_reads' (R_from h10 hk)
 have g11 := Kd.R_reads' (R_from h11 hk)
 have g14 := Kd.R_reads' (R_from h14 hk)
 exact ⟨g6.2.2, g6.2.1, g9.2.2, g9.2.1, g10.2.2, g10.2.1, g11.2.2, g11.2.1, g14.2.2, g14.2.1⟩
theorem exec_load {P : Program} {W : World} {o : Oper} {a : Act} (ty : TypeId) (x : Operand) (ho : o.op = .load ty x) (ad : Addr) (hx : a.eval x = .pointer (some ad)) (vs : List Value) (hc : ∀ j v, vs[j]? = some v → W.cell? (ad.add j) = some v) (d : TypeDesc) (hu : P.underlying ty = some d) (hd : (match d with | .struct _ | .array _ _ => true | _ => false) = true) (hi : (P.info? ty).map (·.size) = some vs.length) : (execOp a.eval o).run P W = .ok (.value (.agg vs.toArray)) W := by
 unfold execOp
 simp only [ho, hx, Instr.loadAt, Instr.sureAddr, Sem.run_bind, Sem.run_pure, Result.andThen_ok, run_loadVar_at W ad ty vs d hc hu hd hi]
def AtC (w : World) (g : Nat) (vs : List Value) : Prop := ∀ j v, vs[j]? = some v → w.cell? ((⟨g, 0, none⟩ : Addr).add j) = some v
theorem R_block {W : World} {B g n c : Nat} {xs : List Int} {ok : Nat → Prop} (h : (Kd.int .u8).R 5 W B ok (.slice (some ⟨g, 0, none⟩) n c) xs) : B ≤ g ∧ ∃ cs, W.heap[g]? = some (.cells cs 5 (0, 0)) := by
 rcases (Kd.own_of_R h).2 with ⟨hv, _⟩ | ⟨g', cap, cur, hv, hg, hh, _⟩
 ·
  cases hv
 ·
  injection hv with h1 _ _
  injection h1 with h1
  injection h1 with h1 _ _
  subst h1
  exact ⟨hg, cur, hh⟩
theorem row_lt {W : World} {B n c : Nat} {A : Option Addr} {xs : List Int} {ok : Nat → Prop} (h : (Kd.int .u8).R 5 W B ok (.slice A n c) xs) (g : Nat) (hA : A = some ⟨g, 0, none⟩) : g < W.heap.size := by
 subst hA
 obtain ⟨_, cs, hc⟩ := R_block h
 exact blk_lt hc
theorem row_g {W : World} {B c : Nat} {A : Option Addr} {xs : List Int} {ok : Nat → Prop} (h : (Kd.int .u8).R 5 W B ok (.slice A xs.length c) xs) : ∃ g, 0 < xs.length → A = some ⟨g, 0, none⟩ := by
 rcases (Kd.own_of_R h).2 with ⟨hv, hn⟩ | ⟨g', cap, cur, hv, _⟩
 ·
  exact ⟨0, fun h0 => by omega⟩
 ·
  injection hv with h1 _ _
  exact ⟨g', fun _ => h1⟩
theorem BlobC_nil (w : World) : BlobC w none 0 [] none 0 [] none 0 [] none 0 [] none 0 [] := ⟨Kd.C_nil _ _, Nat.le_refl _, Kd.C_nil _ _, Nat.le_refl _, Kd.C_nil _ _, Nat.le_refl _, Kd.C_nil _ _, Nat.le_refl _, Kd.C_nil _ _, Nat.le_refl _⟩
theorem cSame18 (k : Nat) (a0_0 a0_1 a0_2 a0_3 a0_4 a0_5 a0_6 : Int) (AT : Option Addr) (cT : Nat) (T : List Int) (AP : Option Addr) (cP : Nat) (P : List S111) (a1_0 a1_1 a1_2 a1_3 a1_4 a1_5 a1_6 : Int) (BT : Option Addr) (dT : Nat) (U : List Int) (BP : Option Addr) (dP : Nat) (Q : List S111) (r : Bool) (w : World) (hq : RefC w AT cT T AP cP P) (hq1 : RefC w BT dT U BP dP Q) (h : credenzaref18_Same.f k a0_0 a0_1 a0_2 a0_3 a0_4 a0_5 a0_6 T P a1_0 a1_1 a1_2 a1_3 a1_4 a1_5 a1_6 U Q = some r) :
  Calls Try.prog 37 #[.agg #[.int .i64 a0_0, .int .i64 a0_1, .int .i64 a0_2, .int .i64 a0_3, .int .i64 a0_4, .int .i64 a0_5, .int .i64 a0_6, .slice AT T.length cT, .slice AP P.length cP], .agg #[.int .i64 a1_0, .int .i64 a1_1, .int .i64 a1_2, .int .i64 a1_3, .int .i64 a1_4, .int .i64 a1_5, .int .i64 a1_6, .slice BT U.length dT, .slice BP Q.length dP]] w fun e w' => e = .returned (.bool r) ∧ Below w.heap.size w w' := credenzaref18_Same.calls k a0_0 a0_1 a0_2 a0_3 a0_4 a0_5 a0_6 AT cT T AP cP P a1_0 a1_1 a1_2 a1_3 a1_4 a1_5 a1_6 BT dT U BP dP Q r w hq.1 hq.2.1 hq.2.2.1 hq.2.2.2 hq1.1 hq1.2.1 hq1.2.2.1 hq1.2.2.2 h
def BlobEquals_ok (k : Nat) (a0_0 : Int) (a0_1 : Int) (a0_2 : Int) (a0_3 : Int) (a0_4 : Int) (a0_5 : Int) (l0_6 : List S115) (a0_7 : Int) (a0_8 : Int) (l0_9 : List Int) (l0_10 : List S120) (l0_11 : List Int) (a0_12 : Int) (a0_13 : Int) (l0_14 : List Int) (a1_0 : Int) (a1_1 : Int) (a1_2 : Int) (a1_3 : Int) (a1_4 : Int) (a1_5 : Int) (l1_6 : List S115) (a1_7 : Int) (a1_8 : Int) (l1_9 : List Int) (l1_10 : List S120) (l1_11 : List Int) (a1_12 : Int) (a1_13 : Int) (l1_14 : List Int) : Prop :=
 (l0_6.length ≤ 17592186043904 ∧ l0_10.length ≤ 430000000000) ∧ (l1_6.length ≤ 17592186043904 ∧ l1_10.length ≤ 430000000000) ∧ credenzalaw18_awake.f k = some true ∧
 (smallB l0_6.length l0_10.length (refP a0_7 a0_8 l0_9 l0_10 l0_11 a0_12 a0_13 l0_14) = true → smallB l1_6.length l1_10.length (refP a1_7 a1_8 l1_9 l1_10 l1_11 a1_12 a1_13 l1_14) = true → ∃ q : Bool, blob_Equal.f k a0_0 a0_1 a0_2 a0_3 a0_4 a0_5 l0_6 a0_7 a0_8 l0_9 l0_10 l0_11 a0_12 a0_13 l0_14 a1_0 a1_1 a1_2 a1_3 a1_4 a1_5 l1_6 a1_7 a1_8 l1_9 l1_10 l1_11 a1_12 a1_13 l1_14 = some q ∧ credenzaref18_Same.f k a0_0 a0_1 a0_2 a0_3 a0_4 a0_5 (l0_10.length : Int) (refT l0_6) (refP a0_7 a0_8 l0_9 l0_10 l0_11 a0_12 a0_13 l0_14) a1_0 a1_1 a1_2 a1_3 a1_4 a1_5 (l1_10.length : Int) (refT l1_6) (refP a1_7 a1_8 l1_9 l1_10 l1_11 a1_12 a1_13 l1_14) = some q ∧ blob_Equal.f k a1_0 a1_1 a1_2 a1_3 a1_4 a1_5 l1_6 a1_7 a1_8 l1_9 l1_10 l1_11 a1_12 a1_13 l1_14 a0_0 a0_1 a0_2 a0_3 a0_4 a0_5 l0_6 a0_7 a0_8 l0_9 l0_10 l0_11 a0_12 a0_13 l0_14 = some q ∧ blob_Equal.f k a0_0 a0_1 a0_2 a0_3 a0_4 a0_5 l0_6 a0_7 a0_8 l0_9 l0_10 l0_11 a0_12 a0_13 l0_14 a0_0 a0_1 a0_2 a0_3 a0_4 a0_5 l0_6 a0_7 a0_8 l0_9 l0_10 l0_11 a0_12 a0_13 l0_14 = some true ∧ ∃ (s : List Int) (e : Int), blob_Bytes.f k a0_0 a0_1 a0_2 a0_3 a0_4 a0_5 l0_6 a0_7 a0_8 l0_9 l0_10 l0_11 a0_12 a0_13 l0_14 = some (s, e) ∧
  (e = 0 → s.length ≤ 1000000 ∧ ∃ (a2_0 : Int) (a2_1 : Int) (a2_2 : Int) (a2_3 : Int) (a2_4 : Int) (a2_5 : Int) (l2_6 : List S115) (a2_7 : Int) (a2_8 : Int) (l2_9 : List Int) (l2_10 : List S120) (l2_11 : List Int) (a2_12 : Int) (a2_13 : Int) (l2_14 : List Int), blob_Parse.f k s = some (a2_0, a2_1, a2_2, a2_3, a2_4, a2_5, l2_6, a2_7, a2_8, l2_9, l2_10, l2_11, a2_12, a2_13, l2_14, 0) ∧ blob_Equal.f k a0_0 a0_1 a0_2 a0_3 a0_4 a0_5 l0_6 a0_7 a0_8 l0_9 l0_10 l0_11 a0_12 a0_13 l0_14 a2_0 a2_1 a2_2 a2_3 a2_4 a2_5 l2_6 a2_7 a2_8 l2_9 l2_10 l2_11 a2_12 a2_13 l2_14 = some true))
theorem BlobEquals_ok.mono {k : Nat} {a0_0 : Int} {a0_1 : Int} {a0_2 : Int} {a0_3 : Int} {a0_4 : Int} {a0_5 : Int} {l0_6 : List S115} {a0_7 : Int} {a0_8 : Int} {l0_9 : List Int} {l0_10 : List S120} {l0_11 : List Int} {a0_12 : Int} {a0_13 : Int} {l0_14 : List Int} {a1_0 : Int} {a1_1 : Int} {a1_2 : Int} {a1_3 : Int} {a1_4 : Int} {a1_5 : Int} {l1_6 : List S115} {a1_7 : Int} {a1_8 : Int} {l1_9 : List Int} {l1_10 : List S120} {l1_11 : List Int} {a1_12 : Int} {a1_13 : Int} {l1_14 : List Int} (h : BlobEquals_ok k a0_0 a0_1 a0_2 a0_3 a0_4 a0_5 l0_6 a0_7 a0_8 l0_9 l0_10 l0_11 a0_12 a0_13 l0_14 a1_0 a1_1 a1_2 a1_3 a1_4 a1_5 l1_6 a1_7 a1_8 l1_9 l1_10 l1_11 a1_12 a1_13 l1_14) : BlobEquals_ok (k + 1) a0_0 a0_1 a0_2 a0_3 a0_4 a0_5 l0_6 a0_7 a0_8 l0_9 l0_10 l0_11 a0_12 a0_13 l0_14 a1_0 a1_1 a1_2 a1_3 a1_4 a1_5 l1_6 a1_7 a1_8 l1_9 l1_10 l1_11 a1_12 a1_13 l1_14 := by
 obtain ⟨h1, h1b, h2, h3⟩ := h
 refine ⟨h1, h1b, credenzalaw18_awake.mono _ _ h2, fun hs hs1 => ?_⟩
 obtain ⟨q, g1, g2, g3, g4, s, e, g5, g6⟩ := h3 hs hs1
 refine ⟨q, blob_Equal.mono _ _ _ _ _ _ _ _ _ _ _ _ _ _ _ _ _ _ _ _ _ _ _ _ _ _ _ _ _ _ _ _ g1, credenzaref18_Same.mono _ _ _ _ _ _ _ _ _ _ _ _ _ _ _ _ _ _ _ _ g2, blob_Equal.mono _ _ _ _ _ _ _ _ _ _ _ _ _ _ _ _ _ _ _ _ _ _ _ _ _ _ _ _ _ _ _ _ g3, blob_Equal.mono _ _ _ _ _ _ _ _ _ _ _ _ _ _ _ _ _ _ _ _ _ _ _ _ _ _ _ _ _ _ _ _ g4, s, e, blob_Bytes.mono _ _ _ _ _ _ _ _ _ _ _ _ _ _ _ _ _ g5, fun he => ?_⟩
 obtain ⟨hl, a2_0, a2_1, a2_2, a2_3, a2_4, a2_5, l2_6, a2_7, a2_8, l2_9, l2_10, l2_11, a2_12, a2_13, l2_14, q1, q4⟩ := g6 he
 exact ⟨hl, a2_0, a2_1, a2_2, a2_3, a2_4, a2_5, l2_6, a2_7, a2_8, l2_9, l2_10, l2_11, a2_12, a2_13, l2_14, blob_Parse.mono _ _ _ q1, blob_Equal.mono _ _ _ _ _ _ _ _ _ _ _ _ _ _ _ _ _ _ _ _ _ _ _ _ _ _ _ _ _ _ _ _ q4⟩
open Classical in
noncomputable def credenzalaw18_BlobEquals.f (k : Nat) (a0_0 : Int) (a0_1 : Int) (a0_2 : Int) (a0_3 : Int) (a0_4 : Int) (a0_5 : Int) (l0_6 : List S115) (a0_7 : Int) (a0_8 : Int) (l0_9 : List Int) (l0_10 : List S120) (l0_11 : List Int) (a0_12 : Int) (a0_13 : Int) (l0_14 : List Int) (a1_0 : Int) (a1_1 : Int) (a1_2 : Int) (a1_3 : Int) (a1_4 : Int) (a1_5 : Int) (l1_6 : List S115) (a1_7 : Int) (a1_8 : Int) (l1_9 : List Int) (l1_10 : List S120) (l1_11 : List Int) (a1_12 : Int) (a1_13 : Int) (l1_14 : List Int) : Option Bool := if BlobEquals_ok k a0_0 a0_1 a0_2 a0_3 a0_4 a0_5 l0_6 a0_7 a0_8 l0_9 l0_10 l0_11 a0_12 a0_13 l0_14 a1_0 a1_1 a1_2 a1_3 a1_4 a1_5 l1_6 a1_7 a1_8 l1_9 l1_10 l1_11 a1_12 a1_13 l1_14 then some true else none
theorem credenzalaw18_BlobEquals.mono : ∀ a0_0 a0_1 a0_2 a0_3 a0_4 a0_5 l0_6 a0_7 a0_8 l0_9 l0_10 l0_11 a0_12 a0_13 l0_14 a1_0 a1_1 a1_2 a1_3 a1_4 a1_5 l1_6 a1_7 a1_8 l1_9 l1_10 l1_11 a1_12 a1_13 l1_14 k, LeO (credenzalaw18_BlobEquals.f k a0_0 a0_1 a0_2 a0_3 a0_4 a0_5 l0_6 a0_7 a0_8 l0_9 l0_10 l0_11 a0_12 a0_13 l0_14 a1_0 a1_1 a1_2 a1_3 a1_4 a1_5 l1_6 a1_7 a1_8 l1_9 l1_10 l1_11 a1_12 a1_13 l1_14) (credenzalaw18_BlobEquals.f (k + 1) a0_0 a0_1 a0_2 a0_3 a0_4 a0_5 l0_6 a0_7 a0_8 l0_9 l0_10 l0_11 a0_12 a0_13 l0_14 a1_0 a1_1 a1_2 a1_3 a1_4 a1_5 l1_6 a1_7 a1_8 l1_9 l1_10 l1_11 a1_12 a1_13 l1_14) := by
 intro a0_0 a0_1 a0_2 a0_3 a0_4 a0_5 l0_6 a0_7 a0_8 l0_9 l0_10 l0_11 a0_12 a0_13 l0_14 a1_0 a1_1 a1_2 a1_3 a1_4 a1_5 l1_6 a1_7 a1_8 l1_9 l1_10 l1_11 a1_12 a1_13 l1_14 k r h
 unfold credenzalaw18_BlobEquals.f at h ⊢
 split at h
 ·
  next hc => rw [if_pos hc.mono]; exact h
 ·
  cases h
def lwe.T3 : Bool × List (List Nat × List Nat) := (true, [([], []), ([], []), ([0, 1], [0, 1]), ([], []), ([3, 2], [3]), ([], []), ([5, 4], [5]), ([4, 6, 6], [4, 6]), ([2, 7], [2, 7]), ([8, 7], [8]), ([9], [9]), ([9], [9]), ([10, 11, 9, 9], [9, 10, 11]), ([9], [9]), ([9], [9]), ([13, 14, 12, 9], [9, 13, 14]), ([12, 15, 9], [9, 12, 15]), ([9, 16], [9, 16]), ([17, 15], [17]), ([18], [18]), ([18], [18]), ([19, 20, 18, 18], [18, 19, 20]), ([21, 18], [18, 21]), ([18, 22], [18, 22])])
def lwe.B3 : List Nat := [0, 0, 3, 0, 15, 0, 63, 127, 255, 511, 1023, 1023, 4095, 1023, 1023, 32767, 65535, 131071, 262143, 524287, 524287, 2097151, 4194303, 8388607]
theorem lwe.tab3 : rtab .any (opsOf Try.f10 3) = lwe.T3 := by kernel_rfl
theorem lwe.bits3 : waitsOk lwe.T3.2 lwe.B3 = true := by kernel_rfl
set_option maxHeartbeats 8000000 in
set_option maxRecDepth 100000 in
theorem lawEquals.go (k : Nat) (a0_0 : Int) (a0_1 : Int) (a0_2 : Int) (a0_3 : Int) (a0_4 : Int) (a0_5 : Int) (A0_6 : Option Addr) (c0_6 : Nat) (l0_6 : List S115) (a0_7 : Int) (a0_8 : Int) (A0_9 : Option Addr) (c0_9 : Nat) (l0_9 : List Int) (A0_10 : Option Addr) (c0_10 : Nat) (l0_10 : List S120) (A0_11 : Option Addr) (c0_11 : Nat) (l0_11 : List Int) (a0_12 : Int) (a0_13 : Int) (A0_14 : Option Addr) (c0_14 : Nat) (l0_14 : List Int) (a1_0 : Int) (a1_1 : Int) (a1_2 : Int) (a1_3 : Int) (a1_4 : Int) (a1_5 : Int) (A1_6 : Option Addr) (c1_6 : Nat) (l1_6 : List S115) (a1_7 : Int) (a1_8 : Int) (A1_9 : Option Addr) (c1_9 : Nat) (l1_9 : List Int) (A1_10 : Option Addr) (c1_10 : Nat) (l1_10 : List S120) (A1_11 : Option Addr) (c1_11 : Nat) (l1_11 : List Int) (a1_12 : Int) (a1_13 : Int) (A1_14 : Option Addr) (c1_14 : Nat) (l1_14 : List Int) (w : World) (hq : BlobC w A0_6 c0_6 l0_6 A0_9 c0_9 l0_9 A0_10 c0_10 l0_10 A0_11 c0_11 l0_11 A0_14 c0_14 l0_14) (hq1 : BlobC w A1_6 c1_6 l1_6 A1_9 c1_9 l1_9 A1_10 c1_10 l1_10 A1_11 c1_11 l1_11 A1_14 c1_14 l1_14) (h : BlobEquals_ok k a0_0 a0_1 a0_2 a0_3 a0_4 a0_5 l0_6 a0_7 a0_8 l0_9 l0_10 l0_11 a0_12 a0_13 l0_14 a1_0 a1_1 a1_2 a1_3 a1_4 a1_5 l1_6 a1_7 a1_8 l1_9 l1_10 l1_11 a1_12 a1_13 l1_14) :
  Calls Try.prog 10 #[.agg #[.int .i64 a0_0, .int .i64 a0_1, .int .i64 a0_2, .int .i64 a0_3, .int .i64 a0_4, .int .i64 a0_5, .slice A0_6 l0_6.length c0_6, .int .i64 a0_7, .int .i64 a0_8, .slice A0_9 l0_9.length c0_9, .slice A0_10 l0_10.length c0_10, .slice A0_11 l0_11.length c0_11, .int .i64 a0_12, .int .i64 a0_13, .slice A0_14 l0_14.length c0_14], .agg #[.int .i64 a1_0, .int .i64 a1_1, .int .i64 a1_2, .int .i64 a1_3, .int .i64 a1_4, .int .i64 a1_5, .slice A1_6 l1_6.length c1_6, .int .i64 a1_7, .int .i64 a1_8, .slice A1_9 l1_9.length c1_9, .slice A1_10 l1_10.length c1_10, .slice A1_11 l1_11.length c1_11, .int .i64 a1_12, .int .i64 a1_13, .slice A1_14 l1_14.length c1_14]] w fun e w' => e = .returned (.bool true) ∧ Below w.heap.size w w' := by
 have hu67 := Try.underlying67
 have hu73 := Try.underlying73
 have HB := aM (Below.refl w.heap.size w)
 have HQ := aM hq
 have HQ1 := aM hq1
 obtain ⟨hbd, hbd1, haw, h⟩ := h
 have HBD0 := aM hbd
 have HBD1 := aM hbd1
 have HAW := aM haw
 clear hq hq1 hbd hbd1 haw
 cases hsm : smallB l0_6.length l0_10.length (refP a0_7 a0_8 l0_9 l0_10 l0_11 a0_12 a0_13 l0_14)
 case false =>
  have HSM := aM hsm
  clear hsm h
  go_enter Try.func10, Try.ntmps10
  go_wp2_with (first | ((with_reducible refine gate_dst (N := 2) rfl ?_); refine box_event ?hg (N := 2) ?hd (cs := #[.int .i64 a0_0, .int .i64 a0_1, .int .i64 a0_2, .int .i64 a0_3, .int .i64 a0_4, .int .i64 a0_5, .slice A0_6 l0_6.length c0_6, .int .i64 a0_7, .int .i64 a0_8, .slice A0_9 l0_9.length c0_9, .slice A0_10 l0_10.length c0_10, .slice A0_11 l0_11.length c0_11, .int .i64 a0_12, .int .i64 a0_13, .slice A0_14 l0_14.length c0_14]) (t := 67) ?hr ?_; (case hd => rfl); (case hg => rfl); (case hr => first | (go_simp; done) | (go_simp; rfl)); intro gb hg w1 hbox hb; have BK := aM hbox; replace HB := aM hb; clear hbox hb hg) | ((with_reducible refine gate_dst (N := 3) rfl ?_); refine box_event ?hg (N := 3) ?hd (cs := #[.int .i64 a1_0, .int .i64 a1_1, .int .i64 a1_2, .int .i64 a1_3, .int .i64 a1_4, .int .i64 a1_5, .slice A1_6 l1_6.length c1_6, .int .i64 a1_7, .int .i64 a1_8, .slice A1_9 l1_9.length c1_9, .slice A1_10 l1_10.length c1_10, .slice A1_11 l1_11.length c1_11, .int .i64 a1_12, .int .i64 a1_13, .slice A1_14 l1_14.length c1_14]) (t := 67) ?hr ?_; (case hd => rfl); (case hg => rfl); (case hr => first | (go_simp; done) | (go_simp; rfl)); intro gd hg w1d hbox hb; have BL := aM hbox; replace BK := aM (blk_below BK.out hb); replace HB := aM (below_step HB.out hb); clear hbox hb hg) | ((with_reducible refine gate_dst (N := 10) rfl ?_); (try (refine gate_guard (by rfl) ?_; dsimp only)); refine load_event ?hg (N := 10) ?hd 67 (.tmp 2) rfl ⟨gb, 0, none⟩ ?hx [.int .i64 a0_0, .int .i64 a0_1, .int .i64 a0_2, .int .i64 a0_3, .int .i64 a0_4, .int .i64 a0_5, .slice A0_6 l0_6.length c0_6, .int .i64 a0_7, .int .i64 a0_8, .slice A0_9 l0_9.length c0_9, .slice A0_10 l0_10.length c0_10, .slice A0_11 l0_11.length c0_11, .int .i64 a0_12, .int .i64 a0_13, .slice A0_14 l0_14.length c0_14] (blk_cells (cs := [.int .i64 a0_0, .int .i64 a0_1, .int .i64 a0_2, .int .i64 a0_3, .int .i64 a0_4, .int .i64 a0_5, .slice A0_6 l0_6.length c0_6, .int .i64 a0_7, .int .i64 a0_8, .slice A0_9 l0_9.length c0_9, .slice A0_10 l0_10.length c0_10, .slice A0_11 l0_11.length c0_11, .int .i64 a0_12, .int .i64 a0_13, .slice A0_14 l0_14.length c0_14]) BK.out) _ Try.underlying67 rfl (by kernel_rfl) ?_; (case hg => rfl); (case hd => rfl); (case hx => rfl)) | (go_at_call 29; (with_reducible refine (cSmall a0_0 a0_1 a0_2 a0_3 a0_4 a0_5 A0_6 c0_6 l0_6 a0_7 a0_8 A0_9 c0_9 l0_9 A0_10 c0_10 l0_10 A0_11 c0_11 l0_11 a0_12 a0_13 A0_14 c0_14 l0_14 false _ (HQ.out.below HB.out) HBD0.out HSM.out).mono ?_); rintro e ws ⟨rfl, hb⟩; replace BK := aM (blk_below BK.out hb); replace BL := aM (blk_below BL.out hb); replace HB := aM (below_step HB.out hb); clear hb) | (go_at_call 26; (with_reducible refine (credenzalaw18_awake.calls k true _ HAW.out).mono ?_); rintro e wa ⟨rfl, hb⟩; replace BK := aM (blk_below BK.out hb); replace BL := aM (blk_below BL.out hb); replace HB := aM (below_step HB.out hb); clear hb))
  go_ret
  exact ⟨rfl, HB.out⟩
 case true =>
 cases hsm1 : smallB l1_6.length l1_10.length (refP a1_7 a1_8 l1_9 l1_10 l1_11 a1_12 a1_13 l1_14)
 case false =>
  have HSM := aM hsm
  have HSM1 := aM hsm1
  clear hsm hsm1 h
  go_enter Try.func10, Try.ntmps10
  go_wp2_with (first | ((with_reducible refine gate_dst (N := 2) rfl ?_); refine box_event ?hg (N := 2) ?hd (cs := #[.int .i64 a0_0, .int .i64 a0_1, .int .i64 a0_2, .int .i64 a0_3, .int .i64 a0_4, .int .i64 a0_5, .slice A0_6 l0_6.length c0_6, .int .i64 a0_7, .int .i64 a0_8, .slice A0_9 l0_9.length c0_9, .slice A0_10 l0_10.length c0_10, .slice A0_11 l0_11.length c0_11, .int .i64 a0_12, .int .i64 a0_13, .slice A0_14 l0_14.length c0_14]) (t := 67) ?hr ?_; (case hd => rfl); (case hg => rfl); (case hr => first | (go_simp; done) | (go_simp; rfl)); intro gb hg w1 hbox hb; have BK := aM hbox; replace HB := aM hb; clear hbox hb hg) | ((with_reducible refine gate_dst (N := 3) rfl ?_); refine box_event ?hg (N := 3) ?hd (cs := #[.int .i64 a1_0, .int .i64 a1_1, .int .i64 a1_2, .int .i64 a1_3, .int .i64 a1_4, .int .i64 a1_5, .slice A1_6 l1_6.length c1_6, .int .i64 a1_7, .int .i64 a1_8, .slice A1_9 l1_9.length c1_9, .slice A1_10 l1_10.length c1_10, .slice A1_11 l1_11.length c1_11, .int .i64 a1_12, .int .i64 a1_13, .slice A1_14 l1_14.length c1_14]) (t := 67) ?hr ?_; (case hd => rfl); (case hg => rfl); (case hr => first | (go_simp; done) | (go_simp; rfl)); intro gd hg w1d hbox hb; have BL := aM hbox; replace BK := aM (blk_below BK.out hb); replace HB := aM (below_step HB.out hb); clear hbox hb hg) | ((with_reducible refine gate_dst (N := 10) rfl ?_); (try (refine gate_guard (by rfl) ?_; dsimp only)); refine load_event ?hg (N := 10) ?hd 67 (.tmp 2) rfl ⟨gb, 0, none⟩ ?hx [.int .i64 a0_0, .int .i64 a0_1, .int .i64 a0_2, .int .i64 a0_3, .int .i64 a0_4, .int .i64 a0_5, .slice A0_6 l0_6.length c0_6, .int .i64 a0_7, .int .i64 a0_8, .slice A0_9 l0_9.length c0_9, .slice A0_10 l0_10.length c0_10, .slice A0_11 l0_11.length c0_11, .int .i64 a0_12, .int .i64 a0_13, .slice A0_14 l0_14.length c0_14] (blk_cells (cs := [.int .i64 a0_0, .int .i64 a0_1, .int .i64 a0_2, .int .i64 a0_3, .int .i64 a0_4, .int .i64 a0_5, .slice A0_6 l0_6.length c0_6, .int .i64 a0_7, .int .i64 a0_8, .slice A0_9 l0_9.length c0_9, .slice A0_10 l0_10.length c0_10, .slice A0_11 l0_11.length c0_11, .int .i64 a0_12, .int .i64 a0_13, .slice A0_14 l0_14.length c0_14]) BK.out) _ Try.underlying67 rfl (by kernel_rfl) ?_; (case hg => rfl); (case hd => rfl); (case hx => rfl)) | ((with_reducible refine gate_dst (N := 14) rfl ?_); (try (refine gate_guard (by rfl) ?_; dsimp only)); refine load_event ?hg (N := 14) ?hd 67 (.tmp 3) rfl ⟨gd, 0, none⟩ ?hx [.int .i64 a1_0, .int .i64 a1_1, .int .i64 a1_2, .int .i64 a1_3, .int .i64 a1_4, .int .i64 a1_5, .slice A1_6 l1_6.length c1_6, .int .i64 a1_7, .int .i64 a1_8, .slice A1_9 l1_9.length c1_9, .slice A1_10 l1_10.length c1_10, .slice A1_11 l1_11.length c1_11, .int .i64 a1_12, .int .i64 a1_13, .slice A1_14 l1_14.length c1_14] (blk_cells (cs := [.int .i64 a1_0, .int .i64 a1_1, .int .i64 a1_2, .int .i64 a1_3, .int .i64 a1_4, .int .i64 a1_5, .slice A1_6 l1_6.length c1_6, .int .i64 a1_7, .int .i64 a1_8, .slice A1_9 l1_9.length c1_9, .slice A1_10 l1_10.length c1_10, .slice A1_11 l1_11.length c1_11, .int .i64 a1_12, .int .i64 a1_13, .slice A1_14 l1_14.length c1_14]) BL.out) _ Try.underlying67 rfl (by kernel_rfl) ?_; (case hg => rfl); (case hd => rfl); (case hx => rfl)) | (go_at_call 29; first | (have q_ := HSM.out; clear HSM; (with_reducible refine (cSmall a0_0 a0_1 a0_2 a0_3 a0_4 a0_5 A0_6 c0_6 l0_6 a0_7 a0_8 A0_9 c0_9 l0_9 A0_10 c0_10 l0_10 A0_11 c0_11 l0_11 a0_12 a0_13 A0_14 c0_14 l0_14 true _ (HQ.out.below HB.out) HBD0.out q_).mono ?_); clear q_; rintro e ws ⟨rfl, hb⟩; replace BK := aM (blk_below BK.out hb); replace BL := aM (blk_below BL.out hb); replace HB := aM (below_step HB.out hb); clear hb) | ((with_reducible refine (cSmall a1_0 a1_1 a1_2 a1_3 a1_4 a1_5 A1_6 c1_6 l1_6 a1_7 a1_8 A1_9 c1_9 l1_9 A1_10 c1_10 l1_10 A1_11 c1_11 l1_11 a1_12 a1_13 A1_14 c1_14 l1_14 false _ (HQ1.out.below HB.out) HBD1.out HSM1.out).mono ?_); rintro e ws1 ⟨rfl, hb⟩; replace BK := aM (blk_below BK.out hb); replace BL := aM (blk_below BL.out hb); replace HB := aM (below_step HB.out hb); clear hb)) | (go_at_call 26; (with_reducible refine (credenzalaw18_awake.calls k true _ HAW.out).mono ?_); rintro e wa ⟨rfl, hb⟩; replace BK := aM (blk_below BK.out hb); replace BL := aM (blk_below BL.out hb); replace HB := aM (below_step HB.out hb); clear hb))
  go_ret
  exact ⟨rfl, HB.out⟩
 case true =>
 obtain ⟨q, heq, hsa, heq2, heq3, s, er, hby, h⟩ := h hsm hsm1
 have HSM := aM hsm
 have HSM1 := aM hsm1
 have HBY := aM hby
 have HEQ := aM heq
 have HEQ2 := aM heq2
 have HEQ3 := aM heq3
 obtain ⟨P, hP⟩ : ∃ x_, refP a0_7 a0_8 l0_9 l0_10 l0_11 a0_12 a0_13 l0_14 = x_ := ⟨_, rfl⟩
 obtain ⟨T, hT⟩ : ∃ x_, refT l0_6 = x_ := ⟨_, rfl⟩
 obtain ⟨P1, hP1⟩ : ∃ x_, refP a1_7 a1_8 l1_9 l1_10 l1_11 a1_12 a1_13 l1_14 = x_ := ⟨_, rfl⟩
 obtain ⟨T1, hT1⟩ : ∃ x_, refT l1_6 = x_ := ⟨_, rfl⟩
 rw [hP, hT, hP1, hT1] at hsa
 have HP := aM hP
 have HT := aM hT
 have HP1 := aM hP1
 have HT1 := aM hT1
 have HSA := aM hsa
 clear hsm hsm1 hby heq heq2 heq3 hsa hP hT hP1 hT1
 have hqq : (q != q) = false := by cases q <;> rfl
 go_enter Try.func10, Try.ntmps10
 go_upto_region 3 with (first | ((with_reducible refine gate_dst (N := 2) rfl ?_); refine box_event ?hg (N := 2) ?hd (cs := #[.int .i64 a0_0, .int .i64 a0_1, .int .i64 a0_2, .int .i64 a0_3, .int .i64 a0_4, .int .i64 a0_5, .slice A0_6 l0_6.length c0_6, .int .i64 a0_7, .int .i64 a0_8, .slice A0_9 l0_9.length c0_9, .slice A0_10 l0_10.length c0_10, .slice A0_11 l0_11.length c0_11, .int .i64 a0_12, .int .i64 a0_13, .slice A0_14 l0_14.length c0_14]) (t := 67) ?hr ?_; (case hd => rfl); (case hg => rfl); (case hr => first | (go_simp; done) | (go_simp; rfl)); intro gb hg w1 hbox hb; have BK := aM hbox; replace HB := aM hb; clear hbox hb hg) | ((with_reducible refine gate_dst (N := 3) rfl ?_); refine box_event ?hg (N := 3) ?hd (cs := #[.int .i64 a1_0, .int .i64 a1_1, .int .i64 a1_2, .int .i64 a1_3, .int .i64 a1_4, .int .i64 a1_5, .slice A1_6 l1_6.length c1_6, .int .i64 a1_7, .int .i64 a1_8, .slice A1_9 l1_9.length c1_9, .slice A1_10 l1_10.length c1_10, .slice A1_11 l1_11.length c1_11, .int .i64 a1_12, .int .i64 a1_13, .slice A1_14 l1_14.length c1_14]) (t := 67) ?hr ?_; (case hd => rfl); (case hg => rfl); (case hr => first | (go_simp; done) | (go_simp; rfl)); intro gd hg w1d hbox hb; have BL := aM hbox; replace BK := aM (blk_below BK.out hb); replace HB := aM (below_step HB.out hb); clear hbox hb hg) | ((with_reducible refine gate_dst (N := 10) rfl ?_); (try (refine gate_guard (by rfl) ?_; dsimp only)); refine load_event ?hg (N := 10) ?hd 67 (.tmp 2) rfl ⟨gb, 0, none⟩ ?hx [.int .i64 a0_0, .int .i64 a0_1, .int .i64 a0_2, .int .i64 a0_3, .int .i64 a0_4, .int .i64 a0_5, .slice A0_6 l0_6.length c0_6, .int .i64 a0_7, .int .i64 a0_8, .slice A0_9 l0_9.length c0_9, .slice A0_10 l0_10.length c0_10, .slice A0_11 l0_11.length c0_11, .int .i64 a0_12, .int .i64 a0_13, .slice A0_14 l0_14.length c0_14] (blk_cells (cs := [.int .i64 a0_0, .int .i64 a0_1, .int .i64 a0_2, .int .i64 a0_3, .int .i64 a0_4, .int .i64 a0_5, .slice A0_6 l0_6.length c0_6, .int .i64 a0_7, .int .i64 a0_8, .slice A0_9 l0_9.length c0_9, .slice A0_10 l0_10.length c0_10, .slice A0_11 l0_11.length c0_11, .int .i64 a0_12, .int .i64 a0_13, .slice A0_14 l0_14.length c0_14]) BK.out) _ Try.underlying67 rfl (by kernel_rfl) ?_; (case hg => rfl); (case hd => rfl); (case hx => rfl)) | ((with_reducible refine gate_dst (N := 14) rfl ?_); (try (refine gate_guard (by rfl) ?_; dsimp only)); refine load_event ?hg (N := 14) ?hd 67 (.tmp 3) rfl ⟨gd, 0, none⟩ ?hx [.int .i64 a1_0, .int .i64 a1_1, .int .i64 a1_2, .int .i64 a1_3, .int .i64 a1_4, .int .i64 a1_5, .slice A1_6 l1_6.length c1_6, .int .i64 a1_7, .int .i64 a1_8, .slice A1_9 l1_9.length c1_9, .slice A1_10 l1_10.length c1_10, .slice A1_11 l1_11.length c1_11, .int .i64 a1_12, .int .i64 a1_13, .slice A1_14 l1_14.length c1_14] (blk_cells (cs := [.int .i64 a1_0, .int .i64 a1_1, .int .i64 a1_2, .int .i64 a1_3, .int .i64 a1_4, .int .i64 a1_5, .slice A1_6 l1_6.length c1_6, .int .i64 a1_7, .int .i64 a1_8, .slice A1_9 l1_9.length c1_9, .slice A1_10 l1_10.length c1_10, .slice A1_11 l1_11.length c1_11, .int .i64 a1_12, .int .i64 a1_13, .slice A1_14 l1_14.length c1_14]) BL.out) _ Try.underlying67 rfl (by kernel_rfl) ?_; (case hg => rfl); (case hd => rfl); (case hx => rfl)) | (go_at_call 29; first | (have q_ := HSM.out; clear HSM; (with_reducible refine (cSmall a0_0 a0_1 a0_2 a0_3 a0_4 a0_5 A0_6 c0_6 l0_6 a0_7 a0_8 A0_9 c0_9 l0_9 A0_10 c0_10 l0_10 A0_11 c0_11 l0_11 a0_12 a0_13 A0_14 c0_14 l0_14 true _ (HQ.out.below HB.out) HBD0.out q_).mono ?_); clear q_; rintro e ws ⟨rfl, hb⟩; replace BK := aM (blk_below BK.out hb); replace BL := aM (blk_below BL.out hb); replace HB := aM (below_step HB.out hb); clear hb) | ((with_reducible refine (cSmall a1_0 a1_1 a1_2 a1_3 a1_4 a1_5 A1_6 c1_6 l1_6 a1_7 a1_8 A1_9 c1_9 l1_9 A1_10 c1_10 l1_10 A1_11 c1_11 l1_11 a1_12 a1_13 A1_14 c1_14 l1_14 true _ (HQ1.out.below HB.out) HBD1.out HSM1.out).mono ?_); rintro e ws1 ⟨rfl, hb⟩; replace BK := aM (blk_below BK.out hb); replace BL := aM (blk_below BL.out hb); replace HB := aM (below_step HB.out hb); clear hb)))
 replace BK := aM (blk_drew BK.out)
 replace BL := aM (blk_drew BL.out)
 replace HB := aM (HB.out.drew)
 refine start_ (n := 24) (S := fun w' => AtC w' gb [.int .i64 a0_0, .int .i64 a0_1, .int .i64 a0_2, .int .i64 a0_3, .int .i64 a0_4, .int .i64 a0_5, .slice A0_6 l0_6.length c0_6, .int .i64 a0_7, .int .i64 a0_8, .slice A0_9 l0_9.length c0_9, .slice A0_10 l0_10.length c0_10, .slice A0_11 l0_11.length c0_11, .int .i64 a0_12, .int .i64 a0_13, .slice A0_14 l0_14.length c0_14] ∧ AtC w' gd [.int .i64 a1_0, .int .i64 a1_1, .int .i64 a1_2, .int .i64 a1_3, .int .i64 a1_4, .int .i64 a1_5, .slice A1_6 l1_6.length c1_6, .int .i64 a1_7, .int .i64 a1_8, .slice A1_9 l1_9.length c1_9, .slice A1_10 l1_10.length c1_10, .slice A1_11 l1_11.length c1_11, .int .i64 a1_12, .int .i64 a1_13, .slice A1_14 l1_14.length c1_14]) (ds := []) #[false, false, false, false, false, false, false, false, false, false, false, false, false, false, false, false, false, false, false, false, false, false, false, false] (by kernel_rfl) rfl rfl ⟨(blk_cells (cs := [.int .i64 a0_0, .int .i64 a0_1, .int .i64 a0_2, .int .i64 a0_3, .int .i64 a0_4, .int .i64 a0_5, .slice A0_6 l0_6.length c0_6, .int .i64 a0_7, .int .i64 a0_8, .slice A0_9 l0_9.length c0_9, .slice A0_10 l0_10.length c0_10, .slice A0_11 l0_11.length c0_11, .int .i64 a0_12, .int .i64 a0_13, .slice A0_14 l0_14.length c0_14]) BK.out), (blk_cells (cs := [.int .i64 a1_0, .int .i64 a1_1, .int .i64 a1_2, .int .i64 a1_3, .int .i64 a1_4, .int .i64 a1_5, .slice A1_6 l1_6.length c1_6, .int .i64 a1_7, .int .i64 a1_8, .slice A1_9 l1_9.length c1_9, .slice A1_10 l1_10.length c1_10, .slice A1_11 l1_11.length c1_11, .int .i64 a1_12, .int .i64 a1_13, .slice A1_14 l1_14.length c1_14]) BL.out)⟩ (fun hHeld => ?_); refine with_tabW lwe.tab3 lwe.bits3 (fun HT_ HW_ => ?_)
 generalize ws1.drew = w9 at BK BL HB hHeld ⊢
 refine take_ (i := 0) (N := some 19) (v := ?_) (a' := ?_) #[true, false, false, false, false, false, false, false, false, false, false, false, false, false, false, false, false, false, false, false, false, false, false, false] rfl rfl (take_ofW HT_.out HW_.out (by kernel_rfl)) (fun _ _ _ h => h) (Or.inl ⟨by rfl, ?_⟩) hHeld ?_ ?_
 rotate_left
 ·
  rintro w' ⟨s0, s1⟩
  refine exec_load 67 (.tmp 2) ?_ ⟨gb, 0, none⟩ ?_ [.int .i64 a0_0, .int .i64 a0_1, .int .i64 a0_2, .int .i64 a0_3, .int .i64 a0_4, .int .i64 a0_5, .slice A0_6 l0_6.length c0_6, .int .i64 a0_7, .int .i64 a0_8, .slice A0_9 l0_9.length c0_9, .slice A0_10 l0_10.length c0_10, .slice A0_11 l0_11.length c0_11, .int .i64 a0_12, .int .i64 a0_13, .slice A0_14 l0_14.length c0_14] s0 _ Try.underlying67 rfl (by kernel_rfl)
  all_goals rfl
 rotate_left
 ·
  exact pS
 refine take_ (i := 1) (N := some 20) (v := ?_) (a' := ?_) #[true, true, false, false, false, false, false, false, false, false, false, false, false, false, false, false, false, false, false, false, false, false, false, false] rfl rfl (take_ofW HT_.out HW_.out (by kernel_rfl)) (fun _ _ _ h => h) (Or.inl ⟨by rfl, ?_⟩) hHeld ?_ ?_
 rotate_left
 ·
  rintro w' ⟨s0, s1⟩
  refine exec_load 67 (.tmp 3) ?_ ⟨gd, 0, none⟩ ?_ [.int .i64 a1_0, .int .i64 a1_1, .int .i64 a1_2, .int .i64 a1_3, .int .i64 a1_4, .int .i64 a1_5, .slice A1_6 l1_6.length c1_6, .int .i64 a1_7, .int .i64 a1_8, .slice A1_9 l1_9.length c1_9, .slice A1_10 l1_10.length c1_10, .slice A1_11 l1_11.length c1_11, .int .i64 a1_12, .int .i64 a1_13, .slice A1_14 l1_14.length c1_14] s1 _ Try.underlying67 rfl (by kernel_rfl)
  all_goals rfl
 rotate_left
 ·
  exact pS
 refine take_ (i := 3) (N := some 22) (v := ?_) (a' := ?_) #[true, true, false, true, false, false, false, false, false, false, false, false, false, false, false, false, false, false, false, false, false, false, false, false] rfl rfl (take_ofW HT_.out HW_.out (by kernel_rfl)) (fun _ _ _ h => h) (Or.inl ⟨by rfl, ?_⟩) hHeld ?_ ?_
 rotate_left
 ·
  rintro w' ⟨s0, s1⟩
  refine exec_load 67 (.tmp 2) ?_ ⟨gb, 0, none⟩ ?_ [.int .i64 a0_0, .int .i64 a0_1, .int .i64 a0_2, .int .i64 a0_3, .int .i64 a0_4, .int .i64 a0_5, .slice A0_6 l0_6.length c0_6, .int .i64 a0_7, .int .i64 a0_8, .slice A0_9 l0_9.length c0_9, .slice A0_10 l0_10.length c0_10, .slice A0_11 l0_11.length c0_11, .int .i64 a0_12, .int .i64 a0_13, .slice A0_14 l0_14.length c0_14] s0 _ Try.underlying67 rfl (by kernel_rfl)
  all_goals rfl
 rotate_left
 ·
  exact pS
 refine take_ (i := 5) (N := some 24) (v := ?_) (a' := ?_) #[true, true, false, true, false, true, false, false, false, false, false, false, false, false, false, false, false, false, false, false, false, false, false, false] rfl rfl (take_ofW HT_.out HW_.out (by kernel_rfl)) (fun _ _ _ h => h) (Or.inl ⟨by rfl, ?_⟩) hHeld ?_ ?_
 rotate_left
 ·
  rintro w' ⟨s0, s1⟩
  refine exec_load 67 (.tmp 3) ?_ ⟨gd, 0, none⟩ ?_ [.int .i64 a1_0, .int .i64 a1_1, .int .i64 a1_2, .int .i64 a1_3, .int .i64 a1_4, .int .i64 a1_5, .slice A1_6 l1_6.length c1_6, .int .i64 a1_7, .int .i64 a1_8, .slice A1_9 l1_9.length c1_9, .slice A1_10 l1_10.length c1_10, .slice A1_11 l1_11.length c1_11, .int .i64 a1_12, .int .i64 a1_13, .slice A1_14 l1_14.length c1_14] s1 _ Try.underlying67 rfl (by kernel_rfl)
  all_goals rfl
 rotate_left
 ·
  exact pS
 refine one_ (i := 2) (N := some 21) #[true, true, true, true, false, true, false, false, false, false, false, false, false, false, false, false, false, false, false, false, false, false, false, false] rfl rfl (one_of HT_.out (by kernel_rfl)) (by decide) (fun K hK => ?_)
 refine goes_ Try.func36 (by kernel_rfl) rfl #[.agg #[.int .i64 a0_0, .int .i64 a0_1, .int .i64 a0_2, .int .i64 a0_3, .int .i64 a0_4, .int .i64 a0_5, .slice A0_6 l0_6.length c0_6, .int .i64 a0_7, .int .i64 a0_8, .slice A0_9 l0_9.length c0_9, .slice A0_10 l0_10.length c0_10, .slice A0_11 l0_11.length c0_11, .int .i64 a0_12, .int .i64 a0_13, .slice A0_14 l0_14.length c0_14], .agg #[.int .i64 a1_0, .int .i64 a1_1, .int .i64 a1_2, .int .i64 a1_3, .int .i64 a1_4, .int .i64 a1_5, .slice A1_6 l1_6.length c1_6, .int .i64 a1_7, .int .i64 a1_8, .slice A1_9 l1_9.length c1_9, .slice A1_10 l1_10.length c1_10, .slice A1_11 l1_11.length c1_11, .int .i64 a1_12, .int .i64 a1_13, .slice A1_14 l1_14.length c1_14]] (by rfl) rfl rfl (by (try simp only [List.map_toArray, List.map_cons, List.map_nil]); first | done | rfl) ?_
 with_reducible refine (cEqual k a0_0 a0_1 a0_2 a0_3 a0_4 a0_5 A0_6 c0_6 l0_6 a0_7 a0_8 A0_9 c0_9 l0_9 A0_10 c0_10 l0_10 A0_11 c0_11 l0_11 a0_12 a0_13 A0_14 c0_14 l0_14 a1_0 a1_1 a1_2 a1_3 a1_4 a1_5 A1_6 c1_6 l1_6 a1_7 a1_8 A1_9 c1_9 l1_9 A1_10 c1_10 l1_10 A1_11 c1_11 l1_11 a1_12 a1_13 A1_14 c1_14 l1_14 q _ (HQ.out.below HB.out) (HQ1.out.below HB.out) HEQ.out).mono ?_
 rintro e wb ⟨rfl, hb⟩
 refine ⟨_, rfl, ?_⟩
 replace BK := aM (blk_below BK.out hb)
 replace BL := aM (blk_below BL.out hb)
 replace HB := aM (below_step HB.out hb)
 clear hb
 refine hK.out _ _ ⟨(blk_cells (cs := [.int .i64 a0_0, .int .i64 a0_1, .int .i64 a0_2, .int .i64 a0_3, .int .i64 a0_4, .int .i64 a0_5, .slice A0_6 l0_6.length c0_6, .int .i64 a0_7, .int .i64 a0_8, .slice A0_9 l0_9.length c0_9, .slice A0_10 l0_10.length c0_10, .slice A0_11 l0_11.length c0_11, .int .i64 a0_12, .int .i64 a0_13, .slice A0_14 l0_14.length c0_14]) BK.out), (blk_cells (cs := [.int .i64 a1_0, .int .i64 a1_1, .int .i64 a1_2, .int .i64 a1_3, .int .i64 a1_4, .int .i64 a1_5, .slice A1_6 l1_6.length c1_6, .int .i64 a1_7, .int .i64 a1_8, .slice A1_9 l1_9.length c1_9, .slice A1_10 l1_10.length c1_10, .slice A1_11 l1_11.length c1_11, .int .i64 a1_12, .int .i64 a1_13, .slice A1_14 l1_14.length c1_14]) BL.out)⟩ (fun hHeld => ?_)
 clear hK K
 refine norm_ (a' := ?_) ?_ ?_
 rotate_left
 ·
  show Act.put _ (some 21) _ = _
  simp only [Act.put, List.setIfInBounds_toArray, List.set_cons_zero, List.set_cons_succ, i64_w, i32_w, IntKind.wrap_u32]
  rfl
 refine one_ (i := 4) (N := some 23) #[true, true, true, true, true, true, false, false, false, false, false, false, false, false, false, false, false, false, false, false, false, false, false, false] rfl rfl (one_of HT_.out (by kernel_rfl)) (by decide) (fun K hK => ?_)
 refine goes_ Try.func32 (by kernel_rfl) rfl #[.agg #[.int .i64 a0_0, .int .i64 a0_1, .int .i64 a0_2, .int .i64 a0_3, .int .i64 a0_4, .int .i64 a0_5, .slice A0_6 l0_6.length c0_6, .int .i64 a0_7, .int .i64 a0_8, .slice A0_9 l0_9.length c0_9, .slice A0_10 l0_10.length c0_10, .slice A0_11 l0_11.length c0_11, .int .i64 a0_12, .int .i64 a0_13, .slice A0_14 l0_14.length c0_14]] (by rfl) rfl rfl (by (try simp only [List.map_toArray, List.map_cons, List.map_nil]); first | done | rfl) ?_
 with_reducible refine (cRef a0_0 a0_1 a0_2 a0_3 a0_4 a0_5 A0_6 c0_6 l0_6 a0_7 a0_8 A0_9 c0_9 l0_9 A0_10 c0_10 l0_10 A0_11 c0_11 l0_11 a0_12 a0_13 A0_14 c0_14 l0_14 T P _ (HQ.out.below HB.out) HBD0.out HT.out HP.out).mono ?_
 rintro e wc ⟨AT, cT, AP, cP, rfl, hpc, hb⟩
 refine ⟨_, rfl, ?_⟩
 have HPC := aM hpc
 clear hpc
 replace BK := aM (blk_below BK.out hb)
 replace BL := aM (blk_below BL.out hb)
 replace HB := aM (below_step HB.out hb)
 clear hb
 refine hK.out _ _ ⟨(blk_cells (cs := [.int .i64 a0_0, .int .i64 a0_1, .int .i64 a0_2, .int .i64 a0_3, .int .i64 a0_4, .int .i64 a0_5, .slice A0_6 l0_6.length c0_6, .int .i64 a0_7, .int .i64 a0_8, .slice A0_9 l0_9.length c0_9, .slice A0_10 l0_10.length c0_10, .slice A0_11 l0_11.length c0_11, .int .i64 a0_12, .int .i64 a0_13, .slice A0_14 l0_14.length c0_14]) BK.out), (blk_cells (cs := [.int .i64 a1_0, .int .i64 a1_1, .int .i64 a1_2, .int .i64 a1_3, .int .i64 a1_4, .int .i64 a1_5, .slice A1_6 l1_6.length c1_6, .int .i64 a1_7, .int .i64 a1_8, .slice A1_9 l1_9.length c1_9, .slice A1_10 l1_10.length c1_10, .slice A1_11 l1_11.length c1_11, .int .i64 a1_12, .int .i64 a1_13, .slice A1_14 l1_14.length c1_14]) BL.out)⟩ (fun hHeld => ?_)
 clear hK K
 refine norm_ (a' := ?_) ?_ ?_
 rotate_left
 ·
  show Act.put _ (some 23) _ = _
  simp only [Act.put, List.setIfInBounds_toArray, List.set_cons_zero, List.set_cons_succ, i64_w, i32_w, IntKind.wrap_u32]
  rfl
 refine one_ (i := 6) (N := some 25) #[true, true, true, true, true, true, true, false, false, false, false, false, false, false, false, false, false, false, false, false, false, false, false, false] rfl rfl (one_of HT_.out (by kernel_rfl)) (by decide) (fun K hK => ?_)
 refine goes_ Try.func32 (by kernel_rfl) rfl #[.agg #[.int .i64 a1_0, .int .i64 a1_1, .int .i64 a1_2, .int .i64 a1_3, .int .i64 a1_4, .int .i64 a1_5, .slice A1_6 l1_6.length c1_6, .int .i64 a1_7, .int .i64 a1_8, .slice A1_9 l1_9.length c1_9, .slice A1_10 l1_10.length c1_10, .slice A1_11 l1_11.length c1_11, .int .i64 a1_12, .int .i64 a1_13, .slice A1_14 l1_14.length c1_14]] (by rfl) rfl rfl (by (try simp only [List.map_toArray, List.map_cons, List.map_nil]); first | done | rfl) ?_
 with_reducible refine (cRef a1_0 a1_1 a1_2 a1_3 a1_4 a1_5 A1_6 c1_6 l1_6 a1_7 a1_8 A1_9 c1_9 l1_9 A1_10 c1_10 l1_10 A1_11 c1_11 l1_11 a1_12 a1_13 A1_14 c1_14 l1_14 T1 P1 _ (HQ1.out.below HB.out) HBD1.out HT1.out HP1.out).mono ?_
 rintro e wd ⟨BT, dT, BP, dP, rfl, hpc, hb⟩
 refine ⟨_, rfl, ?_⟩
 have HPC1 := aM hpc
 replace HPC := aM (HPC.out.below hb)
 clear hpc
 replace BK := aM (blk_below BK.out hb)
 replace BL := aM (blk_below BL.out hb)
 replace HB := aM (below_step HB.out hb)
 clear hb
 refine hK.out _ _ ⟨(blk_cells (cs := [.int .i64 a0_0, .int .i64 a0_1, .int .i64 a0_2, .int .i64 a0_3, .int .i64 a0_4, .int .i64 a0_5, .slice A0_6 l0_6.length c0_6, .int .i64 a0_7, .int .i64 a0_8, .slice A0_9 l0_9.length c0_9, .slice A0_10 l0_10.length c0_10, .slice A0_11 l0_11.length c0_11, .int .i64 a0_12, .int .i64 a0_13, .slice A0_14 l0_14.length c0_14]) BK.out), (blk_cells (cs := [.int .i64 a1_0, .int .i64 a1_1, .int .i64 a1_2, .int .i64 a1_3, .int .i64 a1_4, .int .i64 a1_5, .slice A1_6 l1_6.length c1_6, .int .i64 a1_7, .int .i64 a1_8, .slice A1_9 l1_9.length c1_9, .slice A1_10 l1_10.length c1_10, .slice A1_11 l1_11.length c1_11, .int .i64 a1_12, .int .i64 a1_13, .slice A1_14 l1_14.length c1_14]) BL.out)⟩ (fun hHeld => ?_)
 clear hK K
 refine norm_ (a' := ?_) ?_ ?_
 rotate_left
 ·
  show Act.put _ (some 25) _ = _
  simp only [Act.put, List.setIfInBounds_toArray, List.set_cons_zero, List.set_cons_succ, i64_w, i32_w, IntKind.wrap_u32]
  rfl
 refine one_ (i := 7) (N := some 26) #[true, true, true, true, true, true, true, true, false, false, false, false, false, false, false, false, false, false, false, false, false, false, false, false] rfl rfl (one_of HT_.out (by kernel_rfl)) (by decide) (fun K hK => ?_)
 refine goes_ Try.func37 (by kernel_rfl) rfl #[.agg #[.int .i64 a0_0, .int .i64 a0_1, .int .i64 a0_2, .int .i64 a0_3, .int .i64 a0_4, .int .i64 a0_5, .int .i64 (l0_10.length : Int), .slice AT T.length cT, .slice AP P.length cP], .agg #[.int .i64 a1_0, .int .i64 a1_1, .int .i64 a1_2, .int .i64 a1_3, .int .i64 a1_4, .int .i64 a1_5, .int .i64 (l1_10.length : Int), .slice BT T1.length dT, .slice BP P1.length dP]] (by rfl) rfl rfl (by (try simp only [List.map_toArray, List.map_cons, List.map_nil]); first | done | rfl) ?_
 with_reducible refine (cSame18 k a0_0 a0_1 a0_2 a0_3 a0_4 a0_5 _ AT cT T AP cP P a1_0 a1_1 a1_2 a1_3 a1_4 a1_5 _ BT dT T1 BP dP P1 q _ HPC.out HPC1.out HSA.out).mono ?_
 rintro e we ⟨rfl, hb⟩
 refine ⟨_, rfl, ?_⟩
 clear HPC HPC1
 replace BK := aM (blk_below BK.out hb)
 replace BL := aM (blk_below BL.out hb)
 replace HB := aM (below_step HB.out hb)
 clear hb
 refine hK.out _ _ ⟨(blk_cells (cs := [.int .i64 a0_0, .int .i64 a0_1, .int .i64 a0_2, .int .i64 a0_3, .int .i64 a0_4, .int .i64 a0_5, .slice A0_6 l0_6.length c0_6, .int .i64 a0_7, .int .i64 a0_8, .slice A0_9 l0_9.length c0_9, .slice A0_10 l0_10.length c0_10, .slice A0_11 l0_11.length c0_11, .int .i64 a0_12, .int .i64 a0_13, .slice A0_14 l0_14.length c0_14]) BK.out), (blk_cells (cs := [.int .i64 a1_0, .int .i64 a1_1, .int .i64 a1_2, .int .i64 a1_3, .int .i64 a1_4, .int .i64 a1_5, .slice A1_6 l1_6.length c1_6, .int .i64 a1_7, .int .i64 a1_8, .slice A1_9 l1_9.length c1_9, .slice A1_10 l1_10.length c1_10, .slice A1_11 l1_11.length c1_11, .int .i64 a1_12, .int .i64 a1_13, .slice A1_14 l1_14.length c1_14]) BL.out)⟩ (fun hHeld => ?_)
 clear hK K
 refine norm_ (a' := ?_) ?_ ?_
 rotate_left
 ·
  show Act.put _ (some 26) _ = _
  simp only [Act.put, List.setIfInBounds_toArray, List.set_cons_zero, List.set_cons_succ, i64_w, i32_w, IntKind.wrap_u32]
  rfl
 refine pure_ (i := 8) (N := some 27) (v := ?_) (a' := ?_) #[true, true, true, true, true, true, true, true, true, false, false, false, false, false, false, false, false, false, false, false, false, false, false, false] rfl rfl (any_of HT_.out (by kernel_rfl)) (fun _ _ _ h => h) (Or.inl ⟨by rfl, ?_⟩) ?_ ?_
 rotate_left; exact pI; rotate_left; exact pS
 refine pure_ (i := 9) (N := some 28) (v := ?_) (a' := ?_) #[true, true, true, true, true, true, true, true, true, true, false, false, false, false, false, false, false, false, false, false, false, false, false, false] rfl rfl (any_of HT_.out (by kernel_rfl)) (fun _ _ _ h => h) (Or.inl ⟨by rfl, ?_⟩) ?_ ?_
 rotate_left; exact pI; rotate_left; exact pS
 refine take_ (i := 10) (N := some 29) (v := ?_) (a' := ?_) #[true, true, true, true, true, true, true, true, true, true, true, false, false, false, false, false, false, false, false, false, false, false, false, false] rfl rfl (take_ofW HT_.out HW_.out (by kernel_rfl)) (fun _ _ _ h => h) (Or.inl ⟨by rfl, ?_⟩) hHeld ?_ ?_
 rotate_left
 ·
  rintro w' ⟨s0, s1⟩
  refine exec_load 67 (.tmp 2) ?_ ⟨gb, 0, none⟩ ?_ [.int .i64 a0_0, .int .i64 a0_1, .int .i64 a0_2, .int .i64 a0_3, .int .i64 a0_4, .int .i64 a0_5, .slice A0_6 l0_6.length c0_6, .int .i64 a0_7, .int .i64 a0_8, .slice A0_9 l0_9.length c0_9, .slice A0_10 l0_10.length c0_10, .slice A0_11 l0_11.length c0_11, .int .i64 a0_12, .int .i64 a0_13, .slice A0_14 l0_14.length c0_14] s0 _ Try.underlying67 rfl (by kernel_rfl)
  all_goals rfl
 rotate_left
 ·
  exact pS
 refine take_ (i := 11) (N := some 30) (v := ?_) (a' := ?_) #[true, true, true, true, true, true, true, true, true, true, true, true, false, false, false, false, false, false, false, false, false, false, false, false] rfl rfl (take_ofW HT_.out HW_.out (by kernel_rfl)) (fun _ _ _ h => h) (Or.inl ⟨by rfl, ?_⟩) hHeld ?_ ?_
 rotate_left
 ·
  rintro w' ⟨s0, s1⟩
  refine exec_load 67 (.tmp 3) ?_ ⟨gd, 0, none⟩ ?_ [.int .i64 a1_0, .int .i64 a1_1, .int .i64 a1_2, .int .i64 a1_3, .int .i64 a1_4, .int .i64 a1_5, .slice A1_6 l1_6.length c1_6, .int .i64 a1_7, .int .i64 a1_8, .slice A1_9 l1_9.length c1_9, .slice A1_10 l1_10.length c1_10, .slice A1_11 l1_11.length c1_11, .int .i64 a1_12, .int .i64 a1_13, .slice A1_14 l1_14.length c1_14] s1 _ Try.underlying67 rfl (by kernel_rfl)
  all_goals rfl
 rotate_left
 ·
  exact pS
 refine take_ (i := 13) (N := some 32) (v := ?_) (a' := ?_) #[true, true, true, true, true, true, true, true, true, true, true, true, false, true, false, false, false, false, false, false, false, false, false, false] rfl rfl (take_ofW HT_.out HW_.out (by kernel_rfl)) (fun _ _ _ h => h) (Or.inl ⟨by rfl, ?_⟩) hHeld ?_ ?_
 rotate_left
 ·
  rintro w' ⟨s0, s1⟩
  refine exec_load 67 (.tmp 3) ?_ ⟨gd, 0, none⟩ ?_ [.int .i64 a1_0, .int .i64 a1_1, .int .i64 a1_2, .int .i64 a1_3, .int .i64 a1_4, .int .i64 a1_5, .slice A1_6 l1_6.length c1_6, .int .i64 a1_7, .int .i64 a1_8, .slice A1_9 l1_9.length c1_9, .slice A1_10 l1_10.length c1_10, .slice A1_11 l1_11.length c1_11, .int .i64 a1_12, .int .i64 a1_13, .slice A1_14 l1_14.length c1_14] s1 _ Try.underlying67 rfl (by kernel_rfl)
  all_goals rfl
 rotate_left
 ·
  exact pS
 refine take_ (i := 14) (N := some 33) (v := ?_) (a' := ?_) #[true, true, true, true, true, true, true, true, true, true, true, true, false, true, true, false, false, false, false, false, false, false, false, false] rfl rfl (take_ofW HT_.out HW_.out (by kernel_rfl)) (fun _ _ _ h => h) (Or.inl ⟨by rfl, ?_⟩) hHeld ?_ ?_
 rotate_left
 ·
  rintro w' ⟨s0, s1⟩
  refine exec_load 67 (.tmp 2) ?_ ⟨gb, 0, none⟩ ?_ [.int .i64 a0_0, .int .i64 a0_1, .int .i64 a0_2, .int .i64 a0_3, .int .i64 a0_4, .int .i64 a0_5, .slice A0_6 l0_6.length c0_6, .int .i64 a0_7, .int .i64 a0_8, .slice A0_9 l0_9.length c0_9, .slice A0_10 l0_10.length c0_10, .slice A0_11 l0_11.length c0_11, .int .i64 a0_12, .int .i64 a0_13, .slice A0_14 l0_14.length c0_14] s0 _ Try.underlying67 rfl (by kernel_rfl)
  all_goals rfl
 rotate_left
 ·
  exact pS
 refine one_ (i := 12) (N := some 31) #[true, true, true, true, true, true, true, true, true, true, true, true, true, true, true, false, false, false, false, false, false, false, false, false] rfl rfl (one_of HT_.out (by kernel_rfl)) (by decide) (fun K hK => ?_)
 refine goes_ Try.func36 (by kernel_rfl) rfl #[.agg #[.int .i64 a0_0, .int .i64 a0_1, .int .i64 a0_2, .int .i64 a0_3, .int .i64 a0_4, .int .i64 a0_5, .slice A0_6 l0_6.length c0_6, .int .i64 a0_7, .int .i64 a0_8, .slice A0_9 l0_9.length c0_9, .slice A0_10 l0_10.length c0_10, .slice A0_11 l0_11.length c0_11, .int .i64 a0_12, .int .i64 a0_13, .slice A0_14 l0_14.length c0_14], .agg #[.int .i64 a1_0, .int .i64 a1_1, .int .i64 a1_2, .int .i64 a1_3, .int .i64 a1_4, .int .i64 a1_5, .slice A1_6 l1_6.length c1_6, .int .i64 a1_7, .int .i64 a1_8, .slice A1_9 l1_9.length c1_9, .slice A1_10 l1_10.length c1_10, .slice A1_11 l1_11.length c1_11, .int .i64 a1_12, .int .i64 a1_13, .slice A1_14 l1_14.length c1_14]] (by rfl) rfl rfl (by (try simp only [List.map_toArray, List.map_cons, List.map_nil]); first | done | rfl) ?_
 with_reducible refine (cEqual k a0_0 a0_1 a0_2 a0_3 a0_4 a0_5 A0_6 c0_6 l0_6 a0_7 a0_8 A0_9 c0_9 l0_9 A0_10 c0_10 l0_10 A0_11 c0_11 l0_11 a0_12 a0_13 A0_14 c0_14 l0_14 a1_0 a1_1 a1_2 a1_3 a1_4 a1_5 A1_6 c1_6 l1_6 a1_7 a1_8 A1_9 c1_9 l1_9 A1_10 c1_10 l1_10 A1_11 c1_11 l1_11 a1_12 a1_13 A1_14 c1_14 l1_14 q _ (HQ.out.below HB.out) (HQ1.out.below HB.out) HEQ.out).mono ?_
 rintro e wf ⟨rfl, hb⟩
 refine ⟨_, rfl, ?_⟩
 replace BK := aM (blk_below BK.out hb)
 replace BL := aM (blk_below BL.out hb)
 replace HB := aM (below_step HB.out hb)
 clear hb
 refine hK.out _ _ ⟨(blk_cells (cs := [.int .i64 a0_0, .int .i64 a0_1, .int .i64 a0_2, .int .i64 a0_3, .int .i64 a0_4, .int .i64 a0_5, .slice A0_6 l0_6.length c0_6, .int .i64 a0_7, .int .i64 a0_8, .slice A0_9 l0_9.length c0_9, .slice A0_10 l0_10.length c0_10, .slice A0_11 l0_11.length c0_11, .int .i64 a0_12, .int .i64 a0_13, .slice A0_14 l0_14.length c0_14]) BK.out), (blk_cells (cs := [.int .i64 a1_0, .int .i64 a1_1, .int .i64 a1_2, .int .i64 a1_3, .int .i64 a1_4, .int .i64 a1_5, .slice A1_6 l1_6.length c1_6, .int .i64 a1_7, .int .i64 a1_8, .slice A1_9 l1_9.length c1_9, .slice A1_10 l1_10.length c1_10, .slice A1_11 l1_11.length c1_11, .int .i64 a1_12, .int .i64 a1_13, .slice A1_14 l1_14.length c1_14]) BL.out)⟩ (fun hHeld => ?_)
 clear hK K
 refine norm_ (a' := ?_) ?_ ?_
 rotate_left
 ·
  show Act.put _ (some 31) _ = _
  simp only [Act.put, List.setIfInBounds_toArray, List.set_cons_zero, List.set_cons_succ, i64_w, i32_w, IntKind.wrap_u32]
  rfl
 refine one_ (i := 15) (N := some 34) #[true, true, true, true, true, true, true, true, true, true, true, true, true, true, true, true, false, false, false, false, false, false, false, false] rfl rfl (one_of HT_.out (by kernel_rfl)) (by decide) (fun K hK => ?_)
 refine goes_ Try.func36 (by kernel_rfl) rfl #[.agg #[.int .i64 a1_0, .int .i64 a1_1, .int .i64 a1_2, .int .i64 a1_3, .int .i64 a1_4, .int .i64 a1_5, .slice A1_6 l1_6.length c1_6, .int .i64 a1_7, .int .i64 a1_8, .slice A1_9 l1_9.length c1_9, .slice A1_10 l1_10.length c1_10, .slice A1_11 l1_11.length c1_11, .int .i64 a1_12, .int .i64 a1_13, .slice A1_14 l1_14.length c1_14], .agg #[.int .i64 a0_0, .int .i64 a0_1, .int .i64 a0_2, .int .i64 a0_3, .int .i64 a0_4, .int .i64 a0_5, .slice A0_6 l0_6.length c0_6, .int .i64 a0_7, .int .i64 a0_8, .slice A0_9 l0_9.length c0_9, .slice A0_10 l0_10.length c0_10, .slice A0_11 l0_11.length c0_11, .int .i64 a0_12, .int .i64 a0_13, .slice A0_14 l0_14.length c0_14]] (by rfl) rfl rfl (by (try simp only [List.map_toArray, List.map_cons, List.map_nil]); first | done | rfl) ?_
 with_reducible refine (cEqual k a1_0 a1_1 a1_2 a1_3 a1_4 a1_5 A1_6 c1_6 l1_6 a1_7 a1_8 A1_9 c1_9 l1_9 A1_10 c1_10 l1_10 A1_11 c1_11 l1_11 a1_12 a1_13 A1_14 c1_14 l1_14 a0_0 a0_1 a0_2 a0_3 a0_4 a0_5 A0_6 c0_6 l0_6 a0_7 a0_8 A0_9 c0_9 l0_9 A0_10 c0_10 l0_10 A0_11 c0_11 l0_11 a0_12 a0_13 A0_14 c0_14 l0_14 q _ (HQ1.out.below HB.out) (HQ.out.below HB.out) HEQ2.out).mono ?_
 rintro e wg ⟨rfl, hb⟩
 refine ⟨_, rfl, ?_⟩
 replace BK := aM (blk_below BK.out hb)
 replace BL := aM (blk_below BL.out hb)
 replace HB := aM (below_step HB.out hb)
 clear hb
 refine hK.out _ _ ⟨(blk_cells (cs := [.int .i64 a0_0, .int .i64 a0_1, .int .i64 a0_2, .int .i64 a0_3, .int .i64 a0_4, .int .i64 a0_5, .slice A0_6 l0_6.length c0_6, .int .i64 a0_7, .int .i64 a0_8, .slice A0_9 l0_9.length c0_9, .slice A0_10 l0_10.length c0_10, .slice A0_11 l0_11.length c0_11, .int .i64 a0_12, .int .i64 a0_13, .slice A0_14 l0_14.length c0_14]) BK.out), (blk_cells (cs := [.int .i64 a1_0, .int .i64 a1_1, .int .i64 a1_2, .int .i64 a1_3, .int .i64 a1_4, .int .i64 a1_5, .slice A1_6 l1_6.length c1_6, .int .i64 a1_7, .int .i64 a1_8, .slice A1_9 l1_9.length c1_9, .slice A1_10 l1_10.length c1_10, .slice A1_11 l1_11.length c1_11, .int .i64 a1_12, .int .i64 a1_13, .slice A1_14 l1_14.length c1_14]) BL.out)⟩ (fun hHeld => ?_)
 clear hK K
 refine norm_ (a' := ?_) ?_ ?_
 rotate_left
 ·
  show Act.put _ (some 34) _ = _
  simp only [Act.put, List.setIfInBounds_toArray, List.set_cons_zero, List.set_cons_succ, i64_w, i32_w, IntKind.wrap_u32]
  rfl
 refine pure_ (i := 16) (N := some 35) (v := ?_) (a' := ?_) #[true, true, true, true, true, true, true, true, true, true, true, true, true, true, true, true, true, false, false, false, false, false, false, false] rfl rfl (any_of HT_.out (by kernel_rfl)) (fun _ _ _ h => h) (Or.inl ⟨by rfl, ?_⟩) ?_ ?_
 rotate_left; exact pI; rotate_left; exact pS
 refine pure_ (i := 17) (N := some 36) (v := ?_) (a' := ?_) #[true, true, true, true, true, true, true, true, true, true, true, true, true, true, true, true, true, true, false, false, false, false, false, false] rfl rfl (any_of HT_.out (by kernel_rfl)) (fun _ _ _ h => h) (Or.inl ⟨by rfl, ?_⟩) ?_ ?_
 rotate_left; exact pI; rotate_left; exact pS
 refine pure_ (i := 18) (N := some 37) (v := ?_) (a' := ?_) #[true, true, true, true, true, true, true, true, true, true, true, true, true, true, true, true, true, true, true, false, false, false, false, false] rfl rfl (any_of HT_.out (by kernel_rfl)) (fun _ _ _ h => h) (Or.inl ⟨by rfl, ?_⟩) ?_ ?_
 rotate_left; exact pI; rotate_left; exact pS
 refine take_ (i := 19) (N := some 38) (v := ?_) (a' := ?_) #[true, true, true, true, true, true, true, true, true, true, true, true, true, true, true, true, true, true, true, true, false, false, false, false] rfl rfl (take_ofW HT_.out HW_.out (by kernel_rfl)) (fun _ _ _ h => h) (Or.inl ⟨by rfl, ?_⟩) hHeld ?_ ?_
 rotate_left
 ·
  rintro w' ⟨s0, s1⟩
  refine exec_load 67 (.tmp 2) ?_ ⟨gb, 0, none⟩ ?_ [.int .i64 a0_0, .int .i64 a0_1, .int .i64 a0_2, .int .i64 a0_3, .int .i64 a0_4, .int .i64 a0_5, .slice A0_6 l0_6.length c0_6, .int .i64 a0_7, .int .i64 a0_8, .slice A0_9 l0_9.length c0_9, .slice A0_10 l0_10.length c0_10, .slice A0_11 l0_11.length c0_11, .int .i64 a0_12, .int .i64 a0_13, .slice A0_14 l0_14.length c0_14] s0 _ Try.underlying67 rfl (by kernel_rfl)
  all_goals rfl
 rotate_left
 ·
  exact pS
 refine take_ (i := 20) (N := some 39) (v := ?_) (a' := ?_) #[true, true, true, true, true, true, true, true, true, true, true, true, true, true, true, true, true, true, true, true, true, false, false, false] rfl rfl (take_ofW HT_.out HW_.out (by kernel_rfl)) (fun _ _ _ h => h) (Or.inl ⟨by rfl, ?_⟩) hHeld ?_ ?_
 rotate_left
 ·
  rintro w' ⟨s0, s1⟩
  refine exec_load 67 (.tmp 2) ?_ ⟨gb, 0, none⟩ ?_ [.int .i64 a0_0, .int .i64 a0_1, .int .i64 a0_2, .int .i64 a0_3, .int .i64 a0_4, .int .i64 a0_5, .slice A0_6 l0_6.length c0_6, .int .i64 a0_7, .int .i64 a0_8, .slice A0_9 l0_9.length c0_9, .slice A0_10 l0_10.length c0_10, .slice A0_11 l0_11.length c0_11, .int .i64 a0_12, .int .i64 a0_13, .slice A0_14 l0_14.length c0_14] s0 _ Try.underlying67 rfl (by kernel_rfl)
  all_goals rfl
 rotate_left
 ·
  exact pS
 refine one_ (i := 21) (N := some 40) #[true, true, true, true, true, true, true, true, true, true, true, true, true, true, true, true, true, true, true, true, true, true, false, false] rfl rfl (one_of HT_.out (by kernel_rfl)) (by decide) (fun K hK => ?_)
 refine goes_ Try.func36 (by kernel_rfl) rfl #[.agg #[.int .i64 a0_0, .int .i64 a0_1, .int .i64 a0_2, .int .i64 a0_3, .int .i64 a0_4, .int .i64 a0_5, .slice A0_6 l0_6.length c0_6, .int .i64 a0_7, .int .i64 a0_8, .slice A0_9 l0_9.length c0_9, .slice A0_10 l0_10.length c0_10, .slice A0_11 l0_11.length c0_11, .int .i64 a0_12, .int .i64 a0_13, .slice A0_14 l0_14.length c0_14], .agg #[.int .i64 a0_0, .int .i64 a0_1, .int .i64 a0_2, .int .i64 a0_3, .int .i64 a0_4, .int .i64 a0_5, .slice A0_6 l0_6.length c0_6, .int .i64 a0_7, .int .i64 a0_8, .slice A0_9 l0_9.length c0_9, .slice A0_10 l0_10.length c0_10, .slice A0_11 l0_11.length c0_11, .int .i64 a0_12, .int .i64 a0_13, .slice A0_14 l0_14.length c0_14]] (by rfl) rfl rfl (by (try simp only [List.map_toArray, List.map_cons, List.map_nil]); first | done | rfl) ?_
 with_reducible refine (cEqual k a0_0 a0_1 a0_2 a0_3 a0_4 a0_5 A0_6 c0_6 l0_6 a0_7 a0_8 A0_9 c0_9 l0_9 A0_10 c0_10 l0_10 A0_11 c0_11 l0_11 a0_12 a0_13 A0_14 c0_14 l0_14 a0_0 a0_1 a0_2 a0_3 a0_4 a0_5 A0_6 c0_6 l0_6 a0_7 a0_8 A0_9 c0_9 l0_9 A0_10 c0_10 l0_10 A0_11 c0_11 l0_11 a0_12 a0_13 A0_14 c0_14 l0_14 true _ (HQ.out.below HB.out) (HQ.out.below HB.out) HEQ3.out).mono ?_
 rintro e wh ⟨rfl, hb⟩
 refine ⟨_, rfl, ?_⟩
 replace BK := aM (blk_below BK.out hb)
 replace BL := aM (blk_below BL.out hb)
 replace HB := aM (below_step HB.out hb)
 clear hb
 refine hK.out _ _ ⟨(blk_cells (cs := [.int .i64 a0_0, .int .i64 a0_1, .int .i64 a0_2, .int .i64 a0_3, .int .i64 a0_4, .int .i64 a0_5, .slice A0_6 l0_6.length c0_6, .int .i64 a0_7, .int .i64 a0_8, .slice A0_9 l0_9.length c0_9, .slice A0_10 l0_10.length c0_10, .slice A0_11 l0_11.length c0_11, .int .i64 a0_12, .int .i64 a0_13, .slice A0_14 l0_14.length c0_14]) BK.out), (blk_cells (cs := [.int .i64 a1_0, .int .i64 a1_1, .int .i64 a1_2, .int .i64 a1_3, .int .i64 a1_4, .int .i64 a1_5, .slice A1_6 l1_6.length c1_6, .int .i64 a1_7, .int .i64 a1_8, .slice A1_9 l1_9.length c1_9, .slice A1_10 l1_10.length c1_10, .slice A1_11 l1_11.length c1_11, .int .i64 a1_12, .int .i64 a1_13, .slice A1_14 l1_14.length c1_14]) BL.out)⟩ (fun hHeld => ?_)
 clear hK K
 refine norm_ (a' := ?_) ?_ ?_
 rotate_left
 ·
  show Act.put _ (some 40) _ = _
  simp only [Act.put, List.setIfInBounds_toArray, List.set_cons_zero, List.set_cons_succ, i64_w, i32_w, IntKind.wrap_u32]
  rfl
 refine pure_ (i := 22) (N := some 41) (v := ?_) (a' := ?_) #[true, true, true, true, true, true, true, true, true, true, true, true, true, true, true, true, true, true, true, true, true, true, true, false] rfl rfl (any_of HT_.out (by kernel_rfl)) (fun _ _ _ h => h) (Or.inl ⟨by rfl, ?_⟩) ?_ ?_
 rotate_left; exact pI; rotate_left; exact pS
 refine pure_ (i := 23) (N := some 42) (v := ?_) (a' := ?_) #[true, true, true, true, true, true, true, true, true, true, true, true, true, true, true, true, true, true, true, true, true, true, true, true] rfl rfl (any_of HT_.out (by kernel_rfl)) (fun _ _ _ h => h) (Or.inl ⟨by rfl, ?_⟩) ?_ ?_
 rotate_left; exact pI; rotate_left; exact pS
 refine done_ (done_of HT_.out (by kernel_rfl)) ?_
 clear hHeld hqq HSM1 HSA HT HT1 HP HP1 HEQ HEQ2 HEQ3
 by_cases he : er = 0
 case neg =>
  have c1 : (er != 0) = true := bne_iff_ne.mpr he
  clear h he
  go_wp2_with (first | ((with_reducible refine gate_dst (N := 44) rfl ?_); (try (refine gate_guard (by rfl) ?_; dsimp only)); refine load_event ?hg (N := 44) ?hd 67 (.tmp 2) rfl ⟨gb, 0, none⟩ ?hx [.int .i64 a0_0, .int .i64 a0_1, .int .i64 a0_2, .int .i64 a0_3, .int .i64 a0_4, .int .i64 a0_5, .slice A0_6 l0_6.length c0_6, .int .i64 a0_7, .int .i64 a0_8, .slice A0_9 l0_9.length c0_9, .slice A0_10 l0_10.length c0_10, .slice A0_11 l0_11.length c0_11, .int .i64 a0_12, .int .i64 a0_13, .slice A0_14 l0_14.length c0_14] (blk_cells (cs := [.int .i64 a0_0, .int .i64 a0_1, .int .i64 a0_2, .int .i64 a0_3, .int .i64 a0_4, .int .i64 a0_5, .slice A0_6 l0_6.length c0_6, .int .i64 a0_7, .int .i64 a0_8, .slice A0_9 l0_9.length c0_9, .slice A0_10 l0_10.length c0_10, .slice A0_11 l0_11.length c0_11, .int .i64 a0_12, .int .i64 a0_13, .slice A0_14 l0_14.length c0_14]) BK.out) _ Try.underlying67 rfl (by kernel_rfl) ?_; (case hg => rfl); (case hd => rfl); (case hx => rfl)) | (go_at_call 30; (with_reducible refine (cBytes k a0_0 a0_1 a0_2 a0_3 a0_4 a0_5 A0_6 c0_6 l0_6 a0_7 a0_8 A0_9 c0_9 l0_9 A0_10 c0_10 l0_10 A0_11 c0_11 l0_11 a0_12 a0_13 A0_14 c0_14 l0_14 s er _ (HQ.out.below HB.out) HBY.out).mono ?_); rintro e w2 ⟨As, cs, rfl, hr, hb⟩; have HSR := aM (Kd.R_lower hr (below_size HB.out)); have HRL := aM (row_lt hr); clear hr; replace BK := aM (blk_below BK.out hb); replace BL := aM (blk_below BL.out hb); replace HB := aM (below_step HB.out hb); clear hb) | (go_at_call 26; (with_reducible refine (credenzalaw18_awake.calls k true _ HAW.out).mono ?_); rintro e wa ⟨rfl, hb⟩; replace HSR := aM (Kd.R_below HSR.out hb); replace BK := aM (blk_below BK.out hb); replace BL := aM (blk_below BL.out hb); replace HB := aM (below_step HB.out hb); clear hb))
  go_ret
  exact ⟨by first | rfl | simp, HB.out⟩
 obtain ⟨hsl, a2_0, a2_1, a2_2, a2_3, a2_4, a2_5, l2_6, a2_7, a2_8, l2_9, l2_10, l2_11, a2_12, a2_13, l2_14, hpa, heq⟩ := h he
 subst he
 have HPA := aM hpa
 have HEQ := aM heq
 have HSL := aM hsl
 clear hpa heq hsl h
 have c1 : ((0 : Int) != 0) = false := rfl
 go_upto_region 9 with (first | ((with_reducible refine gate_dst (N := 44) rfl ?_); (try (refine gate_guard (by rfl) ?_; dsimp only)); refine load_event ?hg (N := 44) ?hd 67 (.tmp 2) rfl ⟨gb, 0, none⟩ ?hx [.int .i64 a0_0, .int .i64 a0_1, .int .i64 a0_2, .int .i64 a0_3, .int .i64 a0_4, .int .i64 a0_5, .slice A0_6 l0_6.length c0_6, .int .i64 a0_7, .int .i64 a0_8, .slice A0_9 l0_9.length c0_9, .slice A0_10 l0_10.length c0_10, .slice A0_11 l0_11.length c0_11, .int .i64 a0_12, .int .i64 a0_13, .slice A0_14 l0_14.length c0_14] (blk_cells (cs := [.int .i64 a0_0, .int .i64 a0_1, .int .i64 a0_2, .int .i64 a0_3, .int .i64 a0_4, .int .i64 a0_5, .slice A0_6 l0_6.length c0_6, .int .i64 a0_7, .int .i64 a0_8, .slice A0_9 l0_9.length c0_9, .slice A0_10 l0_10.length c0_10, .slice A0_11 l0_11.length c0_11, .int .i64 a0_12, .int .i64 a0_13, .slice A0_14 l0_14.length c0_14]) BK.out) _ Try.underlying67 rfl (by kernel_rfl) ?_; (case hg => rfl); (case hd => rfl); (case hx => rfl)) | (go_at_call 30; (with_reducible refine (cBytes k a0_0 a0_1 a0_2 a0_3 a0_4 a0_5 A0_6 c0_6 l0_6 a0_7 a0_8 A0_9 c0_9 l0_9 A0_10 c0_10 l0_10 A0_11 c0_11 l0_11 a0_12 a0_13 A0_14 c0_14 l0_14 s 0 _ (HQ.out.below HB.out) HBY.out).mono ?_); rintro e w2 ⟨As, cs, rfl, hr, hb⟩; have HSR := aM (Kd.R_lower hr (below_size HB.out)); have HRL := aM (row_lt hr); clear hr; replace BK := aM (blk_below BK.out hb); replace BL := aM (blk_below BL.out hb); replace HB := aM (below_step HB.out hb); clear hb) | (go_at_call 34; (with_reducible refine (cParse k As cs s a2_0 a2_1 a2_2 a2_3 a2_4 a2_5 l2_6 a2_7 a2_8 l2_9 l2_10 l2_11 a2_12 a2_13 l2_14 0 _ (Kd.R_reads' HSR.out).2.2 (Kd.R_reads' HSR.out).2.1 HPA.out).mono ?_); rintro e w6 ⟨A2_6, c2_6, A2_9, c2_9, A2_10, c2_10, A2_11, c2_11, A2_14, c2_14, rfl, hbc, hb⟩; have HPF := aM hbc; have HB6 := aM (Below.refl w6.heap.size w6); clear hbc; replace HSR := aM (Kd.R_below HSR.out hb); replace BK := aM (blk_below BK.out hb); replace BL := aM (blk_below BL.out hb); replace HB := aM (below_step HB.out hb); have GB6 := aM (blk_lt BK.out); have GL6 := aM (blk_lt BL.out); have HW6 := aM HB.out; clear hb) | ((with_reducible refine gate_dst (N := 7) rfl ?_); refine box_event ?hg (N := 7) ?hd (cs := #[.int .i64 0, .int .i64 0, .int .i64 0, .int .i64 0, .int .i64 0, .int .i64 0, .slice none 0 0, .int .i64 0, .int .i64 0, .slice none 0 0, .slice none 0 0, .slice none 0 0, .int .i64 0, .int .i64 0, .slice none 0 0]) (t := 67) ?hr ?_; (case hd => rfl); (case hg => rfl); (case hr => first | (go_simp; done) | (go_simp; rfl)); intro g6 hg w7 hbox hb; have B6 := aM hbox; have GE6 := aM (show w6.heap.size ≤ g6 by rw [hg]; exact Nat.le_refl _); replace HSR := aM (Kd.R_below HSR.out hb); replace BK := aM (blk_below BK.out hb); replace BL := aM (blk_below BL.out hb); replace HB := aM (below_step HB.out hb); replace HB6 := aM (below_step HB6.out hb); clear hbox hb hg) | ((with_reducible refine gate_store (t := 67) (p := 7) (v := .tmp 54) rfl ?_); refine store_event ?hg ?hd 67 (.tmp 7) (.tmp 54) rfl g6 #[.int .i64 a2_0, .int .i64 a2_1, .int .i64 a2_2, .int .i64 a2_3, .int .i64 a2_4, .int .i64 a2_5, .slice A2_6 l2_6.length c2_6, .int .i64 a2_7, .int .i64 a2_8, .slice A2_9 l2_9.length c2_9, .slice A2_10 l2_10.length c2_10, .slice A2_11 l2_11.length c2_11, .int .i64 a2_12, .int .i64 a2_13, .slice A2_14 l2_14.length c2_14] ?hx ?hy 67 _ B6.out ?hi ?ho ?h1 ?_; (case hg => rfl); (case hd => rfl); (case hx => rfl); (case hy => rfl); (case hi => kernel_rfl); (case ho => rfl); (case h1 => simp [Value.oneCell']); intro w8 hnew hal far_; replace HSR := aM (r_far HSR.out B6.out (by decide) far_); replace BK := aM ((far_ gb (by have h1_ := GE6.out; have h2_ := GB6.out; omega)).trans BK.out); replace BL := aM ((far_ gd (by have h1_ := GE6.out; have h2_ := GL6.out; omega)).trans BL.out); replace B6 := aM hnew; replace HB := aM (hal w HB.out (by have h1_ := GE6.out; have h2_ := below_size HW6.out; omega)); replace HB6 := aM (hal w6 HB6.out GE6.out); clear hnew hal far_))
 have KP : Aside0 (KeepsFrom w2.heap.size w6 w8) := ⟨fun k_ _ hk_ => HB6.out.block k_ hk_⟩
 clear HB6 GE6 GB6 GL6 HW6
 obtain ⟨gs, hgs⟩ := row_g HSR.out
 have HGS := aM hgs
 clear hgs
 go_wp2
 go_loopw [58] (fun i_ W' => ∃ (n_ : Nat) (s_ : List Int), i_ = .int .i64 n_ ∧ Aside0 (n_ ≤ s.length ∧ s_.length = s.length) ∧ Aside0 (Kd.R (Kd.int .u8) 5 W' w.heap.size (fun _ => True) (.slice As s.length cs) s_) ∧ Aside0 (W'.heap[gb]? = some (.cells #[.int .i64 a0_0, .int .i64 a0_1, .int .i64 a0_2, .int .i64 a0_3, .int .i64 a0_4, .int .i64 a0_5, .slice A0_6 l0_6.length c0_6, .int .i64 a0_7, .int .i64 a0_8, .slice A0_9 l0_9.length c0_9, .slice A0_10 l0_10.length c0_10, .slice A0_11 l0_11.length c0_11, .int .i64 a0_12, .int .i64 a0_13, .slice A0_14 l0_14.length c0_14] 67 (0, 0))) ∧ Aside0 (W'.heap[gd]? = some (.cells #[.int .i64 a1_0, .int .i64 a1_1, .int .i64 a1_2, .int .i64 a1_3, .int .i64 a1_4, .int .i64 a1_5, .slice A1_6 l1_6.length c1_6, .int .i64 a1_7, .int .i64 a1_8, .slice A1_9 l1_9.length c1_9, .slice A1_10 l1_10.length c1_10, .slice A1_11 l1_11.length c1_11, .int .i64 a1_12, .int .i64 a1_13, .slice A1_14 l1_14.length c1_14] 67 (0, 0))) ∧ Aside0 (W'.heap[g6]? = some (.cells #[.int .i64 a2_0, .int .i64 a2_1, .int .i64 a2_2, .int .i64 a2_3, .int .i64 a2_4, .int .i64 a2_5, .slice A2_6 l2_6.length c2_6, .int .i64 a2_7, .int .i64 a2_8, .slice A2_9 l2_9.length c2_9, .slice A2_10 l2_10.length c2_10, .slice A2_11 l2_11.length c2_11, .int .i64 a2_12, .int .i64 a2_13, .slice A2_14 l2_14.length c2_14] 67 (0, 0))) ∧ Aside0 (KeepsFrom w2.heap.size w6 W') ∧ Aside0 (Below w.heap.size w W')) (fun i_ _ => s.length - (intOf i_).toNat)
 case atStart => exact ⟨0, s, rfl, ⟨Nat.zero_le _, rfl⟩, HSR, BK, BL, B6, KP, HB⟩
 case round =>
  clear HSR BK BL B6 KP HB
  obtain ⟨n, sn, rfl, HJ, HSR, BK, BL, B6, KP, HB⟩ := hrel
  by_cases q_ : n < s.length
  ·
   have f1 : decide ((n : Int) < (s.length : Int)) = true := decide_eq_true (by omega)
   have f2 : decide (n < s.length) = true := decide_eq_true q_
   obtain rfl := HGS.out (by omega)
   have y1 : ((n : Int) < (s.length : Int)) = True := eq_true (by omega)
   have y2 : (n < s.length) = True := eq_true q_
   have hR : Kd.R (Kd.int .u8) 5 wr w.heap.size (fun _ => True) (.slice (some ⟨gs, 0, none⟩) sn.length cs) sn := by rw [HJ.out.2]; exact HSR.out
   have hc := Kd.R_cell (enc := Value.int .u8) (h1 := fun _ => rfl) (0 : Int) hR (n : Int) (by omega) (by rw [HJ.out.2]; omega)
   have hp := Kd.R_put (enc := Value.int .u8) (h1 := fun _ => rfl) hR (n : Int) 7
   simp only [Int.toNat_natCast] at hc hp
   have hc1 := hc.1
   have hc2 := hc.2
   have HPUT := aM hp
   have hblk := R_block hR
   have HGE := aM hblk.1
   obtain ⟨cs5, hcs5⟩ := hblk.2
   have HCS := aM hcs5
   clear hc hp hblk hR hcs5
   have hwn : wrap64 ((n : Int) + 1) = (n : Int) + 1 := by have := HSL.out; simp only [wrap64]; omega
   go_wp2
   try rw [hwn]
   refine ⟨⟨n + 1, sn.set n 7, rfl, ⟨q_, by rw [List.length_set]; exact HJ.out.2⟩, ⟨?_⟩, ⟨blk_far BK.out (p := ⟨gs, n, none⟩) (blk_ne BK.out HCS.out (by decide)) _⟩, ⟨blk_far BL.out (p := ⟨gs, n, none⟩) (blk_ne BL.out HCS.out (by decide)) _⟩, ⟨blk_far B6.out (p := ⟨gs, n, none⟩) (blk_ne B6.out HCS.out (by decide)) _⟩, ⟨?_⟩, ⟨HB.out.setCell (p := ⟨gs, n, none⟩) HGE.out _⟩⟩, by simp only [intOf]; omega⟩
   ·
    have h_ := HPUT.out.1; rw [HJ.out.2] at h_; exact h_
   ·
    exact fun k_ h1_ h2_ => (Below.heap_setCell wr ⟨gs, n, none⟩ _ k_ (by have h3_ := HRL.out gs rfl; show k_ ≠ gs; omega)).trans (KP.out k_ h1_ h2_)
  ·
   have f1 : decide ((n : Int) < (s.length : Int)) = false := decide_eq_false (by omega)
   have f2 : decide (n < s.length) = false := decide_eq_false q_
   replace HPF := aM (HPF.out wr KP.out)
   clear KP
   go_wp2_with (first | ((with_reducible refine gate_dst (N := 68) rfl ?_); (try (refine gate_guard (by rfl) ?_; dsimp only)); refine load_event ?hg (N := 68) ?hd 67 (.tmp 2) rfl ⟨gb, 0, none⟩ ?hx [.int .i64 a0_0, .int .i64 a0_1, .int .i64 a0_2, .int .i64 a0_3, .int .i64 a0_4, .int .i64 a0_5, .slice A0_6 l0_6.length c0_6, .int .i64 a0_7, .int .i64 a0_8, .slice A0_9 l0_9.length c0_9, .slice A0_10 l0_10.length c0_10, .slice A0_11 l0_11.length c0_11, .int .i64 a0_12, .int .i64 a0_13, .slice A0_14 l0_14.length c0_14] (blk_cells (cs := [.int .i64 a0_0, .int .i64 a0_1, .int .i64 a0_2, .int .i64 a0_3, .int .i64 a0_4, .int .i64 a0_5, .slice A0_6 l0_6.length c0_6, .int .i64 a0_7, .int .i64 a0_8, .slice A0_9 l0_9.length c0_9, .slice A0_10 l0_10.length c0_10, .slice A0_11 l0_11.length c0_11, .int .i64 a0_12, .int .i64 a0_13, .slice A0_14 l0_14.length c0_14]) BK.out) _ Try.underlying67 rfl (by kernel_rfl) ?_; (case hg => rfl); (case hd => rfl); (case hx => rfl)) | ((with_reducible refine gate_dst (N := 69) rfl ?_); (try (refine gate_guard (by rfl) ?_; dsimp only)); refine load_event ?hg (N := 69) ?hd 67 (.tmp 7) rfl ⟨g6, 0, none⟩ ?hx [.int .i64 a2_0, .int .i64 a2_1, .int .i64 a2_2, .int .i64 a2_3, .int .i64 a2_4, .int .i64 a2_5, .slice A2_6 l2_6.length c2_6, .int .i64 a2_7, .int .i64 a2_8, .slice A2_9 l2_9.length c2_9, .slice A2_10 l2_10.length c2_10, .slice A2_11 l2_11.length c2_11, .int .i64 a2_12, .int .i64 a2_13, .slice A2_14 l2_14.length c2_14] (blk_cells (cs := [.int .i64 a2_0, .int .i64 a2_1, .int .i64 a2_2, .int .i64 a2_3, .int .i64 a2_4, .int .i64 a2_5, .slice A2_6 l2_6.length c2_6, .int .i64 a2_7, .int .i64 a2_8, .slice A2_9 l2_9.length c2_9, .slice A2_10 l2_10.length c2_10, .slice A2_11 l2_11.length c2_11, .int .i64 a2_12, .int .i64 a2_13, .slice A2_14 l2_14.length c2_14]) B6.out) _ Try.underlying67 rfl (by kernel_rfl) ?_; (case hg => rfl); (case hd => rfl); (case hx => rfl)) | (go_at_call 36; (with_reducible refine (cEqual k a0_0 a0_1 a0_2 a0_3 a0_4 a0_5 A0_6 c0_6 l0_6 a0_7 a0_8 A0_9 c0_9 l0_9 A0_10 c0_10 l0_10 A0_11 c0_11 l0_11 a0_12 a0_13 A0_14 c0_14 l0_14 a2_0 a2_1 a2_2 a2_3 a2_4 a2_5 A2_6 c2_6 l2_6 a2_7 a2_8 A2_9 c2_9 l2_9 A2_10 c2_10 l2_10 A2_11 c2_11 l2_11 a2_12 a2_13 A2_14 c2_14 l2_14 true _ (HQ.out.below HB.out) HPF.out HEQ.out).mono ?_); rintro e wk ⟨rfl, hb⟩; replace BK := aM (blk_below BK.out hb); replace BL := aM (blk_below BL.out hb); replace HB := aM (below_step HB.out hb); replace B6 := aM (blk_below B6.out hb); replace HPF := aM (HPF.out.below hb); clear hb) | (go_at_call 26; (with_reducible refine (credenzalaw18_awake.calls k true _ HAW.out).mono ?_); rintro e wa ⟨rfl, hb⟩; replace BK := aM (blk_below BK.out hb); replace BL := aM (blk_below BL.out hb); replace HB := aM (below_step HB.out hb); replace B6 := aM (blk_below B6.out hb); replace HPF := aM (HPF.out.below hb); clear hb))
   go_ret
   exact ⟨by first | rfl | simp, HB.out⟩
theorem credenzalaw18_BlobEquals.calls (k : Nat) (a0_0 : Int) (a0_1 : Int) (a0_2 : Int) (a0_3 : Int) (a0_4 : Int) (a0_5 : Int) (A0_6 : Option Addr) (c0_6 : Nat) (l0_6 : List S115) (a0_7 : Int) (a0_8 : Int) (A0_9 : Option Addr) (c0_9 : Nat) (l0_9 : List Int) (A0_10 : Option Addr) (c0_10 : Nat) (l0_10 : List S120) (A0_11 : Option Addr) (c0_11 : Nat) (l0_11 : List Int) (a0_12 : Int) (a0_13 : Int) (A0_14 : Option Addr) (c0_14 : Nat) (l0_14 : List Int) (a1_0 : Int) (a1_1 : Int) (a1_2 : Int) (a1_3 : Int) (a1_4 : Int) (a1_5 : Int) (A1_6 : Option Addr) (c1_6 : Nat) (l1_6 : List S115) (a1_7 : Int) (a1_8 : Int) (A1_9 : Option Addr) (c1_9 : Nat) (l1_9 : List Int) (A1_10 : Option Addr) (c1_10 : Nat) (l1_10 : List S120) (A1_11 : Option Addr) (c1_11 : Nat) (l1_11 : List Int) (a1_12 : Int) (a1_13 : Int) (A1_14 : Option Addr) (c1_14 : Nat) (l1_14 : List Int) (r : Bool) (w : World) (hr0_6 : Kd.C k115 w A0_6 l0_6.length l0_6) (hc0_6 : l0_6.length ≤ c0_6) (hr0_9 : Kd.C (Kd.int .i32) w A0_9 l0_9.length l0_9) (hc0_9 : l0_9.length ≤ c0_9) (hr0_10 : Kd.C k120 w A0_10 l0_10.length l0_10) (hc0_10 : l0_10.length ≤ c0_10) (hr0_11 : Kd.C (Kd.int .i32) w A0_11 l0_11.length l0_11) (hc0_11 : l0_11.length ≤ c0_11) (hr0_14 : Kd.C (Kd.int .i32) w A0_14 l0_14.length l0_14) (hc0_14 : l0_14.length ≤ c0_14) (hr1_6 : Kd.C k115 w A1_6 l1_6.length l1_6) (hc1_6 : l1_6.length ≤ c1_6) (hr1_9 : Kd.C (Kd.int .i32) w A1_9 l1_9.length l1_9) (hc1_9 : l1_9.length ≤ c1_9) (hr1_10 : Kd.C k120 w A1_10 l1_10.length l1_10) (hc1_10 : l1_10.length ≤ c1_10) (hr1_11 : Kd.C (Kd.int .i32) w A1_11 l1_11.length l1_11) (hc1_11 : l1_11.length ≤ c1_11) (hr1_14 : Kd.C (Kd.int .i32) w A1_14 l1_14.length l1_14) (hc1_14 : l1_14.length ≤ c1_14) (h : credenzalaw18_BlobEquals.f k a0_0 a0_1 a0_2 a0_3 a0_4 a0_5 l0_6 a0_7 a0_8 l0_9 l0_10 l0_11 a0_12 a0_13 l0_14 a1_0 a1_1 a1_2 a1_3 a1_4 a1_5 l1_6 a1_7 a1_8 l1_9 l1_10 l1_11 a1_12 a1_13 l1_14 = some r) :
  Calls Try.prog 10 #[.agg #[.int .i64 a0_0, .int .i64 a0_1, .int .i64 a0_2, .int .i64 a0_3, .int .i64 a0_4, .int .i64 a0_5, .slice A0_6 l0_6.length c0_6, .int .i64 a0_7, .int .i64 a0_8, .slice A0_9 l0_9.length c0_9, .slice A0_10 l0_10.length c0_10, .slice A0_11 l0_11.length c0_11, .int .i64 a0_12, .int .i64 a0_13, .slice A0_14 l0_14.length c0_14], .agg #[.int .i64 a1_0, .int .i64 a1_1, .int .i64 a1_2, .int .i64 a1_3, .int .i64 a1_4, .int .i64 a1_5, .slice A1_6 l1_6.length c1_6, .int .i64 a1_7, .int .i64 a1_8, .slice A1_9 l1_9.length c1_9, .slice A1_10 l1_10.length c1_10, .slice A1_11 l1_11.length c1_11, .int .i64 a1_12, .int .i64 a1_13, .slice A1_14 l1_14.length c1_14]] w fun e w' => e = .returned (.bool r) ∧ Below w.heap.size w w' := by
 unfold credenzalaw18_BlobEquals.f at h
 split at h
 ·
  next hc =>
  obtain rfl := Option.some.inj h
  exact lawEquals.go k a0_0 a0_1 a0_2 a0_3 a0_4 a0_5 A0_6 c0_6 l0_6 a0_7 a0_8 A0_9 c0_9 l0_9 A0_10 c0_10 l0_10 A0_11 c0_11 l0_11 a0_12 a0_13 A0_14 c0_14 l0_14 a1_0 a1_1 a1_2 a1_3 a1_4 a1_5 A1_6 c1_6 l1_6 a1_7 a1_8 A1_9 c1_9 l1_9 A1_10 c1_10 l1_10 A1_11 c1_11 l1_11 a1_12 a1_13 A1_14 c1_14 l1_14 w ⟨hr0_6, hc0_6, hr0_9, hc0_9, hr0_10, hc0_10, hr0_11, hc0_11, hr0_14, hc0_14⟩ ⟨hr1_6, hc1_6, hr1_9, hc1_9, hr1_10, hc1_10, hr1_11, hc1_11, hr1_14, hc1_14⟩ hc
 ·
  cases h
-- calls: credenzalaw18_small credenzalaw18_awake blob_Equal blob_Parse blob_Bytes credenzaref18_Same


/-- THE ONE PURE STATEMENT of credenzalaw18_BlobEquals: yours. -/
def credenzalaw18_BlobEquals.Pure : Prop := ∀ (a0_0 : Int) (a0_1 : Int) (a0_2 : Int) (a0_3 : Int) (a0_4 : Int) (a0_5 : Int) (l0_6 : List (S115)) (a0_7 : Int) (a0_8 : Int) (l0_9 : List Int) (l0_10 : List (S120)) (l0_11 : List Int) (a0_12 : Int) (a0_13 : Int) (l0_14 : List Int) (a1_0 : Int) (a1_1 : Int) (a1_2 : Int) (a1_3 : Int) (a1_4 : Int) (a1_5 : Int) (l1_6 : List (S115)) (a1_7 : Int) (a1_8 : Int) (l1_9 : List Int) (l1_10 : List (S120)) (l1_11 : List Int) (a1_12 : Int) (a1_13 : Int) (l1_14 : List Int), (Lit.int .i64 a0_0).wf = true → (Lit.int .i64 a0_1).wf = true → (Lit.int .i64 a0_2).wf = true → (Lit.int .i64 a0_3).wf = true → (Lit.int .i64 a0_4).wf = true → (Lit.int .i64 a0_5).wf = true → l0_6.length * 8 ≤ 140737488351232 → (∀ z ∈ l0_6, ((Lit.int .i32 z.f0).wf = true ∧ (Lit.int .i32 z.f1).wf = true)) → (Lit.int .i64 a0_7).wf = true → (Lit.int .i64 a0_8).wf = true → l0_9.length * 4 ≤ 140737488351232 → (∀ z ∈ l0_9, (Lit.int .i32 z).wf = true) → l0_10.length * 328 ≤ 140737488351232 → (∀ z ∈ l0_10, ((z.f0.length * 4 ≤ 140737488351232 ∧ ∀ z4 ∈ z.f0, (Lit.int .i32 z4).wf = true) ∧ ((Lit.int .i64 z.f1.f0).wf = true ∧ (Lit.int .i64 z.f1.f1).wf = true ∧ (z.f1.f2.length * 4 ≤ 140737488351232 ∧ ∀ z7 ∈ z.f1.f2, (Lit.int .i32 z7).wf = true)) ∧ ((Lit.int .i64 z.f2.f0).wf = true ∧ (Lit.int .i64 z.f2.f1).wf = true ∧ (z.f2.f2.length * 4 ≤ 140737488351232 ∧ ∀ z7 ∈ z.f2.f2, (Lit.int .i32 z7).wf = true)) ∧ ((Lit.int .i64 z.f3.f0).wf = true ∧ (Lit.int .i64 z.f3.f1).wf = true ∧ (z.f3.f2.length * 4 ≤ 140737488351232 ∧ ∀ z7 ∈ z.f3.f2, (Lit.int .i32 z7).wf = true)) ∧ ((Lit.int .i64 z.f4.f0).wf = true ∧ (Lit.int .i64 z.f4.f1).wf = true ∧ (z.f4.f2.length * 4 ≤ 140737488351232 ∧ ∀ z7 ∈ z.f4.f2, (Lit.int .i32 z7).wf = true)) ∧ (z.f5.length * 4 ≤ 140737488351232 ∧ ∀ z4 ∈ z.f5, (Lit.int .i32 z4).wf = true) ∧ ((Lit.int .i64 z.f6.f0).wf = true ∧ (Lit.int .i64 z.f6.f1).wf = true ∧ (z.f6.f2.length * 4 ≤ 140737488351232 ∧ ∀ z7 ∈ z.f6.f2, (Lit.int .i32 z7).wf = true)) ∧ ((Lit.int .i64 z.f7.f0).wf = true ∧ (Lit.int .i64 z.f7.f1).wf = true ∧ (z.f7.f2.length * 4 ≤ 140737488351232 ∧ ∀ z7 ∈ z.f7.f2, (Lit.int .i32 z7).wf = true)) ∧ ((Lit.int .i64 z.f8.f0).wf = true ∧ (Lit.int .i64 z.f8.f1).wf = true ∧ (z.f8.f2.length * 4 ≤ 140737488351232 ∧ ∀ z7 ∈ z.f8.f2, (Lit.int .i32 z7).wf = true)))) → l0_11.length * 4 ≤ 140737488351232 → (∀ z ∈ l0_11, (Lit.int .i32 z).wf = true) → (Lit.int .i64 a0_12).wf = true → (Lit.int .i64 a0_13).wf = true → l0_14.length * 4 ≤ 140737488351232 → (∀ z ∈ l0_14, (Lit.int .i32 z).wf = true) → (Lit.int .i64 a1_0).wf = true → (Lit.int .i64 a1_1).wf = true → (Lit.int .i64 a1_2).wf = true → (Lit.int .i64 a1_3).wf = true → (Lit.int .i64 a1_4).wf = true → (Lit.int .i64 a1_5).wf = true → l1_6.length * 8 ≤ 140737488351232 → (∀ z ∈ l1_6, ((Lit.int .i32 z.f0).wf = true ∧ (Lit.int .i32 z.f1).wf = true)) → (Lit.int .i64 a1_7).wf = true → (Lit.int .i64 a1_8).wf = true → l1_9.length * 4 ≤ 140737488351232 → (∀ z ∈ l1_9, (Lit.int .i32 z).wf = true) → l1_10.length * 328 ≤ 140737488351232 → (∀ z ∈ l1_10, ((z.f0.length * 4 ≤ 140737488351232 ∧ ∀ z4 ∈ z.f0, (Lit.int .i32 z4).wf = true) ∧ ((Lit.int .i64 z.f1.f0).wf = true ∧ (Lit.int .i64 z.f1.f1).wf = true ∧ (z.f1.f2.length * 4 ≤ 140737488351232 ∧ ∀ z7 ∈ z.f1.f2, (Lit.int .i32 z7).wf = true)) ∧ ((Lit.int .i64 z.f2.f0).wf = true ∧ (Lit.int .i64 z.f2.f1).wf = true ∧ (z.f2.f2.length * 4 ≤ 140737488351232 ∧ ∀ z7 ∈ z.f2.f2, (Lit.int .i32 z7).wf = true)) ∧ ((Lit.int .i64 z.f3.f0).wf = true ∧ (Lit.int .i64 z.f3.f1).wf = true ∧ (z.f3.f2.length * 4 ≤ 140737488351232 ∧ ∀ z7 ∈ z.f3.f2, (Lit.int .i32 z7).wf = true)) ∧ ((Lit.int .i64 z.f4.f0).wf = true ∧ (Lit.int .i64 z.f4.f1).wf = true ∧ (z.f4.f2.length * 4 ≤ 140737488351232 ∧ ∀ z7 ∈ z.f4.f2, (Lit.int .i32 z7).wf = true)) ∧ (z.f5.length * 4 ≤ 140737488351232 ∧ ∀ z4 ∈ z.f5, (Lit.int .i32 z4).wf = true) ∧ ((Lit.int .i64 z.f6.f0).wf = true ∧ (Lit.int .i64 z.f6.f1).wf = true ∧ (z.f6.f2.length * 4 ≤ 140737488351232 ∧ ∀ z7 ∈ z.f6.f2, (Lit.int .i32 z7).wf = true)) ∧ ((Lit.int .i64 z.f7.f0).wf = true ∧ (Lit.int .i64 z.f7.f1).wf = true ∧ (z.f7.f2.length * 4 ≤ 140737488351232 ∧ ∀ z7 ∈ z.f7.f2, (Lit.int .i32 z7).wf = true)) ∧ ((Lit.int .i64 z.f8.f0).wf = true ∧ (Lit.int .i64 z.f8.f1).wf = true ∧ (z.f8.f2.length * 4 ≤ 140737488351232 ∧ ∀ z7 ∈ z.f8.f2, (Lit.int .i32 z7).wf = true)))) → l1_11.length * 4 ≤ 140737488351232 → (∀ z ∈ l1_11, (Lit.int .i32 z).wf = true) → (Lit.int .i64 a1_12).wf = true → (Lit.int .i64 a1_13).wf = true → l1_14.length * 4 ≤ 140737488351232 → (∀ z ∈ l1_14, (Lit.int .i32 z).wf = true) → ∃ k, credenzalaw18_BlobEquals.f k a0_0 a0_1 a0_2 a0_3 a0_4 a0_5 l0_6 a0_7 a0_8 l0_9 l0_10 l0_11 a0_12 a0_13 l0_14 a1_0 a1_1 a1_2 a1_3 a1_4 a1_5 l1_6 a1_7 a1_8 l1_9 l1_10 l1_11 a1_12 a1_13 l1_14 = some true
theorem credenzalaw18_BlobEquals.walk (P : credenzalaw18_BlobEquals.Pure) (a0_0 : Int) (a0_1 : Int) (a0_2 : Int) (a0_3 : Int) (a0_4 : Int) (a0_5 : Int) (A0_6 : Option Addr) (c0_6 : Nat) (l0_6 : List (S115)) (a0_7 : Int) (a0_8 : Int) (A0_9 : Option Addr) (c0_9 : Nat) (l0_9 : List Int) (A0_10 : Option Addr) (c0_10 : Nat) (l0_10 : List (S120)) (A0_11 : Option Addr) (c0_11 : Nat) (l0_11 : List Int) (a0_12 : Int) (a0_13 : Int) (A0_14 : Option Addr) (c0_14 : Nat) (l0_14 : List Int) (a1_0 : Int) (a1_1 : Int) (a1_2 : Int) (a1_3 : Int) (a1_4 : Int) (a1_5 : Int) (A1_6 : Option Addr) (c1_6 : Nat) (l1_6 : List (S115)) (a1_7 : Int) (a1_8 : Int) (A1_9 : Option Addr) (c1_9 : Nat) (l1_9 : List Int) (A1_10 : Option Addr) (c1_10 : Nat) (l1_10 : List (S120)) (A1_11 : Option Addr) (c1_11 : Nat) (l1_11 : List Int) (a1_12 : Int) (a1_13 : Int) (A1_14 : Option Addr) (c1_14 : Nat) (l1_14 : List Int) (w : World) (w0_0 : (Lit.int .i64 a0_0).wf = true) (w0_1 : (Lit.int .i64 a0_1).wf = true) (w0_2 : (Lit.int .i64 a0_2).wf = true) (w0_3 : (Lit.int .i64 a0_3).wf = true) (w0_4 : (Lit.int .i64 a0_4).wf = true) (w0_5 : (Lit.int .i64 a0_5).wf = true) (hr0_6 : Kd.C k115 w A0_6 l0_6.length l0_6) (hc0_6 : l0_6.length ≤ c0_6) (hm0_6 : l0_6.length * 8 ≤ 140737488351232) (hq0_6 : ∀ z ∈ l0_6, ((Lit.int .i32 z.f0).wf = true ∧ (Lit.int .i32 z.f1).wf = true)) (w0_7 : (Lit.int .i64 a0_7).wf = true) (w0_8 : (Lit.int .i64 a0_8).wf = true) (hr0_9 : Kd.C (Kd.int .i32) w A0_9 l0_9.length l0_9) (hc0_9 : l0_9.length ≤ c0_9) (hm0_9 : l0_9.length * 4 ≤ 140737488351232) (hq0_9 : ∀ z ∈ l0_9, (Lit.int .i32 z).wf = true) (hr0_10 : Kd.C k120 w A0_10 l0_10.length l0_10) (hc0_10 : l0_10.length ≤ c0_10) (hm0_10 : l0_10.length * 328 ≤ 140737488351232) (hq0_10 : ∀ z ∈ l0_10, ((z.f0.length * 4 ≤ 140737488351232 ∧ ∀ z4 ∈ z.f0, (Lit.int .i32 z4).wf = true) ∧ ((Lit.int .i64 z.f1.f0).wf = true ∧ (Lit.int .i64 z.f1.f1).wf = true ∧ (z.f1.f2.length * 4 ≤ 140737488351232 ∧ ∀ z7 ∈ z.f1.f2, (Lit.int .i32 z7).wf = true)) ∧ ((Lit.int .i64 z.f2.f0).wf = true ∧ (Lit.int .i64 z.f2.f1).wf = true ∧ (z.f2.f2.length * 4 ≤ 140737488351232 ∧ ∀ z7 ∈ z.f2.f2, (Lit.int .i32 z7).wf = true)) ∧ ((Lit.int .i64 z.f3.f0).wf = true ∧ (Lit.int .i64 z.f3.f1).wf = true ∧ (z.f3.f2.length * 4 ≤ 140737488351232 ∧ ∀ z7 ∈ z.f3.f2, (Lit.int .i32 z7).wf = true)) ∧ ((Lit.int .i64 z.f4.f0).wf = true ∧ (Lit.int .i64 z.f4.f1).wf = true ∧ (z.f4.f2.length * 4 ≤ 140737488351232 ∧ ∀ z7 ∈ z.f4.f2, (Lit.int .i32 z7).wf = true)) ∧ (z.f5.length * 4 ≤ 140737488351232 ∧ ∀ z4 ∈ z.f5, (Lit.int .i32 z4).wf = true) ∧ ((Lit.int .i64 z.f6.f0).wf = true ∧ (Lit.int .i64 z.f6.f1).wf = true ∧ (z.f6.f2.length * 4 ≤ 140737488351232 ∧ ∀ z7 ∈ z.f6.f2, (Lit.int .i32 z7).wf = true)) ∧ ((Lit.int .i64 z.f7.f0).wf = true ∧ (Lit.int .i64 z.f7.f1).wf = true ∧ (z.f7.f2.length * 4 ≤ 140737488351232 ∧ ∀ z7 ∈ z.f7.f2, (Lit.int .i32 z7).wf = true)) ∧ ((Lit.int .i64 z.f8.f0).wf = true ∧ (Lit.int .i64 z.f8.f1).wf = true ∧ (z.f8.f2.length * 4 ≤ 140737488351232 ∧ ∀ z7 ∈ z.f8.f2, (Lit.int .i32 z7).wf = true)))) (hr0_11 : Kd.C (Kd.int .i32) w A0_11 l0_11.length l0_11) (hc0_11 : l0_11.length ≤ c0_11) (hm0_11 : l0_11.length * 4 ≤ 140737488351232) (hq0_11 : ∀ z ∈ l0_11, (Lit.int .i32 z).wf = true) (w0_12 : (Lit.int .i64 a0_12).wf = true) (w0_13 : (Lit.int .i64 a0_13).wf = true) (hr0_14 : Kd.C (Kd.int .i32) w A0_14 l0_14.length l0_14) (hc0_14 : l0_14.length ≤ c0_14) (hm0_14 : l0_14.length * 4 ≤ 140737488351232) (hq0_14 : ∀ z ∈ l0_14, (Lit.int .i32 z).wf = true) (w1_0 : (Lit.int .i64 a1_0).wf = true) (w1_1 : (Lit.int .i64 a1_1).wf = true) (w1_2 : (Lit.int .i64 a1_2).wf = true) (w1_3 : (Lit.int .i64 a1_3).wf = true) (w1_4 : (Lit.int .i64 a1_4).wf = true) (w1_5 : (Lit.int .i64 a1_5).wf = true) (hr1_6 : Kd.C k115 w A1_6 l1_6.length l1_6) (hc1_6 : l1_6.length ≤ c1_6) (hm1_6 : l1_6.length * 8 ≤ 140737488351232) (hq1_6 : ∀ z ∈ l1_6, ((Lit.int .i32 z.f0).wf = true ∧ (Lit.int .i32 z.f1).wf = true)) (w1_7 : (Lit.int .i64 a1_7).wf = true) (w1_8 : (Lit.int .i64 a1_8).wf = true) (hr1_9 : Kd.C (Kd.int .i32) w A1_9 l1_9.length l1_9) (hc1_9 : l1_9.length ≤ c1_9) (hm1_9 : l1_9.length * 4 ≤ 140737488351232) (hq1_9 : ∀ z ∈ l1_9, (Lit.int .i32 z).wf = true) (hr1_10 : Kd.C k120 w A1_10 l1_10.length l1_10) (hc1_10 : l1_10.length ≤ c1_10) (hm1_10 : l1_10.length * 328 ≤ 140737488351232) (hq1_10 : ∀ z ∈ l1_10, ((z.f0.length * 4 ≤ 140737488351232 ∧ ∀ z4 ∈ z.f0, (Lit.int .i32 z4).wf = true) ∧ ((Lit.int .i64 z.f1.f0).wf = true ∧ (Lit.int .i64 z.f1.f1).wf = true ∧ (z.f1.f2.length * 4 ≤ 140737488351232 ∧ ∀ z7 ∈ z.f1.f2, (Lit.int .i32 z7).wf = true)) ∧ ((Lit.int .i64 z.f2.f0).wf = true ∧ (Lit.int .i64 z.f2.f1).wf = true ∧ (z.f2.f2.length * 4 ≤ 140737488351232 ∧ ∀ z7 ∈ z.f2.f2, (Lit.int .i32 z7).wf = true)) ∧ ((Lit.int .i64 z.f3.f0).wf = true ∧ (Lit.int .i64 z.f3.f1).wf = true ∧ (z.f3.f2.length * 4 ≤ 140737488351232 ∧ ∀ z7 ∈ z.f3.f2, (Lit.int .i32 z7).wf = true)) ∧ ((Lit.int .i64 z.f4.f0).wf = true ∧ (Lit.int .i64 z.f4.f1).wf = true ∧ (z.f4.f2.length * 4 ≤ 140737488351232 ∧ ∀ z7 ∈ z.f4.f2, (Lit.int .i32 z7).wf = true)) ∧ (z.f5.length * 4 ≤ 140737488351232 ∧ ∀ z4 ∈ z.f5, (Lit.int .i32 z4).wf = true) ∧ ((Lit.int .i64 z.f6.f0).wf = true ∧ (Lit.int .i64 z.f6.f1).wf = true ∧ (z.f6.f2.length * 4 ≤ 140737488351232 ∧ ∀ z7 ∈ z.f6.f2, (Lit.int .i32 z7).wf = true)) ∧ ((Lit.int .i64 z.f7.f0).wf = true ∧ (Lit.int .i64 z.f7.f1).wf = true ∧ (z.f7.f2.length * 4 ≤ 140737488351232 ∧ ∀ z7 ∈ z.f7.f2, (Lit.int .i32 z7).wf = true)) ∧ ((Lit.int .i64 z.f8.f0).wf = true ∧ (Lit.int .i64 z.f8.f1).wf = true ∧ (z.f8.f2.length * 4 ≤ 140737488351232 ∧ ∀ z7 ∈ z.f8.f2, (Lit.int .i32 z7).wf = true)))) (hr1_11 : Kd.C (Kd.int .i32) w A1_11 l1_11.length l1_11) (hc1_11 : l1_11.length ≤ c1_11) (hm1_11 : l1_11.length * 4 ≤ 140737488351232) (hq1_11 : ∀ z ∈ l1_11, (Lit.int .i32 z).wf = true) (w1_12 : (Lit.int .i64 a1_12).wf = true) (w1_13 : (Lit.int .i64 a1_13).wf = true) (hr1_14 : Kd.C (Kd.int .i32) w A1_14 l1_14.length l1_14) (hc1_14 : l1_14.length ≤ c1_14) (hm1_14 : l1_14.length * 4 ≤ 140737488351232) (hq1_14 : ∀ z ∈ l1_14, (Lit.int .i32 z).wf = true) :
  Calls Try.prog 10 #[.agg #[.int .i64 a0_0, .int .i64 a0_1, .int .i64 a0_2, .int .i64 a0_3, .int .i64 a0_4, .int .i64 a0_5, .slice A0_6 l0_6.length c0_6, .int .i64 a0_7, .int .i64 a0_8, .slice A0_9 l0_9.length c0_9, .slice A0_10 l0_10.length c0_10, .slice A0_11 l0_11.length c0_11, .int .i64 a0_12, .int .i64 a0_13, .slice A0_14 l0_14.length c0_14], .agg #[.int .i64 a1_0, .int .i64 a1_1, .int .i64 a1_2, .int .i64 a1_3, .int .i64 a1_4, .int .i64 a1_5, .slice A1_6 l1_6.length c1_6, .int .i64 a1_7, .int .i64 a1_8, .slice A1_9 l1_9.length c1_9, .slice A1_10 l1_10.length c1_10, .slice A1_11 l1_11.length c1_11, .int .i64 a1_12, .int .i64 a1_13, .slice A1_14 l1_14.length c1_14]] w fun e w' => e = .returned (.bool true) ∧ Below w.heap.size w w' := by
 obtain ⟨k, h⟩ := P a0_0 a0_1 a0_2 a0_3 a0_4 a0_5 l0_6 a0_7 a0_8 l0_9 l0_10 l0_11 a0_12 a0_13 l0_14 a1_0 a1_1 a1_2 a1_3 a1_4 a1_5 l1_6 a1_7 a1_8 l1_9 l1_10 l1_11 a1_12 a1_13 l1_14 w0_0 w0_1 w0_2 w0_3 w0_4 w0_5 hm0_6 hq0_6 w0_7 w0_8 hm0_9 hq0_9 hm0_10 hq0_10 hm0_11 hq0_11 w0_12 w0_13 hm0_14 hq0_14 w1_0 w1_1 w1_2 w1_3 w1_4 w1_5 hm1_6 hq1_6 w1_7 w1_8 hm1_9 hq1_9 hm1_10 hq1_10 hm1_11 hq1_11 w1_12 w1_13 hm1_14 hq1_14
 refine (credenzalaw18_BlobEquals.calls k a0_0 a0_1 a0_2 a0_3 a0_4 a0_5 _ _ l0_6 a0_7 a0_8 _ _ l0_9 _ _ l0_10 _ _ l0_11 a0_12 a0_13 _ _ l0_14 a1_0 a1_1 a1_2 a1_3 a1_4 a1_5 _ _ l1_6 a1_7 a1_8 _ _ l1_9 _ _ l1_10 _ _ l1_11 a1_12 a1_13 _ _ l1_14 true w hr0_6 hc0_6 hr0_9 hc0_9 hr0_10 hc0_10 hr0_11 hc0_11 hr0_14 hc0_14 hr1_6 hc1_6 hr1_9 hc1_9 hr1_10 hc1_10 hr1_11 hc1_11 hr1_14 hc1_14 h).mono ?_
 rintro e w' ⟨rfl, hd⟩
 exact ⟨rfl, hd⟩

end Go.Proofs.Ytehepnmagcjkaaa.PBlobEquals
