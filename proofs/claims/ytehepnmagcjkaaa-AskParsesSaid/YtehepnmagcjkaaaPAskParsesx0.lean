-- Written by a program of this session (wip/tools/mkprint.py over the kit's print).
import Derived.Test.YtehepnmagcjkaaaProg
import Derived.Lib.SliceRun
import Derived.Maps.OwnSet
import Derived.Lib.Hide
import Derived.Deep.DeepFit
import Derived.Below
import Derived.Deep.Draws
import Derived.Deep.AppendLies
import Derived.Maps.AppendAt
import Derived.OwnWalk
import Derived.Laws.BytesArg
import Derived.Laws.MakeOwn
import Derived.Laws.OwnMore
import Derived.Deep.OwnRows
import Derived.Tactics
import Derived.Lib.ConvBytes
import Derived.Laws.Slices
import Derived.WalkKit
import Derived.KernelRfl
import Derived.RowKit3
import Derived.Deep.LoopGhost
import Derived.Deep.QuietTactic
import Derived.BigQuiet
import Derived.WideLaws
import Derived.Deep.DeepCutAuto
import Derived.Deep.CutBlock
import Derived.Deep.RegionHeld3
import Derived.Laws.Rows
import Derived.Lib.AppendStr
import Derived.ArgAppend
import Derived.Laws.IdiomCopy
import Derived.OrdersHeld
import Derived.Laws.BitsLemmas
import Derived.RowKit
import Derived.Test.YtehepnmagcjkaaaVAskParsesWords
import Derived.Test.YtehepnmagcjkaaaVAskParsesLast
import Derived.Test.YtehepnmagcjkaaaVAskParsesTab
import Derived.Test.YtehepnmagcjkaaaVAskParsesApart
import Derived.Test.YtehepnmagcjkaaaVAskParsesFoot
import Derived.Test.YtehepnmagcjkaaaVAskParsesKept
import Derived.Test.YtehepnmagcjkaaaVAskParsesShare
import Derived.Test.YtehepnmagcjkaaaVAskParsesN
import Derived.Test.YtehepnmagcjkaaaVAskParsesEqStruct
import Derived.Test.YtehepnmagcjkaaaVAskParsesRepsOne
import Derived.Test.YtehepnmagcjkaaaVAskParsesGuard
import Derived.Test.YtehepnmagcjkaaaVAskParsesMore
namespace Go.Proofs.Ytehepnmagcjkaaa.PAskParses
open Go.RowKit Go.Proofs.YtehepnmagcjkaaaW.PrintWords Go.Proofs.YtehepnmagcjkaaaW.PrintLast Go.Proofs.YtehepnmagcjkaaaW.PrintMore
attribute [local go_sem] max2_int min2_int max_two min_two max_three min_three max_four min_four   -- for this text's walks alone
set_option linter.unusedVariables false
set_option linter.unusedSimpArgs false



def errW : Option Int → Value
 | none => .nilIface
 | some c => .iface 0 (.int .i64 c)
theorem errW_none : errW none = .nilIface := rfl
theorem errW_some (c : Int) : errW (some c) = .iface 0 (.int .i64 c) := rfl

-- this session's own lemmas, ahead of the printed texts
/-- A literal row of bytes that is turned into its own type ('[]byte("..")'): it is marked, and from here on it is only read. -/
theorem run_mark {P : Program} {t e : TypeId} (ht : P.underlying t = some (.slice e)) (he : P.underlying e = some (.int .u8)) {W : World} {base : Nat} {ok : Nat → Prop} {A : Option Addr} {c : Nat} {xs : List Int}
  (HO : (Kd.int .u8).R e W base ok (.slice A xs.length c) xs) (hne : 0 < xs.length) :
  ∃ w1, (convert t t (.slice A xs.length c)).run P W = .ok (.slice A xs.length c) w1 ∧ (Kd.int .u8).C w1 A xs.length xs ∧ W.grownBy w1 (Value.slice A xs.length c).ownBlock ∧ (∀ w0 : World, Below base w0 W → Below base w0 w1) ∧ xs.length ≤ c := by
 have hC := (Kd.R_reads' HO).2.2
 have hl := (Kd.R_reads' HO).2.1
 have ho := Kd.own_of_R HO
 rcases ho.2 with ⟨h1, h2⟩ | ⟨g, cap, cur, hv, hg, hh, hn, hcm, hsz, htk⟩
 ·
  omega
 ·
  injection hv with hv1 hv2 hv3
  subst hv1
  refine ⟨W.freeze ⟨g, cur.size, none⟩ 1, ?_, ?_, ?_, ?_, hl⟩
  ·
   have hsh : W.shape? g = some (e, cur.size) := by
    unfold World.shape?
    rw [hh]
   simp [convert, run_underlying ht, run_underlying he, markStringish, hsh]
  ·
   have hcell : ∀ a, (W.freeze ⟨g, cur.size, none⟩ 1).cell? a = W.cell? a := by
    intro a
    unfold World.freeze World.cell?
    rw [if_neg (by decide)]
    simp only [Array.getElem?_modify]
    by_cases hb : g = a.block
    ·
     rw [if_pos hb, ← hb, hh]
     rfl
    ·
     rw [if_neg hb]
   refine ⟨hC.1, hC.2.1, fun hp => ?_⟩
   obtain ⟨ad, hA, hread⟩ := hC.2.2 hp
   refine ⟨ad, hA, fun j p hj => ?_⟩
   obtain ⟨cs, h1, h2, h3⟩ := hread j p hj
   exact ⟨cs, h1, h2, fun i u hu => by rw [hcell]; exact h3 i u hu⟩
  ·
   refine ⟨rfl, rfl, rfl, ?_, fun k hk hne2 => ?_⟩
   ·
    unfold World.freeze
    rw [if_neg (by decide)]
    simp
   ·
    unfold World.freeze
    rw [if_neg (by decide)]
    have : g ≠ k := fun h => hne2 (by rw [h]; rfl)
    simp [Array.getElem?_modify, this]
  ·
   intro w0 hb
   refine ⟨hb.os, hb.tape, hb.output, ?_, fun k hk => ?_⟩
   ·
    unfold World.freeze
    rw [if_neg (by decide)]
    simpa using hb.size
   ·
    unfold World.freeze
    rw [if_neg (by decide)]
    have : g ≠ k := by omega
    simp only [Array.getElem?_modify, this, if_false]
    exact hb.block k hk
/-- '[]byte(s)': one row more, marked: it is only read. -/
theorem run_bytes {P : Program} {st dt e : TypeId} (hs : P.underlying st = some .string) (hd : P.underlying dt = some (.slice e)) (he : P.underlying e = some (.int .u8)) (W : World) (s : ByteArray) (hl : s.size < 140737488355328) :
  ∃ w1 A c, (convert st dt (.string s)).run P W = .ok (.slice A (bytesOf s).length c) w1 ∧ (Kd.int .u8).C w1 A (bytesOf s).length (bytesOf s) ∧ Below W.heap.size W w1 ∧ (bytesOf s).length ≤ c := by
 have h := bytes_reads W e s (by omega)
 rw [← bytesOf_length s] at h
 refine ⟨Lib.bytesWorld W e s, _, grownCap W s.size 0 e, by rw [bytesOf_length]; exact print_bytes st dt e hs hd he s W, Kd.C_of_reads (enc := Value.int .u8) (d := (0 : Int)) (h1 := fun _ => rfl) h, bytes_below (Below.refl _ _) (Nat.le_refl _) e s, ?_⟩
 rw [bytesOf_length]
 exact grownCap_ge W s.size 0 e

theorem info3 : (Try.prog.info? 3).map (fun i => (i.zero, i.size, i.bytes)) = some (some (.int .i64 0), 1, 8) := by kernel_rfl
theorem info5 : (Try.prog.info? 5).map (fun i => (i.zero, i.size, i.bytes)) = some (some (.int .u8 0), 1, 1) := by kernel_rfl
-- the values' own types
def rd_L2 (xs : List (List Int)) (i : Int) : (List Int) := xs.getD i.toNat ([] : List Int)
theorem at_L2 {w : World} {A : Option Addr} {n : Nat} {xs : List (List Int)} (h : Kd.C (Kd.slice 3 (Kd.int .i64)) w A n xs) (i : Int) (h0 : 0 ≤ i) (h1 : i < n) : ∃ ad A0 c0, A = some ad ∧ w.cell? (ad.add i.toNat) = some (.slice A0 (rd_L2 xs i).length c0) ∧ (rd_L2 xs i).length ≤ c0 ∧ (Kd.int .i64).C w A0 (rd_L2 xs i).length (rd_L2 xs i) := by
 obtain ⟨ad, c, e, _, hK, hc0⟩ := Kd.C_get h ([] : List Int) i h0 h1
 have hc : ∀ j u, c[j]? = some u → w.cell? (ad.add (i.toNat * 1 + j)) = some u := hc0
 obtain ⟨A0, c0, rfl, l0, g0⟩ := hK
 exact ⟨ad, A0, c0, e, by have hq := hc 0 _ rfl; rwa [Nat.mul_one, Nat.add_zero] at hq, l0, g0⟩

def rd_L6 (xs : List (List Int)) (i : Int) : (List Int) := xs.getD i.toNat ([] : List Int)
theorem at_L6 {w : World} {A : Option Addr} {n : Nat} {xs : List (List Int)} (h : Kd.C (Kd.slice 5 (Kd.int .u8)) w A n xs) (i : Int) (h0 : 0 ≤ i) (h1 : i < n) : ∃ ad A0 c0, A = some ad ∧ w.cell? (ad.add i.toNat) = some (.slice A0 (rd_L6 xs i).length c0) ∧ (rd_L6 xs i).length ≤ c0 ∧ (Kd.int .u8).C w A0 (rd_L6 xs i).length (rd_L6 xs i) := by
 obtain ⟨ad, c, e, _, hK, hc0⟩ := Kd.C_get h ([] : List Int) i h0 h1
 have hc : ∀ j u, c[j]? = some u → w.cell? (ad.add (i.toNat * 1 + j)) = some u := hc0
 obtain ⟨A0, c0, rfl, l0, g0⟩ := hK
 exact ⟨ad, A0, c0, e, by have hq := hc 0 _ rfl; rwa [Nat.mul_one, Nat.add_zero] at hq, l0, g0⟩

end Go.Proofs.Ytehepnmagcjkaaa.PAskParses
