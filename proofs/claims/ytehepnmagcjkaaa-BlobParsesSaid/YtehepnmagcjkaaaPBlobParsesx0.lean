-- Written by a program of this session (wip/tools/mkprint.py over the kit's print).
import Derived.Test.YtehepnmagcjkaaaProg
import Derived.Lib.SliceRun
import Derived.Maps.OwnSet
import Derived.Lib.Hide
import Derived.Deep.DeepFit
import Derived.Below
import Derived.Deep.Draws
import Derived.Deep.AppendLies
import Derived.Maps.AppendAt
import Derived.OwnWalk
import Derived.Laws.BytesArg
import Derived.Laws.MakeOwn
import Derived.Laws.OwnMore
import Derived.Deep.OwnRows
import Derived.Tactics
import Derived.Lib.ConvBytes
import Derived.Laws.Slices
import Derived.WalkKit
import Derived.KernelRfl
import Derived.RowKit3
import Derived.Deep.LoopGhost
import Derived.Deep.QuietTactic
import Derived.BigQuiet
import Derived.WideLaws
import Derived.Deep.DeepCutAuto
import Derived.Deep.CutBlock
import Derived.Deep.RegionHeld3
import Derived.Laws.Rows
import Derived.Lib.AppendStr
import Derived.ArgAppend
import Derived.Laws.IdiomCopy
import Derived.OrdersHeld
import Derived.Laws.BitsLemmas
import Derived.RowKit
import Derived.Test.YtehepnmagcjkaaaVBlobParsesWords
import Derived.Test.YtehepnmagcjkaaaVBlobParsesLast
import Derived.Test.YtehepnmagcjkaaaVBlobParsesTab
import Derived.Test.YtehepnmagcjkaaaVBlobParsesApart
import Derived.Test.YtehepnmagcjkaaaVBlobParsesArr
import Derived.Test.YtehepnmagcjkaaaVBlobParsesFoot
import Derived.Test.YtehepnmagcjkaaaVBlobParsesKept
import Derived.Test.YtehepnmagcjkaaaVBlobParsesShare
import Derived.Test.YtehepnmagcjkaaaVBlobParsesN
import Derived.Test.YtehepnmagcjkaaaVBlobParsesEqStruct
import Derived.Test.YtehepnmagcjkaaaVBlobParsesRepsOne
import Derived.Test.YtehepnmagcjkaaaVBlobParsesGuard
import Derived.Test.YtehepnmagcjkaaaVBlobParsesMore
namespace Go.Proofs.Ytehepnmagcjkaaa.PBlobParses
open Go.RowKit Go.Proofs.YtehepnmagcjkaaaW.PrintWords Go.Proofs.YtehepnmagcjkaaaW.PrintLast Go.Proofs.YtehepnmagcjkaaaW.PrintMore
attribute [local go_sem] max2_int min2_int max_two min_two max_three min_three max_four min_four   -- for this text's walks alone
set_option linter.unusedVariables false
set_option linter.unusedSimpArgs false



def errW : Option Int → Value
 | none => .nilIface
 | some c => .iface 0 (.int .i64 c)
theorem errW_none : errW none = .nilIface := rfl
theorem errW_some (c : Int) : errW (some c) = .iface 0 (.int .i64 c) := rfl

-- this session's own lemmas, ahead of the printed texts
/-- A literal row of bytes that is turned into its own type ('[]byte("..")'): it is marked, and from here on it is only read. -/
theorem run_mark {P : Program} {t e : TypeId} (ht : P.underlying t = some (.slice e)) (he : P.underlying e = some (.int .u8)) {W : World} {base : Nat} {ok : Nat → Prop} {A : Option Addr} {c : Nat} {xs : List Int}
  (HO : (Kd.int .u8).R e W base ok (.slice A xs.length c) xs) (hne : 0 < xs.length) :
  ∃ w1, (convert t t (.slice A xs.length c)).run P W = .ok (.slice A xs.length c) w1 ∧ (Kd.int .u8).C w1 A xs.length xs ∧ W.grownBy w1 (Value.slice A xs.length c).ownBlock ∧ (∀ w0 : World, Below base w0 W → Below base w0 w1) ∧ xs.length ≤ c := by
 have hC := (Kd.R_reads' HO).2.2
 have hl := (Kd.R_reads' HO).2.1
 have ho := Kd.own_of_R HO
 rcases ho.2 with ⟨h1, h2⟩ | ⟨g, cap, cur, hv, hg, hh, hn, hcm, hsz, htk⟩
 ·
  omega
 ·
  injection hv with hv1 hv2 hv3
  subst hv1
  refine ⟨W.freeze ⟨g, cur.size, none⟩ 1, ?_, ?_, ?_, ?_, hl⟩
  ·
   have hsh : W.shape? g = some (e, cur.size) := by
    unfold World.shape?
    rw [hh]
   simp [convert, run_underlying ht, run_underlying he, markStringish, hsh]
  ·
   have hcell : ∀ a, (W.freeze ⟨g, cur.size, none⟩ 1).cell? a = W.cell? a := by
    intro a
    unfold World.freeze World.cell?
    rw [if_neg (by decide)]
    simp only [Array.getElem?_modify]
    by_cases hb : g = a.block
    ·
     rw [if_pos hb, ← hb, hh]
     rfl
    ·
     rw [if_neg hb]
   refine ⟨hC.1, hC.2.1, fun hp => ?_⟩
   obtain ⟨ad, hA, hread⟩ := hC.2.2 hp
   refine ⟨ad, hA, fun j p hj => ?_⟩
   obtain ⟨cs, h1, h2, h3⟩ := hread j p hj
   exact ⟨cs, h1, h2, fun i u hu => by rw [hcell]; exact h3 i u hu⟩
  ·
   refine ⟨rfl, rfl, rfl, ?_, fun k hk hne2 => ?_⟩
   ·
    unfold World.freeze
    rw [if_neg (by decide)]
    simp
   ·
    unfold World.freeze
    rw [if_neg (by decide)]
    have : g ≠ k := fun h => hne2 (by rw [h]; rfl)
    simp [Array.getElem?_modify, this]
  ·
   intro w0 hb
   refine ⟨hb.os, hb.tape, hb.output, ?_, fun k hk => ?_⟩
   ·
    unfold World.freeze
    rw [if_neg (by decide)]
    simpa using hb.size
   ·
    unfold World.freeze
    rw [if_neg (by decide)]
    have : g ≠ k := by omega
    simp only [Array.getElem?_modify, this, if_false]
    exact hb.block k hk
/-- '[]byte(s)': one row more, marked: it is only read. -/
theorem run_bytes {P : Program} {st dt e : TypeId} (hs : P.underlying st = some .string) (hd : P.underlying dt = some (.slice e)) (he : P.underlying e = some (.int .u8)) (W : World) (s : ByteArray) (hl : s.size < 140737488355328) :
  ∃ w1 A c, (convert st dt (.string s)).run P W = .ok (.slice A (bytesOf s).length c) w1 ∧ (Kd.int .u8).C w1 A (bytesOf s).length (bytesOf s) ∧ Below W.heap.size W w1 ∧ (bytesOf s).length ≤ c := by
 have h := bytes_reads W e s (by omega)
 rw [← bytesOf_length s] at h
 refine ⟨Lib.bytesWorld W e s, _, grownCap W s.size 0 e, by rw [bytesOf_length]; exact print_bytes st dt e hs hd he s W, Kd.C_of_reads (enc := Value.int .u8) (d := (0 : Int)) (h1 := fun _ => rfl) h, bytes_below (Below.refl _ _) (Nat.le_refl _) e s, ?_⟩
 rw [bytesOf_length]
 exact grownCap_ge W s.size 0 e

theorem info5 : (Try.prog.info? 5).map (fun i => (i.zero, i.size, i.bytes)) = some (some (.int .u8 0), 1, 1) := by kernel_rfl
theorem info110 : (Try.prog.info? 110).map (fun i => (i.zero, i.size, i.bytes)) = some (some (.agg #[(.int .i64 0), (.int .i64 0)]), 2, 16) := by kernel_rfl
-- the values' own types
/-! #### struct type 115 -/
structure S115 where
 f0 : Int
 f1 : Int
def z115 : S115 := ⟨(0 : Int), (0 : Int)⟩
def k115 : Kd S115 := Kd.iso (Kd.pair (Kd.int .i32) (Kd.int .i32)) (fun x : S115 => (x.f0, x.f1))
theorem k115_open {w : World} {x : S115} {cs : List Value} (h : k115.K w x cs) : cs = [.int .i32 x.f0, .int .i32 x.f1] := by
 obtain ⟨_, _, rfl, rfl, rfl⟩ := h
 exact rfl
theorem k115_openM {w : World} {base : Nat} {ok : Nat → Prop} {x : S115} {cs : List Value} (h : k115.M w base ok x cs) : cs = [.int .i32 x.f0, .int .i32 x.f1] := by
 obtain ⟨_, _, rfl, rfl, rfl⟩ := h
 exact rfl
theorem k115_mk (w : World) (x : S115)  : k115.K w x [.int .i32 x.f0, .int .i32 x.f1] := ⟨[.int .i32 x.f0], [.int .i32 x.f1], rfl, rfl, rfl⟩
theorem k115_mkM (w : World) (base : Nat) (ok : Nat → Prop) (x : S115)  : k115.M w base ok x [.int .i32 x.f0, .int .i32 x.f1] := ⟨[.int .i32 x.f0], [.int .i32 x.f1], rfl, rfl, rfl⟩
def rd_T115 (xs : List S115) (i : Int) : S115 := xs.getD i.toNat z115
theorem at_T115 {w : World} {A : Option Addr} {n : Nat} {xs : List S115} (h : Kd.C k115 w A n xs) (i : Int) (h0 : 0 ≤ i) (h1 : i < n) : ∃ ad , A = some ad ∧ w.cell? (ad.add (i.toNat * 2)) = some (.int .i32 (rd_T115 xs i).f0) ∧ w.cell? ⟨(ad.add (i.toNat * 2)).block, (ad.add (i.toNat * 2)).off + 1, none⟩ = some (.int .i32 (rd_T115 xs i).f1) := by
 obtain ⟨ad, c, e, _, hK, hc0⟩ := Kd.C_get h z115 i h0 h1
 have hc : ∀ j u, c[j]? = some u → w.cell? (ad.add (i.toNat * 2 + j)) = some u := hc0
 obtain rfl := k115_open hK
 exact ⟨ad, e, hc 0 _ rfl, by rw [← add_field _ _ 1 (by omega)]; exact hc 1 _ rfl⟩

def rd_L3 (xs : List (List S115)) (i : Int) : (List S115) := xs.getD i.toNat ([] : List S115)
theorem at_L3 {w : World} {A : Option Addr} {n : Nat} {xs : List (List S115)} (h : Kd.C (Kd.slice 115 k115) w A n xs) (i : Int) (h0 : 0 ≤ i) (h1 : i < n) : ∃ ad A0 c0, A = some ad ∧ w.cell? (ad.add i.toNat) = some (.slice A0 (rd_L3 xs i).length c0) ∧ (rd_L3 xs i).length ≤ c0 ∧ k115.C w A0 (rd_L3 xs i).length (rd_L3 xs i) := by
 obtain ⟨ad, c, e, _, hK, hc0⟩ := Kd.C_get h ([] : List S115) i h0 h1
 have hc : ∀ j u, c[j]? = some u → w.cell? (ad.add (i.toNat * 1 + j)) = some u := hc0
 obtain ⟨A0, c0, rfl, l0, g0⟩ := hK
 exact ⟨ad, A0, c0, e, by have hq := hc 0 _ rfl; rwa [Nat.mul_one, Nat.add_zero] at hq, l0, g0⟩

def rd_L4 (xs : List (List Int)) (i : Int) : (List Int) := xs.getD i.toNat ([] : List Int)
theorem at_L4 {w : World} {A : Option Addr} {n : Nat} {xs : List (List Int)} (h : Kd.C (Kd.slice 21 (Kd.int .i32)) w A n xs) (i : Int) (h0 : 0 ≤ i) (h1 : i < n) : ∃ ad A0 c0, A = some ad ∧ w.cell? (ad.add i.toNat) = some (.slice A0 (rd_L4 xs i).length c0) ∧ (rd_L4 xs i).length ≤ c0 ∧ (Kd.int .i32).C w A0 (rd_L4 xs i).length (rd_L4 xs i) := by
 obtain ⟨ad, c, e, _, hK, hc0⟩ := Kd.C_get h ([] : List Int) i h0 h1
 have hc : ∀ j u, c[j]? = some u → w.cell? (ad.add (i.toNat * 1 + j)) = some u := hc0
 obtain ⟨A0, c0, rfl, l0, g0⟩ := hK
 exact ⟨ad, A0, c0, e, by have hq := hc 0 _ rfl; rwa [Nat.mul_one, Nat.add_zero] at hq, l0, g0⟩

/-! #### struct type 64 -/
structure S64 where
 f0 : Int
 f1 : Int
 f2 : (List Int)
def z64 : S64 := ⟨(0 : Int), (0 : Int), ([] : List Int)⟩
def k64 : Kd S64 := Kd.iso (Kd.pair (Kd.int .i64) (Kd.pair (Kd.int .i64) (Kd.slice 21 (Kd.int .i32)))) (fun x : S64 => (x.f0, x.f1, x.f2))
theorem k64_open {w : World} {x : S64} {cs : List Value} (h : k64.K w x cs) : ∃ A2 c2, cs = [.int .i64 x.f0, .int .i64 x.f1, .slice A2 x.f2.length c2] ∧ x.f2.length ≤ c2 ∧ (Kd.int .i32).C w A2 x.f2.length x.f2 := by
 obtain ⟨_, _, rfl, rfl, ⟨_, _, rfl, rfl, ⟨A2, c2, rfl, l2, g2⟩⟩⟩ := h
 exact ⟨A2, c2, rfl, l2, g2⟩
theorem k64_openM {w : World} {base : Nat} {ok : Nat → Prop} {x : S64} {cs : List Value} (h : k64.M w base ok x cs) : ∃ v2, cs = [.int .i64 x.f0, .int .i64 x.f1, v2] ∧ (Kd.int .i32).R 21 w base ok v2 x.f2 := by
 obtain ⟨_, _, rfl, rfl, ⟨_, _, rfl, rfl, ⟨v2, rfl, g2⟩⟩⟩ := h
 exact ⟨v2, rfl, g2⟩
theorem k64_mk (w : World) (x : S64) {A2 : Option Addr} {c2 : Nat} (l2 : x.f2.length ≤ c2) (g2 : (Kd.int .i32).C w A2 x.f2.length x.f2) : k64.K w x [.int .i64 x.f0, .int .i64 x.f1, .slice A2 x.f2.length c2] := ⟨[.int .i64 x.f0], [.int .i64 x.f1, .slice A2 x.f2.length c2], rfl, rfl, ⟨[.int .i64 x.f1], [.slice A2 x.f2.length c2], rfl, rfl, ⟨A2, c2, rfl, l2, g2⟩⟩⟩
theorem k64_mkM (w : World) (base : Nat) (ok : Nat → Prop) (x : S64) {v2 : Value} (g2 : (Kd.int .i32).R 21 w base ok v2 x.f2) : k64.M w base ok x [.int .i64 x.f0, .int .i64 x.f1, v2] := ⟨[.int .i64 x.f0], [.int .i64 x.f1, v2], rfl, rfl, ⟨[.int .i64 x.f1], [v2], rfl, rfl, ⟨v2, rfl, g2⟩⟩⟩
def rd_T64 (xs : List S64) (i : Int) : S64 := xs.getD i.toNat z64
theorem at_T64 {w : World} {A : Option Addr} {n : Nat} {xs : List S64} (h : Kd.C k64 w A n xs) (i : Int) (h0 : 0 ≤ i) (h1 : i < n) : ∃ ad A2 c2, A = some ad ∧ w.cell? (ad.add (i.toNat * 3)) = some (.int .i64 (rd_T64 xs i).f0) ∧ w.cell? ⟨(ad.add (i.toNat * 3)).block, (ad.add (i.toNat * 3)).off + 1, none⟩ = some (.int .i64 (rd_T64 xs i).f1) ∧ w.cell? ⟨(ad.add (i.toNat * 3)).block, (ad.add (i.toNat * 3)).off + 2, none⟩ = some (.slice A2 (rd_T64 xs i).f2.length c2) ∧ (rd_T64 xs i).f2.length ≤ c2 ∧ (Kd.int .i32).C w A2 (rd_T64 xs i).f2.length (rd_T64 xs i).f2 := by
 obtain ⟨ad, c, e, _, hK, hc0⟩ := Kd.C_get h z64 i h0 h1
 have hc : ∀ j u, c[j]? = some u → w.cell? (ad.add (i.toNat * 3 + j)) = some u := hc0
 obtain ⟨A2, c2, rfl, l2, g2⟩ := k64_open hK
 exact ⟨ad, A2, c2, e, hc 0 _ rfl, by rw [← add_field _ _ 1 (by omega)]; exact hc 1 _ rfl, by rw [← add_field _ _ 2 (by omega)]; exact hc 2 _ rfl, l2, g2⟩

/-! #### struct type 120 -/
structure S120 where
 f0 : (List Int)
 f1 : S64
 f2 : S64
 f3 : S64
 f4 : S64
 f5 : (List Int)
 f6 : S64
 f7 : S64
 f8 : S64
def z120 : S120 := ⟨([] : List Int), z64, z64, z64, z64, ([] : List Int), z64, z64, z64⟩
def k120 : Kd S120 := Kd.iso (Kd.pair (Kd.slice 21 (Kd.int .i32)) (Kd.pair k64 (Kd.pair k64 (Kd.pair k64 (Kd.pair k64 (Kd.pair (Kd.slice 21 (Kd.int .i32)) (Kd.pair k64 (Kd.pair k64 k64)))))))) (fun x : S120 => (x.f0, x.f1, x.f2, x.f3, x.f4, x.f5, x.f6, x.f7, x.f8))
theorem k120_open {w : World} {x : S120} {cs : List Value} (h : k120.K w x cs) : ∃ A0 c0 A3 c3 A6 c6 A9 c9 A12 c12 A13 c13 A16 c16 A19 c19 A22 c22, cs = [.slice A0 x.f0.length c0, .int .i64 x.f1.f0, .int .i64 x.f1.f1, .slice A3 x.f1.f2.length c3, .int .i64 x.f2.f0, .int .i64 x.f2.f1, .slice A6 x.f2.f2.length c6, .int .i64 x.f3.f0, .int .i64 x.f3.f1, .slice A9 x.f3.f2.length c9, .int .i64 x.f4.f0, .int .i64 x.f4.f1, .slice A12 x.f4.f2.length c12, .slice A13 x.f5.length c13, .int .i64 x.f6.f0, .int .i64 x.f6.f1, .slice A16 x.f6.f2.length c16, .int .i64 x.f7.f0, .int .i64 x.f7.f1, .slice A19 x.f7.f2.length c19, .int .i64 x.f8.f0, .int .i64 x.f8.f1, .slice A22 x.f8.f2.length c22] ∧ x.f0.length ≤ c0 ∧ (Kd.int .i32).C w A0 x.f0.length x.f0 ∧ x.f1.f2.length ≤ c3 ∧ (Kd.int .i32).C w A3 x.f1.f2.length x.f1.f2 ∧ x.f2.f2.length ≤ c6 ∧ (Kd.int .i32).C w A6 x.f2.f2.length x.f2.f2 ∧ x.f3.f2.length ≤ c9 ∧ (Kd.int .i32).C w A9 x.f3.f2.length x.f3.f2 ∧ x.f4.f2.length ≤ c12 ∧ (Kd.int .i32).C w A12 x.f4.f2.length x.f4.f2 ∧ x.f5.length ≤ c13 ∧ (Kd.int .i32).C w A13 x.f5.length x.f5 ∧ x.f6.f2.length ≤ c16 ∧ (Kd.int .i32).C w A16 x.f6.f2.length x.f6.f2 ∧ x.f7.f2.length ≤ c19 ∧ (Kd.int .i32).C w A19 x.f7.f2.length x.f7.f2 ∧ x.f8.f2.length ≤ c22 ∧ (Kd.int .i32).C w A22 x.f8.f2.length x.f8.f2 := by
 obtain ⟨_, _, rfl, ⟨A0, c0, rfl, l0, g0⟩, ⟨_, _, rfl, s1, ⟨_, _, rfl, s4, ⟨_, _, rfl, s7, ⟨_, _, rfl, s10, ⟨_, _, rfl, ⟨A13, c13, rfl, l13, g13⟩, ⟨_, _, rfl, s14, ⟨_, _, rfl, s17, s20⟩⟩⟩⟩⟩⟩⟩⟩ := h
 obtain ⟨A3, c3, rfl, l3, g3⟩ := k64_open s1
 obtain ⟨A6, c6, rfl, l6, g6⟩ := k64_open s4
 obtain ⟨A9, c9, rfl, l9, g9⟩ := k64_open s7
 obtain ⟨A12, c12, rfl, l12, g12⟩ := k64_open s10
 obtain ⟨A16, c16, rfl, l16, g16⟩ := k64_open s14
 obtain ⟨A19, c19, rfl, l19, g19⟩ := k64_open s17
 obtain ⟨A22, c22, rfl, l22, g22⟩ := k64_open s20
 exact ⟨A0, c0, A3, c3, A6, c6, A9, c9, A12, c12, A13, c13, A16, c16, A19, c19, A22, c22, rfl, l0, g0, l3, g3, l6, g6, l9, g9, l12, g12, l13, g13, l16, g16, l19, g19, l22, g22⟩
theorem k120_openM {w : World} {base : Nat} {ok : Nat → Prop} {x : S120} {cs : List Value} (h : k120.M w base ok x cs) : ∃ v0 v3 v6 v9 v12 v13 v16 v19 v22, cs = [v0, .int .i64 x.f1.f0, .int .i64 x.f1.f1, v3, .int .i64 x.f2.f0, .int .i64 x.f2.f1, v6, .int .i64 x.f3.f0, .int .i64 x.f3.f1, v9, .int .i64 x.f4.f0, .int .i64 x.f4.f1, v12, v13, .int .i64 x.f6.f0, .int .i64 x.f6.f1, v16, .int .i64 x.f7.f0, .int .i64 x.f7.f1, v19, .int .i64 x.f8.f0, .int .i64 x.f8.f1, v22] ∧ (Kd.int .i32).R 21 w base ok v0 x.f0 ∧ (Kd.int .i32).R 21 w base ok v3 x.f1.f2 ∧ (Kd.int .i32).R 21 w base ok v6 x.f2.f2 ∧ (Kd.int .i32).R 21 w base ok v9 x.f3.f2 ∧ (Kd.int .i32).R 21 w base ok v12 x.f4.f2 ∧ (Kd.int .i32).R 21 w base ok v13 x.f5 ∧ (Kd.int .i32).R 21 w base ok v16 x.f6.f2 ∧ (Kd.int .i32).R 21 w base ok v19 x.f7.f2 ∧ (Kd.int .i32).R 21 w base ok v22 x.f8.f2 := by
 obtain ⟨_, _, rfl, ⟨v0, rfl, g0⟩, ⟨_, _, rfl, s1, ⟨_, _, rfl, s4, ⟨_, _, rfl, s7, ⟨_, _, rfl, s10, ⟨_, _, rfl, ⟨v13, rfl, g13⟩, ⟨_, _, rfl, s14, ⟨_, _, rfl, s17, s20⟩⟩⟩⟩⟩⟩⟩⟩ := h
 obtain ⟨v3, rfl, g3⟩ := k64_openM s1
 obtain ⟨v6, rfl, g6⟩ := k64_openM s4
 obtain ⟨v9, rfl, g9⟩ := k64_openM s7
 obtain ⟨v12, rfl, g12⟩ := k64_openM s10
 obtain ⟨v16, rfl, g16⟩ := k64_openM s14
 obtain ⟨v19, rfl, g19⟩ := k64_openM s17
 obtain ⟨v22, rfl, g22⟩ := k64_openM s20
 exact ⟨v0, v3, v6, v9, v12, v13, v16, v19, v22, rfl, g0, g3, g6, g9, g12, g13, g16, g19, g22⟩
theorem k120_mk (w : World) (x : S120) {A0 : Option Addr} {c0 : Nat} (l0 : x.f0.length ≤ c0) (g0 : (Kd.int .i32).C w A0 x.f0.length x.f0) {A3 : Option Addr} {c3 : Nat} (l3 : x.f1.f2.length ≤ c3) (g3 : (Kd.int .i32).C w A3 x.f1.f2.length x.f1.f2) {A6 : Option Addr} {c6 : Nat} (l6 : x.f2.f2.length ≤ c6) (g6 : (Kd.int .i32).C w A6 x.f2.f2.length x.f2.f2) {A9 : Option Addr} {c9 : Nat} (l9 : x.f3.f2.length ≤ c9) (g9 : (Kd.int .i32).C w A9 x.f3.f2.length x.f3.f2) {A12 : Option Addr} {c12 : Nat} (l12 : x.f4.f2.length ≤ c12) (g12 : (Kd.int .i32).C w A12 x.f4.f2.length x.f4.f2) {A13 : Option Addr} {c13 : Nat} (l13 : x.f5.length ≤ c13) (g13 : (Kd.int .i32).C w A13 x.f5.length x.f5) {A16 : Option Addr} {c16 : Nat} (l16 : x.f6.f2.length ≤ c16) (g16 : (Kd.int .i32).C w A16 x.f6.f2.length x.f6.f2) {A19 : Option Addr} {c19 : Nat} (l19 : x.f7.f2.length ≤ c19) (g19 : (Kd.int .i32).C w A19 x.f7.f2.length x.f7.f2) {A22 : Option Addr} {c22 : Nat} (l22 : x.f8.f2.length ≤ c22) (g22 : (Kd.int .i32).C w A22 x.f8.f2.length x.f8.f2) : k120.K w x [.slice A0 x.f0.length c0, .int .i64 x.f1.f0, .int .i64 x.f1.f1, .slice A3 x.f1.f2.length c3, .int .i64 x.f2.f0, .int .i64 x.f2.f1, .slice A6 x.f2.f2.length c6, .int .i64 x.f3.f0, .int .i64 x.f3.f1, .slice A9 x.f3.f2.length c9, .int .i64 x.f4.f0, .int .i64 x.f4.f1, .slice A12 x.f4.f2.length c12, .slice A13 x.f5.length c13, .int .i64 x.f6.f0, .int .i64 x.f6.f1, .slice A16 x.f6.f2.length c16, .int .i64 x.f7.f0, .int .i64 x.f7.f1, .slice A19 x.f7.f2.length c19, .int .i64 x.f8.f0, .int .i64 x.f8.f1, .slice A22 x.f8.f2.length c22] := ⟨[.slice A0 x.f0.length c0], [.int .i64 x.f1.f0, .int .i64 x.f1.f1, .slice A3 x.f1.f2.length c3, .int .i64 x.f2.f0, .int .i64 x.f2.f1, .slice A6 x.f2.f2.length c6, .int .i64 x.f3.f0, .int .i64 x.f3.f1, .slice A9 x.f3.f2.length c9, .int .i64 x.f4.f0, .int .i64 x.f4.f1, .slice A12 x.f4.f2.length c12, .slice A13 x.f5.length c13, .int .i64 x.f6.f0, .int .i64 x.f6.f1, .slice A16 x.f6.f2.length c16, .int .i64 x.f7.f0, .int .i64 x.f7.f1, .slice A19 x.f7.f2.length c19, .int .i64 x.f8.f0, .int .i64 x.f8.f1, .slice A22 x.f8.f2.length c22], rfl, ⟨A0, c0, rfl, l0, g0⟩, ⟨[.int .i64 x.f1.f0, .int .i64 x.f1.f1, .slice A3 x.f1.f2.length c3], [.int .i64 x.f2.f0, .int .i64 x.f2.f1, .slice A6 x.f2.f2.length c6, .int .i64 x.f3.f0, .int .i64 x.f3.f1, .slice A9 x.f3.f2.length c9, .int .i64 x.f4.f0, .int .i64 x.f4.f1, .slice A12 x.f4.f2.length c12, .slice A13 x.f5.length c13, .int .i64 x.f6.f0, .int .i64 x.f6.f1, .slice A16 x.f6.f2.length c16, .int .i64 x.f7.f0, .int .i64 x.f7.f1, .slice A19 x.f7.f2.length c19, .int .i64 x.f8.f0, .int .i64 x.f8.f1, .slice A22 x.f8.f2.length c22], rfl, (k64_mk w x.f1 l3 g3), ⟨[.int .i64 x.f2.f0, .int .i64 x.f2.f1, .slice A6 x.f2.f2.length c6], [.int .i64 x.f3.f0, .int .i64 x.f3.f1, .slice A9 x.f3.f2.length c9, .int .i64 x.f4.f0, .int .i64 x.f4.f1, .slice A12 x.f4.f2.length c12, .slice A13 x.f5.length c13, .int .i64 x.f6.f0, .int .i64 x.f6.f1, .slice A16 x.f6.f2.length c16, .int .i64 x.f7.f0, .int .i64 x.f7.f1, .slice A19 x.f7.f2.length c19, .int .i64 x.f8.f0, .int .i64 x.f8.f1, .slice A22 x.f8.f2.length c22], rfl, (k64_mk w x.f2 l6 g6), ⟨[.int .i64 x.f3.f0, .int .i64 x.f3.f1, .slice A9 x.f3.f2.length c9], [.int .i64 x.f4.f0, .int .i64 x.f4.f1, .slice A12 x.f4.f2.length c12, .slice A13 x.f5.length c13, .int .i64 x.f6.f0, .int .i64 x.f6.f1, .slice A16 x.f6.f2.length c16, .int .i64 x.f7.f0, .int .i64 x.f7.f1, .slice A19 x.f7.f2.length c19, .int .i64 x.f8.f0, .int .i64 x.f8.f1, .slice A22 x.f8.f2.length c22], rfl, (k64_mk w x.f3 l9 g9), ⟨[.int .i64 x.f4.f0, .int .i64 x.f4.f1, .slice A12 x.f4.f2.length c12], [.slice A13 x.f5.length c13, .int .i64 x.f6.f0, .int .i64 x.f6.f1, .slice A16 x.f6.f2.length c16, .int .i64 x.f7.f0, .int .i64 x.f7.f1, .slice A19 x.f7.f2.length c19, .int .i64 x.f8.f0, .int .i64 x.f8.f1, .slice A22 x.f8.f2.length c22], rfl, (k64_mk w x.f4 l12 g12), ⟨[.slice A13 x.f5.length c13], [.int .i64 x.f6.f0, .int .i64 x.f6.f1, .slice A16 x.f6.f2.length c16, .int .i64 x.f7.f0, .int .i64 x.f7.f1, .slice A19 x.f7.f2.length c19, .int .i64 x.f8.f0, .int .i64 x.f8.f1, .slice A22 x.f8.f2.length c22], rfl, ⟨A13, c13, rfl, l13, g13⟩, ⟨[.int .i64 x.f6.f0, .int .i64 x.f6.f1, .slice A16 x.f6.f2.length c16], [.int .i64 x.f7.f0, .int .i64 x.f7.f1, .slice A19 x.f7.f2.length c19, .int .i64 x.f8.f0, .int .i64 x.f8.f1, .slice A22 x.f8.f2.length c22], rfl, (k64_mk w x.f6 l16 g16), ⟨[.int .i64 x.f7.f0, .int .i64 x.f7.f1, .slice A19 x.f7.f2.length c19], [.int .i64 x.f8.f0, .int .i64 x.f8.f1, .slice A22 x.f8.f2.length c22], rfl, (k64_mk w x.f7 l19 g19), (k64_mk w x.f8 l22 g22)⟩⟩⟩⟩⟩⟩⟩⟩
theorem k120_mkM (w : World) (base : Nat) (ok : Nat → Prop) (x : S120) {v0 : Value} (g0 : (Kd.int .i32).R 21 w base ok v0 x.f0) {v3 : Value} (g3 : (Kd.int .i32).R 21 w base ok v3 x.f1.f2) {v6 : Value} (g6 : (Kd.int .i32).R 21 w base ok v6 x.f2.f2) {v9 : Value} (g9 : (Kd.int .i32).R 21 w base ok v9 x.f3.f2) {v12 : Value} (g12 : (Kd.int .i32).R 21 w base ok v12 x.f4.f2) {v13 : Value} (g13 : (Kd.int .i32).R 21 w base ok v13 x.f5) {v16 : Value} (g16 : (Kd.int .i32).R 21 w base ok v16 x.f6.f2) {v19 : Value} (g19 : (Kd.int .i32).R 21 w base ok v19 x.f7.f2) {v22 : Value} (g22 : (Kd.int .i32).R 21 w base ok v22 x.f8.f2) : k120.M w base ok x [v0, .int .i64 x.f1.f0, .int .i64 x.f1.f1, v3, .int .i64 x.f2.f0, .int .i64 x.f2.f1, v6, .int .i64 x.f3.f0, .int .i64 x.f3.f1, v9, .int .i64 x.f4.f0, .int .i64 x.f4.f1, v12, v13, .int .i64 x.f6.f0, .int .i64 x.f6.f1, v16, .int .i64 x.f7.f0, .int .i64 x.f7.f1, v19, .int .i64 x.f8.f0, .int .i64 x.f8.f1, v22] := ⟨[v0], [.int .i64 x.f1.f0, .int .i64 x.f1.f1, v3, .int .i64 x.f2.f0, .int .i64 x.f2.f1, v6, .int .i64 x.f3.f0, .int .i64 x.f3.f1, v9, .int .i64 x.f4.f0, .int .i64 x.f4.f1, v12, v13, .int .i64 x.f6.f0, .int .i64 x.f6.f1, v16, .int .i64 x.f7.f0, .int .i64 x.f7.f1, v19, .int .i64 x.f8.f0, .int .i64 x.f8.f1, v22], rfl, ⟨v0, rfl, g0⟩, ⟨[.int .i64 x.f1.f0, .int .i64 x.f1.f1, v3], [.int .i64 x.f2.f0, .int .i64 x.f2.f1, v6, .int .i64 x.f3.f0, .int .i64 x.f3.f1, v9, .int .i64 x.f4.f0, .int .i64 x.f4.f1, v12, v13, .int .i64 x.f6.f0, .int .i64 x.f6.f1, v16, .int .i64 x.f7.f0, .int .i64 x.f7.f1, v19, .int .i64 x.f8.f0, .int .i64 x.f8.f1, v22], rfl, (k64_mkM w base ok x.f1 g3), ⟨[.int .i64 x.f2.f0, .int .i64 x.f2.f1, v6], [.int .i64 x.f3.f0, .int .i64 x.f3.f1, v9, .int .i64 x.f4.f0, .int .i64 x.f4.f1, v12, v13, .int .i64 x.f6.f0, .int .i64 x.f6.f1, v16, .int .i64 x.f7.f0, .int .i64 x.f7.f1, v19, .int .i64 x.f8.f0, .int .i64 x.f8.f1, v22], rfl, (k64_mkM w base ok x.f2 g6), ⟨[.int .i64 x.f3.f0, .int .i64 x.f3.f1, v9], [.int .i64 x.f4.f0, .int .i64 x.f4.f1, v12, v13, .int .i64 x.f6.f0, .int .i64 x.f6.f1, v16, .int .i64 x.f7.f0, .int .i64 x.f7.f1, v19, .int .i64 x.f8.f0, .int .i64 x.f8.f1, v22], rfl, (k64_mkM w base ok x.f3 g9), ⟨[.int .i64 x.f4.f0, .int .i64 x.f4.f1, v12], [v13, .int .i64 x.f6.f0, .int .i64 x.f6.f1, v16, .int .i64 x.f7.f0, .int .i64 x.f7.f1, v19, .int .i64 x.f8.f0, .int .i64 x.f8.f1, v22], rfl, (k64_mkM w base ok x.f4 g12), ⟨[v13], [.int .i64 x.f6.f0, .int .i64 x.f6.f1, v16, .int .i64 x.f7.f0, .int .i64 x.f7.f1, v19, .int .i64 x.f8.f0, .int .i64 x.f8.f1, v22], rfl, ⟨v13, rfl, g13⟩, ⟨[.int .i64 x.f6.f0, .int .i64 x.f6.f1, v16], [.int .i64 x.f7.f0, .int .i64 x.f7.f1, v19, .int .i64 x.f8.f0, .int .i64 x.f8.f1, v22], rfl, (k64_mkM w base ok x.f6 g16), ⟨[.int .i64 x.f7.f0, .int .i64 x.f7.f1, v19], [.int .i64 x.f8.f0, .int .i64 x.f8.f1, v22], rfl, (k64_mkM w base ok x.f7 g19), (k64_mkM w base ok x.f8 g22)⟩⟩⟩⟩⟩⟩⟩⟩
def rd_T120 (xs : List S120) (i : Int) : S120 := xs.getD i.toNat z120
theorem at_T120 {w : World} {A : Option Addr} {n : Nat} {xs : List S120} (h : Kd.C k120 w A n xs) (i : Int) (h0 : 0 ≤ i) (h1 : i < n) : ∃ ad A0 c0 A3 c3 A6 c6 A9 c9 A12 c12 A13 c13 A16 c16 A19 c19 A22 c22, A = some ad ∧ w.cell? (ad.add (i.toNat * 23)) = some (.slice A0 (rd_T120 xs i).f0.length c0) ∧ w.cell? ⟨(ad.add (i.toNat * 23)).block, (ad.add (i.toNat * 23)).off + 1, none⟩ = some (.int .i64 (rd_T120 xs i).f1.f0) ∧ w.cell? ⟨(ad.add (i.toNat * 23)).block, (ad.add (i.toNat * 23)).off + 2, none⟩ = some (.int .i64 (rd_T120 xs i).f1.f1) ∧ w.cell? ⟨(ad.add (i.toNat * 23)).block, (ad.add (i.toNat * 23)).off + 3, none⟩ = some (.slice A3 (rd_T120 xs i).f1.f2.length c3) ∧ w.cell? ⟨(ad.add (i.toNat * 23)).block, (ad.add (i.toNat * 23)).off + 4, none⟩ = some (.int .i64 (rd_T120 xs i).f2.f0) ∧ w.cell? ⟨(ad.add (i.toNat * 23)).block, (ad.add (i.toNat * 23)).off + 5, none⟩ = some (.int .i64 (rd_T120 xs i).f2.f1) ∧ w.cell? ⟨(ad.add (i.toNat * 23)).block, (ad.add (i.toNat * 23)).off + 6, none⟩ = some (.slice A6 (rd_T120 xs i).f2.f2.length c6) ∧ w.cell? ⟨(ad.add (i.toNat * 23)).block, (ad.add (i.toNat * 23)).off + 7, none⟩ = some (.int .i64 (rd_T120 xs i).f3.f0) ∧ w.cell? ⟨(ad.add (i.toNat * 23)).block, (ad.add (i.toNat * 23)).off + 8, none⟩ = some (.int .i64 (rd_T120 xs i).f3.f1) ∧ w.cell? ⟨(ad.add (i.toNat * 23)).block, (ad.add (i.toNat * 23)).off + 9, none⟩ = some (.slice A9 (rd_T120 xs i).f3.f2.length c9) ∧ w.cell? ⟨(ad.add (i.toNat * 23)).block, (ad.add (i.toNat * 23)).off + 10, none⟩ = some (.int .i64 (rd_T120 xs i).f4.f0) ∧ w.cell? ⟨(ad.add (i.toNat * 23)).block, (ad.add (i.toNat * 23)).off + 11, none⟩ = some (.int .i64 (rd_T120 xs i).f4.f1) ∧ w.cell? ⟨(ad.add (i.toNat * 23)).block, (ad.add (i.toNat * 23)).off + 12, none⟩ = some (.slice A12 (rd_T120 xs i).f4.f2.length c12) ∧ w.cell? ⟨(ad.add (i.toNat * 23)).block, (ad.add (i.toNat * 23)).off + 13, none⟩ = some (.slice A13 (rd_T120 xs i).f5.length c13) ∧ w.cell? ⟨(ad.add (i.toNat * 23)).block, (ad.add (i.toNat * 23)).off + 14, none⟩ = some (.int .i64 (rd_T120 xs i).f6.f0) ∧ w.cell? ⟨(ad.add (i.toNat * 23)).block, (ad.add (i.toNat * 23)).off + 15, none⟩ = some (.int .i64 (rd_T120 xs i).f6.f1) ∧ w.cell? ⟨(ad.add (i.toNat * 23)).block, (ad.add (i.toNat * 23)).off + 16, none⟩ = some (.slice A16 (rd_T120 xs i).f6.f2.length c16) ∧ w.cell? ⟨(ad.add (i.toNat * 23)).block, (ad.add (i.toNat * 23)).off + 17, none⟩ = some (.int .i64 (rd_T120 xs i).f7.f0) ∧ w.cell? ⟨(ad.add (i.toNat * 23)).block, (ad.add (i.toNat * 23)).off + 18, none⟩ = some (.int .i64 (rd_T120 xs i).f7.f1) ∧ w.cell? ⟨(ad.add (i.toNat * 23)).block, (ad.add (i.toNat * 23)).off + 19, none⟩ = some (.slice A19 (rd_T120 xs i).f7.f2.length c19) ∧ w.cell? ⟨(ad.add (i.toNat * 23)).block, (ad.add (i.toNat * 23)).off + 20, none⟩ = some (.int .i64 (rd_T120 xs i).f8.f0) ∧ w.cell? ⟨(ad.add (i.toNat * 23)).block, (ad.add (i.toNat * 23)).off + 21, none⟩ = some (.int .i64 (rd_T120 xs i).f8.f1) ∧ w.cell? ⟨(ad.add (i.toNat * 23)).block, (ad.add (i.toNat * 23)).off + 22, none⟩ = some (.slice A22 (rd_T120 xs i).f8.f2.length c22) ∧ (rd_T120 xs i).f0.length ≤ c0 ∧ (Kd.int .i32).C w A0 (rd_T120 xs i).f0.length (rd_T120 xs i).f0 ∧ (rd_T120 xs i).f1.f2.length ≤ c3 ∧ (Kd.int .i32).C w A3 (rd_T120 xs i).f1.f2.length (rd_T120 xs i).f1.f2 ∧ (rd_T120 xs i).f2.f2.length ≤ c6 ∧ (Kd.int .i32).C w A6 (rd_T120 xs i).f2.f2.length (rd_T120 xs i).f2.f2 ∧ (rd_T120 xs i).f3.f2.length ≤ c9 ∧ (Kd.int .i32).C w A9 (rd_T120 xs i).f3.f2.length (rd_T120 xs i).f3.f2 ∧ (rd_T120 xs i).f4.f2.length ≤ c12 ∧ (Kd.int .i32).C w A12 (rd_T120 xs i).f4.f2.length (rd_T120 xs i).f4.f2 ∧ (rd_T120 xs i).f5.length ≤ c13 ∧ (Kd.int .i32).C w A13 (rd_T120 xs i).f5.length (rd_T120 xs i).f5 ∧ (rd_T120 xs i).f6.f2.length ≤ c16 ∧ (Kd.int .i32).C w A16 (rd_T120 xs i).f6.f2.length (rd_T120 xs i).f6.f2 ∧ (rd_T120 xs i).f7.f2.length ≤ c19 ∧ (Kd.int .i32).C w A19 (rd_T120 xs i).f7.f2.length (rd_T120 xs i).f7.f2 ∧ (rd_T120 xs i).f8.f2.length ≤ c22 ∧ (Kd.int .i32).C w A22 (rd_T120 xs i).f8.f2.length (rd_T120 xs i).f8.f2 := by
 obtain ⟨ad, c, e, _, hK, hc0⟩ := Kd.C_get h z120 i h0 h1
 have hc : ∀ j u, c[j]? = some u → w.cell? (ad.add (i.toNat * 23 + j)) = some u := hc0
 obtain ⟨A0, c0, A3, c3, A6, c6, A9, c9, A12, c12, A13, c13, A16, c16, A19, c19, A22, c22, rfl, l0, g0, l3, g3, l6, g6, l9, g9, l12, g12, l13, g13, l16, g16, l19, g19, l22, g22⟩ := k120_open hK
 exact ⟨ad, A0, c0, A3, c3, A6, c6, A9, c9, A12, c12, A13, c13, A16, c16, A19, c19, A22, c22, e, hc 0 _ rfl, by rw [← add_field _ _ 1 (by omega)]; exact hc 1 _ rfl, by rw [← add_field _ _ 2 (by omega)]; exact hc 2 _ rfl, by rw [← add_field _ _ 3 (by omega)]; exact hc 3 _ rfl, by rw [← add_field _ _ 4 (by omega)]; exact hc 4 _ rfl, by rw [← add_field _ _ 5 (by omega)]; exact hc 5 _ rfl, by rw [← add_field _ _ 6 (by omega)]; exact hc 6 _ rfl, by rw [← add_field _ _ 7 (by omega)]; exact hc 7 _ rfl, by rw [← add_field _ _ 8 (by omega)]; exact hc 8 _ rfl, by rw [← add_field _ _ 9 (by omega)]; exact hc 9 _ rfl, by rw [← add_field _ _ 10 (by omega)]; exact hc 10 _ rfl, by rw [← add_field _ _ 11 (by omega)]; exact hc 11 _ rfl, by rw [← add_field _ _ 12 (by omega)]; exact hc 12 _ rfl, by rw [← add_field _ _ 13 (by omega)]; exact hc 13 _ rfl, by rw [← add_field _ _ 14 (by omega)]; exact hc 14 _ rfl, by rw [← add_field _ _ 15 (by omega)]; exact hc 15 _ rfl, by rw [← add_field _ _ 16 (by omega)]; exact hc 16 _ rfl, by rw [← add_field _ _ 17 (by omega)]; exact hc 17 _ rfl, by rw [← add_field _ _ 18 (by omega)]; exact hc 18 _ rfl, by rw [← add_field _ _ 19 (by omega)]; exact hc 19 _ rfl, by rw [← add_field _ _ 20 (by omega)]; exact hc 20 _ rfl, by rw [← add_field _ _ 21 (by omega)]; exact hc 21 _ rfl, by rw [← add_field _ _ 22 (by omega)]; exact hc 22 _ rfl, l0, g0, l3, g3, l6, g6, l9, g9, l12, g12, l13, g13, l16, g16, l19, g19, l22, g22⟩

def rd_L7 (xs : List (List S120)) (i : Int) : (List S120) := xs.getD i.toNat ([] : List S120)
theorem at_L7 {w : World} {A : Option Addr} {n : Nat} {xs : List (List S120)} (h : Kd.C (Kd.slice 120 k120) w A n xs) (i : Int) (h0 : 0 ≤ i) (h1 : i < n) : ∃ ad A0 c0, A = some ad ∧ w.cell? (ad.add i.toNat) = some (.slice A0 (rd_L7 xs i).length c0) ∧ (rd_L7 xs i).length ≤ c0 ∧ k120.C w A0 (rd_L7 xs i).length (rd_L7 xs i) := by
 obtain ⟨ad, c, e, _, hK, hc0⟩ := Kd.C_get h ([] : List S120) i h0 h1
 have hc : ∀ j u, c[j]? = some u → w.cell? (ad.add (i.toNat * 1 + j)) = some u := hc0
 obtain ⟨A0, c0, rfl, l0, g0⟩ := hK
 exact ⟨ad, A0, c0, e, by have hq := hc 0 _ rfl; rwa [Nat.mul_one, Nat.add_zero] at hq, l0, g0⟩

def rd_L9 (xs : List (List Int)) (i : Int) : (List Int) := xs.getD i.toNat ([] : List Int)
theorem at_L9 {w : World} {A : Option Addr} {n : Nat} {xs : List (List Int)} (h : Kd.C (Kd.slice 5 (Kd.int .u8)) w A n xs) (i : Int) (h0 : 0 ≤ i) (h1 : i < n) : ∃ ad A0 c0, A = some ad ∧ w.cell? (ad.add i.toNat) = some (.slice A0 (rd_L9 xs i).length c0) ∧ (rd_L9 xs i).length ≤ c0 ∧ (Kd.int .u8).C w A0 (rd_L9 xs i).length (rd_L9 xs i) := by
 obtain ⟨ad, c, e, _, hK, hc0⟩ := Kd.C_get h ([] : List Int) i h0 h1
 have hc : ∀ j u, c[j]? = some u → w.cell? (ad.add (i.toNat * 1 + j)) = some u := hc0
 obtain ⟨A0, c0, rfl, l0, g0⟩ := hK
 exact ⟨ad, A0, c0, e, by have hq := hc 0 _ rfl; rwa [Nat.mul_one, Nat.add_zero] at hq, l0, g0⟩

/-! #### struct type 111 -/
structure S111 where
 f0 : Int
 f1 : Int
 f2 : (List Int)
def z111 : S111 := ⟨(0 : Int), (0 : Int), ([] : List Int)⟩
def k111 : Kd S111 := Kd.iso (Kd.pair (Kd.int .i64) (Kd.pair (Kd.int .i64) (Kd.slice 21 (Kd.int .i32)))) (fun x : S111 => (x.f0, x.f1, x.f2))
theorem k111_open {w : World} {x : S111} {cs : List Value} (h : k111.K w x cs) : ∃ A2 c2, cs = [.int .i64 x.f0, .int .i64 x.f1, .slice A2 x.f2.length c2] ∧ x.f2.length ≤ c2 ∧ (Kd.int .i32).C w A2 x.f2.length x.f2 := by
 obtain ⟨_, _, rfl, rfl, ⟨_, _, rfl, rfl, ⟨A2, c2, rfl, l2, g2⟩⟩⟩ := h
 exact ⟨A2, c2, rfl, l2, g2⟩
theorem k111_openM {w : World} {base : Nat} {ok : Nat → Prop} {x : S111} {cs : List Value} (h : k111.M w base ok x cs) : ∃ v2, cs = [.int .i64 x.f0, .int .i64 x.f1, v2] ∧ (Kd.int .i32).R 21 w base ok v2 x.f2 := by
 obtain ⟨_, _, rfl, rfl, ⟨_, _, rfl, rfl, ⟨v2, rfl, g2⟩⟩⟩ := h
 exact ⟨v2, rfl, g2⟩
theorem k111_mk (w : World) (x : S111) {A2 : Option Addr} {c2 : Nat} (l2 : x.f2.length ≤ c2) (g2 : (Kd.int .i32).C w A2 x.f2.length x.f2) : k111.K w x [.int .i64 x.f0, .int .i64 x.f1, .slice A2 x.f2.length c2] := ⟨[.int .i64 x.f0], [.int .i64 x.f1, .slice A2 x.f2.length c2], rfl, rfl, ⟨[.int .i64 x.f1], [.slice A2 x.f2.length c2], rfl, rfl, ⟨A2, c2, rfl, l2, g2⟩⟩⟩
theorem k111_mkM (w : World) (base : Nat) (ok : Nat → Prop) (x : S111) {v2 : Value} (g2 : (Kd.int .i32).R 21 w base ok v2 x.f2) : k111.M w base ok x [.int .i64 x.f0, .int .i64 x.f1, v2] := ⟨[.int .i64 x.f0], [.int .i64 x.f1, v2], rfl, rfl, ⟨[.int .i64 x.f1], [v2], rfl, rfl, ⟨v2, rfl, g2⟩⟩⟩
def rd_T111 (xs : List S111) (i : Int) : S111 := xs.getD i.toNat z111
theorem at_T111 {w : World} {A : Option Addr} {n : Nat} {xs : List S111} (h : Kd.C k111 w A n xs) (i : Int) (h0 : 0 ≤ i) (h1 : i < n) : ∃ ad A2 c2, A = some ad ∧ w.cell? (ad.add (i.toNat * 3)) = some (.int .i64 (rd_T111 xs i).f0) ∧ w.cell? ⟨(ad.add (i.toNat * 3)).block, (ad.add (i.toNat * 3)).off + 1, none⟩ = some (.int .i64 (rd_T111 xs i).f1) ∧ w.cell? ⟨(ad.add (i.toNat * 3)).block, (ad.add (i.toNat * 3)).off + 2, none⟩ = some (.slice A2 (rd_T111 xs i).f2.length c2) ∧ (rd_T111 xs i).f2.length ≤ c2 ∧ (Kd.int .i32).C w A2 (rd_T111 xs i).f2.length (rd_T111 xs i).f2 := by
 obtain ⟨ad, c, e, _, hK, hc0⟩ := Kd.C_get h z111 i h0 h1
 have hc : ∀ j u, c[j]? = some u → w.cell? (ad.add (i.toNat * 3 + j)) = some u := hc0
 obtain ⟨A2, c2, rfl, l2, g2⟩ := k111_open hK
 exact ⟨ad, A2, c2, e, hc 0 _ rfl, by rw [← add_field _ _ 1 (by omega)]; exact hc 1 _ rfl, by rw [← add_field _ _ 2 (by omega)]; exact hc 2 _ rfl, l2, g2⟩

def rd_L12 (xs : List (List S111)) (i : Int) : (List S111) := xs.getD i.toNat ([] : List S111)
theorem at_L12 {w : World} {A : Option Addr} {n : Nat} {xs : List (List S111)} (h : Kd.C (Kd.slice 111 k111) w A n xs) (i : Int) (h0 : 0 ≤ i) (h1 : i < n) : ∃ ad A0 c0, A = some ad ∧ w.cell? (ad.add i.toNat) = some (.slice A0 (rd_L12 xs i).length c0) ∧ (rd_L12 xs i).length ≤ c0 ∧ k111.C w A0 (rd_L12 xs i).length (rd_L12 xs i) := by
 obtain ⟨ad, c, e, _, hK, hc0⟩ := Kd.C_get h ([] : List S111) i h0 h1
 have hc : ∀ j u, c[j]? = some u → w.cell? (ad.add (i.toNat * 1 + j)) = some u := hc0
 obtain ⟨A0, c0, rfl, l0, g0⟩ := hK
 exact ⟨ad, A0, c0, e, by have hq := hc 0 _ rfl; rwa [Nat.mul_one, Nat.add_zero] at hq, l0, g0⟩

/-! #### struct type 110 -/
structure S110 where
 f0 : Int
 f1 : Int
def z110 : S110 := ⟨(0 : Int), (0 : Int)⟩
def k110 : Kd S110 := Kd.iso (Kd.pair (Kd.int .i64) (Kd.int .i64)) (fun x : S110 => (x.f0, x.f1))
theorem k110_open {w : World} {x : S110} {cs : List Value} (h : k110.K w x cs) : cs = [.int .i64 x.f0, .int .i64 x.f1] := by
 obtain ⟨_, _, rfl, rfl, rfl⟩ := h
 exact rfl
theorem k110_openM {w : World} {base : Nat} {ok : Nat → Prop} {x : S110} {cs : List Value} (h : k110.M w base ok x cs) : cs = [.int .i64 x.f0, .int .i64 x.f1] := by
 obtain ⟨_, _, rfl, rfl, rfl⟩ := h
 exact rfl
theorem k110_mk (w : World) (x : S110)  : k110.K w x [.int .i64 x.f0, .int .i64 x.f1] := ⟨[.int .i64 x.f0], [.int .i64 x.f1], rfl, rfl, rfl⟩
theorem k110_mkM (w : World) (base : Nat) (ok : Nat → Prop) (x : S110)  : k110.M w base ok x [.int .i64 x.f0, .int .i64 x.f1] := ⟨[.int .i64 x.f0], [.int .i64 x.f1], rfl, rfl, rfl⟩
def rd_T110 (xs : List S110) (i : Int) : S110 := xs.getD i.toNat z110
theorem at_T110 {w : World} {A : Option Addr} {n : Nat} {xs : List S110} (h : Kd.C k110 w A n xs) (i : Int) (h0 : 0 ≤ i) (h1 : i < n) : ∃ ad , A = some ad ∧ w.cell? (ad.add (i.toNat * 2)) = some (.int .i64 (rd_T110 xs i).f0) ∧ w.cell? ⟨(ad.add (i.toNat * 2)).block, (ad.add (i.toNat * 2)).off + 1, none⟩ = some (.int .i64 (rd_T110 xs i).f1) := by
 obtain ⟨ad, c, e, _, hK, hc0⟩ := Kd.C_get h z110 i h0 h1
 have hc : ∀ j u, c[j]? = some u → w.cell? (ad.add (i.toNat * 2 + j)) = some u := hc0
 obtain rfl := k110_open hK
 exact ⟨ad, e, hc 0 _ rfl, by rw [← add_field _ _ 1 (by omega)]; exact hc 1 _ rfl⟩

end Go.Proofs.Ytehepnmagcjkaaa.PBlobParses
