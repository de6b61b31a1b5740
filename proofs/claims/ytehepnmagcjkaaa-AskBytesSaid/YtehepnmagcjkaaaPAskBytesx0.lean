-- Written by a program of this session (wip/tools/mkprint.py over the kit's print).
import Derived.Test.YtehepnmagcjkaaaProg
import Derived.Lib.SliceRun
import Derived.Maps.OwnSet
import Derived.Lib.Hide
import Derived.Deep.DeepFit
import Derived.Below
import Derived.Deep.Draws
import Derived.Deep.AppendLies
import Derived.Maps.AppendAt
import Derived.OwnWalk
import Derived.Laws.BytesArg
import Derived.Laws.MakeOwn
import Derived.Laws.OwnMore
import Derived.Deep.OwnRows
import Derived.Tactics
import Derived.Lib.ConvBytes
import Derived.Laws.Slices
import Derived.WalkKit
import Derived.KernelRfl
import Derived.RowKit3
import Derived.Deep.LoopGhost
import Derived.Deep.QuietTactic
import Derived.BigQuiet
import Derived.WideLaws
import Derived.Deep.DeepCutAuto
import Derived.Deep.CutBlock
import Derived.Deep.RegionHeld3
import Derived.Laws.Rows
import Derived.Lib.AppendStr
import Derived.ArgAppend
import Derived.Laws.IdiomCopy
import Derived.OrdersHeld
import Derived.Laws.BitsLemmas
import Derived.RowKit
import Derived.Test.YtehepnmagcjkaaaVAskBytesWords
import Derived.Test.YtehepnmagcjkaaaVAskBytesLast
import Derived.Test.YtehepnmagcjkaaaVAskBytesTab
import Derived.Test.YtehepnmagcjkaaaVAskBytesApart
import Derived.Test.YtehepnmagcjkaaaVAskBytesFoot
import Derived.Test.YtehepnmagcjkaaaVAskBytesKept
import Derived.Test.YtehepnmagcjkaaaVAskBytesShare
import Derived.Test.YtehepnmagcjkaaaVAskBytesN
import Derived.Test.YtehepnmagcjkaaaVAskBytesEqStruct
import Derived.Test.YtehepnmagcjkaaaVAskBytesRepsOne
import Derived.Test.YtehepnmagcjkaaaVAskBytesGuard
import Derived.Test.YtehepnmagcjkaaaVAskBytesMore
namespace Go.Proofs.Ytehepnmagcjkaaa.PAskBytes
open Go.RowKit Go.Proofs.YtehepnmagcjkaaaW.PrintWords Go.Proofs.YtehepnmagcjkaaaW.PrintLast Go.Proofs.YtehepnmagcjkaaaW.PrintMore
attribute [local go_sem] max2_int min2_int max_two min_two max_three min_three max_four min_four   -- for this text's walks alone
set_option linter.unusedVariables false
set_option linter.unusedSimpArgs false



def errW : Option Int → Value
 | none => .nilIface
 | some c => .iface 0 (.int .i64 c)
theorem errW_none : errW none = .nilIface := rfl
theorem errW_some (c : Int) : errW (some c) = .iface 0 (.int .i64 c) := rfl

-- this session's own lemmas, ahead of the printed texts
/-- A literal row of bytes that is turned into its own type ('[]byte("..")'): it is marked, and from here on it is only read. -/
theorem run_mark {P : Program} {t e : TypeId} (ht : P.underlying t = some (.slice e)) (he : P.underlying e = some (.int .u8)) {W : World} {base : Nat} {ok : Nat → Prop} {A : Option Addr} {c : Nat} {xs : List Int}
  (HO : (Kd.int .u8).R e W base ok (.slice A xs.length c) xs) (hne : 0 < xs.length) :
  ∃ w1, (convert t t (.slice A xs.length c)).run P W = .ok (.slice A xs.length c) w1 ∧ (Kd.int .u8).C w1 A xs.length xs ∧ W.grownBy w1 (Value.slice A xs.length c).ownBlock ∧ (∀ w0 : World, Below base w0 W → Below base w0 w1) ∧ xs.length ≤ c := by
 have hC := (Kd.R_reads' HO).2.2
 have hl := (Kd.R_reads' HO).2.1
 have ho := Kd.own_of_R HO
 rcases ho.2 with ⟨h1, h2⟩ | ⟨g, cap, cur, hv, hg, hh, hn, hcm, hsz, htk⟩
 ·
  omega
 ·
  injection hv with hv1 hv2 hv3
  subst hv1
  refine ⟨W.freeze ⟨g, cur.size, none⟩ 1, ?_, ?_, ?_, ?_, hl⟩
  ·
   have hsh : W.shape? g = some (e, cur.size) := by
    unfold World.shape?
    rw [hh]
   simp [convert, run_underlying ht, run_underlying he, markStringish, hsh]
  ·
   have hcell : ∀ a, (W.freeze ⟨g, cur.size, none⟩ 1).cell? a = W.cell? a := by
    intro a
    unfold World.freeze World.cell?
    rw [if_neg (by decide)]
    simp only [Array.getElem?_modify]
    by_cases hb : g = a.block
    ·
     rw [if_pos hb, ← hb, hh]
     rfl
    ·
     rw [if_neg hb]
   refine ⟨hC.1, hC.2.1, fun hp => ?_⟩
   obtain ⟨ad, hA, hread⟩ := hC.2.2 hp
   refine ⟨ad, hA, fun j p hj => ?_⟩
   obtain ⟨cs, h1, h2, h3⟩ := hread j p hj
   exact ⟨cs, h1, h2, fun i u hu => by rw [hcell]; exact h3 i u hu⟩
  ·
   refine ⟨rfl, rfl, rfl, ?_, fun k hk hne2 => ?_⟩
   ·
    unfold World.freeze
    rw [if_neg (by decide)]
    simp
   ·
    unfold World.freeze
    rw [if_neg (by decide)]
    have : g ≠ k := fun h => hne2 (by rw [h]; rfl)
    simp [Array.getElem?_modify, this]
  ·
   intro w0 hb
   refine ⟨hb.os, hb.tape, hb.output, ?_, fun k hk => ?_⟩
   ·
    unfold World.freeze
    rw [if_neg (by decide)]
    simpa using hb.size
   ·
    unfold World.freeze
    rw [if_neg (by decide)]
    have : g ≠ k := by omega
    simp only [Array.getElem?_modify, this, if_false]
    exact hb.block k hk
/-- '[]byte(s)': one row more, marked: it is only read. -/
theorem run_bytes {P : Program} {st dt e : TypeId} (hs : P.underlying st = some .string) (hd : P.underlying dt = some (.slice e)) (he : P.underlying e = some (.int .u8)) (W : World) (s : ByteArray) (hl : s.size < 140737488355328) :
  ∃ w1 A c, (convert st dt (.string s)).run P W = .ok (.slice A (bytesOf s).length c) w1 ∧ (Kd.int .u8).C w1 A (bytesOf s).length (bytesOf s) ∧ Below W.heap.size W w1 ∧ (bytesOf s).length ≤ c := by
 have h := bytes_reads W e s (by omega)
 rw [← bytesOf_length s] at h
 refine ⟨Lib.bytesWorld W e s, _, grownCap W s.size 0 e, by rw [bytesOf_length]; exact print_bytes st dt e hs hd he s W, Kd.C_of_reads (enc := Value.int .u8) (d := (0 : Int)) (h1 := fun _ => rfl) h, bytes_below (Below.refl _ _) (Nat.le_refl _) e s, ?_⟩
 rw [bytesOf_length]
 exact grownCap_ge W s.size 0 e

theorem info3 : (Try.prog.info? 3).map (fun i => (i.zero, i.size, i.bytes)) = some (some (.int .i64 0), 1, 8) := by kernel_rfl
theorem info5 : (Try.prog.info? 5).map (fun i => (i.zero, i.size, i.bytes)) = some (some (.int .u8 0), 1, 1) := by kernel_rfl
-- the values' own types
def rd_L2 (xs : List (List Int)) (i : Int) : (List Int) := xs.getD i.toNat ([] : List Int)
theorem at_L2 {w : World} {A : Option Addr} {n : Nat} {xs : List (List Int)} (h : Kd.C (Kd.slice 3 (Kd.int .i64)) w A n xs) (i : Int) (h0 : 0 ≤ i) (h1 : i < n) : ∃ ad A0 c0, A = some ad ∧ w.cell? (ad.add i.toNat) = some (.slice A0 (rd_L2 xs i).length c0) ∧ (rd_L2 xs i).length ≤ c0 ∧ (Kd.int .i64).C w A0 (rd_L2 xs i).length (rd_L2 xs i) := by
 obtain ⟨ad, c, e, _, hK, hc0⟩ := Kd.C_get h ([] : List Int) i h0 h1
 have hc : ∀ j u, c[j]? = some u → w.cell? (ad.add (i.toNat * 1 + j)) = some u := hc0
 obtain ⟨A0, c0, rfl, l0, g0⟩ := hK
 exact ⟨ad, A0, c0, e, by have hq := hc 0 _ rfl; rwa [Nat.mul_one, Nat.add_zero] at hq, l0, g0⟩

def rd_L6 (xs : List (List Int)) (i : Int) : (List Int) := xs.getD i.toNat ([] : List Int)
theorem at_L6 {w : World} {A : Option Addr} {n : Nat} {xs : List (List Int)} (h : Kd.C (Kd.slice 5 (Kd.int .u8)) w A n xs) (i : Int) (h0 : 0 ≤ i) (h1 : i < n) : ∃ ad A0 c0, A = some ad ∧ w.cell? (ad.add i.toNat) = some (.slice A0 (rd_L6 xs i).length c0) ∧ (rd_L6 xs i).length ≤ c0 ∧ (Kd.int .u8).C w A0 (rd_L6 xs i).length (rd_L6 xs i) := by
 obtain ⟨ad, c, e, _, hK, hc0⟩ := Kd.C_get h ([] : List Int) i h0 h1
 have hc : ∀ j u, c[j]? = some u → w.cell? (ad.add (i.toNat * 1 + j)) = some u := hc0
 obtain ⟨A0, c0, rfl, l0, g0⟩ := hK
 exact ⟨ad, A0, c0, e, by have hq := hc 0 _ rfl; rwa [Nat.mul_one, Nat.add_zero] at hq, l0, g0⟩

/-! #### struct type 26 -/
structure S26 where
 f0 : Int
 f1 : Int
 f2 : Int
def z26 : S26 := ⟨(0 : Int), (0 : Int), (0 : Int)⟩
def k26 : Kd S26 := Kd.iso (Kd.pair (Kd.int .i32) (Kd.pair (Kd.int .i64) (Kd.int .u64))) (fun x : S26 => (x.f0, x.f1, x.f2))
theorem k26_open {w : World} {x : S26} {cs : List Value} (h : k26.K w x cs) : cs = [.int .i32 x.f0, .int .i64 x.f1, .int .u64 x.f2] := by
 obtain ⟨_, _, rfl, rfl, ⟨_, _, rfl, rfl, rfl⟩⟩ := h
 exact rfl
theorem k26_openM {w : World} {base : Nat} {ok : Nat → Prop} {x : S26} {cs : List Value} (h : k26.M w base ok x cs) : cs = [.int .i32 x.f0, .int .i64 x.f1, .int .u64 x.f2] := by
 obtain ⟨_, _, rfl, rfl, ⟨_, _, rfl, rfl, rfl⟩⟩ := h
 exact rfl
theorem k26_mk (w : World) (x : S26)  : k26.K w x [.int .i32 x.f0, .int .i64 x.f1, .int .u64 x.f2] := ⟨[.int .i32 x.f0], [.int .i64 x.f1, .int .u64 x.f2], rfl, rfl, ⟨[.int .i64 x.f1], [.int .u64 x.f2], rfl, rfl, rfl⟩⟩
theorem k26_mkM (w : World) (base : Nat) (ok : Nat → Prop) (x : S26)  : k26.M w base ok x [.int .i32 x.f0, .int .i64 x.f1, .int .u64 x.f2] := ⟨[.int .i32 x.f0], [.int .i64 x.f1, .int .u64 x.f2], rfl, rfl, ⟨[.int .i64 x.f1], [.int .u64 x.f2], rfl, rfl, rfl⟩⟩
def rd_T26 (xs : List S26) (i : Int) : S26 := xs.getD i.toNat z26
theorem at_T26 {w : World} {A : Option Addr} {n : Nat} {xs : List S26} (h : Kd.C k26 w A n xs) (i : Int) (h0 : 0 ≤ i) (h1 : i < n) : ∃ ad , A = some ad ∧ w.cell? (ad.add (i.toNat * 3)) = some (.int .i32 (rd_T26 xs i).f0) ∧ w.cell? ⟨(ad.add (i.toNat * 3)).block, (ad.add (i.toNat * 3)).off + 1, none⟩ = some (.int .i64 (rd_T26 xs i).f1) ∧ w.cell? ⟨(ad.add (i.toNat * 3)).block, (ad.add (i.toNat * 3)).off + 2, none⟩ = some (.int .u64 (rd_T26 xs i).f2) := by
 obtain ⟨ad, c, e, _, hK, hc0⟩ := Kd.C_get h z26 i h0 h1
 have hc : ∀ j u, c[j]? = some u → w.cell? (ad.add (i.toNat * 3 + j)) = some u := hc0
 obtain rfl := k26_open hK
 exact ⟨ad, e, hc 0 _ rfl, by rw [← add_field _ _ 1 (by omega)]; exact hc 1 _ rfl, by rw [← add_field _ _ 2 (by omega)]; exact hc 2 _ rfl⟩

/-! #### struct type 28 -/
structure S28 where
 f0 : (List Int)
 f1 : Int
 f2 : Int
 f3 : S26
def z28 : S28 := ⟨([] : List Int), (0 : Int), (0 : Int), z26⟩
def k28 : Kd S28 := Kd.iso (Kd.pair (Kd.slice 3 (Kd.int .i64)) (Kd.pair (Kd.int .i64) (Kd.pair (Kd.int .i64) k26))) (fun x : S28 => (x.f0, x.f1, x.f2, x.f3))
theorem k28_open {w : World} {x : S28} {cs : List Value} (h : k28.K w x cs) : ∃ A0 c0, cs = [.slice A0 x.f0.length c0, .int .i64 x.f1, .int .i64 x.f2, .int .i32 x.f3.f0, .int .i64 x.f3.f1, .int .u64 x.f3.f2] ∧ x.f0.length ≤ c0 ∧ (Kd.int .i64).C w A0 x.f0.length x.f0 := by
 obtain ⟨_, _, rfl, ⟨A0, c0, rfl, l0, g0⟩, ⟨_, _, rfl, rfl, ⟨_, _, rfl, rfl, s3⟩⟩⟩ := h
 obtain rfl := k26_open s3
 exact ⟨A0, c0, rfl, l0, g0⟩
theorem k28_openM {w : World} {base : Nat} {ok : Nat → Prop} {x : S28} {cs : List Value} (h : k28.M w base ok x cs) : ∃ v0, cs = [v0, .int .i64 x.f1, .int .i64 x.f2, .int .i32 x.f3.f0, .int .i64 x.f3.f1, .int .u64 x.f3.f2] ∧ (Kd.int .i64).R 3 w base ok v0 x.f0 := by
 obtain ⟨_, _, rfl, ⟨v0, rfl, g0⟩, ⟨_, _, rfl, rfl, ⟨_, _, rfl, rfl, s3⟩⟩⟩ := h
 obtain rfl := k26_openM s3
 exact ⟨v0, rfl, g0⟩
theorem k28_mk (w : World) (x : S28) {A0 : Option Addr} {c0 : Nat} (l0 : x.f0.length ≤ c0) (g0 : (Kd.int .i64).C w A0 x.f0.length x.f0) : k28.K w x [.slice A0 x.f0.length c0, .int .i64 x.f1, .int .i64 x.f2, .int .i32 x.f3.f0, .int .i64 x.f3.f1, .int .u64 x.f3.f2] := ⟨[.slice A0 x.f0.length c0], [.int .i64 x.f1, .int .i64 x.f2, .int .i32 x.f3.f0, .int .i64 x.f3.f1, .int .u64 x.f3.f2], rfl, ⟨A0, c0, rfl, l0, g0⟩, ⟨[.int .i64 x.f1], [.int .i64 x.f2, .int .i32 x.f3.f0, .int .i64 x.f3.f1, .int .u64 x.f3.f2], rfl, rfl, ⟨[.int .i64 x.f2], [.int .i32 x.f3.f0, .int .i64 x.f3.f1, .int .u64 x.f3.f2], rfl, rfl, (k26_mk w x.f3 )⟩⟩⟩
theorem k28_mkM (w : World) (base : Nat) (ok : Nat → Prop) (x : S28) {v0 : Value} (g0 : (Kd.int .i64).R 3 w base ok v0 x.f0) : k28.M w base ok x [v0, .int .i64 x.f1, .int .i64 x.f2, .int .i32 x.f3.f0, .int .i64 x.f3.f1, .int .u64 x.f3.f2] := ⟨[v0], [.int .i64 x.f1, .int .i64 x.f2, .int .i32 x.f3.f0, .int .i64 x.f3.f1, .int .u64 x.f3.f2], rfl, ⟨v0, rfl, g0⟩, ⟨[.int .i64 x.f1], [.int .i64 x.f2, .int .i32 x.f3.f0, .int .i64 x.f3.f1, .int .u64 x.f3.f2], rfl, rfl, ⟨[.int .i64 x.f2], [.int .i32 x.f3.f0, .int .i64 x.f3.f1, .int .u64 x.f3.f2], rfl, rfl, (k26_mkM w base ok x.f3 )⟩⟩⟩
def rd_T28 (xs : List S28) (i : Int) : S28 := xs.getD i.toNat z28
theorem at_T28 {w : World} {A : Option Addr} {n : Nat} {xs : List S28} (h : Kd.C k28 w A n xs) (i : Int) (h0 : 0 ≤ i) (h1 : i < n) : ∃ ad A0 c0, A = some ad ∧ w.cell? (ad.add (i.toNat * 6)) = some (.slice A0 (rd_T28 xs i).f0.length c0) ∧ w.cell? ⟨(ad.add (i.toNat * 6)).block, (ad.add (i.toNat * 6)).off + 1, none⟩ = some (.int .i64 (rd_T28 xs i).f1) ∧ w.cell? ⟨(ad.add (i.toNat * 6)).block, (ad.add (i.toNat * 6)).off + 2, none⟩ = some (.int .i64 (rd_T28 xs i).f2) ∧ w.cell? ⟨(ad.add (i.toNat * 6)).block, (ad.add (i.toNat * 6)).off + 3, none⟩ = some (.int .i32 (rd_T28 xs i).f3.f0) ∧ w.cell? ⟨(ad.add (i.toNat * 6)).block, (ad.add (i.toNat * 6)).off + 4, none⟩ = some (.int .i64 (rd_T28 xs i).f3.f1) ∧ w.cell? ⟨(ad.add (i.toNat * 6)).block, (ad.add (i.toNat * 6)).off + 5, none⟩ = some (.int .u64 (rd_T28 xs i).f3.f2) ∧ (rd_T28 xs i).f0.length ≤ c0 ∧ (Kd.int .i64).C w A0 (rd_T28 xs i).f0.length (rd_T28 xs i).f0 := by
 obtain ⟨ad, c, e, _, hK, hc0⟩ := Kd.C_get h z28 i h0 h1
 have hc : ∀ j u, c[j]? = some u → w.cell? (ad.add (i.toNat * 6 + j)) = some u := hc0
 obtain ⟨A0, c0, rfl, l0, g0⟩ := k28_open hK
 exact ⟨ad, A0, c0, e, hc 0 _ rfl, by rw [← add_field _ _ 1 (by omega)]; exact hc 1 _ rfl, by rw [← add_field _ _ 2 (by omega)]; exact hc 2 _ rfl, by rw [← add_field _ _ 3 (by omega)]; exact hc 3 _ rfl, by rw [← add_field _ _ 4 (by omega)]; exact hc 4 _ rfl, by rw [← add_field _ _ 5 (by omega)]; exact hc 5 _ rfl, l0, g0⟩

/-! #### struct type 30 -/
structure S30 where
 f0 : Int
 f1 : Int
 f2 : S28
 f3 : Int
def z30 : S30 := ⟨(0 : Int), (0 : Int), z28, (0 : Int)⟩
def k30 : Kd S30 := Kd.iso (Kd.pair (Kd.int .i64) (Kd.pair (Kd.int .u32) (Kd.pair k28 (Kd.int .i64)))) (fun x : S30 => (x.f0, x.f1, x.f2, x.f3))
theorem k30_open {w : World} {x : S30} {cs : List Value} (h : k30.K w x cs) : ∃ A2 c2, cs = [.int .i64 x.f0, .int .u32 x.f1, .slice A2 x.f2.f0.length c2, .int .i64 x.f2.f1, .int .i64 x.f2.f2, .int .i32 x.f2.f3.f0, .int .i64 x.f2.f3.f1, .int .u64 x.f2.f3.f2, .int .i64 x.f3] ∧ x.f2.f0.length ≤ c2 ∧ (Kd.int .i64).C w A2 x.f2.f0.length x.f2.f0 := by
 obtain ⟨_, _, rfl, rfl, ⟨_, _, rfl, rfl, ⟨_, _, rfl, s2, rfl⟩⟩⟩ := h
 obtain ⟨A2, c2, rfl, l2, g2⟩ := k28_open s2
 exact ⟨A2, c2, rfl, l2, g2⟩
theorem k30_openM {w : World} {base : Nat} {ok : Nat → Prop} {x : S30} {cs : List Value} (h : k30.M w base ok x cs) : ∃ v2, cs = [.int .i64 x.f0, .int .u32 x.f1, v2, .int .i64 x.f2.f1, .int .i64 x.f2.f2, .int .i32 x.f2.f3.f0, .int .i64 x.f2.f3.f1, .int .u64 x.f2.f3.f2, .int .i64 x.f3] ∧ (Kd.int .i64).R 3 w base ok v2 x.f2.f0 := by
 obtain ⟨_, _, rfl, rfl, ⟨_, _, rfl, rfl, ⟨_, _, rfl, s2, rfl⟩⟩⟩ := h
 obtain ⟨v2, rfl, g2⟩ := k28_openM s2
 exact ⟨v2, rfl, g2⟩
theorem k30_mk (w : World) (x : S30) {A2 : Option Addr} {c2 : Nat} (l2 : x.f2.f0.length ≤ c2) (g2 : (Kd.int .i64).C w A2 x.f2.f0.length x.f2.f0) : k30.K w x [.int .i64 x.f0, .int .u32 x.f1, .slice A2 x.f2.f0.length c2, .int .i64 x.f2.f1, .int .i64 x.f2.f2, .int .i32 x.f2.f3.f0, .int .i64 x.f2.f3.f1, .int .u64 x.f2.f3.f2, .int .i64 x.f3] := ⟨[.int .i64 x.f0], [.int .u32 x.f1, .slice A2 x.f2.f0.length c2, .int .i64 x.f2.f1, .int .i64 x.f2.f2, .int .i32 x.f2.f3.f0, .int .i64 x.f2.f3.f1, .int .u64 x.f2.f3.f2, .int .i64 x.f3], rfl, rfl, ⟨[.int .u32 x.f1], [.slice A2 x.f2.f0.length c2, .int .i64 x.f2.f1, .int .i64 x.f2.f2, .int .i32 x.f2.f3.f0, .int .i64 x.f2.f3.f1, .int .u64 x.f2.f3.f2, .int .i64 x.f3], rfl, rfl, ⟨[.slice A2 x.f2.f0.length c2, .int .i64 x.f2.f1, .int .i64 x.f2.f2, .int .i32 x.f2.f3.f0, .int .i64 x.f2.f3.f1, .int .u64 x.f2.f3.f2], [.int .i64 x.f3], rfl, (k28_mk w x.f2 l2 g2), rfl⟩⟩⟩
theorem k30_mkM (w : World) (base : Nat) (ok : Nat → Prop) (x : S30) {v2 : Value} (g2 : (Kd.int .i64).R 3 w base ok v2 x.f2.f0) : k30.M w base ok x [.int .i64 x.f0, .int .u32 x.f1, v2, .int .i64 x.f2.f1, .int .i64 x.f2.f2, .int .i32 x.f2.f3.f0, .int .i64 x.f2.f3.f1, .int .u64 x.f2.f3.f2, .int .i64 x.f3] := ⟨[.int .i64 x.f0], [.int .u32 x.f1, v2, .int .i64 x.f2.f1, .int .i64 x.f2.f2, .int .i32 x.f2.f3.f0, .int .i64 x.f2.f3.f1, .int .u64 x.f2.f3.f2, .int .i64 x.f3], rfl, rfl, ⟨[.int .u32 x.f1], [v2, .int .i64 x.f2.f1, .int .i64 x.f2.f2, .int .i32 x.f2.f3.f0, .int .i64 x.f2.f3.f1, .int .u64 x.f2.f3.f2, .int .i64 x.f3], rfl, rfl, ⟨[v2, .int .i64 x.f2.f1, .int .i64 x.f2.f2, .int .i32 x.f2.f3.f0, .int .i64 x.f2.f3.f1, .int .u64 x.f2.f3.f2], [.int .i64 x.f3], rfl, (k28_mkM w base ok x.f2 g2), rfl⟩⟩⟩
def rd_T30 (xs : List S30) (i : Int) : S30 := xs.getD i.toNat z30
theorem at_T30 {w : World} {A : Option Addr} {n : Nat} {xs : List S30} (h : Kd.C k30 w A n xs) (i : Int) (h0 : 0 ≤ i) (h1 : i < n) : ∃ ad A2 c2, A = some ad ∧ w.cell? (ad.add (i.toNat * 9)) = some (.int .i64 (rd_T30 xs i).f0) ∧ w.cell? ⟨(ad.add (i.toNat * 9)).block, (ad.add (i.toNat * 9)).off + 1, none⟩ = some (.int .u32 (rd_T30 xs i).f1) ∧ w.cell? ⟨(ad.add (i.toNat * 9)).block, (ad.add (i.toNat * 9)).off + 2, none⟩ = some (.slice A2 (rd_T30 xs i).f2.f0.length c2) ∧ w.cell? ⟨(ad.add (i.toNat * 9)).block, (ad.add (i.toNat * 9)).off + 3, none⟩ = some (.int .i64 (rd_T30 xs i).f2.f1) ∧ w.cell? ⟨(ad.add (i.toNat * 9)).block, (ad.add (i.toNat * 9)).off + 4, none⟩ = some (.int .i64 (rd_T30 xs i).f2.f2) ∧ w.cell? ⟨(ad.add (i.toNat * 9)).block, (ad.add (i.toNat * 9)).off + 5, none⟩ = some (.int .i32 (rd_T30 xs i).f2.f3.f0) ∧ w.cell? ⟨(ad.add (i.toNat * 9)).block, (ad.add (i.toNat * 9)).off + 6, none⟩ = some (.int .i64 (rd_T30 xs i).f2.f3.f1) ∧ w.cell? ⟨(ad.add (i.toNat * 9)).block, (ad.add (i.toNat * 9)).off + 7, none⟩ = some (.int .u64 (rd_T30 xs i).f2.f3.f2) ∧ w.cell? ⟨(ad.add (i.toNat * 9)).block, (ad.add (i.toNat * 9)).off + 8, none⟩ = some (.int .i64 (rd_T30 xs i).f3) ∧ (rd_T30 xs i).f2.f0.length ≤ c2 ∧ (Kd.int .i64).C w A2 (rd_T30 xs i).f2.f0.length (rd_T30 xs i).f2.f0 := by
 obtain ⟨ad, c, e, _, hK, hc0⟩ := Kd.C_get h z30 i h0 h1
 have hc : ∀ j u, c[j]? = some u → w.cell? (ad.add (i.toNat * 9 + j)) = some u := hc0
 obtain ⟨A2, c2, rfl, l2, g2⟩ := k30_open hK
 exact ⟨ad, A2, c2, e, hc 0 _ rfl, by rw [← add_field _ _ 1 (by omega)]; exact hc 1 _ rfl, by rw [← add_field _ _ 2 (by omega)]; exact hc 2 _ rfl, by rw [← add_field _ _ 3 (by omega)]; exact hc 3 _ rfl, by rw [← add_field _ _ 4 (by omega)]; exact hc 4 _ rfl, by rw [← add_field _ _ 5 (by omega)]; exact hc 5 _ rfl, by rw [← add_field _ _ 6 (by omega)]; exact hc 6 _ rfl, by rw [← add_field _ _ 7 (by omega)]; exact hc 7 _ rfl, by rw [← add_field _ _ 8 (by omega)]; exact hc 8 _ rfl, l2, g2⟩

end Go.Proofs.Ytehepnmagcjkaaa.PAskBytes
