-- Written by a program of this session (wip/tools/mkprint.py over the kit's print).
import Derived.Test.YtehepnmagcjkaaaPBlobBytesx0
import Derived.Test.YtehepnmagcjkaaaPBlobBytesx3
import Derived.Test.YtehepnmagcjkaaaPBlobBytesx7
import Derived.Test.YtehepnmagcjkaaaPBlobBytesx11
namespace Go.Proofs.Ytehepnmagcjkaaa.PBlobBytes
open Go.RowKit Go.Proofs.YtehepnmagcjkaaaW.PrintWords Go.Proofs.YtehepnmagcjkaaaW.PrintLast Go.Proofs.YtehepnmagcjkaaaW.PrintMore
attribute [local go_sem] max2_int min2_int max_two min_two max_three min_three max_four min_four   -- for this text's walks alone
set_option linter.unusedVariables false
set_option linter.unusedSimpArgs false
theorem bx2 {w : World} {g : Nat} {t : TypeId} {a0 a1 : Value} (h : w.heap[g]? = some (.cells #[a0, a1] t (0, 0))) : w.cell? ⟨g, 0, none⟩ = some a0 ∧ w.cell? ⟨g, 1, none⟩ = some a1 ∧ (∀ i, w.frozen? ⟨g, i, none⟩ = false) := ⟨(blk_cell h 0).trans rfl, (blk_cell h 1).trans rfl, blk_frozen h⟩
theorem ifp {P : Prop} {_ : Decidable P} {α : Type} {x : Option α} {r : α} (h : (if P then x else none) = some r) : P ∧ x = some r := by
 by_cases p : P
 ·
  rw [if_pos p] at h; exact ⟨p, h⟩
 ·
  rw [if_neg p] at h; cases h
theorem ifn {P : Prop} {_ : Decidable P} {α : Type} {x : Option α} {r : α} (h : (if P then none else x) = some r) : ¬ P ∧ x = some r := by
 by_cases p : P
 ·
  rw [if_pos p] at h; cases h
 ·
  rw [if_neg p] at h; exact ⟨p, h⟩
theorem bst {w W w2 : World} (h : Aside0 (Below w.heap.size w W)) (k : Below W.heap.size W w2) : Aside0 (Below w.heap.size w w2) := ⟨below_step h.out k⟩
theorem bsz {w W : World} (h : Aside0 (Below w.heap.size w W)) : w.heap.size ≤ W.heap.size := below_size h.out
theorem kst {w w1 : World} {g : Nat} {o : Obj} (h : Aside0 (w.heap[g]? = some o)) (hb : Below w.heap.size w w1) : Aside0 (w1.heap[g]? = some o) := ⟨blk_below h.out hb⟩
def bA (n m : Nat) : Array Bool := ⟨(List.range n).map fun i => m.testBit i⟩
section
variable {P : Program} {ops : Array Oper} {Q : Exit → Act → World → Prop} {md : Region.Mode} {S : World → Prop} {ds : List Nat} {T : Bool × List (List Nat × List Nat)} {BM : List Nat}
end
section
variable {P : Program} {ops : Array Oper} {rest : List Oper} {o : Oper} {a : Act} {Q : Exit → Act → World → Prop}
theorem bxE {W : World} (N : Nat) (cs : Array Value) (t : TypeId) (hgd : o.guard = none := by rfl) (hd : o.dst = some N := by rfl) (hr : (execOp a.eval o).run P W = .ok (.value (.pointer (some ⟨W.heap.size, 0, none⟩))) (W.alloc (.cells cs t (0, 0))) := by first | (go_simp; done) | (go_simp; rfl))
  (h : ∀ g, g = W.heap.size → ∀ w1, w1.heap[g]? = some (.cells cs t (0, 0)) → Below W.heap.size W w1 → wpList P ops Q rest (a.put o.dst (.pointer (some ⟨g, 0, none⟩))) w1) : wpList P ops Q (o :: rest) a W := box_event hgd hd hr h
end
theorem gE {w W : World} {gb : Nat} (hg : gb = W.heap.size) (h : Aside0 (Below w.heap.size w W)) : Aside0 (w.heap.size ≤ gb) := ⟨by rw [hg]; exact below_size h.out⟩
theorem dT {p : Prop} [Decidable p] (h : p) : decide p = true := decide_eq_true h
theorem dF {p : Prop} [Decidable p] (h : ¬ p) : decide p = false := decide_eq_false h
theorem oI {α : Type} {a b : α} (h : some a = some b) : a = b := Option.some.inj h

/-! ### credenzalaw18_small: function 29 -/
def smS (P : List S111) : Nat := (P.map fun p => min p.f2.length 5000).sum
theorem smS_le : ∀ P : List S111, smS P ≤ 5000 * P.length
 | [] => Nat.zero_le _
 | p :: P => by
  have := smS_le P
  simp only [smS, List.map_cons, List.sum_cons, List.length_cons] at this ⊢
  have := Nat.min_le_right p.f2.length 5000
  omega
theorem smS_succ {P : List S111} {i : Nat} {x : S111} (h : P[i]? = some x) : smS (P.take (i + 1)) = smS (P.take i) + min x.f2.length 5000 := by
 unfold smS
 rw [List.take_add_one, h, List.map_append, List.sum_append]
 simp
def smallB (n6 n10 : Nat) (P : List S111) : Bool := decide (n10 ≤ 5) && decide (n6 ≤ 20) && decide (smS P ≤ 5000)
theorem layR_len (l : List S120) : (l.flatMap layR).length = 9 * l.length := by
 induction l with
 | nil => rfl
 | cons x l ih => rw [List.flatMap_cons, List.length_append, ih]; simp only [layR, List.length_cons, List.length_nil]; omega
theorem refP_len (a7 a8 : Int) (l9 : List Int) (l10 : List S120) (l11 : List Int) (a12 a13 : Int) (l14 : List Int) : (refP a7 a8 l9 l10 l11 a12 a13 l14).length = 9 * l10.length + 3 := by
 unfold refP
 rw [List.length_append, List.length_append, layR_len]
 simp only [List.length_cons, List.length_nil]
 omega
theorem field73 (a0 a1 a2 a3 a4 a5 a6 : Int) (A B : Option Addr) (n m c d : Nat) (w : World) : (Instr.field 73 (Value.agg #[.int .i64 a0, .int .i64 a1, .int .i64 a2, .int .i64 a3, .int .i64 a4, .int .i64 a5, .int .i64 a6, .slice A n c, .slice B m d]) 3).run Try.prog w = .ok (.slice B m d) w := by kernel_rfl
set_option maxHeartbeats 8000000 in
set_option maxRecDepth 100000 in
theorem bsmall.calls (a0_0 : Int) (a0_1 : Int) (a0_2 : Int) (a0_3 : Int) (a0_4 : Int) (a0_5 : Int) (A0_6 : Option Addr) (c0_6 : Nat) (l0_6 : List (S115)) (a0_7 : Int) (a0_8 : Int) (A0_9 : Option Addr) (c0_9 : Nat) (l0_9 : List Int) (A0_10 : Option Addr) (c0_10 : Nat) (l0_10 : List (S120)) (A0_11 : Option Addr) (c0_11 : Nat) (l0_11 : List Int) (a0_12 : Int) (a0_13 : Int) (A0_14 : Option Addr) (c0_14 : Nat) (l0_14 : List Int) (w : World) (hr0_6 : Kd.C k115 w A0_6 l0_6.length l0_6) (hc0_6 : l0_6.length ≤ c0_6) (hr0_9 : Kd.C (Kd.int .i32) w A0_9 l0_9.length l0_9) (hc0_9 : l0_9.length ≤ c0_9) (hr0_10 : Kd.C k120 w A0_10 l0_10.length l0_10) (hc0_10 : l0_10.length ≤ c0_10) (hr0_11 : Kd.C (Kd.int .i32) w A0_11 l0_11.length l0_11) (hc0_11 : l0_11.length ≤ c0_11) (hr0_14 : Kd.C (Kd.int .i32) w A0_14 l0_14.length l0_14) (hc0_14 : l0_14.length ≤ c0_14) (h6 : l0_6.length ≤ 17592186043904) (h10 : l0_10.length ≤ 430000000000) :
  Calls Try.prog 29 #[.agg #[.int .i64 a0_0, .int .i64 a0_1, .int .i64 a0_2, .int .i64 a0_3, .int .i64 a0_4, .int .i64 a0_5, .slice A0_6 l0_6.length c0_6, .int .i64 a0_7, .int .i64 a0_8, .slice A0_9 l0_9.length c0_9, .slice A0_10 l0_10.length c0_10, .slice A0_11 l0_11.length c0_11, .int .i64 a0_12, .int .i64 a0_13, .slice A0_14 l0_14.length c0_14]] w fun e w' => e = .returned (.bool (smallB l0_6.length l0_10.length (refP a0_7 a0_8 l0_9 l0_10 l0_11 a0_12 a0_13 l0_14))) ∧ Below w.heap.size w w' := by
 have hu67 := Try.underlying67
 have hu73 := Try.underlying73
 have hu111 := Try.underlying111
 have hfld := fun (A B : Option Addr) (n m c d : Nat) (w : World) => field73 a0_0 a0_1 a0_2 a0_3 a0_4 a0_5 (l0_10.length : Int) A B n m c d w
 have HB := aM (Below.refl w.heap.size w)
 have HH : Aside0 ((Kd.C k115 w A0_6 l0_6.length l0_6) ∧ (l0_6.length ≤ c0_6) ∧ (Kd.C (Kd.int .i32) w A0_9 l0_9.length l0_9) ∧ (l0_9.length ≤ c0_9) ∧ (Kd.C k120 w A0_10 l0_10.length l0_10) ∧ (l0_10.length ≤ c0_10) ∧ (Kd.C (Kd.int .i32) w A0_11 l0_11.length l0_11) ∧ (l0_11.length ≤ c0_11) ∧ (Kd.C (Kd.int .i32) w A0_14 l0_14.length l0_14) ∧ (l0_14.length ≤ c0_14)) := ⟨⟨hr0_6, hc0_6, hr0_9, hc0_9, hr0_10, hc0_10, hr0_11, hc0_11, hr0_14, hc0_14⟩⟩
 clear hr0_6 hc0_6 hr0_9 hc0_9 hr0_10 hc0_10 hr0_11 hc0_11 hr0_14 hc0_14
 have H6 := aM h6
 have H10 := aM h10
 clear h6 h10
 obtain ⟨P, hP⟩ : ∃ x_, refP a0_7 a0_8 l0_9 l0_10 l0_11 a0_12 a0_13 l0_14 = x_ := ⟨_, rfl⟩
 have HPL : Aside0 (P.length = 9 * l0_10.length + 3) := ⟨by rw [← hP]; exact refP_len _ _ _ _ _ _ _ _⟩
 have HPE := aM hP
 rw [hP]
 clear hP
 go_enter Try.func29, Try.ntmps29
 go_wp2_with (first | ((with_reducible refine gate_dst (N := 1) rfl ?_); refine box_event ?hg (N := 1) ?hd (cs := #[.int .i64 a0_0, .int .i64 a0_1, .int .i64 a0_2, .int .i64 a0_3, .int .i64 a0_4, .int .i64 a0_5, .slice A0_6 l0_6.length c0_6, .int .i64 a0_7, .int .i64 a0_8, .slice A0_9 l0_9.length c0_9, .slice A0_10 l0_10.length c0_10, .slice A0_11 l0_11.length c0_11, .int .i64 a0_12, .int .i64 a0_13, .slice A0_14 l0_14.length c0_14]) (t := 67) ?hr ?_; (case hd => rfl); (case hg => rfl); (case hr => first | (go_simp; done) | (go_simp; rfl)); intro gb hg w1 hbox hb; have hz1 := bx15 hbox; have BK := aM hbox; replace HB := aM hb; clear hbox hb hg) | (go_at_call 32; (with_reducible refine (bref.calls a0_0 a0_1 a0_2 a0_3 a0_4 a0_5 A0_6 c0_6 l0_6 a0_7 a0_8 A0_9 c0_9 l0_9 A0_10 c0_10 l0_10 A0_11 c0_11 l0_11 a0_12 a0_13 A0_14 c0_14 l0_14 _ (Kd.C_below HH.out.1 HB.out) HH.out.2.1 (Kd.C_below HH.out.2.2.1 HB.out) HH.out.2.2.2.1 (Kd.C_below HH.out.2.2.2.2.1 HB.out) HH.out.2.2.2.2.2.1 (Kd.C_below HH.out.2.2.2.2.2.2.1 HB.out) HH.out.2.2.2.2.2.2.2.1 (Kd.C_below HH.out.2.2.2.2.2.2.2.2.1 HB.out) HH.out.2.2.2.2.2.2.2.2.2 H6.out H10.out).mono ?_); rintro e w2 ⟨AT, cT, AP, cP, rows, rfl, ht, hp, hrw, hb⟩; rw [HPE.out] at hp hrw ⊢; have RP := aM (Kd.R_lower hp (below_size HB.out)); have HRW := aM hrw; have HB1 := aM hb; replace BK := aM (blk_below BK.out hb); replace HB := aM (below_step HB.out hb); clear ht hp hrw hb hz1))
 go_loopw [3, 10] (fun s_ i_ W' => ∃ (n_ : Nat), i_ = .int .i64 n_ ∧ s_ = .int .i64 (smS (P.take n_) : Int) ∧ Aside0 (n_ ≤ P.length) ∧ Aside0 (W'.heap[gb]? = some (.cells #[.int .i64 a0_0, .int .i64 a0_1, .int .i64 a0_2, .int .i64 a0_3, .int .i64 a0_4, .int .i64 a0_5, .slice A0_6 l0_6.length c0_6, .int .i64 a0_7, .int .i64 a0_8, .slice A0_9 l0_9.length c0_9, .slice A0_10 l0_10.length c0_10, .slice A0_11 l0_11.length c0_11, .int .i64 a0_12, .int .i64 a0_13, .slice A0_14 l0_14.length c0_14] 67 (0, 0))) ∧ Aside0 ((Kd.raw 3).R 111 W' w.heap.size (fun _ => True) (.slice AP P.length cP) rows) ∧ Aside0 (Below w.heap.size w W') ∧ Aside0 (Below w1.heap.size w1 W')) (fun _ i_ _ => P.length - (intOf i_).toNat)
 case atStart => exact ⟨0, rfl, rfl, ⟨Nat.zero_le _⟩, BK, RP, HB, HB1⟩
 case round =>
  clear BK RP HB HB1
  obtain ⟨n, rfl, rfl, HJ, BK, RP, HB, HB1⟩ := hrel
  by_cases q : n < P.length
  ·
   have f1 : decide ((n : Int) < (P.length : Int)) = true := decide_eq_true (by omega)
   have f2 : decide (n < P.length) = true := decide_eq_true q
   have p0 : (0 : Int) ≤ (n : Int) := by omega
   have p1 : (n : Int) < (P.length : Int) := by omega
   obtain ⟨x, hx⟩ : ∃ x, P[n]? = some x := ⟨_, List.getElem?_eq_getElem q⟩
   have hrd : rd_T111 P (n : Int) = x := by unfold rd_T111; rw [List.getD_eq_getElem?_getD, Int.toNat_natCast, hx]; rfl
   obtain ⟨ad, A2, c2, he, hx0, hx1, hx2, hle, hC2⟩ := at_T111 (RowsP.reads RP.out HRW.out HB1.out).1 (n : Int) p0 p1
   cases he
   rw [hrd] at hx0 hx1 hx2
   simp only [Int.toNat_natCast] at hx0 hx1 hx2
   obtain ⟨x0, y0⟩ : ∃ x_, x.f0 = x_ := ⟨_, rfl⟩
   obtain ⟨x1, y1⟩ : ∃ x_, x.f1 = x_ := ⟨_, rfl⟩
   obtain ⟨x2, y2⟩ : ∃ x_, x.f2.length = x_ := ⟨_, rfl⟩
   have HTK : Aside0 (smS (P.take (n + 1)) = smS (P.take n) + min x2 5000) := ⟨by rw [smS_succ hx, y2]⟩
   have HLE : Aside0 (smS (P.take n) ≤ 5000 * n) := ⟨by have h_ := smS_le (P.take n); rw [List.length_take] at h_; have := Nat.min_le_left n P.length; omega⟩
   rw [y0] at hx0
   rw [y1] at hx1
   rw [y2] at hx2
   clear hrd hx y0 y1 y2 hle hC2
   obtain ⟨sm, hsm⟩ : ∃ x_, smS (P.take n) = x_ := ⟨_, rfl⟩
   rw [hsm] at HTK HLE ⊢
   clear hsm
   go_upto_region 5 with (fail)
   clear hx0 hx1 hx2
   have h_new := blk_new wr (.cells #[.int .i64 x0, .int .i64 x1, .slice A2 x2 c2] 111)
   have h_al := below_alloc (Below.refl wr.heap.size wr) (.cells #[.int .i64 x0, .int .i64 x1, .slice A2 x2 c2] 111)
   obtain ⟨g5, hg_⟩ : ∃ g_, g_ = wr.heap.size := ⟨_, rfl⟩
   rw [← hg_] at h_new ⊢
   have G5 := aM h_new
   replace BK := aM (blk_below BK.out h_al)
   replace RP := aM (Kd.R_below RP.out h_al)
   replace HB := aM (below_step HB.out h_al)
   replace HB1 := aM (below_step HB1.out h_al)
   clear h_new h_al hg_
   generalize wr.alloc (.cells #[.int .i64 x0, .int .i64 x1, .slice A2 x2 c2] 111) = w7 at G5 BK RP HB HB1 ⊢
   have hz5 := bx3b G5.out
   have hmn : (if 5000 < (x2 : Int) then (5000 : Int) else (x2 : Int)) = ((min x2 5000 : Nat) : Int) := by split <;> omega
   obtain ⟨mn, hmn2⟩ : ∃ x_, min x2 5000 = x_ := ⟨_, rfl⟩
   rw [hmn2] at HTK hmn
   have hmn3 : mn ≤ 5000 := by omega
   have hws : wrap64 ((sm : Int) + (mn : Int)) = ((sm + mn : Nat) : Int) := by have h1_ := HLE.out; have h2_ := HPL.out; have h3_ := H10.out; simp only [wrap64]; omega
   have hwn : wrap64 ((n : Int) + 1) = ((n + 1 : Nat) : Int) := by have h2_ := HPL.out; have h3_ := H10.out; simp only [wrap64]; omega
   clear hmn2
   go_wp2
   first | rw [hmn, hws, hwn] | rw [hws, hwn]
   exact ⟨⟨n + 1, rfl, by rw [HTK.out], ⟨q⟩, BK, RP, HB, HB1⟩, by simp only [intOf]; omega⟩
  ·
   have f1 : decide ((n : Int) < (P.length : Int)) = false := decide_eq_false (by omega)
   have f2 : decide (n < P.length) = false := decide_eq_false q
   obtain rfl : n = P.length := by have := HJ.out; omega
   rw [List.take_length]
   have hz1 := bx15 BK.out
   obtain ⟨sm, hsm⟩ : ∃ x_, smS P = x_ := ⟨_, rfl⟩
   have HSB : Aside0 (smallB l0_6.length l0_10.length P = (decide (l0_10.length ≤ 5) && decide (l0_6.length ≤ 20) && decide (sm ≤ 5000))) := ⟨by rw [← hsm]; rfl⟩
   rw [hsm]
   clear hsm q
   by_cases q1 : l0_10.length ≤ 5
   ·
    have g1 : decide ((l0_10.length : Int) ≤ 5) = true := decide_eq_true (by omega)
    have g2 : decide (l0_10.length ≤ 5) = true := decide_eq_true q1
    by_cases q2 : l0_6.length ≤ 20
    ·
     have g3 : decide ((l0_6.length : Int) ≤ 20) = true := decide_eq_true (by omega)
     have g4 : decide (l0_6.length ≤ 20) = true := decide_eq_true q2
     have g5 : decide ((sm : Int) ≤ 5000) = decide (sm ≤ 5000) := decide_eq_decide.mpr (by omega)
     go_wp2
     go_ret
     exact ⟨by rw [HSB.out, g2, g4]; rfl, HB.out⟩
    ·
     have g3 : decide ((l0_6.length : Int) ≤ 20) = false := decide_eq_false (by omega)
     have g4 : decide (l0_6.length ≤ 20) = false := decide_eq_false q2
     go_wp2
     go_ret
     exact ⟨by rw [HSB.out, g2, g4]; rfl, HB.out⟩
   ·
    have g1 : decide ((l0_10.length : Int) ≤ 5) = false := decide_eq_false (by omega)
    have g2 : decide (l0_10.length ≤ 5) = false := decide_eq_false q1
    go_wp2
    go_ret
    exact ⟨by rw [HSB.out, g2]; rfl, HB.out⟩
-- calls: credenzalaw18_ref

/-! ### credenzaref18_RightConfig: function 22 -/
def credenzaref18_RightConfig.f (a0_0 : Int) (a0_1 : Int) (a0_2 : Int) (a0_3 : Int) (a0_4 : Int) (a0_5 : Int) : Option (Bool) := if a0_0 < 1 then (some false) else (if a0_0 > 4 then (some false) else (if a0_1 < 1 then (some false) else (if a0_1 > 4 then (some false) else (if a0_2 < 1 then (some false) else (if a0_2 > a0_1 then (some false) else (if a0_2 = 0 then (none) else (if (Int.tmod a0_1 a0_2) = 0 then (if a0_3 ≥ 2 then (if a0_3 ≤ 16 then (if (Int.tmod a0_3 2) = 0 then (if a0_4 ≥ 1 then (if a0_4 ≤ 64 then (if a0_5 ≥ 2 then (some (decide (a0_5 ≤ 64))) else (some false)) else (some false)) else (some false)) else (some false)) else (some false)) else (some false)) else (some false))))))))
set_option maxHeartbeats 8000000 in
set_option maxRecDepth 100000 in
theorem credenzaref18_RightConfig.calls (a0_0 : Int) (a0_1 : Int) (a0_2 : Int) (a0_3 : Int) (a0_4 : Int) (a0_5 : Int) (r : Bool) (w : World) (h : credenzaref18_RightConfig.f a0_0 a0_1 a0_2 a0_3 a0_4 a0_5 = some r) :
  Calls Try.prog 22 #[.agg #[.int .i64 a0_0, .int .i64 a0_1, .int .i64 a0_2, .int .i64 a0_3, .int .i64 a0_4, .int .i64 a0_5]] w fun e w' => e = .returned (.bool r) ∧ Below w.heap.size w w' := by
 have hu56 := Try.underlying56
 have HB := aM (Below.refl w.heap.size w)
 have H := h
 clear h
 unfold credenzaref18_RightConfig.f at H
 by_cases c2 : a0_0 < 1
 ·
  rw [if_pos c2] at H
  have c2b0 : decide (a0_0 < 1) = true := dT c2
  clear c2
  obtain rfl := oI H
  go_enter Try.func22, Try.ntmps22
  go_wp2_with (first | ((with_reducible refine gate_dst (N := 1) rfl ?_); refine bxE 1 #[.int .i64 a0_0, .int .i64 a0_1, .int .i64 a0_2, .int .i64 a0_3, .int .i64 a0_4, .int .i64 a0_5] 56 (h := ?_); intro gb156 hg w3 hbox hb; have BK156 := aM (hbox); have GW156 := gE hg HB; have GE156 := gE hg HB; replace HB := bst HB hb; clear hb hbox hg; have hz4 := bx6 BK156.out))
  go_ret
  exact ⟨rfl, HB.out⟩
 ·
  rw [if_neg c2] at H
  have c2b0 : decide (a0_0 < 1) = false := dF c2
  clear c2
  by_cases c5 : a0_0 > 4
  ·
   rw [if_pos c5] at H
   have c5b0 : decide (4 < a0_0) = true := dT c5
   clear c5
   obtain rfl := oI H
   go_enter Try.func22, Try.ntmps22
   go_wp2_with (first | ((with_reducible refine gate_dst (N := 1) rfl ?_); refine bxE 1 #[.int .i64 a0_0, .int .i64 a0_1, .int .i64 a0_2, .int .i64 a0_3, .int .i64 a0_4, .int .i64 a0_5] 56 (h := ?_); intro gb156 hg w6 hbox hb; have BK156 := aM (hbox); have GW156 := gE hg HB; have GE156 := gE hg HB; replace HB := bst HB hb; clear hb hbox hg; have hz7 := bx6 BK156.out))
   go_ret
   exact ⟨rfl, HB.out⟩
  ·
   rw [if_neg c5] at H
   have c5b0 : decide (4 < a0_0) = false := dF c5
   clear c5
   by_cases c8 : a0_1 < 1
   ·
    rw [if_pos c8] at H
    have c8b0 : decide (a0_1 < 1) = true := dT c8
    clear c8
    obtain rfl := oI H
    go_enter Try.func22, Try.ntmps22
    go_wp2_with (first | ((with_reducible refine gate_dst (N := 1) rfl ?_); refine bxE 1 #[.int .i64 a0_0, .int .i64 a0_1, .int .i64 a0_2, .int .i64 a0_3, .int .i64 a0_4, .int .i64 a0_5] 56 (h := ?_); intro gb156 hg w9 hbox hb; have BK156 := aM (hbox); have GW156 := gE hg HB; have GE156 := gE hg HB; replace HB := bst HB hb; clear hb hbox hg; have hz10 := bx6 BK156.out))
    go_ret
    exact ⟨rfl, HB.out⟩
   ·
    rw [if_neg c8] at H
    have c8b0 : decide (a0_1 < 1) = false := dF c8
    clear c8
    by_cases c11 : a0_1 > 4
    ·
     rw [if_pos c11] at H
     have c11b0 : decide (4 < a0_1) = true := dT c11
     clear c11
     obtain rfl := oI H
     go_enter Try.func22, Try.ntmps22
     go_wp2_with (first | ((with_reducible refine gate_dst (N := 1) rfl ?_); refine bxE 1 #[.int .i64 a0_0, .int .i64 a0_1, .int .i64 a0_2, .int .i64 a0_3, .int .i64 a0_4, .int .i64 a0_5] 56 (h := ?_); intro gb156 hg w12 hbox hb; have BK156 := aM (hbox); have GW156 := gE hg HB; have GE156 := gE hg HB; replace HB := bst HB hb; clear hb hbox hg; have hz13 := bx6 BK156.out))
     go_ret
     exact ⟨rfl, HB.out⟩
    ·
     rw [if_neg c11] at H
     have c11b0 : decide (4 < a0_1) = false := dF c11
     clear c11
     by_cases c14 : a0_2 < 1
     ·
      rw [if_pos c14] at H
      have c14b0 : decide (a0_2 < 1) = true := dT c14
      clear c14
      obtain rfl := oI H
      go_enter Try.func22, Try.ntmps22
      go_wp2_with (first | ((with_reducible refine gate_dst (N := 1) rfl ?_); refine bxE 1 #[.int .i64 a0_0, .int .i64 a0_1, .int .i64 a0_2, .int .i64 a0_3, .int .i64 a0_4, .int .i64 a0_5] 56 (h := ?_); intro gb156 hg w15 hbox hb; have BK156 := aM (hbox); have GW156 := gE hg HB; have GE156 := gE hg HB; replace HB := bst HB hb; clear hb hbox hg; have hz16 := bx6 BK156.out))
      go_ret
      exact ⟨rfl, HB.out⟩
     ·
      rw [if_neg c14] at H
      have c14b0 : decide (a0_2 < 1) = false := dF c14
      clear c14
      by_cases c17 : a0_2 > a0_1
      ·
       rw [if_pos c17] at H
       have c17b0 : decide (a0_1 < a0_2) = true := dT c17
       clear c17
       obtain rfl := oI H
       go_enter Try.func22, Try.ntmps22
       go_wp2_with (first | ((with_reducible refine gate_dst (N := 1) rfl ?_); refine bxE 1 #[.int .i64 a0_0, .int .i64 a0_1, .int .i64 a0_2, .int .i64 a0_3, .int .i64 a0_4, .int .i64 a0_5] 56 (h := ?_); intro gb156 hg w18 hbox hb; have BK156 := aM (hbox); have GW156 := gE hg HB; have GE156 := gE hg HB; replace HB := bst HB hb; clear hb hbox hg; have hz19 := bx6 BK156.out))
       go_ret
       exact ⟨rfl, HB.out⟩
      ·
       rw [if_neg c17] at H
       have c17b0 : decide (a0_1 < a0_2) = false := dF c17
       clear c17
       obtain ⟨c20, H⟩ := ifn H
       have c20b0 : (a0_2 == 0) = false := beq_eq_false_iff_ne.mpr c20
       have c20b1 : (a0_2 != 0) = true := bne_iff_ne.mpr c20
       by_cases c21 : (Int.tmod a0_1 a0_2) = 0
       ·
        rw [if_pos c21] at H
        have c21b0 : ((Int.tmod a0_1 a0_2) == 0) = true := beq_iff_eq.mpr c21
        have c21b1 : ((Int.tmod a0_1 a0_2) != 0) = false := bne_eq_false_iff_eq.mpr c21
        clear c21
        by_cases c22 : a0_3 ≥ 2
        ·
         rw [if_pos c22] at H
         have c22b0 : decide (2 ≤ a0_3) = true := dT c22
         clear c22
         by_cases c23 : a0_3 ≤ 16
         ·
          rw [if_pos c23] at H
          have c23b0 : decide (a0_3 ≤ 16) = true := dT c23
          clear c23
          by_cases c24 : (Int.tmod a0_3 2) = 0
          ·
           rw [if_pos c24] at H
           have c24b0 : ((Int.tmod a0_3 2) == 0) = true := beq_iff_eq.mpr c24
           have c24b1 : ((Int.tmod a0_3 2) != 0) = false := bne_eq_false_iff_eq.mpr c24
           clear c24
           by_cases c25 : a0_4 ≥ 1
           ·
            rw [if_pos c25] at H
            have c25b0 : decide (1 ≤ a0_4) = true := dT c25
            clear c25
            by_cases c26 : a0_4 ≤ 64
            ·
             rw [if_pos c26] at H
             have c26b0 : decide (a0_4 ≤ 64) = true := dT c26
             clear c26
             by_cases c27 : a0_5 ≥ 2
             ·
              rw [if_pos c27] at H
              have c27b0 : decide (2 ≤ a0_5) = true := dT c27
              clear c27
              obtain rfl := oI H
              go_enter Try.func22, Try.ntmps22
              go_wp2_with (first | ((with_reducible refine gate_dst (N := 1) rfl ?_); refine bxE 1 #[.int .i64 a0_0, .int .i64 a0_1, .int .i64 a0_2, .int .i64 a0_3, .int .i64 a0_4, .int .i64 a0_5] 56 (h := ?_); intro gb156 hg w28 hbox hb; have BK156 := aM (hbox); have GW156 := gE hg HB; have GE156 := gE hg HB; replace HB := bst HB hb; clear hb hbox hg; have hz29 := bx6 BK156.out))
              go_ret
              exact ⟨rfl, HB.out⟩
             ·
              rw [if_neg c27] at H
              have c27b0 : decide (2 ≤ a0_5) = false := dF c27
              clear c27
              obtain rfl := oI H
              go_enter Try.func22, Try.ntmps22
              go_wp2_with (first | ((with_reducible refine gate_dst (N := 1) rfl ?_); refine bxE 1 #[.int .i64 a0_0, .int .i64 a0_1, .int .i64 a0_2, .int .i64 a0_3, .int .i64 a0_4, .int .i64 a0_5] 56 (h := ?_); intro gb156 hg w30 hbox hb; have BK156 := aM (hbox); have GW156 := gE hg HB; have GE156 := gE hg HB; replace HB := bst HB hb; clear hb hbox hg; have hz31 := bx6 BK156.out))
              go_ret
              exact ⟨rfl, HB.out⟩
            ·
             rw [if_neg c26] at H
             have c26b0 : decide (a0_4 ≤ 64) = false := dF c26
             clear c26
             obtain rfl := oI H
             go_enter Try.func22, Try.ntmps22
             go_wp2_with (first | ((with_reducible refine gate_dst (N := 1) rfl ?_); refine bxE 1 #[.int .i64 a0_0, .int .i64 a0_1, .int .i64 a0_2, .int .i64 a0_3, .int .i64 a0_4, .int .i64 a0_5] 56 (h := ?_); intro gb156 hg w32 hbox hb; have BK156 := aM (hbox); have GW156 := gE hg HB; have GE156 := gE hg HB; replace HB := bst HB hb; clear hb hbox hg; have hz33 := bx6 BK156.out))
             go_ret
             exact ⟨rfl, HB.out⟩
           ·
            rw [if_neg c25] at H
            have c25b0 : decide (1 ≤ a0_4) = false := dF c25
            clear c25
            obtain rfl := oI H
            go_enter Try.func22, Try.ntmps22
            go_wp2_with (first | ((with_reducible refine gate_dst (N := 1) rfl ?_); refine bxE 1 #[.int .i64 a0_0, .int .i64 a0_1, .int .i64 a0_2, .int .i64 a0_3, .int .i64 a0_4, .int .i64 a0_5] 56 (h := ?_); intro gb156 hg w34 hbox hb; have BK156 := aM (hbox); have GW156 := gE hg HB; have GE156 := gE hg HB; replace HB := bst HB hb; clear hb hbox hg; have hz35 := bx6 BK156.out))
            go_ret
            exact ⟨rfl, HB.out⟩
          ·
           rw [if_neg c24] at H
           have c24b0 : ((Int.tmod a0_3 2) == 0) = false := beq_eq_false_iff_ne.mpr c24
           have c24b1 : ((Int.tmod a0_3 2) != 0) = true := bne_iff_ne.mpr c24
           obtain rfl := oI H
           go_enter Try.func22, Try.ntmps22
           go_wp2_with (first | ((with_reducible refine gate_dst (N := 1) rfl ?_); refine bxE 1 #[.int .i64 a0_0, .int .i64 a0_1, .int .i64 a0_2, .int .i64 a0_3, .int .i64 a0_4, .int .i64 a0_5] 56 (h := ?_); intro gb156 hg w36 hbox hb; have BK156 := aM (hbox); have GW156 := gE hg HB; have GE156 := gE hg HB; replace HB := bst HB hb; clear hb hbox hg; have hz37 := bx6 BK156.out))
           go_ret
           exact ⟨rfl, HB.out⟩
         ·
          rw [if_neg c23] at H
          have c23b0 : decide (a0_3 ≤ 16) = false := dF c23
          clear c23
          obtain rfl := oI H
          go_enter Try.func22, Try.ntmps22
          go_wp2_with (first | ((with_reducible refine gate_dst (N := 1) rfl ?_); refine bxE 1 #[.int .i64 a0_0, .int .i64 a0_1, .int .i64 a0_2, .int .i64 a0_3, .int .i64 a0_4, .int .i64 a0_5] 56 (h := ?_); intro gb156 hg w38 hbox hb; have BK156 := aM (hbox); have GW156 := gE hg HB; have GE156 := gE hg HB; replace HB := bst HB hb; clear hb hbox hg; have hz39 := bx6 BK156.out))
          go_ret
          exact ⟨rfl, HB.out⟩
        ·
         rw [if_neg c22] at H
         have c22b0 : decide (2 ≤ a0_3) = false := dF c22
         clear c22
         obtain rfl := oI H
         go_enter Try.func22, Try.ntmps22
         go_wp2_with (first | ((with_reducible refine gate_dst (N := 1) rfl ?_); refine bxE 1 #[.int .i64 a0_0, .int .i64 a0_1, .int .i64 a0_2, .int .i64 a0_3, .int .i64 a0_4, .int .i64 a0_5] 56 (h := ?_); intro gb156 hg w40 hbox hb; have BK156 := aM (hbox); have GW156 := gE hg HB; have GE156 := gE hg HB; replace HB := bst HB hb; clear hb hbox hg; have hz41 := bx6 BK156.out))
         go_ret
         exact ⟨rfl, HB.out⟩
       ·
        rw [if_neg c21] at H
        have c21b0 : ((Int.tmod a0_1 a0_2) == 0) = false := beq_eq_false_iff_ne.mpr c21
        have c21b1 : ((Int.tmod a0_1 a0_2) != 0) = true := bne_iff_ne.mpr c21
        obtain rfl := oI H
        go_enter Try.func22, Try.ntmps22
        go_wp2_with (first | ((with_reducible refine gate_dst (N := 1) rfl ?_); refine bxE 1 #[.int .i64 a0_0, .int .i64 a0_1, .int .i64 a0_2, .int .i64 a0_3, .int .i64 a0_4, .int .i64 a0_5] 56 (h := ?_); intro gb156 hg w42 hbox hb; have BK156 := aM (hbox); have GW156 := gE hg HB; have GE156 := gE hg HB; replace HB := bst HB hb; clear hb hbox hg; have hz43 := bx6 BK156.out))
        go_ret
        exact ⟨rfl, HB.out⟩

/-! ### credenzaref18_Sizes: function 59 -/
def credenzaref18_Sizes.l0 : Nat → Int → List (S110) → Int → Int → Int → Int → Int → Int → Int → Option ((List (S110)))
 | 0, _, _, _, _, _, _, _, _, _ => none
 | k + 1, x3, x4, x5, x158000, x158001, x158002, x158003, x158004, x158005 => if x5 < x158000 then ((some (([(⟨0, x3⟩ : S110), (⟨x3, x3⟩ : S110), (⟨wrap64 (x158002 * x158003), x3⟩ : S110), (⟨wrap64 (x158002 * x158003), x3⟩ : S110), (⟨x3, x3⟩ : S110)] : List (S110)) : List (S110))).bind fun y161 => (if x4.length + y161.length < 8796093022208 then ((some (x4 ++ y161 : List (S110))).bind fun y164 => ((some (([(⟨0, x3⟩ : S110), (⟨x158004, x3⟩ : S110), (⟨x158004, x3⟩ : S110), (⟨x3, x158004⟩ : S110)] : List (S110)) : List (S110))).bind fun y167 => (if y164.length + y167.length < 8796093022208 then (credenzaref18_Sizes.l0 k x3 (y164 ++ y167) (wrap64 (x5 + 1)) x158000 x158001 x158002 x158003 x158004 x158005) else (none)))) else (none))) else ((some (([(⟨0, x3⟩ : S110), (⟨x158005, x3⟩ : S110)] : List (S110)) : List (S110))).bind fun y173 => (if x4.length + y173.length < 8796093022208 then (some (x4 ++ y173)) else (none)))
def credenzaref18_Sizes.f (k : Nat) (a0_0 : Int) (a0_1 : Int) (a0_2 : Int) (a0_3 : Int) (a0_4 : Int) (a0_5 : Int) : Option ((List (S110))) := credenzaref18_Sizes.l0 k (wrap64 (a0_1 * a0_3)) (([(⟨a0_5, wrap64 (a0_1 * a0_3)⟩ : S110)] : List (S110))) 0 a0_0 a0_1 a0_2 a0_3 a0_4 a0_5
theorem credenzaref18_Sizes.mono_l : ∀ k, (∀ y0 y1 y2 y3 y4 y5 y6 y7 y8, LeO (credenzaref18_Sizes.l0 k y0 y1 y2 y3 y4 y5 y6 y7 y8) (credenzaref18_Sizes.l0 (k + 1) y0 y1 y2 y3 y4 y5 y6 y7 y8))
 | 0 => fun _ _ _ _ _ _ _ _ _ r h => by simp [credenzaref18_Sizes.l0] at h
 | k + 1 => by
  have ih0 := credenzaref18_Sizes.mono_l k
  ·
   intro y0 y1 y2 y3 y4 y5 y6 y7 y8
   unfold credenzaref18_Sizes.l0
   repeat' with_reducible first | exact ih0 _ _ _ _ _ _ _ _ _ | exact LeO.refl _ | exact LeO.none _ | refine LeO.ite ?_ ?_ | refine LeO.bind ?_ (fun _ => ?_)
theorem credenzaref18_Sizes.mono : ∀ a0 a1 a2 a3 a4 a5 k, LeO (credenzaref18_Sizes.f k a0 a1 a2 a3 a4 a5) (credenzaref18_Sizes.f (k + 1) a0 a1 a2 a3 a4 a5) := by
 intro a0 a1 a2 a3 a4 a5 k
 have ih0 := credenzaref18_Sizes.mono_l k
 unfold credenzaref18_Sizes.f
 repeat' with_reducible first | exact ih0 _ _ _ _ _ _ _ _ _ | exact LeO.refl _ | exact LeO.none _ | refine LeO.ite ?_ ?_ | refine LeO.bind ?_ (fun _ => ?_)
set_option maxHeartbeats 8000000 in
set_option maxRecDepth 100000 in
theorem credenzaref18_Sizes.calls (k : Nat) (a0_0 : Int) (a0_1 : Int) (a0_2 : Int) (a0_3 : Int) (a0_4 : Int) (a0_5 : Int) (r : List (S110)) (w : World) (h : credenzaref18_Sizes.f k a0_0 a0_1 a0_2 a0_3 a0_4 a0_5 = some r) :
  Calls Try.prog 59 #[.agg #[.int .i64 a0_0, .int .i64 a0_1, .int .i64 a0_2, .int .i64 a0_3, .int .i64 a0_4, .int .i64 a0_5]] w fun e w' => ∃ v0_ : Value, e = .returned (v0_) ∧ Kd.R k110 110 w' w.heap.size (fun _ => True) v0_ r ∧ Below w.heap.size w w' := by
 have hu56 := Try.underlying56
 have hu110 := Try.underlying110
 have HB := aM (Below.refl w.heap.size w)
 have H := h
 clear h
 unfold credenzaref18_Sizes.f at H
 obtain ⟨y158, hy158⟩ : ∃ y_ : List (S110), y_ = (([(⟨a0_5, wrap64 (a0_1 * a0_3)⟩ : S110)] : List (S110))) := ⟨_, rfl⟩
 replace H : (credenzaref18_Sizes.l0 k (wrap64 (a0_1 * a0_3)) y158 0 a0_0 a0_1 a0_2 a0_3 a0_4 a0_5) = some r := by rw [hy158]; exact H
 have Ny158 := aM hy158
 clear hy158
 have H' := aM H
 clear H
 go_enter Try.func59, Try.ntmps59
 go_wp2_with (first | ((with_reducible refine gate_dst (N := 1) rfl ?_); refine bxE 1 #[.int .i64 a0_0, .int .i64 a0_1, .int .i64 a0_2, .int .i64 a0_3, .int .i64 a0_4, .int .i64 a0_5] 56 (h := ?_); intro gb157 hg w2 hbox hb; have BK157 := aM (hbox); have GW157 := gE hg HB; have GE157 := gE hg HB; replace HB := bst HB hb; clear hb hbox hg; have hz3 := bx6 BK157.out) | ((with_reducible refine gate_dst (N := 15) rfl ?_); refine Kd.R_lit k110 _ 110 ?hg (N := 15) ?hd (xs := ([(⟨a0_5, wrap64 (a0_1 * a0_3)⟩ : S110)] : List (S110))) (inner := [.int .i64 a0_5, .int .i64 (wrap64 (a0_1 * a0_3))]) (ok := fun _ => True) (okp := fun _ => True) ?hr ?hp (fun _ hk => hk) trivial (Below.refl _ _) (Nat.le_refl _) (by simp) ?_; (case hd => rfl); (case hg => rfl); (case hr => first | (go_simp; done) | (go_simp; rfl)); (case hp => exact (Reps.c2 (show Kd.M k110 _ _ _ (⟨a0_5, wrap64 (a0_1 * a0_3)⟩ : S110) [.int .i64 a0_5, .int .i64 (wrap64 (a0_1 * a0_3))] from (k110_mkM _ _ _ (⟨a0_5, wrap64 (a0_1 * a0_3)⟩ : S110) )) (Reps.none _ _))); intro v159 w4 ho5 hb hg_ hnew_; clear hg_ hnew_; (first | rw [← Ny158.out] at ho5 | (simp only [Int.reduceToNat] at ho5; rw [← Ny158.out] at ho5)); have HO160 := aM (Kd.R_lower ho5 (bsz HB)); replace BK157 := kst BK157 hb; replace HB := bst HB hb; clear hb ho5))
 go_loopg [4, 5] k (fun kq v4 v5 w' => ∃ (x4_1 : List (S110)) (x5_1 : Int), v5 = .int .i64 x5_1 ∧ Aside0 (credenzaref18_Sizes.l0 kq (wrap64 (a0_1 * a0_3)) x4_1 x5_1 a0_0 a0_1 a0_2 a0_3 a0_4 a0_5 = some r) ∧ Aside0 (kq ≤ k) ∧ Aside0 (Kd.R k110 110 w' w.heap.size (fun _ => True) v4 x4_1) ∧ Aside0 (w'.heap[gb157]? = some (.cells #[.int .i64 a0_0, .int .i64 a0_1, .int .i64 a0_2, .int .i64 a0_3, .int .i64 a0_4, .int .i64 a0_5] 56 (0, 0))) ∧ Aside0 (Below w.heap.size w w'))
 case atStart => exact ⟨(y158), (0), rfl, H', ⟨Nat.le_refl _⟩, HO160, BK157, HB⟩
 case round =>
  clear H'
  try clear c2
  try clear p2
  try clear c5
  try clear hz3
  obtain ⟨x4_1, x5_1, rfl, HA, HK1, HO_4, BK157, HB⟩ := hrel
  cases gk with
  | zero => exact absurd HA.out (by simp [credenzaref18_Sizes.l0])
  | succ k1 =>
   have H := HA.out
   clear HA
   simp only [credenzaref18_Sizes.l0] at H
   by_cases c6 : x5_1 < a0_0
   ·
    rw [if_pos c6] at H
    have c6b0 : decide (x5_1 < a0_0) = true := dT c6
    clear c6
    obtain ⟨y161, hy161⟩ : ∃ y_ : List (S110), y_ = (([(⟨0, (wrap64 (a0_1 * a0_3))⟩ : S110), (⟨(wrap64 (a0_1 * a0_3)), (wrap64 (a0_1 * a0_3))⟩ : S110), (⟨wrap64 (a0_2 * a0_3), (wrap64 (a0_1 * a0_3))⟩ : S110), (⟨wrap64 (a0_2 * a0_3), (wrap64 (a0_1 * a0_3))⟩ : S110), (⟨(wrap64 (a0_1 * a0_3)), (wrap64 (a0_1 * a0_3))⟩ : S110)] : List (S110))) := ⟨_, rfl⟩
    replace H : (if x4_1.length + y161.length < 8796093022208 then ((some (x4_1 ++ y161 : List (S110))).bind fun y164 => ((some (([(⟨0, (wrap64 (a0_1 * a0_3))⟩ : S110), (⟨a0_4, (wrap64 (a0_1 * a0_3))⟩ : S110), (⟨a0_4, (wrap64 (a0_1 * a0_3))⟩ : S110), (⟨(wrap64 (a0_1 * a0_3)), a0_4⟩ : S110)] : List (S110)) : List (S110))).bind fun y167 => (if y164.length + y167.length < 8796093022208 then (credenzaref18_Sizes.l0 k1 (wrap64 (a0_1 * a0_3)) (y164 ++ y167) (wrap64 (x5_1 + 1)) a0_0 a0_1 a0_2 a0_3 a0_4 a0_5) else (none)))) else (none)) = some r := by rw [hy161]; exact H
    have Ny161 := aM hy161
    clear hy161
    obtain ⟨c7, H⟩ := ifp H
    have LMc7 := aM c7
    clear c7
    obtain ⟨y164, hy164⟩ : ∃ y_ : List (S110), y_ = (x4_1 ++ y161) := ⟨_, rfl⟩
    replace H : ((some (([(⟨0, (wrap64 (a0_1 * a0_3))⟩ : S110), (⟨a0_4, (wrap64 (a0_1 * a0_3))⟩ : S110), (⟨a0_4, (wrap64 (a0_1 * a0_3))⟩ : S110), (⟨(wrap64 (a0_1 * a0_3)), a0_4⟩ : S110)] : List (S110)) : List (S110))).bind fun y167 => (if y164.length + y167.length < 8796093022208 then (credenzaref18_Sizes.l0 k1 (wrap64 (a0_1 * a0_3)) (y164 ++ y167) (wrap64 (x5_1 + 1)) a0_0 a0_1 a0_2 a0_3 a0_4 a0_5) else (none))) = some r := by rw [hy164]; exact H
    have Ny164 := aM hy164
    clear hy164
    obtain ⟨y167, hy167⟩ : ∃ y_ : List (S110), y_ = (([(⟨0, (wrap64 (a0_1 * a0_3))⟩ : S110), (⟨a0_4, (wrap64 (a0_1 * a0_3))⟩ : S110), (⟨a0_4, (wrap64 (a0_1 * a0_3))⟩ : S110), (⟨(wrap64 (a0_1 * a0_3)), a0_4⟩ : S110)] : List (S110))) := ⟨_, rfl⟩
    replace H : (if y164.length + y167.length < 8796093022208 then (credenzaref18_Sizes.l0 k1 (wrap64 (a0_1 * a0_3)) (y164 ++ y167) (wrap64 (x5_1 + 1)) a0_0 a0_1 a0_2 a0_3 a0_4 a0_5) else (none)) = some r := by rw [hy167]; exact H
    have Ny167 := aM hy167
    clear hy167
    obtain ⟨c8, H⟩ := ifp H
    have LMc8 := aM c8
    clear c8
    obtain ⟨y170, hy170⟩ : ∃ y_ : List (S110), y_ = (y164 ++ y167) := ⟨_, rfl⟩
    replace H : (credenzaref18_Sizes.l0 k1 (wrap64 (a0_1 * a0_3)) y170 (wrap64 (x5_1 + 1)) a0_0 a0_1 a0_2 a0_3 a0_4 a0_5) = some r := by rw [hy170]; exact H
    have Ny170 := aM hy170
    clear hy170
    have H' := aM H
    clear H
    have hz9 := bx6 BK157.out
    go_wp2_with (first | ((with_reducible refine gate_dst (N := 45) rfl ?_); refine Kd.R_lit k110 _ 110 ?hg (N := 45) ?hd (xs := ([(⟨0, (wrap64 (a0_1 * a0_3))⟩ : S110), (⟨(wrap64 (a0_1 * a0_3)), (wrap64 (a0_1 * a0_3))⟩ : S110), (⟨wrap64 (a0_2 * a0_3), (wrap64 (a0_1 * a0_3))⟩ : S110), (⟨wrap64 (a0_2 * a0_3), (wrap64 (a0_1 * a0_3))⟩ : S110), (⟨(wrap64 (a0_1 * a0_3)), (wrap64 (a0_1 * a0_3))⟩ : S110)] : List (S110))) (inner := [.int .i64 0, .int .i64 (wrap64 (a0_1 * a0_3)), .int .i64 (wrap64 (a0_1 * a0_3)), .int .i64 (wrap64 (a0_1 * a0_3)), .int .i64 (wrap64 (a0_2 * a0_3)), .int .i64 (wrap64 (a0_1 * a0_3)), .int .i64 (wrap64 (a0_2 * a0_3)), .int .i64 (wrap64 (a0_1 * a0_3)), .int .i64 (wrap64 (a0_1 * a0_3)), .int .i64 (wrap64 (a0_1 * a0_3))]) (ok := fun _ => True) (okp := fun _ => True) ?hr ?hp (fun _ hk => hk) trivial (Below.refl _ _) (Nat.le_refl _) (by simp) ?_; (case hd => rfl); (case hg => rfl); (case hr => first | (go_simp; done) | (go_simp; rfl)); (case hp => exact (Reps.c2 (show Kd.M k110 _ _ _ (⟨0, (wrap64 (a0_1 * a0_3))⟩ : S110) [.int .i64 0, .int .i64 (wrap64 (a0_1 * a0_3))] from (k110_mkM _ _ _ (⟨0, (wrap64 (a0_1 * a0_3))⟩ : S110) )) (Reps.c2 (show Kd.M k110 _ _ _ (⟨(wrap64 (a0_1 * a0_3)), (wrap64 (a0_1 * a0_3))⟩ : S110) [.int .i64 (wrap64 (a0_1 * a0_3)), .int .i64 (wrap64 (a0_1 * a0_3))] from (k110_mkM _ _ _ (⟨(wrap64 (a0_1 * a0_3)), (wrap64 (a0_1 * a0_3))⟩ : S110) )) (Reps.c2 (show Kd.M k110 _ _ _ (⟨wrap64 (a0_2 * a0_3), (wrap64 (a0_1 * a0_3))⟩ : S110) [.int .i64 (wrap64 (a0_2 * a0_3)), .int .i64 (wrap64 (a0_1 * a0_3))] from (k110_mkM _ _ _ (⟨wrap64 (a0_2 * a0_3), (wrap64 (a0_1 * a0_3))⟩ : S110) )) (Reps.c2 (show Kd.M k110 _ _ _ (⟨wrap64 (a0_2 * a0_3), (wrap64 (a0_1 * a0_3))⟩ : S110) [.int .i64 (wrap64 (a0_2 * a0_3)), .int .i64 (wrap64 (a0_1 * a0_3))] from (k110_mkM _ _ _ (⟨wrap64 (a0_2 * a0_3), (wrap64 (a0_1 * a0_3))⟩ : S110) )) (Reps.c2 (show Kd.M k110 _ _ _ (⟨(wrap64 (a0_1 * a0_3)), (wrap64 (a0_1 * a0_3))⟩ : S110) [.int .i64 (wrap64 (a0_1 * a0_3)), .int .i64 (wrap64 (a0_1 * a0_3))] from (k110_mkM _ _ _ (⟨(wrap64 (a0_1 * a0_3)), (wrap64 (a0_1 * a0_3))⟩ : S110) )) (Reps.none _ _))))))); intro v162 w10 ho11 hb hg_ hnew_; clear hg_ hnew_; (first | rw [← Ny161.out] at ho11 | (simp only [Int.reduceToNat] at ho11; rw [← Ny161.out] at ho11)); have HO163 := aM (Kd.R_lower (Kd.R_new' ho11 (Kd.R_lt HO_4.out)) (bsz HB)); replace HO_4 := aM (Kd.R_elder' HO_4.out (Kd.R_base ho11) hb); replace BK157 := kst BK157 hb; replace HB := bst HB hb; clear hb ho11; obtain ⟨Ao13, co13, eo13⟩ := Kd.R_slice HO163.out; subst eo13) | ((with_reducible refine gate_builtin (b := .append) (xs := #[.tmp 22, .tmp 45]) rfl ?_); at_builtin; refine Kd.R_append_rows k110 (w0 := w) w.heap.size rfl (.tmp 22) (.tmp 45) 107 110 (.agg #[(.int .i64 0), (.int .i64 0)]) 16 rfl Try.underlying107 info110 rfl (by decide) (by omega) u4 x4_1 y161 _ _ _ (fun k_ => some k_ ≠ (.slice Ao13 y161.length co13 : Value).ownBlock) (fun _ => False) rfl rfl ?aO ?aR (fun _ _ h => h) (fun _ h => h.elim) ?aF ?aB ?aS ?aL ?_; (case aR => repeat (first | exact (Kd.R_reads' HO163.out).2.2 | (with_reducible refine Kd.C_alloc ?_ _) | (with_reducible refine Kd.C_drewN ?_ _) | (with_reducible refine Kd.C_drew ?_))); (case aB => exact HB.out); (case aF => exact (fun k_ hk => Kd.fresh' (Kd.R_lt HO163.out) k_ hk)); (case aO => exact (by exact Kd.R_mono HO_4.out (fun _ hk => hk.2))); (case aS => exact (bsz HB)); (case aL => have := LMc7.out; omega); intro v165 w12 ho hb hg hat; rw [← Ny164.out] at ho; have n0_ := aM (blk_grown (g := gb157) (o := .cells #[.int .i64 a0_0, .int .i64 a0_1, .int .i64 a0_2, .int .i64 a0_3, .int .i64 a0_4, .int .i64 a0_5] 56 (0, 0)) BK157.out hg (Kd.R_ne HO_4.out BK157.out (by decide))); have n1_ := aM (Kd.R_after (ok := (fun _ => True)) HO163.out hg hat); have n2_ := aM (hb); have n3_ := aM (ho); clear BK157; clear HO163; clear HB; clear HO_4; have BK157 := n0_; have HO163 := n1_; have HB := n2_; have HO166 := n3_; clear n0_ n1_ n2_ n3_; clear ho hb hg hat; have hz14 := bx6 BK157.out) | ((with_reducible refine gate_dst (N := 62) rfl ?_); refine Kd.R_lit k110 _ 110 ?hg (N := 62) ?hd (xs := ([(⟨0, (wrap64 (a0_1 * a0_3))⟩ : S110), (⟨a0_4, (wrap64 (a0_1 * a0_3))⟩ : S110), (⟨a0_4, (wrap64 (a0_1 * a0_3))⟩ : S110), (⟨(wrap64 (a0_1 * a0_3)), a0_4⟩ : S110)] : List (S110))) (inner := [.int .i64 0, .int .i64 (wrap64 (a0_1 * a0_3)), .int .i64 a0_4, .int .i64 (wrap64 (a0_1 * a0_3)), .int .i64 a0_4, .int .i64 (wrap64 (a0_1 * a0_3)), .int .i64 (wrap64 (a0_1 * a0_3)), .int .i64 a0_4]) (ok := fun _ => True) (okp := fun _ => True) ?hr ?hp (fun _ hk => hk) trivial (Below.refl _ _) (Nat.le_refl _) (by simp) ?_; (case hd => rfl); (case hg => rfl); (case hr => first | (go_simp; done) | (go_simp; rfl)); (case hp => exact (Reps.c2 (show Kd.M k110 _ _ _ (⟨0, (wrap64 (a0_1 * a0_3))⟩ : S110) [.int .i64 0, .int .i64 (wrap64 (a0_1 * a0_3))] from (k110_mkM _ _ _ (⟨0, (wrap64 (a0_1 * a0_3))⟩ : S110) )) (Reps.c2 (show Kd.M k110 _ _ _ (⟨a0_4, (wrap64 (a0_1 * a0_3))⟩ : S110) [.int .i64 a0_4, .int .i64 (wrap64 (a0_1 * a0_3))] from (k110_mkM _ _ _ (⟨a0_4, (wrap64 (a0_1 * a0_3))⟩ : S110) )) (Reps.c2 (show Kd.M k110 _ _ _ (⟨a0_4, (wrap64 (a0_1 * a0_3))⟩ : S110) [.int .i64 a0_4, .int .i64 (wrap64 (a0_1 * a0_3))] from (k110_mkM _ _ _ (⟨a0_4, (wrap64 (a0_1 * a0_3))⟩ : S110) )) (Reps.c2 (show Kd.M k110 _ _ _ (⟨(wrap64 (a0_1 * a0_3)), a0_4⟩ : S110) [.int .i64 (wrap64 (a0_1 * a0_3)), .int .i64 a0_4] from (k110_mkM _ _ _ (⟨(wrap64 (a0_1 * a0_3)), a0_4⟩ : S110) )) (Reps.none _ _)))))); intro v168 w15 ho16 hb hg_ hnew_; clear hg_ hnew_; (first | rw [← Ny167.out] at ho16 | (simp only [Int.reduceToNat] at ho16; rw [← Ny167.out] at ho16)); have HO169 := aM (Kd.R_lower (Kd.R_new' (Kd.R_new' ho16 (Kd.R_lt HO163.out)) (Kd.R_lt HO166.out)) (bsz HB)); replace HO163 := aM (Kd.R_elder' HO163.out (Kd.R_base ho16) hb); replace HO166 := aM (Kd.R_elder' HO166.out (Kd.R_base ho16) hb); replace BK157 := kst BK157 hb; replace HB := bst HB hb; clear hb ho16; obtain ⟨Ao18, co18, eo18⟩ := Kd.R_slice HO169.out; subst eo18) | ((with_reducible refine gate_builtin (b := .append) (xs := #[.tmp 47, .tmp 62]) rfl ?_); at_builtin; refine Kd.R_append_rows k110 (w0 := w) w.heap.size rfl (.tmp 47) (.tmp 62) 107 110 (.agg #[(.int .i64 0), (.int .i64 0)]) 16 rfl Try.underlying107 info110 rfl (by decide) (by omega) v165 y164 y167 _ _ _ (fun k_ => some k_ ≠ (.slice Ao13 y161.length co13 : Value).ownBlock ∧ some k_ ≠ (.slice Ao18 y167.length co18 : Value).ownBlock) (fun _ => False) rfl rfl ?aO ?aR (fun _ _ h => h) (fun _ h => h.elim) ?aF ?aB ?aS ?aL ?_; (case aR => repeat (first | exact (Kd.R_reads' HO169.out).2.2 | (with_reducible refine Kd.C_alloc ?_ _) | (with_reducible refine Kd.C_drewN ?_ _) | (with_reducible refine Kd.C_drew ?_))); (case aB => exact HB.out); (case aF => exact (fun k_ hk => ⟨Kd.fresh' (Kd.R_lt HO163.out) k_ hk, Kd.fresh' (Kd.R_lt HO169.out) k_ hk⟩)); (case aO => exact HO166.out); (case aS => exact (bsz HB)); (case aL => have := LMc8.out; omega); intro v171 w17 ho hb hg hat; rw [← Ny170.out] at ho; have n0_ := aM (blk_grown (g := gb157) (o := .cells #[.int .i64 a0_0, .int .i64 a0_1, .int .i64 a0_2, .int .i64 a0_3, .int .i64 a0_4, .int .i64 a0_5] 56 (0, 0)) BK157.out hg (Kd.R_ne HO166.out BK157.out (by decide))); have n1_ := aM (Kd.R_after (ok := (fun k_ => some k_ ≠ (.slice Ao18 y167.length co18 : Value).ownBlock)) (by exact Kd.R_mono HO163.out (fun _ hk => ⟨hk.2, hk.1.2⟩)) hg hat); have n2_ := aM (Kd.R_after (ok := (fun k_ => some k_ ≠ (.slice Ao13 y161.length co13 : Value).ownBlock)) (by exact Kd.R_mono HO169.out (fun _ hk => ⟨hk.1.2, hk.2⟩)) hg hat); have n3_ := aM (hb); have n4_ := aM (ho); clear BK157; clear HO163; clear HO169; clear HB; clear HO166; have BK157 := n0_; have HO163 := n1_; have HO169 := n2_; have HB := n3_; have HO172 := n4_; clear n0_ n1_ n2_ n3_ n4_; clear ho hb hg hat))
    go_roundg k1
    case measure => have := HK1.out; omega
    case rel => exact ⟨(y170), (wrap64 (x5_1 + 1)), rfl, H', ⟨by have := HK1.out; omega⟩, ⟨by exact Kd.R_mono HO172.out (fun _ hk => trivial)⟩, BK157, HB⟩
   ·
    rw [if_neg c6] at H
    have c6b0 : decide (x5_1 < a0_0) = false := dF c6
    clear c6
    obtain ⟨y173, hy173⟩ : ∃ y_ : List (S110), y_ = (([(⟨0, (wrap64 (a0_1 * a0_3))⟩ : S110), (⟨a0_5, (wrap64 (a0_1 * a0_3))⟩ : S110)] : List (S110))) := ⟨_, rfl⟩
    replace H : (if x4_1.length + y173.length < 8796093022208 then (some (x4_1 ++ y173)) else (none)) = some r := by rw [hy173]; exact H
    have Ny173 := aM hy173
    clear hy173
    obtain ⟨c19, H⟩ := ifp H
    have LMc19 := aM c19
    clear c19
    obtain ⟨y176, hy176⟩ : ∃ y_ : List (S110), y_ = (x4_1 ++ y173) := ⟨_, rfl⟩
    replace H : (some y176) = some r := by rw [hy176]; exact H
    have Ny176 := aM hy176
    clear hy176
    obtain rfl := oI H
    have hz20 := bx6 BK157.out
    go_wp2_with (first | ((with_reducible refine gate_dst (N := 71) rfl ?_); refine Kd.R_lit k110 _ 110 ?hg (N := 71) ?hd (xs := ([(⟨0, (wrap64 (a0_1 * a0_3))⟩ : S110), (⟨a0_5, (wrap64 (a0_1 * a0_3))⟩ : S110)] : List (S110))) (inner := [.int .i64 0, .int .i64 (wrap64 (a0_1 * a0_3)), .int .i64 a0_5, .int .i64 (wrap64 (a0_1 * a0_3))]) (ok := fun _ => True) (okp := fun _ => True) ?hr ?hp (fun _ hk => hk) trivial (Below.refl _ _) (Nat.le_refl _) (by simp) ?_; (case hd => rfl); (case hg => rfl); (case hr => first | (go_simp; done) | (go_simp; rfl)); (case hp => exact (Reps.c2 (show Kd.M k110 _ _ _ (⟨0, (wrap64 (a0_1 * a0_3))⟩ : S110) [.int .i64 0, .int .i64 (wrap64 (a0_1 * a0_3))] from (k110_mkM _ _ _ (⟨0, (wrap64 (a0_1 * a0_3))⟩ : S110) )) (Reps.c2 (show Kd.M k110 _ _ _ (⟨a0_5, (wrap64 (a0_1 * a0_3))⟩ : S110) [.int .i64 a0_5, .int .i64 (wrap64 (a0_1 * a0_3))] from (k110_mkM _ _ _ (⟨a0_5, (wrap64 (a0_1 * a0_3))⟩ : S110) )) (Reps.none _ _)))); intro v174 w21 ho22 hb hg_ hnew_; clear hg_ hnew_; (first | rw [← Ny173.out] at ho22 | (simp only [Int.reduceToNat] at ho22; rw [← Ny173.out] at ho22)); have HO175 := aM (Kd.R_lower (Kd.R_new' ho22 (Kd.R_lt HO_4.out)) (bsz HB)); replace HO_4 := aM (Kd.R_elder' HO_4.out (Kd.R_base ho22) hb); replace BK157 := kst BK157 hb; replace HB := bst HB hb; clear hb ho22; obtain ⟨Ao24, co24, eo24⟩ := Kd.R_slice HO175.out; subst eo24) | ((with_reducible refine gate_builtin (b := .append) (xs := #[.tmp 64, .tmp 71]) rfl ?_); at_builtin; refine Kd.R_append_rows k110 (w0 := w) w.heap.size rfl (.tmp 64) (.tmp 71) 107 110 (.agg #[(.int .i64 0), (.int .i64 0)]) 16 rfl Try.underlying107 info110 rfl (by decide) (by omega) u4 x4_1 y173 _ _ _ (fun k_ => some k_ ≠ (.slice Ao24 y173.length co24 : Value).ownBlock) (fun _ => False) rfl rfl ?aO ?aR (fun _ _ h => h) (fun _ h => h.elim) ?aF ?aB ?aS ?aL ?_; (case aR => repeat (first | exact (Kd.R_reads' HO175.out).2.2 | (with_reducible refine Kd.C_alloc ?_ _) | (with_reducible refine Kd.C_drewN ?_ _) | (with_reducible refine Kd.C_drew ?_))); (case aB => exact HB.out); (case aF => exact (fun k_ hk => Kd.fresh' (Kd.R_lt HO175.out) k_ hk)); (case aO => exact (by exact Kd.R_mono HO_4.out (fun _ hk => hk.2))); (case aS => exact (bsz HB)); (case aL => have := LMc19.out; omega); intro v177 w23 ho hb hg hat; rw [← Ny176.out] at ho; have n0_ := aM (blk_grown (g := gb157) (o := .cells #[.int .i64 a0_0, .int .i64 a0_1, .int .i64 a0_2, .int .i64 a0_3, .int .i64 a0_4, .int .i64 a0_5] 56 (0, 0)) BK157.out hg (Kd.R_ne HO_4.out BK157.out (by decide))); have n1_ := aM (Kd.R_after (ok := (fun _ => True)) HO175.out hg hat); have n2_ := aM (hb); have n3_ := aM (ho); clear BK157; clear HO175; clear HB; clear HO_4; have BK157 := n0_; have HO175 := n1_; have HB := n2_; have HO178 := n3_; clear n0_ n1_ n2_ n3_; clear ho hb hg hat))
    go_ret
    exact ⟨_, rfl, by exact Kd.R_mono HO178.out (fun _ hk => trivial), HB.out⟩

/-! ### credenzaref18_count: function 60 -/
def credenzaref18_count.f (a0_0 : Int) (a0_1 : Int) : Option (Int) := if a0_0 = 0 then (some a0_1) else (some (wrap64 (a0_0 * a0_1)))
set_option maxHeartbeats 8000000 in
set_option maxRecDepth 100000 in
theorem credenzaref18_count.calls (a0_0 : Int) (a0_1 : Int) (r : Int) (w : World) (h : credenzaref18_count.f a0_0 a0_1 = some r) :
  Calls Try.prog 60 #[.agg #[.int .i64 a0_0, .int .i64 a0_1]] w fun e w' => e = .returned (.int .i64 r) ∧ Below w.heap.size w w' := by
 have hu110 := Try.underlying110
 have HB := aM (Below.refl w.heap.size w)
 have H := h
 clear h
 unfold credenzaref18_count.f at H
 by_cases c2 : a0_0 = 0
 ·
  rw [if_pos c2] at H
  have c2b0 : (a0_0 == 0) = true := beq_iff_eq.mpr c2
  have c2b1 : (a0_0 != 0) = false := bne_eq_false_iff_eq.mpr c2
  clear c2
  obtain rfl := oI H
  go_enter Try.func60, Try.ntmps60
  go_wp2_with (first | ((with_reducible refine gate_dst (N := 1) rfl ?_); refine bxE 1 #[.int .i64 a0_0, .int .i64 a0_1] 110 (h := ?_); intro gb179 hg w3 hbox hb; have BK179 := aM (hbox); have GW179 := gE hg HB; have GE179 := gE hg HB; replace HB := bst HB hb; clear hb hbox hg; have hz4 := bx2 BK179.out))
  go_ret
  exact ⟨rfl, HB.out⟩
 ·
  rw [if_neg c2] at H
  have c2b0 : (a0_0 == 0) = false := beq_eq_false_iff_ne.mpr c2
  have c2b1 : (a0_0 != 0) = true := bne_iff_ne.mpr c2
  obtain rfl := oI H
  go_enter Try.func60, Try.ntmps60
  go_wp2_with (first | ((with_reducible refine gate_dst (N := 1) rfl ?_); refine bxE 1 #[.int .i64 a0_0, .int .i64 a0_1] 110 (h := ?_); intro gb179 hg w5 hbox hb; have BK179 := aM (hbox); have GW179 := gE hg HB; have GE179 := gE hg HB; replace HB := bst HB hb; clear hb hbox hg; have hz6 := bx2 BK179.out))
  go_ret
  exact ⟨rfl, HB.out⟩

end Go.Proofs.Ytehepnmagcjkaaa.PBlobBytes
