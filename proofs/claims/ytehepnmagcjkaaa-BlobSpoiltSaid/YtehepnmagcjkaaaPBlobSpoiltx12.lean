-- Written by a program of this session (wip/tools/mkprint.py over the kit's print).
import Derived.Test.YtehepnmagcjkaaaPBlobSpoiltx0
import Derived.Test.YtehepnmagcjkaaaPBlobSpoiltx3
import Derived.Test.YtehepnmagcjkaaaPBlobSpoiltx5
import Derived.Test.YtehepnmagcjkaaaPBlobSpoiltx7
import Derived.Test.YtehepnmagcjkaaaPBlobSpoiltx9
import Derived.Test.YtehepnmagcjkaaaPBlobSpoiltx10
import Derived.Test.YtehepnmagcjkaaaPBlobSpoiltx11
namespace Go.Proofs.Ytehepnmagcjkaaa.PBlobSpoilt
open Go.RowKit Go.Proofs.YtehepnmagcjkaaaW.PrintWords Go.Proofs.YtehepnmagcjkaaaW.PrintLast Go.Proofs.YtehepnmagcjkaaaW.PrintMore
attribute [local go_sem] max2_int min2_int max_two min_two max_three min_three max_four min_four   -- for this text's walks alone
set_option linter.unusedVariables false
set_option linter.unusedSimpArgs false

/-! ### credenzalaw18_small: function 29 -/
def smS (P : List S111) : Nat := (P.map fun p => min p.f2.length 5000).sum
theorem smS_le : ∀ P : List S111, smS P ≤ 5000 * P.length
 | [] => Nat.zero_le _
 | p :: P => by
  have := smS_le P
  simp only [smS, List.map_cons, List.sum_cons, List.length_cons] at this ⊢
  have := Nat.min_le_right p.f2.length 5000
  omega
theorem smS_succ {P : List S111} {i : Nat} {x : S111} (h : P[i]? = some x) : smS (P.take (i + 1)) = smS (P.take i) + min x.f2.length 5000 := by
 unfold smS
 rw [List.take_add_one, h, List.map_append, List.sum_append]
 simp
def smallB (n6 n10 : Nat) (P : List S111) : Bool := decide (n10 ≤ 5) && decide (n6 ≤ 20) && decide (smS P ≤ 5000)
theorem layR_len (l : List S120) : (l.flatMap layR).length = 9 * l.length := by
 induction l with
 | nil => rfl
 | cons x l ih => rw [List.flatMap_cons, List.length_append, ih]; simp only [layR, List.length_cons, List.length_nil]; omega
theorem refP_len (a7 a8 : Int) (l9 : List Int) (l10 : List S120) (l11 : List Int) (a12 a13 : Int) (l14 : List Int) : (refP a7 a8 l9 l10 l11 a12 a13 l14).length = 9 * l10.length + 3 := by
 unfold refP
 rw [List.length_append, List.length_append, layR_len]
 simp only [List.length_cons, List.length_nil]
 omega
theorem field73 (a0 a1 a2 a3 a4 a5 a6 : Int) (A B : Option Addr) (n m c d : Nat) (w : World) : (Instr.field 73 (Value.agg #[.int .i64 a0, .int .i64 a1, .int .i64 a2, .int .i64 a3, .int .i64 a4, .int .i64 a5, .int .i64 a6, .slice A n c, .slice B m d]) 3).run Try.prog w = .ok (.slice B m d) w := by kernel_rfl
set_option maxHeartbeats 8000000 in
set_option maxRecDepth 100000 in
theorem bsmall.calls (a0_0 : Int) (a0_1 : Int) (a0_2 : Int) (a0_3 : Int) (a0_4 : Int) (a0_5 : Int) (A0_6 : Option Addr) (c0_6 : Nat) (l0_6 : List (S115)) (a0_7 : Int) (a0_8 : Int) (A0_9 : Option Addr) (c0_9 : Nat) (l0_9 : List Int) (A0_10 : Option Addr) (c0_10 : Nat) (l0_10 : List (S120)) (A0_11 : Option Addr) (c0_11 : Nat) (l0_11 : List Int) (a0_12 : Int) (a0_13 : Int) (A0_14 : Option Addr) (c0_14 : Nat) (l0_14 : List Int) (w : World) (hr0_6 : Kd.C k115 w A0_6 l0_6.length l0_6) (hc0_6 : l0_6.length ≤ c0_6) (hr0_9 : Kd.C (Kd.int .i32) w A0_9 l0_9.length l0_9) (hc0_9 : l0_9.length ≤ c0_9) (hr0_10 : Kd.C k120 w A0_10 l0_10.length l0_10) (hc0_10 : l0_10.length ≤ c0_10) (hr0_11 : Kd.C (Kd.int .i32) w A0_11 l0_11.length l0_11) (hc0_11 : l0_11.length ≤ c0_11) (hr0_14 : Kd.C (Kd.int .i32) w A0_14 l0_14.length l0_14) (hc0_14 : l0_14.length ≤ c0_14) (h6 : l0_6.length ≤ 17592186043904) (h10 : l0_10.length ≤ 430000000000) :
  Calls Try.prog 29 #[.agg #[.int .i64 a0_0, .int .i64 a0_1, .int .i64 a0_2, .int .i64 a0_3, .int .i64 a0_4, .int .i64 a0_5, .slice A0_6 l0_6.length c0_6, .int .i64 a0_7, .int .i64 a0_8, .slice A0_9 l0_9.length c0_9, .slice A0_10 l0_10.length c0_10, .slice A0_11 l0_11.length c0_11, .int .i64 a0_12, .int .i64 a0_13, .slice A0_14 l0_14.length c0_14]] w fun e w' => e = .returned (.bool (smallB l0_6.length l0_10.length (refP a0_7 a0_8 l0_9 l0_10 l0_11 a0_12 a0_13 l0_14))) ∧ Below w.heap.size w w' := by
 have hu67 := Try.underlying67
 have hu73 := Try.underlying73
 have hu111 := Try.underlying111
 have hfld := fun (A B : Option Addr) (n m c d : Nat) (w : World) => field73 a0_0 a0_1 a0_2 a0_3 a0_4 a0_5 (l0_10.length : Int) A B n m c d w
 have HB := aM (Below.refl w.heap.size w)
 have HH : Aside0 ((Kd.C k115 w A0_6 l0_6.length l0_6) ∧ (l0_6.length ≤ c0_6) ∧ (Kd.C (Kd.int .i32) w A0_9 l0_9.length l0_9) ∧ (l0_9.length ≤ c0_9) ∧ (Kd.C k120 w A0_10 l0_10.length l0_10) ∧ (l0_10.length ≤ c0_10) ∧ (Kd.C (Kd.int .i32) w A0_11 l0_11.length l0_11) ∧ (l0_11.length ≤ c0_11) ∧ (Kd.C (Kd.int .i32) w A0_14 l0_14.length l0_14) ∧ (l0_14.length ≤ c0_14)) := ⟨⟨hr0_6, hc0_6, hr0_9, hc0_9, hr0_10, hc0_10, hr0_11, hc0_11, hr0_14, hc0_14⟩⟩
 clear hr0_6 hc0_6 hr0_9 hc0_9 hr0_10 hc0_10 hr0_11 hc0_11 hr0_14 hc0_14
 have H6 := aM h6
 have H10 := aM h10
 clear h6 h10
 obtain ⟨P, hP⟩ : ∃ x_, refP a0_7 a0_8 l0_9 l0_10 l0_11 a0_12 a0_13 l0_14 = x_ := ⟨_, rfl⟩
 have HPL : Aside0 (P.length = 9 * l0_10.length + 3) := ⟨by rw [← hP]; exact refP_len _ _ _ _ _ _ _ _⟩
 have HPE := aM hP
 rw [hP]
 clear hP
 go_enter Try.func29, Try.ntmps29
 go_wp2_with (first | ((with_reducible refine gate_dst (N := 1) rfl ?_); refine box_event ?hg (N := 1) ?hd (cs := #[.int .i64 a0_0, .int .i64 a0_1, .int .i64 a0_2, .int .i64 a0_3, .int .i64 a0_4, .int .i64 a0_5, .slice A0_6 l0_6.length c0_6, .int .i64 a0_7, .int .i64 a0_8, .slice A0_9 l0_9.length c0_9, .slice A0_10 l0_10.length c0_10, .slice A0_11 l0_11.length c0_11, .int .i64 a0_12, .int .i64 a0_13, .slice A0_14 l0_14.length c0_14]) (t := 67) ?hr ?_; (case hd => rfl); (case hg => rfl); (case hr => first | (go_simp; done) | (go_simp; rfl)); intro gb hg w1 hbox hb; have hz1 := bx15 hbox; have BK := aM hbox; replace HB := aM hb; clear hbox hb hg) | (go_at_call 32; (with_reducible refine (bref.calls a0_0 a0_1 a0_2 a0_3 a0_4 a0_5 A0_6 c0_6 l0_6 a0_7 a0_8 A0_9 c0_9 l0_9 A0_10 c0_10 l0_10 A0_11 c0_11 l0_11 a0_12 a0_13 A0_14 c0_14 l0_14 _ (Kd.C_below HH.out.1 HB.out) HH.out.2.1 (Kd.C_below HH.out.2.2.1 HB.out) HH.out.2.2.2.1 (Kd.C_below HH.out.2.2.2.2.1 HB.out) HH.out.2.2.2.2.2.1 (Kd.C_below HH.out.2.2.2.2.2.2.1 HB.out) HH.out.2.2.2.2.2.2.2.1 (Kd.C_below HH.out.2.2.2.2.2.2.2.2.1 HB.out) HH.out.2.2.2.2.2.2.2.2.2 H6.out H10.out).mono ?_); rintro e w2 ⟨AT, cT, AP, cP, rows, rfl, ht, hp, hrw, hb⟩; rw [HPE.out] at hp hrw ⊢; have RP := aM (Kd.R_lower hp (below_size HB.out)); have HRW := aM hrw; have HB1 := aM hb; replace BK := aM (blk_below BK.out hb); replace HB := aM (below_step HB.out hb); clear ht hp hrw hb hz1))
 go_loopw [3, 10] (fun s_ i_ W' => ∃ (n_ : Nat), i_ = .int .i64 n_ ∧ s_ = .int .i64 (smS (P.take n_) : Int) ∧ Aside0 (n_ ≤ P.length) ∧ Aside0 (W'.heap[gb]? = some (.cells #[.int .i64 a0_0, .int .i64 a0_1, .int .i64 a0_2, .int .i64 a0_3, .int .i64 a0_4, .int .i64 a0_5, .slice A0_6 l0_6.length c0_6, .int .i64 a0_7, .int .i64 a0_8, .slice A0_9 l0_9.length c0_9, .slice A0_10 l0_10.length c0_10, .slice A0_11 l0_11.length c0_11, .int .i64 a0_12, .int .i64 a0_13, .slice A0_14 l0_14.length c0_14] 67 (0, 0))) ∧ Aside0 ((Kd.raw 3).R 111 W' w.heap.size (fun _ => True) (.slice AP P.length cP) rows) ∧ Aside0 (Below w.heap.size w W') ∧ Aside0 (Below w1.heap.size w1 W')) (fun _ i_ _ => P.length - (intOf i_).toNat)
 case atStart => exact ⟨0, rfl, rfl, ⟨Nat.zero_le _⟩, BK, RP, HB, HB1⟩
 case round =>
  clear BK RP HB HB1
  obtain ⟨n, rfl, rfl, HJ, BK, RP, HB, HB1⟩ := hrel
  by_cases q : n < P.length
  ·
   have f1 : decide ((n : Int) < (P.length : Int)) = true := decide_eq_true (by omega)
   have f2 : decide (n < P.length) = true := decide_eq_true q
   have p0 : (0 : Int) ≤ (n : Int) := by omega
   have p1 : (n : Int) < (P.length : Int) := by omega
   obtain ⟨x, hx⟩ : ∃ x, P[n]? = some x := ⟨_, List.getElem?_eq_getElem q⟩
   have hrd : rd_T111 P (n : Int) = x := by unfold rd_T111; rw [List.getD_eq_getElem?_getD, Int.toNat_natCast, hx]; rfl
   obtain ⟨ad, A2, c2, he, hx0, hx1, hx2, hle, hC2⟩ := at_T111 (RowsP.reads RP.out HRW.out HB1.out).1 (n : Int) p0 p1
   cases he
   rw [hrd] at hx0 hx1 hx2
   simp only [Int.toNat_natCast] at hx0 hx1 hx2
   obtain ⟨x0, y0⟩ : ∃ x_, x.f0 = x_ := ⟨_, rfl⟩
   obtain ⟨x1, y1⟩ : ∃ x_, x.f1 = x_ := ⟨_, rfl⟩
   obtain ⟨x2, y2⟩ : ∃ x_, x.f2.length = x_ := ⟨_, rfl⟩
   have HTK : Aside0 (smS (P.take (n + 1)) = smS (P.take n) + min x2 5000) := ⟨by rw [smS_succ hx, y2]⟩
   have HLE : Aside0 (smS (P.take n) ≤ 5000 * n) := ⟨by have h_ := smS_le (P.take n); rw [List.length_take] at h_; have := Nat.min_le_left n P.length; omega⟩
   rw [y0] at hx0
   rw [y1] at hx1
   rw [y2] at hx2
   clear hrd hx y0 y1 y2 hle hC2
   obtain ⟨sm, hsm⟩ : ∃ x_, smS (P.take n) = x_ := ⟨_, rfl⟩
   rw [hsm] at HTK HLE ⊢
   clear hsm
   go_upto_region 5 with (fail)
   clear hx0 hx1 hx2
   have h_new := blk_new wr (.cells #[.int .i64 x0, .int .i64 x1, .slice A2 x2 c2] 111)
   have h_al := below_alloc (Below.refl wr.heap.size wr) (.cells #[.int .i64 x0, .int .i64 x1, .slice A2 x2 c2] 111)
   obtain ⟨g5, hg_⟩ : ∃ g_, g_ = wr.heap.size := ⟨_, rfl⟩
   rw [← hg_] at h_new ⊢
   have G5 := aM h_new
   replace BK := aM (blk_below BK.out h_al)
   replace RP := aM (Kd.R_below RP.out h_al)
   replace HB := aM (below_step HB.out h_al)
   replace HB1 := aM (below_step HB1.out h_al)
   clear h_new h_al hg_
   generalize wr.alloc (.cells #[.int .i64 x0, .int .i64 x1, .slice A2 x2 c2] 111) = w7 at G5 BK RP HB HB1 ⊢
   have hz5 := bx3b G5.out
   have hmn : (if 5000 < (x2 : Int) then (5000 : Int) else (x2 : Int)) = ((min x2 5000 : Nat) : Int) := by split <;> omega
   obtain ⟨mn, hmn2⟩ : ∃ x_, min x2 5000 = x_ := ⟨_, rfl⟩
   rw [hmn2] at HTK hmn
   have hmn3 : mn ≤ 5000 := by omega
   have hws : wrap64 ((sm : Int) + (mn : Int)) = ((sm + mn : Nat) : Int) := by have h1_ := HLE.out; have h2_ := HPL.out; have h3_ := H10.out; simp only [wrap64]; omega
   have hwn : wrap64 ((n : Int) + 1) = ((n + 1 : Nat) : Int) := by have h2_ := HPL.out; have h3_ := H10.out; simp only [wrap64]; omega
   clear hmn2
   go_wp2
   first | rw [hmn, hws, hwn] | rw [hws, hwn]
   exact ⟨⟨n + 1, rfl, by rw [HTK.out], ⟨q⟩, BK, RP, HB, HB1⟩, by simp only [intOf]; omega⟩
  ·
   have f1 : decide ((n : Int) < (P.length : Int)) = false := decide_eq_false (by omega)
   have f2 : decide (n < P.length) = false := decide_eq_false q
   obtain rfl : n = P.length := by have := HJ.out; omega
   rw [List.take_length]
   have hz1 := bx15 BK.out
   obtain ⟨sm, hsm⟩ : ∃ x_, smS P = x_ := ⟨_, rfl⟩
   have HSB : Aside0 (smallB l0_6.length l0_10.length P = (decide (l0_10.length ≤ 5) && decide (l0_6.length ≤ 20) && decide (sm ≤ 5000))) := ⟨by rw [← hsm]; rfl⟩
   rw [hsm]
   clear hsm q
   by_cases q1 : l0_10.length ≤ 5
   ·
    have g1 : decide ((l0_10.length : Int) ≤ 5) = true := decide_eq_true (by omega)
    have g2 : decide (l0_10.length ≤ 5) = true := decide_eq_true q1
    by_cases q2 : l0_6.length ≤ 20
    ·
     have g3 : decide ((l0_6.length : Int) ≤ 20) = true := decide_eq_true (by omega)
     have g4 : decide (l0_6.length ≤ 20) = true := decide_eq_true q2
     have g5 : decide ((sm : Int) ≤ 5000) = decide (sm ≤ 5000) := decide_eq_decide.mpr (by omega)
     go_wp2
     go_ret
     exact ⟨by rw [HSB.out, g2, g4]; rfl, HB.out⟩
    ·
     have g3 : decide ((l0_6.length : Int) ≤ 20) = false := decide_eq_false (by omega)
     have g4 : decide (l0_6.length ≤ 20) = false := decide_eq_false q2
     go_wp2
     go_ret
     exact ⟨by rw [HSB.out, g2, g4]; rfl, HB.out⟩
   ·
    have g1 : decide ((l0_10.length : Int) ≤ 5) = false := decide_eq_false (by omega)
    have g2 : decide (l0_10.length ≤ 5) = false := decide_eq_false q1
    go_wp2
    go_ret
    exact ⟨by rw [HSB.out, g2]; rfl, HB.out⟩
-- calls: credenzalaw18_ref

/-! ### credenzalaw18_BlobSpoilt: function 11 -/
/-- What a blob's rows are, at a world. -/
def BlobC (w : World) (A0_6 : Option Addr) (c0_6 : Nat) (l0_6 : List S115) (A0_9 : Option Addr) (c0_9 : Nat) (l0_9 : List Int) (A0_10 : Option Addr) (c0_10 : Nat) (l0_10 : List S120) (A0_11 : Option Addr) (c0_11 : Nat) (l0_11 : List Int) (A0_14 : Option Addr) (c0_14 : Nat) (l0_14 : List Int) : Prop := Kd.C k115 w A0_6 l0_6.length l0_6 ∧ l0_6.length ≤ c0_6 ∧ Kd.C (Kd.int .i32) w A0_9 l0_9.length l0_9 ∧ l0_9.length ≤ c0_9 ∧ Kd.C k120 w A0_10 l0_10.length l0_10 ∧ l0_10.length ≤ c0_10 ∧ Kd.C (Kd.int .i32) w A0_11 l0_11.length l0_11 ∧ l0_11.length ≤ c0_11 ∧ Kd.C (Kd.int .i32) w A0_14 l0_14.length l0_14 ∧ l0_14.length ≤ c0_14
theorem BlobC.below {W W' : World} {A0_6 : Option Addr} {c0_6 : Nat} {l0_6 : List S115} {A0_9 : Option Addr} {c0_9 : Nat} {l0_9 : List Int} {A0_10 : Option Addr} {c0_10 : Nat} {l0_10 : List S120} {A0_11 : Option Addr} {c0_11 : Nat} {l0_11 : List Int} {A0_14 : Option Addr} {c0_14 : Nat} {l0_14 : List Int} (h : BlobC W A0_6 c0_6 l0_6 A0_9 c0_9 l0_9 A0_10 c0_10 l0_10 A0_11 c0_11 l0_11 A0_14 c0_14 l0_14) (hb : Below W.heap.size W W') : BlobC W' A0_6 c0_6 l0_6 A0_9 c0_9 l0_9 A0_10 c0_10 l0_10 A0_11 c0_11 l0_11 A0_14 c0_14 l0_14 := ⟨Kd.C_below h.1 hb, h.2.1, Kd.C_below h.2.2.1 hb, h.2.2.2.1, Kd.C_below h.2.2.2.2.1 hb, h.2.2.2.2.2.1, Kd.C_below h.2.2.2.2.2.2.1 hb, h.2.2.2.2.2.2.2.1, Kd.C_below h.2.2.2.2.2.2.2.2.1 hb, h.2.2.2.2.2.2.2.2.2⟩
/-- The reference's rows. -/
def RefC (w : World) (AT : Option Addr) (cT : Nat) (T : List Int) (AP : Option Addr) (cP : Nat) (P : List S111) : Prop := Kd.C (Kd.int .i32) w AT T.length T ∧ T.length ≤ cT ∧ Kd.C k111 w AP P.length P ∧ P.length ≤ cP
theorem RefC.below {W W' : World} {AT AP : Option Addr} {cT cP : Nat} {T : List Int} {P : List S111} (h : RefC W AT cT T AP cP P) (hb : Below W.heap.size W W') : RefC W' AT cT T AP cP P := ⟨Kd.C_below h.1 hb, h.2.1, Kd.C_below h.2.2.1 hb, h.2.2.2⟩
theorem cSmall (a0_0 : Int) (a0_1 : Int) (a0_2 : Int) (a0_3 : Int) (a0_4 : Int) (a0_5 : Int) (A0_6 : Option Addr) (c0_6 : Nat) (l0_6 : List S115) (a0_7 : Int) (a0_8 : Int) (A0_9 : Option Addr) (c0_9 : Nat) (l0_9 : List Int) (A0_10 : Option Addr) (c0_10 : Nat) (l0_10 : List S120) (A0_11 : Option Addr) (c0_11 : Nat) (l0_11 : List Int) (a0_12 : Int) (a0_13 : Int) (A0_14 : Option Addr) (c0_14 : Nat) (l0_14 : List Int) (r : Bool) (w : World) (hq : BlobC w A0_6 c0_6 l0_6 A0_9 c0_9 l0_9 A0_10 c0_10 l0_10 A0_11 c0_11 l0_11 A0_14 c0_14 l0_14) (hbd : l0_6.length ≤ 17592186043904 ∧ l0_10.length ≤ 430000000000) (h : smallB l0_6.length l0_10.length (refP a0_7 a0_8 l0_9 l0_10 l0_11 a0_12 a0_13 l0_14) = r) :
  Calls Try.prog 29 #[.agg #[.int .i64 a0_0, .int .i64 a0_1, .int .i64 a0_2, .int .i64 a0_3, .int .i64 a0_4, .int .i64 a0_5, .slice A0_6 l0_6.length c0_6, .int .i64 a0_7, .int .i64 a0_8, .slice A0_9 l0_9.length c0_9, .slice A0_10 l0_10.length c0_10, .slice A0_11 l0_11.length c0_11, .int .i64 a0_12, .int .i64 a0_13, .slice A0_14 l0_14.length c0_14]] w fun e w' => e = .returned (.bool r) ∧ Below w.heap.size w w' := by
 subst h
 exact bsmall.calls a0_0 a0_1 a0_2 a0_3 a0_4 a0_5 A0_6 c0_6 l0_6 a0_7 a0_8 A0_9 c0_9 l0_9 A0_10 c0_10 l0_10 A0_11 c0_11 l0_11 a0_12 a0_13 A0_14 c0_14 l0_14 w hq.1 hq.2.1 hq.2.2.1 hq.2.2.2.1 hq.2.2.2.2.1 hq.2.2.2.2.2.1 hq.2.2.2.2.2.2.1 hq.2.2.2.2.2.2.2.1 hq.2.2.2.2.2.2.2.2.1 hq.2.2.2.2.2.2.2.2.2 hbd.1 hbd.2
theorem cRef (a0_0 : Int) (a0_1 : Int) (a0_2 : Int) (a0_3 : Int) (a0_4 : Int) (a0_5 : Int) (A0_6 : Option Addr) (c0_6 : Nat) (l0_6 : List S115) (a0_7 : Int) (a0_8 : Int) (A0_9 : Option Addr) (c0_9 : Nat) (l0_9 : List Int) (A0_10 : Option Addr) (c0_10 : Nat) (l0_10 : List S120) (A0_11 : Option Addr) (c0_11 : Nat) (l0_11 : List Int) (a0_12 : Int) (a0_13 : Int) (A0_14 : Option Addr) (c0_14 : Nat) (l0_14 : List Int) (T : List Int) (P : List S111) (w : World) (hq : BlobC w A0_6 c0_6 l0_6 A0_9 c0_9 l0_9 A0_10 c0_10 l0_10 A0_11 c0_11 l0_11 A0_14 c0_14 l0_14) (hbd : l0_6.length ≤ 17592186043904 ∧ l0_10.length ≤ 430000000000) (hT : refT l0_6 = T) (hP : refP a0_7 a0_8 l0_9 l0_10 l0_11 a0_12 a0_13 l0_14 = P) :
  Calls Try.prog 32 #[.agg #[.int .i64 a0_0, .int .i64 a0_1, .int .i64 a0_2, .int .i64 a0_3, .int .i64 a0_4, .int .i64 a0_5, .slice A0_6 l0_6.length c0_6, .int .i64 a0_7, .int .i64 a0_8, .slice A0_9 l0_9.length c0_9, .slice A0_10 l0_10.length c0_10, .slice A0_11 l0_11.length c0_11, .int .i64 a0_12, .int .i64 a0_13, .slice A0_14 l0_14.length c0_14]] w fun e w' => ∃ AT cT AP cP, e = .returned (.agg #[.int .i64 a0_0, .int .i64 a0_1, .int .i64 a0_2, .int .i64 a0_3, .int .i64 a0_4, .int .i64 a0_5, .int .i64 (l0_10.length : Int), .slice AT T.length cT, .slice AP P.length cP]) ∧ RefC w' AT cT T AP cP P ∧ Below w.heap.size w w' := by
 subst hT
 subst hP
 refine (bref.calls a0_0 a0_1 a0_2 a0_3 a0_4 a0_5 A0_6 c0_6 l0_6 a0_7 a0_8 A0_9 c0_9 l0_9 A0_10 c0_10 l0_10 A0_11 c0_11 l0_11 a0_12 a0_13 A0_14 c0_14 l0_14 w hq.1 hq.2.1 hq.2.2.1 hq.2.2.2.1 hq.2.2.2.2.1 hq.2.2.2.2.2.1 hq.2.2.2.2.2.2.1 hq.2.2.2.2.2.2.2.1 hq.2.2.2.2.2.2.2.2.1 hq.2.2.2.2.2.2.2.2.2 hbd.1 hbd.2).mono ?_
 rintro e w' ⟨AT, cT, AP, cP, rows, rfl, ht, hp, hrw, hb⟩
 exact ⟨AT, cT, AP, cP, rfl, ⟨(Kd.R_reads' ht).2.2, (Kd.R_reads' ht).2.1, (RowsP.reads hp hrw hb).1, (RowsP.reads hp hrw hb).2.2⟩, hb⟩
theorem cBytes (k : Nat) (a0_0 : Int) (a0_1 : Int) (a0_2 : Int) (a0_3 : Int) (a0_4 : Int) (a0_5 : Int) (A0_6 : Option Addr) (c0_6 : Nat) (l0_6 : List S115) (a0_7 : Int) (a0_8 : Int) (A0_9 : Option Addr) (c0_9 : Nat) (l0_9 : List Int) (A0_10 : Option Addr) (c0_10 : Nat) (l0_10 : List S120) (A0_11 : Option Addr) (c0_11 : Nat) (l0_11 : List Int) (a0_12 : Int) (a0_13 : Int) (A0_14 : Option Addr) (c0_14 : Nat) (l0_14 : List Int) (s : List Int) (x : Int) (w : World) (hq : BlobC w A0_6 c0_6 l0_6 A0_9 c0_9 l0_9 A0_10 c0_10 l0_10 A0_11 c0_11 l0_11 A0_14 c0_14 l0_14) (h : blob_Bytes.f k a0_0 a0_1 a0_2 a0_3 a0_4 a0_5 l0_6 a0_7 a0_8 l0_9 l0_10 l0_11 a0_12 a0_13 l0_14 = some (s, x)) :
  Calls Try.prog 30 #[.agg #[.int .i64 a0_0, .int .i64 a0_1, .int .i64 a0_2, .int .i64 a0_3, .int .i64 a0_4, .int .i64 a0_5, .slice A0_6 l0_6.length c0_6, .int .i64 a0_7, .int .i64 a0_8, .slice A0_9 l0_9.length c0_9, .slice A0_10 l0_10.length c0_10, .slice A0_11 l0_11.length c0_11, .int .i64 a0_12, .int .i64 a0_13, .slice A0_14 l0_14.length c0_14]] w fun e w' => ∃ A c, e = .returned (.tuple #[.slice A s.length c, .int .i64 x]) ∧ Kd.R (Kd.int .u8) 5 w' w.heap.size (fun _ => True) (.slice A s.length c) s ∧ Below w.heap.size w w' := by
 refine (blob_Bytes.calls k a0_0 a0_1 a0_2 a0_3 a0_4 a0_5 A0_6 c0_6 l0_6 a0_7 a0_8 A0_9 c0_9 l0_9 A0_10 c0_10 l0_10 A0_11 c0_11 l0_11 a0_12 a0_13 A0_14 c0_14 l0_14 s x w hq.1 hq.2.1 hq.2.2.1 hq.2.2.2.1 hq.2.2.2.2.1 hq.2.2.2.2.2.1 hq.2.2.2.2.2.2.1 hq.2.2.2.2.2.2.2.1 hq.2.2.2.2.2.2.2.2.1 hq.2.2.2.2.2.2.2.2.2 h).mono ?_
 rintro e w' ⟨v, rfl, hr, hb⟩
 obtain ⟨A, c, rfl⟩ := Kd.R_slice hr
 exact ⟨A, c, rfl, hr, hb⟩
theorem cRight (k : Nat) (a0_0 : Int) (a0_1 : Int) (a0_2 : Int) (a0_3 : Int) (a0_4 : Int) (a0_5 : Int) (A0_6 : Option Addr) (c0_6 : Nat) (l0_6 : List S115) (a0_7 : Int) (a0_8 : Int) (A0_9 : Option Addr) (c0_9 : Nat) (l0_9 : List Int) (A0_10 : Option Addr) (c0_10 : Nat) (l0_10 : List S120) (A0_11 : Option Addr) (c0_11 : Nat) (l0_11 : List Int) (a0_12 : Int) (a0_13 : Int) (A0_14 : Option Addr) (c0_14 : Nat) (l0_14 : List Int) (r : Int) (w : World) (hq : BlobC w A0_6 c0_6 l0_6 A0_9 c0_9 l0_9 A0_10 c0_10 l0_10 A0_11 c0_11 l0_11 A0_14 c0_14 l0_14) (h : blob_Right.f k a0_0 a0_1 a0_2 a0_3 a0_4 a0_5 l0_6 a0_7 a0_8 l0_9 l0_10 l0_11 a0_12 a0_13 l0_14 = some r) :
  Calls Try.prog 33 #[.agg #[.int .i64 a0_0, .int .i64 a0_1, .int .i64 a0_2, .int .i64 a0_3, .int .i64 a0_4, .int .i64 a0_5, .slice A0_6 l0_6.length c0_6, .int .i64 a0_7, .int .i64 a0_8, .slice A0_9 l0_9.length c0_9, .slice A0_10 l0_10.length c0_10, .slice A0_11 l0_11.length c0_11, .int .i64 a0_12, .int .i64 a0_13, .slice A0_14 l0_14.length c0_14]] w fun e w' => e = .returned (.int .i64 r) ∧ Below w.heap.size w w' := blob_Right.calls k a0_0 a0_1 a0_2 a0_3 a0_4 a0_5 A0_6 c0_6 l0_6 a0_7 a0_8 A0_9 c0_9 l0_9 A0_10 c0_10 l0_10 A0_11 c0_11 l0_11 a0_12 a0_13 A0_14 c0_14 l0_14 r w hq.1 hq.2.1 hq.2.2.1 hq.2.2.2.1 hq.2.2.2.2.1 hq.2.2.2.2.2.1 hq.2.2.2.2.2.2.1 hq.2.2.2.2.2.2.2.1 hq.2.2.2.2.2.2.2.2.1 hq.2.2.2.2.2.2.2.2.2 h
theorem cEqual (k : Nat) (a0_0 : Int) (a0_1 : Int) (a0_2 : Int) (a0_3 : Int) (a0_4 : Int) (a0_5 : Int) (A0_6 : Option Addr) (c0_6 : Nat) (l0_6 : List S115) (a0_7 : Int) (a0_8 : Int) (A0_9 : Option Addr) (c0_9 : Nat) (l0_9 : List Int) (A0_10 : Option Addr) (c0_10 : Nat) (l0_10 : List S120) (A0_11 : Option Addr) (c0_11 : Nat) (l0_11 : List Int) (a0_12 : Int) (a0_13 : Int) (A0_14 : Option Addr) (c0_14 : Nat) (l0_14 : List Int) (a1_0 : Int) (a1_1 : Int) (a1_2 : Int) (a1_3 : Int) (a1_4 : Int) (a1_5 : Int) (A1_6 : Option Addr) (c1_6 : Nat) (l1_6 : List S115) (a1_7 : Int) (a1_8 : Int) (A1_9 : Option Addr) (c1_9 : Nat) (l1_9 : List Int) (A1_10 : Option Addr) (c1_10 : Nat) (l1_10 : List S120) (A1_11 : Option Addr) (c1_11 : Nat) (l1_11 : List Int) (a1_12 : Int) (a1_13 : Int) (A1_14 : Option Addr) (c1_14 : Nat) (l1_14 : List Int) (r : Bool) (w : World) (hq : BlobC w A0_6 c0_6 l0_6 A0_9 c0_9 l0_9 A0_10 c0_10 l0_10 A0_11 c0_11 l0_11 A0_14 c0_14 l0_14) (hq1 : BlobC w A1_6 c1_6 l1_6 A1_9 c1_9 l1_9 A1_10 c1_10 l1_10 A1_11 c1_11 l1_11 A1_14 c1_14 l1_14) (h : blob_Equal.f k a0_0 a0_1 a0_2 a0_3 a0_4 a0_5 l0_6 a0_7 a0_8 l0_9 l0_10 l0_11 a0_12 a0_13 l0_14 a1_0 a1_1 a1_2 a1_3 a1_4 a1_5 l1_6 a1_7 a1_8 l1_9 l1_10 l1_11 a1_12 a1_13 l1_14 = some r) :
  Calls Try.prog 36 #[.agg #[.int .i64 a0_0, .int .i64 a0_1, .int .i64 a0_2, .int .i64 a0_3, .int .i64 a0_4, .int .i64 a0_5, .slice A0_6 l0_6.length c0_6, .int .i64 a0_7, .int .i64 a0_8, .slice A0_9 l0_9.length c0_9, .slice A0_10 l0_10.length c0_10, .slice A0_11 l0_11.length c0_11, .int .i64 a0_12, .int .i64 a0_13, .slice A0_14 l0_14.length c0_14], .agg #[.int .i64 a1_0, .int .i64 a1_1, .int .i64 a1_2, .int .i64 a1_3, .int .i64 a1_4, .int .i64 a1_5, .slice A1_6 l1_6.length c1_6, .int .i64 a1_7, .int .i64 a1_8, .slice A1_9 l1_9.length c1_9, .slice A1_10 l1_10.length c1_10, .slice A1_11 l1_11.length c1_11, .int .i64 a1_12, .int .i64 a1_13, .slice A1_14 l1_14.length c1_14]] w fun e w' => e = .returned (.bool r) ∧ Below w.heap.size w w' := blob_Equal.calls k a0_0 a0_1 a0_2 a0_3 a0_4 a0_5 A0_6 c0_6 l0_6 a0_7 a0_8 A0_9 c0_9 l0_9 A0_10 c0_10 l0_10 A0_11 c0_11 l0_11 a0_12 a0_13 A0_14 c0_14 l0_14 a1_0 a1_1 a1_2 a1_3 a1_4 a1_5 A1_6 c1_6 l1_6 a1_7 a1_8 A1_9 c1_9 l1_9 A1_10 c1_10 l1_10 A1_11 c1_11 l1_11 a1_12 a1_13 A1_14 c1_14 l1_14 r w hq.1 hq.2.1 hq.2.2.1 hq.2.2.2.1 hq.2.2.2.2.1 hq.2.2.2.2.2.1 hq.2.2.2.2.2.2.1 hq.2.2.2.2.2.2.2.1 hq.2.2.2.2.2.2.2.2.1 hq.2.2.2.2.2.2.2.2.2 hq1.1 hq1.2.1 hq1.2.2.1 hq1.2.2.2.1 hq1.2.2.2.2.1 hq1.2.2.2.2.2.1 hq1.2.2.2.2.2.2.1 hq1.2.2.2.2.2.2.2.1 hq1.2.2.2.2.2.2.2.2.1 hq1.2.2.2.2.2.2.2.2.2 h
def KeepsFrom (B : Nat) (w w' : World) : Prop := ∀ k, B ≤ k → k < w.heap.size → w'.heap[k]? = w.heap[k]?
theorem R_from {α : Type} {d : Kd α} {e B : Nat} {W W' : World} {ok : Nat → Prop} {v : Value} {xs : List α} (h : d.R e W B ok v xs) (hk : KeepsFrom B W W') : d.R e W' B ok v xs :=
 Kd.R_mono (Kd.R_step (Kd.R_bound h) (fun k hk1 _ => by
  obtain ⟨h1, h2, h3, q, hq, cs, hc⟩ := hk1
  exact hk k h2 h3)) (fun k hk1 => hk1.1)
theorem cParse (k : Nat) (A0 : Option Addr) (c0 : Nat) (l0 : List Int) (a1_0 : Int) (a1_1 : Int) (a1_2 : Int) (a1_3 : Int) (a1_4 : Int) (a1_5 : Int) (l1_6 : List S115) (a1_7 : Int) (a1_8 : Int) (l1_9 : List Int) (l1_10 : List S120) (l1_11 : List Int) (a1_12 : Int) (a1_13 : Int) (l1_14 : List Int) (x : Int) (w : World) (hr0 : Kd.C (Kd.int .u8) w A0 l0.length l0) (hc0 : l0.length ≤ c0) (h : blob_Parse.f k l0 = some (a1_0, a1_1, a1_2, a1_3, a1_4, a1_5, l1_6, a1_7, a1_8, l1_9, l1_10, l1_11, a1_12, a1_13, l1_14, x)) :
  Calls Try.prog 34 #[.slice A0 l0.length c0] w fun e w' => ∃ A1_6 c1_6 A1_9 c1_9 A1_10 c1_10 A1_11 c1_11 A1_14 c1_14, e = .returned (.tuple #[.agg #[.int .i64 a1_0, .int .i64 a1_1, .int .i64 a1_2, .int .i64 a1_3, .int .i64 a1_4, .int .i64 a1_5, .slice A1_6 l1_6.length c1_6, .int .i64 a1_7, .int .i64 a1_8, .slice A1_9 l1_9.length c1_9, .slice A1_10 l1_10.length c1_10, .slice A1_11 l1_11.length c1_11, .int .i64 a1_12, .int .i64 a1_13, .slice A1_14 l1_14.length c1_14], .int .i64 x]) ∧ (∀ W', KeepsFrom w.heap.size w' W' → BlobC W' A1_6 c1_6 l1_6 A1_9 c1_9 l1_9 A1_10 c1_10 l1_10 A1_11 c1_11 l1_11 A1_14 c1_14 l1_14) ∧ Below w.heap.size w w' := by
 refine (blob_Parse.calls k A0 c0 l0 a1_0 a1_1 a1_2 a1_3 a1_4 a1_5 l1_6 a1_7 a1_8 l1_9 l1_10 l1_11 a1_12 a1_13 l1_14 x w hr0 hc0 h).mono ?_
 rintro e w' ⟨v6, v9, v10, v11, v14, rfl, h6, h9, h10, h11, h14, hb⟩
 have h10 := Kd.S_R h10
 obtain ⟨A1_6, c1_6, rfl⟩ := Kd.R_slice h6
 obtain ⟨A1_9, c1_9, rfl⟩ := Kd.R_slice h9
 obtain ⟨A1_10, c1_10, rfl⟩ := Kd.R_slice h10
 obtain ⟨A1_11, c1_11, rfl⟩ := Kd.R_slice h11
 obtain ⟨A1_14, c1_14, rfl⟩ := Kd.R_slice h14
 refine ⟨A1_6, c1_6, A1_9, c1_9, A1_10, c1_10, A1_11, c1_11, A1_14, c1_14, rfl, fun W' hk => ?_, hb⟩
 have g6 := Kd.R_reads' (R_from h6 hk)
 have g9 := Kd.R_reads' (R_from h9 hk)
 have g10 := Kd.R_reads' (R_from h10 hk)
 have g11 := Kd.R_reads' (R_from h11 hk)
 have g14 := Kd.R_reads' (R_from h14 hk)
 exact ⟨g6.2.2, g6.2.1, g9.2.2, g9.2.1, g10.2.2, g10.2.1, g11.2.2, g11.2.1, g14.2.2, g14.2.1⟩
theorem exec_load {P : Program} {W : World} {o : Oper} {a : Act} (ty : TypeId) (x : Operand) (ho : o.op = .load ty x) (ad : Addr) (hx : a.eval x = .pointer (some ad)) (vs : List Value) (hc : ∀ j v, vs[j]? = some v → W.cell? (ad.add j) = some v) (d : TypeDesc) (hu : P.underlying ty = some d) (hd : (match d with | .struct _ | .array _ _ => true | _ => false) = true) (hi : (P.info? ty).map (·.size) = some vs.length) : (execOp a.eval o).run P W = .ok (.value (.agg vs.toArray)) W := by
 unfold execOp
 simp only [ho, hx, Instr.loadAt, Instr.sureAddr, Sem.run_bind, Sem.run_pure, Result.andThen_ok, run_loadVar_at W ad ty vs d hc hu hd hi]
def AtC (w : World) (g : Nat) (vs : List Value) : Prop := ∀ j v, vs[j]? = some v → w.cell? ((⟨g, 0, none⟩ : Addr).add j) = some v
theorem R_block {W : World} {B g n c : Nat} {xs : List Int} {ok : Nat → Prop} (h : (Kd.int .u8).R 5 W B ok (.slice (some ⟨g, 0, none⟩) n c) xs) : B ≤ g ∧ ∃ cs, W.heap[g]? = some (.cells cs 5 (0, 0)) := by
 rcases (Kd.own_of_R h).2 with ⟨hv, _⟩ | ⟨g', cap, cur, hv, hg, hh, _⟩
 ·
  cases hv
 ·
  injection hv with h1 _ _
  injection h1 with h1
  injection h1 with h1 _ _
  subst h1
  exact ⟨hg, cur, hh⟩
theorem row_lt {W : World} {B n c : Nat} {A : Option Addr} {xs : List Int} {ok : Nat → Prop} (h : (Kd.int .u8).R 5 W B ok (.slice A n c) xs) (g : Nat) (hA : A = some ⟨g, 0, none⟩) : g < W.heap.size := by
 subst hA
 obtain ⟨_, cs, hc⟩ := R_block h
 exact blk_lt hc
theorem row_g {W : World} {B c : Nat} {A : Option Addr} {xs : List Int} {ok : Nat → Prop} (h : (Kd.int .u8).R 5 W B ok (.slice A xs.length c) xs) : ∃ g, 0 < xs.length → A = some ⟨g, 0, none⟩ := by
 rcases (Kd.own_of_R h).2 with ⟨hv, hn⟩ | ⟨g', cap, cur, hv, _⟩
 ·
  exact ⟨0, fun h0 => by omega⟩
 ·
  injection hv with h1 _ _
  exact ⟨g', fun _ => h1⟩
theorem BlobC_nil (w : World) : BlobC w none 0 [] none 0 [] none 0 [] none 0 [] none 0 [] := ⟨Kd.C_nil _ _, Nat.le_refl _, Kd.C_nil _ _, Nat.le_refl _, Kd.C_nil _ _, Nat.le_refl _, Kd.C_nil _ _, Nat.le_refl _, Kd.C_nil _ _, Nat.le_refl _⟩
def BlobSpoilt_ok (k : Nat) (a0_0 : Int) (a0_1 : Int) (a0_2 : Int) (a0_3 : Int) (a0_4 : Int) (a0_5 : Int) (l0_6 : List S115) (a0_7 : Int) (a0_8 : Int) (l0_9 : List Int) (l0_10 : List S120) (l0_11 : List Int) (a0_12 : Int) (a0_13 : Int) (l0_14 : List Int) (a1 a2 : Int) : Prop :=
 (l0_6.length ≤ 17592186043904 ∧ l0_10.length ≤ 430000000000) ∧ credenzalaw18_awake.f k = some true ∧
 (smallB l0_6.length l0_10.length (refP a0_7 a0_8 l0_9 l0_10 l0_11 a0_12 a0_13 l0_14) = true → ∃ (s : List Int) (e : Int), blob_Bytes.f k a0_0 a0_1 a0_2 a0_3 a0_4 a0_5 l0_6 a0_7 a0_8 l0_9 l0_10 l0_11 a0_12 a0_13 l0_14 = some (s, e) ∧
  (e = 0 → 0 ≤ a1 → a1 < (s.length : Int) → ∃ (a1_0 : Int) (a1_1 : Int) (a1_2 : Int) (a1_3 : Int) (a1_4 : Int) (a1_5 : Int) (l1_6 : List S115) (a1_7 : Int) (a1_8 : Int) (l1_9 : List Int) (l1_10 : List S120) (l1_11 : List Int) (a1_12 : Int) (a1_13 : Int) (l1_14 : List Int) (x : Int), blob_Parse.f k (s.set a1.toNat a2) = some (a1_0, a1_1, a1_2, a1_3, a1_4, a1_5, l1_6, a1_7, a1_8, l1_9, l1_10, l1_11, a1_12, a1_13, l1_14, x) ∧ (rdOf (0 : Int) s a1 = a2 → x = 0 ∧ blob_Equal.f k a0_0 a0_1 a0_2 a0_3 a0_4 a0_5 l0_6 a0_7 a0_8 l0_9 l0_10 l0_11 a0_12 a0_13 l0_14 a1_0 a1_1 a1_2 a1_3 a1_4 a1_5 l1_6 a1_7 a1_8 l1_9 l1_10 l1_11 a1_12 a1_13 l1_14 = some true) ∧ (rdOf (0 : Int) s a1 ≠ a2 → x = 22 ∧ blob_Equal.f k a1_0 a1_1 a1_2 a1_3 a1_4 a1_5 l1_6 a1_7 a1_8 l1_9 l1_10 l1_11 a1_12 a1_13 l1_14 0 0 0 0 0 0 ([] : List S115) 0 0 ([] : List Int) ([] : List S120) ([] : List Int) 0 0 ([] : List Int) = some true)))
theorem BlobSpoilt_ok.mono {k : Nat} {a0_0 : Int} {a0_1 : Int} {a0_2 : Int} {a0_3 : Int} {a0_4 : Int} {a0_5 : Int} {l0_6 : List S115} {a0_7 : Int} {a0_8 : Int} {l0_9 : List Int} {l0_10 : List S120} {l0_11 : List Int} {a0_12 : Int} {a0_13 : Int} {l0_14 : List Int} {a1 a2 : Int} (h : BlobSpoilt_ok k a0_0 a0_1 a0_2 a0_3 a0_4 a0_5 l0_6 a0_7 a0_8 l0_9 l0_10 l0_11 a0_12 a0_13 l0_14 a1 a2) : BlobSpoilt_ok (k + 1) a0_0 a0_1 a0_2 a0_3 a0_4 a0_5 l0_6 a0_7 a0_8 l0_9 l0_10 l0_11 a0_12 a0_13 l0_14 a1 a2 := by
 obtain ⟨h1, h2, h3⟩ := h
 refine ⟨h1, credenzalaw18_awake.mono _ _ h2, fun hs => ?_⟩
 obtain ⟨s, e, g5, g6⟩ := h3 hs
 refine ⟨s, e, blob_Bytes.mono _ _ _ _ _ _ _ _ _ _ _ _ _ _ _ _ _ g5, fun he h0 hl => ?_⟩
 obtain ⟨a1_0, a1_1, a1_2, a1_3, a1_4, a1_5, l1_6, a1_7, a1_8, l1_9, l1_10, l1_11, a1_12, a1_13, l1_14, x, q1, q2, q3⟩ := g6 he h0 hl
 exact ⟨a1_0, a1_1, a1_2, a1_3, a1_4, a1_5, l1_6, a1_7, a1_8, l1_9, l1_10, l1_11, a1_12, a1_13, l1_14, x, blob_Parse.mono _ _ _ q1, fun hx => ⟨(q2 hx).1, blob_Equal.mono _ _ _ _ _ _ _ _ _ _ _ _ _ _ _ _ _ _ _ _ _ _ _ _ _ _ _ _ _ _ _ _ (q2 hx).2⟩, fun hx => ⟨(q3 hx).1, blob_Equal.mono _ _ _ _ _ _ _ _ _ _ _ _ _ _ _ _ _ _ _ _ _ _ _ _ _ _ _ _ _ _ _ _ (q3 hx).2⟩⟩
open Classical in
noncomputable def credenzalaw18_BlobSpoilt.f (k : Nat) (a0_0 : Int) (a0_1 : Int) (a0_2 : Int) (a0_3 : Int) (a0_4 : Int) (a0_5 : Int) (l0_6 : List S115) (a0_7 : Int) (a0_8 : Int) (l0_9 : List Int) (l0_10 : List S120) (l0_11 : List Int) (a0_12 : Int) (a0_13 : Int) (l0_14 : List Int) (a1 a2 : Int) : Option Bool := if BlobSpoilt_ok k a0_0 a0_1 a0_2 a0_3 a0_4 a0_5 l0_6 a0_7 a0_8 l0_9 l0_10 l0_11 a0_12 a0_13 l0_14 a1 a2 then some true else none
theorem credenzalaw18_BlobSpoilt.mono : ∀ a0_0 a0_1 a0_2 a0_3 a0_4 a0_5 l0_6 a0_7 a0_8 l0_9 l0_10 l0_11 a0_12 a0_13 l0_14 a1 a2 k, LeO (credenzalaw18_BlobSpoilt.f k a0_0 a0_1 a0_2 a0_3 a0_4 a0_5 l0_6 a0_7 a0_8 l0_9 l0_10 l0_11 a0_12 a0_13 l0_14 a1 a2) (credenzalaw18_BlobSpoilt.f (k + 1) a0_0 a0_1 a0_2 a0_3 a0_4 a0_5 l0_6 a0_7 a0_8 l0_9 l0_10 l0_11 a0_12 a0_13 l0_14 a1 a2) := by
 intro a0_0 a0_1 a0_2 a0_3 a0_4 a0_5 l0_6 a0_7 a0_8 l0_9 l0_10 l0_11 a0_12 a0_13 l0_14 a1 a2 k r h
 unfold credenzalaw18_BlobSpoilt.f at h ⊢
 split at h
 ·
  next hc => rw [if_pos hc.mono]; exact h
 ·
  cases h
set_option maxHeartbeats 8000000 in
set_option maxRecDepth 100000 in
theorem lawSpoilt.go (k : Nat) (a0_0 : Int) (a0_1 : Int) (a0_2 : Int) (a0_3 : Int) (a0_4 : Int) (a0_5 : Int) (A0_6 : Option Addr) (c0_6 : Nat) (l0_6 : List S115) (a0_7 : Int) (a0_8 : Int) (A0_9 : Option Addr) (c0_9 : Nat) (l0_9 : List Int) (A0_10 : Option Addr) (c0_10 : Nat) (l0_10 : List S120) (A0_11 : Option Addr) (c0_11 : Nat) (l0_11 : List Int) (a0_12 : Int) (a0_13 : Int) (A0_14 : Option Addr) (c0_14 : Nat) (l0_14 : List Int) (a1 a2 : Int) (w : World) (hq : BlobC w A0_6 c0_6 l0_6 A0_9 c0_9 l0_9 A0_10 c0_10 l0_10 A0_11 c0_11 l0_11 A0_14 c0_14 l0_14) (h : BlobSpoilt_ok k a0_0 a0_1 a0_2 a0_3 a0_4 a0_5 l0_6 a0_7 a0_8 l0_9 l0_10 l0_11 a0_12 a0_13 l0_14 a1 a2) :
  Calls Try.prog 11 #[.agg #[.int .i64 a0_0, .int .i64 a0_1, .int .i64 a0_2, .int .i64 a0_3, .int .i64 a0_4, .int .i64 a0_5, .slice A0_6 l0_6.length c0_6, .int .i64 a0_7, .int .i64 a0_8, .slice A0_9 l0_9.length c0_9, .slice A0_10 l0_10.length c0_10, .slice A0_11 l0_11.length c0_11, .int .i64 a0_12, .int .i64 a0_13, .slice A0_14 l0_14.length c0_14], .int .i64 a1, .int .u8 a2] w fun e w' => e = .returned (.bool true) ∧ Below w.heap.size w w' := by
 have hu67 := Try.underlying67
 have hu73 := Try.underlying73
 have HB := aM (Below.refl w.heap.size w)
 have HQ := aM hq
 obtain ⟨hbd, haw, h⟩ := h
 have HBD0 := aM hbd
 have HAW := aM haw
 clear hq hbd haw
 cases hsm : smallB l0_6.length l0_10.length (refP a0_7 a0_8 l0_9 l0_10 l0_11 a0_12 a0_13 l0_14)
 case false =>
  have HSM := aM hsm
  clear hsm h
  go_enter Try.func11, Try.ntmps11
  go_wp2_with (first | ((with_reducible refine gate_dst (N := 3) rfl ?_); refine box_event ?hg (N := 3) ?hd (cs := #[.int .i64 a0_0, .int .i64 a0_1, .int .i64 a0_2, .int .i64 a0_3, .int .i64 a0_4, .int .i64 a0_5, .slice A0_6 l0_6.length c0_6, .int .i64 a0_7, .int .i64 a0_8, .slice A0_9 l0_9.length c0_9, .slice A0_10 l0_10.length c0_10, .slice A0_11 l0_11.length c0_11, .int .i64 a0_12, .int .i64 a0_13, .slice A0_14 l0_14.length c0_14]) (t := 67) ?hr ?_; (case hd => rfl); (case hg => rfl); (case hr => first | (go_simp; done) | (go_simp; rfl)); intro gb hg w1 hbox hb; have BK := aM hbox; replace HB := aM hb; clear hbox hb hg) | ((with_reducible refine gate_dst (N := 12) rfl ?_); (try (refine gate_guard (by rfl) ?_; dsimp only)); refine load_event ?hg (N := 12) ?hd 67 (.tmp 3) rfl ⟨gb, 0, none⟩ ?hx [.int .i64 a0_0, .int .i64 a0_1, .int .i64 a0_2, .int .i64 a0_3, .int .i64 a0_4, .int .i64 a0_5, .slice A0_6 l0_6.length c0_6, .int .i64 a0_7, .int .i64 a0_8, .slice A0_9 l0_9.length c0_9, .slice A0_10 l0_10.length c0_10, .slice A0_11 l0_11.length c0_11, .int .i64 a0_12, .int .i64 a0_13, .slice A0_14 l0_14.length c0_14] (blk_cells (cs := [.int .i64 a0_0, .int .i64 a0_1, .int .i64 a0_2, .int .i64 a0_3, .int .i64 a0_4, .int .i64 a0_5, .slice A0_6 l0_6.length c0_6, .int .i64 a0_7, .int .i64 a0_8, .slice A0_9 l0_9.length c0_9, .slice A0_10 l0_10.length c0_10, .slice A0_11 l0_11.length c0_11, .int .i64 a0_12, .int .i64 a0_13, .slice A0_14 l0_14.length c0_14]) BK.out) _ Try.underlying67 rfl (by kernel_rfl) ?_; (case hg => rfl); (case hd => rfl); (case hx => rfl)) | (go_at_call 29; (with_reducible refine (cSmall a0_0 a0_1 a0_2 a0_3 a0_4 a0_5 A0_6 c0_6 l0_6 a0_7 a0_8 A0_9 c0_9 l0_9 A0_10 c0_10 l0_10 A0_11 c0_11 l0_11 a0_12 a0_13 A0_14 c0_14 l0_14 false _ (HQ.out.below HB.out) HBD0.out HSM.out).mono ?_); rintro e ws ⟨rfl, hb⟩; replace BK := aM (blk_below BK.out hb); replace HB := aM (below_step HB.out hb); clear hb) | (go_at_call 26; (with_reducible refine (credenzalaw18_awake.calls k true _ HAW.out).mono ?_); rintro e wa ⟨rfl, hb⟩; replace BK := aM (blk_below BK.out hb); replace HB := aM (below_step HB.out hb); clear hb))
  go_ret
  exact ⟨rfl, HB.out⟩
 case true =>
 obtain ⟨s, er, hby, h⟩ := h hsm
 have HSM := aM hsm
 have HBY := aM hby
 clear hsm hby
 by_cases he : er = 0
 case neg =>
  have c1 : (er != 0) = true := bne_iff_ne.mpr he
  clear he
  clear h
  go_enter Try.func11, Try.ntmps11
  go_wp2_with (first | ((with_reducible refine gate_dst (N := 3) rfl ?_); refine box_event ?hg (N := 3) ?hd (cs := #[.int .i64 a0_0, .int .i64 a0_1, .int .i64 a0_2, .int .i64 a0_3, .int .i64 a0_4, .int .i64 a0_5, .slice A0_6 l0_6.length c0_6, .int .i64 a0_7, .int .i64 a0_8, .slice A0_9 l0_9.length c0_9, .slice A0_10 l0_10.length c0_10, .slice A0_11 l0_11.length c0_11, .int .i64 a0_12, .int .i64 a0_13, .slice A0_14 l0_14.length c0_14]) (t := 67) ?hr ?_; (case hd => rfl); (case hg => rfl); (case hr => first | (go_simp; done) | (go_simp; rfl)); intro gb hg w1 hbox hb; have BK := aM hbox; replace HB := aM hb; clear hbox hb hg) | ((with_reducible refine gate_dst (N := 12) rfl ?_); (try (refine gate_guard (by rfl) ?_; dsimp only)); refine load_event ?hg (N := 12) ?hd 67 (.tmp 3) rfl ⟨gb, 0, none⟩ ?hx [.int .i64 a0_0, .int .i64 a0_1, .int .i64 a0_2, .int .i64 a0_3, .int .i64 a0_4, .int .i64 a0_5, .slice A0_6 l0_6.length c0_6, .int .i64 a0_7, .int .i64 a0_8, .slice A0_9 l0_9.length c0_9, .slice A0_10 l0_10.length c0_10, .slice A0_11 l0_11.length c0_11, .int .i64 a0_12, .int .i64 a0_13, .slice A0_14 l0_14.length c0_14] (blk_cells (cs := [.int .i64 a0_0, .int .i64 a0_1, .int .i64 a0_2, .int .i64 a0_3, .int .i64 a0_4, .int .i64 a0_5, .slice A0_6 l0_6.length c0_6, .int .i64 a0_7, .int .i64 a0_8, .slice A0_9 l0_9.length c0_9, .slice A0_10 l0_10.length c0_10, .slice A0_11 l0_11.length c0_11, .int .i64 a0_12, .int .i64 a0_13, .slice A0_14 l0_14.length c0_14]) BK.out) _ Try.underlying67 rfl (by kernel_rfl) ?_; (case hg => rfl); (case hd => rfl); (case hx => rfl)) | ((with_reducible refine gate_dst (N := 17) rfl ?_); (try (refine gate_guard (by rfl) ?_; dsimp only)); refine load_event ?hg (N := 17) ?hd 67 (.tmp 3) rfl ⟨gb, 0, none⟩ ?hx [.int .i64 a0_0, .int .i64 a0_1, .int .i64 a0_2, .int .i64 a0_3, .int .i64 a0_4, .int .i64 a0_5, .slice A0_6 l0_6.length c0_6, .int .i64 a0_7, .int .i64 a0_8, .slice A0_9 l0_9.length c0_9, .slice A0_10 l0_10.length c0_10, .slice A0_11 l0_11.length c0_11, .int .i64 a0_12, .int .i64 a0_13, .slice A0_14 l0_14.length c0_14] (blk_cells (cs := [.int .i64 a0_0, .int .i64 a0_1, .int .i64 a0_2, .int .i64 a0_3, .int .i64 a0_4, .int .i64 a0_5, .slice A0_6 l0_6.length c0_6, .int .i64 a0_7, .int .i64 a0_8, .slice A0_9 l0_9.length c0_9, .slice A0_10 l0_10.length c0_10, .slice A0_11 l0_11.length c0_11, .int .i64 a0_12, .int .i64 a0_13, .slice A0_14 l0_14.length c0_14]) BK.out) _ Try.underlying67 rfl (by kernel_rfl) ?_; (case hg => rfl); (case hd => rfl); (case hx => rfl)) | (go_at_call 29; (with_reducible refine (cSmall a0_0 a0_1 a0_2 a0_3 a0_4 a0_5 A0_6 c0_6 l0_6 a0_7 a0_8 A0_9 c0_9 l0_9 A0_10 c0_10 l0_10 A0_11 c0_11 l0_11 a0_12 a0_13 A0_14 c0_14 l0_14 true _ (HQ.out.below HB.out) HBD0.out HSM.out).mono ?_); rintro e ws ⟨rfl, hb⟩; replace BK := aM (blk_below BK.out hb); replace HB := aM (below_step HB.out hb); clear hb) | (go_at_call 30; (with_reducible refine (cBytes k a0_0 a0_1 a0_2 a0_3 a0_4 a0_5 A0_6 c0_6 l0_6 a0_7 a0_8 A0_9 c0_9 l0_9 A0_10 c0_10 l0_10 A0_11 c0_11 l0_11 a0_12 a0_13 A0_14 c0_14 l0_14 s er _ (HQ.out.below HB.out) HBY.out).mono ?_); rintro e w2 ⟨As, cs, rfl, hr, hb⟩; have HSR := aM (Kd.R_lower hr (below_size HB.out)); clear hr; replace BK := aM (blk_below BK.out hb); replace HB := aM (below_step HB.out hb); clear hb) | (go_at_call 26; (with_reducible refine (credenzalaw18_awake.calls k true _ HAW.out).mono ?_); rintro e wa ⟨rfl, hb⟩; replace HSR := aM (Kd.R_below HSR.out hb); replace BK := aM (blk_below BK.out hb); replace HB := aM (below_step HB.out hb); clear hb))
  go_ret
  exact ⟨by first | rfl | simp, HB.out⟩
 have c1 : ((0 : Int) != 0) = false := rfl
 by_cases h0 : a1 < 0
 case pos =>
  subst he
  have c2 : decide (a1 < 0) = true := decide_eq_true h0
  clear h0
  clear h
  go_enter Try.func11, Try.ntmps11
  go_wp2_with (first | ((with_reducible refine gate_dst (N := 3) rfl ?_); refine box_event ?hg (N := 3) ?hd (cs := #[.int .i64 a0_0, .int .i64 a0_1, .int .i64 a0_2, .int .i64 a0_3, .int .i64 a0_4, .int .i64 a0_5, .slice A0_6 l0_6.length c0_6, .int .i64 a0_7, .int .i64 a0_8, .slice A0_9 l0_9.length c0_9, .slice A0_10 l0_10.length c0_10, .slice A0_11 l0_11.length c0_11, .int .i64 a0_12, .int .i64 a0_13, .slice A0_14 l0_14.length c0_14]) (t := 67) ?hr ?_; (case hd => rfl); (case hg => rfl); (case hr => first | (go_simp; done) | (go_simp; rfl)); intro gb hg w1 hbox hb; have BK := aM hbox; replace HB := aM hb; clear hbox hb hg) | ((with_reducible refine gate_dst (N := 12) rfl ?_); (try (refine gate_guard (by rfl) ?_; dsimp only)); refine load_event ?hg (N := 12) ?hd 67 (.tmp 3) rfl ⟨gb, 0, none⟩ ?hx [.int .i64 a0_0, .int .i64 a0_1, .int .i64 a0_2, .int .i64 a0_3, .int .i64 a0_4, .int .i64 a0_5, .slice A0_6 l0_6.length c0_6, .int .i64 a0_7, .int .i64 a0_8, .slice A0_9 l0_9.length c0_9, .slice A0_10 l0_10.length c0_10, .slice A0_11 l0_11.length c0_11, .int .i64 a0_12, .int .i64 a0_13, .slice A0_14 l0_14.length c0_14] (blk_cells (cs := [.int .i64 a0_0, .int .i64 a0_1, .int .i64 a0_2, .int .i64 a0_3, .int .i64 a0_4, .int .i64 a0_5, .slice A0_6 l0_6.length c0_6, .int .i64 a0_7, .int .i64 a0_8, .slice A0_9 l0_9.length c0_9, .slice A0_10 l0_10.length c0_10, .slice A0_11 l0_11.length c0_11, .int .i64 a0_12, .int .i64 a0_13, .slice A0_14 l0_14.length c0_14]) BK.out) _ Try.underlying67 rfl (by kernel_rfl) ?_; (case hg => rfl); (case hd => rfl); (case hx => rfl)) | ((with_reducible refine gate_dst (N := 17) rfl ?_); (try (refine gate_guard (by rfl) ?_; dsimp only)); refine load_event ?hg (N := 17) ?hd 67 (.tmp 3) rfl ⟨gb, 0, none⟩ ?hx [.int .i64 a0_0, .int .i64 a0_1, .int .i64 a0_2, .int .i64 a0_3, .int .i64 a0_4, .int .i64 a0_5, .slice A0_6 l0_6.length c0_6, .int .i64 a0_7, .int .i64 a0_8, .slice A0_9 l0_9.length c0_9, .slice A0_10 l0_10.length c0_10, .slice A0_11 l0_11.length c0_11, .int .i64 a0_12, .int .i64 a0_13, .slice A0_14 l0_14.length c0_14] (blk_cells (cs := [.int .i64 a0_0, .int .i64 a0_1, .int .i64 a0_2, .int .i64 a0_3, .int .i64 a0_4, .int .i64 a0_5, .slice A0_6 l0_6.length c0_6, .int .i64 a0_7, .int .i64 a0_8, .slice A0_9 l0_9.length c0_9, .slice A0_10 l0_10.length c0_10, .slice A0_11 l0_11.length c0_11, .int .i64 a0_12, .int .i64 a0_13, .slice A0_14 l0_14.length c0_14]) BK.out) _ Try.underlying67 rfl (by kernel_rfl) ?_; (case hg => rfl); (case hd => rfl); (case hx => rfl)) | (go_at_call 29; (with_reducible refine (cSmall a0_0 a0_1 a0_2 a0_3 a0_4 a0_5 A0_6 c0_6 l0_6 a0_7 a0_8 A0_9 c0_9 l0_9 A0_10 c0_10 l0_10 A0_11 c0_11 l0_11 a0_12 a0_13 A0_14 c0_14 l0_14 true _ (HQ.out.below HB.out) HBD0.out HSM.out).mono ?_); rintro e ws ⟨rfl, hb⟩; replace BK := aM (blk_below BK.out hb); replace HB := aM (below_step HB.out hb); clear hb) | (go_at_call 30; (with_reducible refine (cBytes k a0_0 a0_1 a0_2 a0_3 a0_4 a0_5 A0_6 c0_6 l0_6 a0_7 a0_8 A0_9 c0_9 l0_9 A0_10 c0_10 l0_10 A0_11 c0_11 l0_11 a0_12 a0_13 A0_14 c0_14 l0_14 s 0 _ (HQ.out.below HB.out) HBY.out).mono ?_); rintro e w2 ⟨As, cs, rfl, hr, hb⟩; have HSR := aM (Kd.R_lower hr (below_size HB.out)); clear hr; replace BK := aM (blk_below BK.out hb); replace HB := aM (below_step HB.out hb); clear hb) | (go_at_call 26; (with_reducible refine (credenzalaw18_awake.calls k true _ HAW.out).mono ?_); rintro e wa ⟨rfl, hb⟩; replace HSR := aM (Kd.R_below HSR.out hb); replace BK := aM (blk_below BK.out hb); replace HB := aM (below_step HB.out hb); clear hb))
  go_ret
  exact ⟨by first | rfl | simp, HB.out⟩
 have c2 : decide (a1 < 0) = false := decide_eq_false h0
 by_cases hl : a1 < (s.length : Int)
 case neg =>
  subst he
  have c3 : decide (a1 ≥ (s.length : Int)) = true := decide_eq_true (by omega)
  have c4 : decide ((s.length : Int) ≤ a1) = true := decide_eq_true (by omega)
  clear h0 hl
  clear h
  go_enter Try.func11, Try.ntmps11
  go_wp2_with (first | ((with_reducible refine gate_dst (N := 3) rfl ?_); refine box_event ?hg (N := 3) ?hd (cs := #[.int .i64 a0_0, .int .i64 a0_1, .int .i64 a0_2, .int .i64 a0_3, .int .i64 a0_4, .int .i64 a0_5, .slice A0_6 l0_6.length c0_6, .int .i64 a0_7, .int .i64 a0_8, .slice A0_9 l0_9.length c0_9, .slice A0_10 l0_10.length c0_10, .slice A0_11 l0_11.length c0_11, .int .i64 a0_12, .int .i64 a0_13, .slice A0_14 l0_14.length c0_14]) (t := 67) ?hr ?_; (case hd => rfl); (case hg => rfl); (case hr => first | (go_simp; done) | (go_simp; rfl)); intro gb hg w1 hbox hb; have BK := aM hbox; replace HB := aM hb; clear hbox hb hg) | ((with_reducible refine gate_dst (N := 12) rfl ?_); (try (refine gate_guard (by rfl) ?_; dsimp only)); refine load_event ?hg (N := 12) ?hd 67 (.tmp 3) rfl ⟨gb, 0, none⟩ ?hx [.int .i64 a0_0, .int .i64 a0_1, .int .i64 a0_2, .int .i64 a0_3, .int .i64 a0_4, .int .i64 a0_5, .slice A0_6 l0_6.length c0_6, .int .i64 a0_7, .int .i64 a0_8, .slice A0_9 l0_9.length c0_9, .slice A0_10 l0_10.length c0_10, .slice A0_11 l0_11.length c0_11, .int .i64 a0_12, .int .i64 a0_13, .slice A0_14 l0_14.length c0_14] (blk_cells (cs := [.int .i64 a0_0, .int .i64 a0_1, .int .i64 a0_2, .int .i64 a0_3, .int .i64 a0_4, .int .i64 a0_5, .slice A0_6 l0_6.length c0_6, .int .i64 a0_7, .int .i64 a0_8, .slice A0_9 l0_9.length c0_9, .slice A0_10 l0_10.length c0_10, .slice A0_11 l0_11.length c0_11, .int .i64 a0_12, .int .i64 a0_13, .slice A0_14 l0_14.length c0_14]) BK.out) _ Try.underlying67 rfl (by kernel_rfl) ?_; (case hg => rfl); (case hd => rfl); (case hx => rfl)) | ((with_reducible refine gate_dst (N := 17) rfl ?_); (try (refine gate_guard (by rfl) ?_; dsimp only)); refine load_event ?hg (N := 17) ?hd 67 (.tmp 3) rfl ⟨gb, 0, none⟩ ?hx [.int .i64 a0_0, .int .i64 a0_1, .int .i64 a0_2, .int .i64 a0_3, .int .i64 a0_4, .int .i64 a0_5, .slice A0_6 l0_6.length c0_6, .int .i64 a0_7, .int .i64 a0_8, .slice A0_9 l0_9.length c0_9, .slice A0_10 l0_10.length c0_10, .slice A0_11 l0_11.length c0_11, .int .i64 a0_12, .int .i64 a0_13, .slice A0_14 l0_14.length c0_14] (blk_cells (cs := [.int .i64 a0_0, .int .i64 a0_1, .int .i64 a0_2, .int .i64 a0_3, .int .i64 a0_4, .int .i64 a0_5, .slice A0_6 l0_6.length c0_6, .int .i64 a0_7, .int .i64 a0_8, .slice A0_9 l0_9.length c0_9, .slice A0_10 l0_10.length c0_10, .slice A0_11 l0_11.length c0_11, .int .i64 a0_12, .int .i64 a0_13, .slice A0_14 l0_14.length c0_14]) BK.out) _ Try.underlying67 rfl (by kernel_rfl) ?_; (case hg => rfl); (case hd => rfl); (case hx => rfl)) | (go_at_call 29; (with_reducible refine (cSmall a0_0 a0_1 a0_2 a0_3 a0_4 a0_5 A0_6 c0_6 l0_6 a0_7 a0_8 A0_9 c0_9 l0_9 A0_10 c0_10 l0_10 A0_11 c0_11 l0_11 a0_12 a0_13 A0_14 c0_14 l0_14 true _ (HQ.out.below HB.out) HBD0.out HSM.out).mono ?_); rintro e ws ⟨rfl, hb⟩; replace BK := aM (blk_below BK.out hb); replace HB := aM (below_step HB.out hb); clear hb) | (go_at_call 30; (with_reducible refine (cBytes k a0_0 a0_1 a0_2 a0_3 a0_4 a0_5 A0_6 c0_6 l0_6 a0_7 a0_8 A0_9 c0_9 l0_9 A0_10 c0_10 l0_10 A0_11 c0_11 l0_11 a0_12 a0_13 A0_14 c0_14 l0_14 s 0 _ (HQ.out.below HB.out) HBY.out).mono ?_); rintro e w2 ⟨As, cs, rfl, hr, hb⟩; have HSR := aM (Kd.R_lower hr (below_size HB.out)); clear hr; replace BK := aM (blk_below BK.out hb); replace HB := aM (below_step HB.out hb); clear hb) | (go_at_call 26; (with_reducible refine (credenzalaw18_awake.calls k true _ HAW.out).mono ?_); rintro e wa ⟨rfl, hb⟩; replace HSR := aM (Kd.R_below HSR.out hb); replace BK := aM (blk_below BK.out hb); replace HB := aM (below_step HB.out hb); clear hb))
  go_ret
  exact ⟨by first | rfl | simp, HB.out⟩
 obtain ⟨a1_0, a1_1, a1_2, a1_3, a1_4, a1_5, l1_6, a1_7, a1_8, l1_9, l1_10, l1_11, a1_12, a1_13, l1_14, x, hpa, hx1, hx2⟩ := h he (by omega) hl
 subst he
 obtain ⟨n, rfl⟩ := Int.eq_ofNat_of_zero_le (show 0 ≤ a1 by omega)
 rw [Int.toNat_natCast] at hpa
 have HPA := aM hpa
 have HX1 := aM hx1
 have HX2 := aM hx2
 have hn : n < s.length := by omega
 have HN := aM hn
 have c3 : decide ((n : Int) ≥ (s.length : Int)) = false := decide_eq_false (by omega)
 have c4 : decide ((s.length : Int) ≤ (n : Int)) = false := decide_eq_false (by omega)
 have c5 : decide (s.length ≤ n) = false := decide_eq_false (by omega)
 clear hpa hx1 hx2 h
 go_enter Try.func11, Try.ntmps11
 go_upto_region 6 with (first | ((with_reducible refine gate_dst (N := 3) rfl ?_); refine box_event ?hg (N := 3) ?hd (cs := #[.int .i64 a0_0, .int .i64 a0_1, .int .i64 a0_2, .int .i64 a0_3, .int .i64 a0_4, .int .i64 a0_5, .slice A0_6 l0_6.length c0_6, .int .i64 a0_7, .int .i64 a0_8, .slice A0_9 l0_9.length c0_9, .slice A0_10 l0_10.length c0_10, .slice A0_11 l0_11.length c0_11, .int .i64 a0_12, .int .i64 a0_13, .slice A0_14 l0_14.length c0_14]) (t := 67) ?hr ?_; (case hd => rfl); (case hg => rfl); (case hr => first | (go_simp; done) | (go_simp; rfl)); intro gb hg w1 hbox hb; have BK := aM hbox; replace HB := aM hb; clear hbox hb hg) | ((with_reducible refine gate_dst (N := 12) rfl ?_); (try (refine gate_guard (by rfl) ?_; dsimp only)); refine load_event ?hg (N := 12) ?hd 67 (.tmp 3) rfl ⟨gb, 0, none⟩ ?hx [.int .i64 a0_0, .int .i64 a0_1, .int .i64 a0_2, .int .i64 a0_3, .int .i64 a0_4, .int .i64 a0_5, .slice A0_6 l0_6.length c0_6, .int .i64 a0_7, .int .i64 a0_8, .slice A0_9 l0_9.length c0_9, .slice A0_10 l0_10.length c0_10, .slice A0_11 l0_11.length c0_11, .int .i64 a0_12, .int .i64 a0_13, .slice A0_14 l0_14.length c0_14] (blk_cells (cs := [.int .i64 a0_0, .int .i64 a0_1, .int .i64 a0_2, .int .i64 a0_3, .int .i64 a0_4, .int .i64 a0_5, .slice A0_6 l0_6.length c0_6, .int .i64 a0_7, .int .i64 a0_8, .slice A0_9 l0_9.length c0_9, .slice A0_10 l0_10.length c0_10, .slice A0_11 l0_11.length c0_11, .int .i64 a0_12, .int .i64 a0_13, .slice A0_14 l0_14.length c0_14]) BK.out) _ Try.underlying67 rfl (by kernel_rfl) ?_; (case hg => rfl); (case hd => rfl); (case hx => rfl)) | ((with_reducible refine gate_dst (N := 17) rfl ?_); (try (refine gate_guard (by rfl) ?_; dsimp only)); refine load_event ?hg (N := 17) ?hd 67 (.tmp 3) rfl ⟨gb, 0, none⟩ ?hx [.int .i64 a0_0, .int .i64 a0_1, .int .i64 a0_2, .int .i64 a0_3, .int .i64 a0_4, .int .i64 a0_5, .slice A0_6 l0_6.length c0_6, .int .i64 a0_7, .int .i64 a0_8, .slice A0_9 l0_9.length c0_9, .slice A0_10 l0_10.length c0_10, .slice A0_11 l0_11.length c0_11, .int .i64 a0_12, .int .i64 a0_13, .slice A0_14 l0_14.length c0_14] (blk_cells (cs := [.int .i64 a0_0, .int .i64 a0_1, .int .i64 a0_2, .int .i64 a0_3, .int .i64 a0_4, .int .i64 a0_5, .slice A0_6 l0_6.length c0_6, .int .i64 a0_7, .int .i64 a0_8, .slice A0_9 l0_9.length c0_9, .slice A0_10 l0_10.length c0_10, .slice A0_11 l0_11.length c0_11, .int .i64 a0_12, .int .i64 a0_13, .slice A0_14 l0_14.length c0_14]) BK.out) _ Try.underlying67 rfl (by kernel_rfl) ?_; (case hg => rfl); (case hd => rfl); (case hx => rfl)) | (go_at_call 29; (with_reducible refine (cSmall a0_0 a0_1 a0_2 a0_3 a0_4 a0_5 A0_6 c0_6 l0_6 a0_7 a0_8 A0_9 c0_9 l0_9 A0_10 c0_10 l0_10 A0_11 c0_11 l0_11 a0_12 a0_13 A0_14 c0_14 l0_14 true _ (HQ.out.below HB.out) HBD0.out HSM.out).mono ?_); rintro e ws ⟨rfl, hb⟩; replace BK := aM (blk_below BK.out hb); replace HB := aM (below_step HB.out hb); clear hb) | (go_at_call 30; (with_reducible refine (cBytes k a0_0 a0_1 a0_2 a0_3 a0_4 a0_5 A0_6 c0_6 l0_6 a0_7 a0_8 A0_9 c0_9 l0_9 A0_10 c0_10 l0_10 A0_11 c0_11 l0_11 a0_12 a0_13 A0_14 c0_14 l0_14 s 0 _ (HQ.out.below HB.out) HBY.out).mono ?_); rintro e w2 ⟨As, cs, rfl, hr, hb⟩; have HSR := aM (Kd.R_lower hr (below_size HB.out)); clear hr; replace BK := aM (blk_below BK.out hb); replace HB := aM (below_step HB.out hb); clear hb))
 obtain ⟨gs, hgs⟩ := row_g HSR.out
 obtain rfl := hgs (by omega)
 clear hgs
 have y1 : ((n : Int) < (s.length : Int)) = True := eq_true (by omega)
 have y2 : (n < s.length) = True := eq_true hn
 have hc := Kd.R_cell (enc := Value.int .u8) (h1 := fun _ => rfl) (0 : Int) HSR.out (n : Int) (by omega) (by omega)
 have hp := Kd.R_put (enc := Value.int .u8) (h1 := fun _ => rfl) HSR.out (n : Int) a2
 simp only [Int.toNat_natCast] at hc hp
 obtain ⟨y, hy⟩ : ∃ x_, rdOf (0 : Int) s (n : Int) = x_ := ⟨_, rfl⟩
 rw [hy] at hc HX1 HX2
 have hc1 := hc.1
 have hc2 := hc.2
 have HPUT := aM hp
 have hblk := R_block HSR.out
 have HGE := aM hblk.1
 obtain ⟨cs5, hcs5⟩ := hblk.2
 have HCS := aM hcs5
 clear hc hp hblk hcs5 hy
 go_upto_region 8 with (fail)
 clear hc1 hc2 y1 y2
 replace BK := aM (blk_far BK.out (p := ⟨gs, n, none⟩) (blk_ne BK.out HCS.out (by decide)) (.int .u8 a2))
 replace HB := aM (HB.out.setCell (p := ⟨gs, n, none⟩) HGE.out (.int .u8 a2))
 have hsr := HPUT.out.1
 clear HPUT HCS HGE HSR
 obtain ⟨s', hs'⟩ : ∃ x_, s.set n a2 = x_ := ⟨_, rfl⟩
 have hsl : s.length = s'.length := by rw [← hs', List.length_set]
 rw [hs'] at hsr HPA
 rw [hsl] at hsr ⊢
 have HSR : Aside0 (Kd.R (Kd.int .u8) 5 (w2.setCell ⟨gs, n, none⟩ (.int .u8 a2)) w.heap.size (fun _ => True) (.slice (some ⟨gs, 0, none⟩) s'.length cs) s') := ⟨hsr⟩
 generalize w2.setCell ⟨gs, n, none⟩ (.int .u8 a2) = w3 at BK HB HSR ⊢
 clear hsr hs' hsl c1 c2 c3 c4 c5 h0 hl hn
 go_upto_region 9 with (first | (go_at_call 34; (with_reducible refine (cParse k (some ⟨gs, 0, none⟩) cs s' a1_0 a1_1 a1_2 a1_3 a1_4 a1_5 l1_6 a1_7 a1_8 l1_9 l1_10 l1_11 a1_12 a1_13 l1_14 x _ (Kd.R_reads' HSR.out).2.2 (Kd.R_reads' HSR.out).2.1 HPA.out).mono ?_); rintro e w6 ⟨A1_6, c1_6, A1_9, c1_9, A1_10, c1_10, A1_11, c1_11, A1_14, c1_14, rfl, hbc, hb⟩; have HPF := aM hbc; have HB6 := aM (Below.refl w6.heap.size w6); clear hbc; replace HSR := aM (Kd.R_below HSR.out hb); replace BK := aM (blk_below BK.out hb); replace HB := aM (below_step HB.out hb); have GB6 := aM (blk_lt BK.out); have HW6 := aM HB.out; clear hb) | ((with_reducible refine gate_dst (N := 10) rfl ?_); refine box_event ?hg (N := 10) ?hd (cs := #[.int .i64 0, .int .i64 0, .int .i64 0, .int .i64 0, .int .i64 0, .int .i64 0, .slice none 0 0, .int .i64 0, .int .i64 0, .slice none 0 0, .slice none 0 0, .slice none 0 0, .int .i64 0, .int .i64 0, .slice none 0 0]) (t := 67) ?hr ?_; (case hd => rfl); (case hg => rfl); (case hr => first | (go_simp; done) | (go_simp; rfl)); intro g6 hg w7 hbox hb; have B6 := aM hbox; have GE6 := aM (show w6.heap.size ≤ g6 by rw [hg]; exact Nat.le_refl _); replace HSR := aM (Kd.R_below HSR.out hb); replace BK := aM (blk_below BK.out hb); replace HB := aM (below_step HB.out hb); replace HB6 := aM (below_step HB6.out hb); clear hbox hb hg) | ((with_reducible refine gate_store (t := 67) (p := 10) (v := .tmp 45) rfl ?_); refine store_event ?hg ?hd 67 (.tmp 10) (.tmp 45) rfl g6 #[.int .i64 a1_0, .int .i64 a1_1, .int .i64 a1_2, .int .i64 a1_3, .int .i64 a1_4, .int .i64 a1_5, .slice A1_6 l1_6.length c1_6, .int .i64 a1_7, .int .i64 a1_8, .slice A1_9 l1_9.length c1_9, .slice A1_10 l1_10.length c1_10, .slice A1_11 l1_11.length c1_11, .int .i64 a1_12, .int .i64 a1_13, .slice A1_14 l1_14.length c1_14] ?hx ?hy 67 _ B6.out ?hi ?ho ?h1 ?_; (case hg => rfl); (case hd => rfl); (case hx => rfl); (case hy => rfl); (case hi => kernel_rfl); (case ho => rfl); (case h1 => simp [Value.oneCell']); intro w8 hnew hal far_; replace HSR := aM (r_far HSR.out B6.out (by decide) far_); replace BK := aM ((far_ gb (by have h1_ := GE6.out; have h2_ := GB6.out; omega)).trans BK.out); replace B6 := aM hnew; replace HB := aM (hal w HB.out (by have h1_ := GE6.out; have h2_ := below_size HW6.out; omega)); replace HB6 := aM (hal w6 HB6.out GE6.out); clear hnew hal far_))
 replace HPF := aM (HPF.out w8 (fun k_ _ hk_ => HB6.out.block k_ hk_))
 clear HB6 GE6 GB6 HW6 HSR
 by_cases hyc : y = a2
 case pos =>
  obtain ⟨rfl, heq⟩ := HX1.out hyc
  have HEQ := aM heq
  have d1 : (y == a2) = true := beq_iff_eq.mpr hyc
  clear HX1 HX2 heq hyc
  go_wp2_with (first | ((with_reducible refine gate_dst (N := 53) rfl ?_); (try (refine gate_guard (by rfl) ?_; dsimp only)); refine load_event ?hg (N := 53) ?hd 67 (.tmp 3) rfl ⟨gb, 0, none⟩ ?hx [.int .i64 a0_0, .int .i64 a0_1, .int .i64 a0_2, .int .i64 a0_3, .int .i64 a0_4, .int .i64 a0_5, .slice A0_6 l0_6.length c0_6, .int .i64 a0_7, .int .i64 a0_8, .slice A0_9 l0_9.length c0_9, .slice A0_10 l0_10.length c0_10, .slice A0_11 l0_11.length c0_11, .int .i64 a0_12, .int .i64 a0_13, .slice A0_14 l0_14.length c0_14] (blk_cells (cs := [.int .i64 a0_0, .int .i64 a0_1, .int .i64 a0_2, .int .i64 a0_3, .int .i64 a0_4, .int .i64 a0_5, .slice A0_6 l0_6.length c0_6, .int .i64 a0_7, .int .i64 a0_8, .slice A0_9 l0_9.length c0_9, .slice A0_10 l0_10.length c0_10, .slice A0_11 l0_11.length c0_11, .int .i64 a0_12, .int .i64 a0_13, .slice A0_14 l0_14.length c0_14]) BK.out) _ Try.underlying67 rfl (by kernel_rfl) ?_; (case hg => rfl); (case hd => rfl); (case hx => rfl)) | ((with_reducible refine gate_dst (N := 54) rfl ?_); (try (refine gate_guard (by rfl) ?_; dsimp only)); refine load_event ?hg (N := 54) ?hd 67 (.tmp 10) rfl ⟨g6, 0, none⟩ ?hx [.int .i64 a1_0, .int .i64 a1_1, .int .i64 a1_2, .int .i64 a1_3, .int .i64 a1_4, .int .i64 a1_5, .slice A1_6 l1_6.length c1_6, .int .i64 a1_7, .int .i64 a1_8, .slice A1_9 l1_9.length c1_9, .slice A1_10 l1_10.length c1_10, .slice A1_11 l1_11.length c1_11, .int .i64 a1_12, .int .i64 a1_13, .slice A1_14 l1_14.length c1_14] (blk_cells (cs := [.int .i64 a1_0, .int .i64 a1_1, .int .i64 a1_2, .int .i64 a1_3, .int .i64 a1_4, .int .i64 a1_5, .slice A1_6 l1_6.length c1_6, .int .i64 a1_7, .int .i64 a1_8, .slice A1_9 l1_9.length c1_9, .slice A1_10 l1_10.length c1_10, .slice A1_11 l1_11.length c1_11, .int .i64 a1_12, .int .i64 a1_13, .slice A1_14 l1_14.length c1_14]) B6.out) _ Try.underlying67 rfl (by kernel_rfl) ?_; (case hg => rfl); (case hd => rfl); (case hx => rfl)) | (go_at_call 36; (with_reducible refine (cEqual k a0_0 a0_1 a0_2 a0_3 a0_4 a0_5 A0_6 c0_6 l0_6 a0_7 a0_8 A0_9 c0_9 l0_9 A0_10 c0_10 l0_10 A0_11 c0_11 l0_11 a0_12 a0_13 A0_14 c0_14 l0_14 a1_0 a1_1 a1_2 a1_3 a1_4 a1_5 A1_6 c1_6 l1_6 a1_7 a1_8 A1_9 c1_9 l1_9 A1_10 c1_10 l1_10 A1_11 c1_11 l1_11 a1_12 a1_13 A1_14 c1_14 l1_14 true _ (HQ.out.below HB.out) HPF.out HEQ.out).mono ?_); rintro e wk ⟨rfl, hb⟩; replace BK := aM (blk_below BK.out hb); replace HB := aM (below_step HB.out hb); replace B6 := aM (blk_below B6.out hb); replace HPF := aM (HPF.out.below hb); clear hb) | (go_at_call 26; (with_reducible refine (credenzalaw18_awake.calls k true _ HAW.out).mono ?_); rintro e wa ⟨rfl, hb⟩; replace BK := aM (blk_below BK.out hb); replace HB := aM (below_step HB.out hb); replace B6 := aM (blk_below B6.out hb); replace HPF := aM (HPF.out.below hb); clear hb))
  go_ret
  exact ⟨by first | rfl | simp, HB.out⟩
 obtain ⟨rfl, heq⟩ := HX2.out hyc
 have HEQ := aM heq
 have d1 : (y == a2) = false := beq_eq_false_iff_ne.mpr hyc
 clear HX1 HX2 heq hyc
 go_wp2_with (first | ((with_reducible refine gate_dst (N := 63) rfl ?_); (try (refine gate_guard (by rfl) ?_; dsimp only)); refine load_event ?hg (N := 63) ?hd 67 (.tmp 10) rfl ⟨g6, 0, none⟩ ?hx [.int .i64 a1_0, .int .i64 a1_1, .int .i64 a1_2, .int .i64 a1_3, .int .i64 a1_4, .int .i64 a1_5, .slice A1_6 l1_6.length c1_6, .int .i64 a1_7, .int .i64 a1_8, .slice A1_9 l1_9.length c1_9, .slice A1_10 l1_10.length c1_10, .slice A1_11 l1_11.length c1_11, .int .i64 a1_12, .int .i64 a1_13, .slice A1_14 l1_14.length c1_14] (blk_cells (cs := [.int .i64 a1_0, .int .i64 a1_1, .int .i64 a1_2, .int .i64 a1_3, .int .i64 a1_4, .int .i64 a1_5, .slice A1_6 l1_6.length c1_6, .int .i64 a1_7, .int .i64 a1_8, .slice A1_9 l1_9.length c1_9, .slice A1_10 l1_10.length c1_10, .slice A1_11 l1_11.length c1_11, .int .i64 a1_12, .int .i64 a1_13, .slice A1_14 l1_14.length c1_14]) B6.out) _ Try.underlying67 rfl (by kernel_rfl) ?_; (case hg => rfl); (case hd => rfl); (case hx => rfl)) | (go_at_call 36; (refine (cEqual k a1_0 a1_1 a1_2 a1_3 a1_4 a1_5 A1_6 c1_6 l1_6 a1_7 a1_8 A1_9 c1_9 l1_9 A1_10 c1_10 l1_10 A1_11 c1_11 l1_11 a1_12 a1_13 A1_14 c1_14 l1_14 0 0 0 0 0 0 none 0 [] 0 0 none 0 [] none 0 [] none 0 [] 0 0 none 0 [] true _ HPF.out (BlobC_nil _) HEQ.out).mono ?_); rintro e wk ⟨rfl, hb⟩; replace BK := aM (blk_below BK.out hb); replace HB := aM (below_step HB.out hb); replace B6 := aM (blk_below B6.out hb); replace HPF := aM (HPF.out.below hb); clear hb) | (go_at_call 26; (with_reducible refine (credenzalaw18_awake.calls k true _ HAW.out).mono ?_); rintro e wa ⟨rfl, hb⟩; replace BK := aM (blk_below BK.out hb); replace HB := aM (below_step HB.out hb); replace B6 := aM (blk_below B6.out hb); replace HPF := aM (HPF.out.below hb); clear hb))
 go_ret
 exact ⟨by first | rfl | simp, HB.out⟩
theorem credenzalaw18_BlobSpoilt.calls (k : Nat) (a0_0 : Int) (a0_1 : Int) (a0_2 : Int) (a0_3 : Int) (a0_4 : Int) (a0_5 : Int) (A0_6 : Option Addr) (c0_6 : Nat) (l0_6 : List S115) (a0_7 : Int) (a0_8 : Int) (A0_9 : Option Addr) (c0_9 : Nat) (l0_9 : List Int) (A0_10 : Option Addr) (c0_10 : Nat) (l0_10 : List S120) (A0_11 : Option Addr) (c0_11 : Nat) (l0_11 : List Int) (a0_12 : Int) (a0_13 : Int) (A0_14 : Option Addr) (c0_14 : Nat) (l0_14 : List Int) (a1 : Int) (a2 : Int) (r : Bool) (w : World) (hr0_6 : Kd.C k115 w A0_6 l0_6.length l0_6) (hc0_6 : l0_6.length ≤ c0_6) (hr0_9 : Kd.C (Kd.int .i32) w A0_9 l0_9.length l0_9) (hc0_9 : l0_9.length ≤ c0_9) (hr0_10 : Kd.C k120 w A0_10 l0_10.length l0_10) (hc0_10 : l0_10.length ≤ c0_10) (hr0_11 : Kd.C (Kd.int .i32) w A0_11 l0_11.length l0_11) (hc0_11 : l0_11.length ≤ c0_11) (hr0_14 : Kd.C (Kd.int .i32) w A0_14 l0_14.length l0_14) (hc0_14 : l0_14.length ≤ c0_14) (h : credenzalaw18_BlobSpoilt.f k a0_0 a0_1 a0_2 a0_3 a0_4 a0_5 l0_6 a0_7 a0_8 l0_9 l0_10 l0_11 a0_12 a0_13 l0_14 a1 a2 = some r) :
  Calls Try.prog 11 #[.agg #[.int .i64 a0_0, .int .i64 a0_1, .int .i64 a0_2, .int .i64 a0_3, .int .i64 a0_4, .int .i64 a0_5, .slice A0_6 l0_6.length c0_6, .int .i64 a0_7, .int .i64 a0_8, .slice A0_9 l0_9.length c0_9, .slice A0_10 l0_10.length c0_10, .slice A0_11 l0_11.length c0_11, .int .i64 a0_12, .int .i64 a0_13, .slice A0_14 l0_14.length c0_14], .int .i64 a1, .int .u8 a2] w fun e w' => e = .returned (.bool r) ∧ Below w.heap.size w w' := by
 unfold credenzalaw18_BlobSpoilt.f at h
 split at h
 ·
  next hc =>
  obtain rfl := Option.some.inj h
  exact lawSpoilt.go k a0_0 a0_1 a0_2 a0_3 a0_4 a0_5 A0_6 c0_6 l0_6 a0_7 a0_8 A0_9 c0_9 l0_9 A0_10 c0_10 l0_10 A0_11 c0_11 l0_11 a0_12 a0_13 A0_14 c0_14 l0_14 a1 a2 w ⟨hr0_6, hc0_6, hr0_9, hc0_9, hr0_10, hc0_10, hr0_11, hc0_11, hr0_14, hc0_14⟩ hc
 ·
  cases h
-- calls: credenzalaw18_small credenzalaw18_awake blob_Equal blob_Parse blob_Bytes


/-- THE ONE PURE STATEMENT of credenzalaw18_BlobSpoilt: yours. -/
def credenzalaw18_BlobSpoilt.Pure : Prop := ∀ (a0_0 : Int) (a0_1 : Int) (a0_2 : Int) (a0_3 : Int) (a0_4 : Int) (a0_5 : Int) (l0_6 : List (S115)) (a0_7 : Int) (a0_8 : Int) (l0_9 : List Int) (l0_10 : List (S120)) (l0_11 : List Int) (a0_12 : Int) (a0_13 : Int) (l0_14 : List Int) (a1 : Int) (a2 : Int), (Lit.int .i64 a0_0).wf = true → (Lit.int .i64 a0_1).wf = true → (Lit.int .i64 a0_2).wf = true → (Lit.int .i64 a0_3).wf = true → (Lit.int .i64 a0_4).wf = true → (Lit.int .i64 a0_5).wf = true → l0_6.length * 8 ≤ 140737488351232 → (∀ z ∈ l0_6, ((Lit.int .i32 z.f0).wf = true ∧ (Lit.int .i32 z.f1).wf = true)) → (Lit.int .i64 a0_7).wf = true → (Lit.int .i64 a0_8).wf = true → l0_9.length * 4 ≤ 140737488351232 → (∀ z ∈ l0_9, (Lit.int .i32 z).wf = true) → l0_10.length * 328 ≤ 140737488351232 → (∀ z ∈ l0_10, ((z.f0.length * 4 ≤ 140737488351232 ∧ ∀ z4 ∈ z.f0, (Lit.int .i32 z4).wf = true) ∧ ((Lit.int .i64 z.f1.f0).wf = true ∧ (Lit.int .i64 z.f1.f1).wf = true ∧ (z.f1.f2.length * 4 ≤ 140737488351232 ∧ ∀ z7 ∈ z.f1.f2, (Lit.int .i32 z7).wf = true)) ∧ ((Lit.int .i64 z.f2.f0).wf = true ∧ (Lit.int .i64 z.f2.f1).wf = true ∧ (z.f2.f2.length * 4 ≤ 140737488351232 ∧ ∀ z7 ∈ z.f2.f2, (Lit.int .i32 z7).wf = true)) ∧ ((Lit.int .i64 z.f3.f0).wf = true ∧ (Lit.int .i64 z.f3.f1).wf = true ∧ (z.f3.f2.length * 4 ≤ 140737488351232 ∧ ∀ z7 ∈ z.f3.f2, (Lit.int .i32 z7).wf = true)) ∧ ((Lit.int .i64 z.f4.f0).wf = true ∧ (Lit.int .i64 z.f4.f1).wf = true ∧ (z.f4.f2.length * 4 ≤ 140737488351232 ∧ ∀ z7 ∈ z.f4.f2, (Lit.int .i32 z7).wf = true)) ∧ (z.f5.length * 4 ≤ 140737488351232 ∧ ∀ z4 ∈ z.f5, (Lit.int .i32 z4).wf = true) ∧ ((Lit.int .i64 z.f6.f0).wf = true ∧ (Lit.int .i64 z.f6.f1).wf = true ∧ (z.f6.f2.length * 4 ≤ 140737488351232 ∧ ∀ z7 ∈ z.f6.f2, (Lit.int .i32 z7).wf = true)) ∧ ((Lit.int .i64 z.f7.f0).wf = true ∧ (Lit.int .i64 z.f7.f1).wf = true ∧ (z.f7.f2.length * 4 ≤ 140737488351232 ∧ ∀ z7 ∈ z.f7.f2, (Lit.int .i32 z7).wf = true)) ∧ ((Lit.int .i64 z.f8.f0).wf = true ∧ (Lit.int .i64 z.f8.f1).wf = true ∧ (z.f8.f2.length * 4 ≤ 140737488351232 ∧ ∀ z7 ∈ z.f8.f2, (Lit.int .i32 z7).wf = true)))) → l0_11.length * 4 ≤ 140737488351232 → (∀ z ∈ l0_11, (Lit.int .i32 z).wf = true) → (Lit.int .i64 a0_12).wf = true → (Lit.int .i64 a0_13).wf = true → l0_14.length * 4 ≤ 140737488351232 → (∀ z ∈ l0_14, (Lit.int .i32 z).wf = true) → (Lit.int .i64 a1).wf = true → (Lit.int .u8 a2).wf = true → ∃ k, credenzalaw18_BlobSpoilt.f k a0_0 a0_1 a0_2 a0_3 a0_4 a0_5 l0_6 a0_7 a0_8 l0_9 l0_10 l0_11 a0_12 a0_13 l0_14 a1 a2 = some true
theorem credenzalaw18_BlobSpoilt.walk (P : credenzalaw18_BlobSpoilt.Pure) (a0_0 : Int) (a0_1 : Int) (a0_2 : Int) (a0_3 : Int) (a0_4 : Int) (a0_5 : Int) (A0_6 : Option Addr) (c0_6 : Nat) (l0_6 : List (S115)) (a0_7 : Int) (a0_8 : Int) (A0_9 : Option Addr) (c0_9 : Nat) (l0_9 : List Int) (A0_10 : Option Addr) (c0_10 : Nat) (l0_10 : List (S120)) (A0_11 : Option Addr) (c0_11 : Nat) (l0_11 : List Int) (a0_12 : Int) (a0_13 : Int) (A0_14 : Option Addr) (c0_14 : Nat) (l0_14 : List Int) (a1 : Int) (a2 : Int) (w : World) (w0_0 : (Lit.int .i64 a0_0).wf = true) (w0_1 : (Lit.int .i64 a0_1).wf = true) (w0_2 : (Lit.int .i64 a0_2).wf = true) (w0_3 : (Lit.int .i64 a0_3).wf = true) (w0_4 : (Lit.int .i64 a0_4).wf = true) (w0_5 : (Lit.int .i64 a0_5).wf = true) (hr0_6 : Kd.C k115 w A0_6 l0_6.length l0_6) (hc0_6 : l0_6.length ≤ c0_6) (hm0_6 : l0_6.length * 8 ≤ 140737488351232) (hq0_6 : ∀ z ∈ l0_6, ((Lit.int .i32 z.f0).wf = true ∧ (Lit.int .i32 z.f1).wf = true)) (w0_7 : (Lit.int .i64 a0_7).wf = true) (w0_8 : (Lit.int .i64 a0_8).wf = true) (hr0_9 : Kd.C (Kd.int .i32) w A0_9 l0_9.length l0_9) (hc0_9 : l0_9.length ≤ c0_9) (hm0_9 : l0_9.length * 4 ≤ 140737488351232) (hq0_9 : ∀ z ∈ l0_9, (Lit.int .i32 z).wf = true) (hr0_10 : Kd.C k120 w A0_10 l0_10.length l0_10) (hc0_10 : l0_10.length ≤ c0_10) (hm0_10 : l0_10.length * 328 ≤ 140737488351232) (hq0_10 : ∀ z ∈ l0_10, ((z.f0.length * 4 ≤ 140737488351232 ∧ ∀ z4 ∈ z.f0, (Lit.int .i32 z4).wf = true) ∧ ((Lit.int .i64 z.f1.f0).wf = true ∧ (Lit.int .i64 z.f1.f1).wf = true ∧ (z.f1.f2.length * 4 ≤ 140737488351232 ∧ ∀ z7 ∈ z.f1.f2, (Lit.int .i32 z7).wf = true)) ∧ ((Lit.int .i64 z.f2.f0).wf = true ∧ (Lit.int .i64 z.f2.f1).wf = true ∧ (z.f2.f2.length * 4 ≤ 140737488351232 ∧ ∀ z7 ∈ z.f2.f2, (Lit.int .i32 z7).wf = true)) ∧ ((Lit.int .i64 z.f3.f0).wf = true ∧ (Lit.int .i64 z.f3.f1).wf = true ∧ (z.f3.f2.length * 4 ≤ 140737488351232 ∧ ∀ z7 ∈ z.f3.f2, (Lit.int .i32 z7).wf = true)) ∧ ((Lit.int .i64 z.f4.f0).wf = true ∧ (Lit.int .i64 z.f4.f1).wf = true ∧ (z.f4.f2.length * 4 ≤ 140737488351232 ∧ ∀ z7 ∈ z.f4.f2, (Lit.int .i32 z7).wf = true)) ∧ (z.f5.length * 4 ≤ 140737488351232 ∧ ∀ z4 ∈ z.f5, (Lit.int .i32 z4).wf = true) ∧ ((Lit.int .i64 z.f6.f0).wf = true ∧ (Lit.int .i64 z.f6.f1).wf = true ∧ (z.f6.f2.length * 4 ≤ 140737488351232 ∧ ∀ z7 ∈ z.f6.f2, (Lit.int .i32 z7).wf = true)) ∧ ((Lit.int .i64 z.f7.f0).wf = true ∧ (Lit.int .i64 z.f7.f1).wf = true ∧ (z.f7.f2.length * 4 ≤ 140737488351232 ∧ ∀ z7 ∈ z.f7.f2, (Lit.int .i32 z7).wf = true)) ∧ ((Lit.int .i64 z.f8.f0).wf = true ∧ (Lit.int .i64 z.f8.f1).wf = true ∧ (z.f8.f2.length * 4 ≤ 140737488351232 ∧ ∀ z7 ∈ z.f8.f2, (Lit.int .i32 z7).wf = true)))) (hr0_11 : Kd.C (Kd.int .i32) w A0_11 l0_11.length l0_11) (hc0_11 : l0_11.length ≤ c0_11) (hm0_11 : l0_11.length * 4 ≤ 140737488351232) (hq0_11 : ∀ z ∈ l0_11, (Lit.int .i32 z).wf = true) (w0_12 : (Lit.int .i64 a0_12).wf = true) (w0_13 : (Lit.int .i64 a0_13).wf = true) (hr0_14 : Kd.C (Kd.int .i32) w A0_14 l0_14.length l0_14) (hc0_14 : l0_14.length ≤ c0_14) (hm0_14 : l0_14.length * 4 ≤ 140737488351232) (hq0_14 : ∀ z ∈ l0_14, (Lit.int .i32 z).wf = true) (w1 : (Lit.int .i64 a1).wf = true) (w2 : (Lit.int .u8 a2).wf = true) :
  Calls Try.prog 11 #[.agg #[.int .i64 a0_0, .int .i64 a0_1, .int .i64 a0_2, .int .i64 a0_3, .int .i64 a0_4, .int .i64 a0_5, .slice A0_6 l0_6.length c0_6, .int .i64 a0_7, .int .i64 a0_8, .slice A0_9 l0_9.length c0_9, .slice A0_10 l0_10.length c0_10, .slice A0_11 l0_11.length c0_11, .int .i64 a0_12, .int .i64 a0_13, .slice A0_14 l0_14.length c0_14], .int .i64 a1, .int .u8 a2] w fun e w' => e = .returned (.bool true) ∧ Below w.heap.size w w' := by
 obtain ⟨k, h⟩ := P a0_0 a0_1 a0_2 a0_3 a0_4 a0_5 l0_6 a0_7 a0_8 l0_9 l0_10 l0_11 a0_12 a0_13 l0_14 a1 a2 w0_0 w0_1 w0_2 w0_3 w0_4 w0_5 hm0_6 hq0_6 w0_7 w0_8 hm0_9 hq0_9 hm0_10 hq0_10 hm0_11 hq0_11 w0_12 w0_13 hm0_14 hq0_14 w1 w2
 refine (credenzalaw18_BlobSpoilt.calls k a0_0 a0_1 a0_2 a0_3 a0_4 a0_5 _ _ l0_6 a0_7 a0_8 _ _ l0_9 _ _ l0_10 _ _ l0_11 a0_12 a0_13 _ _ l0_14 a1 a2 true w hr0_6 hc0_6 hr0_9 hc0_9 hr0_10 hc0_10 hr0_11 hc0_11 hr0_14 hc0_14 h).mono ?_
 rintro e w' ⟨rfl, hd⟩
 exact ⟨rfl, hd⟩

end Go.Proofs.Ytehepnmagcjkaaa.PBlobSpoilt
