-- Written by a program of this session (wip/tools/mkprint.py over the kit's print).
import Derived.Test.YtehepnmagcjkaaaPBlobEqualsx0
import Derived.Test.YtehepnmagcjkaaaPBlobEqualsx4
import Derived.Test.YtehepnmagcjkaaaPBlobEqualsx8
import Derived.Test.YtehepnmagcjkaaaPBlobEqualsx12
namespace Go.Proofs.Ytehepnmagcjkaaa.PBlobEquals
open Go.RowKit Go.Proofs.YtehepnmagcjkaaaW.PrintWords Go.Proofs.YtehepnmagcjkaaaW.PrintLast Go.Proofs.YtehepnmagcjkaaaW.PrintMore
attribute [local go_sem] max2_int min2_int max_two min_two max_three min_three max_four min_four   -- for this text's walks alone
set_option linter.unusedVariables false
set_option linter.unusedSimpArgs false

/-! ### credenzalaw18_small: function 29 -/
def smS (P : List S111) : Nat := (P.map fun p => min p.f2.length 5000).sum
theorem smS_le : ∀ P : List S111, smS P ≤ 5000 * P.length
 | [] => Nat.zero_le _
 | p :: P => by
  have := smS_le P
  simp only [smS, List.map_cons, List.sum_cons, List.length_cons] at this ⊢
  have := Nat.min_le_right p.f2.length 5000
  omega
theorem smS_succ {P : List S111} {i : Nat} {x : S111} (h : P[i]? = some x) : smS (P.take (i + 1)) = smS (P.take i) + min x.f2.length 5000 := by
 unfold smS
 rw [List.take_add_one, h, List.map_append, List.sum_append]
 simp
def smallB (n6 n10 : Nat) (P : List S111) : Bool := decide (n10 ≤ 5) && decide (n6 ≤ 20) && decide (smS P ≤ 5000)
theorem layR_len (l : List S120) : (l.flatMap layR).length = 9 * l.length := by
 induction l with
 | nil => rfl
 | cons x l ih => rw [List.flatMap_cons, List.length_append, ih]; simp only [layR, List.length_cons, List.length_nil]; omega
theorem refP_len (a7 a8 : Int) (l9 : List Int) (l10 : List S120) (l11 : List Int) (a12 a13 : Int) (l14 : List Int) : (refP a7 a8 l9 l10 l11 a12 a13 l14).length = 9 * l10.length + 3 := by
 unfold refP
 rw [List.length_append, List.length_append, layR_len]
 simp only [List.length_cons, List.length_nil]
 omega
theorem field73 (a0 a1 a2 a3 a4 a5 a6 : Int) (A B : Option Addr) (n m c d : Nat) (w : World) : (Instr.field 73 (Value.agg #[.int .i64 a0, .int .i64 a1, .int .i64 a2, .int .i64 a3, .int .i64 a4, .int .i64 a5, .int .i64 a6, .slice A n c, .slice B m d]) 3).run Try.prog w = .ok (.slice B m d) w := by kernel_rfl
set_option maxHeartbeats 8000000 in
set_option maxRecDepth 100000 in
theorem bsmall.calls (a0_0 : Int) (a0_1 : Int) (a0_2 : Int) (a0_3 : Int) (a0_4 : Int) (a0_5 : Int) (A0_6 : Option Addr) (c0_6 : Nat) (l0_6 : List (S115)) (a0_7 : Int) (a0_8 : Int) (A0_9 : Option Addr) (c0_9 : Nat) (l0_9 : List Int) (A0_10 : Option Addr) (c0_10 : Nat) (l0_10 : List (S120)) (A0_11 : Option Addr) (c0_11 : Nat) (l0_11 : List Int) (a0_12 : Int) (a0_13 : Int) (A0_14 : Option Addr) (c0_14 : Nat) (l0_14 : List Int) (w : World) (hr0_6 : Kd.C k115 w A0_6 l0_6.length l0_6) (hc0_6 : l0_6.length ≤ c0_6) (hr0_9 : Kd.C (Kd.int .i32) w A0_9 l0_9.length l0_9) (hc0_9 : l0_9.length ≤ c0_9) (hr0_10 : Kd.C k120 w A0_10 l0_10.length l0_10) (hc0_10 : l0_10.length ≤ c0_10) (hr0_11 : Kd.C (Kd.int .i32) w A0_11 l0_11.length l0_11) (hc0_11 : l0_11.length ≤ c0_11) (hr0_14 : Kd.C (Kd.int .i32) w A0_14 l0_14.length l0_14) (hc0_14 : l0_14.length ≤ c0_14) (h6 : l0_6.length ≤ 17592186043904) (h10 : l0_10.length ≤ 430000000000) :
  Calls Try.prog 29 #[.agg #[.int .i64 a0_0, .int .i64 a0_1, .int .i64 a0_2, .int .i64 a0_3, .int .i64 a0_4, .int .i64 a0_5, .slice A0_6 l0_6.length c0_6, .int .i64 a0_7, .int .i64 a0_8, .slice A0_9 l0_9.length c0_9, .slice A0_10 l0_10.length c0_10, .slice A0_11 l0_11.length c0_11, .int .i64 a0_12, .int .i64 a0_13, .slice A0_14 l0_14.length c0_14]] w fun e w' => e = .returned (.bool (smallB l0_6.length l0_10.length (refP a0_7 a0_8 l0_9 l0_10 l0_11 a0_12 a0_13 l0_14))) ∧ Below w.heap.size w w' := by
 have hu67 := Try.underlying67
 have hu73 := Try.underlying73
 have hu111 := Try.underlying111
 have hfld := fun (A B : Option Addr) (n m c d : Nat) (w : World) => field73 a0_0 a0_1 a0_2 a0_3 a0_4 a0_5 (l0_10.length : Int) A B n m c d w
 have HB := aM (Below.refl w.heap.size w)
 have HH : Aside0 ((Kd.C k115 w A0_6 l0_6.length l0_6) ∧ (l0_6.length ≤ c0_6) ∧ (Kd.C (Kd.int .i32) w A0_9 l0_9.length l0_9) ∧ (l0_9.length ≤ c0_9) ∧ (Kd.C k120 w A0_10 l0_10.length l0_10) ∧ (l0_10.length ≤ c0_10) ∧ (Kd.C (Kd.int .i32) w A0_11 l0_11.length l0_11) ∧ (l0_11.length ≤ c0_11) ∧ (Kd.C (Kd.int .i32) w A0_14 l0_14.length l0_14) ∧ (l0_14.length ≤ c0_14)) := ⟨⟨hr0_6, hc0_6, hr0_9, hc0_9, hr0_10, hc0_10, hr0_11, hc0_11, hr0_14, hc0_14⟩⟩
 clear hr0_6 hc0_6 hr0_9 hc0_9 hr0_10 hc0_10 hr0_11 hc0_11 hr0_14 hc0_14
 have H6 := aM h6
 have H10 := aM h10
 clear h6 h10
 obtain ⟨P, hP⟩ : ∃ x_, refP a0_7 a0_8 l0_9 l0_10 l0_11 a0_12 a0_13 l0_14 = x_ := ⟨_, rfl⟩
 have HPL : Aside0 (P.length = 9 * l0_10.length + 3) := ⟨by rw [← hP]; exact refP_len _ _ _ _ _ _ _ _⟩
 have HPE := aM hP
 rw [hP]
 clear hP
 go_enter Try.func29, Try.ntmps29
 go_wp2_with (first | ((with_reducible refine gate_dst (N := 1) rfl ?_); refine box_event ?hg (N := 1) ?hd (cs := #[.int .i64 a0_0, .int .i64 a0_1, .int .i64 a0_2, .int .i64 a0_3, .int .i64 a0_4, .int .i64 a0_5, .slice A0_6 l0_6.length c0_6, .int .i64 a0_7, .int .i64 a0_8, .slice A0_9 l0_9.length c0_9, .slice A0_10 l0_10.length c0_10, .slice A0_11 l0_11.length c0_11, .int .i64 a0_12, .int .i64 a0_13, .slice A0_14 l0_14.length c0_14]) (t := 67) ?hr ?_; (case hd => rfl); (case hg => rfl); (case hr => first | (go_simp; done) | (go_simp; rfl)); intro gb hg w1 hbox hb; have hz1 := bx15 hbox; have BK := aM hbox; replace HB := aM hb; clear hbox hb hg) | (go_at_call 32; (with_reducible refine (bref.calls a0_0 a0_1 a0_2 a0_3 a0_4 a0_5 A0_6 c0_6 l0_6 a0_7 a0_8 A0_9 c0_9 l0_9 A0_10 c0_10 l0_10 A0_11 c0_11 l0_11 a0_12 a0_13 A0_14 c0_14 l0_14 _ (Kd.C_below HH.out.1 HB.out) HH.out.2.1 (Kd.C_below HH.out.2.2.1 HB.out) HH.out.2.2.2.1 (Kd.C_below HH.out.2.2.2.2.1 HB.out) HH.out.2.2.2.2.2.1 (Kd.C_below HH.out.2.2.2.2.2.2.1 HB.out) HH.out.2.2.2.2.2.2.2.1 (Kd.C_below HH.out.2.2.2.2.2.2.2.2.1 HB.out) HH.out.2.2.2.2.2.2.2.2.2 H6.out H10.out).mono ?_); rintro e w2 ⟨AT, cT, AP, cP, rows, rfl, ht, hp, hrw, hb⟩; rw [HPE.out] at hp hrw ⊢; have RP := aM (Kd.R_lower hp (below_size HB.out)); have HRW := aM hrw; have HB1 := aM hb; replace BK := aM (blk_below BK.out hb); replace HB := aM (below_step HB.out hb); clear ht hp hrw hb hz1))
 go_loopw [3, 10] (fun s_ i_ W' => ∃ (n_ : Nat), i_ = .int .i64 n_ ∧ s_ = .int .i64 (smS (P.take n_) : Int) ∧ Aside0 (n_ ≤ P.length) ∧ Aside0 (W'.heap[gb]? = some (.cells #[.int .i64 a0_0, .int .i64 a0_1, .int .i64 a0_2, .int .i64 a0_3, .int .i64 a0_4, .int .i64 a0_5, .slice A0_6 l0_6.length c0_6, .int .i64 a0_7, .int .i64 a0_8, .slice A0_9 l0_9.length c0_9, .slice A0_10 l0_10.length c0_10, .slice A0_11 l0_11.length c0_11, .int .i64 a0_12, .int .i64 a0_13, .slice A0_14 l0_14.length c0_14] 67 (0, 0))) ∧ Aside0 ((Kd.raw 3).R 111 W' w.heap.size (fun _ => True) (.slice AP P.length cP) rows) ∧ Aside0 (Below w.heap.size w W') ∧ Aside0 (Below w1.heap.size w1 W')) (fun _ i_ _ => P.length - (intOf i_).toNat)
 case atStart => exact ⟨0, rfl, rfl, ⟨Nat.zero_le _⟩, BK, RP, HB, HB1⟩
 case round =>
  clear BK RP HB HB1
  obtain ⟨n, rfl, rfl, HJ, BK, RP, HB, HB1⟩ := hrel
  by_cases q : n < P.length
  ·
   have f1 : decide ((n : Int) < (P.length : Int)) = true := decide_eq_true (by omega)
   have f2 : decide (n < P.length) = true := decide_eq_true q
   have p0 : (0 : Int) ≤ (n : Int) := by omega
   have p1 : (n : Int) < (P.length : Int) := by omega
   obtain ⟨x, hx⟩ : ∃ x, P[n]? = some x := ⟨_, List.getElem?_eq_getElem q⟩
   have hrd : rd_T111 P (n : Int) = x := by unfold rd_T111; rw [List.getD_eq_getElem?_getD, Int.toNat_natCast, hx]; rfl
   obtain ⟨ad, A2, c2, he, hx0, hx1, hx2, hle, hC2⟩ := at_T111 (RowsP.reads RP.out HRW.out HB1.out).1 (n : Int) p0 p1
   cases he
   rw [hrd] at hx0 hx1 hx2
   simp only [Int.toNat_natCast] at hx0 hx1 hx2
   obtain ⟨x0, y0⟩ : ∃ x_, x.f0 = x_ := ⟨_, rfl⟩
   obtain ⟨x1, y1⟩ : ∃ x_, x.f1 = x_ := ⟨_, rfl⟩
   obtain ⟨x2, y2⟩ : ∃ x_, x.f2.length = x_ := ⟨_, rfl⟩
   have HTK : Aside0 (smS (P.take (n + 1)) = smS (P.take n) + min x2 5000) := ⟨by rw [smS_succ hx, y2]⟩
   have HLE : Aside0 (smS (P.take n) ≤ 5000 * n) := ⟨by have h_ := smS_le (P.take n); rw [List.length_take] at h_; have := Nat.min_le_left n P.length; omega⟩
   rw [y0] at hx0
   rw [y1] at hx1
   rw [y2] at hx2
   clear hrd hx y0 y1 y2 hle hC2
   obtain ⟨sm, hsm⟩ : ∃ x_, smS (P.take n) = x_ := ⟨_, rfl⟩
   rw [hsm] at HTK HLE ⊢
   clear hsm
   go_upto_region 5 with (fail)
   clear hx0 hx1 hx2
   have h_new := blk_new wr (.cells #[.int .i64 x0, .int .i64 x1, .slice A2 x2 c2] 111)
   have h_al := below_alloc (Below.refl wr.heap.size wr) (.cells #[.int .i64 x0, .int .i64 x1, .slice A2 x2 c2] 111)
   obtain ⟨g5, hg_⟩ : ∃ g_, g_ = wr.heap.size := ⟨_, rfl⟩
   rw [← hg_] at h_new ⊢
   have G5 := aM h_new
   replace BK := aM (blk_below BK.out h_al)
   replace RP := aM (Kd.R_below RP.out h_al)
   replace HB := aM (below_step HB.out h_al)
   replace HB1 := aM (below_step HB1.out h_al)
   clear h_new h_al hg_
   generalize wr.alloc (.cells #[.int .i64 x0, .int .i64 x1, .slice A2 x2 c2] 111) = w7 at G5 BK RP HB HB1 ⊢
   have hz5 := bx3b G5.out
   have hmn : (if 5000 < (x2 : Int) then (5000 : Int) else (x2 : Int)) = ((min x2 5000 : Nat) : Int) := by split <;> omega
   obtain ⟨mn, hmn2⟩ : ∃ x_, min x2 5000 = x_ := ⟨_, rfl⟩
   rw [hmn2] at HTK hmn
   have hmn3 : mn ≤ 5000 := by omega
   have hws : wrap64 ((sm : Int) + (mn : Int)) = ((sm + mn : Nat) : Int) := by have h1_ := HLE.out; have h2_ := HPL.out; have h3_ := H10.out; simp only [wrap64]; omega
   have hwn : wrap64 ((n : Int) + 1) = ((n + 1 : Nat) : Int) := by have h2_ := HPL.out; have h3_ := H10.out; simp only [wrap64]; omega
   clear hmn2
   go_wp2
   first | rw [hmn, hws, hwn] | rw [hws, hwn]
   exact ⟨⟨n + 1, rfl, by rw [HTK.out], ⟨q⟩, BK, RP, HB, HB1⟩, by simp only [intOf]; omega⟩
  ·
   have f1 : decide ((n : Int) < (P.length : Int)) = false := decide_eq_false (by omega)
   have f2 : decide (n < P.length) = false := decide_eq_false q
   obtain rfl : n = P.length := by have := HJ.out; omega
   rw [List.take_length]
   have hz1 := bx15 BK.out
   obtain ⟨sm, hsm⟩ : ∃ x_, smS P = x_ := ⟨_, rfl⟩
   have HSB : Aside0 (smallB l0_6.length l0_10.length P = (decide (l0_10.length ≤ 5) && decide (l0_6.length ≤ 20) && decide (sm ≤ 5000))) := ⟨by rw [← hsm]; rfl⟩
   rw [hsm]
   clear hsm q
   by_cases q1 : l0_10.length ≤ 5
   ·
    have g1 : decide ((l0_10.length : Int) ≤ 5) = true := decide_eq_true (by omega)
    have g2 : decide (l0_10.length ≤ 5) = true := decide_eq_true q1
    by_cases q2 : l0_6.length ≤ 20
    ·
     have g3 : decide ((l0_6.length : Int) ≤ 20) = true := decide_eq_true (by omega)
     have g4 : decide (l0_6.length ≤ 20) = true := decide_eq_true q2
     have g5 : decide ((sm : Int) ≤ 5000) = decide (sm ≤ 5000) := decide_eq_decide.mpr (by omega)
     go_wp2
     go_ret
     exact ⟨by rw [HSB.out, g2, g4]; rfl, HB.out⟩
    ·
     have g3 : decide ((l0_6.length : Int) ≤ 20) = false := decide_eq_false (by omega)
     have g4 : decide (l0_6.length ≤ 20) = false := decide_eq_false q2
     go_wp2
     go_ret
     exact ⟨by rw [HSB.out, g2, g4]; rfl, HB.out⟩
   ·
    have g1 : decide ((l0_10.length : Int) ≤ 5) = false := decide_eq_false (by omega)
    have g2 : decide (l0_10.length ≤ 5) = false := decide_eq_false q1
    go_wp2
    go_ret
    exact ⟨by rw [HSB.out, g2]; rfl, HB.out⟩
-- calls: credenzalaw18_ref

end Go.Proofs.Ytehepnmagcjkaaa.PBlobEquals
