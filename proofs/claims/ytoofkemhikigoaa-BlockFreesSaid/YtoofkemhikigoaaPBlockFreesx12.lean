-- Written by a program of this session (wip/tools/mkprint.py over the kit's print).
import Derived.Test.YtoofkemhikigoaaPBlockFreesx0
import Derived.Test.YtoofkemhikigoaaPBlockFreesx6
import Derived.Test.YtoofkemhikigoaaPBlockFreesx9
import Derived.Test.YtoofkemhikigoaaPBlockFreesx10
import Derived.Test.YtoofkemhikigoaaPBlockFreesx11
namespace Go.Proofs.Ytoofkemhikigoaa.PBlockFrees
open Go.RowKit Go.Proofs.YtoofkemhikigoaaW.PrintWords Go.Proofs.YtoofkemhikigoaaW.PrintLast Go.Proofs.YtoofkemhikigoaaW.PrintMore
attribute [local go_sem] max2_int min2_int max_two min_two max_three min_three max_four min_four   -- for this text's walks alone
set_option linter.unusedVariables false
set_option linter.unusedSimpArgs false

/-! ### credenzalaw11_BlockFrees: function 10 -/
set_option maxHeartbeats 8000000 in
set_option maxRecDepth 100000 in
theorem blockFrees.calls (k : Nat) (hk : madeAll k = true) (s0 r0 : Int) (A : Option Addr) (c : Nat) (l : List S57) (w : World) (hr0 : Kd.C k57 w A l.length l) (hc0 : l.length ≤ c) :
  Calls Try.prog 10 #[.int .i64 s0, .int .i64 r0, .slice A l.length c] w fun e w' => e = .returned (.bool true) ∧ Below w.heap.size w w' := by
 have HK := aM hk
 have HR := aM hr0
 have HB := aM (Below.refl w.heap.size w)
 have hu57 := Try.underlying57
 clear hk hr0 hc0
 have small : ∀ (b1 b2 b3 b4 b5 : Bool), decide (50 < l.length) = b1 → decide (s0 < 0) = b2 → decide (60 < s0) = b3 → decide (r0 < 0) = b4 → decide (16 < r0) = b5 → (b1 || b2 || b3 || b4 || b5) = true → Calls Try.prog 10 #[.int .i64 s0, .int .i64 r0, .slice A l.length c] w fun e w' => e = .returned (.bool true) ∧ Below w.heap.size w w' := by
  intro b1 b2 b3 b4 b5 db1 db2 db3 db4 db5 hb
  have dd : decide (50 < (l.length : Int)) = b1 := by rw [← db1]; exact decide_eq_decide.mpr (by omega)
  cases b1 <;> cases b2 <;> cases b3 <;> cases b4 <;> cases b5
  case false.false.false.false.false => cases hb
  all_goals
   clear hb
   go_enter Try.func10, Try.ntmps10
   go_wp2_with (go_at_call 28; (refine (blockAwake.calls k HK.out _).mono ?_); rintro e wa ⟨rfl, hb⟩; replace HB := aM (below_step HB.out hb); clear hb)
   go_ret
   exact ⟨rfl, HB.out⟩
 by_cases q0 : 50 < l.length
 ·
  exact small _ _ _ _ _ (decide_eq_true q0) rfl rfl rfl rfl (by simp)
 by_cases q1 : s0 < 0
 ·
  exact small _ _ _ _ _ (decide_eq_false q0) (decide_eq_true q1) rfl rfl rfl (by simp)
 by_cases q2 : 60 < s0
 ·
  exact small _ _ _ _ _ (decide_eq_false q0) (decide_eq_false q1) (decide_eq_true q2) rfl rfl (by simp)
 by_cases q3 : r0 < 0
 ·
  exact small _ _ _ _ _ (decide_eq_false q0) (decide_eq_false q1) (decide_eq_false q2) (decide_eq_true q3) rfl (by simp)
 by_cases q4 : 16 < r0
 ·
  exact small _ _ _ _ _ (decide_eq_false q0) (decide_eq_false q1) (decide_eq_false q2) (decide_eq_false q3) (decide_eq_true q4) (by simp)
 clear small
 have d0 : decide (50 < l.length) = false := decide_eq_false q0
 have d1 : decide (s0 < 0) = false := decide_eq_false q1
 have d2 : decide (60 < s0) = false := decide_eq_false q2
 have d3 : decide (r0 < 0) = false := decide_eq_false q3
 have d4 : decide (16 < r0) = false := decide_eq_false q4
 have dd : decide (50 < (l.length : Int)) = false := decide_eq_false (by omega)
 obtain ⟨m, rfl⟩ := Int.eq_ofNat_of_zero_le (Int.not_lt.mp q1)
 obtain ⟨n, rfl⟩ := Int.eq_ofNat_of_zero_le (Int.not_lt.mp q3)
 have HM := aM (show m ≤ 60 by omega)
 have HN := aM (show n ≤ 16 by omega)
 have HL := aM (show l.length ≤ 50 by omega)
 clear q0 q1 q2 q3 q4
 go_enter Try.func10, Try.ntmps10
 go_upto_region 6 with (go_at_call 29; (refine (begunAt.calls m n (by have := HM.out; omega) HN.out _).mono ?_); rintro e w1 ⟨pb, rfl, hbg⟩; have BEG := aM hbg; clear hbg)
 obtain ⟨g, s, t, hp, hi⟩ := BEG.out
 have T := aM hp
 have HI := aM hi
 clear hp hi BEG
 go_wp2
 go_loopw [39] (fun v W' => ∃ (a : Nat) (L : List Slot) (f : Int) (TS : List Tab), v = .int .i64 a ∧ Aside0 (a ≤ l.length) ∧ Aside0 (PlayAt w W' pb g s L f TS) ∧ Aside0 (Inv L f TS m n a)) (fun v _ => l.length - (intOf v).toNat)
 case atStart => exact ⟨0, _, _, _, rfl, ⟨Nat.zero_le _⟩, T, HI⟩
 case round =>
  clear T HI HB
  obtain ⟨a, L, f, TS, rfl, HJ, T, HI⟩ := hrel
  by_cases q : a < l.length
  ·
   have f1 : decide ((a : Int) < (l.length : Int)) = true := decide_eq_true (by omega)
   have f2 : decide (a < l.length) = true := decide_eq_true q
   have hw : wrap64 ((a : Int) + 1) = (a : Int) + 1 := by have := HL.out; simp only [wrap64]; omega
   have p0 : (0 : Int) ≤ (a : Int) := by omega
   have p1 : (a : Int) < (l.length : Int) := by omega
   have HAA : Aside0 (a + 1 ≤ 50) := ⟨by have := HL.out; omega⟩
   obtain ⟨ad, he, hx0, hx1, hx2, hx3⟩ := at_T57 HR.out (a : Int) p0 p1
   cases he
   simp only [Int.toNat_natCast] at hx0 hx1 hx2 hx3
   have HB := aM T.out.hb
   replace hx0 := (HB.out.cell (World.block_lt_of_cell? w _ hx0)).trans hx0
   replace hx1 := (HB.out.cell (World.block_lt_of_cell? w _ hx1)).trans hx1
   replace hx2 := (HB.out.cell (World.block_lt_of_cell? w _ hx2)).trans hx2
   replace hx3 := (HB.out.cell (World.block_lt_of_cell? w _ hx3)).trans hx3
   obtain ⟨kd, hK⟩ : ∃ d, (rd_T57 l (a : Int)).f0 = d := ⟨_, rfl⟩
   obtain ⟨tn, hT⟩ : ∃ d, (rd_T57 l (a : Int)).f1 = d := ⟨_, rfl⟩
   obtain ⟨rn, hRn⟩ : ∃ d, (rd_T57 l (a : Int)).f2 = d := ⟨_, rfl⟩
   obtain ⟨nm, hN⟩ : ∃ d, (rd_T57 l (a : Int)).f3 = d := ⟨_, rfl⟩
   rw [hK] at hx0
   rw [hT] at hx1
   rw [hRn] at hx2
   rw [hN] at hx3
   clear hK hN hT hRn HB
   go_upto_region 9 with ((with_reducible refine gate_dst (N := 9) rfl ?_); refine box_event ?hg (N := 9) ?hd (cs := #[.int .i64 0, .int .i64 0, .int .i64 0, .int .i64 0]) (t := 57) ?hr ?_; (case hd => rfl); (case hg => rfl); (case hr => first | (go_simp; done) | (go_simp; rfl)); intro bo hg_ w5 hbox hb; have BO := aM hbox; have GO := aM (by rw [hg_]; exact Nat.le_refl _ : wr.heap.size ≤ bo); have HX := aM hb; have hz := bx4 hbox; skip; clear hbox hb hg_)
   have BO2 := aM (blk_put (blk_put (blk_put (blk_put BO.out 0 (.int .i64 kd) (cs' := #[.int .i64 kd, .int .i64 0, .int .i64 0, .int .i64 0]) rfl) 1 (.int .i64 tn) (cs' := #[.int .i64 kd, .int .i64 tn, .int .i64 0, .int .i64 0]) rfl) 2 (.int .i64 rn) (cs' := #[.int .i64 kd, .int .i64 tn, .int .i64 rn, .int .i64 0]) rfl) 3 (.int .i64 nm) (cs' := #[.int .i64 kd, .int .i64 tn, .int .i64 rn, .int .i64 nm]) rfl)
   replace T := aM (T.out.below ((((HX.out.setCell (p := ⟨bo, 0, none⟩) GO.out (.int .i64 kd)).setCell (p := ⟨bo, 1, none⟩) GO.out (.int .i64 tn)).setCell (p := ⟨bo, 2, none⟩) GO.out (.int .i64 rn)).setCell (p := ⟨bo, 3, none⟩) GO.out (.int .i64 nm)))
   clear hz BO HX GO hx0 hx1 hx2 hx3
   generalize (((w5.setCell ⟨bo, 0, none⟩ (.int .i64 kd)).setCell ⟨bo, 1, none⟩ (.int .i64 tn)).setCell ⟨bo, 2, none⟩ (.int .i64 rn)).setCell ⟨bo, 3, none⟩ (.int .i64 nm) = w6 at T BO2 ⊢
   have hz := bx4 BO2.out
   go_wp2_with (go_at_call 30; (refine (step.calls k HK.out T.out HI.out (by have := HJ.out; have := HL.out; omega) (by have := HM.out; omega) kd tn rn nm).mono ?_); rintro e w7 ⟨L', f', TS', rfl, hp, hi⟩; replace T := aM hp; replace HI := aM hi; clear hp hi)
   rw [hw]
   exact ⟨⟨a + 1, _, _, _, rfl, ⟨q⟩, T, HI⟩, by simp only [intOf]; omega⟩
  ·
   have f1 : decide ((a : Int) < (l.length : Int)) = false := decide_eq_false (by omega)
   have f2 : decide (a < l.length) = false := decide_eq_false q
   have HB := aM T.out.hb
   obtain ⟨own, v0, v1, av, rv, hT⟩ := T.out
   obtain ⟨Aa, ac, rfl⟩ := Kd.R_slice hT.A
   obtain ⟨nT, hnT⟩ : ∃ n_, TS.length = n_ := ⟨_, rfl⟩
   rw [show (List.map (fun b => [Value.pointer (some ⟨b, 0, none⟩)]) (TS.map Tab.tb)).length = nT by rw [List.length_map, List.length_map]; exact hnT] at hT
   have hpos := HI.out.pos
   obtain ⟨t0, ht0⟩ : ∃ t0, TS[0]? = some t0 := ⟨_, List.getElem?_eq_getElem hpos⟩
   have hTAl : (TS.map Tab.tb).length = nT := by rw [List.length_map]; exact hnT
   have hTA0 : (TS.map Tab.tb)[0]? = some t0.tb := by rw [List.getElem?_map, ht0]; rfl
   obtain ⟨ab, e1, -, -⟩ := hT.ptr rfl hTA0
   subst e1
   obtain ⟨TA, hTA⟩ : ∃ x_, TS.map Tab.tb = x_ := ⟨_, rfl⟩
   obtain ⟨D, hD⟩ : ∃ x_, TS.map Tab.rows = x_ := ⟨_, rfl⟩
   obtain ⟨l0, hl0⟩ : ∃ x_, RR L = x_ := ⟨_, rfl⟩
   obtain ⟨l1, hl1⟩ : ∃ x_, MM L = x_ := ⟨_, rfl⟩
   rw [hTA, hD, hl0, hl1] at hT
   rw [hTA] at hTAl hTA0
   replace T := aM hT
   have HNT := aM hnT
   have HTA := aM hTA
   have HA5 : Aside0 (a ≤ 1000) := ⟨by have := HJ.out; have := HL.out; omega⟩
   have HM5 : Aside0 (m ≤ 1000) := ⟨by have := HM.out; omega⟩
   have HT6 : Aside0 (nT ≤ 6) := ⟨by have := HI.out.six; omega⟩
   have hu63 := Try.underlying63
   clear hT hD hl0 hl1
   have hz := T.out.cells
   go_wp2
   clear hz
   go_loopw [53] (fun v W' => ∃ (j : Nat) (own_ : Nat → Nat) (L_ : List Slot) (f_ : Int) (TS_ : List Tab), v = .int .i64 j ∧ Aside0 (j ≤ nT ∧ TS_.length = nT ∧ TS_.map Tab.tb = TA) ∧ Aside0 (∀ (i_ : Nat) (u_ : Tab), TS_[i_]? = some u_ → i_ < j → u_.rows.flatten = []) ∧ Aside0 (PlayO w W' own_ pb g s L_ f_ v0 v1 l0 l1 v0 v1 (.slice (some ⟨ab, 0, none⟩) nT ac) rv (.slice (some ⟨ab, 0, none⟩) nT ac) TA rv D TS_ (.slice none 0 0) [] []) ∧ Aside0 (Inv0 L_ f_ TS_ m n a)) (fun v _ => nT - (intOf v).toNat)
   case atStart => exact ⟨0, _, _, _, _, rfl, ⟨Nat.zero_le _, HNT.out, HTA.out⟩, ⟨fun _ _ _ h_ => absurd h_ (Nat.not_lt_zero _)⟩, T, ⟨HI.out.toInv0⟩⟩
   case round =>
    clear T HI HB ht0 hpos hTAl hTA0 hnT hTA
    obtain ⟨j, own, L, f, TS, rfl, HJ2, HC, T, HI⟩ := hrel
    by_cases q2 : j < nT
    ·
     have g1 : decide ((j : Int) < (nT : Int)) = true := decide_eq_true (by omega)
     have g2 : decide (j < nT) = true := decide_eq_true q2
     have s0 : ((0 : Int) ≤ (j : Int)) = True := eq_true (by omega)
     have s1 : ((j : Int) < (nT : Int)) = True := eq_true (by omega)
     have s2 : (j < nT) = True := eq_true q2
     obtain ⟨t, ht⟩ : ∃ t, TS[j]? = some t := ⟨_, List.getElem?_eq_getElem (by rw [HJ2.out.2.1]; exact q2)⟩
     have HTI := aM ht
     obtain ⟨tb, htb⟩ : ∃ x_, t.tb = x_ := ⟨_, rfl⟩
     have HTB := aM htb
     have hca := T.out.cellA rfl (show TA[j]? = some tb by rw [← HJ2.out.2.2, List.getElem?_map, ht, ← htb]; rfl)
     have hwj : wrap64 ((j : Int) + 1) = (j : Int) + 1 := by have := HT6.out; simp only [wrap64]; omega
     clear ht htb
     go_upto_region 16 with (go_at_call 35; (refine (clearOf.calls T.out HI.out HA5.out HM5.out HTI.out HTB.out).mono ?_); rintro e wc1 ⟨own1, L1, f1, t1, rfl, hp, hi_, htb, hrw, hk⟩; have T1 := aM hp; have HI1 := aM hi_; have HB1 := aM htb; have HW1 := aM hrw; have HK1 := aM hk; clear hp hi_ htb hrw hk)
     go_upto_region 17 with (go_at_call 35; (refine (clearOf.calls T1.out HI1.out HA5.out HM5.out (set_same HTI.out) HB1.out).mono ?_); rintro e wc2 ⟨own2, L2, f2, t2, rfl, hp, hi_, htb, hrw, hk⟩; have T2 := aM hp; have HI2 := aM hi_; have HB2 := aM htb; have HW2 := aM hrw; have HK2 := aM hk; clear hp hi_ htb hrw hk)
     have HSS := aM (set_same (t1 := t2) (set_same (t1 := t1) HTI.out))
     have HFN : Aside0 (t2.rows.flatten = []) := ⟨by rw [HW2.out]; exact flat_nil _⟩
     clear hca
     go_wp2_with (go_at_call 32; (refine (slotsOf.calls T2.out HI2.out HA5.out HSS.out HB2.out HFN.out).mono ?_); rintro e wc3 ⟨Ag, cg, rfl, -, hb⟩; have T3 := aM (T2.out.below hb); clear hb)
     rw [hwj]
     exact ⟨⟨j + 1, _, _, _, _, rfl, ⟨q2, by rw [List.length_set, List.length_set]; exact HJ2.out.2.1, (tb_step HTI.out (HB2.out.trans HTB.out.symm)).trans HJ2.out.2.2⟩, ⟨cleared_step HTI.out (HW2.out.trans (by rfl)) HC.out⟩, T3, HI2⟩, by simp only [intOf]; omega⟩
    ·
     have g1 : decide ((j : Int) < (nT : Int)) = false := decide_eq_false (by omega)
     have g2 : decide (j < nT) = false := decide_eq_false q2
     obtain ⟨hfm, hzz⟩ := HI.out.done (fun t ht => by obtain ⟨i_, hi_, rfl⟩ := List.getElem_of_mem ht; exact HC.out i_ _ (List.getElem?_eq_getElem hi_) (by have := HJ2.out; omega))
     subst hfm
     have HUZ := aM (used_zero L hzz L.length)
     have HB := aM T.out.HB
     have hz := T.out.cells
     clear hzz
     go_wp2_with (first | (go_at_call 15; (refine (poolFree.calls g s L _ _ T.out.P).mono ?_); rintro e wd1 ⟨rfl, rfl⟩; skip) | (go_at_call 19; (refine (poolUsed.calls g s L _ _ T.out.P).mono ?_); rintro e wd2 ⟨vv, rfl, hr, hb⟩; rw [HUZ.out] at hr; obtain ⟨Au, cu, rfl⟩ := Kd.R_slice hr; replace HB := aM (below_step HB.out hb); clear hr hb hz) | (go_at_call 28; (refine (blockAwake.calls k HK.out _).mono ?_); rintro e wa ⟨rfl, hb⟩; replace HB := aM (below_step HB.out hb); clear hb))
     go_ret
     exact ⟨by simp, HB.out⟩

def credenzalaw11_BlockFrees.f (k : Nat) (a0 a1 : Int) (l2 : List S57) : Option Bool := if madeAll k = true then some true else none
theorem credenzalaw11_BlockFrees.mono : ∀ a0 a1 l2 k, LeO (credenzalaw11_BlockFrees.f k a0 a1 l2) (credenzalaw11_BlockFrees.f (k + 1) a0 a1 l2) := fun _ _ _ k => allLe k
theorem credenzalaw11_BlockFrees.calls (k : Nat) (a0 a1 : Int) (A2 : Option Addr) (c2 : Nat) (l2 : List S57) (r : Bool) (w : World) (hr2 : Kd.C k57 w A2 l2.length l2) (hc2 : l2.length ≤ c2) (h : credenzalaw11_BlockFrees.f k a0 a1 l2 = some r) :
  Calls Try.prog 10 #[.int .i64 a0, .int .i64 a1, .slice A2 l2.length c2] w fun e w' => e = .returned (.bool r) ∧ Below w.heap.size w w' := by
 obtain ⟨h1, rfl⟩ := allOf h
 exact blockFrees.calls k h1 a0 a1 A2 c2 l2 w hr2 hc2
-- calls: credenzalaw11_awake credenzalaw11_play_step


/-- THE ONE PURE STATEMENT of credenzalaw11_BlockFrees: yours. -/
def credenzalaw11_BlockFrees.Pure : Prop := ∀ (a0 : Int) (a1 : Int) (l2 : List (S57)), (Lit.int .i64 a0).wf = true → (Lit.int .i64 a1).wf = true → l2.length ≤ maxLen → (∀ z ∈ l2, ((Lit.int .i64 z.f0).wf = true ∧ (Lit.int .i64 z.f1).wf = true ∧ (Lit.int .i64 z.f2).wf = true ∧ (Lit.int .i64 z.f3).wf = true)) → ∃ k, credenzalaw11_BlockFrees.f k a0 a1 l2 = some true
theorem credenzalaw11_BlockFrees.walk (P : credenzalaw11_BlockFrees.Pure) (a0 : Int) (a1 : Int) (a2 : Option Addr) (c2 : Nat) (l2 : List (S57)) (w : World) (w0 : (Lit.int .i64 a0).wf = true) (w1 : (Lit.int .i64 a1).wf = true) (hr2 : Kd.C k57 w a2 l2.length l2) (hc2 : l2.length ≤ c2) (hm2 : l2.length ≤ maxLen) (hq2 : ∀ z ∈ l2, ((Lit.int .i64 z.f0).wf = true ∧ (Lit.int .i64 z.f1).wf = true ∧ (Lit.int .i64 z.f2).wf = true ∧ (Lit.int .i64 z.f3).wf = true)) :
  Calls Try.prog 10 #[.int .i64 a0, .int .i64 a1, .slice a2 l2.length c2] w fun e w' => e = .returned (.bool true) ∧ Below w.heap.size w w' := by
 obtain ⟨k, h⟩ := P a0 a1 l2 w0 w1 hm2 hq2
 refine (credenzalaw11_BlockFrees.calls k a0 a1 _ _ l2 true w hr2 hc2 h).mono ?_
 rintro e w' ⟨rfl, hd⟩
 exact ⟨rfl, hd⟩

end Go.Proofs.Ytoofkemhikigoaa.PBlockFrees
