-- Written by a program of this session (wip/tools/mkprint.py over the kit's print).
import Derived.Test.YtoofkemhikigoaaPBlockForksx0
import Derived.Test.YtoofkemhikigoaaPBlockForksx6
import Derived.Test.YtoofkemhikigoaaPBlockForksx9
import Derived.Test.YtoofkemhikigoaaPBlockForksx10
import Derived.Test.YtoofkemhikigoaaPBlockForksx11
namespace Go.Proofs.Ytoofkemhikigoaa.PBlockForks
open Go.RowKit Go.Proofs.YtoofkemhikigoaaW.PrintWords Go.Proofs.YtoofkemhikigoaaW.PrintLast Go.Proofs.YtoofkemhikigoaaW.PrintMore
attribute [local go_sem] max2_int min2_int max_two min_two max_three min_three max_four min_four   -- for this text's walks alone
set_option linter.unusedVariables false
set_option linter.unusedSimpArgs false

/-! ### credenzalaw11_BlockForks: function 7 -/
theorem poolRefsIs.calls (g s : Nat) (L : List Slot) (f : Int) (id : Nat) (x : Slot) (hx : L[id]? = some x) {r : Int} (hr : x.refs = r) (W : World) (h : PoolAt W g s L f) :
  Calls Try.prog 26 #[.pointer (some ⟨g, 0, none⟩), .int .i64 (id : Int)] W fun e w' => e = .returned (.int .i64 r) ∧ W = w' := by
 subst hr
 exact poolRefsAt.calls g s L f id x hx W h
def pfk25.T25 : Bool × List (List Nat × List Nat) := (true, [([], []), ([], []), ([0, 1], [0, 1]), ([2], [2]), ([], []), ([], []), ([4, 5], [4, 5]), ([6], [6]), ([3, 7], [3, 7]), ([8], [8]), ([9], [9]), ([10, 9], [9, 10]), ([11, 9], [9, 11]), ([12, 9], [9, 12]), ([9], [9]), ([9], [9]), ([14, 15, 9], [9, 14, 15]), ([16, 9], [9, 16]), ([13, 17, 9, 9], [9, 13, 17]), ([18, 9], [9, 18]), ([9, 19], [9, 19])])
def pfk25.B25 : List Nat := [0, 0, 3, 7, 0, 0, 48, 112, 255, 511, 1023, 2047, 4095, 8191, 1023, 1023, 50175, 115711, 262143, 524287, 1048575]
theorem pfk25.tab25 : rtab .any (opsOf Try.f7 25) = pfk25.T25 := by kernel_rfl
theorem pfk25.bits25 : waitsOk pfk25.T25.2 pfk25.B25 = true := by kernel_rfl
set_option maxHeartbeats 8000000 in
set_option maxRecDepth 100000 in
theorem blockForks.calls (k : Nat) (hk : madeAll k = true) (s0 r0 : Int) (A : Option Addr) (c : Nat) (l : List S57) (w : World) (hr0 : Kd.C k57 w A l.length l) (hc0 : l.length ≤ c) :
  Calls Try.prog 7 #[.int .i64 s0, .int .i64 r0, .slice A l.length c] w fun e w' => e = .returned (.bool true) ∧ Below w.heap.size w w' := by
 have HK := aM hk
 have HR := aM hr0
 have HB := aM (Below.refl w.heap.size w)
 have hu57 := Try.underlying57
 clear hk hr0 hc0
 have small : ∀ (b1 b2 b3 b4 b5 : Bool), decide (50 < l.length) = b1 → decide (s0 < 1) = b2 → decide (60 < s0) = b3 → decide (r0 < 1) = b4 → decide (16 < r0) = b5 → (b1 || b2 || b3 || b4 || b5) = true → Calls Try.prog 7 #[.int .i64 s0, .int .i64 r0, .slice A l.length c] w fun e w' => e = .returned (.bool true) ∧ Below w.heap.size w w' := by
  intro b1 b2 b3 b4 b5 db1 db2 db3 db4 db5 hb
  have dd : decide (50 < (l.length : Int)) = b1 := by rw [← db1]; exact decide_eq_decide.mpr (by omega)
  cases b1 <;> cases b2 <;> cases b3 <;> cases b4 <;> cases b5
  case false.false.false.false.false => cases hb
  all_goals
   clear hb
   go_enter Try.func7, Try.ntmps7
   go_wp2_with (go_at_call 28; (refine (blockAwake.calls k HK.out _).mono ?_); rintro e wa ⟨rfl, hb⟩; replace HB := aM (below_step HB.out hb); clear hb)
   go_ret
   exact ⟨rfl, HB.out⟩
 by_cases q0 : 50 < l.length
 ·
  exact small _ _ _ _ _ (decide_eq_true q0) rfl rfl rfl rfl (by simp)
 by_cases q1 : s0 < 1
 ·
  exact small _ _ _ _ _ (decide_eq_false q0) (decide_eq_true q1) rfl rfl rfl (by simp)
 by_cases q2 : 60 < s0
 ·
  exact small _ _ _ _ _ (decide_eq_false q0) (decide_eq_false q1) (decide_eq_true q2) rfl rfl (by simp)
 by_cases q3 : r0 < 1
 ·
  exact small _ _ _ _ _ (decide_eq_false q0) (decide_eq_false q1) (decide_eq_false q2) (decide_eq_true q3) rfl (by simp)
 by_cases q4 : 16 < r0
 ·
  exact small _ _ _ _ _ (decide_eq_false q0) (decide_eq_false q1) (decide_eq_false q2) (decide_eq_false q3) (decide_eq_true q4) (by simp)
 clear small
 have d0 : decide (50 < l.length) = false := decide_eq_false q0
 have d1 : decide (s0 < 1) = false := decide_eq_false q1
 have d2 : decide (60 < s0) = false := decide_eq_false q2
 have d3 : decide (r0 < 1) = false := decide_eq_false q3
 have d4 : decide (16 < r0) = false := decide_eq_false q4
 have dd : decide (50 < (l.length : Int)) = false := decide_eq_false (by omega)
 obtain ⟨m, rfl⟩ := Int.eq_ofNat_of_zero_le (show 0 ≤ s0 by omega)
 obtain ⟨n, rfl⟩ := Int.eq_ofNat_of_zero_le (show 0 ≤ r0 by omega)
 have HM := aM (show m ≤ 60 by omega)
 have HN := aM (show 0 < n ∧ n ≤ 16 by omega)
 have HL := aM (show l.length ≤ 50 by omega)
 clear q0 q1 q2 q3 q4
 go_enter Try.func7, Try.ntmps7
 go_upto_region 6 with (go_at_call 29; (refine (begunAt.calls m n (by have := HM.out; omega) HN.out.2 _).mono ?_); rintro e w1 ⟨pb, rfl, hbg⟩; have BEG := aM hbg; clear hbg)
 obtain ⟨g, s, t, hp, hi⟩ := BEG.out
 have T := aM hp
 have HI := aM hi
 clear hp hi BEG
 go_wp2
 go_loopw [46] (fun v W' => ∃ (a : Nat) (L : List Slot) (f : Int) (TS : List Tab), v = .int .i64 a ∧ Aside0 (a ≤ l.length) ∧ Aside0 (PlayAt w W' pb g s L f TS) ∧ Aside0 (Inv L f TS m n a)) (fun v _ => l.length - (intOf v).toNat)
 case atStart => exact ⟨0, _, _, _, rfl, ⟨Nat.zero_le _⟩, T, HI⟩
 case round =>
  clear T HI HB
  obtain ⟨a, L, f, TS, rfl, HJ, T, HI⟩ := hrel
  by_cases q : a < l.length
  ·
   have f1 : decide ((a : Int) < (l.length : Int)) = true := decide_eq_true (by omega)
   have f2 : decide (a < l.length) = true := decide_eq_true q
   have hw : wrap64 ((a : Int) + 1) = (a : Int) + 1 := by have := HL.out; simp only [wrap64]; omega
   have p0 : (0 : Int) ≤ (a : Int) := by omega
   have p1 : (a : Int) < (l.length : Int) := by omega
   have HAA : Aside0 (a + 1 ≤ 50) := ⟨by have := HL.out; omega⟩
   obtain ⟨ad, he, hx0, hx1, hx2, hx3⟩ := at_T57 HR.out (a : Int) p0 p1
   cases he
   simp only [Int.toNat_natCast] at hx0 hx1 hx2 hx3
   have HB := aM T.out.hb
   replace hx0 := (HB.out.cell (World.block_lt_of_cell? w _ hx0)).trans hx0
   replace hx1 := (HB.out.cell (World.block_lt_of_cell? w _ hx1)).trans hx1
   replace hx2 := (HB.out.cell (World.block_lt_of_cell? w _ hx2)).trans hx2
   replace hx3 := (HB.out.cell (World.block_lt_of_cell? w _ hx3)).trans hx3
   obtain ⟨kd, hK⟩ : ∃ d, (rd_T57 l (a : Int)).f0 = d := ⟨_, rfl⟩
   obtain ⟨tn, hT⟩ : ∃ d, (rd_T57 l (a : Int)).f1 = d := ⟨_, rfl⟩
   obtain ⟨rn, hRn⟩ : ∃ d, (rd_T57 l (a : Int)).f2 = d := ⟨_, rfl⟩
   obtain ⟨nm, hN⟩ : ∃ d, (rd_T57 l (a : Int)).f3 = d := ⟨_, rfl⟩
   rw [hK] at hx0
   rw [hT] at hx1
   rw [hRn] at hx2
   rw [hN] at hx3
   clear hK hN hT hRn HB
   go_upto_region 9 with ((with_reducible refine gate_dst (N := 9) rfl ?_); refine box_event ?hg (N := 9) ?hd (cs := #[.int .i64 0, .int .i64 0, .int .i64 0, .int .i64 0]) (t := 57) ?hr ?_; (case hd => rfl); (case hg => rfl); (case hr => first | (go_simp; done) | (go_simp; rfl)); intro bo hg_ w5 hbox hb; have BO := aM hbox; have GO := aM (by rw [hg_]; exact Nat.le_refl _ : wr.heap.size ≤ bo); have HX := aM hb; have hz := bx4 hbox; skip; clear hbox hb hg_)
   have BO2 := aM (blk_put (blk_put (blk_put (blk_put BO.out 0 (.int .i64 kd) (cs' := #[.int .i64 kd, .int .i64 0, .int .i64 0, .int .i64 0]) rfl) 1 (.int .i64 tn) (cs' := #[.int .i64 kd, .int .i64 tn, .int .i64 0, .int .i64 0]) rfl) 2 (.int .i64 rn) (cs' := #[.int .i64 kd, .int .i64 tn, .int .i64 rn, .int .i64 0]) rfl) 3 (.int .i64 nm) (cs' := #[.int .i64 kd, .int .i64 tn, .int .i64 rn, .int .i64 nm]) rfl)
   replace T := aM (T.out.below ((((HX.out.setCell (p := ⟨bo, 0, none⟩) GO.out (.int .i64 kd)).setCell (p := ⟨bo, 1, none⟩) GO.out (.int .i64 tn)).setCell (p := ⟨bo, 2, none⟩) GO.out (.int .i64 rn)).setCell (p := ⟨bo, 3, none⟩) GO.out (.int .i64 nm)))
   clear hz BO HX GO hx0 hx1 hx2 hx3
   generalize (((w5.setCell ⟨bo, 0, none⟩ (.int .i64 kd)).setCell ⟨bo, 1, none⟩ (.int .i64 tn)).setCell ⟨bo, 2, none⟩ (.int .i64 rn)).setCell ⟨bo, 3, none⟩ (.int .i64 nm) = w6 at T BO2 ⊢
   have hz := bx4 BO2.out
   go_wp2_with (go_at_call 30; (refine (step.calls k HK.out T.out HI.out (by have := HJ.out; have := HL.out; omega) (by have := HM.out; omega) kd tn rn nm).mono ?_); rintro e w7 ⟨L', f', TS', rfl, hp, hi⟩; replace T := aM hp; replace HI := aM hi; clear hp hi)
   rw [hw]
   exact ⟨⟨a + 1, _, _, _, rfl, ⟨q⟩, T, HI⟩, by simp only [intOf]; omega⟩
  ·
   have f1 : decide ((a : Int) < (l.length : Int)) = false := decide_eq_false (by omega)
   have f2 : decide (a < l.length) = false := decide_eq_false q
   have HB := aM T.out.hb
   obtain ⟨own, v0, v1, av, rv, hT⟩ := T.out
   obtain ⟨Aa, ac, rfl⟩ := Kd.R_slice hT.A
   obtain ⟨nT, hnT⟩ : ∃ n_, TS.length = n_ := ⟨_, rfl⟩
   rw [show (List.map (fun b => [Value.pointer (some ⟨b, 0, none⟩)]) (TS.map Tab.tb)).length = nT by rw [List.length_map, List.length_map]; exact hnT] at hT
   have hpos := HI.out.pos
   obtain ⟨t0, ht0⟩ : ∃ t0, TS[0]? = some t0 := ⟨_, List.getElem?_eq_getElem hpos⟩
   have hTAl : (TS.map Tab.tb).length = nT := by rw [List.length_map]; exact hnT
   have hTA0 : (TS.map Tab.tb)[0]? = some t0.tb := by rw [List.getElem?_map, ht0]; rfl
   obtain ⟨ab, e1, -, -⟩ := hT.ptr rfl hTA0
   subst e1
   obtain ⟨TA, hTA⟩ : ∃ x_, TS.map Tab.tb = x_ := ⟨_, rfl⟩
   obtain ⟨D, hD⟩ : ∃ x_, TS.map Tab.rows = x_ := ⟨_, rfl⟩
   obtain ⟨l0, hl0⟩ : ∃ x_, RR L = x_ := ⟨_, rfl⟩
   obtain ⟨l1, hl1⟩ : ∃ x_, MM L = x_ := ⟨_, rfl⟩
   rw [hTA, hD, hl0, hl1] at hT
   rw [hTA] at hTAl hTA0
   replace T := aM hT
   have HNT := aM hnT
   have HTA := aM hTA
   have HA5 : Aside0 (a ≤ 1000) := ⟨by have := HJ.out; have := HL.out; omega⟩
   have HM5 : Aside0 (m ≤ 1000) := ⟨by have := HM.out; omega⟩
   have HT6 : Aside0 (nT ≤ 6) := ⟨by have := HI.out.six; omega⟩
   have hu63 := Try.underlying63
   clear hT hD hl0 hl1
   have HA1 : Aside0 (a ≤ 100) := ⟨by have := HJ.out; have := HL.out; omega⟩
   have HA6 : Aside0 (a + 1 ≤ 1000) := ⟨by have := HA1.out; omega⟩
   have hz := T.out.cells
   have hca := T.out.cellA rfl hTA0
   have n0 : ((0 : Int) < (nT : Int)) = True := eq_true (by omega)
   have n1 : (0 < nT) = True := eq_true (by omega)
   have HT0 := aM ht0
   have HP := aM (show 0 < nT by omega)
   clear ht0 hpos hTAl hTA0 hnT hTA HB HTA HJ
   go_upto_region 14 with (go_at_call 31; (refine (forkOf.calls T.out HI.out.toInv0 HA5.out (fun x hx => by have := HI.out.top HA1.out x hx; omega) HT0.out).mono ?_); rintro e wf ⟨ownf, L1, u, rfl, hp, hi_, hu⟩; replace T := aM hp; have HI1 := aM hi_; have HU := aM hu; clear hp hi_ hu hz hca)
   have HT1 : Aside0 ((TS ++ [u])[0]? = some t0) := ⟨by rw [List.getElem?_append_left (by rw [HNT.out]; exact HP.out)]; exact HT0.out⟩
   have HU1 : Aside0 ((TS ++ [u])[nT]? = some u) := ⟨by rw [← HNT.out, List.getElem?_append_right (Nat.le_refl _), Nat.sub_self]; rfl⟩
   obtain ⟨ids, hids⟩ : ∃ x_, t0.rows.flatten = x_ := ⟨_, rfl⟩
   have HIDS := aM hids
   have HIDU : Aside0 (u.rows.flatten = ids) := ⟨by rw [HU.out]; exact hids⟩
   obtain ⟨tb, htb⟩ : ∃ x_, t0.tb = x_ := ⟨_, rfl⟩
   obtain ⟨ub, hub⟩ : ∃ x_, u.tb = x_ := ⟨_, rfl⟩
   have HB0 := aM htb
   have HUB := aM hub
   rw [htb, hub]
   clear hids htb hub HI HT0
   generalize TS ++ [u] = TS1 at T HI1 HT1 HU1
   go_upto_region 17 with (go_at_call 32; (refine (slotsOf.calls T.out HI1.out HA5.out HT1.out HB0.out HIDS.out).mono ?_); rintro e ws ⟨Aw, cw, rfl, hr, hb⟩; have HW : Aside0 (Kd.R (Kd.int .i64) 3 ws w.heap.size (fun k_ => ¬ OwnR t0.rp t0.vs k_) (.slice Aw ids.length cw) ids) := ⟨Kd.R_lower (Kd.R_mono (Kd.R_bound hr) (fun k_ hk_ e_ => by have h1_ := (T.out.ht 0 t0 HT1.out).hR.lt e_; have h2_ := hk_.2.1; omega)) (below_size T.out.HB)⟩; replace T := aM (T.out.below hb); clear hr hb)
   go_upto_region 18 with (first | (go_at_call 34; (refine (madeP.calls k HK.out _ _).mono ?_); rintro e wm ⟨b1, rfl, hp, hge, hb⟩; have hgl := T.out.P.gl; have hsl := T.out.P.sl; have Q := aM hp; have N1 : Aside0 (b1 ≠ g ∧ b1 ≠ s) := ⟨by omega, by omega⟩; clear hgl hsl hge; replace T := aM (T.out.below hb); replace HW := aM (Kd.R_below HW.out hb); clear hb hp) | (go_at_call 33; (refine (addOf.calls T.out HI1.out HA5.out HT1.out 0 HN.out.1 b1 _ Q.out N1.out.1 N1.out.2 HB0.out (by rfl)).mono ?_); rintro e wa ⟨z, owna, L2, f2, t1, rfl, hp, hi_, htb, hk⟩; replace HW := aM (seenKept HW.out T.out.P hk (fun k_ _ h_ _ => h_)); replace T := aM hp; have HI2 := aM hi_; have HB1 := aM htb; clear hp hi_ htb hk Q N1))
   go_upto_region 19 with (go_at_call 35; (refine (clearOf.calls T.out HI2.out HA6.out HM5.out (set_same HT1.out) HB1.out).mono ?_); rintro e wc ⟨ownc, L3, f3, t2, rfl, hp, hi_, -, -, hk⟩; replace HW := aM (seenKept HW.out T.out.P hk (fun k_ cs_ _ hc_ => by rw [← HB1.out]; exact blk_ne hc_ (T.out.ht 0 t1 (set_same HT1.out)).ht (by decide))); replace T := aM hp; have HI3 := aM hi_; clear hp hi_ hk)
   have HU3 : Aside0 (((TS1.set 0 t1).set 0 t2)[nT]? = some u) := ⟨by rw [List.set_set, List.getElem?_set_ne (by have := HP.out; omega)]; exact HU1.out⟩
   generalize (TS1.set 0 t1).set 0 t2 = TS3 at T HI3 HU3
   have HLI : Aside0 (ids.length ≤ 1000) := ⟨by rw [← HIDU.out]; exact Nat.le_trans (HI3.out.sz u (List.mem_of_getElem? HU3.out)) HA6.out⟩
   have HRI : Aside0 (∀ id ∈ ids, ∃ (q_ : Nat) (x_ : Slot), id = (q_ : Int) ∧ L3[q_]? = some x_ ∧ 0 < x_.refs) := ⟨fun id hid => by
    obtain ⟨q_, x_, e1_, e2_, e3_⟩ := HI3.out.held (List.mem_of_getElem? HU3.out) id (by rw [HIDU.out]; exact hid)
    exact ⟨q_, x_, e1_, e2_, by have h1_ := (T.out.P.hr x_ (List.mem_of_getElem? e2_)).1; omega⟩⟩
   clear HI1 HI2 HT1 HU1 HB1 HIDS
   go_upto_region 23 with (go_at_call 32; (refine (slotsOf.calls T.out HI3.out HA6.out HU3.out HUB.out HIDU.out).mono ?_); rintro e wg ⟨Ag, cg, rfl, hr, hb⟩; have HG := aM hr; replace HW := aM (Kd.R_below HW.out hb); replace T := aM (T.out.below hb); clear hr hb)
   go_wp2
   go_loopw [81] (fun v W' => ∃ (j : Nat), v = .int .i64 j ∧ Aside0 (j ≤ ids.length) ∧ Aside0 (PlayO w W' ownc pb g s L3 f3 v0 v1 l0 l1 v0 v1 (.slice (some ⟨ab, 0, none⟩) nT ac) rv (.slice (some ⟨ab, 0, none⟩) nT ac) TA rv D TS3 (.slice none 0 0) [] []) ∧ Aside0 (Kd.R (Kd.int .i64) 3 W' w.heap.size (fun k_ => ¬ OwnR t0.rp t0.vs k_) (.slice Aw ids.length cw) ids) ∧ Aside0 (Kd.R (Kd.int .i64) 3 W' wc.heap.size (fun _ => True) (.slice Ag ids.length cg) ids)) (fun v _ => ids.length - (intOf v).toNat)
   case atStart => exact ⟨0, rfl, ⟨Nat.zero_le _⟩, T, HW, HG⟩
   case round =>
    clear T HW HG
    obtain ⟨j, rfl, HJ2, T, HW, HG⟩ := hrel
    by_cases q2 : j < ids.length
    ·
     have g1 : decide ((j : Int) < (ids.length : Int)) = true := decide_eq_true (by omega)
     have g2 : decide (j < ids.length) = true := decide_eq_true q2
     have s0 : ((0 : Int) ≤ (j : Int)) = True := eq_true (by omega)
     have s1 : ((j : Int) < (ids.length : Int)) = True := eq_true (by omega)
     have s2 : (j < ids.length) = True := eq_true q2
     have hwj : wrap64 ((j : Int) + 1) = (j : Int) + 1 := by have := HLI.out; simp only [wrap64]; omega
     obtain ⟨x, hx⟩ : ∃ x, ids[j]? = some x := ⟨_, List.getElem?_eq_getElem q2⟩
     obtain ⟨qq, y, rfl, hy, hy0⟩ := HRI.out x (List.mem_of_getElem? hx)
     obtain ⟨gb, gcap, eg, -⟩ := Kd.R_form HG.out (by omega)
     obtain rfl : Ag = some ⟨gb, 0, none⟩ := by injection eg
     obtain ⟨wb, wcap, ew, -⟩ := Kd.R_form HW.out (by omega)
     obtain rfl : Aw = some ⟨wb, 0, none⟩ := by injection ew
     have hgc := (int_put HG.out hx).1
     have hwc := (int_put HW.out hx).1
     have hz := T.out.cells
     have HY := aM hy
     obtain ⟨rr, hrr⟩ : ∃ x_, y.refs = x_ := ⟨_, rfl⟩
     have HRR := aM hrr
     rw [hrr] at hy0
     have hlt : decide (rr < 1) = false := decide_eq_false (by omega)
     have HGC := aM hgc
     have HWC := aM hwc
     clear hx hy hy0 hrr eg ew
     go_upto_region 25 with (fail)
     clear hz hgc hwc
     replace T := aM (T.out.drew)
     replace HGC := aM (cell_dr HGC.out)
     replace HWC := aM (cell_dr HWC.out)
     replace HW := aM (Kd.R_drew HW.out)
     replace HG := aM (Kd.R_drew HG.out)
     refine start_ (n := 21) (S := fun w' => w'.cell? ⟨pb, 0, none⟩ = some (.pointer (some ⟨g, 0, none⟩)) ∧ w'.cell? ⟨gb, j, none⟩ = some (.int .i64 (qq : Int)) ∧ w'.cell? ⟨wb, j, none⟩ = some (.int .i64 (qq : Int))) (ds := []) #[false, false, false, false, false, false, false, false, false, false, false, false, false, false, false, false, false, false, false, false, false] (by kernel_rfl) rfl rfl ⟨T.out.cells.1, HGC.out, HWC.out⟩ (fun hHeld => ?_); refine with_tabW pfk25.tab25 pfk25.bits25 (fun HT_ HW_ => ?_)
     generalize wr.drew = w21 at T HGC HWC HW HG hHeld ⊢
     refine pure_ (i := 0) (N := some 84) (v := ?_) (a' := ?_) #[true, false, false, false, false, false, false, false, false, false, false, false, false, false, false, false, false, false, false, false, false] rfl rfl (any_of HT_.out (by kernel_rfl)) (fun _ _ _ h => h) (Or.inl ⟨by rfl, ?_⟩) ?_ ?_
     rotate_left; exact pI; rotate_left; exact pS
     refine pure_ (i := 1) (N := some 85) (v := ?_) (a' := ?_) #[true, true, false, false, false, false, false, false, false, false, false, false, false, false, false, false, false, false, false, false, false] rfl rfl (any_of HT_.out (by kernel_rfl)) (fun _ _ _ h => h) (Or.inl ⟨by rfl, ?_⟩) ?_ ?_
     rotate_left; exact pI; rotate_left; exact pS
     refine pure_ (i := 2) (N := some 86) (v := ?_) (a' := ?_) #[true, true, true, false, false, false, false, false, false, false, false, false, false, false, false, false, false, false, false, false, false] rfl rfl (any_of HT_.out (by kernel_rfl)) (fun _ _ _ h => h) (Or.inl ⟨by rfl, ?_⟩) ?_ ?_
     rotate_left; exact pI; rotate_left; exact pS
     refine pure_ (i := 4) (N := some 88) (v := ?_) (a' := ?_) #[true, true, true, false, true, false, false, false, false, false, false, false, false, false, false, false, false, false, false, false, false] rfl rfl (any_of HT_.out (by kernel_rfl)) (fun _ _ _ h => h) (Or.inl ⟨by rfl, ?_⟩) ?_ ?_
     rotate_left; exact pI; rotate_left; exact pS
     refine pure_ (i := 5) (N := some 89) (v := ?_) (a' := ?_) #[true, true, true, false, true, true, false, false, false, false, false, false, false, false, false, false, false, false, false, false, false] rfl rfl (any_of HT_.out (by kernel_rfl)) (fun _ _ _ h => h) (Or.inl ⟨by rfl, ?_⟩) ?_ ?_
     rotate_left; exact pI; rotate_left; exact pS
     refine pure_ (i := 6) (N := some 90) (v := ?_) (a' := ?_) #[true, true, true, false, true, true, true, false, false, false, false, false, false, false, false, false, false, false, false, false, false] rfl rfl (any_of HT_.out (by kernel_rfl)) (fun _ _ _ h => h) (Or.inl ⟨by rfl, ?_⟩) ?_ ?_
     rotate_left; exact pI; rotate_left; exact pS
     refine take_ (i := 3) (N := some 87) (v := ?_) (a' := ?_) #[true, true, true, true, true, true, true, false, false, false, false, false, false, false, false, false, false, false, false, false, false] rfl rfl (take_ofW HT_.out HW_.out (by kernel_rfl)) (fun _ _ _ h => h) (Or.inl ⟨by rfl, ?_⟩) hHeld ?_ ?_
     rotate_left
     ·
      rintro w' ⟨s0, s1, s2⟩
      go_simp
      with_reducible rfl
     rotate_left
     ·
      exact pS
     refine take_ (i := 7) (N := some 91) (v := ?_) (a' := ?_) #[true, true, true, true, true, true, true, true, false, false, false, false, false, false, false, false, false, false, false, false, false] rfl rfl (take_ofW HT_.out HW_.out (by kernel_rfl)) (fun _ _ _ h => h) (Or.inl ⟨by rfl, ?_⟩) hHeld ?_ ?_
     rotate_left
     ·
      rintro w' ⟨s0, s1, s2⟩
      go_simp
      with_reducible rfl
     rotate_left
     ·
      exact pS
     refine pure_ (i := 8) (N := some 92) (v := ?_) (a' := ?_) #[true, true, true, true, true, true, true, true, true, false, false, false, false, false, false, false, false, false, false, false, false] rfl rfl (any_of HT_.out (by kernel_rfl)) (fun _ _ _ h => h) (Or.inl ⟨by rfl, ?_⟩) ?_ ?_
     rotate_left; exact pI; rotate_left; exact pS
     refine pure_ (i := 9) (N := some 93) (v := ?_) (a' := ?_) #[true, true, true, true, true, true, true, true, true, true, false, false, false, false, false, false, false, false, false, false, false] rfl rfl (any_of HT_.out (by kernel_rfl)) (fun _ _ _ h => h) (Or.inl ⟨by rfl, ?_⟩) ?_ ?_
     rotate_left; exact pI; rotate_left; exact pS
     refine pure_ (i := 10) (N := some 94) (v := ?_) (a' := ?_) #[true, true, true, true, true, true, true, true, true, true, true, false, false, false, false, false, false, false, false, false, false] rfl rfl (any_of HT_.out (by kernel_rfl)) (fun _ _ _ h => h) (Or.inl ⟨by rfl, ?_⟩) ?_ ?_
     rotate_left; exact pI; rotate_left; exact pS
     refine pure_ (i := 11) (N := some 95) (v := ?_) (a' := ?_) #[true, true, true, true, true, true, true, true, true, true, true, true, false, false, false, false, false, false, false, false, false] rfl rfl (any_of HT_.out (by kernel_rfl)) (fun _ _ _ h => h) (Or.inl ⟨by rfl, ?_⟩) ?_ ?_
     rotate_left; exact pI; rotate_left; exact pS
     refine pure_ (i := 12) (N := some 96) (v := ?_) (a' := ?_) #[true, true, true, true, true, true, true, true, true, true, true, true, true, false, false, false, false, false, false, false, false] rfl rfl (any_of HT_.out (by kernel_rfl)) (fun _ _ _ h => h) (Or.inl ⟨by rfl, ?_⟩) ?_ ?_
     rotate_left; exact pI; rotate_left; exact pS
     refine pure_ (i := 14) (N := some 98) (v := ?_) (a' := ?_) #[true, true, true, true, true, true, true, true, true, true, true, true, true, false, true, false, false, false, false, false, false] rfl rfl (any_of HT_.out (by kernel_rfl)) (fun _ _ _ h => h) (Or.inl ⟨by rfl, ?_⟩) ?_ ?_
     rotate_left; exact pI; rotate_left; exact pS
     refine pure_ (i := 15) (N := some 99) (v := ?_) (a' := ?_) #[true, true, true, true, true, true, true, true, true, true, true, true, true, false, true, true, false, false, false, false, false] rfl rfl (any_of HT_.out (by kernel_rfl)) (fun _ _ _ h => h) (Or.inl ⟨by rfl, ?_⟩) ?_ ?_
     rotate_left; exact pI; rotate_left; exact pS
     refine pure_ (i := 16) (N := some 100) (v := ?_) (a' := ?_) #[true, true, true, true, true, true, true, true, true, true, true, true, true, false, true, true, true, false, false, false, false] rfl rfl (any_of HT_.out (by kernel_rfl)) (fun _ _ _ h => h) (Or.inl ⟨by rfl, ?_⟩) ?_ ?_
     rotate_left; exact pI; rotate_left; exact pS
     refine take_ (i := 13) (N := some 97) (v := ?_) (a' := ?_) #[true, true, true, true, true, true, true, true, true, true, true, true, true, true, true, true, true, false, false, false, false] rfl rfl (take_ofW HT_.out HW_.out (by kernel_rfl)) (fun _ _ _ h => h) (Or.inl ⟨by rfl, ?_⟩) hHeld ?_ ?_
     rotate_left
     ·
      rintro w' ⟨s0, s1, s2⟩
      go_simp
      with_reducible rfl
     rotate_left
     ·
      exact pS
     refine take_ (i := 17) (N := some 101) (v := ?_) (a' := ?_) #[true, true, true, true, true, true, true, true, true, true, true, true, true, true, true, true, true, true, false, false, false] rfl rfl (take_ofW HT_.out HW_.out (by kernel_rfl)) (fun _ _ _ h => h) (Or.inl ⟨by rfl, ?_⟩) hHeld ?_ ?_
     rotate_left
     ·
      rintro w' ⟨s0, s1, s2⟩
      go_simp
      with_reducible rfl
     rotate_left
     ·
      exact pS
     refine one_ (i := 18) (N := some 102) #[true, true, true, true, true, true, true, true, true, true, true, true, true, true, true, true, true, true, true, false, false] rfl rfl (one_of HT_.out (by kernel_rfl)) (by decide) (fun K hK => ?_)
     refine goes_ Try.func26 (by kernel_rfl) rfl #[.pointer (some ⟨g, 0, none⟩), .int .i64 (qq : Int)] (by rfl) rfl rfl (by simp only [List.map_toArray, List.map_cons, List.map_nil]; rfl) ?_
     with_reducible refine (poolRefsIs.calls g s L3 f3 qq y HY.out HRR.out _ T.out.P).mono ?_
     rintro e wz ⟨rfl, rfl⟩
     refine ⟨_, rfl, ?_⟩
     refine hK.out _ _ ⟨T.out.cells.1, HGC.out, HWC.out⟩ (fun hHeld => ?_)
     clear hK K
     refine norm_ (a' := ?_) ?_ ?_
     rotate_left
     ·
      show Act.put _ (some 102) _ = _
      simp only [Act.put, List.setIfInBounds_toArray, List.set_cons_zero, List.set_cons_succ, i64_w, i32_w, IntKind.wrap_u32]
      rfl
     refine pure_ (i := 19) (N := some 103) (v := ?_) (a' := ?_) #[true, true, true, true, true, true, true, true, true, true, true, true, true, true, true, true, true, true, true, true, false] rfl rfl (any_of HT_.out (by kernel_rfl)) (fun _ _ _ h => h) (Or.inl ⟨by rfl, ?_⟩) ?_ ?_
     rotate_left; exact pI; rotate_left; exact pS
     refine pure_ (i := 20) (N := some 104) (v := ?_) (a' := ?_) #[true, true, true, true, true, true, true, true, true, true, true, true, true, true, true, true, true, true, true, true, true] rfl rfl (any_of HT_.out (by kernel_rfl)) (fun _ _ _ h => h) (Or.inl ⟨by rfl, ?_⟩) ?_ ?_
     rotate_left; exact pI; rotate_left; exact pS
     refine done_ (done_of HT_.out (by kernel_rfl)) ?_
     go_wp2
     rw [hwj]
     exact ⟨⟨j + 1, rfl, ⟨q2⟩, T, HW, HG⟩, by simp only [intOf]; omega⟩
    ·
     have g1 : decide ((j : Int) < (ids.length : Int)) = false := decide_eq_false (by omega)
     have g2 : decide (j < ids.length) = false := decide_eq_false q2
     clear HW HG HJ2 q2
     have HUL : Aside0 (u.rows.length = n) := ⟨HI3.out.rows u (List.mem_of_getElem? HU3.out)⟩
     go_wp2
     go_loopw [107] (fun v W' => ∃ (r : Nat), v = .int .i64 r ∧ Aside0 (r ≤ n) ∧ Aside0 (PlayO w W' ownc pb g s L3 f3 v0 v1 l0 l1 v0 v1 (.slice (some ⟨ab, 0, none⟩) nT ac) rv (.slice (some ⟨ab, 0, none⟩) nT ac) TA rv D TS3 (.slice none 0 0) [] [])) (fun v _ => n - (intOf v).toNat)
     case atStart => exact ⟨0, rfl, ⟨Nat.zero_le _⟩, T⟩
     case round =>
      clear T
      obtain ⟨r, rfl, HJ3, T⟩ := hrel
      by_cases q3 : r < n
      ·
       have h1 : decide ((r : Int) < (n : Int)) = true := decide_eq_true (by omega)
       have h2 : decide (r < n) = true := decide_eq_true q3
       have hwr : wrap64 ((r : Int) + 1) = (r : Int) + 1 := by have := HN.out.2; simp only [wrap64]; omega
       obtain ⟨ll, hll⟩ : ∃ ll, u.rows[r]? = some ll := ⟨_, List.getElem?_eq_getElem (by rw [HUL.out]; exact q3)⟩
       have HLL := aM hll
       have HLL2 : Aside0 (ll.length ≤ 1000) := ⟨by have h_ := flat_mem u.rows r ll hll; rw [HIDU.out] at h_; exact Nat.le_trans h_ HLI.out⟩
       have HMEM : Aside0 (∀ id ∈ ll, id ∈ ids) := ⟨fun id hid => by rw [← HIDU.out]; exact List.mem_flatten.mpr ⟨ll, List.mem_of_getElem? hll, hid⟩⟩
       clear hll
       go_upto_region 32 with (go_at_call 36; (refine (blockLen.calls (T.out.tabOf HU3.out HUB.out) r ll HLL.out).mono ?_); rintro e wl ⟨rfl, rfl⟩; skip)
       go_wp2
       go_loopw [113] (fun v W' => ∃ (p : Nat), v = .int .i64 p ∧ Aside0 (p ≤ ll.length) ∧ Aside0 (PlayO w W' ownc pb g s L3 f3 v0 v1 l0 l1 v0 v1 (.slice (some ⟨ab, 0, none⟩) nT ac) rv (.slice (some ⟨ab, 0, none⟩) nT ac) TA rv D TS3 (.slice none 0 0) [] [])) (fun v _ => ll.length - (intOf v).toNat)
       case atStart => exact ⟨0, rfl, ⟨Nat.zero_le _⟩, T⟩
       case round =>
        clear T
        obtain ⟨p, rfl, HJ4, T⟩ := hrel
        by_cases q4 : p < ll.length
        ·
         have k1 : decide ((p : Int) < (ll.length : Int)) = true := decide_eq_true (by omega)
         have k2 : decide (p < ll.length) = true := decide_eq_true q4
         have hwp : wrap64 ((p : Int) + 1) = (p : Int) + 1 := by have := HLL2.out; simp only [wrap64]; omega
         obtain ⟨x, hx⟩ : ∃ x, ll[p]? = some x := ⟨_, List.getElem?_eq_getElem q4⟩
         obtain ⟨qq, y, rfl, hy, hy0⟩ := HRI.out x (HMEM.out x (List.mem_of_getElem? hx))
         obtain ⟨pg_, hpg, -, -⟩ := T.out.P.hp y (List.mem_of_getElem? hy) (by omega)
         have HX := aM hx
         have HY := aM hy
         have HY0 : Aside0 (¬ y.refs = 0) := ⟨by omega⟩
         have HPG := aM hpg
         clear hx hy hy0 hpg
         go_wp2_with (go_at_call 37; (refine (blockAt.calls (T.out.tabOf HU3.out HUB.out) T.out.P r ll HLL.out p qq HX.out y pg_ HY.out HY0.out HPG.out).mono ?_); rintro e wt ⟨rfl, hb⟩; replace T := aM (T.out.below hb); clear hb)
         rw [hwp]
         exact ⟨⟨p + 1, rfl, ⟨q4⟩, T⟩, by simp only [intOf]; omega⟩
        ·
         have k1 : decide ((p : Int) < (ll.length : Int)) = false := decide_eq_false (by omega)
         have k2 : decide (p < ll.length) = false := decide_eq_false q4
         go_wp2
         rw [hwr]
         exact ⟨⟨r + 1, rfl, ⟨q3⟩, T⟩, by simp only [intOf]; omega⟩
      ·
       have h1 : decide ((r : Int) < (n : Int)) = false := decide_eq_false (by omega)
       have h2 : decide (r < n) = false := decide_eq_false q3
       have HB := aM T.out.HB
       clear T
       go_wp2_with (go_at_call 28; (refine (blockAwake.calls k HK.out _).mono ?_); rintro e wa ⟨rfl, hb⟩; replace HB := aM (below_step HB.out hb); clear hb)
       go_ret
       exact ⟨rfl, HB.out⟩

def credenzalaw11_BlockForks.f (k : Nat) (a0 a1 : Int) (l2 : List S57) : Option Bool := if madeAll k = true then some true else none
theorem credenzalaw11_BlockForks.mono : ∀ a0 a1 l2 k, LeO (credenzalaw11_BlockForks.f k a0 a1 l2) (credenzalaw11_BlockForks.f (k + 1) a0 a1 l2) := fun _ _ _ k => allLe k
theorem credenzalaw11_BlockForks.calls (k : Nat) (a0 a1 : Int) (A2 : Option Addr) (c2 : Nat) (l2 : List S57) (r : Bool) (w : World) (hr2 : Kd.C k57 w A2 l2.length l2) (hc2 : l2.length ≤ c2) (h : credenzalaw11_BlockForks.f k a0 a1 l2 = some r) :
  Calls Try.prog 7 #[.int .i64 a0, .int .i64 a1, .slice A2 l2.length c2] w fun e w' => e = .returned (.bool r) ∧ Below w.heap.size w w' := by
 obtain ⟨h1, rfl⟩ := allOf h
 exact blockForks.calls k h1 a0 a1 A2 c2 l2 w hr2 hc2
-- calls: credenzalaw11_awake credenzalaw11_play_step


/-- THE ONE PURE STATEMENT of credenzalaw11_BlockForks: yours. -/
def credenzalaw11_BlockForks.Pure : Prop := ∀ (a0 : Int) (a1 : Int) (l2 : List (S57)), (Lit.int .i64 a0).wf = true → (Lit.int .i64 a1).wf = true → l2.length ≤ maxLen → (∀ z ∈ l2, ((Lit.int .i64 z.f0).wf = true ∧ (Lit.int .i64 z.f1).wf = true ∧ (Lit.int .i64 z.f2).wf = true ∧ (Lit.int .i64 z.f3).wf = true)) → ∃ k, credenzalaw11_BlockForks.f k a0 a1 l2 = some true
theorem credenzalaw11_BlockForks.walk (P : credenzalaw11_BlockForks.Pure) (a0 : Int) (a1 : Int) (a2 : Option Addr) (c2 : Nat) (l2 : List (S57)) (w : World) (w0 : (Lit.int .i64 a0).wf = true) (w1 : (Lit.int .i64 a1).wf = true) (hr2 : Kd.C k57 w a2 l2.length l2) (hc2 : l2.length ≤ c2) (hm2 : l2.length ≤ maxLen) (hq2 : ∀ z ∈ l2, ((Lit.int .i64 z.f0).wf = true ∧ (Lit.int .i64 z.f1).wf = true ∧ (Lit.int .i64 z.f2).wf = true ∧ (Lit.int .i64 z.f3).wf = true)) :
  Calls Try.prog 7 #[.int .i64 a0, .int .i64 a1, .slice a2 l2.length c2] w fun e w' => e = .returned (.bool true) ∧ Below w.heap.size w w' := by
 obtain ⟨k, h⟩ := P a0 a1 l2 w0 w1 hm2 hq2
 refine (credenzalaw11_BlockForks.calls k a0 a1 _ _ l2 true w hr2 hc2 h).mono ?_
 rintro e w' ⟨rfl, hd⟩
 exact ⟨rfl, hd⟩

end Go.Proofs.Ytoofkemhikigoaa.PBlockForks
