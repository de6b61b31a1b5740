-- Written by a program of this session (wip/tools/mkprint.py over the kit's print).
import Derived.Test.YtoofkemhikigoaaPBlockPlaysx0
import Derived.Test.YtoofkemhikigoaaPBlockPlaysx6
import Derived.Test.YtoofkemhikigoaaPBlockPlaysx7
import Derived.Test.YtoofkemhikigoaaPBlockPlaysx9
import Derived.Test.YtoofkemhikigoaaPBlockPlaysx10
import Derived.Test.YtoofkemhikigoaaPBlockPlaysx11
namespace Go.Proofs.Ytoofkemhikigoaa.PBlockPlays
open Go.RowKit Go.Proofs.YtoofkemhikigoaaW.PrintWords Go.Proofs.YtoofkemhikigoaaW.PrintLast Go.Proofs.YtoofkemhikigoaaW.PrintMore
attribute [local go_sem] max2_int min2_int max_two min_two max_three min_three max_four min_four   -- for this text's walks alone
set_option linter.unusedVariables false
set_option linter.unusedSimpArgs false

-- NOT PRINTED: function 15 (pool_Pool_Free)

/-! ### credenzalaw11_play_is: function 39 -/
def pis14.T14 : Bool × List (List Nat × List Nat) := (true, [([], []), ([0], [0]), ([], []), ([2], [2]), ([1, 3], [1, 3]), ([4], [4]), ([5], [5]), ([6, 5, 5], [5, 6]), ([5], [5]), ([8, 5], [5, 8]), ([9, 5], [5, 9]), ([10, 5], [5, 10]), ([5], [5]), ([11, 12, 5], [5, 11, 12]), ([13, 5], [5, 13]), ([14, 5], [5, 14]), ([7, 15, 5], [5, 7, 15]), ([5, 16], [5, 16]), ([17, 7], [17]), ([18], [18]), ([19, 18, 18], [18, 19]), ([20, 18], [18, 20]), ([18, 21], [18, 21]), ([22, 20], [22]), ([23], [23]), ([23], [23]), ([25, 23, 23], [23, 25]), ([24, 26, 26, 23], [23, 24, 26]), ([27, 23], [23, 27]), ([23, 28], [23, 28])])
def pis14.B14 : List Nat := [0, 1, 0, 4, 15, 31, 63, 127, 63, 319, 831, 1855, 63, 7999, 16191, 32575, 65535, 131071, 262143, 524287, 1048575, 2097151, 4194303, 8388607, 16777215, 16777215, 50331647, 134217727, 268435455, 536870911]
theorem pis14.tab14 : rtab .any (opsOf Try.f39 14) = pis14.T14 := by kernel_rfl
theorem pis14.bits14 : waitsOk pis14.T14.2 pis14.B14 = true := by kernel_rfl
def pis30.T30 : Bool × List (List Nat × List Nat) := (true, [([], []), ([0], [0]), ([1], [1]), ([2], [2]), ([3], [3]), ([], []), ([5], [5]), ([6], [6]), ([7], [7]), ([8, 4], [8]), ([4, 9], [4, 9]), ([10, 9, 0, 1, 2, 3, 4, 5, 6, 7, 8, 9, 10], [10])])
def pis30.B30 : List Nat := [0, 1, 3, 7, 15, 0, 32, 96, 224, 511, 1023, 2047]
theorem pis30.tab30 : rtab .any (opsOf Try.f39 30) = pis30.T30 := by kernel_rfl
theorem pis30.bits30 : waitsOk pis30.T30.2 pis30.B30 = true := by kernel_rfl
section
variable {w0 W W' w : World} {own : Nat → Nat} {pb g s : Nat} {L L' : List Slot} {f f' : Int} {v0 v1 u0 u1 : Value} {l0 l1 m0 m1 : List Int} {x0 x1 ca cr av av1 : Value} {TA : List Nat} {rv rv1 : Value} {D : List (List (List Int))} {TS : List Tab} {cv cv1 : Value} {cl cl1 : List (List Int)} {E : List (Nat × Array Value)}
theorem refFree.calls {B : Nat} {W : World} {v0 v1 : Value} {L : List Slot} {f : Int} (hX : XAt B W v0 v1 (RR L) (MM L)) (hf : credenzaref10_Pool_Free.f 200 (RR L) (MM L) = some f) : Calls Try.prog 16 #[.agg #[v0, v1]] W fun e w' => e = .returned (.int .i64 f) ∧ Below W.heap.size W w' := by
 obtain ⟨A0, c0, rfl⟩ := Kd.R_slice hX.r0
 obtain ⟨A1, c1, rfl⟩ := Kd.R_slice hX.r1
 exact credenzaref10_Pool_Free.calls 200 A0 c0 (RR L) A1 c1 (MM L) f _ (Kd.R_reads' hX.r0).2.2 (Kd.R_reads' hX.r0).2.1 (Kd.R_reads' hX.r1).2.2 (Kd.R_reads' hX.r1).2.1 hf
set_option maxHeartbeats 8000000 in
set_option maxRecDepth 100000 in
theorem is.calls {m n a : Nat} (h : PlayAt w0 w pb g s L f TS) (hI : Inv L f TS m n a) (ha : a ≤ 100) (hm : m ≤ 100) (hn : n ≤ 16) :
  Calls Try.prog 39 #[.pointer (some ⟨pb, 0, none⟩)] w fun e w' => e = .returned (.bool true) ∧ PlayAt w0 w' pb g s L f TS := by
 obtain ⟨own0, v0, v1, av, rv, h⟩ := h
 obtain ⟨Aa, ac, rfl⟩ := Kd.R_slice h.A
 obtain ⟨Ar, rc, rfl⟩ := Kd.R_slice h.R
 obtain ⟨Ap, cp, rfl⟩ := Kd.R_slice h.X.r0
 obtain ⟨Aq, cq, rfl⟩ := Kd.R_slice h.X.r1
 obtain ⟨nT, hnT⟩ : ∃ n, TS.length = n := ⟨_, rfl⟩
 rw [show (List.map (fun b => [Value.pointer (some ⟨b, 0, none⟩)]) (TS.map Tab.tb)).length = nT by rw [List.length_map, List.length_map]; exact hnT, show (TS.map Tab.rows).length = nT by rw [List.length_map]; exact hnT, RR_len, hI.len] at h
 have hpos := hI.pos
 obtain ⟨t0, ht0⟩ : ∃ t0, TS[0]? = some t0 := ⟨_, List.getElem?_eq_getElem hpos⟩
 obtain ⟨ab, e1, -, -⟩ := h.ptr rfl (show (TS.map Tab.tb)[0]? = some t0.tb by rw [List.getElem?_map, ht0]; rfl)
 obtain ⟨rb, A_, c_, e2, -, -, -⟩ := h.take rfl (show (TS.map Tab.rows)[0]? = some t0.rows by rw [List.getElem?_map, ht0]; rfl)
 subst e1 e2
 obtain ⟨own, hown, hT⟩ : ∃ own, (∀ k, w.heap.size ≤ k → own k = nT + 2) ∧ PlayO w0 w own pb g s L f (.slice Ap m cp) (.slice Aq (MM L).length cq) (RR L) (MM L) (.slice Ap m cp) (.slice Aq (MM L).length cq) (.slice (some ⟨ab, 0, none⟩) nT ac) (.slice (some ⟨rb, 0, none⟩) nT rc) (.slice (some ⟨ab, 0, none⟩) nT ac) (TS.map Tab.tb) (.slice (some ⟨rb, 0, none⟩) nT rc) (TS.map Tab.rows) TS (.slice none 0 0) [] [] := ⟨_, fun k hk => (if_neg (by omega)).trans (by rw [hnT]), h.relabel (TS.length + 2)⟩
 have T := aM hT
 have HOWN := aM hown
 have HNT := aM hnT
 have HI := aM hI
 have HA := aM ha
 have HM := aM hm
 have HN := aM hn
 have HT6 := aM hI.six
 have HFR : Aside0 (credenzaref10_Pool_Free.f 200 (RR L) (MM L) = some f) := ⟨by rw [free_ref L (by rw [hI.len]; omega)]; have h1 := hI.free; have h2 := hI.len; congr 1; omega⟩
 have HTOP := aM (hI.top ha)
 have hu63 := Try.underlying63
 have hu30 := Try.underlying30
 have hz := T.out.cells
 clear h hI ha hm hn hT hown hpos t0 ht0 A_ c_ hnT own0
 go_enter Try.func39, Try.ntmps39
 go_upto_region 2 with ((with_reducible refine gate_dst (N := 20) rfl ?_); refine Kd.R_make (Kd.int .i64) (w0 := w0) w0.heap.size 3 rfl (N := 20) rfl 28 (.tmp 19) (.tmp 19) rfl (m : Int) rfl rfl Try.underlying28 (.int .i64 0) 8 info3 rfl (by decide) (by decide) (0 : Int) (okp := fun _ => False) rfl (fun _ hk => hk.elim) (ok := fun k_ => w.heap.size ≤ k_) (Nat.le_refl _) (by omega) ?hl T.out.HB (below_size T.out.HB) ?_; (case hl => have := HM.out; omega); intro rf w1 ho hb hg hat; rw [Int.toNat_natCast, ← cntL_nil] at ho; obtain ⟨Af, cf, rfl⟩ := Kd.R_slice ho; rw [cntL_len] at ho ⊢; have HRO : Aside0 (∀ k, Value.ownBlock (.slice Af m cf) = some k → own k = nT + 2) := ⟨fun k e => HOWN.out k (ho.1 k e)⟩; have RFF := aM (Kd.R_tight rfl ho); replace T := aM (T.out.scr (fun k cs_ t_ hc_ _ => hg.block k (blk_lt hc_) (by simp)) hb); have HSZ := aM hg.size; clear ho hb hg hat hz; have hz := T.out.cells)
 go_wp2
 clear hz
 go_loopw [26] (fun i W' => ∃ (i_ : Nat), i = .int .i64 i_ ∧ Aside0 (i_ ≤ nT) ∧ Aside0 (PlayO w0 W' own pb g s L f (.slice Ap m cp) (.slice Aq (MM L).length cq) (RR L) (MM L) (.slice Ap m cp) (.slice Aq (MM L).length cq) (.slice (some ⟨ab, 0, none⟩) nT ac) (.slice (some ⟨rb, 0, none⟩) nT rc) (.slice (some ⟨ab, 0, none⟩) nT ac) (TS.map Tab.tb) (.slice (some ⟨rb, 0, none⟩) nT rc) (TS.map Tab.rows) TS (.slice none 0 0) [] []) ∧ Aside0 (Kd.R (Kd.int .i64) 3 W' w0.heap.size (fun k => some k = Value.ownBlock (Value.slice Af m cf)) (Value.slice Af m cf) (cntL m (allIds (TS.take i_)))) ∧ Aside0 (w.heap.size ≤ W'.heap.size)) (fun i _ => nT - (intOf i).toNat)
 case atStart => exact ⟨0, rfl, ⟨Nat.zero_le _⟩, T, RFF, HSZ⟩
 case round =>
  clear T RFF HSZ
  obtain ⟨i, rfl, HIN, T, RFF, HSZ⟩ := hrel
  by_cases q : i < nT
  ·
   have d1 : decide ((i : Int) < (nT : Int)) = true := decide_eq_true (by omega)
   have d2 : decide (i < nT) = true := decide_eq_true q
   have p0 : ((0 : Int) ≤ (i : Int)) = True := eq_true (by omega)
   have p1 : ((i : Int) < (nT : Int)) = True := eq_true (by omega)
   have p2 : (i < nT) = True := eq_true q
   have hw : wrap64 ((i : Int) + 1) = (i : Int) + 1 := by have := HT6.out; have := HNT.out; simp only [wrap64]; omega
   obtain ⟨t, ht⟩ : ∃ t, TS[i]? = some t := ⟨_, List.getElem?_eq_getElem (by rw [HNT.out]; exact q)⟩
   have HTI := aM ht
   have htm := List.mem_of_getElem? ht
   have HFL : Aside0 (t.rows.flatten.length ≤ 100) := ⟨Nat.le_trans (HI.out.sz t htm) HA.out⟩
   have HRN : Aside0 (t.rows.length ≤ 16) := ⟨by rw [HI.out.rows t htm]; exact HN.out⟩
   have HIDS := aM (HI.out.ids t htm)
   have hca := T.out.cellA rfl (show (TS.map Tab.tb)[i]? = some t.tb by rw [List.getElem?_map, ht]; rfl)
   obtain ⟨rb2, Ad, cd, er, -, hcr, hT⟩ := T.out.take rfl (show (TS.map Tab.rows)[i]? = some t.rows by rw [List.getElem?_map, ht]; rfl)
   obtain rfl : rb = rb2 := by injection er with er; injection er
   have HCR := aM hcr
   replace T := aM hT
   have hz := T.out.cells
   clear ht htm hT er
   go_upto_region 6 with (fail)
   go_upto_region 7 with (fail)
   clear hca hcr hz
   obtain ⟨db, cs, hdb⟩ : ∃ (db : Nat) (cs : Array Value), (0 < t.rows.length → Ad = some ⟨db, 0, none⟩ ∧ wr.heap[db]? = some (.cells cs 28 (0, 0))) := by
    by_cases h0 : 0 < t.rows.length
    ·
     obtain ⟨db, cs, e, hb⟩ := T.out.curBlk rfl h0
     exact ⟨db, cs, fun _ => ⟨e, hb⟩⟩
    ·
     exact ⟨0, #[], fun h1 => absurd h1 h0⟩
   have HDB : Aside0 (0 < t.rows.length → Ad = some ⟨db, 0, none⟩) := ⟨fun h1 => (hdb h1).1⟩
   have HBK : Aside0 (0 < t.rows.length → wr.heap[db]? = some (.cells cs 28 (0, 0))) := ⟨fun h1 => (hdb h1).2⟩
   clear hdb
   have HO : Aside0 (Kd.R (Kd.int .i64) 3 wr w0.heap.size (fun k => own k = nT + 2 ∧ some k ≠ Value.ownBlock (Value.slice Af m cf)) (.slice none 0 0) ([])) := ⟨Kd.R_nil _ _ _ _ _⟩
   go_wp2
   go_loopw [6, 39] (fun v i_ W' => ∃ (r : Nat), i_ = .int .i64 r ∧ Aside0 (r ≤ t.rows.length) ∧ Aside0 (PlayO w0 W' own pb g s L f (.slice Ap m cp) (.slice Aq (MM L).length cq) (RR L) (MM L) (.slice Ap m cp) (.slice Aq (MM L).length cq) (.slice (some ⟨ab, 0, none⟩) nT ac) (.slice (some ⟨rb, 0, none⟩) nT rc) (.slice (some ⟨ab, 0, none⟩) nT ac) (TS.map Tab.tb) (.slice (some ⟨rb, 0, none⟩) nT rc) (TS.map Tab.rows) TS (.slice Ad t.rows.length cd) t.rows []) ∧ Aside0 (Kd.R (Kd.int .i64) 3 W' w0.heap.size (fun k => some k = Value.ownBlock (Value.slice Af m cf)) (Value.slice Af m cf) (cntL m (allIds (TS.take i)))) ∧ Aside0 (w.heap.size ≤ W'.heap.size) ∧ Aside0 (Kd.R (Kd.int .i64) 3 W' w0.heap.size (fun k => own k = nT + 2 ∧ some k ≠ Value.ownBlock (Value.slice Af m cf)) v ((t.rows.take r).flatten)) ∧ Aside0 (0 < t.rows.length → W'.heap[db]? = some (.cells cs 28 (0, 0))) ∧ Aside0 (W'.cell? ⟨rb, i, none⟩ = some (.slice Ad t.rows.length cd))) (fun _ i_ _ => t.rows.length - (intOf i_).toNat)
   case atStart => exact ⟨0, rfl, ⟨Nat.zero_le _⟩, T, RFF, HSZ, HO, HBK, HCR⟩
   case round =>
    clear T RFF HSZ HO HBK HCR
    obtain ⟨r, rfl, HJ, T, RFF, HSZ, HO, HBK, HCR⟩ := hrel
    by_cases q2 : r < t.rows.length
    ·
     have e1 : decide ((r : Int) < (t.rows.length : Int)) = true := decide_eq_true (by omega)
     have e2 : decide (r < t.rows.length) = true := decide_eq_true q2
     have r0 : ((0 : Int) ≤ (r : Int)) = True := eq_true (by omega)
     have r1 : ((r : Int) < (t.rows.length : Int)) = True := eq_true (by omega)
     have r2 : (r < t.rows.length) = True := eq_true q2
     have hwr : wrap64 ((r : Int) + 1) = (r : Int) + 1 := by have := HRN.out; simp only [wrap64]; omega
     have hpos : 0 < t.rows.length := Nat.lt_of_le_of_lt (Nat.zero_le _) q2
     obtain ⟨l, hl⟩ : ∃ l, t.rows[r]? = some l := ⟨_, List.getElem?_eq_getElem q2⟩
     have hAd := HDB.out hpos
     subst hAd
     replace HBK := aM (HBK.out hpos)
     obtain ⟨A1, c1, hcs, hRl⟩ := T.out.rowAt rfl hl HBK.out
     have hcell := (blk_cell HBK.out r).trans hcs
     have HC := aM (Kd.R_reads' hRl).2.2
     have HLJ := aM hl
     have HFT := aM (flat_take hl)
     have HLL : Aside0 ((t.rows.take r).flatten.length + l.length ≤ 100) := ⟨by have h_ := flat_le t.rows (r + 1); rw [flat_take hl, List.length_append] at h_; exact Nat.le_trans h_ HFL.out⟩
     have HCB : Aside0 (HBK.out = HBK.out) := ⟨rfl⟩
     obtain ⟨acc, hacc⟩ : ∃ acc, (t.rows.take r).flatten = acc := ⟨_, rfl⟩
     rw [hacc] at HO HFT HLL
     clear hl hcs hRl hacc HCB
     go_upto_region 12 with (first | (go_at_call 36; (refine (blockLen.calls (T.out.ht i t HTI.out) r l HLJ.out).mono ?_); rintro e w11 ⟨rfl, rfl⟩; skip) | ((with_reducible refine gate_builtin (b := .append) (xs := #[.tmp 50, .tmp 51]) rfl ?_); at_builtin; refine Kd.R_append_rows (Kd.int .i64) (w0 := w0) w0.heap.size rfl (.tmp 50) (.tmp 51) 28 3 (.int .i64 0) 8 rfl Try.underlying28 info3 rfl (by decide) (by omega) u6 acc l _ _ _ (fun k_ => own k_ = nT + 2 ∧ some k_ ≠ Value.ownBlock (Value.slice Af m cf)) (fun _ => False) rfl rfl ?aO ?aR (fun _ _ h => h) (fun _ h => h.elim) ?aF ?aB ?aS ?aL ?_; (case aR => exact HC.out); (case aB => exact T.out.HB); (case aF => exact (fun k_ hk_ => ⟨HOWN.out k_ (Nat.le_trans HSZ.out hk_), fun e_ => by have := Kd.R_lt RFF.out k_ e_.symm; omega⟩)); (case aO => exact HO.out); (case aS => exact (below_size T.out.HB)); (case aL => have := HLL.out; omega); intro v191 w12 ho hb hg hat; obtain ⟨cs70, hb70⟩ := Kd.R_typed T.out.R rb rfl; replace HCR := aM ((World.cell?_of_block (a := ⟨rb, i, none⟩) (hg.block rb (blk_lt hb70) (Kd.R_ne HO.out hb70 (by decide)))).trans HCR.out); clear hb70; replace RFF := aM (Kd.R_grown RFF.out hg (fun k_ hk_ e_ => (HO.out.1 k_ e_.symm).2 hk_)); replace HBK := aM (blk_grown HBK.out hg (Kd.R_ne HO.out HBK.out (by decide))); replace T := aM (T.out.grow3 HO.out (fun k_ hk_ => by rw [HNT.out]; exact hk_.1) hg hb); replace HSZ := aM (Nat.le_trans HSZ.out hg.size); have HO1 := aM ho; clear ho hb hg hat HO))
     clear hcell
     have HCR2 := HCR
     go_wp2
     rw [hwr]
     exact ⟨⟨r + 1, rfl, ⟨q2⟩, T, RFF, HSZ, ⟨by rw [HFT.out]; exact HO1.out⟩, ⟨fun _ => HBK.out⟩, HCR⟩, by simp only [intOf]; omega⟩
    ·
     have e1 : decide ((r : Int) < (t.rows.length : Int)) = false := decide_eq_false (by omega)
     have e2 : decide (r < t.rows.length) = false := decide_eq_false q2
     obtain rfl : r = t.rows.length := by have := HJ.out; omega
     obtain ⟨ids, hids⟩ : ∃ ids, t.rows.flatten = ids := ⟨_, rfl⟩
     have HAL : Aside0 (allIds (TS.take (i + 1)) = allIds (TS.take i) ++ ids) := ⟨by rw [allIds_take HTI.out, hids]⟩
     rw [List.take_length, hids] at HO
     rw [hids] at HIDS HFL
     have HID2 := aM hids
     clear hids
     obtain ⟨Aw, cw, ew⟩ := Kd.R_slice HO.out
     subst ew
     clear HBK HDB
     go_upto_region 14 with (go_at_call 32; (refine (blockSlots.calls (T.out.ht i t HTI.out) (by rw [HID2.out]; have := HFL.out; omega)).mono ?_); rintro e w14 ⟨vg, rfl, hr, hb⟩; rw [HID2.out] at hr; obtain ⟨Ag, cg, rfl⟩ := Kd.R_slice hr; have HG : Aside0 (Kd.R (Kd.int .i64) 3 w14 w0.heap.size (fun k => some k ≠ Value.ownBlock (Value.slice Af m cf)) (.slice Ag ids.length cg) (ids)) := ⟨Kd.R_lower (Kd.R_mono (Kd.R_bound hr) (fun k_ hk_ e_ => by have := Kd.R_lt RFF.out k_ e_.symm; have := hk_.2.1; omega)) (below_size T.out.HB)⟩; replace T := aM (T.out.below hb); replace RFF := aM (Kd.R_below RFF.out hb); replace HO := aM (Kd.R_below HO.out hb); replace HCR := aM (cell_below hb HCR.out); replace HSZ := aM (Nat.le_trans HSZ.out hb.size); clear hr hb)
     replace T := aM (T.out.drew)
     replace HCR := aM (cell_dr HCR.out)
     replace RFF := aM (Kd.R_drew RFF.out)
     replace HO := aM (Kd.R_drew HO.out)
     replace HG := aM (Kd.R_drew HG.out)
     replace HSZ := aM (Nat.le_trans HSZ.out (below_drew1 (Below.refl w14.heap.size w14)).size)
     refine start_ (n := 30) (S := fun w' => w'.cell? ⟨pb, 4, none⟩ = some (.slice (some ⟨rb, 0, none⟩) nT rc) ∧ w'.cell? ⟨rb, i, none⟩ = some (.slice Ad t.rows.length cd)) (ds := []) #[false, false, false, false, false, false, false, false, false, false, false, false, false, false, false, false, false, false, false, false, false, false, false, false, false, false, false, false, false, false] (by kernel_rfl) rfl rfl ⟨T.out.cells.2.2.2.2.1, HCR.out⟩ (fun hHeld => ?_); refine with_tabW pis14.tab14 pis14.bits14 (fun HT_ HW_ => ?_)
     generalize w14.drew = w15 at T HCR RFF HO HG HSZ hHeld ⊢
     refine pure_ (i := 0) (N := some 56) (v := ?_) (a' := ?_) #[true, false, false, false, false, false, false, false, false, false, false, false, false, false, false, false, false, false, false, false, false, false, false, false, false, false, false, false, false, false] rfl rfl (any_of HT_.out (by kernel_rfl)) (fun _ _ _ h => h) (Or.inl ⟨by rfl, ?_⟩) ?_ ?_
     rotate_left; exact pI; rotate_left; exact pS
     refine pure_ (i := 1) (N := some 57) (v := ?_) (a' := ?_) #[true, true, false, false, false, false, false, false, false, false, false, false, false, false, false, false, false, false, false, false, false, false, false, false, false, false, false, false, false, false] rfl rfl (any_of HT_.out (by kernel_rfl)) (fun _ _ _ h => h) (Or.inl ⟨by rfl, ?_⟩) ?_ ?_
     rotate_left; exact pI; rotate_left; exact pS
     refine pure_ (i := 2) (N := some 58) (v := ?_) (a' := ?_) #[true, true, true, false, false, false, false, false, false, false, false, false, false, false, false, false, false, false, false, false, false, false, false, false, false, false, false, false, false, false] rfl rfl (any_of HT_.out (by kernel_rfl)) (fun _ _ _ h => h) (Or.inl ⟨by rfl, ?_⟩) ?_ ?_
     rotate_left; exact pI; rotate_left; exact pS
     refine pure_ (i := 3) (N := some 59) (v := ?_) (a' := ?_) #[true, true, true, true, false, false, false, false, false, false, false, false, false, false, false, false, false, false, false, false, false, false, false, false, false, false, false, false, false, false] rfl rfl (any_of HT_.out (by kernel_rfl)) (fun _ _ _ h => h) (Or.inl ⟨by rfl, ?_⟩) ?_ ?_
     rotate_left; exact pI; rotate_left; exact pS
     refine pure_ (i := 4) (N := some 60) (v := ?_) (a' := ?_) #[true, true, true, true, true, false, false, false, false, false, false, false, false, false, false, false, false, false, false, false, false, false, false, false, false, false, false, false, false, false] rfl rfl (any_of HT_.out (by kernel_rfl)) (fun _ _ _ h => h) (Or.inl ⟨by rfl, ?_⟩) ?_ ?_
     rotate_left; exact pI; rotate_left; exact pS
     refine pure_ (i := 5) (N := some 61) (v := ?_) (a' := ?_) #[true, true, true, true, true, true, false, false, false, false, false, false, false, false, false, false, false, false, false, false, false, false, false, false, false, false, false, false, false, false] rfl rfl (any_of HT_.out (by kernel_rfl)) (fun _ _ _ h => h) (Or.inl ⟨by rfl, ?_⟩) ?_ ?_
     rotate_left; exact pI; rotate_left; exact pS
     refine pure_ (i := 6) (N := some 62) (v := ?_) (a' := ?_) #[true, true, true, true, true, true, true, false, false, false, false, false, false, false, false, false, false, false, false, false, false, false, false, false, false, false, false, false, false, false] rfl rfl (any_of HT_.out (by kernel_rfl)) (fun _ _ _ h => h) (Or.inl ⟨by rfl, ?_⟩) ?_ ?_
     rotate_left; exact pI; rotate_left; exact pS
     refine pure_ (i := 8) (N := some 64) (v := ?_) (a' := ?_) #[true, true, true, true, true, true, true, false, true, false, false, false, false, false, false, false, false, false, false, false, false, false, false, false, false, false, false, false, false, false] rfl rfl (any_of HT_.out (by kernel_rfl)) (fun _ _ _ h => h) (Or.inl ⟨by rfl, ?_⟩) ?_ ?_
     rotate_left; exact pI; rotate_left; exact pS
     refine pure_ (i := 9) (N := some 65) (v := ?_) (a' := ?_) #[true, true, true, true, true, true, true, false, true, true, false, false, false, false, false, false, false, false, false, false, false, false, false, false, false, false, false, false, false, false] rfl rfl (any_of HT_.out (by kernel_rfl)) (fun _ _ _ h => h) (Or.inl ⟨by rfl, ?_⟩) ?_ ?_
     rotate_left; exact pI; rotate_left; exact pS
     refine pure_ (i := 10) (N := some 66) (v := ?_) (a' := ?_) #[true, true, true, true, true, true, true, false, true, true, true, false, false, false, false, false, false, false, false, false, false, false, false, false, false, false, false, false, false, false] rfl rfl (any_of HT_.out (by kernel_rfl)) (fun _ _ _ h => h) (Or.inl ⟨by rfl, ?_⟩) ?_ ?_
     rotate_left; exact pI; rotate_left; exact pS
     refine pure_ (i := 12) (N := some 68) (v := ?_) (a' := ?_) #[true, true, true, true, true, true, true, false, true, true, true, false, true, false, false, false, false, false, false, false, false, false, false, false, false, false, false, false, false, false] rfl rfl (any_of HT_.out (by kernel_rfl)) (fun _ _ _ h => h) (Or.inl ⟨by rfl, ?_⟩) ?_ ?_
     rotate_left; exact pI; rotate_left; exact pS
     refine take_ (i := 11) (N := some 67) (v := ?_) (a' := ?_) #[true, true, true, true, true, true, true, false, true, true, true, true, true, false, false, false, false, false, false, false, false, false, false, false, false, false, false, false, false, false] rfl rfl (take_ofW HT_.out HW_.out (by kernel_rfl)) (fun _ _ _ h => h) (Or.inl ⟨by rfl, ?_⟩) hHeld ?_ ?_
     rotate_left
     ·
      rintro w' ⟨s0, s1⟩
      go_simp
      with_reducible rfl
     rotate_left
     ·
      exact pS
     refine pure_ (i := 13) (N := some 69) (v := ?_) (a' := ?_) #[true, true, true, true, true, true, true, false, true, true, true, true, true, true, false, false, false, false, false, false, false, false, false, false, false, false, false, false, false, false] rfl rfl (any_of HT_.out (by kernel_rfl)) (fun _ _ _ h => h) (Or.inl ⟨by rfl, ?_⟩) ?_ ?_
     rotate_left; exact pI; rotate_left; exact pS
     refine take_ (i := 14) (N := some 70) (v := ?_) (a' := ?_) #[true, true, true, true, true, true, true, false, true, true, true, true, true, true, true, false, false, false, false, false, false, false, false, false, false, false, false, false, false, false] rfl rfl (take_ofW HT_.out HW_.out (by kernel_rfl)) (fun _ _ _ h => h) (Or.inl ⟨by rfl, ?_⟩) hHeld ?_ ?_
     rotate_left
     ·
      rintro w' ⟨s0, s1⟩
      go_simp
      with_reducible rfl
     rotate_left
     ·
      exact pS
     refine pure_ (i := 15) (N := some 71) (v := ?_) (a' := ?_) #[true, true, true, true, true, true, true, false, true, true, true, true, true, true, true, true, false, false, false, false, false, false, false, false, false, false, false, false, false, false] rfl rfl (any_of HT_.out (by kernel_rfl)) (fun _ _ _ h => h) (Or.inl ⟨by rfl, ?_⟩) ?_ ?_
     rotate_left; exact pI; rotate_left; exact pS
     refine one_ (i := 7) (N := some 63) #[true, true, true, true, true, true, true, true, true, true, true, true, true, true, true, true, false, false, false, false, false, false, false, false, false, false, false, false, false, false] rfl rfl (one_of HT_.out (by kernel_rfl)) (by decide) (fun K hK => ?_)
     refine goes_ Try.func49 (by kernel_rfl) rfl #[.pointer (some ⟨t.tb, 0, none⟩)] (by rfl) rfl rfl (by simp only [List.map_toArray, List.map_cons, List.map_nil]; rfl) ?_
     with_reducible refine (blockRows.calls (T.out.ht i t HTI.out)).mono ?_
     rintro e wz ⟨rfl, rfl⟩
     refine ⟨_, rfl, ?_⟩
     refine hK.out _ _ ⟨T.out.cells.2.2.2.2.1, HCR.out⟩ (fun hHeld => ?_)
     clear hK K
     refine norm_ (a' := ?_) ?_ ?_
     rotate_left
     ·
      show Act.put _ (some 63) _ = _
      simp only [Act.put, List.setIfInBounds_toArray, List.set_cons_zero, List.set_cons_succ, i64_w, i32_w, IntKind.wrap_u32]
      rfl
     refine pure_ (i := 16) (N := some 72) (v := ?_) (a' := ?_) #[true, true, true, true, true, true, true, true, true, true, true, true, true, true, true, true, true, false, false, false, false, false, false, false, false, false, false, false, false, false] rfl rfl (any_of HT_.out (by kernel_rfl)) (fun _ _ _ h => h) (Or.inl ⟨by rfl, ?_⟩) ?_ ?_
     rotate_left; exact pI; rotate_left; exact pS
     refine pure_ (i := 17) (N := some 73) (v := ?_) (a' := ?_) #[true, true, true, true, true, true, true, true, true, true, true, true, true, true, true, true, true, true, false, false, false, false, false, false, false, false, false, false, false, false] rfl rfl (any_of HT_.out (by kernel_rfl)) (fun _ _ _ h => h) (Or.inl ⟨by rfl, ?_⟩) ?_ ?_
     rotate_left; exact pI; rotate_left; exact pS
     refine pure_ (i := 18) (N := some 74) (v := ?_) (a' := ?_) #[true, true, true, true, true, true, true, true, true, true, true, true, true, true, true, true, true, true, true, false, false, false, false, false, false, false, false, false, false, false] rfl rfl (any_of HT_.out (by kernel_rfl)) (fun _ _ _ h => h) (Or.inl ⟨by rfl, ?_⟩) ?_ ?_
     rotate_left; exact pI; rotate_left; exact pS
     refine pure_ (i := 19) (N := some 75) (v := ?_) (a' := ?_) #[true, true, true, true, true, true, true, true, true, true, true, true, true, true, true, true, true, true, true, true, false, false, false, false, false, false, false, false, false, false] rfl rfl (any_of HT_.out (by kernel_rfl)) (fun _ _ _ h => h) (Or.inl ⟨by rfl, ?_⟩) ?_ ?_
     rotate_left; exact pI; rotate_left; exact pS
     refine one_ (i := 20) (N := some 76) #[true, true, true, true, true, true, true, true, true, true, true, true, true, true, true, true, true, true, true, true, true, false, false, false, false, false, false, false, false, false] rfl rfl (one_of HT_.out (by kernel_rfl)) (by decide) (fun K hK => ?_)
     refine goes_ Try.func36 (by kernel_rfl) rfl #[.pointer (some ⟨t.tb, 0, none⟩), .int .i64 (-1)] (by rfl) rfl rfl (by simp only [List.map_toArray, List.map_cons, List.map_nil]; rfl) ?_
     with_reducible refine (blockLenNo.calls (T.out.ht i t HTI.out) (-1) (.inl (by decide))).mono ?_
     rintro e wz ⟨rfl, rfl⟩
     refine ⟨_, rfl, ?_⟩
     refine hK.out _ _ ⟨T.out.cells.2.2.2.2.1, HCR.out⟩ (fun hHeld => ?_)
     clear hK K
     refine norm_ (a' := ?_) ?_ ?_
     rotate_left
     ·
      show Act.put _ (some 76) _ = _
      simp only [Act.put, List.setIfInBounds_toArray, List.set_cons_zero, List.set_cons_succ, i64_w, i32_w, IntKind.wrap_u32]
      rfl
     refine pure_ (i := 21) (N := some 77) (v := ?_) (a' := ?_) #[true, true, true, true, true, true, true, true, true, true, true, true, true, true, true, true, true, true, true, true, true, true, false, false, false, false, false, false, false, false] rfl rfl (any_of HT_.out (by kernel_rfl)) (fun _ _ _ h => h) (Or.inl ⟨by rfl, ?_⟩) ?_ ?_
     rotate_left; exact pI; rotate_left; exact pS
     refine pure_ (i := 22) (N := some 78) (v := ?_) (a' := ?_) #[true, true, true, true, true, true, true, true, true, true, true, true, true, true, true, true, true, true, true, true, true, true, true, false, false, false, false, false, false, false] rfl rfl (any_of HT_.out (by kernel_rfl)) (fun _ _ _ h => h) (Or.inl ⟨by rfl, ?_⟩) ?_ ?_
     rotate_left; exact pI; rotate_left; exact pS
     refine pure_ (i := 23) (N := some 79) (v := ?_) (a' := ?_) #[true, true, true, true, true, true, true, true, true, true, true, true, true, true, true, true, true, true, true, true, true, true, true, true, false, false, false, false, false, false] rfl rfl (any_of HT_.out (by kernel_rfl)) (fun _ _ _ h => h) (Or.inl ⟨by rfl, ?_⟩) ?_ ?_
     rotate_left; exact pI; rotate_left; exact pS
     refine pure_ (i := 24) (N := some 80) (v := ?_) (a' := ?_) #[true, true, true, true, true, true, true, true, true, true, true, true, true, true, true, true, true, true, true, true, true, true, true, true, true, false, false, false, false, false] rfl rfl (any_of HT_.out (by kernel_rfl)) (fun _ _ _ h => h) (Or.inl ⟨by rfl, ?_⟩) ?_ ?_
     rotate_left; exact pI; rotate_left; exact pS
     refine pure_ (i := 25) (N := some 81) (v := ?_) (a' := ?_) #[true, true, true, true, true, true, true, true, true, true, true, true, true, true, true, true, true, true, true, true, true, true, true, true, true, true, false, false, false, false] rfl rfl (any_of HT_.out (by kernel_rfl)) (fun _ _ _ h => h) (Or.inl ⟨by rfl, ?_⟩) ?_ ?_
     rotate_left; exact pI; rotate_left; exact pS
     refine one_ (i := 26) (N := some 82) #[true, true, true, true, true, true, true, true, true, true, true, true, true, true, true, true, true, true, true, true, true, true, true, true, true, true, true, false, false, false] rfl rfl (one_of HT_.out (by kernel_rfl)) (by decide) (fun K hK => ?_)
     refine goes_ Try.func49 (by kernel_rfl) rfl #[.pointer (some ⟨t.tb, 0, none⟩)] (by rfl) rfl rfl (by simp only [List.map_toArray, List.map_cons, List.map_nil]; rfl) ?_
     with_reducible refine (blockRows.calls (T.out.ht i t HTI.out)).mono ?_
     rintro e wz ⟨rfl, rfl⟩
     refine ⟨_, rfl, ?_⟩
     refine hK.out _ _ ⟨T.out.cells.2.2.2.2.1, HCR.out⟩ (fun hHeld => ?_)
     clear hK K
     refine norm_ (a' := ?_) ?_ ?_
     rotate_left
     ·
      show Act.put _ (some 82) _ = _
      simp only [Act.put, List.setIfInBounds_toArray, List.set_cons_zero, List.set_cons_succ, i64_w, i32_w, IntKind.wrap_u32]
      rfl
     refine one_ (i := 27) (N := some 83) #[true, true, true, true, true, true, true, true, true, true, true, true, true, true, true, true, true, true, true, true, true, true, true, true, true, true, true, true, false, false] rfl rfl (one_of HT_.out (by kernel_rfl)) (by decide) (fun K hK => ?_)
     refine goes_ Try.func36 (by kernel_rfl) rfl #[.pointer (some ⟨t.tb, 0, none⟩), .int .i64 (t.rows.length : Int)] (by rfl) rfl rfl (by simp only [List.map_toArray, List.map_cons, List.map_nil]; rfl) ?_
     with_reducible refine (blockLenNo.calls (T.out.ht i t HTI.out) (t.rows.length : Int) (.inr (Int.le_refl _))).mono ?_
     rintro e wz ⟨rfl, rfl⟩
     refine ⟨_, rfl, ?_⟩
     refine hK.out _ _ ⟨T.out.cells.2.2.2.2.1, HCR.out⟩ (fun hHeld => ?_)
     clear hK K
     refine norm_ (a' := ?_) ?_ ?_
     rotate_left
     ·
      show Act.put _ (some 83) _ = _
      simp only [Act.put, List.setIfInBounds_toArray, List.set_cons_zero, List.set_cons_succ, i64_w, i32_w, IntKind.wrap_u32]
      rfl
     refine pure_ (i := 28) (N := some 84) (v := ?_) (a' := ?_) #[true, true, true, true, true, true, true, true, true, true, true, true, true, true, true, true, true, true, true, true, true, true, true, true, true, true, true, true, true, false] rfl rfl (any_of HT_.out (by kernel_rfl)) (fun _ _ _ h => h) (Or.inl ⟨by rfl, ?_⟩) ?_ ?_
     rotate_left; exact pI; rotate_left; exact pS
     refine pure_ (i := 29) (N := some 85) (v := ?_) (a' := ?_) #[true, true, true, true, true, true, true, true, true, true, true, true, true, true, true, true, true, true, true, true, true, true, true, true, true, true, true, true, true, true] rfl rfl (any_of HT_.out (by kernel_rfl)) (fun _ _ _ h => h) (Or.inl ⟨by rfl, ?_⟩) ?_ ?_
     rotate_left; exact pI; rotate_left; exact pS
     refine done_ (done_of HT_.out (by kernel_rfl)) ?_
     obtain ⟨pre, hpre⟩ : ∃ pre, allIds (TS.take i) = pre := ⟨_, rfl⟩
     rw [hpre] at RFF HAL
     have HPL : Aside0 (pre.length + ids.length ≤ 700) := ⟨by
      have h1 := allIds_len (TS.take (i + 1)) a (fun u hu => HI.out.sz u (List.mem_of_mem_take hu))
      have h2 : (TS.take (i + 1)).length * a ≤ 6 * 100 := Nat.mul_le_mul (by rw [List.length_take]; have := HT6.out; omega) HA.out
      rw [HAL.out, List.length_append] at h1
      omega⟩
     clear hpre
     go_wp2
     go_loopw [88] (fun v W' => ∃ (j : Nat), v = .int .i64 j ∧ Aside0 (j ≤ ids.length) ∧ Aside0 (PlayO w0 W' own pb g s L f (.slice Ap m cp) (.slice Aq (MM L).length cq) (RR L) (MM L) (.slice Ap m cp) (.slice Aq (MM L).length cq) (.slice (some ⟨ab, 0, none⟩) nT ac) (.slice (some ⟨rb, 0, none⟩) nT rc) (.slice (some ⟨ab, 0, none⟩) nT ac) (TS.map Tab.tb) (.slice (some ⟨rb, 0, none⟩) nT rc) (TS.map Tab.rows) TS (.slice Ad t.rows.length cd) t.rows []) ∧ Aside0 (Kd.R (Kd.int .i64) 3 W' w0.heap.size (fun k => some k = Value.ownBlock (Value.slice Af m cf)) (Value.slice Af m cf) (cntL m (pre ++ ids.take j))) ∧ Aside0 (w.heap.size ≤ W'.heap.size) ∧ Aside0 (Kd.R (Kd.int .i64) 3 W' w0.heap.size (fun k => own k = nT + 2 ∧ some k ≠ Value.ownBlock (Value.slice Af m cf)) (.slice Aw ids.length cw) (ids)) ∧ Aside0 (Kd.R (Kd.int .i64) 3 W' w0.heap.size (fun k => some k ≠ Value.ownBlock (Value.slice Af m cf)) (.slice Ag ids.length cg) (ids))) (fun v _ => ids.length - (intOf v).toNat)
     case atStart => exact ⟨0, rfl, ⟨Nat.zero_le _⟩, T, ⟨by rw [List.take_zero, List.append_nil]; exact RFF.out⟩, HSZ, HO, HG⟩
     case round =>
      clear T RFF HSZ HO HG
      obtain ⟨j, rfl, HJ2, T, RFF, HSZ, HO, HG⟩ := hrel
      by_cases q3 : j < ids.length
      ·
       have g1 : decide ((j : Int) < (ids.length : Int)) = true := decide_eq_true (by omega)
       have g2 : decide (j < ids.length) = true := decide_eq_true q3
       have s0 : ((0 : Int) ≤ (j : Int)) = True := eq_true (by omega)
       have s1 : ((j : Int) < (ids.length : Int)) = True := eq_true (by omega)
       have s2 : (j < ids.length) = True := eq_true q3
       have hwj : wrap64 ((j : Int) + 1) = (j : Int) + 1 := by have := HFL.out; simp only [wrap64]; omega
       obtain ⟨x, hx⟩ : ∃ x, ids[j]? = some x := ⟨_, List.getElem?_eq_getElem q3⟩
       obtain ⟨qq, rfl, hqm⟩ := HIDS.out x (List.mem_of_getElem? hx)
       obtain ⟨gb, gcap, eg, -⟩ := Kd.R_form HG.out (by omega)
       obtain rfl : Ag = some ⟨gb, 0, none⟩ := by injection eg
       obtain ⟨wb, wcap, ew, -⟩ := Kd.R_form HO.out (by omega)
       obtain rfl : Aw = some ⟨wb, 0, none⟩ := by injection ew
       obtain ⟨fb, fcap, ef, -⟩ := Kd.R_form RFF.out (by rw [cntL_len]; omega)
       obtain rfl : Af = some ⟨fb, 0, none⟩ := by injection ef
       obtain ⟨cc, hcc⟩ : ∃ cc, (pre ++ ids.take j).count (qq : Int) = cc := ⟨_, rfl⟩
       have hcg := cntL_get (m := m) (pre ++ ids.take j) hqm
       rw [hcc] at hcg
       have hcl : cc ≤ 700 := by rw [← hcc]; have h1 := List.count_le_length (a := (qq : Int)) (l := pre ++ ids.take j); rw [List.length_append, List.length_take] at h1; have := HPL.out; omega
       have hgc := (int_put HG.out hx).1
       have hwc := (int_put HO.out hx).1
       obtain ⟨hfc, hff, hput⟩ := int_put RFF.out hcg
       obtain ⟨fcs, hfb⟩ := Kd.R_typed RFF.out fb rfl
       have hww : wrap64 ((cc : Int) + 1) = (cc : Int) + 1 := by simp only [wrap64]; omega
       have HNX : Aside0 (cntL m (pre ++ ids.take (j + 1)) = (cntL m (pre ++ ids.take j)).set qq ((cc : Int) + 1)) := ⟨by rw [← hcc, cntL_step _ hqm, List.append_assoc]; rw [List.take_add_one, hx]; rfl⟩
       have HPUT := aM (hput ((cc : Int) + 1))
       have t0 : ((0 : Int) ≤ (qq : Int)) = True := eq_true (by omega)
       have t1 : ((qq : Int) < (m : Int)) = True := eq_true (by omega)
       have t2 : (qq < m) = True := eq_true hqm
       have HFB := aM hfb
       have HGE := aM (RFF.out.1 fb rfl)
       clear hx hqm hcc hcg hcl hput hfb eg ew ef
       go_wp2
       rw [hwj]
       have HS2 := ((Below.refl 0 wr).setCell (p := ⟨fb, qq, none⟩) (Nat.zero_le _) (.int .i64 ((cc : Int) + 1))).size
       exact ⟨⟨j + 1, rfl, ⟨q3⟩, ⟨T.out.set3 HFB.out (by rw [HNT.out]; exact HRO.out fb rfl) (Kd.R_base RFF.out fb rfl) qq _⟩, ⟨by rw [HNX.out]; exact HPUT.out⟩, ⟨Nat.le_trans HSZ.out HS2⟩, ⟨Kd.R_step HO.out (fun k_ hk_ _ => Below.heap_setCell _ ⟨fb, qq, none⟩ _ k_ (fun e_ => hk_.2 (by rw [e_]; rfl)))⟩, ⟨Kd.R_step HG.out (fun k_ hk_ _ => Below.heap_setCell _ ⟨fb, qq, none⟩ _ k_ (fun e_ => hk_ (by rw [e_]; rfl)))⟩⟩, by simp only [intOf]; omega⟩
      ·
       have g1 : decide ((j : Int) < (ids.length : Int)) = false := decide_eq_false (by omega)
       have g2 : decide (j < ids.length) = false := decide_eq_false q3
       obtain rfl : j = ids.length := by have := HJ2.out; omega
       rw [List.take_length, ← HAL.out] at RFF
       go_wp2
       rw [hw]
       exact ⟨⟨i + 1, rfl, ⟨q⟩, ⟨T.out.unbox⟩, RFF, HSZ⟩, by simp only [intOf]; omega⟩
  ·
   have d1 : decide ((i : Int) < (nT : Int)) = false := decide_eq_false (by omega)
   have d2 : decide (i < nT) = false := decide_eq_false q
   obtain rfl : nT = i := by have := HIN.out; omega
   rw [List.take_of_length_le (by rw [HNT.out]; exact Nat.le_refl _)] at RFF
   have HLL2 : Aside0 (L.length = m) := ⟨HI.out.len⟩
   go_wp2
   go_loopw [109] (fun v W' => ∃ (j : Nat), v = .int .i64 j ∧ Aside0 (j ≤ m) ∧ Aside0 (PlayO w0 W' own pb g s L f (.slice Ap m cp) (.slice Aq (MM L).length cq) (RR L) (MM L) (.slice Ap m cp) (.slice Aq (MM L).length cq) (.slice (some ⟨ab, 0, none⟩) nT ac) (.slice (some ⟨rb, 0, none⟩) nT rc) (.slice (some ⟨ab, 0, none⟩) nT ac) (TS.map Tab.tb) (.slice (some ⟨rb, 0, none⟩) nT rc) (TS.map Tab.rows) TS (.slice none 0 0) [] []) ∧ Aside0 (Kd.R (Kd.int .i64) 3 W' w0.heap.size (fun k => some k = Value.ownBlock (Value.slice Af m cf)) (Value.slice Af m cf) (cntL m (allIds TS)))) (fun v _ => m - (intOf v).toNat)
   case atStart => exact ⟨0, rfl, ⟨Nat.zero_le _⟩, T, RFF⟩
   case round =>
    clear T RFF HSZ
    obtain ⟨j, rfl, HJ2, T, RFF⟩ := hrel
    by_cases q3 : j < m
    ·
     have g1 : decide ((j : Int) < (m : Int)) = true := decide_eq_true (by omega)
     have g2 : decide (j < m) = true := decide_eq_true q3
     have s0 : ((0 : Int) ≤ (j : Int)) = True := eq_true (by omega)
     have s1 : ((j : Int) < (m : Int)) = True := eq_true (by omega)
     have s2 : (j < m) = True := eq_true q3
     have hwj : wrap64 ((j : Int) + 1) = (j : Int) + 1 := by have := HM.out; simp only [wrap64]; omega
     obtain ⟨x, hx⟩ : ∃ x, L[j]? = some x := ⟨_, List.getElem?_eq_getElem (by rw [HLL2.out]; exact q3)⟩
     have hxr := HI.out.refs j x hx
     obtain ⟨r, hr⟩ : ∃ r, x.refs = r := ⟨_, rfl⟩
     have hcr : (cntL m (allIds TS))[j]? = some r := by rw [cntL_get _ q3, ← hr, hxr]
     have hrr : (RR L)[j]? = some r := by rw [← hr]; simp [RR, hx]
     have HX := aM hx
     have HRX := aM hr
     obtain ⟨fb, fcap, ef, -⟩ := Kd.R_form RFF.out (by rw [cntL_len]; omega)
     obtain rfl : Af = some ⟨fb, 0, none⟩ := by injection ef
     obtain ⟨xb, xcap, ex, -⟩ := Kd.R_form T.out.X.r0 (by rw [RR_len, HLL2.out]; omega)
     obtain rfl : Ap = some ⟨xb, 0, none⟩ := by injection ex
     have hfc := (int_put RFF.out hcr).1
     have hxc := (int_put T.out.X.r0 hrr).1
     have hz := T.out.cells
     clear hx hxr hr hcr hrr ef ex
     go_wp2_with (go_at_call 26; (refine (poolRefsAt.calls g s L f j x HX.out _ T.out.P).mono ?_); rintro e w11 ⟨rfl, rfl⟩; rw [HRX.out]; skip)
     rw [hwj]
     exact ⟨⟨j + 1, rfl, ⟨q3⟩, T, RFF⟩, by simp only [intOf]; omega⟩
    ·
     have g1 : decide ((j : Int) < (m : Int)) = false := decide_eq_false (by omega)
     have g2 : decide (j < m) = false := decide_eq_false q3
     clear RFF
     go_upto_region 30 with (fail)
     replace T := aM (T.out.drew)
     refine start_ (n := 12) (S := fun w' => w'.cell? ⟨pb, 0, none⟩ = some (.pointer (some ⟨g, 0, none⟩)) ∧ w'.cell? ⟨pb, 1, none⟩ = some (.slice Ap m cp) ∧ w'.cell? ⟨pb, 2, none⟩ = some (.slice Aq (MM L).length cq)) (ds := []) #[false, false, false, false, false, false, false, false, false, false, false, false] (by kernel_rfl) rfl rfl ⟨T.out.cells.1, T.out.cells.2.1, T.out.cells.2.2.1⟩ (fun hHeld => ?_); refine with_tabW pis30.tab30 pis30.bits30 (fun HT_ HW_ => ?_)
     generalize wr.drew = w20 at T hHeld ⊢
     refine pure_ (i := 0) (N := some 135) (v := ?_) (a' := ?_) #[true, false, false, false, false, false, false, false, false, false, false, false] rfl rfl (any_of HT_.out (by kernel_rfl)) (fun _ _ _ h => h) (Or.inl ⟨by rfl, ?_⟩) ?_ ?_
     rotate_left; exact pI; rotate_left; exact pS
     refine pure_ (i := 1) (N := some 136) (v := ?_) (a' := ?_) #[true, true, false, false, false, false, false, false, false, false, false, false] rfl rfl (any_of HT_.out (by kernel_rfl)) (fun _ _ _ h => h) (Or.inl ⟨by rfl, ?_⟩) ?_ ?_
     rotate_left; exact pI; rotate_left; exact pS
     refine pure_ (i := 2) (N := some 137) (v := ?_) (a' := ?_) #[true, true, true, false, false, false, false, false, false, false, false, false] rfl rfl (any_of HT_.out (by kernel_rfl)) (fun _ _ _ h => h) (Or.inl ⟨by rfl, ?_⟩) ?_ ?_
     rotate_left; exact pI; rotate_left; exact pS
     refine pure_ (i := 5) (N := some 140) (v := ?_) (a' := ?_) #[true, true, true, false, false, true, false, false, false, false, false, false] rfl rfl (any_of HT_.out (by kernel_rfl)) (fun _ _ _ h => h) (Or.inl ⟨by rfl, ?_⟩) ?_ ?_
     rotate_left; exact pI; rotate_left; exact pS
     refine pure_ (i := 6) (N := some 141) (v := ?_) (a' := ?_) #[true, true, true, false, false, true, true, false, false, false, false, false] rfl rfl (any_of HT_.out (by kernel_rfl)) (fun _ _ _ h => h) (Or.inl ⟨by rfl, ?_⟩) ?_ ?_
     rotate_left; exact pI; rotate_left; exact pS
     refine pure_ (i := 7) (N := some 142) (v := ?_) (a' := ?_) #[true, true, true, false, false, true, true, true, false, false, false, false] rfl rfl (any_of HT_.out (by kernel_rfl)) (fun _ _ _ h => h) (Or.inl ⟨by rfl, ?_⟩) ?_ ?_
     rotate_left; exact pI; rotate_left; exact pS
     refine take_ (i := 3) (N := some 138) (v := ?_) (a' := ?_) #[true, true, true, true, false, true, true, true, false, false, false, false] rfl rfl (take_ofW HT_.out HW_.out (by kernel_rfl)) (fun _ _ _ h => h) (Or.inl ⟨by rfl, ?_⟩) hHeld ?_ ?_
     rotate_left
     ·
      rintro w' ⟨s0, s1, s2⟩
      go_simp
      with_reducible rfl
     rotate_left
     ·
      exact pS
     refine take_ (i := 8) (N := some 143) (v := ?_) (a' := ?_) #[true, true, true, true, false, true, true, true, true, false, false, false] rfl rfl (take_ofW HT_.out HW_.out (by kernel_rfl)) (fun _ _ _ h => h) (Or.inl ⟨by rfl, ?_⟩) hHeld ?_ ?_
     rotate_left
     ·
      rintro w' ⟨s0, s1, s2⟩
      go_simp
      with_reducible rfl
     rotate_left
     ·
      exact pS
     refine one_ (i := 4) (N := some 139) #[true, true, true, true, true, true, true, true, true, false, false, false] rfl rfl (one_of HT_.out (by kernel_rfl)) (by decide) (fun K hK => ?_)
     refine goes_ Try.func15 (by kernel_rfl) rfl #[.pointer (some ⟨g, 0, none⟩)] (by rfl) rfl rfl (by simp only [List.map_toArray, List.map_cons, List.map_nil]; rfl) ?_
     with_reducible refine (poolFree.calls g s L f _ T.out.P).mono ?_
     rintro e wz ⟨rfl, rfl⟩
     refine ⟨_, rfl, ?_⟩
     refine hK.out _ _ ⟨T.out.cells.1, T.out.cells.2.1, T.out.cells.2.2.1⟩ (fun hHeld => ?_)
     clear hK K
     refine norm_ (a' := ?_) ?_ ?_
     rotate_left
     ·
      show Act.put _ (some 139) _ = _
      simp only [Act.put, List.setIfInBounds_toArray, List.set_cons_zero, List.set_cons_succ, i64_w, i32_w, IntKind.wrap_u32]
      rfl
     refine one_ (i := 9) (N := some 144) #[true, true, true, true, true, true, true, true, true, true, false, false] rfl rfl (one_of HT_.out (by kernel_rfl)) (by decide) (fun K hK => ?_)
     refine goes_ Try.func16 (by kernel_rfl) rfl #[.agg #[.slice Ap m cp, .slice Aq (MM L).length cq]] (by rfl) rfl rfl (by simp only [List.map_toArray, List.map_cons, List.map_nil]; rfl) ?_
     with_reducible refine (refFree.calls T.out.X HFR.out).mono ?_
     rintro e wy ⟨rfl, hb⟩
     refine ⟨_, rfl, ?_⟩
     replace T := aM (T.out.below hb)
     clear hb
     refine hK.out _ _ ⟨T.out.cells.1, T.out.cells.2.1, T.out.cells.2.2.1⟩ (fun hHeld => ?_)
     clear hK K
     refine norm_ (a' := ?_) ?_ ?_
     rotate_left
     ·
      show Act.put _ (some 144) _ = _
      simp only [Act.put, List.setIfInBounds_toArray, List.set_cons_zero, List.set_cons_succ, i64_w, i32_w, IntKind.wrap_u32]
      rfl
     refine pure_ (i := 10) (N := some 145) (v := ?_) (a' := ?_) #[true, true, true, true, true, true, true, true, true, true, true, false] rfl rfl (any_of HT_.out (by kernel_rfl)) (fun _ _ _ h => h) (Or.inl ⟨by rfl, ?_⟩) ?_ ?_
     rotate_left; exact pI; rotate_left; exact pS
     refine pure_ (i := 11) (N := some 2) (v := ?_) (a' := ?_) #[true, true, true, true, true, true, true, true, true, true, true, true] rfl rfl (any_of HT_.out (by kernel_rfl)) (fun _ _ _ h => h) (Or.inl ⟨by rfl, ?_⟩) ?_ ?_
     rotate_left; exact pI; rotate_left; exact pS
     refine done_ (done_of HT_.out (by kernel_rfl)) ?_
     try go_wp2
     go_ret
     exact ⟨by simp, T.out.unbox.rest rfl rfl⟩
end
-- calls: credenzalaw11_play_step credenzaref10_Pool_Free

/-! ### credenzalaw11_BlockPlays: function 9 -/
set_option maxHeartbeats 8000000 in
set_option maxRecDepth 100000 in
theorem blockPlays.calls (k : Nat) (hk : madeAll k = true) (s0 r0 : Int) (A : Option Addr) (c : Nat) (l : List S57) (w : World) (hr0 : Kd.C k57 w A l.length l) (hc0 : l.length ≤ c) :
  Calls Try.prog 9 #[.int .i64 s0, .int .i64 r0, .slice A l.length c] w fun e w' => e = .returned (.bool true) ∧ Below w.heap.size w w' := by
 have HK := aM hk
 have HR := aM hr0
 have HB := aM (Below.refl w.heap.size w)
 have hu57 := Try.underlying57
 clear hk hr0 hc0
 have small : ∀ (b1 b2 b3 : Bool), decide (50 < l.length) = b1 → decide (s0 < 0) = b2 → decide (60 < s0) = b3 → (b1 || b2 || b3) = true → Calls Try.prog 9 #[.int .i64 s0, .int .i64 r0, .slice A l.length c] w fun e w' => e = .returned (.bool true) ∧ Below w.heap.size w w' := by
  intro b1 b2 b3 db1 db2 db3 hb
  have dd : decide (50 < (l.length : Int)) = b1 := by rw [← db1]; exact decide_eq_decide.mpr (by omega)
  cases b1 <;> cases b2 <;> cases b3
  case false.false.false => cases hb
  all_goals
   clear hb
   go_enter Try.func9, Try.ntmps9
   go_wp2_with (go_at_call 28; (refine (blockAwake.calls k HK.out _).mono ?_); rintro e wa ⟨rfl, hb⟩; replace HB := aM (below_step HB.out hb); clear hb)
   go_ret
   exact ⟨rfl, HB.out⟩
 by_cases q0 : 50 < l.length
 ·
  exact small _ _ _ (decide_eq_true q0) rfl rfl (by simp)
 by_cases q1 : s0 < 0
 ·
  exact small _ _ _ (decide_eq_false q0) (decide_eq_true q1) rfl (by simp)
 by_cases q2 : 60 < s0
 ·
  exact small _ _ _ (decide_eq_false q0) (decide_eq_false q1) (decide_eq_true q2) (by simp)
 clear small
 have d0 : decide (50 < l.length) = false := decide_eq_false q0
 have d1 : decide (s0 < 0) = false := decide_eq_false q1
 have d2 : decide (60 < s0) = false := decide_eq_false q2
 have dd : decide (50 < (l.length : Int)) = false := decide_eq_false (by omega)
 obtain ⟨m, rfl⟩ := Int.eq_ofNat_of_zero_le (Int.not_lt.mp q1)
 have HM := aM (show m ≤ 60 by omega)
 have HL := aM (show l.length ≤ 50 by omega)
 clear q0 q1 q2
 by_cases q3 : r0 < 0
 ·
  have e1 : decide (r0 < 0) = true := decide_eq_true q3
  have HRB : Aside0 (r0 < 0 ∨ 16 < r0) := ⟨.inl q3⟩
  clear q3
  go_enter Try.func9, Try.ntmps9
  go_wp2_with (first | (go_at_call 29; (refine (begun.bad m r0 (by have := HM.out; omega) HRB.out _).mono ?_); rintro e w1 ⟨rfl, hb⟩; replace HB := aM (below_step HB.out hb); clear hb) | (go_at_call 28; (refine (blockAwake.calls k HK.out _).mono ?_); rintro e wa ⟨rfl, hb⟩; replace HB := aM (below_step HB.out hb); clear hb))
  go_ret
  exact ⟨by simp, HB.out⟩
 have e1 : decide (r0 < 0) = false := decide_eq_false q3
 by_cases q4 : 16 < r0
 ·
  have e2 : decide (16 < r0) = true := decide_eq_true q4
  have HRB : Aside0 (r0 < 0 ∨ 16 < r0) := ⟨.inr q4⟩
  clear q3 q4
  go_enter Try.func9, Try.ntmps9
  go_wp2_with (first | (go_at_call 29; (refine (begun.bad m r0 (by have := HM.out; omega) HRB.out _).mono ?_); rintro e w1 ⟨rfl, hb⟩; replace HB := aM (below_step HB.out hb); clear hb) | (go_at_call 28; (refine (blockAwake.calls k HK.out _).mono ?_); rintro e wa ⟨rfl, hb⟩; replace HB := aM (below_step HB.out hb); clear hb))
  go_ret
  exact ⟨by simp, HB.out⟩
 have e2 : decide (16 < r0) = false := decide_eq_false q4
 obtain ⟨n, rfl⟩ := Int.eq_ofNat_of_zero_le (Int.not_lt.mp q3)
 have HN := aM (show n ≤ 16 by omega)
 clear q3 q4
 go_enter Try.func9, Try.ntmps9
 go_upto_region 8 with (go_at_call 29; (refine (begunAt.calls m n (by have := HM.out; omega) HN.out _).mono ?_); rintro e w1 ⟨pb, rfl, hbg⟩; have BEG := aM hbg; clear hbg)
 obtain ⟨g, s, t, hp, hi⟩ := BEG.out
 have T := aM hp
 have HI := aM hi
 clear hp hi BEG
 go_wp2
 go_loopw [40] (fun v W' => ∃ (a : Nat) (L : List Slot) (f : Int) (TS : List Tab), v = .int .i64 a ∧ Aside0 (a ≤ l.length) ∧ Aside0 (PlayAt w W' pb g s L f TS) ∧ Aside0 (Inv L f TS m n a)) (fun v _ => l.length - (intOf v).toNat)
 case atStart => exact ⟨0, _, _, _, rfl, ⟨Nat.zero_le _⟩, T, HI⟩
 case round =>
  clear T HI HB
  obtain ⟨a, L, f, TS, rfl, HJ, T, HI⟩ := hrel
  by_cases q : a < l.length
  ·
   have f1 : decide ((a : Int) < (l.length : Int)) = true := decide_eq_true (by omega)
   have f2 : decide (a < l.length) = true := decide_eq_true q
   have hw : wrap64 ((a : Int) + 1) = (a : Int) + 1 := by have := HL.out; simp only [wrap64]; omega
   have p0 : (0 : Int) ≤ (a : Int) := by omega
   have p1 : (a : Int) < (l.length : Int) := by omega
   have HAA : Aside0 (a + 1 ≤ 50) := ⟨by have := HL.out; omega⟩
   obtain ⟨ad, he, hx0, hx1, hx2, hx3⟩ := at_T57 HR.out (a : Int) p0 p1
   cases he
   simp only [Int.toNat_natCast] at hx0 hx1 hx2 hx3
   have HB := aM T.out.hb
   replace hx0 := (HB.out.cell (World.block_lt_of_cell? w _ hx0)).trans hx0
   replace hx1 := (HB.out.cell (World.block_lt_of_cell? w _ hx1)).trans hx1
   replace hx2 := (HB.out.cell (World.block_lt_of_cell? w _ hx2)).trans hx2
   replace hx3 := (HB.out.cell (World.block_lt_of_cell? w _ hx3)).trans hx3
   obtain ⟨kd, hK⟩ : ∃ d, (rd_T57 l (a : Int)).f0 = d := ⟨_, rfl⟩
   obtain ⟨tn, hT⟩ : ∃ d, (rd_T57 l (a : Int)).f1 = d := ⟨_, rfl⟩
   obtain ⟨rn, hRn⟩ : ∃ d, (rd_T57 l (a : Int)).f2 = d := ⟨_, rfl⟩
   obtain ⟨nm, hN⟩ : ∃ d, (rd_T57 l (a : Int)).f3 = d := ⟨_, rfl⟩
   rw [hK] at hx0
   rw [hT] at hx1
   rw [hRn] at hx2
   rw [hN] at hx3
   clear hK hN hT hRn HB
   go_upto_region 11 with ((with_reducible refine gate_dst (N := 9) rfl ?_); refine box_event ?hg (N := 9) ?hd (cs := #[.int .i64 0, .int .i64 0, .int .i64 0, .int .i64 0]) (t := 57) ?hr ?_; (case hd => rfl); (case hg => rfl); (case hr => first | (go_simp; done) | (go_simp; rfl)); intro bo hg_ w5 hbox hb; have BO := aM hbox; have GO := aM (by rw [hg_]; exact Nat.le_refl _ : wr.heap.size ≤ bo); have HX := aM hb; have hz := bx4 hbox; skip; clear hbox hb hg_)
   have BO2 := aM (blk_put (blk_put (blk_put (blk_put BO.out 0 (.int .i64 kd) (cs' := #[.int .i64 kd, .int .i64 0, .int .i64 0, .int .i64 0]) rfl) 1 (.int .i64 tn) (cs' := #[.int .i64 kd, .int .i64 tn, .int .i64 0, .int .i64 0]) rfl) 2 (.int .i64 rn) (cs' := #[.int .i64 kd, .int .i64 tn, .int .i64 rn, .int .i64 0]) rfl) 3 (.int .i64 nm) (cs' := #[.int .i64 kd, .int .i64 tn, .int .i64 rn, .int .i64 nm]) rfl)
   replace T := aM (T.out.below ((((HX.out.setCell (p := ⟨bo, 0, none⟩) GO.out (.int .i64 kd)).setCell (p := ⟨bo, 1, none⟩) GO.out (.int .i64 tn)).setCell (p := ⟨bo, 2, none⟩) GO.out (.int .i64 rn)).setCell (p := ⟨bo, 3, none⟩) GO.out (.int .i64 nm)))
   clear hz BO HX GO hx0 hx1 hx2 hx3
   generalize (((w5.setCell ⟨bo, 0, none⟩ (.int .i64 kd)).setCell ⟨bo, 1, none⟩ (.int .i64 tn)).setCell ⟨bo, 2, none⟩ (.int .i64 rn)).setCell ⟨bo, 3, none⟩ (.int .i64 nm) = w6 at T BO2 ⊢
   have hz := bx4 BO2.out
   go_wp2_with (first | (go_at_call 30; (refine (step.calls k HK.out T.out HI.out (by have := HJ.out; have := HL.out; omega) (by have := HM.out; omega) kd tn rn nm).mono ?_); rintro e w7 ⟨L', f', TS', rfl, hp, hi⟩; replace T := aM hp; replace HI := aM hi; clear hp hi) | (go_at_call 39; (refine (is.calls T.out HI.out (by have := HAA.out; omega) (by have := HM.out; omega) HN.out).mono ?_); rintro e w8 ⟨rfl, hp⟩; replace T := aM hp; clear hp))
   rw [hw]
   exact ⟨⟨a + 1, _, _, _, rfl, ⟨q⟩, T, HI⟩, by simp only [intOf]; omega⟩
  ·
   have f1 : decide ((a : Int) < (l.length : Int)) = false := decide_eq_false (by omega)
   have f2 : decide (a < l.length) = false := decide_eq_false q
   have HB := aM T.out.hb
   clear T HI
   go_wp2_with (go_at_call 28; (refine (blockAwake.calls k HK.out _).mono ?_); rintro e wa ⟨rfl, hb⟩; replace HB := aM (below_step HB.out hb); clear hb)
   go_ret
   exact ⟨rfl, HB.out⟩

def credenzalaw11_BlockPlays.f (k : Nat) (a0 a1 : Int) (l2 : List S57) : Option Bool := if madeAll k = true then some true else none
theorem credenzalaw11_BlockPlays.mono : ∀ a0 a1 l2 k, LeO (credenzalaw11_BlockPlays.f k a0 a1 l2) (credenzalaw11_BlockPlays.f (k + 1) a0 a1 l2) := fun _ _ _ k => allLe k
theorem credenzalaw11_BlockPlays.calls (k : Nat) (a0 a1 : Int) (A2 : Option Addr) (c2 : Nat) (l2 : List S57) (r : Bool) (w : World) (hr2 : Kd.C k57 w A2 l2.length l2) (hc2 : l2.length ≤ c2) (h : credenzalaw11_BlockPlays.f k a0 a1 l2 = some r) :
  Calls Try.prog 9 #[.int .i64 a0, .int .i64 a1, .slice A2 l2.length c2] w fun e w' => e = .returned (.bool r) ∧ Below w.heap.size w w' := by
 obtain ⟨h1, rfl⟩ := allOf h
 exact blockPlays.calls k h1 a0 a1 A2 c2 l2 w hr2 hc2
-- calls: credenzalaw11_awake credenzalaw11_play_is


/-- THE ONE PURE STATEMENT of credenzalaw11_BlockPlays: yours. -/
def credenzalaw11_BlockPlays.Pure : Prop := ∀ (a0 : Int) (a1 : Int) (l2 : List (S57)), (Lit.int .i64 a0).wf = true → (Lit.int .i64 a1).wf = true → l2.length ≤ maxLen → (∀ z ∈ l2, ((Lit.int .i64 z.f0).wf = true ∧ (Lit.int .i64 z.f1).wf = true ∧ (Lit.int .i64 z.f2).wf = true ∧ (Lit.int .i64 z.f3).wf = true)) → ∃ k, credenzalaw11_BlockPlays.f k a0 a1 l2 = some true
theorem credenzalaw11_BlockPlays.walk (P : credenzalaw11_BlockPlays.Pure) (a0 : Int) (a1 : Int) (a2 : Option Addr) (c2 : Nat) (l2 : List (S57)) (w : World) (w0 : (Lit.int .i64 a0).wf = true) (w1 : (Lit.int .i64 a1).wf = true) (hr2 : Kd.C k57 w a2 l2.length l2) (hc2 : l2.length ≤ c2) (hm2 : l2.length ≤ maxLen) (hq2 : ∀ z ∈ l2, ((Lit.int .i64 z.f0).wf = true ∧ (Lit.int .i64 z.f1).wf = true ∧ (Lit.int .i64 z.f2).wf = true ∧ (Lit.int .i64 z.f3).wf = true)) :
  Calls Try.prog 9 #[.int .i64 a0, .int .i64 a1, .slice a2 l2.length c2] w fun e w' => e = .returned (.bool true) ∧ Below w.heap.size w w' := by
 obtain ⟨k, h⟩ := P a0 a1 l2 w0 w1 hm2 hq2
 refine (credenzalaw11_BlockPlays.calls k a0 a1 _ _ l2 true w hr2 hc2 h).mono ?_
 rintro e w' ⟨rfl, hd⟩
 exact ⟨rfl, hd⟩

end Go.Proofs.Ytoofkemhikigoaa.PBlockPlays
