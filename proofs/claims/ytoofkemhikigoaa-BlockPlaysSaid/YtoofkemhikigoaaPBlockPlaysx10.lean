-- Written by a program of this session (wip/tools/mkprint.py over the kit's print).
import Derived.Test.YtoofkemhikigoaaPBlockPlaysx0
import Derived.Test.YtoofkemhikigoaaPBlockPlaysx6
import Derived.Test.YtoofkemhikigoaaPBlockPlaysx8
import Derived.Test.YtoofkemhikigoaaPBlockPlaysx9
namespace Go.Proofs.Ytoofkemhikigoaa.PBlockPlays
open Go.RowKit Go.Proofs.YtoofkemhikigoaaW.PrintWords Go.Proofs.YtoofkemhikigoaaW.PrintLast Go.Proofs.YtoofkemhikigoaaW.PrintMore
attribute [local go_sem] max2_int min2_int max_two min_two max_three min_three max_four min_four   -- for this text's walks alone
set_option linter.unusedVariables false
set_option linter.unusedSimpArgs false

/-! ### credenzalaw11_play_change: function 51 -/
/-- Change, one for each number. -/
def chg (d : Int) : List Int → List Int × List Int → Option (List Int × List Int)
 | [], s => some s
 | id :: l, s => (credenzaref10_Pool_Change.f s.1 s.2 id d).bind fun r => chg d l (r.1, r.2.1)
theorem chg_append (d : Int) : ∀ (a b : List Int) (s : List Int × List Int), chg d (a ++ b) s = (chg d a s).bind (chg d b)
 | [], b, s => rfl
 | id :: a, b, s => by
  rw [List.cons_append, chg, chg]
  cases credenzaref10_Pool_Change.f s.1 s.2 id d with
  | none => rfl
  | some r => exact chg_append d a b _
section
variable {w0 W W' w : World} {own : Nat → Nat} {pb g s : Nat} {L L' : List Slot} {f f' : Int} {v0 v1 u0 u1 : Value} {l0 l1 m0 m1 : List Int} {x0 x1 ca cr av av1 : Value} {TA : List Nat} {rv rv1 : Value} {D : List (List (List Int))} {TS : List Tab} {cv cv1 : Value} {cl cl1 : List (List Int)} {E : List (Nat × Array Value)}

theorem PlayO.curBlk (h : PlayO w0 W own pb g s L f v0 v1 l0 l1 x0 x1 ca cr av TA rv D TS cv cl E) {A : Option Addr} {n c : Nat} (hr : cv = .slice A n c) (hn : 0 < cl.length) : ∃ rb cs, A = some ⟨rb, 0, none⟩ ∧ W.heap[rb]? = some (.cells cs 28 (0, 0)) := by
 subst hr
 obtain ⟨rb, cap, e, -, -, cs, hb⟩ := Kd.R_form h.C hn
 injection e with e1 e2 e3
 exact ⟨rb, cs, e1, hb⟩
theorem PlayO.rowAt (h : PlayO w0 W own pb g s L f v0 v1 l0 l1 x0 x1 ca cr av TA rv D TS cv cl E) {rb n c i : Nat} {l : List Int} {cs : Array Value} (hr : cv = .slice (some ⟨rb, 0, none⟩) n c) (hd : cl[i]? = some l) (hb : W.heap[rb]? = some (.cells cs 28 (0, 0))) : ∃ A1 c1, cs[i]? = some (.slice A1 l.length c1) ∧ Kd.R (Kd.int .i64) 3 W w0.heap.size (fun k => own k = 1) (.slice A1 l.length c1) l := by
 subst hr
 have hn := (Kd.R_reads' h.C).1
 have hi := (List.getElem?_eq_some_iff.mp hd).1
 obtain ⟨c', hcl, hM, hcc, -⟩ := Kd.R_elem h.C [] (i : Int) (by omega) (by omega)
 obtain ⟨v, rfl, hv⟩ := hM
 have hx : cl.getD (i : Int).toNat [] = l := by simp [List.getD_eq_getElem?_getD, hd]
 rw [hx] at hv
 have hv := Kd.R_mono hv (fun k hk => hk.1)
 obtain ⟨A1, c1, rfl⟩ := Kd.R_slice hv
 have h0 := hcc 0 _ rfl
 rw [show (i : Int).toNat * (Kd.sz (Kd.slice 3 (Kd.int .i64))) + 0 = i from by show (i : Int).toNat * 1 + 0 = i; omega, blk_cell hb i] at h0
 exact ⟨A1, c1, h0, hv⟩
theorem PlayO.rowIs (h : PlayO w0 W own pb g s L f v0 v1 l0 l1 x0 x1 ca cr av TA rv D TS cv cl E) {rb n c i : Nat} {l : List Int} {cs : Array Value} {u : Value} (hr : cv = .slice (some ⟨rb, 0, none⟩) n c) (hd : cl[i]? = some l) (hb : W.heap[rb]? = some (.cells cs 28 (0, 0))) (hu : cs[i]? = some u) : Kd.R (Kd.int .i64) 3 W w0.heap.size (fun k => own k = 1) u l := by
 obtain ⟨A1, c1, hc, hR⟩ := h.rowAt hr hd hb
 obtain rfl := Option.some.inj (hu.symm.trans hc)
 exact hR
theorem PlayO.ref_blk {b t : Nat} {ds : Array Value} (h : PlayO w0 W own pb g s L f v0 v1 l0 l1 x0 x1 ca cr av TA rv D TS cv cl E) (hk : Kept W W' (fun k => some k = v0.ownBlock ∨ some k = v1.ownBlock)) (hb : W.heap[b]? = some (.cells ds t (0, 0))) (ht : t ≠ 3) : W'.heap[b]? = some (.cells ds t (0, 0)) := h.X.keeps hk hb ht
theorem PlayO.setX_blk {b t : Nat} {ds : Array Value} (h : PlayO w0 W own pb g s L f v0 v1 l0 l1 x0 x1 ca cr av TA rv D TS cv cl E) (hb : W.heap[b]? = some (.cells ds t (0, 0))) (ht : t ≠ 63) (y0 y1 : Value) : ((W.setCell ⟨pb, 1, none⟩ y0).setCell ⟨pb, 2, none⟩ y1).heap[b]? = some (.cells ds t (0, 0)) :=
 have hne := blk_ne hb h.hp ht
 blk_far (blk_far hb (p := ⟨pb, 1, none⟩) hne y0) (p := ⟨pb, 2, none⟩) hne y1
theorem XAt.own_of {B B' : Nat} {W W' : World} {v0 v1 u0 u1 : Value} {m0 m1 : List Int} (h0 : Kd.R (Kd.int .i64) 3 W' B (fun k_ => ((some k_ = v0.ownBlock ∨ some k_ = v1.ownBlock) ∨ W.heap.size ≤ k_) ∧ some k_ ≠ u1.ownBlock) u0 m0) (h1 : Kd.R (Kd.int .i64) 3 W' B (fun k_ => ((some k_ = v0.ownBlock ∨ some k_ = v1.ownBlock) ∨ W.heap.size ≤ k_) ∧ some k_ ≠ u0.ownBlock) u1 m1) : ∀ k, some k = u0.ownBlock ∨ some k = u1.ownBlock → (some k = v0.ownBlock ∨ some k = v1.ownBlock) ∨ W.heap.size ≤ k :=
 fun k hk => hk.elim (fun e => (h0.1 k e.symm).1) (fun e => (h1.1 k e.symm).1)
set_option maxHeartbeats 8000000 in
set_option maxRecDepth 100000 in
theorem change.calls (d : Int) {A : Option Addr} {c : Nat} (h : PlayO w0 w own pb g s L f v0 v1 l0 l1 v0 v1 ca cr av TA rv D TS (.slice A cl.length c) cl E) (hn : cl.length ≤ 100000) (hl : cl.flatten.length ≤ 100000) (hch : chg d cl.flatten (l0, l1) = some (m0, m1)) :
  Calls Try.prog 51 #[.pointer (some ⟨pb, 0, none⟩), .slice A cl.length c, .int .i64 d] w fun e w' => ∃ own' u0 u1, e = .returned (.tuple #[]) ∧ PlayO w0 w' own' pb g s L f u0 u1 m0 m1 u0 u1 ca cr av TA rv D TS (.slice A cl.length c) cl E := by
 have T := aM h
 have HN := aM hn
 have HL := aM hl
 have HCH := aM hch
 have hu63 := Try.underlying63
 have hu30 := Try.underlying30
 clear h hn hl hch
 go_enter Try.func51, Try.ntmps51
 go_wp2
 go_loopw [12] (fun i W' => ∃ (j : Nat) (own : Nat → Nat) (v0 v1 : Value) (l0 l1 : List Int), i = .int .i64 j ∧ Aside0 (j ≤ cl.length ∧ chg d (cl.drop j).flatten (l0, l1) = some (m0, m1)) ∧ Aside0 (PlayO w0 W' own pb g s L f v0 v1 l0 l1 v0 v1 ca cr av TA rv D TS (.slice A cl.length c) cl E)) (fun i _ => cl.length - (intOf i).toNat)
 case atStart => exact ⟨0, own, v0, v1, l0, l1, rfl, ⟨Nat.zero_le _, by rw [List.drop_zero]; exact HCH.out⟩, T⟩
 case round =>
  clear T HCH
  obtain ⟨j, own, v0, v1, l0, l1, rfl, HJ, T⟩ := hrel
  by_cases q : j < cl.length
  ·
   have d1 : decide ((j : Int) < (cl.length : Int)) = true := decide_eq_true (by omega)
   have d2 : decide (j < cl.length) = true := decide_eq_true q
   have p0 : (0 : Int) ≤ (j : Int) := by omega
   have p1 : (j : Int) < (cl.length : Int) := by omega
   have hw : wrap64 ((j : Int) + 1) = (j : Int) + 1 := by have := HN.out; simp only [wrap64]; omega
   obtain ⟨l, hl⟩ : ∃ l, cl[j]? = some l := ⟨_, List.getElem?_eq_getElem q⟩
   obtain ⟨rb, cs, ea, hb⟩ := T.out.curBlk rfl (Nat.lt_of_le_of_lt (Nat.zero_le _) q)
   subst ea
   obtain ⟨A1, c1, hcs, -⟩ := T.out.rowAt rfl hl hb
   have hcell := (blk_cell hb j).trans hcs
   have HB := aM hb
   have HCS := aM hcs
   have HLJ := aM hl
   have HLL : Aside0 (l.length ≤ 100000) := ⟨by have h_ := flat_mem cl j l hl; have := HL.out; omega⟩
   obtain ⟨rest, hrest⟩ : ∃ rest, (cl.drop (j + 1)).flatten = rest := ⟨_, rfl⟩
   have HDR : Aside0 ((cl.drop j).flatten = l ++ rest) := ⟨by rw [← hrest, ← List.getElem_cons_drop q, List.flatten_cons]; congr 1; rw [List.getElem?_eq_getElem q] at hl; exact Option.some.inj hl⟩
   have HRS := aM hrest
   rw [HDR.out] at HJ
   clear hl hb hcs hrest HDR
   go_upto_region 3 with (fail)
   clear hcell
   go_wp2
   go_loopw [18] (fun i W' => ∃ (t : Nat) (own : Nat → Nat) (v0 v1 : Value) (l0 l1 : List Int), i = .int .i64 t ∧ Aside0 (t ≤ l.length ∧ chg d (l.drop t ++ rest) (l0, l1) = some (m0, m1)) ∧ Aside0 (PlayO w0 W' own pb g s L f v0 v1 l0 l1 v0 v1 ca cr av TA rv D TS (.slice (some ⟨rb, 0, none⟩) cl.length c) cl E) ∧ Aside0 (W'.heap[rb]? = some (.cells cs 28 (0, 0)))) (fun i _ => l.length - (intOf i).toNat)
   case atStart => exact ⟨0, own, v0, v1, l0, l1, rfl, ⟨Nat.zero_le _, by rw [List.drop_zero]; exact HJ.out.2⟩, T, HB⟩
   case round =>
    clear T HJ HB
    obtain ⟨t, own, v0, v1, l0, l1, rfl, HI, T, HB⟩ := hrel
    by_cases q2 : t < l.length
    ·
     have e1 : decide ((t : Int) < (l.length : Int)) = true := decide_eq_true (by omega)
     have e2 : decide (t < l.length) = true := decide_eq_true q2
     have t0 : (0 : Int) ≤ (t : Int) := by omega
     have t1 : (t : Int) < (l.length : Int) := by omega
     have hwt : wrap64 ((t : Int) + 1) = (t : Int) + 1 := by have := HLL.out; simp only [wrap64]; omega
     have hR := T.out.rowIs rfl HLJ.out HB.out HCS.out
     obtain ⟨x, hx⟩ : ∃ x, l[t]? = some x := ⟨_, List.getElem?_eq_getElem q2⟩
     obtain ⟨ad, ea, hcx⟩ := Kd.at_int (Kd.R_reads' hR).2.2 (t : Int) t0 t1
     subst ea
     have hrd : rd l (t : Int) = x := by simp [rd, List.getD_eq_getElem?_getD, hx]
     rw [hrd, Int.toNat_natCast] at hcx
     have hdr : l.drop t = x :: l.drop (t + 1) := by rw [← List.getElem_cons_drop q2]; congr 1; rw [List.getElem?_eq_getElem q2] at hx; exact Option.some.inj hx
     have hch := HI.out.2
     rw [hdr, List.cons_append, chg] at hch
     obtain ⟨⟨r0, r1, r2⟩, hc1, hc2⟩ := Option.bind_eq_some_iff.mp hch
     have HC1 := aM hc1
     have HC2 := aM hc2
     obtain ⟨A0, c0, rfl⟩ := Kd.R_slice T.out.X.r0
     obtain ⟨Ab, cb, rfl⟩ := Kd.R_slice T.out.X.r1
     have hz := T.out.cells
     clear hch hc1 hc2 hdr hrd hR hx
     go_upto_region 6 with (fail)
     clear hcx
     go_upto_region 7 with (go_at_call 42; (refine (credenzaref10_Pool_Change.calls _ _ l0 _ _ l1 x d r0 r1 r2 w0 _ T.out.HB T.out.X.r0 T.out.X.ne T.out.X.r1 (fun k_ h1 h2 => T.out.X.ne k_ h2 h1) HC1.out).mono ?_); rintro e w4 ⟨u0, u1, rfl, h0, h1, hb, hkp⟩; obtain ⟨B0, d0, rfl⟩ := Kd.R_slice h0; obtain ⟨B1, d1_, rfl⟩ := Kd.R_slice h1; replace HB := aM (T.out.ref_blk hkp HB.out (by decide)); obtain ⟨own2, hT⟩ := T.out.ref hkp (XAt.of h0 h1) (XAt.own_of (B' := 0) h0 h1) hb; replace T := aM hT; clear hz h0 h1 hb hkp hT; have hz := T.out.cells)
     replace HB := aM (T.out.setX_blk HB.out (by decide) (.slice B0 r0.length d0) (.slice B1 r1.length d1_))
     replace T := aM (T.out.setX (.slice B0 r0.length d0) (.slice B1 r1.length d1_))
     clear hz
     generalize (w4.setCell ⟨pb, 1, none⟩ (.slice B0 r0.length d0)).setCell ⟨pb, 2, none⟩ (.slice B1 r1.length d1_) = w5 at T HB ⊢
     go_wp2
     rw [hwt]
     exact ⟨⟨t + 1, own2, _, _, r0, r1, rfl, ⟨q2, HC2.out⟩, T, HB⟩, by simp only [intOf]; omega⟩
    ·
     have e1 : decide ((t : Int) < (l.length : Int)) = false := decide_eq_false (by omega)
     have e2 : decide (t < l.length) = false := decide_eq_false q2
     obtain rfl : t = l.length := by have := HI.out.1; omega
     have HI2 : Aside0 (chg d (cl.drop (j + 1)).flatten (l0, l1) = some (m0, m1)) := ⟨by have h_ := HI.out.2; rw [List.drop_length, List.nil_append] at h_; rw [HRS.out]; exact h_⟩
     go_wp2
     rw [hw]
     exact ⟨⟨j + 1, own, v0, v1, l0, l1, rfl, ⟨q, HI2.out⟩, T⟩, by simp only [intOf]; omega⟩
  ·
   have d1 : decide ((j : Int) < (cl.length : Int)) = false := decide_eq_false (by omega)
   have d2 : decide (j < cl.length) = false := decide_eq_false q
   obtain rfl : j = cl.length := by have := HJ.out.1; omega
   have hch := HJ.out.2
   rw [List.drop_length] at hch
   obtain ⟨rfl, rfl⟩ : l0 = m0 ∧ l1 = m1 := by simpa [chg] using hch
   clear hch
   go_wp2
   refine bodyPost_end (results_none rfl _ _ _) rfl ?_
   exact ⟨own, v0, v1, rfl, T.out⟩
end
def pst25.T25 : Bool × List (List Nat × List Nat) := (true, [([], []), ([0], [0]), ([1], [1]), ([2], [2]), ([], []), ([], []), ([5], [5]), ([6, 6], [6]), ([3, 4, 0, 1, 2, 3, 4, 5, 6, 7], [3, 4]), ([8, 7, 0, 1, 2, 3, 4, 5, 6, 7], [7, 8])])
def pst25.B25 : List Nat := [0, 1, 3, 7, 0, 0, 32, 96, 255, 511]
theorem pst25.tab25 : rtab .any (opsOf Try.f30 25) = pst25.T25 := by kernel_rfl
theorem pst25.bits25 : waitsOk pst25.T25.2 pst25.B25 = true := by kernel_rfl
def pst1.T1 : Bool × List (List Nat × List Nat) := (true, [([], []), ([0], [0]), ([1], [1]), ([], []), ([3], [3]), ([4], [4]), ([5], [5]), ([6], [6]), ([2, 7], [2, 7]), ([8, 0, 1, 2, 3, 4, 5, 6, 7, 8], [8])])
def pst1.B1 : List Nat := [0, 1, 3, 0, 8, 24, 56, 120, 255, 511]
theorem pst1.tab1 : rtab .any (opsOf Try.f30 1) = pst1.T1 := by kernel_rfl
theorem pst1.bits1 : waitsOk pst1.T1.2 pst1.B1 = true := by kernel_rfl
def pst2.T2 : Bool × List (List Nat × List Nat) := (true, [([], []), ([0], [0]), ([1], [1]), ([2], [2]), ([], []), ([3, 4], [3, 4]), ([5], [5]), ([], []), ([7], [7]), ([8], [8]), ([9], [9]), ([], []), ([10, 11], [10, 11]), ([12], [12]), ([6, 0, 1, 2, 3, 4, 5, 6], [6]), ([13, 14, 0, 1, 2, 3, 4, 5, 6, 7, 8, 9, 10, 11, 12, 13, 14], [13])])
def pst2.B2 : List Nat := [0, 1, 3, 7, 0, 31, 63, 0, 128, 384, 896, 0, 3968, 8064, 127, 32767]
theorem pst2.tab2 : rtab .any (opsOf Try.f30 2) = pst2.T2 := by kernel_rfl
theorem pst2.bits2 : waitsOk pst2.T2.2 pst2.B2 = true := by kernel_rfl
theorem cell_dr {W : World} {a : Addr} {u : Value} (h : W.cell? a = some u) : W.drew.cell? a = some u := ((below_drew1 (Below.refl W.heap.size W)).cell (World.block_lt_of_cell? W _ h)).trans h
theorem Kept.weak {W W' : World} {S S' : Nat → Prop} (h : Kept W W' S) (hs : ∀ k, S k → S' k) : Kept W W' S' := ⟨h.1, fun k hk hn => h.2 k hk (fun e => hn (hs k e))⟩
section
variable {w0 W W' w : World} {own : Nat → Nat} {pb g s : Nat} {L L' : List Slot} {f f' : Int} {v0 v1 u0 u1 : Value} {l0 l1 m0 m1 : List Int} {x0 x1 ca cr av av1 : Value} {TA : List Nat} {rv rv1 : Value} {D : List (List (List Int))} {TS : List Tab} {cv cv1 : Value} {cl cl1 : List (List Int)} {E : List (Nat × Array Value)}
theorem PlayO.cellA (h : PlayO w0 W own pb g s L f v0 v1 l0 l1 x0 x1 ca cr av TA rv D TS cv cl E) {ab n c i b : Nat} (hr : av = .slice (some ⟨ab, 0, none⟩) n c) (hd : TA[i]? = some b) : W.cell? ⟨ab, i, none⟩ = some (.pointer (some ⟨b, 0, none⟩)) := by
 obtain ⟨ab2, e, -, hc⟩ := h.ptr hr hd
 obtain rfl : ab = ab2 := by injection e with e; injection e
 exact hc
theorem PlayO.unbox (h : PlayO w0 W own pb g s L f v0 v1 l0 l1 x0 x1 ca cr av TA rv D TS cv cl E) : PlayO w0 W own pb g s L f v0 v1 l0 l1 x0 x1 ca cr av TA rv D TS (.slice none 0 0) [] [] := ⟨h.P, h.X, h.hp, h.A, h.R, Kd.R_nil _ _ _ _ _, h.ht, h.lt, h.lx, fun _ _ hm => (by cases hm), h.HB, h.gg, h.gs, h.gp⟩
theorem map_set_same {α β : Type} (f : α → β) {l : List α} {i : Nat} {x y : α} (hx : l[i]? = some x) (hy : f y = f x) : (l.set i y).map f = l.map f := by
 apply List.ext_getElem?
 intro j
 rw [List.map_set]
 by_cases e : j = i
 ·
  subst e
  rw [List.getElem?_set_self (by rw [List.length_map]; exact (List.getElem?_eq_some_iff.mp hx).1), List.getElem?_map, hx, hy]
  rfl
 ·
  rw [List.getElem?_set_ne (fun q => e q.symm)]
theorem copied_go (cl : List (List Int)) (hn : cl.length ≤ 1000) (hl : cl.flatten.length ≤ 100000) : ∀ (d n kk : Nat), n + d = cl.length → d < kk → credenzalaw11_copied.l0 kk (cl.take n) cl (cl.length : Int) (n : Int) = some cl
 | 0, n, kk + 1, hd, _ => by
  rw [credenzalaw11_copied.l0, if_neg (by omega), List.take_of_length_le (by omega)]
 | d + 1, n, kk + 1, hd, hk => by
  obtain ⟨x, hx⟩ : ∃ x, cl[n]? = some x := ⟨_, List.getElem?_eq_getElem (by omega)⟩
  have hm := flat_mem cl n x hx
  have hr : rd_L4 cl (n : Int) = x := by simp [rd_L4, rdOf, List.getD_eq_getElem?_getD, hx]
  have ht : cl.take (n + 1) = cl.take n ++ [x] := by
   rw [List.take_succ_eq_append_getElem (by omega)]
   congr 1
   rw [List.getElem?_eq_getElem (by omega)] at hx
   rw [Option.some.inj hx]
  rw [credenzalaw11_copied.l0, if_pos (by omega), if_pos (by omega), if_pos (by omega), Option.bind_some, hr, if_pos (by simp; omega), if_pos (by rw [List.length_take]; omega), List.nil_append, w64n n (by omega), ← ht]
  exact copied_go cl hn hl d (n + 1) kk (by omega) (by omega)
theorem copied_ref (cl : List (List Int)) (hn : cl.length ≤ 190) (hl : cl.flatten.length ≤ 100000) : credenzalaw11_copied.f 200 cl = some cl := by
 unfold credenzalaw11_copied.f
 exact copied_go cl (by omega) hl cl.length 0 200 (by omega) (by omega)
theorem drops_chg {L L' : List Slot} {f f' : Int} {ids : List Int} (hL : L.length ≤ 190) (hr : ∀ x ∈ L, 0 ≤ x.refs ∧ x.refs ≤ 100000) (h : DropsI L f ids L' f') : chg (-1) ids (RR L, MM L) = some (RR L', MM L') ∧ L'.length ≤ 190 ∧ ∀ x ∈ L', 0 ≤ x.refs ∧ x.refs ≤ 100000 := by
 induction h with
 | nil => exact ⟨rfl, hL, hr⟩
 | snoc _ hd ih =>
  obtain ⟨h1, h2, h3⟩ := ih
  have hd' := dropR_ref h2 h3 hd
  refine ⟨by rw [chg_append, h1]; show chg (-1) [_] _ = _; rw [chg, hd']; rfl, ?_, ?_⟩
  ·
   rcases hd with ⟨n, x, rfl, hx, hz, rfl, -, -⟩ | ⟨-, rfl, -, -⟩
   ·
    rw [List.length_set]; exact h2
   ·
    exact h2
  ·
   rcases hd with ⟨n, x, rfl, hx, hz, rfl, -, -⟩ | ⟨-, rfl, -, -⟩
   ·
    intro y hy
    rcases List.mem_or_eq_of_mem_set hy with hy | rfl
    ·
     exact h3 y hy
    ·
     have := h3 x (List.mem_of_getElem? hx)
     by_cases q : x.refs = 1
     ·
      rw [less_zero x q]; exact ⟨Int.le_refl _, show (0 : Int) ≤ 100000 by decide⟩
     ·
      rw [less_more x q]; show 0 ≤ x.refs + -1 ∧ x.refs + -1 ≤ 100000; omega
   ·
    exact h3
theorem holds_chg {L L' : List Slot} {f f' : Int} {ids : List Int} (hL : L.length ≤ 190) (hr : ∀ x ∈ L, 0 ≤ x.refs ∧ x.refs ≤ 90000) (hl : ids.length ≤ 1000) (h : HoldsI L f ids L' f') : chg 1 ids (RR L, MM L) = some (RR L', MM L') ∧ L'.length ≤ 190 ∧ ∀ x ∈ L', 0 ≤ x.refs ∧ x.refs ≤ 100000 := by
 induction h with
 | nil => exact ⟨rfl, hL, fun x hx => by have := hr x hx; omega⟩
 | @snoc ids L1 f1 id L2 f2 e h0 hd ih =>
  rw [List.length_append, List.length_singleton] at hl
  obtain ⟨h1, h2, h3⟩ := ih (by omega)
  have htop := (HoldsI.top (HoldsI.snoc h0 hd)).2 90000 (by decide) (fun x hx => (hr x hx).2)
  rw [List.length_append, List.length_singleton] at htop
  have hd' := holdR_ref h2 h3 hd
  refine ⟨by rw [chg_append, h1]; show chg 1 [_] _ = _; rw [chg, hd']; rfl, ?_, ?_⟩
  ·
   rcases hd with ⟨n, x, rfl, hx, hz, rfl, -, -⟩ | ⟨-, rfl, -, -⟩
   ·
    rw [List.length_set]; exact h2
   ·
    exact h2
  ·
   intro y hy
   refine ⟨?_, by have := htop y hy; omega⟩
   rcases hd with ⟨n, x, rfl, hx, hz, rfl, -, -⟩ | ⟨-, rfl, -, -⟩
   ·
    rcases List.mem_or_eq_of_mem_set hy with hy | rfl
    ·
     exact (h3 y hy).1
    ·
     have := h3 x (List.mem_of_getElem? hx); show 0 ≤ x.refs + 1; omega
   ·
    exact (h3 y hy).1
/-- A play at rest. -/
def PlayAt (w0 W : World) (pb g s : Nat) (L : List Slot) (f : Int) (TS : List Tab) : Prop := ∃ own v0 v1 av rv, PlayO w0 W own pb g s L f v0 v1 (RR L) (MM L) v0 v1 av rv av (TS.map Tab.tb) rv (TS.map Tab.rows) TS (.slice none 0 0) [] []
theorem PlayO.rest (h : PlayO w0 W own pb g s L f v0 v1 (RR L) (MM L) v0 v1 av rv av TA rv D TS (.slice none 0 0) [] []) (e1 : TA = TS.map Tab.tb) (e2 : D = TS.map Tab.rows) : PlayAt w0 W pb g s L f TS := by
 subst e1 e2
 exact ⟨_, _, _, _, _, h⟩
def CleR (w0 W : World) (pb g s : Nat) (L : List Slot) (f : Int) (TS : List Tab) (i : Nat) (t : Tab) : Prop := ∃ L' f' t', DropsI L f t.rows.flatten L' f' ∧ PlayAt w0 W pb g s L' f' (TS.set i t') ∧ t'.tb = t.tb ∧ t'.rows = List.replicate t.rows.length []
end
section
variable {w0 W W' w : World} {own : Nat → Nat} {pb g s : Nat} {L L' : List Slot} {f f' : Int} {v0 v1 u0 u1 : Value} {l0 l1 m0 m1 : List Int} {x0 x1 ca cr av av1 : Value} {TA : List Nat} {rv rv1 : Value} {D : List (List (List Int))} {TS : List Tab} {cv cv1 : Value} {cl cl1 : List (List Int)} {E : List (Nat × Array Value)}
set_option maxHeartbeats 8000000 in
set_option maxRecDepth 100000 in
theorem stepClearA.calls (h : PlayAt w0 w pb g s L f TS) (i : Nat) (t : Tab) (hi : TS[i]? = some t) (Tb : Int) (hTb : (if Tb < 0 then 0 else Tb).tmod (TS.length : Int) = (i : Int)) (hT6 : TS.length ≤ 6) (Row NN : Int) (hR : 0 ≤ Row) (hf : t.rows.flatten.length ≤ 1000) (hff : f ≤ 100000) (hL : L.length ≤ 190) (hr : ∀ x ∈ L, 0 ≤ x.refs ∧ x.refs ≤ 100000) :
  Calls Try.prog 30 #[.pointer (some ⟨pb, 0, none⟩), .agg #[.int .i64 3, .int .i64 Tb, .int .i64 Row, .int .i64 NN]] w fun e w' => e = .returned (.bool true) ∧ CleR w0 w' pb g s L f TS i t := by
 have HI := aM hi
 have HT6 := aM hT6
 obtain ⟨own, v0, v1, av, rv, h⟩ := h
 obtain ⟨Aa, ac, rfl⟩ := Kd.R_slice h.A
 obtain ⟨Ar, rc, rfl⟩ := Kd.R_slice h.R
 obtain ⟨nT, hnT⟩ : ∃ n, TS.length = n := ⟨_, rfl⟩
 rw [show (List.map (fun b => [Value.pointer (some ⟨b, 0, none⟩)]) (TS.map Tab.tb)).length = nT by rw [List.length_map, List.length_map]; exact hnT, show (TS.map Tab.rows).length = nT by rw [List.length_map]; exact hnT] at h
 rw [hnT] at hTb
 have HTB := aM hTb
 have HNT := aM hnT
 have hin := (List.getElem?_eq_some_iff.mp hi).1
 have HTA : Aside0 ((TS.map Tab.tb)[i]? = some t.tb) := ⟨by rw [List.getElem?_map, hi]; rfl⟩
 obtain ⟨ab, e1, -, -⟩ := h.ptr rfl HTA.out
 obtain ⟨rb, A_, c_, e2, -, -, -⟩ := h.take rfl (show (TS.map Tab.rows)[i]? = some t.rows by rw [List.getElem?_map, hi]; rfl)
 subst e1 e2
 have hn0 : (nT = 0) = False := eq_false (by omega)
 have q0 : ((0 : Int) ≤ (i : Int)) = True := eq_true (by omega)
 have q1 : ((i : Int) < (nT : Int)) = True := eq_true (by omega)
 have q2 : (i < nT) = True := eq_true (by omega)
 have T := aM h
 have HT := aM (h.ht i t hi)
 have HN16 := aM (h.ht i t hi).hn
 have hu63 := Try.underlying63
 have hu57 := Try.underlying57
 have hu30 := Try.underlying30
 have HF := aM hf
 have HFF := aM hff
 have HCH := aM (fun (L' : List Slot) (f' : Int) (h : DropsI L f t.rows.flatten L' f') => (drops_chg hL hr h).1)
 clear hf hff hL hr
 have d1 : decide (0 ≤ Row) = true := decide_eq_true hR
 clear hR
 clear h hi hTb hT6 hnT hin A_ c_ HT
 go_enter Try.func30, Try.ntmps30
 go_upto_region 1 with (((with_reducible refine gate_dst (N := 3) rfl ?_); refine box_event ?hg (N := 3) ?hd (cs := #[.int .i64 3, .int .i64 Tb, .int .i64 Row, .int .i64 NN]) (t := 57) ?hr ?_; (case hd => rfl); (case hg => rfl); (case hr => first | (go_simp; done) | (go_simp; rfl)); intro bo hg_ wa hbox hb; replace T := aM ((T.out.below hb).box hbox); have hz := T.out.cells; have hzb := T.out.boxed; clear hbox hb hg_))
 clear hz hzb
 replace T := aM (T.out.drew)
 refine start_ (n := 10) (S := fun w' => w'.cell? ⟨bo, 1, none⟩ = some (.int .i64 Tb) ∧ w'.cell? ⟨pb, 3, none⟩ = some (.slice (some ⟨ab, 0, none⟩) nT ac)) (ds := []) #[false, false, false, false, false, false, false, false, false, false] (by kernel_rfl) rfl rfl ⟨T.out.boxed.2.1, T.out.cells.2.2.2.1⟩ (fun hHeld => ?_); refine with_tabW pst1.tab1 pst1.bits1 (fun HT_ HW_ => ?_)
 generalize wa.drew = wb at T hHeld ⊢
 refine pure_ (i := 0) (N := some 15) (v := ?_) (a' := ?_) #[true, false, false, false, false, false, false, false, false, false] rfl rfl (any_of HT_.out (by kernel_rfl)) (fun _ _ _ h => h) (Or.inl ⟨by rfl, ?_⟩) ?_ ?_
 rotate_left; exact pI; rotate_left; exact pS
 refine pure_ (i := 3) (N := some 18) (v := ?_) (a' := ?_) #[true, false, false, true, false, false, false, false, false, false] rfl rfl (any_of HT_.out (by kernel_rfl)) (fun _ _ _ h => h) (Or.inl ⟨by rfl, ?_⟩) ?_ ?_
 rotate_left; exact pI; rotate_left; exact pS
 refine pure_ (i := 4) (N := some 19) (v := ?_) (a' := ?_) #[true, false, false, true, true, false, false, false, false, false] rfl rfl (any_of HT_.out (by kernel_rfl)) (fun _ _ _ h => h) (Or.inl ⟨by rfl, ?_⟩) ?_ ?_
 rotate_left; exact pI; rotate_left; exact pS
 refine pure_ (i := 5) (N := some 20) (v := ?_) (a' := ?_) #[true, false, false, true, true, true, false, false, false, false] rfl rfl (any_of HT_.out (by kernel_rfl)) (fun _ _ _ h => h) (Or.inl ⟨by rfl, ?_⟩) ?_ ?_
 rotate_left; exact pI; rotate_left; exact pS
 refine take_ (i := 1) (N := some 16) (v := ?_) (a' := ?_) #[true, true, false, true, true, true, false, false, false, false] rfl rfl (take_ofW HT_.out HW_.out (by kernel_rfl)) (fun _ _ _ h => h) (Or.inl ⟨by rfl, ?_⟩) hHeld ?_ ?_
 rotate_left
 ·
  rintro w' ⟨s0, s1⟩
  go_simp
  with_reducible rfl
 rotate_left
 ·
  exact pS
 refine pure_ (i := 2) (N := some 17) (v := ?_) (a' := ?_) #[true, true, true, true, true, true, false, false, false, false] rfl rfl (any_of HT_.out (by kernel_rfl)) (fun _ _ _ h => h) (Or.inl ⟨by rfl, ?_⟩) ?_ ?_
 rotate_left; exact pI; rotate_left; exact pS
 refine take_ (i := 6) (N := some 21) (v := ?_) (a' := ?_) #[true, true, true, true, true, true, true, false, false, false] rfl rfl (take_ofW HT_.out HW_.out (by kernel_rfl)) (fun _ _ _ h => h) (Or.inl ⟨by rfl, ?_⟩) hHeld ?_ ?_
 rotate_left
 ·
  rintro w' ⟨s0, s1⟩
  go_simp
  with_reducible rfl
 rotate_left
 ·
  exact pS
 refine pure_ (i := 7) (N := some 22) (v := ?_) (a' := ?_) #[true, true, true, true, true, true, true, true, false, false] rfl rfl (any_of HT_.out (by kernel_rfl)) (fun _ _ _ h => h) (Or.inl ⟨by rfl, ?_⟩) ?_ ?_
 rotate_left; exact pI; rotate_left; exact pS
 refine pure_ (i := 8) (N := some 23) (v := ?_) (a' := ?_) #[true, true, true, true, true, true, true, true, true, false] rfl rfl (any_of HT_.out (by kernel_rfl)) (fun _ _ _ h => h) (Or.inl ⟨by rfl, ?_⟩) ?_ ?_
 rotate_left; exact pI; rotate_left; exact pS
 refine pure_ (i := 9) (N := some 5) (v := ?_) (a' := ?_) #[true, true, true, true, true, true, true, true, true, true] rfl rfl (any_of HT_.out (by kernel_rfl)) (fun _ _ _ h => h) (Or.inl ⟨by rfl, ?_⟩) ?_ ?_
 rotate_left; exact pI; rotate_left; exact pS
 refine done_ (done_of HT_.out (by kernel_rfl)) ?_
 generalize (if Tb < 0 then (0 : Int) else Tb) = mx at HTB ⊢
 go_upto_region 2 with (fail)
 rw [HTB.out]
 obtain ⟨rb2, Ac, cc, er, -, hcr, hT⟩ := T.out.take rfl (show (TS.map Tab.rows)[i]? = some t.rows by rw [List.getElem?_map, HI.out]; rfl)
 obtain rfl : rb = rb2 := by injection er with er; injection er
 replace T := aM hT
 have HCR := aM hcr
 clear hcr hT er
 replace T := aM (T.out.drew)
 replace HCR := aM (cell_dr HCR.out)
 refine start_ (n := 16) (S := fun w' => w'.cell? ⟨pb, 3, none⟩ = some (.slice (some ⟨ab, 0, none⟩) nT ac) ∧ w'.cell? ⟨pb, 4, none⟩ = some (.slice (some ⟨rb, 0, none⟩) nT rc) ∧ w'.cell? ⟨ab, i, none⟩ = some (.pointer (some ⟨t.tb, 0, none⟩)) ∧ w'.cell? ⟨rb, i, none⟩ = some (.slice Ac t.rows.length cc)) (ds := []) #[false, false, false, false, false, false, false, false, false, false, false, false, false, false, false, false] (by kernel_rfl) rfl rfl ⟨T.out.cells.2.2.2.1, T.out.cells.2.2.2.2.1, T.out.cellA rfl HTA.out, HCR.out⟩ (fun hHeld => ?_); refine with_tabW pst2.tab2 pst2.bits2 (fun HT_ HW_ => ?_)
 generalize wb.drew = wc at T HCR hHeld ⊢
 refine pure_ (i := 0) (N := some 24) (v := ?_) (a' := ?_) #[true, false, false, false, false, false, false, false, false, false, false, false, false, false, false, false] rfl rfl (any_of HT_.out (by kernel_rfl)) (fun _ _ _ h => h) (Or.inl ⟨by rfl, ?_⟩) ?_ ?_
 rotate_left; exact pI; rotate_left; exact pS
 refine pure_ (i := 1) (N := some 25) (v := ?_) (a' := ?_) #[true, true, false, false, false, false, false, false, false, false, false, false, false, false, false, false] rfl rfl (any_of HT_.out (by kernel_rfl)) (fun _ _ _ h => h) (Or.inl ⟨by rfl, ?_⟩) ?_ ?_
 rotate_left; exact pI; rotate_left; exact pS
 refine pure_ (i := 2) (N := some 26) (v := ?_) (a' := ?_) #[true, true, true, false, false, false, false, false, false, false, false, false, false, false, false, false] rfl rfl (any_of HT_.out (by kernel_rfl)) (fun _ _ _ h => h) (Or.inl ⟨by rfl, ?_⟩) ?_ ?_
 rotate_left; exact pI; rotate_left; exact pS
 refine pure_ (i := 4) (N := some 28) (v := ?_) (a' := ?_) #[true, true, true, false, true, false, false, false, false, false, false, false, false, false, false, false] rfl rfl (any_of HT_.out (by kernel_rfl)) (fun _ _ _ h => h) (Or.inl ⟨by rfl, ?_⟩) ?_ ?_
 rotate_left; exact pI; rotate_left; exact pS
 refine pure_ (i := 7) (N := some 31) (v := ?_) (a' := ?_) #[true, true, true, false, true, false, false, true, false, false, false, false, false, false, false, false] rfl rfl (any_of HT_.out (by kernel_rfl)) (fun _ _ _ h => h) (Or.inl ⟨by rfl, ?_⟩) ?_ ?_
 rotate_left; exact pI; rotate_left; exact pS
 refine pure_ (i := 8) (N := some 32) (v := ?_) (a' := ?_) #[true, true, true, false, true, false, false, true, true, false, false, false, false, false, false, false] rfl rfl (any_of HT_.out (by kernel_rfl)) (fun _ _ _ h => h) (Or.inl ⟨by rfl, ?_⟩) ?_ ?_
 rotate_left; exact pI; rotate_left; exact pS
 refine pure_ (i := 9) (N := some 33) (v := ?_) (a' := ?_) #[true, true, true, false, true, false, false, true, true, true, false, false, false, false, false, false] rfl rfl (any_of HT_.out (by kernel_rfl)) (fun _ _ _ h => h) (Or.inl ⟨by rfl, ?_⟩) ?_ ?_
 rotate_left; exact pI; rotate_left; exact pS
 refine pure_ (i := 11) (N := some 35) (v := ?_) (a' := ?_) #[true, true, true, false, true, false, false, true, true, true, false, true, false, false, false, false] rfl rfl (any_of HT_.out (by kernel_rfl)) (fun _ _ _ h => h) (Or.inl ⟨by rfl, ?_⟩) ?_ ?_
 rotate_left; exact pI; rotate_left; exact pS
 refine take_ (i := 3) (N := some 27) (v := ?_) (a' := ?_) #[true, true, true, true, true, false, false, true, true, true, false, true, false, false, false, false] rfl rfl (take_ofW HT_.out HW_.out (by kernel_rfl)) (fun _ _ _ h => h) (Or.inl ⟨by rfl, ?_⟩) hHeld ?_ ?_
 rotate_left
 ·
  rintro w' ⟨s0, s1, s2, s3⟩
  go_simp
  with_reducible rfl
 rotate_left
 ·
  exact pS
 refine pure_ (i := 5) (N := some 29) (v := ?_) (a' := ?_) #[true, true, true, true, true, true, false, true, true, true, false, true, false, false, false, false] rfl rfl (any_of HT_.out (by kernel_rfl)) (fun _ _ _ h => h) (Or.inl ⟨by rfl, ?_⟩) ?_ ?_
 rotate_left; exact pI; rotate_left; exact pS
 refine take_ (i := 6) (N := some 30) (v := ?_) (a' := ?_) #[true, true, true, true, true, true, true, true, true, true, false, true, false, false, false, false] rfl rfl (take_ofW HT_.out HW_.out (by kernel_rfl)) (fun _ _ _ h => h) (Or.inl ⟨by rfl, ?_⟩) hHeld ?_ ?_
 rotate_left
 ·
  rintro w' ⟨s0, s1, s2, s3⟩
  go_simp
  with_reducible rfl
 rotate_left
 ·
  exact pS
 refine pure_ (i := 14) (N := some 6) (v := ?_) (a' := ?_) #[true, true, true, true, true, true, true, true, true, true, false, true, false, false, true, false] rfl rfl (any_of HT_.out (by kernel_rfl)) (fun _ _ _ h => h) (Or.inl ⟨by rfl, ?_⟩) ?_ ?_
 rotate_left; exact pI; rotate_left; exact pS
 refine take_ (i := 10) (N := some 34) (v := ?_) (a' := ?_) #[true, true, true, true, true, true, true, true, true, true, true, true, false, false, true, false] rfl rfl (take_ofW HT_.out HW_.out (by kernel_rfl)) (fun _ _ _ h => h) (Or.inl ⟨by rfl, ?_⟩) hHeld ?_ ?_
 rotate_left
 ·
  rintro w' ⟨s0, s1, s2, s3⟩
  go_simp
  with_reducible rfl
 rotate_left
 ·
  exact pS
 refine pure_ (i := 12) (N := some 36) (v := ?_) (a' := ?_) #[true, true, true, true, true, true, true, true, true, true, true, true, true, false, true, false] rfl rfl (any_of HT_.out (by kernel_rfl)) (fun _ _ _ h => h) (Or.inl ⟨by rfl, ?_⟩) ?_ ?_
 rotate_left; exact pI; rotate_left; exact pS
 refine take_ (i := 13) (N := some 37) (v := ?_) (a' := ?_) #[true, true, true, true, true, true, true, true, true, true, true, true, true, true, true, false] rfl rfl (take_ofW HT_.out HW_.out (by kernel_rfl)) (fun _ _ _ h => h) (Or.inl ⟨by rfl, ?_⟩) hHeld ?_ ?_
 rotate_left
 ·
  rintro w' ⟨s0, s1, s2, s3⟩
  go_simp
  with_reducible rfl
 rotate_left
 ·
  exact pS
 refine pure_ (i := 15) (N := some 7) (v := ?_) (a' := ?_) #[true, true, true, true, true, true, true, true, true, true, true, true, true, true, true, true] rfl rfl (any_of HT_.out (by kernel_rfl)) (fun _ _ _ h => h) (Or.inl ⟨by rfl, ?_⟩) ?_ ?_
 rotate_left; exact pI; rotate_left; exact pS
 refine done_ (done_of HT_.out (by kernel_rfl)) ?_
 have hz := T.out.cells
 have hzb := T.out.boxed
 go_upto_region 25 with (first | (go_at_call 35; (refine (blockClear.calls (T.out.ht i t HI.out) T.out.P (below_size T.out.HB) T.out.gg T.out.gs HF.out HFF.out).mono ?_); rintro e wd ⟨L', f', rb', rfl, hdr, hp, htab, hb, hk, hrb⟩; obtain ⟨own2, hT⟩ := T.out.tab HI.out (Kept.weak hk (fun q e_ => e_.elim .inl (fun e_ => .inr (.inl e_)))) hp (T.out.HB.trans hb) htab (fun q hq => .inr (by rw [OwnR.new hq]; exact hrb)); replace T := aM hT; have DR := aM hdr; clear hz hzb hT hdr hp htab hb hk hrb; have hz := T.out.cells; have hzb := T.out.boxed) | (go_at_call 51; (refine (change.calls (-1) T.out (by have := HN16.out; omega) (by have := HF.out; omega) (HCH.out _ _ DR.out)).mono ?_); rintro e we ⟨own3, u0, u1, rfl, hT⟩; replace T := aM hT; clear hz hzb hT; have hz := T.out.cells; have hzb := T.out.boxed))
 clear hz hzb
 replace T := aM (T.out.drew)
 refine start_ (n := 10) (S := fun w' => w'.cell? ⟨pb, 4, none⟩ = some (.slice (some ⟨rb, 0, none⟩) nT rc)) (ds := [9]) #[false, false, false, false, false, false, false, false, false, false] (by kernel_rfl) rfl rfl (T.out.cells.2.2.2.2.1) (fun hHeld => ?_); refine with_tabW pst25.tab25 pst25.bits25 (fun HT_ HW_ => ?_)
 generalize we.drew = wf at T hHeld ⊢
 refine pure_ (i := 0) (N := some 153) (v := ?_) (a' := ?_) #[true, false, false, false, false, false, false, false, false, false] rfl rfl (any_of HT_.out (by kernel_rfl)) (fun _ _ _ h => h) (Or.inl ⟨by rfl, ?_⟩) ?_ ?_
 rotate_left; exact pI; rotate_left; exact pS
 refine pure_ (i := 1) (N := some 154) (v := ?_) (a' := ?_) #[true, true, false, false, false, false, false, false, false, false] rfl rfl (any_of HT_.out (by kernel_rfl)) (fun _ _ _ h => h) (Or.inl ⟨by rfl, ?_⟩) ?_ ?_
 rotate_left; exact pI; rotate_left; exact pS
 refine pure_ (i := 2) (N := some 155) (v := ?_) (a' := ?_) #[true, true, true, false, false, false, false, false, false, false] rfl rfl (any_of HT_.out (by kernel_rfl)) (fun _ _ _ h => h) (Or.inl ⟨by rfl, ?_⟩) ?_ ?_
 rotate_left; exact pI; rotate_left; exact pS
 refine pure_ (i := 4) (N := some 157) (v := ?_) (a' := ?_) #[true, true, true, false, true, false, false, false, false, false] rfl rfl (any_of HT_.out (by kernel_rfl)) (fun _ _ _ h => h) (Or.inl ⟨by rfl, ?_⟩) ?_ ?_
 rotate_left; exact pI; rotate_left; exact pS
 refine pure_ (i := 5) (N := some 158) (v := ?_) (a' := ?_) #[true, true, true, false, true, true, false, false, false, false] rfl rfl (any_of HT_.out (by kernel_rfl)) (fun _ _ _ h => h) (Or.inl ⟨by rfl, ?_⟩) ?_ ?_
 rotate_left; exact pI; rotate_left; exact pS
 refine pure_ (i := 6) (N := some 159) (v := ?_) (a' := ?_) #[true, true, true, false, true, true, true, false, false, false] rfl rfl (any_of HT_.out (by kernel_rfl)) (fun _ _ _ h => h) (Or.inl ⟨by rfl, ?_⟩) ?_ ?_
 rotate_left; exact pI; rotate_left; exact pS
 refine take_ (i := 3) (N := some 156) (v := ?_) (a' := ?_) #[true, true, true, true, true, true, true, false, false, false] rfl rfl (take_ofW HT_.out HW_.out (by kernel_rfl)) (fun _ _ _ h => h) (Or.inl ⟨by rfl, ?_⟩) hHeld ?_ ?_
 rotate_left
 ·
  intro w' s0
  go_simp
  with_reducible rfl
 rotate_left
 ·
  exact pS
 refine one_ (i := 7) (N := some 160) #[true, true, true, true, true, true, true, true, false, false] rfl rfl (one_of HT_.out (by kernel_rfl)) (by decide) (fun K hK => ?_)
 refine Kd.R_make_step (Kd.slice 3 (Kd.int .i64)) _ 28 (by rfl) rfl 70 (.tmp 159) (.tmp 159) rfl (t.rows.length : Int) rfl rfl Try.underlying70 (.slice none 0 0) 24 infoB28 rfl (by decide) (by decide) ([] : List Int) (okp := fun _ => False) ⟨_, rfl, Kd.R_nil _ _ _ _ _⟩ (fun _ hk => hk.elim) (ok := fun _ => True) trivial (by omega) ?hl (Below.refl _ _) (Nat.le_refl _) ?_
 (case hl => have := HN16.out; omega)
 intro dv wg ho hb hg hat
 rw [Int.toNat_natCast] at ho
 obtain ⟨own4, hT⟩ := T.out.fresh hb ho
 obtain ⟨Ad, cd, rfl⟩ := Kd.R_slice ho
 rw [List.length_replicate] at hT ⊢
 replace T := aM hT
 clear ho hb hg hat hT
 refine hK.out _ _ (T.out.cells.2.2.2.2.1) (fun hHeld => ?_)
 clear hK K
 refine norm_ (a' := ?_) ?_ ?_
 rotate_left
 ·
  show Act.put _ (some 160) _ = _
  simp only [Act.put, List.setIfInBounds_toArray, List.set_cons_zero, List.set_cons_succ, i64_w, i32_w, IntKind.wrap_u32]
  rfl
 refine pure_ (i := 8) (N := some 161) (v := ?_) (a' := ?_) #[true, true, true, true, true, true, true, true, true, false] rfl rfl (any_of HT_.out (by kernel_rfl)) (fun _ _ _ h => h) (Or.inl ⟨by rfl, ?_⟩) ?_ ?_
 rotate_left; exact pI; rotate_left; exact pS
 refine last_ (i := 9) (N := none) #[true, true, true, true, true, true, true, true, true, true] rfl rfl (one_of HT_.out (by kernel_rfl)) (by decide) (fun K hK => ?_)
 obtain ⟨hT, ⟨u_, hcc⟩, hcz⟩ := T.out.setRow (i := i) rfl (by rw [List.length_map, HNT.out]; exact of_eq_true q2)
 refine skip_ (w1 := ?_) (by rfl) rfl ?_ ?_
 rotate_left
 ·
  go_simp
  rfl
 replace T := aM hT
 clear hT hcc hcz
 refine hK.out _ _ ?_
 clear hK K
 refine done_ (done_of HT_.out (by kernel_rfl)) ?_
 try go_wp2
 go_ret
 exact ⟨rfl, _, _, ⟨t.tb, some ⟨rb', 0, none⟩, t.rows.length, List.replicate t.rows.length (.slice none 0 0), List.replicate t.rows.length []⟩, DR.out, T.out.unbox.rest (map_set_same Tab.tb HI.out (by rfl)).symm (by rw [List.map_set]), rfl, rfl⟩
set_option maxHeartbeats 8000000 in
set_option maxRecDepth 100000 in
theorem stepClearB.calls (h : PlayAt w0 w pb g s L f TS) (i : Nat) (t : Tab) (hi : TS[i]? = some t) (Tb : Int) (hTb : (if Tb < 0 then 0 else Tb).tmod (TS.length : Int) = (i : Int)) (hT6 : TS.length ≤ 6) (Row NN : Int) (hR : ¬ 0 ≤ Row) (hf : t.rows.flatten.length ≤ 1000) (hff : f ≤ 100000) (hL : L.length ≤ 190) (hr : ∀ x ∈ L, 0 ≤ x.refs ∧ x.refs ≤ 100000) :
  Calls Try.prog 30 #[.pointer (some ⟨pb, 0, none⟩), .agg #[.int .i64 3, .int .i64 Tb, .int .i64 Row, .int .i64 NN]] w fun e w' => e = .returned (.bool true) ∧ CleR w0 w' pb g s L f TS i t := by
 have HI := aM hi
 have HT6 := aM hT6
 obtain ⟨own, v0, v1, av, rv, h⟩ := h
 obtain ⟨Aa, ac, rfl⟩ := Kd.R_slice h.A
 obtain ⟨Ar, rc, rfl⟩ := Kd.R_slice h.R
 obtain ⟨nT, hnT⟩ : ∃ n, TS.length = n := ⟨_, rfl⟩
 rw [show (List.map (fun b => [Value.pointer (some ⟨b, 0, none⟩)]) (TS.map Tab.tb)).length = nT by rw [List.length_map, List.length_map]; exact hnT, show (TS.map Tab.rows).length = nT by rw [List.length_map]; exact hnT] at h
 rw [hnT] at hTb
 have HTB := aM hTb
 have HNT := aM hnT
 have hin := (List.getElem?_eq_some_iff.mp hi).1
 have HTA : Aside0 ((TS.map Tab.tb)[i]? = some t.tb) := ⟨by rw [List.getElem?_map, hi]; rfl⟩
 obtain ⟨ab, e1, -, -⟩ := h.ptr rfl HTA.out
 obtain ⟨rb, A_, c_, e2, -, -, -⟩ := h.take rfl (show (TS.map Tab.rows)[i]? = some t.rows by rw [List.getElem?_map, hi]; rfl)
 subst e1 e2
 have hn0 : (nT = 0) = False := eq_false (by omega)
 have q0 : ((0 : Int) ≤ (i : Int)) = True := eq_true (by omega)
 have q1 : ((i : Int) < (nT : Int)) = True := eq_true (by omega)
 have q2 : (i < nT) = True := eq_true (by omega)
 have T := aM h
 have HT := aM (h.ht i t hi)
 have HN16 := aM (h.ht i t hi).hn
 have hu63 := Try.underlying63
 have hu57 := Try.underlying57
 have hu30 := Try.underlying30
 have HF := aM hf
 have HFF := aM hff
 have HCH := aM (fun (L' : List Slot) (f' : Int) (h : DropsI L f t.rows.flatten L' f') => (drops_chg hL hr h).1)
 clear hf hff hL hr
 have d1 : decide (0 ≤ Row) = false := decide_eq_false hR
 clear hR
 clear h hi hTb hT6 hnT hin A_ c_ HT
 go_enter Try.func30, Try.ntmps30
 go_upto_region 1 with (((with_reducible refine gate_dst (N := 3) rfl ?_); refine box_event ?hg (N := 3) ?hd (cs := #[.int .i64 3, .int .i64 Tb, .int .i64 Row, .int .i64 NN]) (t := 57) ?hr ?_; (case hd => rfl); (case hg => rfl); (case hr => first | (go_simp; done) | (go_simp; rfl)); intro bo hg_ wa hbox hb; replace T := aM ((T.out.below hb).box hbox); have hz := T.out.cells; have hzb := T.out.boxed; clear hbox hb hg_))
 clear hz hzb
 replace T := aM (T.out.drew)
 refine start_ (n := 10) (S := fun w' => w'.cell? ⟨bo, 1, none⟩ = some (.int .i64 Tb) ∧ w'.cell? ⟨pb, 3, none⟩ = some (.slice (some ⟨ab, 0, none⟩) nT ac)) (ds := []) #[false, false, false, false, false, false, false, false, false, false] (by kernel_rfl) rfl rfl ⟨T.out.boxed.2.1, T.out.cells.2.2.2.1⟩ (fun hHeld => ?_); refine with_tabW pst1.tab1 pst1.bits1 (fun HT_ HW_ => ?_)
 generalize wa.drew = wb at T hHeld ⊢
 refine pure_ (i := 0) (N := some 15) (v := ?_) (a' := ?_) #[true, false, false, false, false, false, false, false, false, false] rfl rfl (any_of HT_.out (by kernel_rfl)) (fun _ _ _ h => h) (Or.inl ⟨by rfl, ?_⟩) ?_ ?_
 rotate_left; exact pI; rotate_left; exact pS
 refine pure_ (i := 3) (N := some 18) (v := ?_) (a' := ?_) #[true, false, false, true, false, false, false, false, false, false] rfl rfl (any_of HT_.out (by kernel_rfl)) (fun _ _ _ h => h) (Or.inl ⟨by rfl, ?_⟩) ?_ ?_
 rotate_left; exact pI; rotate_left; exact pS
 refine pure_ (i := 4) (N := some 19) (v := ?_) (a' := ?_) #[true, false, false, true, true, false, false, false, false, false] rfl rfl (any_of HT_.out (by kernel_rfl)) (fun _ _ _ h => h) (Or.inl ⟨by rfl, ?_⟩) ?_ ?_
 rotate_left; exact pI; rotate_left; exact pS
 refine pure_ (i := 5) (N := some 20) (v := ?_) (a' := ?_) #[true, false, false, true, true, true, false, false, false, false] rfl rfl (any_of HT_.out (by kernel_rfl)) (fun _ _ _ h => h) (Or.inl ⟨by rfl, ?_⟩) ?_ ?_
 rotate_left; exact pI; rotate_left; exact pS
 refine take_ (i := 1) (N := some 16) (v := ?_) (a' := ?_) #[true, true, false, true, true, true, false, false, false, false] rfl rfl (take_ofW HT_.out HW_.out (by kernel_rfl)) (fun _ _ _ h => h) (Or.inl ⟨by rfl, ?_⟩) hHeld ?_ ?_
 rotate_left
 ·
  rintro w' ⟨s0, s1⟩
  go_simp
  with_reducible rfl
 rotate_left
 ·
  exact pS
 refine pure_ (i := 2) (N := some 17) (v := ?_) (a' := ?_) #[true, true, true, true, true, true, false, false, false, false] rfl rfl (any_of HT_.out (by kernel_rfl)) (fun _ _ _ h => h) (Or.inl ⟨by rfl, ?_⟩) ?_ ?_
 rotate_left; exact pI; rotate_left; exact pS
 refine take_ (i := 6) (N := some 21) (v := ?_) (a' := ?_) #[true, true, true, true, true, true, true, false, false, false] rfl rfl (take_ofW HT_.out HW_.out (by kernel_rfl)) (fun _ _ _ h => h) (Or.inl ⟨by rfl, ?_⟩) hHeld ?_ ?_
 rotate_left
 ·
  rintro w' ⟨s0, s1⟩
  go_simp
  with_reducible rfl
 rotate_left
 ·
  exact pS
 refine pure_ (i := 7) (N := some 22) (v := ?_) (a' := ?_) #[true, true, true, true, true, true, true, true, false, false] rfl rfl (any_of HT_.out (by kernel_rfl)) (fun _ _ _ h => h) (Or.inl ⟨by rfl, ?_⟩) ?_ ?_
 rotate_left; exact pI; rotate_left; exact pS
 refine pure_ (i := 8) (N := some 23) (v := ?_) (a' := ?_) #[true, true, true, true, true, true, true, true, true, false] rfl rfl (any_of HT_.out (by kernel_rfl)) (fun _ _ _ h => h) (Or.inl ⟨by rfl, ?_⟩) ?_ ?_
 rotate_left; exact pI; rotate_left; exact pS
 refine pure_ (i := 9) (N := some 5) (v := ?_) (a' := ?_) #[true, true, true, true, true, true, true, true, true, true] rfl rfl (any_of HT_.out (by kernel_rfl)) (fun _ _ _ h => h) (Or.inl ⟨by rfl, ?_⟩) ?_ ?_
 rotate_left; exact pI; rotate_left; exact pS
 refine done_ (done_of HT_.out (by kernel_rfl)) ?_
 generalize (if Tb < 0 then (0 : Int) else Tb) = mx at HTB ⊢
 go_upto_region 2 with (fail)
 rw [HTB.out]
 obtain ⟨rb2, Ac, cc, er, -, hcr, hT⟩ := T.out.take rfl (show (TS.map Tab.rows)[i]? = some t.rows by rw [List.getElem?_map, HI.out]; rfl)
 obtain rfl : rb = rb2 := by injection er with er; injection er
 replace T := aM hT
 have HCR := aM hcr
 clear hcr hT er
 replace T := aM (T.out.drew)
 replace HCR := aM (cell_dr HCR.out)
 refine start_ (n := 16) (S := fun w' => w'.cell? ⟨pb, 3, none⟩ = some (.slice (some ⟨ab, 0, none⟩) nT ac) ∧ w'.cell? ⟨pb, 4, none⟩ = some (.slice (some ⟨rb, 0, none⟩) nT rc) ∧ w'.cell? ⟨ab, i, none⟩ = some (.pointer (some ⟨t.tb, 0, none⟩)) ∧ w'.cell? ⟨rb, i, none⟩ = some (.slice Ac t.rows.length cc)) (ds := []) #[false, false, false, false, false, false, false, false, false, false, false, false, false, false, false, false] (by kernel_rfl) rfl rfl ⟨T.out.cells.2.2.2.1, T.out.cells.2.2.2.2.1, T.out.cellA rfl HTA.out, HCR.out⟩ (fun hHeld => ?_); refine with_tabW pst2.tab2 pst2.bits2 (fun HT_ HW_ => ?_)
 generalize wb.drew = wc at T HCR hHeld ⊢
 refine pure_ (i := 0) (N := some 24) (v := ?_) (a' := ?_) #[true, false, false, false, false, false, false, false, false, false, false, false, false, false, false, false] rfl rfl (any_of HT_.out (by kernel_rfl)) (fun _ _ _ h => h) (Or.inl ⟨by rfl, ?_⟩) ?_ ?_
 rotate_left; exact pI; rotate_left; exact pS
 refine pure_ (i := 1) (N := some 25) (v := ?_) (a' := ?_) #[true, true, false, false, false, false, false, false, false, false, false, false, false, false, false, false] rfl rfl (any_of HT_.out (by kernel_rfl)) (fun _ _ _ h => h) (Or.inl ⟨by rfl, ?_⟩) ?_ ?_
 rotate_left; exact pI; rotate_left; exact pS
 refine pure_ (i := 2) (N := some 26) (v := ?_) (a' := ?_) #[true, true, true, false, false, false, false, false, false, false, false, false, false, false, false, false] rfl rfl (any_of HT_.out (by kernel_rfl)) (fun _ _ _ h => h) (Or.inl ⟨by rfl, ?_⟩) ?_ ?_
 rotate_left; exact pI; rotate_left; exact pS
 refine pure_ (i := 4) (N := some 28) (v := ?_) (a' := ?_) #[true, true, true, false, true, false, false, false, false, false, false, false, false, false, false, false] rfl rfl (any_of HT_.out (by kernel_rfl)) (fun _ _ _ h => h) (Or.inl ⟨by rfl, ?_⟩) ?_ ?_
 rotate_left; exact pI; rotate_left; exact pS
 refine pure_ (i := 7) (N := some 31) (v := ?_) (a' := ?_) #[true, true, true, false, true, false, false, true, false, false, false, false, false, false, false, false] rfl rfl (any_of HT_.out (by kernel_rfl)) (fun _ _ _ h => h) (Or.inl ⟨by rfl, ?_⟩) ?_ ?_
 rotate_left; exact pI; rotate_left; exact pS
 refine pure_ (i := 8) (N := some 32) (v := ?_) (a' := ?_) #[true, true, true, false, true, false, false, true, true, false, false, false, false, false, false, false] rfl rfl (any_of HT_.out (by kernel_rfl)) (fun _ _ _ h => h) (Or.inl ⟨by rfl, ?_⟩) ?_ ?_
 rotate_left; exact pI; rotate_left; exact pS
 refine pure_ (i := 9) (N := some 33) (v := ?_) (a' := ?_) #[true, true, true, false, true, false, false, true, true, true, false, false, false, false, false, false] rfl rfl (any_of HT_.out (by kernel_rfl)) (fun _ _ _ h => h) (Or.inl ⟨by rfl, ?_⟩) ?_ ?_
 rotate_left; exact pI; rotate_left; exact pS
 refine pure_ (i := 11) (N := some 35) (v := ?_) (a' := ?_) #[true, true, true, false, true, false, false, true, true, true, false, true, false, false, false, false] rfl rfl (any_of HT_.out (by kernel_rfl)) (fun _ _ _ h => h) (Or.inl ⟨by rfl, ?_⟩) ?_ ?_
 rotate_left; exact pI; rotate_left; exact pS
 refine take_ (i := 3) (N := some 27) (v := ?_) (a' := ?_) #[true, true, true, true, true, false, false, true, true, true, false, true, false, false, false, false] rfl rfl (take_ofW HT_.out HW_.out (by kernel_rfl)) (fun _ _ _ h => h) (Or.inl ⟨by rfl, ?_⟩) hHeld ?_ ?_
 rotate_left
 ·
  rintro w' ⟨s0, s1, s2, s3⟩
  go_simp
  with_reducible rfl
 rotate_left
 ·
  exact pS
 refine pure_ (i := 5) (N := some 29) (v := ?_) (a' := ?_) #[true, true, true, true, true, true, false, true, true, true, false, true, false, false, false, false] rfl rfl (any_of HT_.out (by kernel_rfl)) (fun _ _ _ h => h) (Or.inl ⟨by rfl, ?_⟩) ?_ ?_
 rotate_left; exact pI; rotate_left; exact pS
 refine take_ (i := 6) (N := some 30) (v := ?_) (a' := ?_) #[true, true, true, true, true, true, true, true, true, true, false, true, false, false, false, false] rfl rfl (take_ofW HT_.out HW_.out (by kernel_rfl)) (fun _ _ _ h => h) (Or.inl ⟨by rfl, ?_⟩) hHeld ?_ ?_
 rotate_left
 ·
  rintro w' ⟨s0, s1, s2, s3⟩
  go_simp
  with_reducible rfl
 rotate_left
 ·
  exact pS
 refine pure_ (i := 14) (N := some 6) (v := ?_) (a' := ?_) #[true, true, true, true, true, true, true, true, true, true, false, true, false, false, true, false] rfl rfl (any_of HT_.out (by kernel_rfl)) (fun _ _ _ h => h) (Or.inl ⟨by rfl, ?_⟩) ?_ ?_
 rotate_left; exact pI; rotate_left; exact pS
 refine take_ (i := 10) (N := some 34) (v := ?_) (a' := ?_) #[true, true, true, true, true, true, true, true, true, true, true, true, false, false, true, false] rfl rfl (take_ofW HT_.out HW_.out (by kernel_rfl)) (fun _ _ _ h => h) (Or.inl ⟨by rfl, ?_⟩) hHeld ?_ ?_
 rotate_left
 ·
  rintro w' ⟨s0, s1, s2, s3⟩
  go_simp
  with_reducible rfl
 rotate_left
 ·
  exact pS
 refine pure_ (i := 12) (N := some 36) (v := ?_) (a' := ?_) #[true, true, true, true, true, true, true, true, true, true, true, true, true, false, true, false] rfl rfl (any_of HT_.out (by kernel_rfl)) (fun _ _ _ h => h) (Or.inl ⟨by rfl, ?_⟩) ?_ ?_
 rotate_left; exact pI; rotate_left; exact pS
 refine take_ (i := 13) (N := some 37) (v := ?_) (a' := ?_) #[true, true, true, true, true, true, true, true, true, true, true, true, true, true, true, false] rfl rfl (take_ofW HT_.out HW_.out (by kernel_rfl)) (fun _ _ _ h => h) (Or.inl ⟨by rfl, ?_⟩) hHeld ?_ ?_
 rotate_left
 ·
  rintro w' ⟨s0, s1, s2, s3⟩
  go_simp
  with_reducible rfl
 rotate_left
 ·
  exact pS
 refine pure_ (i := 15) (N := some 7) (v := ?_) (a' := ?_) #[true, true, true, true, true, true, true, true, true, true, true, true, true, true, true, true] rfl rfl (any_of HT_.out (by kernel_rfl)) (fun _ _ _ h => h) (Or.inl ⟨by rfl, ?_⟩) ?_ ?_
 rotate_left; exact pI; rotate_left; exact pS
 refine done_ (done_of HT_.out (by kernel_rfl)) ?_
 have hz := T.out.cells
 have hzb := T.out.boxed
 go_upto_region 25 with (first | (go_at_call 35; (refine (blockClear.calls (T.out.ht i t HI.out) T.out.P (below_size T.out.HB) T.out.gg T.out.gs HF.out HFF.out).mono ?_); rintro e wd ⟨L', f', rb', rfl, hdr, hp, htab, hb, hk, hrb⟩; obtain ⟨own2, hT⟩ := T.out.tab HI.out (Kept.weak hk (fun q e_ => e_.elim .inl (fun e_ => .inr (.inl e_)))) hp (T.out.HB.trans hb) htab (fun q hq => .inr (by rw [OwnR.new hq]; exact hrb)); replace T := aM hT; have DR := aM hdr; clear hz hzb hT hdr hp htab hb hk hrb; have hz := T.out.cells; have hzb := T.out.boxed) | (go_at_call 51; (refine (change.calls (-1) T.out (by have := HN16.out; omega) (by have := HF.out; omega) (HCH.out _ _ DR.out)).mono ?_); rintro e we ⟨own3, u0, u1, rfl, hT⟩; replace T := aM hT; clear hz hzb hT; have hz := T.out.cells; have hzb := T.out.boxed))
 clear hz hzb
 replace T := aM (T.out.drew)
 refine start_ (n := 10) (S := fun w' => w'.cell? ⟨pb, 4, none⟩ = some (.slice (some ⟨rb, 0, none⟩) nT rc)) (ds := [9]) #[false, false, false, false, false, false, false, false, false, false] (by kernel_rfl) rfl rfl (T.out.cells.2.2.2.2.1) (fun hHeld => ?_); refine with_tabW pst25.tab25 pst25.bits25 (fun HT_ HW_ => ?_)
 generalize we.drew = wf at T hHeld ⊢
 refine pure_ (i := 0) (N := some 153) (v := ?_) (a' := ?_) #[true, false, false, false, false, false, false, false, false, false] rfl rfl (any_of HT_.out (by kernel_rfl)) (fun _ _ _ h => h) (Or.inl ⟨by rfl, ?_⟩) ?_ ?_
 rotate_left; exact pI; rotate_left; exact pS
 refine pure_ (i := 1) (N := some 154) (v := ?_) (a' := ?_) #[true, true, false, false, false, false, false, false, false, false] rfl rfl (any_of HT_.out (by kernel_rfl)) (fun _ _ _ h => h) (Or.inl ⟨by rfl, ?_⟩) ?_ ?_
 rotate_left; exact pI; rotate_left; exact pS
 refine pure_ (i := 2) (N := some 155) (v := ?_) (a' := ?_) #[true, true, true, false, false, false, false, false, false, false] rfl rfl (any_of HT_.out (by kernel_rfl)) (fun _ _ _ h => h) (Or.inl ⟨by rfl, ?_⟩) ?_ ?_
 rotate_left; exact pI; rotate_left; exact pS
 refine pure_ (i := 4) (N := some 157) (v := ?_) (a' := ?_) #[true, true, true, false, true, false, false, false, false, false] rfl rfl (any_of HT_.out (by kernel_rfl)) (fun _ _ _ h => h) (Or.inl ⟨by rfl, ?_⟩) ?_ ?_
 rotate_left; exact pI; rotate_left; exact pS
 refine pure_ (i := 5) (N := some 158) (v := ?_) (a' := ?_) #[true, true, true, false, true, true, false, false, false, false] rfl rfl (any_of HT_.out (by kernel_rfl)) (fun _ _ _ h => h) (Or.inl ⟨by rfl, ?_⟩) ?_ ?_
 rotate_left; exact pI; rotate_left; exact pS
 refine pure_ (i := 6) (N := some 159) (v := ?_) (a' := ?_) #[true, true, true, false, true, true, true, false, false, false] rfl rfl (any_of HT_.out (by kernel_rfl)) (fun _ _ _ h => h) (Or.inl ⟨by rfl, ?_⟩) ?_ ?_
 rotate_left; exact pI; rotate_left; exact pS
 refine take_ (i := 3) (N := some 156) (v := ?_) (a' := ?_) #[true, true, true, true, true, true, true, false, false, false] rfl rfl (take_ofW HT_.out HW_.out (by kernel_rfl)) (fun _ _ _ h => h) (Or.inl ⟨by rfl, ?_⟩) hHeld ?_ ?_
 rotate_left
 ·
  intro w' s0
  go_simp
  with_reducible rfl
 rotate_left
 ·
  exact pS
 refine one_ (i := 7) (N := some 160) #[true, true, true, true, true, true, true, true, false, false] rfl rfl (one_of HT_.out (by kernel_rfl)) (by decide) (fun K hK => ?_)
 refine Kd.R_make_step (Kd.slice 3 (Kd.int .i64)) _ 28 (by rfl) rfl 70 (.tmp 159) (.tmp 159) rfl (t.rows.length : Int) rfl rfl Try.underlying70 (.slice none 0 0) 24 infoB28 rfl (by decide) (by decide) ([] : List Int) (okp := fun _ => False) ⟨_, rfl, Kd.R_nil _ _ _ _ _⟩ (fun _ hk => hk.elim) (ok := fun _ => True) trivial (by omega) ?hl (Below.refl _ _) (Nat.le_refl _) ?_
 (case hl => have := HN16.out; omega)
 intro dv wg ho hb hg hat
 rw [Int.toNat_natCast] at ho
 obtain ⟨own4, hT⟩ := T.out.fresh hb ho
 obtain ⟨Ad, cd, rfl⟩ := Kd.R_slice ho
 rw [List.length_replicate] at hT ⊢
 replace T := aM hT
 clear ho hb hg hat hT
 refine hK.out _ _ (T.out.cells.2.2.2.2.1) (fun hHeld => ?_)
 clear hK K
 refine norm_ (a' := ?_) ?_ ?_
 rotate_left
 ·
  show Act.put _ (some 160) _ = _
  simp only [Act.put, List.setIfInBounds_toArray, List.set_cons_zero, List.set_cons_succ, i64_w, i32_w, IntKind.wrap_u32]
  rfl
 refine pure_ (i := 8) (N := some 161) (v := ?_) (a' := ?_) #[true, true, true, true, true, true, true, true, true, false] rfl rfl (any_of HT_.out (by kernel_rfl)) (fun _ _ _ h => h) (Or.inl ⟨by rfl, ?_⟩) ?_ ?_
 rotate_left; exact pI; rotate_left; exact pS
 refine last_ (i := 9) (N := none) #[true, true, true, true, true, true, true, true, true, true] rfl rfl (one_of HT_.out (by kernel_rfl)) (by decide) (fun K hK => ?_)
 obtain ⟨hT, ⟨u_, hcc⟩, hcz⟩ := T.out.setRow (i := i) rfl (by rw [List.length_map, HNT.out]; exact of_eq_true q2)
 refine skip_ (w1 := ?_) (by rfl) rfl ?_ ?_
 rotate_left
 ·
  go_simp
  rfl
 replace T := aM hT
 clear hT hcc hcz
 refine hK.out _ _ ?_
 clear hK K
 refine done_ (done_of HT_.out (by kernel_rfl)) ?_
 try go_wp2
 go_ret
 exact ⟨rfl, _, _, ⟨t.tb, some ⟨rb', 0, none⟩, t.rows.length, List.replicate t.rows.length (.slice none 0 0), List.replicate t.rows.length []⟩, DR.out, T.out.unbox.rest (map_set_same Tab.tb HI.out (by rfl)).symm (by rw [List.map_set]), rfl, rfl⟩
end
def pst20.T20 : Bool × List (List Nat × List Nat) := (true, [([], []), ([], []), ([], []), ([2], [2]), ([3], [3]), ([4], [4]), ([], []), ([6], [6]), ([5, 7], [5, 7]), ([], []), ([9], [9]), ([10], [10]), ([11], [11]), ([], []), ([13, 8], [13]), ([14], [14]), ([12, 15, 14], [12, 15]), ([0, 0, 2, 3, 4, 5, 6, 7, 8, 12, 14, 16], [0]), ([17, 0, 2, 3, 4, 5, 6, 7, 8, 12, 14, 16], [17]), ([18, 8, 16, 0, 2, 3, 4, 5, 6, 7, 8, 12, 14, 16], [8, 18]), ([1, 0, 1, 2, 3, 4, 5, 6, 7, 8, 9, 10, 11, 12, 13, 14, 15, 16, 17, 18, 19], [1]), ([20, 0, 1, 2, 3, 4, 5, 6, 7, 8, 9, 10, 11, 12, 13, 14, 15, 16, 17, 18, 19], [20]), ([21, 16, 19, 0, 1, 2, 3, 4, 5, 6, 7, 8, 9, 10, 11, 12, 13, 14, 15, 16, 17, 18, 19], [16, 21])])
def pst20.B20 : List Nat := [0, 0, 0, 4, 12, 28, 0, 64, 252, 0, 512, 1536, 3584, 0, 8700, 25084, 65532, 131069, 262141, 524285, 1048575, 2097151, 4194303]
theorem pst20.tab20 : rtab .any (opsOf Try.f30 20) = pst20.T20 := by kernel_rfl
theorem pst20.bits20 : waitsOk pst20.T20.2 pst20.B20 = true := by kernel_rfl
theorem infoB59 : (Try.prog.info? 59).map (fun i => (i.zero, i.size, i.bytes)) = some (some (.pointer none), 1, 8) := by kernel_rfl
theorem infoB70 : (Try.prog.info? 70).map (fun i => (i.zero, i.size, i.bytes)) = some (some (.slice none 0 0), 1, 24) := by kernel_rfl
section
variable {w0 W W' w : World} {own : Nat → Nat} {pb g s : Nat} {L L' : List Slot} {f f' : Int} {v0 v1 u0 u1 : Value} {l0 l1 m0 m1 : List Int} {x0 x1 ca cr av av1 : Value} {TA : List Nat} {rv rv1 : Value} {D : List (List (List Int))} {TS : List Tab} {cv cv1 : Value} {cl cl1 : List (List Int)} {E : List (Nat × Array Value)}
def ForR (w0 W : World) (pb g s : Nat) (L : List Slot) (f : Int) (TS : List Tab) (i : Nat) (t : Tab) : Prop := ∃ L' t', HoldsI L f t.rows.flatten L' f ∧ PlayAt w0 W pb g s L' f (TS ++ [t']) ∧ t'.rows = t.rows
set_option maxHeartbeats 8000000 in
set_option maxRecDepth 100000 in
theorem stepForkA.calls (h : PlayAt w0 w pb g s L f TS) (i : Nat) (t : Tab) (hi : TS[i]? = some t) (Tb : Int) (hTb : (if Tb < 0 then 0 else Tb).tmod (TS.length : Int) = (i : Int)) (hT6 : TS.length ≤ 6) (Row NN : Int) (hR : 0 ≤ Row) (h6 : TS.length < 6) (hf : t.rows.flatten.length ≤ 1000) (hm : ∀ x ∈ L, 0 ≤ x.refs ∧ x.refs ≤ 1000) (hL : L.length ≤ 190) :
  Calls Try.prog 30 #[.pointer (some ⟨pb, 0, none⟩), .agg #[.int .i64 2, .int .i64 Tb, .int .i64 Row, .int .i64 NN]] w fun e w' => e = .returned (.bool true) ∧ ForR w0 w' pb g s L f TS i t := by
 have HI := aM hi
 have HT6 := aM hT6
 obtain ⟨own, v0, v1, av, rv, h⟩ := h
 obtain ⟨Aa, ac, rfl⟩ := Kd.R_slice h.A
 obtain ⟨Ar, rc, rfl⟩ := Kd.R_slice h.R
 obtain ⟨nT, hnT⟩ : ∃ n, TS.length = n := ⟨_, rfl⟩
 rw [show (List.map (fun b => [Value.pointer (some ⟨b, 0, none⟩)]) (TS.map Tab.tb)).length = nT by rw [List.length_map, List.length_map]; exact hnT, show (TS.map Tab.rows).length = nT by rw [List.length_map]; exact hnT] at h
 rw [hnT] at hTb
 have HTB := aM hTb
 have HNT := aM hnT
 have hin := (List.getElem?_eq_some_iff.mp hi).1
 have HTA : Aside0 ((TS.map Tab.tb)[i]? = some t.tb) := ⟨by rw [List.getElem?_map, hi]; rfl⟩
 obtain ⟨ab, e1, -, -⟩ := h.ptr rfl HTA.out
 obtain ⟨rb, A_, c_, e2, -, -, -⟩ := h.take rfl (show (TS.map Tab.rows)[i]? = some t.rows by rw [List.getElem?_map, hi]; rfl)
 subst e1 e2
 have hn0 : (nT = 0) = False := eq_false (by omega)
 have q0 : ((0 : Int) ≤ (i : Int)) = True := eq_true (by omega)
 have q1 : ((i : Int) < (nT : Int)) = True := eq_true (by omega)
 have q2 : (i < nT) = True := eq_true (by omega)
 have T := aM h
 have HT := aM (h.ht i t hi)
 have HN16 := aM (h.ht i t hi).hn
 have hu63 := Try.underlying63
 have hu57 := Try.underlying57
 have hu30 := Try.underlying30
 have HF := aM hf
 have HM : Aside0 (∀ x ∈ L, x.refs ≤ 1000) := ⟨fun x hx => (hm x hx).2⟩
 have HCH := aM (fun (L' : List Slot) (h : HoldsI L f t.rows.flatten L' f) => (holds_chg hL (fun x hx => by have := hm x hx; omega) hf h).1)
 have HCPY : Aside0 (credenzalaw11_copied.f 200 t.rows = some t.rows) := ⟨copied_ref _ (by have := (h.ht i t hi).hn; omega) (by omega)⟩
 have d6 : decide (6 ≤ nT) = false := decide_eq_false (by omega)
 have d7 : decide (6 ≤ (nT : Int)) = false := decide_eq_false (by omega)
 clear hf hm hL h6
 have d1 : decide (0 ≤ Row) = true := decide_eq_true hR
 clear hR
 clear h hi hTb hT6 hnT hin A_ c_ HT
 go_enter Try.func30, Try.ntmps30
 go_upto_region 1 with (((with_reducible refine gate_dst (N := 3) rfl ?_); refine box_event ?hg (N := 3) ?hd (cs := #[.int .i64 2, .int .i64 Tb, .int .i64 Row, .int .i64 NN]) (t := 57) ?hr ?_; (case hd => rfl); (case hg => rfl); (case hr => first | (go_simp; done) | (go_simp; rfl)); intro bo hg_ wa hbox hb; replace T := aM ((T.out.below hb).box hbox); have hz := T.out.cells; have hzb := T.out.boxed; clear hbox hb hg_))
 clear hz hzb
 replace T := aM (T.out.drew)
 refine start_ (n := 10) (S := fun w' => w'.cell? ⟨bo, 1, none⟩ = some (.int .i64 Tb) ∧ w'.cell? ⟨pb, 3, none⟩ = some (.slice (some ⟨ab, 0, none⟩) nT ac)) (ds := []) #[false, false, false, false, false, false, false, false, false, false] (by kernel_rfl) rfl rfl ⟨T.out.boxed.2.1, T.out.cells.2.2.2.1⟩ (fun hHeld => ?_); refine with_tabW pst1.tab1 pst1.bits1 (fun HT_ HW_ => ?_)
 generalize wa.drew = wb at T hHeld ⊢
 refine pure_ (i := 0) (N := some 15) (v := ?_) (a' := ?_) #[true, false, false, false, false, false, false, false, false, false] rfl rfl (any_of HT_.out (by kernel_rfl)) (fun _ _ _ h => h) (Or.inl ⟨by rfl, ?_⟩) ?_ ?_
 rotate_left; exact pI; rotate_left; exact pS
 refine pure_ (i := 3) (N := some 18) (v := ?_) (a' := ?_) #[true, false, false, true, false, false, false, false, false, false] rfl rfl (any_of HT_.out (by kernel_rfl)) (fun _ _ _ h => h) (Or.inl ⟨by rfl, ?_⟩) ?_ ?_
 rotate_left; exact pI; rotate_left; exact pS
 refine pure_ (i := 4) (N := some 19) (v := ?_) (a' := ?_) #[true, false, false, true, true, false, false, false, false, false] rfl rfl (any_of HT_.out (by kernel_rfl)) (fun _ _ _ h => h) (Or.inl ⟨by rfl, ?_⟩) ?_ ?_
 rotate_left; exact pI; rotate_left; exact pS
 refine pure_ (i := 5) (N := some 20) (v := ?_) (a' := ?_) #[true, false, false, true, true, true, false, false, false, false] rfl rfl (any_of HT_.out (by kernel_rfl)) (fun _ _ _ h => h) (Or.inl ⟨by rfl, ?_⟩) ?_ ?_
 rotate_left; exact pI; rotate_left; exact pS
 refine take_ (i := 1) (N := some 16) (v := ?_) (a' := ?_) #[true, true, false, true, true, true, false, false, false, false] rfl rfl (take_ofW HT_.out HW_.out (by kernel_rfl)) (fun _ _ _ h => h) (Or.inl ⟨by rfl, ?_⟩) hHeld ?_ ?_
 rotate_left
 ·
  rintro w' ⟨s0, s1⟩
  go_simp
  with_reducible rfl
 rotate_left
 ·
  exact pS
 refine pure_ (i := 2) (N := some 17) (v := ?_) (a' := ?_) #[true, true, true, true, true, true, false, false, false, false] rfl rfl (any_of HT_.out (by kernel_rfl)) (fun _ _ _ h => h) (Or.inl ⟨by rfl, ?_⟩) ?_ ?_
 rotate_left; exact pI; rotate_left; exact pS
 refine take_ (i := 6) (N := some 21) (v := ?_) (a' := ?_) #[true, true, true, true, true, true, true, false, false, false] rfl rfl (take_ofW HT_.out HW_.out (by kernel_rfl)) (fun _ _ _ h => h) (Or.inl ⟨by rfl, ?_⟩) hHeld ?_ ?_
 rotate_left
 ·
  rintro w' ⟨s0, s1⟩
  go_simp
  with_reducible rfl
 rotate_left
 ·
  exact pS
 refine pure_ (i := 7) (N := some 22) (v := ?_) (a' := ?_) #[true, true, true, true, true, true, true, true, false, false] rfl rfl (any_of HT_.out (by kernel_rfl)) (fun _ _ _ h => h) (Or.inl ⟨by rfl, ?_⟩) ?_ ?_
 rotate_left; exact pI; rotate_left; exact pS
 refine pure_ (i := 8) (N := some 23) (v := ?_) (a' := ?_) #[true, true, true, true, true, true, true, true, true, false] rfl rfl (any_of HT_.out (by kernel_rfl)) (fun _ _ _ h => h) (Or.inl ⟨by rfl, ?_⟩) ?_ ?_
 rotate_left; exact pI; rotate_left; exact pS
 refine pure_ (i := 9) (N := some 5) (v := ?_) (a' := ?_) #[true, true, true, true, true, true, true, true, true, true] rfl rfl (any_of HT_.out (by kernel_rfl)) (fun _ _ _ h => h) (Or.inl ⟨by rfl, ?_⟩) ?_ ?_
 rotate_left; exact pI; rotate_left; exact pS
 refine done_ (done_of HT_.out (by kernel_rfl)) ?_
 generalize (if Tb < 0 then (0 : Int) else Tb) = mx at HTB ⊢
 go_upto_region 2 with (fail)
 rw [HTB.out]
 obtain ⟨rb2, Ac, cc, er, -, hcr, hT⟩ := T.out.take rfl (show (TS.map Tab.rows)[i]? = some t.rows by rw [List.getElem?_map, HI.out]; rfl)
 obtain rfl : rb = rb2 := by injection er with er; injection er
 replace T := aM hT
 have HCR := aM hcr
 clear hcr hT er
 replace T := aM (T.out.drew)
 replace HCR := aM (cell_dr HCR.out)
 refine start_ (n := 16) (S := fun w' => w'.cell? ⟨pb, 3, none⟩ = some (.slice (some ⟨ab, 0, none⟩) nT ac) ∧ w'.cell? ⟨pb, 4, none⟩ = some (.slice (some ⟨rb, 0, none⟩) nT rc) ∧ w'.cell? ⟨ab, i, none⟩ = some (.pointer (some ⟨t.tb, 0, none⟩)) ∧ w'.cell? ⟨rb, i, none⟩ = some (.slice Ac t.rows.length cc)) (ds := []) #[false, false, false, false, false, false, false, false, false, false, false, false, false, false, false, false] (by kernel_rfl) rfl rfl ⟨T.out.cells.2.2.2.1, T.out.cells.2.2.2.2.1, T.out.cellA rfl HTA.out, HCR.out⟩ (fun hHeld => ?_); refine with_tabW pst2.tab2 pst2.bits2 (fun HT_ HW_ => ?_)
 generalize wb.drew = wc at T HCR hHeld ⊢
 refine pure_ (i := 0) (N := some 24) (v := ?_) (a' := ?_) #[true, false, false, false, false, false, false, false, false, false, false, false, false, false, false, false] rfl rfl (any_of HT_.out (by kernel_rfl)) (fun _ _ _ h => h) (Or.inl ⟨by rfl, ?_⟩) ?_ ?_
 rotate_left; exact pI; rotate_left; exact pS
 refine pure_ (i := 1) (N := some 25) (v := ?_) (a' := ?_) #[true, true, false, false, false, false, false, false, false, false, false, false, false, false, false, false] rfl rfl (any_of HT_.out (by kernel_rfl)) (fun _ _ _ h => h) (Or.inl ⟨by rfl, ?_⟩) ?_ ?_
 rotate_left; exact pI; rotate_left; exact pS
 refine pure_ (i := 2) (N := some 26) (v := ?_) (a' := ?_) #[true, true, true, false, false, false, false, false, false, false, false, false, false, false, false, false] rfl rfl (any_of HT_.out (by kernel_rfl)) (fun _ _ _ h => h) (Or.inl ⟨by rfl, ?_⟩) ?_ ?_
 rotate_left; exact pI; rotate_left; exact pS
 refine pure_ (i := 4) (N := some 28) (v := ?_) (a' := ?_) #[true, true, true, false, true, false, false, false, false, false, false, false, false, false, false, false] rfl rfl (any_of HT_.out (by kernel_rfl)) (fun _ _ _ h => h) (Or.inl ⟨by rfl, ?_⟩) ?_ ?_
 rotate_left; exact pI; rotate_left; exact pS
 refine pure_ (i := 7) (N := some 31) (v := ?_) (a' := ?_) #[true, true, true, false, true, false, false, true, false, false, false, false, false, false, false, false] rfl rfl (any_of HT_.out (by kernel_rfl)) (fun _ _ _ h => h) (Or.inl ⟨by rfl, ?_⟩) ?_ ?_
 rotate_left; exact pI; rotate_left; exact pS
 refine pure_ (i := 8) (N := some 32) (v := ?_) (a' := ?_) #[true, true, true, false, true, false, false, true, true, false, false, false, false, false, false, false] rfl rfl (any_of HT_.out (by kernel_rfl)) (fun _ _ _ h => h) (Or.inl ⟨by rfl, ?_⟩) ?_ ?_
 rotate_left; exact pI; rotate_left; exact pS
 refine pure_ (i := 9) (N := some 33) (v := ?_) (a' := ?_) #[true, true, true, false, true, false, false, true, true, true, false, false, false, false, false, false] rfl rfl (any_of HT_.out (by kernel_rfl)) (fun _ _ _ h => h) (Or.inl ⟨by rfl, ?_⟩) ?_ ?_
 rotate_left; exact pI; rotate_left; exact pS
 refine pure_ (i := 11) (N := some 35) (v := ?_) (a' := ?_) #[true, true, true, false, true, false, false, true, true, true, false, true, false, false, false, false] rfl rfl (any_of HT_.out (by kernel_rfl)) (fun _ _ _ h => h) (Or.inl ⟨by rfl, ?_⟩) ?_ ?_
 rotate_left; exact pI; rotate_left; exact pS
 refine take_ (i := 3) (N := some 27) (v := ?_) (a' := ?_) #[true, true, true, true, true, false, false, true, true, true, false, true, false, false, false, false] rfl rfl (take_ofW HT_.out HW_.out (by kernel_rfl)) (fun _ _ _ h => h) (Or.inl ⟨by rfl, ?_⟩) hHeld ?_ ?_
 rotate_left
 ·
  rintro w' ⟨s0, s1, s2, s3⟩
  go_simp
  with_reducible rfl
 rotate_left
 ·
  exact pS
 refine pure_ (i := 5) (N := some 29) (v := ?_) (a' := ?_) #[true, true, true, true, true, true, false, true, true, true, false, true, false, false, false, false] rfl rfl (any_of HT_.out (by kernel_rfl)) (fun _ _ _ h => h) (Or.inl ⟨by rfl, ?_⟩) ?_ ?_
 rotate_left; exact pI; rotate_left; exact pS
 refine take_ (i := 6) (N := some 30) (v := ?_) (a' := ?_) #[true, true, true, true, true, true, true, true, true, true, false, true, false, false, false, false] rfl rfl (take_ofW HT_.out HW_.out (by kernel_rfl)) (fun _ _ _ h => h) (Or.inl ⟨by rfl, ?_⟩) hHeld ?_ ?_
 rotate_left
 ·
  rintro w' ⟨s0, s1, s2, s3⟩
  go_simp
  with_reducible rfl
 rotate_left
 ·
  exact pS
 refine pure_ (i := 14) (N := some 6) (v := ?_) (a' := ?_) #[true, true, true, true, true, true, true, true, true, true, false, true, false, false, true, false] rfl rfl (any_of HT_.out (by kernel_rfl)) (fun _ _ _ h => h) (Or.inl ⟨by rfl, ?_⟩) ?_ ?_
 rotate_left; exact pI; rotate_left; exact pS
 refine take_ (i := 10) (N := some 34) (v := ?_) (a' := ?_) #[true, true, true, true, true, true, true, true, true, true, true, true, false, false, true, false] rfl rfl (take_ofW HT_.out HW_.out (by kernel_rfl)) (fun _ _ _ h => h) (Or.inl ⟨by rfl, ?_⟩) hHeld ?_ ?_
 rotate_left
 ·
  rintro w' ⟨s0, s1, s2, s3⟩
  go_simp
  with_reducible rfl
 rotate_left
 ·
  exact pS
 refine pure_ (i := 12) (N := some 36) (v := ?_) (a' := ?_) #[true, true, true, true, true, true, true, true, true, true, true, true, true, false, true, false] rfl rfl (any_of HT_.out (by kernel_rfl)) (fun _ _ _ h => h) (Or.inl ⟨by rfl, ?_⟩) ?_ ?_
 rotate_left; exact pI; rotate_left; exact pS
 refine take_ (i := 13) (N := some 37) (v := ?_) (a' := ?_) #[true, true, true, true, true, true, true, true, true, true, true, true, true, true, true, false] rfl rfl (take_ofW HT_.out HW_.out (by kernel_rfl)) (fun _ _ _ h => h) (Or.inl ⟨by rfl, ?_⟩) hHeld ?_ ?_
 rotate_left
 ·
  rintro w' ⟨s0, s1, s2, s3⟩
  go_simp
  with_reducible rfl
 rotate_left
 ·
  exact pS
 refine pure_ (i := 15) (N := some 7) (v := ?_) (a' := ?_) #[true, true, true, true, true, true, true, true, true, true, true, true, true, true, true, true] rfl rfl (any_of HT_.out (by kernel_rfl)) (fun _ _ _ h => h) (Or.inl ⟨by rfl, ?_⟩) ?_ ?_
 rotate_left; exact pI; rotate_left; exact pS
 refine done_ (done_of HT_.out (by kernel_rfl)) ?_
 have hz := T.out.cells
 have hzb := T.out.boxed
 go_upto_region 20 with (first | (go_at_call 31; (refine (blockFork.calls (T.out.ht i t HI.out) T.out.P (below_size T.out.HB) T.out.gg T.out.gs HF.out HM.out).mono ?_); rintro e wd ⟨L', ob, rp', rc', us, rfl, hh, hp, -, hu, hob, hown, hb, hk⟩; obtain ⟨own2, hT⟩ := T.out.fork hk hp (T.out.HB.trans hb) hu hob hown; replace T := aM hT; have HH := aM hh; clear hz hzb hT hh hp hu hob hown hb hk; have hz := T.out.cells; have hzb := T.out.boxed) | (go_at_call 51; (refine (change.calls 1 T.out (by have := HN16.out; omega) (by have := HF.out; omega) (HCH.out _ HH.out)).mono ?_); rintro e we ⟨own3, u0, u1, rfl, hT⟩; replace T := aM hT; clear hz hzb hT; have hz := T.out.cells; have hzb := T.out.boxed))
 clear hz hzb
 replace T := aM (T.out.drew)
 refine start_ (n := 23) (S := fun w' => w'.cell? ⟨pb, 3, none⟩ = some (.slice (some ⟨ab, 0, none⟩) nT ac) ∧ w'.cell? ⟨pb, 4, none⟩ = some (.slice (some ⟨rb, 0, none⟩) nT rc)) (ds := [19, 22]) #[false, false, false, false, false, false, false, false, false, false, false, false, false, false, false, false, false, false, false, false, false, false, false] (by kernel_rfl) rfl rfl ⟨T.out.cells.2.2.2.1, T.out.cells.2.2.2.2.1⟩ (fun hHeld => ?_); refine with_tabW pst20.tab20 pst20.bits20 (fun HT_ HW_ => ?_)
 generalize we.drew = wf at T hHeld ⊢
 refine pure_ (i := 0) (N := some 123) (v := ?_) (a' := ?_) #[true, false, false, false, false, false, false, false, false, false, false, false, false, false, false, false, false, false, false, false, false, false, false] rfl rfl (any_of HT_.out (by kernel_rfl)) (fun _ _ _ h => h) (Or.inl ⟨by rfl, ?_⟩) ?_ ?_
 rotate_left; exact pI; rotate_left; exact pS
 refine pure_ (i := 1) (N := some 124) (v := ?_) (a' := ?_) #[true, true, false, false, false, false, false, false, false, false, false, false, false, false, false, false, false, false, false, false, false, false, false] rfl rfl (any_of HT_.out (by kernel_rfl)) (fun _ _ _ h => h) (Or.inl ⟨by rfl, ?_⟩) ?_ ?_
 rotate_left; exact pI; rotate_left; exact pS
 refine pure_ (i := 2) (N := some 125) (v := ?_) (a' := ?_) #[true, true, true, false, false, false, false, false, false, false, false, false, false, false, false, false, false, false, false, false, false, false, false] rfl rfl (any_of HT_.out (by kernel_rfl)) (fun _ _ _ h => h) (Or.inl ⟨by rfl, ?_⟩) ?_ ?_
 rotate_left; exact pI; rotate_left; exact pS
 refine pure_ (i := 3) (N := some 126) (v := ?_) (a' := ?_) #[true, true, true, true, false, false, false, false, false, false, false, false, false, false, false, false, false, false, false, false, false, false, false] rfl rfl (any_of HT_.out (by kernel_rfl)) (fun _ _ _ h => h) (Or.inl ⟨by rfl, ?_⟩) ?_ ?_
 rotate_left; exact pI; rotate_left; exact pS
 refine pure_ (i := 4) (N := some 127) (v := ?_) (a' := ?_) #[true, true, true, true, true, false, false, false, false, false, false, false, false, false, false, false, false, false, false, false, false, false, false] rfl rfl (any_of HT_.out (by kernel_rfl)) (fun _ _ _ h => h) (Or.inl ⟨by rfl, ?_⟩) ?_ ?_
 rotate_left; exact pI; rotate_left; exact pS
 refine pure_ (i := 6) (N := some 129) (v := ?_) (a' := ?_) #[true, true, true, true, true, false, true, false, false, false, false, false, false, false, false, false, false, false, false, false, false, false, false] rfl rfl (any_of HT_.out (by kernel_rfl)) (fun _ _ _ h => h) (Or.inl ⟨by rfl, ?_⟩) ?_ ?_
 rotate_left; exact pI; rotate_left; exact pS
 refine pure_ (i := 9) (N := some 132) (v := ?_) (a' := ?_) #[true, true, true, true, true, false, true, false, false, true, false, false, false, false, false, false, false, false, false, false, false, false, false] rfl rfl (any_of HT_.out (by kernel_rfl)) (fun _ _ _ h => h) (Or.inl ⟨by rfl, ?_⟩) ?_ ?_
 rotate_left; exact pI; rotate_left; exact pS
 refine pure_ (i := 10) (N := some 133) (v := ?_) (a' := ?_) #[true, true, true, true, true, false, true, false, false, true, true, false, false, false, false, false, false, false, false, false, false, false, false] rfl rfl (any_of HT_.out (by kernel_rfl)) (fun _ _ _ h => h) (Or.inl ⟨by rfl, ?_⟩) ?_ ?_
 rotate_left; exact pI; rotate_left; exact pS
 refine pure_ (i := 11) (N := some 134) (v := ?_) (a' := ?_) #[true, true, true, true, true, false, true, false, false, true, true, true, false, false, false, false, false, false, false, false, false, false, false] rfl rfl (any_of HT_.out (by kernel_rfl)) (fun _ _ _ h => h) (Or.inl ⟨by rfl, ?_⟩) ?_ ?_
 rotate_left; exact pI; rotate_left; exact pS
 refine pure_ (i := 13) (N := some 136) (v := ?_) (a' := ?_) #[true, true, true, true, true, false, true, false, false, true, true, true, false, true, false, false, false, false, false, false, false, false, false] rfl rfl (any_of HT_.out (by kernel_rfl)) (fun _ _ _ h => h) (Or.inl ⟨by rfl, ?_⟩) ?_ ?_
 rotate_left; exact pI; rotate_left; exact pS
 refine take_ (i := 5) (N := some 128) (v := ?_) (a' := ?_) #[true, true, true, true, true, true, true, false, false, true, true, true, false, true, false, false, false, false, false, false, false, false, false] rfl rfl (take_ofW HT_.out HW_.out (by kernel_rfl)) (fun _ _ _ h => h) (Or.inl ⟨by rfl, ?_⟩) hHeld ?_ ?_
 rotate_left
 ·
  rintro w' ⟨s0, s1⟩
  go_simp
  with_reducible rfl
 rotate_left
 ·
  exact pS
 refine take_ (i := 12) (N := some 135) (v := ?_) (a' := ?_) #[true, true, true, true, true, true, true, false, false, true, true, true, true, true, false, false, false, false, false, false, false, false, false] rfl rfl (take_ofW HT_.out HW_.out (by kernel_rfl)) (fun _ _ _ h => h) (Or.inl ⟨by rfl, ?_⟩) hHeld ?_ ?_
 rotate_left
 ·
  rintro w' ⟨s0, s1⟩
  go_simp
  with_reducible rfl
 rotate_left
 ·
  exact pS
 refine one_ (i := 7) (N := some 130) #[true, true, true, true, true, true, true, true, false, true, true, true, true, true, false, false, false, false, false, false, false, false, false] rfl rfl (one_of HT_.out (by kernel_rfl)) (by decide) (fun K hK => ?_)
 refine value_ (w1 := ?_) (v := ?_) (by rfl) rfl ?_ ?_
 rotate_left 2
 ·
  go_simp
  constructor
  ·
   rfl
  ·
   rfl
 refine hK.out _ _ ⟨(T.out.below (below_alloc (Below.refl _ _) _)).cells.2.2.2.1, (T.out.below (below_alloc (Below.refl _ _) _)).cells.2.2.2.2.1⟩ (fun hHeld => ?_)
 clear hK K
 refine norm_ (a' := ?_) ?_ ?_
 rotate_left
 ·
  show Act.put _ (some 130) _ = _
  simp only [Act.put, List.setIfInBounds_toArray, List.set_cons_zero, List.set_cons_succ, i64_w, i32_w, IntKind.wrap_u32]
  rfl
 refine one_ (i := 8) (N := some 131) #[true, true, true, true, true, true, true, true, true, true, true, true, true, true, false, false, false, false, false, false, false, false, false] rfl rfl (one_of HT_.out (by kernel_rfl)) (by decide) (fun K hK => ?_)
 refine Kd.R_append_step (Kd.raw 1) (w0 := w0) w0.heap.size (by rfl) (.tmp 128) (.tmp 130) 60 59 (.pointer none) 8 rfl Try.underlying60 infoB59 rfl (by decide) (by omega) (.slice (some ⟨ab, 0, none⟩) nT ac) (List.map (fun b => [Value.pointer (some ⟨b, 0, none⟩)]) (TS.map Tab.tb)) [Value.pointer (some ⟨ob, 0, none⟩)] [Value.pointer (some ⟨ob, 0, none⟩)] (fun _ => True) (fun _ => False) rfl rfl ?aP (fun _ hk => hk.elim) ?aF ?aO T.out.HB (below_size T.out.HB) ?aL ?_
 (case aP => exact ⟨rfl, rfl, by simp [Value.oneCell']⟩)
 (case aF => exact (fun _ _ => trivial))
 (case aO => exact Kd.R_mono T.out.A (fun _ _ => trivial))
 (case aL => rw [List.length_map, List.length_map]; have := HT6.out; omega)
 intro av2 wg ho hb hg hat
 have hT := T.out.growA (ob := ob) hg ho hb
 obtain ⟨Aa2, ac2, rfl⟩ := Kd.R_slice ho
 obtain ⟨nA, hnA⟩ : ∃ n, (List.map (fun b => [Value.pointer (some ⟨b, 0, none⟩)]) (TS.map Tab.tb) ++ [[Value.pointer (some ⟨ob, 0, none⟩)]]).length = n := ⟨_, rfl⟩
 rw [hnA] at hT ⊢
 replace T := aM hT
 clear ho hb hg hat hT hnA
 refine hK.out _ _ ⟨T.out.cells.2.2.2.1, T.out.cells.2.2.2.2.1⟩ (fun hHeld => ?_)
 clear hK K
 refine norm_ (a' := ?_) ?_ ?_
 rotate_left
 ·
  show Act.put _ (some 131) _ = _
  simp only [Act.put, List.setIfInBounds_toArray, List.set_cons_zero, List.set_cons_succ, i64_w, i32_w, IntKind.wrap_u32]
  rfl
 refine one_ (i := 14) (N := some 137) #[true, true, true, true, true, true, true, true, true, true, true, true, true, true, true, false, false, false, false, false, false, false, false] rfl rfl (one_of HT_.out (by kernel_rfl)) (by decide) (fun K hK => ?_)
 refine goes_ Try.func50 (by kernel_rfl) rfl #[.slice Ac t.rows.length cc] (by rfl) rfl rfl (by simp only [List.map_toArray, List.map_cons, List.map_nil]; rfl) ?_
 with_reducible refine (credenzalaw11_copied.calls 200 Ac cc t.rows t.rows _ (Kd.R_reads' T.out.C).2.2 (Kd.R_reads' T.out.C).2.1 HCPY.out).mono ?_
 rintro e wh ⟨vc, rfl, hS, hb⟩
 refine ⟨_, rfl, ?_⟩
 obtain ⟨own5, hT⟩ := T.out.fresh hb (Kd.S_R hS)
 obtain ⟨Ad, cd, rfl⟩ := Kd.S_slice hS
 replace T := aM hT
 clear hS hb hT
 refine hK.out _ _ ⟨T.out.cells.2.2.2.1, T.out.cells.2.2.2.2.1⟩ (fun hHeld => ?_)
 clear hK K
 refine norm_ (a' := ?_) ?_ ?_
 rotate_left
 ·
  show Act.put _ (some 137) _ = _
  simp only [Act.put, List.setIfInBounds_toArray, List.set_cons_zero, List.set_cons_succ, i64_w, i32_w, IntKind.wrap_u32]
  rfl
 refine one_ (i := 15) (N := some 138) #[true, true, true, true, true, true, true, true, true, true, true, true, true, true, true, true, false, false, false, false, false, false, false] rfl rfl (one_of HT_.out (by kernel_rfl)) (by decide) (fun K hK => ?_)
 refine value_ (w1 := ?_) (v := ?_) (by rfl) rfl ?_ ?_
 rotate_left 2
 ·
  go_simp
  constructor
  ·
   rfl
  ·
   rfl
 refine hK.out _ _ ⟨(T.out.below (below_alloc (Below.refl _ _) _)).cells.2.2.2.1, (T.out.below (below_alloc (Below.refl _ _) _)).cells.2.2.2.2.1⟩ (fun hHeld => ?_)
 clear hK K
 refine norm_ (a' := ?_) ?_ ?_
 rotate_left
 ·
  show Act.put _ (some 138) _ = _
  simp only [Act.put, List.setIfInBounds_toArray, List.set_cons_zero, List.set_cons_succ, i64_w, i32_w, IntKind.wrap_u32]
  rfl
 refine one_ (i := 16) (N := some 139) #[true, true, true, true, true, true, true, true, true, true, true, true, true, true, true, true, true, false, false, false, false, false, false] rfl rfl (one_of HT_.out (by kernel_rfl)) (by decide) (fun K hK => ?_)
 refine Kd.R_append_step (Kd.slice 28 (Kd.slice 3 (Kd.int .i64))) (w0 := w0) w0.heap.size (by rfl) (.tmp 135) (.tmp 138) 61 70 (.slice none 0 0) 24 rfl Try.underlying61 infoB70 rfl (by decide) (by omega) (.slice (some ⟨rb, 0, none⟩) nT rc) (TS.map Tab.rows) t.rows [.slice Ad t.rows.length cd] (fun k_ => own5 k_ = 1 ∨ wh.heap.size ≤ k_) (fun k_ => own5 k_ = 1 ∧ some k_ ≠ Value.ownBlock (.slice (some ⟨rb, 0, none⟩) nT rc)) rfl rfl ?aP (fun _ hk => ⟨.inl hk.1, hk.2⟩) ?aF ?aO T.out.HB (below_size T.out.HB) ?aL ?_
 (case aP => exact ⟨_, rfl, Kd.R_apart' T.out.C (e' := 70) (fun k hk => Kd.R_typed T.out.R k hk) (by intro q hq; have hq' : q = 28 ∨ q = 3 := (by simpa [Kd.slice, Kd.int, Kd.scalar] using hq); rcases hq' with rfl | rfl <;> decide)⟩)
 (case aF => exact (fun _ hk => .inr hk))
 (case aO => exact Kd.R_mono T.out.R (fun _ hk => .inl hk))
 (case aL => rw [List.length_map]; have := HT6.out; omega)
 intro rv2 wj ho hb hg hat
 obtain ⟨own6, hT⟩ := T.out.growR hg ho hb
 obtain ⟨Ar2, rc2, rfl⟩ := Kd.R_slice ho
 obtain ⟨nR, hnR⟩ : ∃ n, (TS.map Tab.rows ++ [t.rows]).length = n := ⟨_, rfl⟩
 rw [hnR] at hT ⊢
 replace T := aM hT
 clear ho hb hg hat hT hnR
 refine hK.out _ _ ⟨T.out.cells.2.2.2.1, T.out.cells.2.2.2.2.1⟩ (fun hHeld => ?_)
 clear hK K
 refine norm_ (a' := ?_) ?_ ?_
 rotate_left
 ·
  show Act.put _ (some 139) _ = _
  simp only [Act.put, List.setIfInBounds_toArray, List.set_cons_zero, List.set_cons_succ, i64_w, i32_w, IntKind.wrap_u32]
  rfl
 refine pure_ (i := 17) (N := some 140) (v := ?_) (a' := ?_) #[true, true, true, true, true, true, true, true, true, true, true, true, true, true, true, true, true, true, false, false, false, false, false] rfl rfl (any_of HT_.out (by kernel_rfl)) (fun _ _ _ h => h) (Or.inl ⟨by rfl, ?_⟩) ?_ ?_
 rotate_left; exact pI; rotate_left; exact pS
 refine pure_ (i := 18) (N := some 141) (v := ?_) (a' := ?_) #[true, true, true, true, true, true, true, true, true, true, true, true, true, true, true, true, true, true, true, false, false, false, false] rfl rfl (any_of HT_.out (by kernel_rfl)) (fun _ _ _ h => h) (Or.inl ⟨by rfl, ?_⟩) ?_ ?_
 rotate_left; exact pI; rotate_left; exact pS
 refine last_ (i := 19) (N := none) #[true, true, true, true, true, true, true, true, true, true, true, true, true, true, true, true, true, true, true, true, false, false, false] rfl rfl (one_of HT_.out (by kernel_rfl)) (by decide) (fun K hK => ?_)
 have hz := T.out.cells
 refine skip_ (w1 := ?_) (by rfl) rfl ?_ ?_
 rotate_left
 ·
  go_simp
  rfl
 clear hz
 replace T := aM (T.out.put 3 (.slice Aa2 nA ac2) (y0 := u0) (y1 := u1) (y2 := .slice Aa2 nA ac2) (y3 := (.slice (some ⟨rb, 0, none⟩) nT rc)) rfl)
 have hz := T.out.cells
 refine hK.out _ _ ?_
 clear hK K
 refine pure_ (i := 20) (N := some 142) (v := ?_) (a' := ?_) #[true, true, true, true, true, true, true, true, true, true, true, true, true, true, true, true, true, true, true, true, true, false, false] rfl rfl (any_of HT_.out (by kernel_rfl)) (fun _ _ _ h => h) (Or.inl ⟨by rfl, ?_⟩) ?_ ?_
 rotate_left; exact pI; rotate_left; exact pS
 refine pure_ (i := 21) (N := some 143) (v := ?_) (a' := ?_) #[true, true, true, true, true, true, true, true, true, true, true, true, true, true, true, true, true, true, true, true, true, true, false] rfl rfl (any_of HT_.out (by kernel_rfl)) (fun _ _ _ h => h) (Or.inl ⟨by rfl, ?_⟩) ?_ ?_
 rotate_left; exact pI; rotate_left; exact pS
 refine last_ (i := 22) (N := none) #[true, true, true, true, true, true, true, true, true, true, true, true, true, true, true, true, true, true, true, true, true, true, true] rfl rfl (one_of HT_.out (by kernel_rfl)) (by decide) (fun K hK => ?_)
 refine skip_ (w1 := ?_) (by rfl) rfl ?_ ?_
 rotate_left
 ·
  go_simp
  rfl
 clear hz
 replace T := aM (T.out.put 4 (.slice Ar2 nR rc2) (y0 := u0) (y1 := u1) (y2 := .slice Aa2 nA ac2) (y3 := .slice Ar2 nR rc2) rfl)
 refine hK.out _ _ ?_
 clear hK K
 refine done_ (done_of HT_.out (by kernel_rfl)) ?_
 try go_wp2
 go_ret
 exact ⟨rfl, _, ⟨ob, rp', rc', us, t.rows⟩, HH.out, T.out.unbox.rest (by rw [List.map_append]; rfl) (by rw [List.map_append]; rfl), rfl⟩
set_option maxHeartbeats 8000000 in
set_option maxRecDepth 100000 in
theorem stepForkB.calls (h : PlayAt w0 w pb g s L f TS) (i : Nat) (t : Tab) (hi : TS[i]? = some t) (Tb : Int) (hTb : (if Tb < 0 then 0 else Tb).tmod (TS.length : Int) = (i : Int)) (hT6 : TS.length ≤ 6) (Row NN : Int) (hR : ¬ 0 ≤ Row) (h6 : TS.length < 6) (hf : t.rows.flatten.length ≤ 1000) (hm : ∀ x ∈ L, 0 ≤ x.refs ∧ x.refs ≤ 1000) (hL : L.length ≤ 190) :
  Calls Try.prog 30 #[.pointer (some ⟨pb, 0, none⟩), .agg #[.int .i64 2, .int .i64 Tb, .int .i64 Row, .int .i64 NN]] w fun e w' => e = .returned (.bool true) ∧ ForR w0 w' pb g s L f TS i t := by
 have HI := aM hi
 have HT6 := aM hT6
 obtain ⟨own, v0, v1, av, rv, h⟩ := h
 obtain ⟨Aa, ac, rfl⟩ := Kd.R_slice h.A
 obtain ⟨Ar, rc, rfl⟩ := Kd.R_slice h.R
 obtain ⟨nT, hnT⟩ : ∃ n, TS.length = n := ⟨_, rfl⟩
 rw [show (List.map (fun b => [Value.pointer (some ⟨b, 0, none⟩)]) (TS.map Tab.tb)).length = nT by rw [List.length_map, List.length_map]; exact hnT, show (TS.map Tab.rows).length = nT by rw [List.length_map]; exact hnT] at h
 rw [hnT] at hTb
 have HTB := aM hTb
 have HNT := aM hnT
 have hin := (List.getElem?_eq_some_iff.mp hi).1
 have HTA : Aside0 ((TS.map Tab.tb)[i]? = some t.tb) := ⟨by rw [List.getElem?_map, hi]; rfl⟩
 obtain ⟨ab, e1, -, -⟩ := h.ptr rfl HTA.out
 obtain ⟨rb, A_, c_, e2, -, -, -⟩ := h.take rfl (show (TS.map Tab.rows)[i]? = some t.rows by rw [List.getElem?_map, hi]; rfl)
 subst e1 e2
 have hn0 : (nT = 0) = False := eq_false (by omega)
 have q0 : ((0 : Int) ≤ (i : Int)) = True := eq_true (by omega)
 have q1 : ((i : Int) < (nT : Int)) = True := eq_true (by omega)
 have q2 : (i < nT) = True := eq_true (by omega)
 have T := aM h
 have HT := aM (h.ht i t hi)
 have HN16 := aM (h.ht i t hi).hn
 have hu63 := Try.underlying63
 have hu57 := Try.underlying57
 have hu30 := Try.underlying30
 have HF := aM hf
 have HM : Aside0 (∀ x ∈ L, x.refs ≤ 1000) := ⟨fun x hx => (hm x hx).2⟩
 have HCH := aM (fun (L' : List Slot) (h : HoldsI L f t.rows.flatten L' f) => (holds_chg hL (fun x hx => by have := hm x hx; omega) hf h).1)
 have HCPY : Aside0 (credenzalaw11_copied.f 200 t.rows = some t.rows) := ⟨copied_ref _ (by have := (h.ht i t hi).hn; omega) (by omega)⟩
 have d6 : decide (6 ≤ nT) = false := decide_eq_false (by omega)
 have d7 : decide (6 ≤ (nT : Int)) = false := decide_eq_false (by omega)
 clear hf hm hL h6
 have d1 : decide (0 ≤ Row) = false := decide_eq_false hR
 clear hR
 clear h hi hTb hT6 hnT hin A_ c_ HT
 go_enter Try.func30, Try.ntmps30
 go_upto_region 1 with (((with_reducible refine gate_dst (N := 3) rfl ?_); refine box_event ?hg (N := 3) ?hd (cs := #[.int .i64 2, .int .i64 Tb, .int .i64 Row, .int .i64 NN]) (t := 57) ?hr ?_; (case hd => rfl); (case hg => rfl); (case hr => first | (go_simp; done) | (go_simp; rfl)); intro bo hg_ wa hbox hb; replace T := aM ((T.out.below hb).box hbox); have hz := T.out.cells; have hzb := T.out.boxed; clear hbox hb hg_))
 clear hz hzb
 replace T := aM (T.out.drew)
 refine start_ (n := 10) (S := fun w' => w'.cell? ⟨bo, 1, none⟩ = some (.int .i64 Tb) ∧ w'.cell? ⟨pb, 3, none⟩ = some (.slice (some ⟨ab, 0, none⟩) nT ac)) (ds := []) #[false, false, false, false, false, false, false, false, false, false] (by kernel_rfl) rfl rfl ⟨T.out.boxed.2.1, T.out.cells.2.2.2.1⟩ (fun hHeld => ?_); refine with_tabW pst1.tab1 pst1.bits1 (fun HT_ HW_ => ?_)
 generalize wa.drew = wb at T hHeld ⊢
 refine pure_ (i := 0) (N := some 15) (v := ?_) (a' := ?_) #[true, false, false, false, false, false, false, false, false, false] rfl rfl (any_of HT_.out (by kernel_rfl)) (fun _ _ _ h => h) (Or.inl ⟨by rfl, ?_⟩) ?_ ?_
 rotate_left; exact pI; rotate_left; exact pS
 refine pure_ (i := 3) (N := some 18) (v := ?_) (a' := ?_) #[true, false, false, true, false, false, false, false, false, false] rfl rfl (any_of HT_.out (by kernel_rfl)) (fun _ _ _ h => h) (Or.inl ⟨by rfl, ?_⟩) ?_ ?_
 rotate_left; exact pI; rotate_left; exact pS
 refine pure_ (i := 4) (N := some 19) (v := ?_) (a' := ?_) #[true, false, false, true, true, false, false, false, false, false] rfl rfl (any_of HT_.out (by kernel_rfl)) (fun _ _ _ h => h) (Or.inl ⟨by rfl, ?_⟩) ?_ ?_
 rotate_left; exact pI; rotate_left; exact pS
 refine pure_ (i := 5) (N := some 20) (v := ?_) (a' := ?_) #[true, false, false, true, true, true, false, false, false, false] rfl rfl (any_of HT_.out (by kernel_rfl)) (fun _ _ _ h => h) (Or.inl ⟨by rfl, ?_⟩) ?_ ?_
 rotate_left; exact pI; rotate_left; exact pS
 refine take_ (i := 1) (N := some 16) (v := ?_) (a' := ?_) #[true, true, false, true, true, true, false, false, false, false] rfl rfl (take_ofW HT_.out HW_.out (by kernel_rfl)) (fun _ _ _ h => h) (Or.inl ⟨by rfl, ?_⟩) hHeld ?_ ?_
 rotate_left
 ·
  rintro w' ⟨s0, s1⟩
  go_simp
  with_reducible rfl
 rotate_left
 ·
  exact pS
 refine pure_ (i := 2) (N := some 17) (v := ?_) (a' := ?_) #[true, true, true, true, true, true, false, false, false, false] rfl rfl (any_of HT_.out (by kernel_rfl)) (fun _ _ _ h => h) (Or.inl ⟨by rfl, ?_⟩) ?_ ?_
 rotate_left; exact pI; rotate_left; exact pS
 refine take_ (i := 6) (N := some 21) (v := ?_) (a' := ?_) #[true, true, true, true, true, true, true, false, false, false] rfl rfl (take_ofW HT_.out HW_.out (by kernel_rfl)) (fun _ _ _ h => h) (Or.inl ⟨by rfl, ?_⟩) hHeld ?_ ?_
 rotate_left
 ·
  rintro w' ⟨s0, s1⟩
  go_simp
  with_reducible rfl
 rotate_left
 ·
  exact pS
 refine pure_ (i := 7) (N := some 22) (v := ?_) (a' := ?_) #[true, true, true, true, true, true, true, true, false, false] rfl rfl (any_of HT_.out (by kernel_rfl)) (fun _ _ _ h => h) (Or.inl ⟨by rfl, ?_⟩) ?_ ?_
 rotate_left; exact pI; rotate_left; exact pS
 refine pure_ (i := 8) (N := some 23) (v := ?_) (a' := ?_) #[true, true, true, true, true, true, true, true, true, false] rfl rfl (any_of HT_.out (by kernel_rfl)) (fun _ _ _ h => h) (Or.inl ⟨by rfl, ?_⟩) ?_ ?_
 rotate_left; exact pI; rotate_left; exact pS
 refine pure_ (i := 9) (N := some 5) (v := ?_) (a' := ?_) #[true, true, true, true, true, true, true, true, true, true] rfl rfl (any_of HT_.out (by kernel_rfl)) (fun _ _ _ h => h) (Or.inl ⟨by rfl, ?_⟩) ?_ ?_
 rotate_left; exact pI; rotate_left; exact pS
 refine done_ (done_of HT_.out (by kernel_rfl)) ?_
 generalize (if Tb < 0 then (0 : Int) else Tb) = mx at HTB ⊢
 go_upto_region 2 with (fail)
 rw [HTB.out]
 obtain ⟨rb2, Ac, cc, er, -, hcr, hT⟩ := T.out.take rfl (show (TS.map Tab.rows)[i]? = some t.rows by rw [List.getElem?_map, HI.out]; rfl)
 obtain rfl : rb = rb2 := by injection er with er; injection er
 replace T := aM hT
 have HCR := aM hcr
 clear hcr hT er
 replace T := aM (T.out.drew)
 replace HCR := aM (cell_dr HCR.out)
 refine start_ (n := 16) (S := fun w' => w'.cell? ⟨pb, 3, none⟩ = some (.slice (some ⟨ab, 0, none⟩) nT ac) ∧ w'.cell? ⟨pb, 4, none⟩ = some (.slice (some ⟨rb, 0, none⟩) nT rc) ∧ w'.cell? ⟨ab, i, none⟩ = some (.pointer (some ⟨t.tb, 0, none⟩)) ∧ w'.cell? ⟨rb, i, none⟩ = some (.slice Ac t.rows.length cc)) (ds := []) #[false, false, false, false, false, false, false, false, false, false, false, false, false, false, false, false] (by kernel_rfl) rfl rfl ⟨T.out.cells.2.2.2.1, T.out.cells.2.2.2.2.1, T.out.cellA rfl HTA.out, HCR.out⟩ (fun hHeld => ?_); refine with_tabW pst2.tab2 pst2.bits2 (fun HT_ HW_ => ?_)
 generalize wb.drew = wc at T HCR hHeld ⊢
 refine pure_ (i := 0) (N := some 24) (v := ?_) (a' := ?_) #[true, false, false, false, false, false, false, false, false, false, false, false, false, false, false, false] rfl rfl (any_of HT_.out (by kernel_rfl)) (fun _ _ _ h => h) (Or.inl ⟨by rfl, ?_⟩) ?_ ?_
 rotate_left; exact pI; rotate_left; exact pS
 refine pure_ (i := 1) (N := some 25) (v := ?_) (a' := ?_) #[true, true, false, false, false, false, false, false, false, false, false, false, false, false, false, false] rfl rfl (any_of HT_.out (by kernel_rfl)) (fun _ _ _ h => h) (Or.inl ⟨by rfl, ?_⟩) ?_ ?_
 rotate_left; exact pI; rotate_left; exact pS
 refine pure_ (i := 2) (N := some 26) (v := ?_) (a' := ?_) #[true, true, true, false, false, false, false, false, false, false, false, false, false, false, false, false] rfl rfl (any_of HT_.out (by kernel_rfl)) (fun _ _ _ h => h) (Or.inl ⟨by rfl, ?_⟩) ?_ ?_
 rotate_left; exact pI; rotate_left; exact pS
 refine pure_ (i := 4) (N := some 28) (v := ?_) (a' := ?_) #[true, true, true, false, true, false, false, false, false, false, false, false, false, false, false, false] rfl rfl (any_of HT_.out (by kernel_rfl)) (fun _ _ _ h => h) (Or.inl ⟨by rfl, ?_⟩) ?_ ?_
 rotate_left; exact pI; rotate_left; exact pS
 refine pure_ (i := 7) (N := some 31) (v := ?_) (a' := ?_) #[true, true, true, false, true, false, false, true, false, false, false, false, false, false, false, false] rfl rfl (any_of HT_.out (by kernel_rfl)) (fun _ _ _ h => h) (Or.inl ⟨by rfl, ?_⟩) ?_ ?_
 rotate_left; exact pI; rotate_left; exact pS
 refine pure_ (i := 8) (N := some 32) (v := ?_) (a' := ?_) #[true, true, true, false, true, false, false, true, true, false, false, false, false, false, false, false] rfl rfl (any_of HT_.out (by kernel_rfl)) (fun _ _ _ h => h) (Or.inl ⟨by rfl, ?_⟩) ?_ ?_
 rotate_left; exact pI; rotate_left; exact pS
 refine pure_ (i := 9) (N := some 33) (v := ?_) (a' := ?_) #[true, true, true, false, true, false, false, true, true, true, false, false, false, false, false, false] rfl rfl (any_of HT_.out (by kernel_rfl)) (fun _ _ _ h => h) (Or.inl ⟨by rfl, ?_⟩) ?_ ?_
 rotate_left; exact pI; rotate_left; exact pS
 refine pure_ (i := 11) (N := some 35) (v := ?_) (a' := ?_) #[true, true, true, false, true, false, false, true, true, true, false, true, false, false, false, false] rfl rfl (any_of HT_.out (by kernel_rfl)) (fun _ _ _ h => h) (Or.inl ⟨by rfl, ?_⟩) ?_ ?_
 rotate_left; exact pI; rotate_left; exact pS
 refine take_ (i := 3) (N := some 27) (v := ?_) (a' := ?_) #[true, true, true, true, true, false, false, true, true, true, false, true, false, false, false, false] rfl rfl (take_ofW HT_.out HW_.out (by kernel_rfl)) (fun _ _ _ h => h) (Or.inl ⟨by rfl, ?_⟩) hHeld ?_ ?_
 rotate_left
 ·
  rintro w' ⟨s0, s1, s2, s3⟩
  go_simp
  with_reducible rfl
 rotate_left
 ·
  exact pS
 refine pure_ (i := 5) (N := some 29) (v := ?_) (a' := ?_) #[true, true, true, true, true, true, false, true, true, true, false, true, false, false, false, false] rfl rfl (any_of HT_.out (by kernel_rfl)) (fun _ _ _ h => h) (Or.inl ⟨by rfl, ?_⟩) ?_ ?_
 rotate_left; exact pI; rotate_left; exact pS
 refine take_ (i := 6) (N := some 30) (v := ?_) (a' := ?_) #[true, true, true, true, true, true, true, true, true, true, false, true, false, false, false, false] rfl rfl (take_ofW HT_.out HW_.out (by kernel_rfl)) (fun _ _ _ h => h) (Or.inl ⟨by rfl, ?_⟩) hHeld ?_ ?_
 rotate_left
 ·
  rintro w' ⟨s0, s1, s2, s3⟩
  go_simp
  with_reducible rfl
 rotate_left
 ·
  exact pS
 refine pure_ (i := 14) (N := some 6) (v := ?_) (a' := ?_) #[true, true, true, true, true, true, true, true, true, true, false, true, false, false, true, false] rfl rfl (any_of HT_.out (by kernel_rfl)) (fun _ _ _ h => h) (Or.inl ⟨by rfl, ?_⟩) ?_ ?_
 rotate_left; exact pI; rotate_left; exact pS
 refine take_ (i := 10) (N := some 34) (v := ?_) (a' := ?_) #[true, true, true, true, true, true, true, true, true, true, true, true, false, false, true, false] rfl rfl (take_ofW HT_.out HW_.out (by kernel_rfl)) (fun _ _ _ h => h) (Or.inl ⟨by rfl, ?_⟩) hHeld ?_ ?_
 rotate_left
 ·
  rintro w' ⟨s0, s1, s2, s3⟩
  go_simp
  with_reducible rfl
 rotate_left
 ·
  exact pS
 refine pure_ (i := 12) (N := some 36) (v := ?_) (a' := ?_) #[true, true, true, true, true, true, true, true, true, true, true, true, true, false, true, false] rfl rfl (any_of HT_.out (by kernel_rfl)) (fun _ _ _ h => h) (Or.inl ⟨by rfl, ?_⟩) ?_ ?_
 rotate_left; exact pI; rotate_left; exact pS
 refine take_ (i := 13) (N := some 37) (v := ?_) (a' := ?_) #[true, true, true, true, true, true, true, true, true, true, true, true, true, true, true, false] rfl rfl (take_ofW HT_.out HW_.out (by kernel_rfl)) (fun _ _ _ h => h) (Or.inl ⟨by rfl, ?_⟩) hHeld ?_ ?_
 rotate_left
 ·
  rintro w' ⟨s0, s1, s2, s3⟩
  go_simp
  with_reducible rfl
 rotate_left
 ·
  exact pS
 refine pure_ (i := 15) (N := some 7) (v := ?_) (a' := ?_) #[true, true, true, true, true, true, true, true, true, true, true, true, true, true, true, true] rfl rfl (any_of HT_.out (by kernel_rfl)) (fun _ _ _ h => h) (Or.inl ⟨by rfl, ?_⟩) ?_ ?_
 rotate_left; exact pI; rotate_left; exact pS
 refine done_ (done_of HT_.out (by kernel_rfl)) ?_
 have hz := T.out.cells
 have hzb := T.out.boxed
 go_upto_region 20 with (first | (go_at_call 31; (refine (blockFork.calls (T.out.ht i t HI.out) T.out.P (below_size T.out.HB) T.out.gg T.out.gs HF.out HM.out).mono ?_); rintro e wd ⟨L', ob, rp', rc', us, rfl, hh, hp, -, hu, hob, hown, hb, hk⟩; obtain ⟨own2, hT⟩ := T.out.fork hk hp (T.out.HB.trans hb) hu hob hown; replace T := aM hT; have HH := aM hh; clear hz hzb hT hh hp hu hob hown hb hk; have hz := T.out.cells; have hzb := T.out.boxed) | (go_at_call 51; (refine (change.calls 1 T.out (by have := HN16.out; omega) (by have := HF.out; omega) (HCH.out _ HH.out)).mono ?_); rintro e we ⟨own3, u0, u1, rfl, hT⟩; replace T := aM hT; clear hz hzb hT; have hz := T.out.cells; have hzb := T.out.boxed))
 clear hz hzb
 replace T := aM (T.out.drew)
 refine start_ (n := 23) (S := fun w' => w'.cell? ⟨pb, 3, none⟩ = some (.slice (some ⟨ab, 0, none⟩) nT ac) ∧ w'.cell? ⟨pb, 4, none⟩ = some (.slice (some ⟨rb, 0, none⟩) nT rc)) (ds := [19, 22]) #[false, false, false, false, false, false, false, false, false, false, false, false, false, false, false, false, false, false, false, false, false, false, false] (by kernel_rfl) rfl rfl ⟨T.out.cells.2.2.2.1, T.out.cells.2.2.2.2.1⟩ (fun hHeld => ?_); refine with_tabW pst20.tab20 pst20.bits20 (fun HT_ HW_ => ?_)
 generalize we.drew = wf at T hHeld ⊢
 refine pure_ (i := 0) (N := some 123) (v := ?_) (a' := ?_) #[true, false, false, false, false, false, false, false, false, false, false, false, false, false, false, false, false, false, false, false, false, false, false] rfl rfl (any_of HT_.out (by kernel_rfl)) (fun _ _ _ h => h) (Or.inl ⟨by rfl, ?_⟩) ?_ ?_
 rotate_left; exact pI; rotate_left; exact pS
 refine pure_ (i := 1) (N := some 124) (v := ?_) (a' := ?_) #[true, true, false, false, false, false, false, false, false, false, false, false, false, false, false, false, false, false, false, false, false, false, false] rfl rfl (any_of HT_.out (by kernel_rfl)) (fun _ _ _ h => h) (Or.inl ⟨by rfl, ?_⟩) ?_ ?_
 rotate_left; exact pI; rotate_left; exact pS
 refine pure_ (i := 2) (N := some 125) (v := ?_) (a' := ?_) #[true, true, true, false, false, false, false, false, false, false, false, false, false, false, false, false, false, false, false, false, false, false, false] rfl rfl (any_of HT_.out (by kernel_rfl)) (fun _ _ _ h => h) (Or.inl ⟨by rfl, ?_⟩) ?_ ?_
 rotate_left; exact pI; rotate_left; exact pS
 refine pure_ (i := 3) (N := some 126) (v := ?_) (a' := ?_) #[true, true, true, true, false, false, false, false, false, false, false, false, false, false, false, false, false, false, false, false, false, false, false] rfl rfl (any_of HT_.out (by kernel_rfl)) (fun _ _ _ h => h) (Or.inl ⟨by rfl, ?_⟩) ?_ ?_
 rotate_left; exact pI; rotate_left; exact pS
 refine pure_ (i := 4) (N := some 127) (v := ?_) (a' := ?_) #[true, true, true, true, true, false, false, false, false, false, false, false, false, false, false, false, false, false, false, false, false, false, false] rfl rfl (any_of HT_.out (by kernel_rfl)) (fun _ _ _ h => h) (Or.inl ⟨by rfl, ?_⟩) ?_ ?_
 rotate_left; exact pI; rotate_left; exact pS
 refine pure_ (i := 6) (N := some 129) (v := ?_) (a' := ?_) #[true, true, true, true, true, false, true, false, false, false, false, false, false, false, false, false, false, false, false, false, false, false, false] rfl rfl (any_of HT_.out (by kernel_rfl)) (fun _ _ _ h => h) (Or.inl ⟨by rfl, ?_⟩) ?_ ?_
 rotate_left; exact pI; rotate_left; exact pS
 refine pure_ (i := 9) (N := some 132) (v := ?_) (a' := ?_) #[true, true, true, true, true, false, true, false, false, true, false, false, false, false, false, false, false, false, false, false, false, false, false] rfl rfl (any_of HT_.out (by kernel_rfl)) (fun _ _ _ h => h) (Or.inl ⟨by rfl, ?_⟩) ?_ ?_
 rotate_left; exact pI; rotate_left; exact pS
 refine pure_ (i := 10) (N := some 133) (v := ?_) (a' := ?_) #[true, true, true, true, true, false, true, false, false, true, true, false, false, false, false, false, false, false, false, false, false, false, false] rfl rfl (any_of HT_.out (by kernel_rfl)) (fun _ _ _ h => h) (Or.inl ⟨by rfl, ?_⟩) ?_ ?_
 rotate_left; exact pI; rotate_left; exact pS
 refine pure_ (i := 11) (N := some 134) (v := ?_) (a' := ?_) #[true, true, true, true, true, false, true, false, false, true, true, true, false, false, false, false, false, false, false, false, false, false, false] rfl rfl (any_of HT_.out (by kernel_rfl)) (fun _ _ _ h => h) (Or.inl ⟨by rfl, ?_⟩) ?_ ?_
 rotate_left; exact pI; rotate_left; exact pS
 refine pure_ (i := 13) (N := some 136) (v := ?_) (a' := ?_) #[true, true, true, true, true, false, true, false, false, true, true, true, false, true, false, false, false, false, false, false, false, false, false] rfl rfl (any_of HT_.out (by kernel_rfl)) (fun _ _ _ h => h) (Or.inl ⟨by rfl, ?_⟩) ?_ ?_
 rotate_left; exact pI; rotate_left; exact pS
 refine take_ (i := 5) (N := some 128) (v := ?_) (a' := ?_) #[true, true, true, true, true, true, true, false, false, true, true, true, false, true, false, false, false, false, false, false, false, false, false] rfl rfl (take_ofW HT_.out HW_.out (by kernel_rfl)) (fun _ _ _ h => h) (Or.inl ⟨by rfl, ?_⟩) hHeld ?_ ?_
 rotate_left
 ·
  rintro w' ⟨s0, s1⟩
  go_simp
  with_reducible rfl
 rotate_left
 ·
  exact pS
 refine take_ (i := 12) (N := some 135) (v := ?_) (a' := ?_) #[true, true, true, true, true, true, true, false, false, true, true, true, true, true, false, false, false, false, false, false, false, false, false] rfl rfl (take_ofW HT_.out HW_.out (by kernel_rfl)) (fun _ _ _ h => h) (Or.inl ⟨by rfl, ?_⟩) hHeld ?_ ?_
 rotate_left
 ·
  rintro w' ⟨s0, s1⟩
  go_simp
  with_reducible rfl
 rotate_left
 ·
  exact pS
 refine one_ (i := 7) (N := some 130) #[true, true, true, true, true, true, true, true, false, true, true, true, true, true, false, false, false, false, false, false, false, false, false] rfl rfl (one_of HT_.out (by kernel_rfl)) (by decide) (fun K hK => ?_)
 refine value_ (w1 := ?_) (v := ?_) (by rfl) rfl ?_ ?_
 rotate_left 2
 ·
  go_simp
  constructor
  ·
   rfl
  ·
   rfl
 refine hK.out _ _ ⟨(T.out.below (below_alloc (Below.refl _ _) _)).cells.2.2.2.1, (T.out.below (below_alloc (Below.refl _ _) _)).cells.2.2.2.2.1⟩ (fun hHeld => ?_)
 clear hK K
 refine norm_ (a' := ?_) ?_ ?_
 rotate_left
 ·
  show Act.put _ (some 130) _ = _
  simp only [Act.put, List.setIfInBounds_toArray, List.set_cons_zero, List.set_cons_succ, i64_w, i32_w, IntKind.wrap_u32]
  rfl
 refine one_ (i := 8) (N := some 131) #[true, true, true, true, true, true, true, true, true, true, true, true, true, true, false, false, false, false, false, false, false, false, false] rfl rfl (one_of HT_.out (by kernel_rfl)) (by decide) (fun K hK => ?_)
 refine Kd.R_append_step (Kd.raw 1) (w0 := w0) w0.heap.size (by rfl) (.tmp 128) (.tmp 130) 60 59 (.pointer none) 8 rfl Try.underlying60 infoB59 rfl (by decide) (by omega) (.slice (some ⟨ab, 0, none⟩) nT ac) (List.map (fun b => [Value.pointer (some ⟨b, 0, none⟩)]) (TS.map Tab.tb)) [Value.pointer (some ⟨ob, 0, none⟩)] [Value.pointer (some ⟨ob, 0, none⟩)] (fun _ => True) (fun _ => False) rfl rfl ?aP (fun _ hk => hk.elim) ?aF ?aO T.out.HB (below_size T.out.HB) ?aL ?_
 (case aP => exact ⟨rfl, rfl, by simp [Value.oneCell']⟩)
 (case aF => exact (fun _ _ => trivial))
 (case aO => exact Kd.R_mono T.out.A (fun _ _ => trivial))
 (case aL => rw [List.length_map, List.length_map]; have := HT6.out; omega)
 intro av2 wg ho hb hg hat
 have hT := T.out.growA (ob := ob) hg ho hb
 obtain ⟨Aa2, ac2, rfl⟩ := Kd.R_slice ho
 obtain ⟨nA, hnA⟩ : ∃ n, (List.map (fun b => [Value.pointer (some ⟨b, 0, none⟩)]) (TS.map Tab.tb) ++ [[Value.pointer (some ⟨ob, 0, none⟩)]]).length = n := ⟨_, rfl⟩
 rw [hnA] at hT ⊢
 replace T := aM hT
 clear ho hb hg hat hT hnA
 refine hK.out _ _ ⟨T.out.cells.2.2.2.1, T.out.cells.2.2.2.2.1⟩ (fun hHeld => ?_)
 clear hK K
 refine norm_ (a' := ?_) ?_ ?_
 rotate_left
 ·
  show Act.put _ (some 131) _ = _
  simp only [Act.put, List.setIfInBounds_toArray, List.set_cons_zero, List.set_cons_succ, i64_w, i32_w, IntKind.wrap_u32]
  rfl
 refine one_ (i := 14) (N := some 137) #[true, true, true, true, true, true, true, true, true, true, true, true, true, true, true, false, false, false, false, false, false, false, false] rfl rfl (one_of HT_.out (by kernel_rfl)) (by decide) (fun K hK => ?_)
 refine goes_ Try.func50 (by kernel_rfl) rfl #[.slice Ac t.rows.length cc] (by rfl) rfl rfl (by simp only [List.map_toArray, List.map_cons, List.map_nil]; rfl) ?_
 with_reducible refine (credenzalaw11_copied.calls 200 Ac cc t.rows t.rows _ (Kd.R_reads' T.out.C).2.2 (Kd.R_reads' T.out.C).2.1 HCPY.out).mono ?_
 rintro e wh ⟨vc, rfl, hS, hb⟩
 refine ⟨_, rfl, ?_⟩
 obtain ⟨own5, hT⟩ := T.out.fresh hb (Kd.S_R hS)
 obtain ⟨Ad, cd, rfl⟩ := Kd.S_slice hS
 replace T := aM hT
 clear hS hb hT
 refine hK.out _ _ ⟨T.out.cells.2.2.2.1, T.out.cells.2.2.2.2.1⟩ (fun hHeld => ?_)
 clear hK K
 refine norm_ (a' := ?_) ?_ ?_
 rotate_left
 ·
  show Act.put _ (some 137) _ = _
  simp only [Act.put, List.setIfInBounds_toArray, List.set_cons_zero, List.set_cons_succ, i64_w, i32_w, IntKind.wrap_u32]
  rfl
 refine one_ (i := 15) (N := some 138) #[true, true, true, true, true, true, true, true, true, true, true, true, true, true, true, true, false, false, false, false, false, false, false] rfl rfl (one_of HT_.out (by kernel_rfl)) (by decide) (fun K hK => ?_)
 refine value_ (w1 := ?_) (v := ?_) (by rfl) rfl ?_ ?_
 rotate_left 2
 ·
  go_simp
  constructor
  ·
   rfl
  ·
   rfl
 refine hK.out _ _ ⟨(T.out.below (below_alloc (Below.refl _ _) _)).cells.2.2.2.1, (T.out.below (below_alloc (Below.refl _ _) _)).cells.2.2.2.2.1⟩ (fun hHeld => ?_)
 clear hK K
 refine norm_ (a' := ?_) ?_ ?_
 rotate_left
 ·
  show Act.put _ (some 138) _ = _
  simp only [Act.put, List.setIfInBounds_toArray, List.set_cons_zero, List.set_cons_succ, i64_w, i32_w, IntKind.wrap_u32]
  rfl
 refine one_ (i := 16) (N := some 139) #[true, true, true, true, true, true, true, true, true, true, true, true, true, true, true, true, true, false, false, false, false, false, false] rfl rfl (one_of HT_.out (by kernel_rfl)) (by decide) (fun K hK => ?_)
 refine Kd.R_append_step (Kd.slice 28 (Kd.slice 3 (Kd.int .i64))) (w0 := w0) w0.heap.size (by rfl) (.tmp 135) (.tmp 138) 61 70 (.slice none 0 0) 24 rfl Try.underlying61 infoB70 rfl (by decide) (by omega) (.slice (some ⟨rb, 0, none⟩) nT rc) (TS.map Tab.rows) t.rows [.slice Ad t.rows.length cd] (fun k_ => own5 k_ = 1 ∨ wh.heap.size ≤ k_) (fun k_ => own5 k_ = 1 ∧ some k_ ≠ Value.ownBlock (.slice (some ⟨rb, 0, none⟩) nT rc)) rfl rfl ?aP (fun _ hk => ⟨.inl hk.1, hk.2⟩) ?aF ?aO T.out.HB (below_size T.out.HB) ?aL ?_
 (case aP => exact ⟨_, rfl, Kd.R_apart' T.out.C (e' := 70) (fun k hk => Kd.R_typed T.out.R k hk) (by intro q hq; have hq' : q = 28 ∨ q = 3 := (by simpa [Kd.slice, Kd.int, Kd.scalar] using hq); rcases hq' with rfl | rfl <;> decide)⟩)
 (case aF => exact (fun _ hk => .inr hk))
 (case aO => exact Kd.R_mono T.out.R (fun _ hk => .inl hk))
 (case aL => rw [List.length_map]; have := HT6.out; omega)
 intro rv2 wj ho hb hg hat
 obtain ⟨own6, hT⟩ := T.out.growR hg ho hb
 obtain ⟨Ar2, rc2, rfl⟩ := Kd.R_slice ho
 obtain ⟨nR, hnR⟩ : ∃ n, (TS.map Tab.rows ++ [t.rows]).length = n := ⟨_, rfl⟩
 rw [hnR] at hT ⊢
 replace T := aM hT
 clear ho hb hg hat hT hnR
 refine hK.out _ _ ⟨T.out.cells.2.2.2.1, T.out.cells.2.2.2.2.1⟩ (fun hHeld => ?_)
 clear hK K
 refine norm_ (a' := ?_) ?_ ?_
 rotate_left
 ·
  show Act.put _ (some 139) _ = _
  simp only [Act.put, List.setIfInBounds_toArray, List.set_cons_zero, List.set_cons_succ, i64_w, i32_w, IntKind.wrap_u32]
  rfl
 refine pure_ (i := 17) (N := some 140) (v := ?_) (a' := ?_) #[true, true, true, true, true, true, true, true, true, true, true, true, true, true, true, true, true, true, false, false, false, false, false] rfl rfl (any_of HT_.out (by kernel_rfl)) (fun _ _ _ h => h) (Or.inl ⟨by rfl, ?_⟩) ?_ ?_
 rotate_left; exact pI; rotate_left; exact pS
 refine pure_ (i := 18) (N := some 141) (v := ?_) (a' := ?_) #[true, true, true, true, true, true, true, true, true, true, true, true, true, true, true, true, true, true, true, false, false, false, false] rfl rfl (any_of HT_.out (by kernel_rfl)) (fun _ _ _ h => h) (Or.inl ⟨by rfl, ?_⟩) ?_ ?_
 rotate_left; exact pI; rotate_left; exact pS
 refine last_ (i := 19) (N := none) #[true, true, true, true, true, true, true, true, true, true, true, true, true, true, true, true, true, true, true, true, false, false, false] rfl rfl (one_of HT_.out (by kernel_rfl)) (by decide) (fun K hK => ?_)
 have hz := T.out.cells
 refine skip_ (w1 := ?_) (by rfl) rfl ?_ ?_
 rotate_left
 ·
  go_simp
  rfl
 clear hz
 replace T := aM (T.out.put 3 (.slice Aa2 nA ac2) (y0 := u0) (y1 := u1) (y2 := .slice Aa2 nA ac2) (y3 := (.slice (some ⟨rb, 0, none⟩) nT rc)) rfl)
 have hz := T.out.cells
 refine hK.out _ _ ?_
 clear hK K
 refine pure_ (i := 20) (N := some 142) (v := ?_) (a' := ?_) #[true, true, true, true, true, true, true, true, true, true, true, true, true, true, true, true, true, true, true, true, true, false, false] rfl rfl (any_of HT_.out (by kernel_rfl)) (fun _ _ _ h => h) (Or.inl ⟨by rfl, ?_⟩) ?_ ?_
 rotate_left; exact pI; rotate_left; exact pS
 refine pure_ (i := 21) (N := some 143) (v := ?_) (a' := ?_) #[true, true, true, true, true, true, true, true, true, true, true, true, true, true, true, true, true, true, true, true, true, true, false] rfl rfl (any_of HT_.out (by kernel_rfl)) (fun _ _ _ h => h) (Or.inl ⟨by rfl, ?_⟩) ?_ ?_
 rotate_left; exact pI; rotate_left; exact pS
 refine last_ (i := 22) (N := none) #[true, true, true, true, true, true, true, true, true, true, true, true, true, true, true, true, true, true, true, true, true, true, true] rfl rfl (one_of HT_.out (by kernel_rfl)) (by decide) (fun K hK => ?_)
 refine skip_ (w1 := ?_) (by rfl) rfl ?_ ?_
 rotate_left
 ·
  go_simp
  rfl
 clear hz
 replace T := aM (T.out.put 4 (.slice Ar2 nR rc2) (y0 := u0) (y1 := u1) (y2 := .slice Aa2 nA ac2) (y3 := .slice Ar2 nR rc2) rfl)
 refine hK.out _ _ ?_
 clear hK K
 refine done_ (done_of HT_.out (by kernel_rfl)) ?_
 try go_wp2
 go_ret
 exact ⟨rfl, _, ⟨ob, rp', rc', us, t.rows⟩, HH.out, T.out.unbox.rest (by rw [List.map_append]; rfl) (by rw [List.map_append]; rfl), rfl⟩
set_option maxHeartbeats 8000000 in
set_option maxRecDepth 100000 in
theorem stepForkNoA.calls (h : PlayAt w0 w pb g s L f TS) (i : Nat) (t : Tab) (hi : TS[i]? = some t) (Tb : Int) (hTb : (if Tb < 0 then 0 else Tb).tmod (TS.length : Int) = (i : Int)) (hT6 : TS.length ≤ 6) (Row NN : Int) (hR : 0 ≤ Row) (h6 : 6 ≤ TS.length) :
  Calls Try.prog 30 #[.pointer (some ⟨pb, 0, none⟩), .agg #[.int .i64 2, .int .i64 Tb, .int .i64 Row, .int .i64 NN]] w fun e w' => e = .returned (.bool true) ∧ PlayAt w0 w' pb g s L f TS := by
 have HI := aM hi
 have HT6 := aM hT6
 obtain ⟨own, v0, v1, av, rv, h⟩ := h
 obtain ⟨Aa, ac, rfl⟩ := Kd.R_slice h.A
 obtain ⟨Ar, rc, rfl⟩ := Kd.R_slice h.R
 obtain ⟨nT, hnT⟩ : ∃ n, TS.length = n := ⟨_, rfl⟩
 rw [show (List.map (fun b => [Value.pointer (some ⟨b, 0, none⟩)]) (TS.map Tab.tb)).length = nT by rw [List.length_map, List.length_map]; exact hnT, show (TS.map Tab.rows).length = nT by rw [List.length_map]; exact hnT] at h
 rw [hnT] at hTb
 have HTB := aM hTb
 have HNT := aM hnT
 have hin := (List.getElem?_eq_some_iff.mp hi).1
 have HTA : Aside0 ((TS.map Tab.tb)[i]? = some t.tb) := ⟨by rw [List.getElem?_map, hi]; rfl⟩
 obtain ⟨ab, e1, -, -⟩ := h.ptr rfl HTA.out
 obtain ⟨rb, A_, c_, e2, -, -, -⟩ := h.take rfl (show (TS.map Tab.rows)[i]? = some t.rows by rw [List.getElem?_map, hi]; rfl)
 subst e1 e2
 have hn0 : (nT = 0) = False := eq_false (by omega)
 have q0 : ((0 : Int) ≤ (i : Int)) = True := eq_true (by omega)
 have q1 : ((i : Int) < (nT : Int)) = True := eq_true (by omega)
 have q2 : (i < nT) = True := eq_true (by omega)
 have T := aM h
 have HT := aM (h.ht i t hi)
 have HN16 := aM (h.ht i t hi).hn
 have hu63 := Try.underlying63
 have hu57 := Try.underlying57
 have hu30 := Try.underlying30
 have d6 : decide (6 ≤ nT) = true := decide_eq_true (by omega)
 have d7 : decide (6 ≤ (nT : Int)) = true := decide_eq_true (by omega)
 clear h6
 have d1 : decide (0 ≤ Row) = true := decide_eq_true hR
 clear hR
 clear h hi hTb hT6 hnT hin A_ c_ HT
 go_enter Try.func30, Try.ntmps30
 go_upto_region 1 with (((with_reducible refine gate_dst (N := 3) rfl ?_); refine box_event ?hg (N := 3) ?hd (cs := #[.int .i64 2, .int .i64 Tb, .int .i64 Row, .int .i64 NN]) (t := 57) ?hr ?_; (case hd => rfl); (case hg => rfl); (case hr => first | (go_simp; done) | (go_simp; rfl)); intro bo hg_ wa hbox hb; replace T := aM ((T.out.below hb).box hbox); have hz := T.out.cells; have hzb := T.out.boxed; clear hbox hb hg_))
 clear hz hzb
 replace T := aM (T.out.drew)
 refine start_ (n := 10) (S := fun w' => w'.cell? ⟨bo, 1, none⟩ = some (.int .i64 Tb) ∧ w'.cell? ⟨pb, 3, none⟩ = some (.slice (some ⟨ab, 0, none⟩) nT ac)) (ds := []) #[false, false, false, false, false, false, false, false, false, false] (by kernel_rfl) rfl rfl ⟨T.out.boxed.2.1, T.out.cells.2.2.2.1⟩ (fun hHeld => ?_); refine with_tabW pst1.tab1 pst1.bits1 (fun HT_ HW_ => ?_)
 generalize wa.drew = wb at T hHeld ⊢
 refine pure_ (i := 0) (N := some 15) (v := ?_) (a' := ?_) #[true, false, false, false, false, false, false, false, false, false] rfl rfl (any_of HT_.out (by kernel_rfl)) (fun _ _ _ h => h) (Or.inl ⟨by rfl, ?_⟩) ?_ ?_
 rotate_left; exact pI; rotate_left; exact pS
 refine pure_ (i := 3) (N := some 18) (v := ?_) (a' := ?_) #[true, false, false, true, false, false, false, false, false, false] rfl rfl (any_of HT_.out (by kernel_rfl)) (fun _ _ _ h => h) (Or.inl ⟨by rfl, ?_⟩) ?_ ?_
 rotate_left; exact pI; rotate_left; exact pS
 refine pure_ (i := 4) (N := some 19) (v := ?_) (a' := ?_) #[true, false, false, true, true, false, false, false, false, false] rfl rfl (any_of HT_.out (by kernel_rfl)) (fun _ _ _ h => h) (Or.inl ⟨by rfl, ?_⟩) ?_ ?_
 rotate_left; exact pI; rotate_left; exact pS
 refine pure_ (i := 5) (N := some 20) (v := ?_) (a' := ?_) #[true, false, false, true, true, true, false, false, false, false] rfl rfl (any_of HT_.out (by kernel_rfl)) (fun _ _ _ h => h) (Or.inl ⟨by rfl, ?_⟩) ?_ ?_
 rotate_left; exact pI; rotate_left; exact pS
 refine take_ (i := 1) (N := some 16) (v := ?_) (a' := ?_) #[true, true, false, true, true, true, false, false, false, false] rfl rfl (take_ofW HT_.out HW_.out (by kernel_rfl)) (fun _ _ _ h => h) (Or.inl ⟨by rfl, ?_⟩) hHeld ?_ ?_
 rotate_left
 ·
  rintro w' ⟨s0, s1⟩
  go_simp
  with_reducible rfl
 rotate_left
 ·
  exact pS
 refine pure_ (i := 2) (N := some 17) (v := ?_) (a' := ?_) #[true, true, true, true, true, true, false, false, false, false] rfl rfl (any_of HT_.out (by kernel_rfl)) (fun _ _ _ h => h) (Or.inl ⟨by rfl, ?_⟩) ?_ ?_
 rotate_left; exact pI; rotate_left; exact pS
 refine take_ (i := 6) (N := some 21) (v := ?_) (a' := ?_) #[true, true, true, true, true, true, true, false, false, false] rfl rfl (take_ofW HT_.out HW_.out (by kernel_rfl)) (fun _ _ _ h => h) (Or.inl ⟨by rfl, ?_⟩) hHeld ?_ ?_
 rotate_left
 ·
  rintro w' ⟨s0, s1⟩
  go_simp
  with_reducible rfl
 rotate_left
 ·
  exact pS
 refine pure_ (i := 7) (N := some 22) (v := ?_) (a' := ?_) #[true, true, true, true, true, true, true, true, false, false] rfl rfl (any_of HT_.out (by kernel_rfl)) (fun _ _ _ h => h) (Or.inl ⟨by rfl, ?_⟩) ?_ ?_
 rotate_left; exact pI; rotate_left; exact pS
 refine pure_ (i := 8) (N := some 23) (v := ?_) (a' := ?_) #[true, true, true, true, true, true, true, true, true, false] rfl rfl (any_of HT_.out (by kernel_rfl)) (fun _ _ _ h => h) (Or.inl ⟨by rfl, ?_⟩) ?_ ?_
 rotate_left; exact pI; rotate_left; exact pS
 refine pure_ (i := 9) (N := some 5) (v := ?_) (a' := ?_) #[true, true, true, true, true, true, true, true, true, true] rfl rfl (any_of HT_.out (by kernel_rfl)) (fun _ _ _ h => h) (Or.inl ⟨by rfl, ?_⟩) ?_ ?_
 rotate_left; exact pI; rotate_left; exact pS
 refine done_ (done_of HT_.out (by kernel_rfl)) ?_
 generalize (if Tb < 0 then (0 : Int) else Tb) = mx at HTB ⊢
 go_upto_region 2 with (fail)
 rw [HTB.out]
 obtain ⟨rb2, Ac, cc, er, -, hcr, hT⟩ := T.out.take rfl (show (TS.map Tab.rows)[i]? = some t.rows by rw [List.getElem?_map, HI.out]; rfl)
 obtain rfl : rb = rb2 := by injection er with er; injection er
 replace T := aM hT
 have HCR := aM hcr
 clear hcr hT er
 replace T := aM (T.out.drew)
 replace HCR := aM (cell_dr HCR.out)
 refine start_ (n := 16) (S := fun w' => w'.cell? ⟨pb, 3, none⟩ = some (.slice (some ⟨ab, 0, none⟩) nT ac) ∧ w'.cell? ⟨pb, 4, none⟩ = some (.slice (some ⟨rb, 0, none⟩) nT rc) ∧ w'.cell? ⟨ab, i, none⟩ = some (.pointer (some ⟨t.tb, 0, none⟩)) ∧ w'.cell? ⟨rb, i, none⟩ = some (.slice Ac t.rows.length cc)) (ds := []) #[false, false, false, false, false, false, false, false, false, false, false, false, false, false, false, false] (by kernel_rfl) rfl rfl ⟨T.out.cells.2.2.2.1, T.out.cells.2.2.2.2.1, T.out.cellA rfl HTA.out, HCR.out⟩ (fun hHeld => ?_); refine with_tabW pst2.tab2 pst2.bits2 (fun HT_ HW_ => ?_)
 generalize wb.drew = wc at T HCR hHeld ⊢
 refine pure_ (i := 0) (N := some 24) (v := ?_) (a' := ?_) #[true, false, false, false, false, false, false, false, false, false, false, false, false, false, false, false] rfl rfl (any_of HT_.out (by kernel_rfl)) (fun _ _ _ h => h) (Or.inl ⟨by rfl, ?_⟩) ?_ ?_
 rotate_left; exact pI; rotate_left; exact pS
 refine pure_ (i := 1) (N := some 25) (v := ?_) (a' := ?_) #[true, true, false, false, false, false, false, false, false, false, false, false, false, false, false, false] rfl rfl (any_of HT_.out (by kernel_rfl)) (fun _ _ _ h => h) (Or.inl ⟨by rfl, ?_⟩) ?_ ?_
 rotate_left; exact pI; rotate_left; exact pS
 refine pure_ (i := 2) (N := some 26) (v := ?_) (a' := ?_) #[true, true, true, false, false, false, false, false, false, false, false, false, false, false, false, false] rfl rfl (any_of HT_.out (by kernel_rfl)) (fun _ _ _ h => h) (Or.inl ⟨by rfl, ?_⟩) ?_ ?_
 rotate_left; exact pI; rotate_left; exact pS
 refine pure_ (i := 4) (N := some 28) (v := ?_) (a' := ?_) #[true, true, true, false, true, false, false, false, false, false, false, false, false, false, false, false] rfl rfl (any_of HT_.out (by kernel_rfl)) (fun _ _ _ h => h) (Or.inl ⟨by rfl, ?_⟩) ?_ ?_
 rotate_left; exact pI; rotate_left; exact pS
 refine pure_ (i := 7) (N := some 31) (v := ?_) (a' := ?_) #[true, true, true, false, true, false, false, true, false, false, false, false, false, false, false, false] rfl rfl (any_of HT_.out (by kernel_rfl)) (fun _ _ _ h => h) (Or.inl ⟨by rfl, ?_⟩) ?_ ?_
 rotate_left; exact pI; rotate_left; exact pS
 refine pure_ (i := 8) (N := some 32) (v := ?_) (a' := ?_) #[true, true, true, false, true, false, false, true, true, false, false, false, false, false, false, false] rfl rfl (any_of HT_.out (by kernel_rfl)) (fun _ _ _ h => h) (Or.inl ⟨by rfl, ?_⟩) ?_ ?_
 rotate_left; exact pI; rotate_left; exact pS
 refine pure_ (i := 9) (N := some 33) (v := ?_) (a' := ?_) #[true, true, true, false, true, false, false, true, true, true, false, false, false, false, false, false] rfl rfl (any_of HT_.out (by kernel_rfl)) (fun _ _ _ h => h) (Or.inl ⟨by rfl, ?_⟩) ?_ ?_
 rotate_left; exact pI; rotate_left; exact pS
 refine pure_ (i := 11) (N := some 35) (v := ?_) (a' := ?_) #[true, true, true, false, true, false, false, true, true, true, false, true, false, false, false, false] rfl rfl (any_of HT_.out (by kernel_rfl)) (fun _ _ _ h => h) (Or.inl ⟨by rfl, ?_⟩) ?_ ?_
 rotate_left; exact pI; rotate_left; exact pS
 refine take_ (i := 3) (N := some 27) (v := ?_) (a' := ?_) #[true, true, true, true, true, false, false, true, true, true, false, true, false, false, false, false] rfl rfl (take_ofW HT_.out HW_.out (by kernel_rfl)) (fun _ _ _ h => h) (Or.inl ⟨by rfl, ?_⟩) hHeld ?_ ?_
 rotate_left
 ·
  rintro w' ⟨s0, s1, s2, s3⟩
  go_simp
  with_reducible rfl
 rotate_left
 ·
  exact pS
 refine pure_ (i := 5) (N := some 29) (v := ?_) (a' := ?_) #[true, true, true, true, true, true, false, true, true, true, false, true, false, false, false, false] rfl rfl (any_of HT_.out (by kernel_rfl)) (fun _ _ _ h => h) (Or.inl ⟨by rfl, ?_⟩) ?_ ?_
 rotate_left; exact pI; rotate_left; exact pS
 refine take_ (i := 6) (N := some 30) (v := ?_) (a' := ?_) #[true, true, true, true, true, true, true, true, true, true, false, true, false, false, false, false] rfl rfl (take_ofW HT_.out HW_.out (by kernel_rfl)) (fun _ _ _ h => h) (Or.inl ⟨by rfl, ?_⟩) hHeld ?_ ?_
 rotate_left
 ·
  rintro w' ⟨s0, s1, s2, s3⟩
  go_simp
  with_reducible rfl
 rotate_left
 ·
  exact pS
 refine pure_ (i := 14) (N := some 6) (v := ?_) (a' := ?_) #[true, true, true, true, true, true, true, true, true, true, false, true, false, false, true, false] rfl rfl (any_of HT_.out (by kernel_rfl)) (fun _ _ _ h => h) (Or.inl ⟨by rfl, ?_⟩) ?_ ?_
 rotate_left; exact pI; rotate_left; exact pS
 refine take_ (i := 10) (N := some 34) (v := ?_) (a' := ?_) #[true, true, true, true, true, true, true, true, true, true, true, true, false, false, true, false] rfl rfl (take_ofW HT_.out HW_.out (by kernel_rfl)) (fun _ _ _ h => h) (Or.inl ⟨by rfl, ?_⟩) hHeld ?_ ?_
 rotate_left
 ·
  rintro w' ⟨s0, s1, s2, s3⟩
  go_simp
  with_reducible rfl
 rotate_left
 ·
  exact pS
 refine pure_ (i := 12) (N := some 36) (v := ?_) (a' := ?_) #[true, true, true, true, true, true, true, true, true, true, true, true, true, false, true, false] rfl rfl (any_of HT_.out (by kernel_rfl)) (fun _ _ _ h => h) (Or.inl ⟨by rfl, ?_⟩) ?_ ?_
 rotate_left; exact pI; rotate_left; exact pS
 refine take_ (i := 13) (N := some 37) (v := ?_) (a' := ?_) #[true, true, true, true, true, true, true, true, true, true, true, true, true, true, true, false] rfl rfl (take_ofW HT_.out HW_.out (by kernel_rfl)) (fun _ _ _ h => h) (Or.inl ⟨by rfl, ?_⟩) hHeld ?_ ?_
 rotate_left
 ·
  rintro w' ⟨s0, s1, s2, s3⟩
  go_simp
  with_reducible rfl
 rotate_left
 ·
  exact pS
 refine pure_ (i := 15) (N := some 7) (v := ?_) (a' := ?_) #[true, true, true, true, true, true, true, true, true, true, true, true, true, true, true, true] rfl rfl (any_of HT_.out (by kernel_rfl)) (fun _ _ _ h => h) (Or.inl ⟨by rfl, ?_⟩) ?_ ?_
 rotate_left; exact pI; rotate_left; exact pS
 refine done_ (done_of HT_.out (by kernel_rfl)) ?_
 have hz := T.out.cells
 have hzb := T.out.boxed
 go_wp2
 go_ret
 exact ⟨rfl, T.out.unbox.rest rfl rfl⟩
set_option maxHeartbeats 8000000 in
set_option maxRecDepth 100000 in
theorem stepForkNoB.calls (h : PlayAt w0 w pb g s L f TS) (i : Nat) (t : Tab) (hi : TS[i]? = some t) (Tb : Int) (hTb : (if Tb < 0 then 0 else Tb).tmod (TS.length : Int) = (i : Int)) (hT6 : TS.length ≤ 6) (Row NN : Int) (hR : ¬ 0 ≤ Row) (h6 : 6 ≤ TS.length) :
  Calls Try.prog 30 #[.pointer (some ⟨pb, 0, none⟩), .agg #[.int .i64 2, .int .i64 Tb, .int .i64 Row, .int .i64 NN]] w fun e w' => e = .returned (.bool true) ∧ PlayAt w0 w' pb g s L f TS := by
 have HI := aM hi
 have HT6 := aM hT6
 obtain ⟨own, v0, v1, av, rv, h⟩ := h
 obtain ⟨Aa, ac, rfl⟩ := Kd.R_slice h.A
 obtain ⟨Ar, rc, rfl⟩ := Kd.R_slice h.R
 obtain ⟨nT, hnT⟩ : ∃ n, TS.length = n := ⟨_, rfl⟩
 rw [show (List.map (fun b => [Value.pointer (some ⟨b, 0, none⟩)]) (TS.map Tab.tb)).length = nT by rw [List.length_map, List.length_map]; exact hnT, show (TS.map Tab.rows).length = nT by rw [List.length_map]; exact hnT] at h
 rw [hnT] at hTb
 have HTB := aM hTb
 have HNT := aM hnT
 have hin := (List.getElem?_eq_some_iff.mp hi).1
 have HTA : Aside0 ((TS.map Tab.tb)[i]? = some t.tb) := ⟨by rw [List.getElem?_map, hi]; rfl⟩
 obtain ⟨ab, e1, -, -⟩ := h.ptr rfl HTA.out
 obtain ⟨rb, A_, c_, e2, -, -, -⟩ := h.take rfl (show (TS.map Tab.rows)[i]? = some t.rows by rw [List.getElem?_map, hi]; rfl)
 subst e1 e2
 have hn0 : (nT = 0) = False := eq_false (by omega)
 have q0 : ((0 : Int) ≤ (i : Int)) = True := eq_true (by omega)
 have q1 : ((i : Int) < (nT : Int)) = True := eq_true (by omega)
 have q2 : (i < nT) = True := eq_true (by omega)
 have T := aM h
 have HT := aM (h.ht i t hi)
 have HN16 := aM (h.ht i t hi).hn
 have hu63 := Try.underlying63
 have hu57 := Try.underlying57
 have hu30 := Try.underlying30
 have d6 : decide (6 ≤ nT) = true := decide_eq_true (by omega)
 have d7 : decide (6 ≤ (nT : Int)) = true := decide_eq_true (by omega)
 clear h6
 have d1 : decide (0 ≤ Row) = false := decide_eq_false hR
 clear hR
 clear h hi hTb hT6 hnT hin A_ c_ HT
 go_enter Try.func30, Try.ntmps30
 go_upto_region 1 with (((with_reducible refine gate_dst (N := 3) rfl ?_); refine box_event ?hg (N := 3) ?hd (cs := #[.int .i64 2, .int .i64 Tb, .int .i64 Row, .int .i64 NN]) (t := 57) ?hr ?_; (case hd => rfl); (case hg => rfl); (case hr => first | (go_simp; done) | (go_simp; rfl)); intro bo hg_ wa hbox hb; replace T := aM ((T.out.below hb).box hbox); have hz := T.out.cells; have hzb := T.out.boxed; clear hbox hb hg_))
 clear hz hzb
 replace T := aM (T.out.drew)
 refine start_ (n := 10) (S := fun w' => w'.cell? ⟨bo, 1, none⟩ = some (.int .i64 Tb) ∧ w'.cell? ⟨pb, 3, none⟩ = some (.slice (some ⟨ab, 0, none⟩) nT ac)) (ds := []) #[false, false, false, false, false, false, false, false, false, false] (by kernel_rfl) rfl rfl ⟨T.out.boxed.2.1, T.out.cells.2.2.2.1⟩ (fun hHeld => ?_); refine with_tabW pst1.tab1 pst1.bits1 (fun HT_ HW_ => ?_)
 generalize wa.drew = wb at T hHeld ⊢
 refine pure_ (i := 0) (N := some 15) (v := ?_) (a' := ?_) #[true, false, false, false, false, false, false, false, false, false] rfl rfl (any_of HT_.out (by kernel_rfl)) (fun _ _ _ h => h) (Or.inl ⟨by rfl, ?_⟩) ?_ ?_
 rotate_left; exact pI; rotate_left; exact pS
 refine pure_ (i := 3) (N := some 18) (v := ?_) (a' := ?_) #[true, false, false, true, false, false, false, false, false, false] rfl rfl (any_of HT_.out (by kernel_rfl)) (fun _ _ _ h => h) (Or.inl ⟨by rfl, ?_⟩) ?_ ?_
 rotate_left; exact pI; rotate_left; exact pS
 refine pure_ (i := 4) (N := some 19) (v := ?_) (a' := ?_) #[true, false, false, true, true, false, false, false, false, false] rfl rfl (any_of HT_.out (by kernel_rfl)) (fun _ _ _ h => h) (Or.inl ⟨by rfl, ?_⟩) ?_ ?_
 rotate_left; exact pI; rotate_left; exact pS
 refine pure_ (i := 5) (N := some 20) (v := ?_) (a' := ?_) #[true, false, false, true, true, true, false, false, false, false] rfl rfl (any_of HT_.out (by kernel_rfl)) (fun _ _ _ h => h) (Or.inl ⟨by rfl, ?_⟩) ?_ ?_
 rotate_left; exact pI; rotate_left; exact pS
 refine take_ (i := 1) (N := some 16) (v := ?_) (a' := ?_) #[true, true, false, true, true, true, false, false, false, false] rfl rfl (take_ofW HT_.out HW_.out (by kernel_rfl)) (fun _ _ _ h => h) (Or.inl ⟨by rfl, ?_⟩) hHeld ?_ ?_
 rotate_left
 ·
  rintro w' ⟨s0, s1⟩
  go_simp
  with_reducible rfl
 rotate_left
 ·
  exact pS
 refine pure_ (i := 2) (N := some 17) (v := ?_) (a' := ?_) #[true, true, true, true, true, true, false, false, false, false] rfl rfl (any_of HT_.out (by kernel_rfl)) (fun _ _ _ h => h) (Or.inl ⟨by rfl, ?_⟩) ?_ ?_
 rotate_left; exact pI; rotate_left; exact pS
 refine take_ (i := 6) (N := some 21) (v := ?_) (a' := ?_) #[true, true, true, true, true, true, true, false, false, false] rfl rfl (take_ofW HT_.out HW_.out (by kernel_rfl)) (fun _ _ _ h => h) (Or.inl ⟨by rfl, ?_⟩) hHeld ?_ ?_
 rotate_left
 ·
  rintro w' ⟨s0, s1⟩
  go_simp
  with_reducible rfl
 rotate_left
 ·
  exact pS
 refine pure_ (i := 7) (N := some 22) (v := ?_) (a' := ?_) #[true, true, true, true, true, true, true, true, false, false] rfl rfl (any_of HT_.out (by kernel_rfl)) (fun _ _ _ h => h) (Or.inl ⟨by rfl, ?_⟩) ?_ ?_
 rotate_left; exact pI; rotate_left; exact pS
 refine pure_ (i := 8) (N := some 23) (v := ?_) (a' := ?_) #[true, true, true, true, true, true, true, true, true, false] rfl rfl (any_of HT_.out (by kernel_rfl)) (fun _ _ _ h => h) (Or.inl ⟨by rfl, ?_⟩) ?_ ?_
 rotate_left; exact pI; rotate_left; exact pS
 refine pure_ (i := 9) (N := some 5) (v := ?_) (a' := ?_) #[true, true, true, true, true, true, true, true, true, true] rfl rfl (any_of HT_.out (by kernel_rfl)) (fun _ _ _ h => h) (Or.inl ⟨by rfl, ?_⟩) ?_ ?_
 rotate_left; exact pI; rotate_left; exact pS
 refine done_ (done_of HT_.out (by kernel_rfl)) ?_
 generalize (if Tb < 0 then (0 : Int) else Tb) = mx at HTB ⊢
 go_upto_region 2 with (fail)
 rw [HTB.out]
 obtain ⟨rb2, Ac, cc, er, -, hcr, hT⟩ := T.out.take rfl (show (TS.map Tab.rows)[i]? = some t.rows by rw [List.getElem?_map, HI.out]; rfl)
 obtain rfl : rb = rb2 := by injection er with er; injection er
 replace T := aM hT
 have HCR := aM hcr
 clear hcr hT er
 replace T := aM (T.out.drew)
 replace HCR := aM (cell_dr HCR.out)
 refine start_ (n := 16) (S := fun w' => w'.cell? ⟨pb, 3, none⟩ = some (.slice (some ⟨ab, 0, none⟩) nT ac) ∧ w'.cell? ⟨pb, 4, none⟩ = some (.slice (some ⟨rb, 0, none⟩) nT rc) ∧ w'.cell? ⟨ab, i, none⟩ = some (.pointer (some ⟨t.tb, 0, none⟩)) ∧ w'.cell? ⟨rb, i, none⟩ = some (.slice Ac t.rows.length cc)) (ds := []) #[false, false, false, false, false, false, false, false, false, false, false, false, false, false, false, false] (by kernel_rfl) rfl rfl ⟨T.out.cells.2.2.2.1, T.out.cells.2.2.2.2.1, T.out.cellA rfl HTA.out, HCR.out⟩ (fun hHeld => ?_); refine with_tabW pst2.tab2 pst2.bits2 (fun HT_ HW_ => ?_)
 generalize wb.drew = wc at T HCR hHeld ⊢
 refine pure_ (i := 0) (N := some 24) (v := ?_) (a' := ?_) #[true, false, false, false, false, false, false, false, false, false, false, false, false, false, false, false] rfl rfl (any_of HT_.out (by kernel_rfl)) (fun _ _ _ h => h) (Or.inl ⟨by rfl, ?_⟩) ?_ ?_
 rotate_left; exact pI; rotate_left; exact pS
 refine pure_ (i := 1) (N := some 25) (v := ?_) (a' := ?_) #[true, true, false, false, false, false, false, false, false, false, false, false, false, false, false, false] rfl rfl (any_of HT_.out (by kernel_rfl)) (fun _ _ _ h => h) (Or.inl ⟨by rfl, ?_⟩) ?_ ?_
 rotate_left; exact pI; rotate_left; exact pS
 refine pure_ (i := 2) (N := some 26) (v := ?_) (a' := ?_) #[true, true, true, false, false, false, false, false, false, false, false, false, false, false, false, false] rfl rfl (any_of HT_.out (by kernel_rfl)) (fun _ _ _ h => h) (Or.inl ⟨by rfl, ?_⟩) ?_ ?_
 rotate_left; exact pI; rotate_left; exact pS
 refine pure_ (i := 4) (N := some 28) (v := ?_) (a' := ?_) #[true, true, true, false, true, false, false, false, false, false, false, false, false, false, false, false] rfl rfl (any_of HT_.out (by kernel_rfl)) (fun _ _ _ h => h) (Or.inl ⟨by rfl, ?_⟩) ?_ ?_
 rotate_left; exact pI; rotate_left; exact pS
 refine pure_ (i := 7) (N := some 31) (v := ?_) (a' := ?_) #[true, true, true, false, true, false, false, true, false, false, false, false, false, false, false, false] rfl rfl (any_of HT_.out (by kernel_rfl)) (fun _ _ _ h => h) (Or.inl ⟨by rfl, ?_⟩) ?_ ?_
 rotate_left; exact pI; rotate_left; exact pS
 refine pure_ (i := 8) (N := some 32) (v := ?_) (a' := ?_) #[true, true, true, false, true, false, false, true, true, false, false, false, false, false, false, false] rfl rfl (any_of HT_.out (by kernel_rfl)) (fun _ _ _ h => h) (Or.inl ⟨by rfl, ?_⟩) ?_ ?_
 rotate_left; exact pI; rotate_left; exact pS
 refine pure_ (i := 9) (N := some 33) (v := ?_) (a' := ?_) #[true, true, true, false, true, false, false, true, true, true, false, false, false, false, false, false] rfl rfl (any_of HT_.out (by kernel_rfl)) (fun _ _ _ h => h) (Or.inl ⟨by rfl, ?_⟩) ?_ ?_
 rotate_left; exact pI; rotate_left; exact pS
 refine pure_ (i := 11) (N := some 35) (v := ?_) (a' := ?_) #[true, true, true, false, true, false, false, true, true, true, false, true, false, false, false, false] rfl rfl (any_of HT_.out (by kernel_rfl)) (fun _ _ _ h => h) (Or.inl ⟨by rfl, ?_⟩) ?_ ?_
 rotate_left; exact pI; rotate_left; exact pS
 refine take_ (i := 3) (N := some 27) (v := ?_) (a' := ?_) #[true, true, true, true, true, false, false, true, true, true, false, true, false, false, false, false] rfl rfl (take_ofW HT_.out HW_.out (by kernel_rfl)) (fun _ _ _ h => h) (Or.inl ⟨by rfl, ?_⟩) hHeld ?_ ?_
 rotate_left
 ·
  rintro w' ⟨s0, s1, s2, s3⟩
  go_simp
  with_reducible rfl
 rotate_left
 ·
  exact pS
 refine pure_ (i := 5) (N := some 29) (v := ?_) (a' := ?_) #[true, true, true, true, true, true, false, true, true, true, false, true, false, false, false, false] rfl rfl (any_of HT_.out (by kernel_rfl)) (fun _ _ _ h => h) (Or.inl ⟨by rfl, ?_⟩) ?_ ?_
 rotate_left; exact pI; rotate_left; exact pS
 refine take_ (i := 6) (N := some 30) (v := ?_) (a' := ?_) #[true, true, true, true, true, true, true, true, true, true, false, true, false, false, false, false] rfl rfl (take_ofW HT_.out HW_.out (by kernel_rfl)) (fun _ _ _ h => h) (Or.inl ⟨by rfl, ?_⟩) hHeld ?_ ?_
 rotate_left
 ·
  rintro w' ⟨s0, s1, s2, s3⟩
  go_simp
  with_reducible rfl
 rotate_left
 ·
  exact pS
 refine pure_ (i := 14) (N := some 6) (v := ?_) (a' := ?_) #[true, true, true, true, true, true, true, true, true, true, false, true, false, false, true, false] rfl rfl (any_of HT_.out (by kernel_rfl)) (fun _ _ _ h => h) (Or.inl ⟨by rfl, ?_⟩) ?_ ?_
 rotate_left; exact pI; rotate_left; exact pS
 refine take_ (i := 10) (N := some 34) (v := ?_) (a' := ?_) #[true, true, true, true, true, true, true, true, true, true, true, true, false, false, true, false] rfl rfl (take_ofW HT_.out HW_.out (by kernel_rfl)) (fun _ _ _ h => h) (Or.inl ⟨by rfl, ?_⟩) hHeld ?_ ?_
 rotate_left
 ·
  rintro w' ⟨s0, s1, s2, s3⟩
  go_simp
  with_reducible rfl
 rotate_left
 ·
  exact pS
 refine pure_ (i := 12) (N := some 36) (v := ?_) (a' := ?_) #[true, true, true, true, true, true, true, true, true, true, true, true, true, false, true, false] rfl rfl (any_of HT_.out (by kernel_rfl)) (fun _ _ _ h => h) (Or.inl ⟨by rfl, ?_⟩) ?_ ?_
 rotate_left; exact pI; rotate_left; exact pS
 refine take_ (i := 13) (N := some 37) (v := ?_) (a' := ?_) #[true, true, true, true, true, true, true, true, true, true, true, true, true, true, true, false] rfl rfl (take_ofW HT_.out HW_.out (by kernel_rfl)) (fun _ _ _ h => h) (Or.inl ⟨by rfl, ?_⟩) hHeld ?_ ?_
 rotate_left
 ·
  rintro w' ⟨s0, s1, s2, s3⟩
  go_simp
  with_reducible rfl
 rotate_left
 ·
  exact pS
 refine pure_ (i := 15) (N := some 7) (v := ?_) (a' := ?_) #[true, true, true, true, true, true, true, true, true, true, true, true, true, true, true, true] rfl rfl (any_of HT_.out (by kernel_rfl)) (fun _ _ _ h => h) (Or.inl ⟨by rfl, ?_⟩) ?_ ?_
 rotate_left; exact pI; rotate_left; exact pS
 refine done_ (done_of HT_.out (by kernel_rfl)) ?_
 have hz := T.out.cells
 have hzb := T.out.boxed
 go_wp2
 go_ret
 exact ⟨rfl, T.out.unbox.rest rfl rfl⟩
end
-- calls: credenzalaw11_begun credenzalaw11_copied credenzaref10_Pool_Change

end Go.Proofs.Ytoofkemhikigoaa.PBlockPlays
