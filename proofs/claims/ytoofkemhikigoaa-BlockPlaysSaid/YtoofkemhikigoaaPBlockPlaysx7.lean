-- Written by a program of this session (wip/tools/mkprint.py over the kit's print).
import Derived.Test.YtoofkemhikigoaaPBlockPlaysx0
namespace Go.Proofs.Ytoofkemhikigoaa.PBlockPlays
open Go.RowKit Go.Proofs.YtoofkemhikigoaaW.PrintWords Go.Proofs.YtoofkemhikigoaaW.PrintLast Go.Proofs.YtoofkemhikigoaaW.PrintMore
attribute [local go_sem] max2_int min2_int max_two min_two max_three min_three max_four min_four   -- for this text's walks alone
set_option linter.unusedVariables false
set_option linter.unusedSimpArgs false

/-! ### credenzaref10_New: function 13 -/
def credenzaref10_New.l0 : Nat → Int → Int → List Int → List Int → Option (List Int × List Int)
 | 0, _, _, _, _ => none
 | k + 1, x0, x4, x211000, x211001 => if x4 < x0 then (if x211000.length < 17592186044416 then (if x211001.length < 17592186044416 then (credenzaref10_New.l0 k x0 (wrap64 (x4 + 1)) (x211000 ++ [0]) (x211001 ++ [0])) else (none)) else (none)) else (some (x211000, x211001))
def credenzaref10_New.f (k : Nat) (a0 : Int) : Option (List Int × List Int) := credenzaref10_New.l0 k a0 0 ([] : List Int) ([] : List Int)
theorem credenzaref10_New.mono_l : ∀ k, (∀ y0 y1 y2 y3, LeO (credenzaref10_New.l0 k y0 y1 y2 y3) (credenzaref10_New.l0 (k + 1) y0 y1 y2 y3))
 | 0 => fun _ _ _ _ r h => by simp [credenzaref10_New.l0] at h
 | k + 1 => by
  have ih0 := credenzaref10_New.mono_l k
  ·
   intro y0 y1 y2 y3
   unfold credenzaref10_New.l0
   repeat' first
   | (with_reducible exact ih0 _ _ _ _)
   | (with_reducible exact LeO.refl _)
   | (with_reducible exact LeO.none _)
   | (with_reducible refine LeO.ite ?_ ?_)
   | (with_reducible refine LeO.bind ?_ (fun _ => ?_))
   | exact ih0 _ _ _ _
   | exact LeO.none _
   | refine LeO.ite ?_ ?_
   | refine LeO.bind ?_ (fun _ => ?_)
theorem credenzaref10_New.mono : ∀ a0 k, LeO (credenzaref10_New.f k a0) (credenzaref10_New.f (k + 1) a0) := by
 intro a0 k
 have ih0 := credenzaref10_New.mono_l k
 unfold credenzaref10_New.f
 repeat' first
   | (with_reducible exact ih0 _ _ _ _)
   | (with_reducible exact LeO.refl _)
   | (with_reducible exact LeO.none _)
   | (with_reducible refine LeO.ite ?_ ?_)
   | (with_reducible refine LeO.bind ?_ (fun _ => ?_))
   | exact ih0 _ _ _ _
   | exact LeO.none _
   | refine LeO.ite ?_ ?_
   | refine LeO.bind ?_ (fun _ => ?_)
set_option maxHeartbeats 8000000 in
set_option maxRecDepth 100000 in
theorem credenzaref10_New.calls (k : Nat) (a0 : Int) (r1 : List Int) (r2 : List Int) (w : World) (h : credenzaref10_New.f k a0 = some (r1, r2)) :
  Calls Try.prog 13 #[.int .i64 a0] w fun e w' => ∃ v0_ v1_ : Value, e = .returned (.agg #[v0_, v1_]) ∧ Kd.R (Kd.int .i64) 3 w' w.heap.size (fun k_ => some k_ ≠ (v1_ : Value).ownBlock) v0_ r1 ∧ Kd.R (Kd.int .i64) 3 w' w.heap.size (fun k_ => some k_ ≠ (v0_ : Value).ownBlock) v1_ r2 ∧ Below w.heap.size w w' := by
 have hu30 := Try.underlying30
 have HB := Aside0.mk (Below.refl w.heap.size w)
 have H : (credenzaref10_New.l0 k a0 0 ([] : List Int) ([] : List Int)) = some (r1, r2) := h
 clear h
 have H' := Aside0.mk H
 clear H
 go_enter Try.func13, Try.ntmps13
 go_wp2_with (first | ((with_reducible refine gate_dst (N := 2) rfl ?_); refine box_event ?hg (N := 2) ?hd (cs := #[.slice none 0 0, .slice none 0 0]) (t := 30) ?hr ?_; (case hd => rfl); (case hg => rfl); (case hr => first | (go_simp; done) | (go_simp; rfl)); intro gb209 hg w2 hbox hb; have n0_ := Aside0.mk (below_step (by with_reducible exact HB.out) hb); have n1_ := Aside0.mk (hbox); have n2_ := Aside0.mk ((by rw [hg]; exact (below_size (by with_reducible exact HB.out)) : w.heap.size ≤ gb209)); have n3_ := Aside0.mk ((by rw [hg]; exact (below_size (by with_reducible exact HB.out)) : w.heap.size ≤ gb209)); clear HB; have HB := n0_; have BK209 := n1_; have GW209 := n2_; have GE209 := n3_; clear n0_ n1_ n2_ n3_; clear hb hbox hg) | ((with_reducible refine gate_dst (N := 3) rfl ?_); refine box_event ?hg (N := 3) ?hd (cs := #[.slice none 0 0, .slice none 0 0]) (t := 30) ?hr ?_; (case hd => rfl); (case hg => rfl); (case hr => first | (go_simp; done) | (go_simp; rfl)); intro gb210 hg w3 hbox hb; have n0_ := Aside0.mk (blk_below (g := gb209) (o := .cells #[.slice none 0 0, .slice none 0 0] 30 (0, 0)) (by exact BK209.out) hb); have n1_ := Aside0.mk (below_step (by with_reducible exact HB.out) hb); have n2_ := Aside0.mk (hbox); have n3_ := Aside0.mk ((by rw [hg]; exact (below_size (by with_reducible exact HB.out)) : w.heap.size ≤ gb210)); have n4_ := Aside0.mk ((by rw [hg]; exact (below_size (by with_reducible exact HB.out)) : w.heap.size ≤ gb210)); have n5_ := Aside0.mk ((by rw [hg]; exact Nat.ne_of_lt (blk_lt (g := gb209) (o := .cells #[.slice none 0 0, .slice none 0 0] 30 (0, 0)) (by exact BK209.out)) : gb209 ≠ gb210)); have n6_ := Aside0.mk ((by rw [hg]; exact Nat.ne_of_gt (blk_lt (g := gb209) (o := .cells #[.slice none 0 0, .slice none 0 0] 30 (0, 0)) (by exact BK209.out)) : gb210 ≠ gb209)); clear BK209; clear HB; have BK209 := n0_; have HB := n1_; have BK210 := n2_; have GW210 := n3_; have GE210 := n4_; have NB209_210 := n5_; have NB210_209 := n6_; clear n0_ n1_ n2_ n3_ n4_ n5_ n6_; clear hb hbox hg; have hnb4 := NB210_209.out; have hnc4 := NB209_210.out; have hcz5_0 : w3.cell? ⟨gb210, 0, none⟩ = some (.slice none 0 0) := (blk_cell BK210.out 0).trans rfl; have hcz5_1 : w3.cell? ⟨gb210, 1, none⟩ = some (.slice none 0 0) := (blk_cell BK210.out 1).trans rfl; have hfz5_0 := blk_frozen BK210.out 0; have hfz5_1 := blk_frozen BK210.out 1))
 go_loopg [4] k (fun kq v4 w' => ∃ (x4_1 : Int) (x211000_1 : List Int) (x211001_1 : List Int) (u211000 : Value) (u211001 : Value), v4 = .int .i64 x4_1 ∧ Aside0 (credenzaref10_New.l0 kq a0 x4_1 x211000_1 x211001_1 = some (r1, r2)) ∧ Aside0 (kq ≤ k) ∧ Aside0 (Kd.R (Kd.int .i64) 3 w' w.heap.size (fun k_ => some k_ ≠ (u211001 : Value).ownBlock) u211000 x211000_1) ∧ Aside0 (Kd.R (Kd.int .i64) 3 w' w.heap.size (fun k_ => some k_ ≠ (u211000 : Value).ownBlock) u211001 x211001_1) ∧ Aside0 (w'.heap[gb209]? = some (.cells #[(.slice none 0 0), (.slice none 0 0)] 30 (0, 0))) ∧ Aside0 (w'.heap[gb210]? = some (.cells #[u211000, u211001] 30 (0, 0))) ∧ Aside0 (Below w.heap.size w w'))
 case atStart => exact ⟨(0), (([] : List Int)), (([] : List Int)), (.slice none 0 0), (.slice none 0 0), (by first | rfl | (simp; done) | (simp [*]; done)), H', ⟨Nat.le_refl _⟩, ⟨by first | exact Kd.R_nil _ _ _ _ _ | exact Kd.N_nil _ _ _ _ _ | exact Kd.V_nil _ _ _ _ _ | exact Kd.Q_nil _ _ _ _ _ | exact Kd.S_nil _ _ _ _ _⟩, ⟨by first | exact Kd.R_nil _ _ _ _ _ | exact Kd.N_nil _ _ _ _ _ | exact Kd.V_nil _ _ _ _ _ | exact Kd.Q_nil _ _ _ _ _ | exact Kd.S_nil _ _ _ _ _⟩, ⟨by (with_reducible repeat (first | refine blk_drewN ?_ _ | refine blk_drew ?_ | refine blk_alloc ?_ _)); refine blk_far ?_ NB209_210.out _; (with_reducible repeat (first | refine blk_drewN ?_ _ | refine blk_drew ?_ | refine blk_alloc ?_ _)); refine blk_far ?_ NB209_210.out _; (with_reducible repeat (first | refine blk_drewN ?_ _ | refine blk_drew ?_ | refine blk_alloc ?_ _)); exact BK209.out⟩, ⟨by (with_reducible repeat (first | refine blk_drewN ?_ _ | refine blk_drew ?_ | refine blk_alloc ?_ _)); refine blk_put (cs := #[.slice none 0 0, .slice none 0 0]) ?_ 1 _ rfl; (with_reducible repeat (first | refine blk_drewN ?_ _ | refine blk_drew ?_ | refine blk_alloc ?_ _)); refine blk_put (cs := #[.slice none 0 0, .slice none 0 0]) ?_ 0 _ rfl; (with_reducible repeat (first | refine blk_drewN ?_ _ | refine blk_drew ?_ | refine blk_alloc ?_ _)); exact BK210.out⟩, ⟨by repeat (first | (with_reducible first | exact HB.out | apply below_alloc | apply pw_below_drewN | apply below_drew1 | refine below_set ?_ GE209.out | refine below_set ?_ GE210.out) | exact HB.out)⟩⟩
 case round =>
  clear H'
  try clear c1
  try clear p2
  try clear c4
  try clear hcz5_0
  try clear hcz5_1
  try clear hfz5_0
  try clear hfz5_1
  obtain ⟨x4_1, x211000_1, x211001_1, u211000, u211001, rfl, HA, HK1, HO_211000, HO_211001, BK209, BK210, HB⟩ := hrel
  cases gk with
  | zero => exact absurd HA.out (by simp [credenzaref10_New.l0])
  | succ k1 =>
   have H := HA.out
   clear HA
   simp only [credenzaref10_New.l0] at H
   by_cases c6 : x4_1 < a0
   ·
    rw [if_pos c6] at H
    have c6b0 : decide (x4_1 < a0) = true := decide_eq_true c6
    clear c6
    by_cases c7 : x211000_1.length < 17592186044416
    case neg => (rw [if_neg c7] at H; exact absurd H (by simp))
    rw [if_pos c7] at H
    have LMc7 := Aside0.mk c7
    clear c7
    obtain ⟨y211, hy211⟩ : ∃ y_ : List Int, y_ = (x211000_1 ++ [0]) := ⟨_, rfl⟩
    replace H : (if x211001_1.length < 17592186044416 then (credenzaref10_New.l0 k1 a0 (wrap64 (x4_1 + 1)) y211 (x211001_1 ++ [0])) else (none)) = some (r1, r2) := by first | (rw [hy211]; with_reducible exact H) | (have H2_ := (Option.bind_some _ _).symm.trans H; rw [hy211]; with_reducible exact H2_) | (have H2_ := (Option.bind_some _ _).symm.trans H; with_reducible exact H2_) | with_reducible exact H | (rw [hy211]; exact H) | exact H
    have Ny211 := Aside0.mk hy211
    clear hy211
    by_cases c8 : x211001_1.length < 17592186044416
    case neg => (rw [if_neg c8] at H; exact absurd H (by simp))
    rw [if_pos c8] at H
    have LMc8 := Aside0.mk c8
    clear c8
    obtain ⟨y214, hy214⟩ : ∃ y_ : List Int, y_ = (x211001_1 ++ [0]) := ⟨_, rfl⟩
    replace H : (credenzaref10_New.l0 k1 a0 (wrap64 (x4_1 + 1)) y211 y214) = some (r1, r2) := by first | (rw [hy214]; with_reducible exact H) | (have H2_ := (Option.bind_some _ _).symm.trans H; rw [hy214]; with_reducible exact H2_) | (have H2_ := (Option.bind_some _ _).symm.trans H; with_reducible exact H2_) | with_reducible exact H | (rw [hy214]; exact H) | exact H
    have Ny214 := Aside0.mk hy214
    clear hy214
    have H' := Aside0.mk H
    clear H
    have hnb9 := NB210_209.out
    have hnc9 := NB209_210.out
    have hcz10_0 : wr.cell? ⟨gb210, 0, none⟩ = some (u211000) := (blk_cell BK210.out 0).trans rfl
    have hcz10_1 : wr.cell? ⟨gb210, 1, none⟩ = some (u211001) := (blk_cell BK210.out 1).trans rfl
    have hfz10_0 := blk_frozen BK210.out 0
    have hfz10_1 := blk_frozen BK210.out 1
    go_wp2_with (first | ((with_reducible refine gate_builtin (b := .append) (xs := #[.tmp 12, .tmp 13]) rfl ?_); at_builtin; refine Kd.R_append (Kd.int .i64) (w0 := w) w.heap.size rfl (.tmp 12) (.tmp 13) 28 3 (.int .i64 0) 8 rfl Try.underlying28 info3 rfl (by decide) (by omega) u211000 x211000_1 0 [.int .i64 0] (fun k_ => some k_ ≠ (u211001 : Value).ownBlock) (fun _ => False) rfl rfl ?aP (fun _ hk => hk.elim) ?aF ?aO ?aB ?aS ?aL ?_; (case aP => exact rfl); (case aB => exact (by with_reducible exact HB.out)); (case aF => exact (fun k_ hk => Kd.fresh' (Kd.R_lt (by exact HO_211001.out)) k_ hk)); (case aO => exact (by exact HO_211000.out)); (case aS => exact (below_size (by with_reducible exact HB.out))); (case aL => have := LMc7.out; omega); intro v212 w11 ho hb hg hat; rw [← Ny211.out] at ho; have n0_ := Aside0.mk (Kd.R_after (ok := (fun _ => True)) (by exact Kd.R_mono HO_211001.out (fun _ hk => ⟨trivial, hk⟩)) hg hat); have n1_ := Aside0.mk (blk_grown (g := gb209) (o := .cells #[.slice none 0 0, .slice none 0 0] 30 (0, 0)) (by exact BK209.out) hg (Kd.R_ne HO_211000.out BK209.out (by decide))); have n2_ := Aside0.mk (blk_grown (g := gb210) (o := .cells #[u211000, u211001] 30 (0, 0)) (by exact BK210.out) hg (Kd.R_ne HO_211000.out BK210.out (by decide))); have n3_ := Aside0.mk (hb); have n4_ := Aside0.mk (ho); clear HO_211001; clear BK209; clear BK210; clear HB; clear HO_211000; have HO_211001 := n0_; have BK209 := n1_; have BK210 := n2_; have HB := n3_; have HO213 := n4_; clear n0_ n1_ n2_ n3_ n4_; clear ho hb hg hat; obtain ⟨Ao12, co12, eo12⟩ := Kd.R_slice HO213.out; subst eo12; have hcz13_0 : w11.cell? ⟨gb210, 0, none⟩ = some (u211000) := (blk_cell BK210.out 0).trans rfl; have hcz13_1 : w11.cell? ⟨gb210, 1, none⟩ = some (u211001) := (blk_cell BK210.out 1).trans rfl; have hfz13_0 := blk_frozen BK210.out 0; have hfz13_1 := blk_frozen BK210.out 1) | ((with_reducible refine gate_builtin (b := .append) (xs := #[.tmp 17, .tmp 18]) rfl ?_); at_builtin; refine Kd.R_append (Kd.int .i64) (w0 := w) w.heap.size rfl (.tmp 17) (.tmp 18) 28 3 (.int .i64 0) 8 rfl Try.underlying28 info3 rfl (by decide) (by omega) u211001 x211001_1 0 [.int .i64 0] (fun k_ => some k_ ≠ (.slice Ao12 y211.length co12 : Value).ownBlock) (fun _ => False) rfl (by first | (go_simp; done) | (go_simp; rfl)) ?aP (fun _ hk => hk.elim) ?aF ?aO ?aB ?aS ?aL ?_; (case aP => exact rfl); (case aB => exact (by repeat (first | (with_reducible first | exact HB.out | apply below_alloc | apply pw_below_drewN | apply below_drew1 | refine below_set ?_ GE209.out | refine below_set ?_ GE210.out) | exact HB.out))); (case aF => exact (fun k_ hk => Kd.fresh' (Kd.R_lt (by (with_reducible repeat (first | apply Kd.R_alloc | apply Kd.R_drewN | apply Kd.R_drew)); exact (Kd.R_mono (Kd.R_far (p := ⟨gb210, 0, none⟩) (Kd.R_types HO213.out BK210.out (by decide)) (fun _ hk => hk.2) (.slice Ao12 y211.length co12)) (fun _ h_ => h_.1)))) k_ hk)); (case aO => exact (by (with_reducible repeat (first | apply Kd.R_alloc | apply Kd.R_drewN | apply Kd.R_drew)); exact Kd.R_mono (Kd.R_far (p := ⟨gb210, 0, none⟩) (Kd.R_types HO_211001.out BK210.out (by decide)) (fun _ hk => hk.2) (.slice Ao12 y211.length co12)) (fun _ hk => hk.1.2))); (case aS => exact (below_size (by repeat (first | (with_reducible first | exact HB.out | apply below_alloc | apply pw_below_drewN | apply below_drew1 | refine below_set ?_ GE209.out | refine below_set ?_ GE210.out) | exact HB.out)))); (case aL => have := LMc8.out; omega); intro v215 w14 ho hb hg hat; rw [← Ny214.out] at ho; have n0_ := Aside0.mk (blk_grown (g := gb209) (o := .cells #[.slice none 0 0, .slice none 0 0] 30 (0, 0)) (by (with_reducible repeat (first | refine blk_drewN ?_ _ | refine blk_drew ?_ | refine blk_alloc ?_ _)); refine blk_far ?_ NB209_210.out _; (with_reducible repeat (first | refine blk_drewN ?_ _ | refine blk_drew ?_ | refine blk_alloc ?_ _)); exact BK209.out) hg (Kd.R_ne HO_211001.out BK209.out (by decide))); have n1_ := Aside0.mk (blk_grown (g := gb210) (o := .cells #[.slice Ao12 y211.length co12, u211001] 30 (0, 0)) (by (with_reducible repeat (first | refine blk_drewN ?_ _ | refine blk_drew ?_ | refine blk_alloc ?_ _)); refine blk_put (cs := #[u211000, u211001]) ?_ 0 _ rfl; (with_reducible repeat (first | refine blk_drewN ?_ _ | refine blk_drew ?_ | refine blk_alloc ?_ _)); exact BK210.out) hg (Kd.R_ne HO_211001.out BK210.out (by decide))); have n2_ := Aside0.mk (Kd.R_after (ok := (fun _ => True)) (by (with_reducible repeat (first | apply Kd.R_alloc | apply Kd.R_drewN | apply Kd.R_drew)); exact Kd.R_mono (Kd.R_far (p := ⟨gb210, 0, none⟩) (Kd.R_types HO213.out BK210.out (by decide)) (fun _ hk => hk.2) (.slice Ao12 y211.length co12)) (fun _ hk => ⟨trivial, hk.1⟩)) hg hat); have n3_ := Aside0.mk (hb); have n4_ := Aside0.mk (ho); clear BK209; clear BK210; clear HO213; clear HB; clear HO_211001; have BK209 := n0_; have BK210 := n1_; have HO213 := n2_; have HB := n3_; have HO216 := n4_; clear n0_ n1_ n2_ n3_ n4_; clear ho hb hg hat; obtain ⟨Ao15, co15, eo15⟩ := Kd.R_slice HO216.out; subst eo15; have hcz16_0 : w14.cell? ⟨gb210, 0, none⟩ = some (.slice Ao12 y211.length co12) := (blk_cell BK210.out 0).trans rfl; have hcz16_1 : w14.cell? ⟨gb210, 1, none⟩ = some (u211001) := (blk_cell BK210.out 1).trans rfl; have hfz16_0 := blk_frozen BK210.out 0; have hfz16_1 := blk_frozen BK210.out 1))
    go_roundg k1
    case measure => have := HK1.out; omega
    case rel => exact ⟨(wrap64 (x4_1 + 1)), (y211), (y214), (.slice Ao12 y211.length co12), (.slice Ao15 y214.length co15), (by first | rfl | (simp; done) | (simp [*]; done)), H', ⟨by have := HK1.out; omega⟩, ⟨by (with_reducible repeat (first | apply Kd.R_alloc | apply Kd.R_drewN | apply Kd.R_drew)); exact Kd.R_mono (Kd.R_far (p := ⟨gb210, 1, none⟩) (Kd.R_types HO213.out BK210.out (by decide)) (fun _ hk => hk.2) (.slice Ao15 y214.length co15)) (fun _ hk => hk.1.2)⟩, ⟨by (with_reducible repeat (first | apply Kd.R_alloc | apply Kd.R_drewN | apply Kd.R_drew)); exact Kd.R_mono (Kd.R_far (p := ⟨gb210, 1, none⟩) (Kd.R_types HO216.out BK210.out (by decide)) (fun _ hk => hk.2) (.slice Ao15 y214.length co15)) (fun _ hk => hk.1)⟩, ⟨by (with_reducible repeat (first | refine blk_drewN ?_ _ | refine blk_drew ?_ | refine blk_alloc ?_ _)); refine blk_far ?_ NB209_210.out _; (with_reducible repeat (first | refine blk_drewN ?_ _ | refine blk_drew ?_ | refine blk_alloc ?_ _)); exact BK209.out⟩, ⟨by (with_reducible repeat (first | refine blk_drewN ?_ _ | refine blk_drew ?_ | refine blk_alloc ?_ _)); refine blk_put (cs := #[.slice Ao12 y211.length co12, u211001]) ?_ 1 _ rfl; (with_reducible repeat (first | refine blk_drewN ?_ _ | refine blk_drew ?_ | refine blk_alloc ?_ _)); exact BK210.out⟩, ⟨by repeat (first | (with_reducible first | exact HB.out | apply below_alloc | apply pw_below_drewN | apply below_drew1 | refine below_set ?_ GE209.out | refine below_set ?_ GE210.out) | exact HB.out)⟩⟩
   ·
    rw [if_neg c6] at H
    have c6b0 : decide (x4_1 < a0) = false := decide_eq_false c6
    clear c6
    simp only [Option.some.injEq, Prod.mk.injEq] at H
    obtain ⟨rfl, rfl⟩ := H
    have hnb17 := NB210_209.out
    have hnc17 := NB209_210.out
    have hcz18_0 : wr.cell? ⟨gb210, 0, none⟩ = some (u211000) := (blk_cell BK210.out 0).trans rfl
    have hcz18_1 : wr.cell? ⟨gb210, 1, none⟩ = some (u211001) := (blk_cell BK210.out 1).trans rfl
    have hfz18_0 := blk_frozen BK210.out 0
    have hfz18_1 := blk_frozen BK210.out 1
    obtain ⟨Ao19, co19, eo19⟩ := Kd.R_slice HO_211000.out
    subst eo19
    have hcz20_0 : wr.cell? ⟨gb209, 0, none⟩ = some (.slice none 0 0) := (blk_cell BK209.out 0).trans rfl
    have hcz20_1 : wr.cell? ⟨gb209, 1, none⟩ = some (.slice none 0 0) := (blk_cell BK209.out 1).trans rfl
    have hfz20_0 := blk_frozen BK209.out 0
    have hfz20_1 := blk_frozen BK209.out 1
    obtain ⟨Ao21, co21, eo21⟩ := Kd.R_slice HO_211001.out
    subst eo21
    go_wp2
    refine bodyPost_ret (results_cell_row rfl _ _ gb209 30 #[.slice Ao19 x211000_1.length co19, .slice Ao21 x211001_1.length co21] (0, 0) _ rfl (by (with_reducible repeat (first | refine blk_drewN ?_ _ | refine blk_drew ?_ | refine blk_alloc ?_ _)); refine blk_put (cs := #[.slice Ao19 x211000_1.length co19, .slice none 0 0]) ?_ 1 _ rfl; (with_reducible repeat (first | refine blk_drewN ?_ _ | refine blk_drew ?_ | refine blk_alloc ?_ _)); refine blk_put (cs := #[.slice none 0 0, .slice none 0 0]) ?_ 0 _ rfl; (with_reducible repeat (first | refine blk_drewN ?_ _ | refine blk_drew ?_ | refine blk_alloc ?_ _)); exact BK209.out) Try.underlying30 rfl (by kernel_rfl)) rfl ?_
    exact ⟨_, _, by first | rfl | (simp [errW_none, errW_some] <;> rfl) | (simp [*, errW_none, errW_some] <;> rfl), by (with_reducible repeat (first | apply Kd.R_alloc | apply Kd.R_drewN | apply Kd.R_drew)); exact Kd.R_mono (Kd.R_far (p := ⟨gb209, 1, none⟩) (Kd.R_far (p := ⟨gb209, 0, none⟩) (Kd.R_types HO_211000.out BK209.out (by decide)) (fun _ hk => hk.2) (.slice Ao19 x211000_1.length co19)) (fun _ hk => hk.2) (.slice Ao21 x211001_1.length co21)) (fun _ hk => hk.1), by (with_reducible repeat (first | apply Kd.R_alloc | apply Kd.R_drewN | apply Kd.R_drew)); exact Kd.R_mono (Kd.R_far (p := ⟨gb209, 1, none⟩) (Kd.R_far (p := ⟨gb209, 0, none⟩) (Kd.R_types HO_211001.out BK209.out (by decide)) (fun _ hk => hk.2) (.slice Ao19 x211000_1.length co19)) (fun _ hk => hk.2) (.slice Ao21 x211001_1.length co21)) (fun _ hk => hk.1), by repeat (first | (with_reducible first | exact HB.out | apply below_alloc | apply pw_below_drewN | apply below_drew1 | refine below_set ?_ GE209.out | refine below_set ?_ GE210.out) | exact HB.out)⟩

/-! ### credenzaref10_Pool_Free: function 16 -/
def credenzaref10_Pool_Free.l0 : Nat → Int → Int → List Int → List Int → Option (Int)
 | 0, _, _, _, _ => none
 | k + 1, x3, x4, x218000, x218001 => if x4 < (x218000.length : Int) then (if 0 ≤ x4 then (if (rd x218000 x4) = 0 then (credenzaref10_Pool_Free.l0 k (wrap64 (x3 + 1)) (wrap64 (x4 + 1)) x218000 x218001) else (credenzaref10_Pool_Free.l0 k x3 (wrap64 (x4 + 1)) x218000 x218001)) else (none)) else (some x3)
def credenzaref10_Pool_Free.f (k : Nat) (l0_0 : List Int) (l0_1 : List Int) : Option (Int) := credenzaref10_Pool_Free.l0 k 0 0 l0_0 l0_1
theorem credenzaref10_Pool_Free.mono_l : ∀ k, (∀ y0 y1 y2 y3, LeO (credenzaref10_Pool_Free.l0 k y0 y1 y2 y3) (credenzaref10_Pool_Free.l0 (k + 1) y0 y1 y2 y3))
 | 0 => fun _ _ _ _ r h => by simp [credenzaref10_Pool_Free.l0] at h
 | k + 1 => by
  have ih0 := credenzaref10_Pool_Free.mono_l k
  ·
   intro y0 y1 y2 y3
   unfold credenzaref10_Pool_Free.l0
   repeat' first
   | (with_reducible exact ih0 _ _ _ _)
   | (with_reducible exact LeO.refl _)
   | (with_reducible exact LeO.none _)
   | (with_reducible refine LeO.ite ?_ ?_)
   | (with_reducible refine LeO.bind ?_ (fun _ => ?_))
   | exact ih0 _ _ _ _
   | exact LeO.none _
   | refine LeO.ite ?_ ?_
   | refine LeO.bind ?_ (fun _ => ?_)
theorem credenzaref10_Pool_Free.mono : ∀ a0 a1 k, LeO (credenzaref10_Pool_Free.f k a0 a1) (credenzaref10_Pool_Free.f (k + 1) a0 a1) := by
 intro a0 a1 k
 have ih0 := credenzaref10_Pool_Free.mono_l k
 unfold credenzaref10_Pool_Free.f
 repeat' first
   | (with_reducible exact ih0 _ _ _ _)
   | (with_reducible exact LeO.refl _)
   | (with_reducible exact LeO.none _)
   | (with_reducible refine LeO.ite ?_ ?_)
   | (with_reducible refine LeO.bind ?_ (fun _ => ?_))
   | exact ih0 _ _ _ _
   | exact LeO.none _
   | refine LeO.ite ?_ ?_
   | refine LeO.bind ?_ (fun _ => ?_)
set_option maxHeartbeats 8000000 in
set_option maxRecDepth 100000 in
theorem credenzaref10_Pool_Free.calls (k : Nat) (A0_0 : Option Addr) (c0_0 : Nat) (l0_0 : List Int) (A0_1 : Option Addr) (c0_1 : Nat) (l0_1 : List Int) (r : Int) (w : World) (hr0_0 : Kd.C (Kd.int .i64) w A0_0 l0_0.length l0_0) (hc0_0 : l0_0.length ≤ c0_0) (hr0_1 : Kd.C (Kd.int .i64) w A0_1 l0_1.length l0_1) (hc0_1 : l0_1.length ≤ c0_1) (h : credenzaref10_Pool_Free.f k l0_0 l0_1 = some r) :
  Calls Try.prog 16 #[.agg #[.slice A0_0 l0_0.length c0_0, .slice A0_1 l0_1.length c0_1]] w fun e w' => e = .returned (.int .i64 r) ∧ Below w.heap.size w w' := by
 have hu30 := Try.underlying30
 have HR0_0 := Aside0.mk hr0_0
 have HC0_0 := Aside0.mk hc0_0
 clear hr0_0 hc0_0
 have HR0_1 := Aside0.mk hr0_1
 have HC0_1 := Aside0.mk hc0_1
 clear hr0_1 hc0_1
 have HB := Aside0.mk (Below.refl w.heap.size w)
 have H : (credenzaref10_Pool_Free.l0 k 0 0 l0_0 l0_1) = some r := h
 clear h
 have H' := Aside0.mk H
 clear H
 go_enter Try.func16, Try.ntmps16
 go_wp2_with (first | ((with_reducible refine gate_dst (N := 1) rfl ?_); refine box_event ?hg (N := 1) ?hd (cs := #[.slice A0_0 l0_0.length c0_0, .slice A0_1 l0_1.length c0_1]) (t := 30) ?hr ?_; (case hd => rfl); (case hg => rfl); (case hr => first | (go_simp; done) | (go_simp; rfl)); intro gb217 hg w2 hbox hb; have n0_ := Aside0.mk (below_step (by with_reducible exact HB.out) hb); have n1_ := Aside0.mk (hbox); have n2_ := Aside0.mk ((by rw [hg]; exact (below_size (by with_reducible exact HB.out)) : w.heap.size ≤ gb217)); have n3_ := Aside0.mk ((by rw [hg]; exact (below_size (by with_reducible exact HB.out)) : w.heap.size ≤ gb217)); clear HB; have HB := n0_; have BK217 := n1_; have GW217 := n2_; have GE217 := n3_; clear n0_ n1_ n2_ n3_; clear hb hbox hg))
 go_loopg [3, 4] k (fun kq v3 v4 w' => ∃ (x3_1 : Int) (x4_1 : Int), v3 = .int .i64 x3_1 ∧ v4 = .int .i64 x4_1 ∧ Aside0 (credenzaref10_Pool_Free.l0 kq x3_1 x4_1 l0_0 l0_1 = some r) ∧ Aside0 (kq ≤ k) ∧ Aside0 (w'.heap[gb217]? = some (.cells #[(.slice A0_0 l0_0.length c0_0), (.slice A0_1 l0_1.length c0_1)] 30 (0, 0))) ∧ Aside0 (Below w.heap.size w w'))
 case atStart => exact ⟨(0), (0), (by first | rfl | (simp; done) | (simp [*]; done)), (by first | rfl | (simp; done) | (simp [*]; done)), H', ⟨Nat.le_refl _⟩, ⟨by exact BK217.out⟩, ⟨by with_reducible exact HB.out⟩⟩
 case round =>
  clear H'
  try clear c1
  try clear p2
  obtain ⟨x3_1, x4_1, rfl, rfl, HA, HK1, BK217, HB⟩ := hrel
  cases gk with
  | zero => exact absurd HA.out (by simp [credenzaref10_Pool_Free.l0])
  | succ k1 =>
   have H := HA.out
   clear HA
   simp only [credenzaref10_Pool_Free.l0] at H
   by_cases c3 : x4_1 < (l0_0.length : Int)
   ·
    rw [if_pos c3] at H
    have c3b0 : decide (x4_1 < (l0_0.length : Int)) = true := decide_eq_true c3
    clear c3
    by_cases c4 : 0 ≤ x4_1
    case neg => (rw [if_neg c4] at H; exact absurd H (by simp))
    rw [if_pos c4] at H
    have c4b0 : decide (0 ≤ x4_1) = true := decide_eq_true c4
    clear c4
    by_cases c5 : (rd l0_0 x4_1) = 0
    ·
     rw [if_pos c5] at H
     have c5b0 : ((rd l0_0 x4_1) == 0) = true := beq_iff_eq.mpr c5
     have c5b1 : ((rd l0_0 x4_1) != 0) = false := bne_eq_false_iff_eq.mpr c5
     clear c5
     have H' := Aside0.mk H
     clear H
     have hcz6_0 : wr.cell? ⟨gb217, 0, none⟩ = some (.slice A0_0 l0_0.length c0_0) := (blk_cell BK217.out 0).trans rfl
     have hcz6_1 : wr.cell? ⟨gb217, 1, none⟩ = some (.slice A0_1 l0_1.length c0_1) := (blk_cell BK217.out 1).trans rfl
     have hfz6_0 := blk_frozen BK217.out 0
     have hfz6_1 := blk_frozen BK217.out 1
     have p218 : 0 ≤ (x4_1 : Int) := of_decide_eq_true (by first | (with_reducible assumption) | assumption)
     have q218 : x4_1 < (l0_0.length : Int) := of_decide_eq_true (by first | (with_reducible assumption) | assumption)
     obtain ⟨ad218, e218, hx218_0⟩ := Kd.at_int HR0_0.out x4_1 p218 q218
     cases e218
     replace hx218_0 := (HB.out.cell (World.block_lt_of_cell? w _ hx218_0)).trans hx218_0
     replace p218 := eq_true p218
     replace q218 := eq_true q218
     go_wp2
     go_roundg k1
     case measure => have := HK1.out; omega
     case rel => exact ⟨(wrap64 (x3_1 + 1)), (wrap64 (x4_1 + 1)), (by first | rfl | (simp; done) | (simp [*]; done)), (by first | rfl | (simp; done) | (simp [*]; done)), H', ⟨by have := HK1.out; omega⟩, ⟨by exact BK217.out⟩, ⟨by with_reducible exact HB.out⟩⟩
    ·
     rw [if_neg c5] at H
     have c5b0 : ((rd l0_0 x4_1) == 0) = false := beq_eq_false_iff_ne.mpr c5
     have c5b1 : ((rd l0_0 x4_1) != 0) = true := bne_iff_ne.mpr c5
     have H' := Aside0.mk H
     clear H
     have hcz7_0 : wr.cell? ⟨gb217, 0, none⟩ = some (.slice A0_0 l0_0.length c0_0) := (blk_cell BK217.out 0).trans rfl
     have hcz7_1 : wr.cell? ⟨gb217, 1, none⟩ = some (.slice A0_1 l0_1.length c0_1) := (blk_cell BK217.out 1).trans rfl
     have hfz7_0 := blk_frozen BK217.out 0
     have hfz7_1 := blk_frozen BK217.out 1
     have p218 : 0 ≤ (x4_1 : Int) := of_decide_eq_true (by first | (with_reducible assumption) | assumption)
     have q218 : x4_1 < (l0_0.length : Int) := of_decide_eq_true (by first | (with_reducible assumption) | assumption)
     obtain ⟨ad218, e218, hx218_0⟩ := Kd.at_int HR0_0.out x4_1 p218 q218
     cases e218
     replace hx218_0 := (HB.out.cell (World.block_lt_of_cell? w _ hx218_0)).trans hx218_0
     replace p218 := eq_true p218
     replace q218 := eq_true q218
     go_wp2
     go_roundg k1
     case measure => have := HK1.out; omega
     case rel => exact ⟨(x3_1), (wrap64 (x4_1 + 1)), (by first | rfl | (simp; done) | (simp [*]; done)), (by first | rfl | (simp; done) | (simp [*]; done)), H', ⟨by have := HK1.out; omega⟩, ⟨by exact BK217.out⟩, ⟨by with_reducible exact HB.out⟩⟩
   ·
    rw [if_neg c3] at H
    have c3b0 : decide (x4_1 < (l0_0.length : Int)) = false := decide_eq_false c3
    clear c3
    obtain rfl := Option.some.inj H
    have hcz8_0 : wr.cell? ⟨gb217, 0, none⟩ = some (.slice A0_0 l0_0.length c0_0) := (blk_cell BK217.out 0).trans rfl
    have hcz8_1 : wr.cell? ⟨gb217, 1, none⟩ = some (.slice A0_1 l0_1.length c0_1) := (blk_cell BK217.out 1).trans rfl
    have hfz8_0 := blk_frozen BK217.out 0
    have hfz8_1 := blk_frozen BK217.out 1
    go_wp2
    go_ret
    exact ⟨by first | rfl | (simp [errW_none, errW_some] <;> rfl) | (simp [*, errW_none, errW_some] <;> rfl), by with_reducible exact HB.out⟩

/-! ### credenzaref10_with: function 56 -/
def credenzaref10_with.f (l0 : List Int) (a1 : Int) (a2 : Int) : Option (List Int) := if ([] : List Int).length + l0.length < 17592186044416 then ((some (([] : List Int) ++ l0 : List Int)).bind fun y219 => (if 0 ≤ a1 then (if a1 < (y219.length : Int) then (some (y219.set (a1 : Int).toNat a2)) else (none)) else (none))) else (none)
set_option maxHeartbeats 8000000 in
set_option maxRecDepth 100000 in
theorem credenzaref10_with.calls (A0 : Option Addr) (c0 : Nat) (l0 : List Int) (a1 : Int) (a2 : Int) (r : List Int) (w : World) (hr0 : Kd.C (Kd.int .i64) w A0 l0.length l0) (hc0 : l0.length ≤ c0) (h : credenzaref10_with.f l0 a1 a2 = some r) :
  Calls Try.prog 56 #[.slice A0 l0.length c0, .int .i64 a1, .int .i64 a2] w fun e w' => ∃ v0_ : Value, e = .returned (v0_) ∧ Kd.R (Kd.int .i64) 3 w' w.heap.size (fun _ => True) v0_ r ∧ Below w.heap.size w w' := by
 have HR0 := Aside0.mk hr0
 have HC0 := Aside0.mk hc0
 clear hr0 hc0
 have HB := Aside0.mk (Below.refl w.heap.size w)
 have H : (if ([] : List Int).length + l0.length < 17592186044416 then ((some (([] : List Int) ++ l0 : List Int)).bind fun y219 => (if 0 ≤ a1 then (if a1 < (y219.length : Int) then (some (y219.set (a1 : Int).toNat a2)) else (none)) else (none))) else (none)) = some r := h
 clear h
 by_cases c4 : ([] : List Int).length + l0.length < 17592186044416
 case neg => (rw [if_neg c4] at H; exact absurd H (by simp))
 rw [if_pos c4] at H
 have LMc4 := Aside0.mk c4
 clear c4
 obtain ⟨y219, hy219⟩ : ∃ y_ : List Int, y_ = (([] : List Int) ++ l0) := ⟨_, rfl⟩
 replace H : (if 0 ≤ a1 then (if a1 < (y219.length : Int) then (some (y219.set (a1 : Int).toNat a2)) else (none)) else (none)) = some r := by first | (rw [hy219]; with_reducible exact H) | (have H2_ := (Option.bind_some _ _).symm.trans H; rw [hy219]; with_reducible exact H2_) | (have H2_ := (Option.bind_some _ _).symm.trans H; with_reducible exact H2_) | with_reducible exact H | (rw [hy219]; exact H) | exact H
 have Ny219 := Aside0.mk hy219
 clear hy219
 by_cases c5 : 0 ≤ a1
 case neg => (rw [if_neg c5] at H; exact absurd H (by simp))
 rw [if_pos c5] at H
 have c5b0 : decide (0 ≤ a1) = true := decide_eq_true c5
 clear c5
 by_cases c6 : a1 < (y219.length : Int)
 case neg => (rw [if_neg c6] at H; exact absurd H (by simp))
 rw [if_pos c6] at H
 have c6b0 : decide (a1 < (y219.length : Int)) = true := decide_eq_true c6
 clear c6
 obtain ⟨y222, hy222⟩ : ∃ y_ : List Int, y_ = (y219.set (a1 : Int).toNat a2) := ⟨_, rfl⟩
 replace H : (some y222) = some r := by first | (rw [hy222]; with_reducible exact H) | (have H2_ := (Option.bind_some _ _).symm.trans H; rw [hy222]; with_reducible exact H2_) | (have H2_ := (Option.bind_some _ _).symm.trans H; with_reducible exact H2_) | with_reducible exact H | (rw [hy222]; exact H) | exact H
 have Ny222 := Aside0.mk hy222
 clear hy222
 obtain rfl := Option.some.inj H
 go_enter Try.func56, Try.ntmps56
 go_wp2_with (first | ((with_reducible refine gate_builtin (b := .append) (xs := #[.tmp 8, .tmp 9]) rfl ?_); at_builtin; refine Kd.R_append_rows (Kd.int .i64) (w0 := w) w.heap.size rfl (.tmp 8) (.tmp 9) 28 3 (.int .i64 0) 8 rfl Try.underlying28 info3 rfl (by decide) (by omega) (.slice none 0 0) ([] : List Int) l0 _ _ _ (fun _ => True) (fun _ => False) rfl rfl ?aO ?aR (fun _ _ h => h) (fun _ h => h.elim) ?aF ?aB ?aS ?aL ?_; (case aR => repeat (first | exact HR0.out | (with_reducible refine Kd.C_alloc ?_ _) | (with_reducible refine Kd.C_drewN ?_ _) | (with_reducible refine Kd.C_drew ?_))); (case aB => exact (by with_reducible exact HB.out)); (case aF => exact (fun _ _ => trivial)); (case aO => exact ((Kd.R_nil _ _ _ _ (fun _ => True)))); (case aS => exact (below_size (by with_reducible exact HB.out))); (case aL => have := LMc4.out; omega); intro v220 w8 ho hb hg hat; rw [← Ny219.out] at ho; have n0_ := Aside0.mk (hb); have n1_ := Aside0.mk (ho); clear HB; have HB := n0_; have HO221 := n1_; clear n0_ n1_; clear ho hb hg hat; have p7 : 0 ≤ (a1 : Int) := of_decide_eq_true (by first | (with_reducible assumption) | assumption); have q7 : (a1 : Int) < ((y219.length : Int) : Int) := of_decide_eq_true (by first | (with_reducible assumption) | assumption); obtain ⟨go7, co7, eo7, gb7, gl7, cl7, HG7⟩ := Kd.R_form HO221.out (by omega); (first | cases eo7 | (injection eo7 with ea_ en_ ec_; (first | subst ea_ | (injection ea_ with ea_; subst ea_)); subst ec_; clear en_)); have GB7 := Aside0.mk gb7; have GG7 := Aside0.mk HG7; clear gb7 gl7 HG7; obtain ⟨hx7_0, hf7_0⟩ := Kd.R_celln 0 HO221.out (a1 : Int) p7 q7; replace p7 := eq_true p7; replace q7 := eq_true q7; obtain ⟨hy9_, hz9_⟩ := Kd.R_celln 0 HO221.out (a1 : Int) (of_decide_eq_true (by first | (with_reducible assumption) | assumption)) (of_decide_eq_true (by first | (with_reducible assumption) | assumption)); have HP9 := Kd.R_putg HO221.out (a1 : Int) a2) | ((with_reducible refine gate_store (t := 3) (p := 14) rfl ?_); refine store_event (t := 3) (p := 14) (v := ?vo_w10) (w1 := (w8.setCell ⟨go7, (a1 : Int).toNat, none⟩ (.int .i64 a2))) ?hg ?ho ?hn ?hr ?_; (case ho => rfl); (case hg => rfl); (case hn => rfl); (case hr => first | (go_simp; done) | (go_simp; rfl)); intro w10 hw; have hg : w8.grownBy w10 (some go7) := (by rw [hw]; exact HP9.2); have hp_ : Kd.R (Kd.int .i64) 3 w10 w.heap.size (fun _ => True) (.slice (some ⟨go7, 0, none⟩) y219.length co7) y222 := (by rw [hw, Ny222.out]; exact HP9.1); clear HP9; have n0_ := Aside0.mk (hp_); have n1_ := Aside0.mk ((by rw [hw]; exact below_set (HB.out) GB7.out : Below w.heap.size w w10)); clear HO221; clear HB; have HO221 := n0_; have HB := n1_; clear n0_ n1_; clear hg hw hp_))
 go_ret
 exact ⟨_, by first | rfl | (simp [errW_none, errW_some] <;> rfl) | (simp [*, errW_none, errW_some] <;> rfl), by exact HO221.out, by with_reducible exact HB.out⟩

/-! ### credenzaref10_Pool_Put: function 41 -/
def credenzaref10_Pool_Put.l0 : Nat → Int → Int → List Int → List Int → Option (List Int × List Int × Int × Int)
 | 0, _, _, _, _ => none
 | k + 1, x1, x7, x224000, x224001 => if x7 < (x224000.length : Int) then (if 0 ≤ x7 then (if (rd x224000 x7) = 0 then ((credenzaref10_with.f x224000 x7 1).bind fun t226 => ((credenzaref10_with.f x224001 x7 x1).bind fun t229 => (some (t226, t229, x7, 0)))) else (credenzaref10_Pool_Put.l0 k x1 (wrap64 (x7 + 1)) x224000 x224001)) else (none)) else (some (x224000, x224001, 0, 23))
def credenzaref10_Pool_Put.f (k : Nat) (l0_0 : List Int) (l0_1 : List Int) (a1 : Int) : Option (List Int × List Int × Int × Int) := credenzaref10_Pool_Put.l0 k a1 0 l0_0 l0_1
theorem credenzaref10_Pool_Put.mono_l : ∀ k, (∀ y0 y1 y2 y3, LeO (credenzaref10_Pool_Put.l0 k y0 y1 y2 y3) (credenzaref10_Pool_Put.l0 (k + 1) y0 y1 y2 y3))
 | 0 => fun _ _ _ _ r h => by simp [credenzaref10_Pool_Put.l0] at h
 | k + 1 => by
  have ih0 := credenzaref10_Pool_Put.mono_l k
  ·
   intro y0 y1 y2 y3
   unfold credenzaref10_Pool_Put.l0
   repeat' first
   | (with_reducible exact ih0 _ _ _ _)
   | (with_reducible exact LeO.refl _)
   | (with_reducible exact LeO.none _)
   | (with_reducible refine LeO.ite ?_ ?_)
   | (with_reducible refine LeO.bind ?_ (fun _ => ?_))
   | exact ih0 _ _ _ _
   | exact LeO.none _
   | refine LeO.ite ?_ ?_
   | refine LeO.bind ?_ (fun _ => ?_)
theorem credenzaref10_Pool_Put.mono : ∀ a0 a1 a2 k, LeO (credenzaref10_Pool_Put.f k a0 a1 a2) (credenzaref10_Pool_Put.f (k + 1) a0 a1 a2) := by
 intro a0 a1 a2 k
 have ih0 := credenzaref10_Pool_Put.mono_l k
 unfold credenzaref10_Pool_Put.f
 repeat' first
   | (with_reducible exact ih0 _ _ _ _)
   | (with_reducible exact LeO.refl _)
   | (with_reducible exact LeO.none _)
   | (with_reducible refine LeO.ite ?_ ?_)
   | (with_reducible refine LeO.bind ?_ (fun _ => ?_))
   | exact ih0 _ _ _ _
   | exact LeO.none _
   | refine LeO.ite ?_ ?_
   | refine LeO.bind ?_ (fun _ => ?_)
def credenzaref10_Pool_Put.T5 : Bool × List (List Nat × List Nat) := (true, [([], []), ([0], [0]), ([], []), ([1, 2], [1, 2]), ([], []), ([4], [4]), ([], []), ([], []), ([5, 6, 7, 3], [5, 6, 7]), ([3, 8], [3, 8]), ([], []), ([9, 8, 0, 1, 2, 3, 4, 5, 6, 7, 8, 9], [9]), ([10, 11, 0, 1, 2, 3, 4, 5, 6, 7, 8, 9, 10, 11], [10]), ([12, 0, 1, 2, 3, 4, 5, 6, 7, 8, 9, 10, 11, 12], [])])
def credenzaref10_Pool_Put.B5 : List Nat := [0, 1, 0, 7, 0, 16, 0, 0, 255, 511, 0, 1023, 4095, 8191]
theorem credenzaref10_Pool_Put.tab5 : rtab .any (opsOf Try.f41 5) = credenzaref10_Pool_Put.T5 := by kernel_rfl
theorem credenzaref10_Pool_Put.bits5 : waitsOk credenzaref10_Pool_Put.T5.2 credenzaref10_Pool_Put.B5 = true := by kernel_rfl
set_option maxHeartbeats 8000000 in
set_option maxRecDepth 100000 in
theorem credenzaref10_Pool_Put.calls (k : Nat) (P0_0_ : Nat → Prop) (u9000_ : Value) (l0_0 : List Int) (P0_1_ : Nat → Prop) (u9001_ : Value) (l0_1 : List Int) (a1 : Int) (r1 : List Int) (r2 : List Int) (r3 : Int) (r4 : Int) (w0 w : World) (hB : Below w0.heap.size w0 w) (ho0_0 : Kd.R (Kd.int .i64) 3 w w0.heap.size P0_0_ u9000_ l0_0) (hp0_0_0_1 : ∀ k_, P0_0_ k_ → ¬ P0_1_ k_) (ho0_1 : Kd.R (Kd.int .i64) 3 w w0.heap.size P0_1_ u9001_ l0_1) (hp0_1_0_0 : ∀ k_, P0_1_ k_ → ¬ P0_0_ k_) (h : credenzaref10_Pool_Put.f k l0_0 l0_1 a1 = some (r1, r2, r3, r4)) :
  Calls Try.prog 41 #[.agg #[u9000_, u9001_], .int .i64 a1] w fun e w' => ∃ v0_ v1_ : Value, e = .returned (.tuple #[.agg #[v0_, v1_], .int .i64 r3, .int .i64 r4]) ∧ Kd.R (Kd.int .i64) 3 w' w0.heap.size (fun k_ => ((P0_0_ k_ ∨ P0_1_ k_) ∨ w.heap.size ≤ k_) ∧ some k_ ≠ (v1_ : Value).ownBlock) v0_ r1 ∧ Kd.R (Kd.int .i64) 3 w' w0.heap.size (fun k_ => ((P0_0_ k_ ∨ P0_1_ k_) ∨ w.heap.size ≤ k_) ∧ some k_ ≠ (v0_ : Value).ownBlock) v1_ r2 ∧ Below w0.heap.size w0 w' ∧ Kept w w' (fun k_ => P0_0_ k_ ∨ P0_1_ k_) := by
 have hu30 := Try.underlying30
 have HO0_0 := Aside0.mk (show Kd.R (Kd.int .i64) 3 w w0.heap.size (fun k_ => ((P0_0_ k_ ∨ P0_1_ k_) ∨ w.heap.size ≤ k_) ∧ some k_ ≠ (u9001_ : Value).ownBlock) u9000_ l0_0 from Kd.R_mono ho0_0 (fun k_ hk => ⟨(.inl (.inl hk)), fun e_ => hp0_0_0_1 k_ hk (ho0_1.1 k_ e_.symm)⟩))
 have HO0_1 := Aside0.mk (show Kd.R (Kd.int .i64) 3 w w0.heap.size (fun k_ => ((P0_0_ k_ ∨ P0_1_ k_) ∨ w.heap.size ≤ k_) ∧ some k_ ≠ (u9000_ : Value).ownBlock) u9001_ l0_1 from Kd.R_mono ho0_1 (fun k_ hk => ⟨(.inl (.inr hk)), fun e_ => hp0_1_0_0 k_ hk (ho0_0.1 k_ e_.symm)⟩))
 have HK := Aside0.mk (Kept.refl w (fun k_ => P0_0_ k_ ∨ P0_1_ k_))
 have HW0 := Aside0.mk hB.size
 have HB := Aside0.mk hB
 clear hB
 have H : (credenzaref10_Pool_Put.l0 k a1 0 l0_0 l0_1) = some (r1, r2, r3, r4) := h
 clear h
 have H' := Aside0.mk H
 clear H
 obtain ⟨Ao3, co3, eo3⟩ := Kd.R_slice HO0_0.out
 subst eo3
 obtain ⟨Ao4, co4, eo4⟩ := Kd.R_slice HO0_1.out
 subst eo4
 go_enter Try.func41, Try.ntmps41
 go_wp2_with (first | ((with_reducible refine gate_dst (N := 2) rfl ?_); refine box_event ?hg (N := 2) ?hd (cs := #[.slice Ao3 l0_0.length co3, .slice Ao4 l0_1.length co4]) (t := 30) ?hr ?_; (case hd => rfl); (case hg => rfl); (case hr => first | (go_simp; done) | (go_simp; rfl)); intro gb223 hg w5 hbox hb; have n0_ := Aside0.mk (Kd.R_below (by exact HO0_0.out) hb); have n1_ := Aside0.mk (Kd.R_below (by exact HO0_1.out) hb); have n2_ := Aside0.mk (Kept.below (S := (fun k_ => P0_0_ k_ ∨ P0_1_ k_)) (by with_reducible exact HK.out) hb); have n3_ := Aside0.mk (below_step (by with_reducible exact HB.out) hb); have n4_ := Aside0.mk (hbox); have n5_ := Aside0.mk ((by rw [hg]; exact (by first | exact HK.out.1 | exact (show Kept w _ (fun k_ => P0_0_ k_ ∨ P0_1_ k_) from by with_reducible exact HK.out).1) : w.heap.size ≤ gb223)); have n6_ := Aside0.mk ((by rw [hg]; exact (below_size (by with_reducible exact HB.out)) : w0.heap.size ≤ gb223)); clear HO0_0; clear HO0_1; clear HK; clear HB; have HO0_0 := n0_; have HO0_1 := n1_; have HK := n2_; have HB := n3_; have BK223 := n4_; have GW223 := n5_; have GE223 := n6_; clear n0_ n1_ n2_ n3_ n4_ n5_ n6_; clear hb hbox hg) | ((with_reducible refine gate_dst (N := 4) rfl ?_); refine box_event ?hg (N := 4) ?hd (cs := #[.slice none 0 0, .slice none 0 0]) (t := 30) ?hr ?_; (case hd => rfl); (case hg => rfl); (case hr => first | (go_simp; done) | (go_simp; rfl)); intro gb224 hg w6 hbox hb; have n0_ := Aside0.mk (Kd.R_below (by exact HO0_0.out) hb); have n1_ := Aside0.mk (Kd.R_below (by exact HO0_1.out) hb); have n2_ := Aside0.mk (blk_below (g := gb223) (o := .cells #[.slice Ao3 l0_0.length co3, .slice Ao4 l0_1.length co4] 30 (0, 0)) (by exact BK223.out) hb); have n3_ := Aside0.mk (Kept.below (S := (fun k_ => P0_0_ k_ ∨ P0_1_ k_)) (by with_reducible exact HK.out) hb); have n4_ := Aside0.mk (below_step (by with_reducible exact HB.out) hb); have n5_ := Aside0.mk (hbox); have n6_ := Aside0.mk ((by rw [hg]; exact (by first | exact HK.out.1 | exact (show Kept w _ (fun k_ => P0_0_ k_ ∨ P0_1_ k_) from by with_reducible exact HK.out).1) : w.heap.size ≤ gb224)); have n7_ := Aside0.mk ((by rw [hg]; exact (below_size (by with_reducible exact HB.out)) : w0.heap.size ≤ gb224)); have n8_ := Aside0.mk ((by rw [hg]; exact Nat.ne_of_lt (blk_lt (g := gb223) (o := .cells #[.slice Ao3 l0_0.length co3, .slice Ao4 l0_1.length co4] 30 (0, 0)) (by exact BK223.out)) : gb223 ≠ gb224)); have n9_ := Aside0.mk ((by rw [hg]; exact Nat.ne_of_gt (blk_lt (g := gb223) (o := .cells #[.slice Ao3 l0_0.length co3, .slice Ao4 l0_1.length co4] 30 (0, 0)) (by exact BK223.out)) : gb224 ≠ gb223)); clear HO0_0; clear HO0_1; clear BK223; clear HK; clear HB; have HO0_0 := n0_; have HO0_1 := n1_; have BK223 := n2_; have HK := n3_; have HB := n4_; have BK224 := n5_; have GW224 := n6_; have GE224 := n7_; have NB223_224 := n8_; have NB224_223 := n9_; clear n0_ n1_ n2_ n3_ n4_ n5_ n6_ n7_ n8_ n9_; clear hb hbox hg))
 go_loopg [7] k (fun kq v7 w' => ∃ (x7_1 : Int), v7 = .int .i64 x7_1 ∧ Aside0 (credenzaref10_Pool_Put.l0 kq a1 x7_1 l0_0 l0_1 = some (r1, r2, r3, r4)) ∧ Aside0 (kq ≤ k) ∧ Aside0 (Kd.R (Kd.int .i64) 3 w' w0.heap.size (fun k_ => ((P0_0_ k_ ∨ P0_1_ k_) ∨ w.heap.size ≤ k_) ∧ some k_ ≠ ((.slice Ao4 l0_1.length co4) : Value).ownBlock) (.slice Ao3 l0_0.length co3) l0_0) ∧ Aside0 (Kd.R (Kd.int .i64) 3 w' w0.heap.size (fun k_ => ((P0_0_ k_ ∨ P0_1_ k_) ∨ w.heap.size ≤ k_) ∧ some k_ ≠ ((.slice Ao3 l0_0.length co3) : Value).ownBlock) (.slice Ao4 l0_1.length co4) l0_1) ∧ Aside0 (w'.heap[gb223]? = some (.cells #[(.slice Ao3 l0_0.length co3), (.slice Ao4 l0_1.length co4)] 30 (0, 0))) ∧ Aside0 (w'.heap[gb224]? = some (.cells #[(.slice none 0 0), (.slice none 0 0)] 30 (0, 0))) ∧ Aside0 (Kept w w' (fun k_ => P0_0_ k_ ∨ P0_1_ k_)) ∧ Aside0 (Below w0.heap.size w0 w'))
 case atStart => exact ⟨(0), (by first | rfl | (simp; done) | (simp [*]; done)), H', ⟨Nat.le_refl _⟩, ⟨by exact HO0_0.out⟩, ⟨by exact HO0_1.out⟩, ⟨by exact BK223.out⟩, ⟨by exact BK224.out⟩, ⟨by with_reducible exact HK.out⟩, ⟨by with_reducible exact HB.out⟩⟩
 case round =>
  clear H'
  try clear p2
  try clear c4
  obtain ⟨x7_1, rfl, HA, HK1, HO_224000, HO_224001, BK223, BK224, HK, HB⟩ := hrel
  cases gk with
  | zero => exact absurd HA.out (by simp [credenzaref10_Pool_Put.l0])
  | succ k1 =>
   have H := HA.out
   clear HA
   simp only [credenzaref10_Pool_Put.l0] at H
   by_cases c7 : x7_1 < (l0_0.length : Int)
   ·
    rw [if_pos c7] at H
    have c7b0 : decide (x7_1 < (l0_0.length : Int)) = true := decide_eq_true c7
    clear c7
    by_cases c8 : 0 ≤ x7_1
    case neg => (rw [if_neg c8] at H; exact absurd H (by simp))
    rw [if_pos c8] at H
    have c8b0 : decide (0 ≤ x7_1) = true := decide_eq_true c8
    clear c8
    by_cases c9 : (rd l0_0 x7_1) = 0
    ·
     rw [if_pos c9] at H
     have c9b0 : ((rd l0_0 x7_1) == 0) = true := beq_iff_eq.mpr c9
     have c9b1 : ((rd l0_0 x7_1) != 0) = false := bne_eq_false_iff_eq.mpr c9
     clear c9
     replace H := Option.bind_eq_some_iff.mp H
     obtain ⟨t226, A100, H⟩ := H
     replace H : ((credenzaref10_with.f l0_1 x7_1 a1).bind fun t229 => (some (t226, t229, x7_1, 0))) = some (r1, r2, r3, r4) := H
     have A10 := Aside0.mk A100
     clear A100
     replace H := Option.bind_eq_some_iff.mp H
     obtain ⟨t229, A110, H⟩ := H
     replace H : (some (t226, t229, x7_1, 0)) = some (r1, r2, r3, r4) := H
     have A11 := Aside0.mk A110
     clear A110
     simp only [Option.some.injEq, Prod.mk.injEq] at H
     obtain ⟨rfl, rfl, rfl, rfl⟩ := H
     have hnb12 := NB223_224.out
     have hnc12 := NB224_223.out
     have hcz13_0 : wr.cell? ⟨gb223, 0, none⟩ = some (.slice Ao3 l0_0.length co3) := (blk_cell BK223.out 0).trans rfl
     have hcz13_1 : wr.cell? ⟨gb223, 1, none⟩ = some (.slice Ao4 l0_1.length co4) := (blk_cell BK223.out 1).trans rfl
     have hfz13_0 := blk_frozen BK223.out 0
     have hfz13_1 := blk_frozen BK223.out 1
     have p225 : 0 ≤ (x7_1 : Int) := of_decide_eq_true (by first | (with_reducible assumption) | assumption)
     have q225 : x7_1 < (l0_0.length : Int) := of_decide_eq_true (by first | (with_reducible assumption) | assumption)
     obtain ⟨ad225, e225, hx225_0⟩ := Kd.at_int (Kd.R_reads' HO_224000.out).2.2 x7_1 p225 q225
     cases e225
     replace p225 := eq_true p225
     replace q225 := eq_true q225
     try go_wp2
     have n0_ := Aside0.mk (Kd.R_drew HO_224000.out)
     have n1_ := Aside0.mk (Kd.R_drew HO_224001.out)
     have n2_ := Aside0.mk (blk_drew BK223.out)
     have n3_ := Aside0.mk (blk_drew BK224.out)
     have n4_ := Aside0.mk (Kept.drew HK.out)
     have n5_ := Aside0.mk (below_drew1 HB.out)
     clear HO_224000
     clear HO_224001
     clear BK223
     clear BK224
     clear HK
     clear HB
     have HO_224000 := n0_
     have HO_224001 := n1_
     have BK223 := n2_
     have BK224 := n3_
     have HK := n4_
     have HB := n5_
     clear n0_ n1_ n2_ n3_ n4_ n5_
     refine start_ (n := 14) (S := fun w' => w'.cell? ⟨gb223, 0, none⟩ = some (.slice (some ad225) l0_0.length co3) ∧ w'.cell? ⟨gb223, 1, none⟩ = some (.slice Ao4 l0_1.length co4)) (ds := []) #[false, false, false, false, false, false, false, false, false, false, false, false, false, false] (by kernel_rfl) rfl rfl ⟨(blk_cell BK223.out 0).trans rfl, (blk_cell BK223.out 1).trans rfl⟩ (fun hHeld => ?_); refine with_tabW credenzaref10_Pool_Put.tab5 credenzaref10_Pool_Put.bits5 (fun HT_ HW_ => ?_)
     generalize wr.drew = w14 at HO_224000 HO_224001 BK223 BK224 HK HB hHeld ⊢
     refine pure_ (i := 0) (N := some 21) (v := ?_) (a' := ?_) #[true, false, false, false, false, false, false, false, false, false, false, false, false, false] rfl rfl (any_of HT_.out (by kernel_rfl)) (fun _ _ _ h => h) (Or.inl ⟨by rfl, ?_⟩) ?_ ?_
     rotate_left
     ·
      intro w'
      go_simp
      with_reducible rfl
     rotate_left
     ·
      simp only [Act.put, List.setIfInBounds_toArray, List.set_cons_zero, List.set_cons_succ, i64_w, i32_w, IntKind.wrap_u32]
      rfl
     refine pure_ (i := 2) (N := some 23) (v := ?_) (a' := ?_) #[true, false, true, false, false, false, false, false, false, false, false, false, false, false] rfl rfl (any_of HT_.out (by kernel_rfl)) (fun _ _ _ h => h) (Or.inl ⟨by rfl, ?_⟩) ?_ ?_
     rotate_left
     ·
      intro w'
      go_simp
      with_reducible rfl
     rotate_left
     ·
      simp only [Act.put, List.setIfInBounds_toArray, List.set_cons_zero, List.set_cons_succ, i64_w, i32_w, IntKind.wrap_u32]
      rfl
     refine pure_ (i := 4) (N := some 25) (v := ?_) (a' := ?_) #[true, false, true, false, true, false, false, false, false, false, false, false, false, false] rfl rfl (any_of HT_.out (by kernel_rfl)) (fun _ _ _ h => h) (Or.inl ⟨by rfl, ?_⟩) ?_ ?_
     rotate_left
     ·
      intro w'
      go_simp
      with_reducible rfl
     rotate_left
     ·
      simp only [Act.put, List.setIfInBounds_toArray, List.set_cons_zero, List.set_cons_succ, i64_w, i32_w, IntKind.wrap_u32]
      rfl
     refine pure_ (i := 6) (N := some 27) (v := ?_) (a' := ?_) #[true, false, true, false, true, false, true, false, false, false, false, false, false, false] rfl rfl (any_of HT_.out (by kernel_rfl)) (fun _ _ _ h => h) (Or.inl ⟨by rfl, ?_⟩) ?_ ?_
     rotate_left
     ·
      intro w'
      go_simp
      with_reducible rfl
     rotate_left
     ·
      simp only [Act.put, List.setIfInBounds_toArray, List.set_cons_zero, List.set_cons_succ, i64_w, i32_w, IntKind.wrap_u32]
      rfl
     refine pure_ (i := 7) (N := some 28) (v := ?_) (a' := ?_) #[true, false, true, false, true, false, true, true, false, false, false, false, false, false] rfl rfl (any_of HT_.out (by kernel_rfl)) (fun _ _ _ h => h) (Or.inl ⟨by rfl, ?_⟩) ?_ ?_
     rotate_left
     ·
      intro w'
      go_simp
      with_reducible rfl
     rotate_left
     ·
      simp only [Act.put, List.setIfInBounds_toArray, List.set_cons_zero, List.set_cons_succ, i64_w, i32_w, IntKind.wrap_u32]
      rfl
     refine pure_ (i := 10) (N := some 31) (v := ?_) (a' := ?_) #[true, false, true, false, true, false, true, true, false, false, true, false, false, false] rfl rfl (any_of HT_.out (by kernel_rfl)) (fun _ _ _ h => h) (Or.inl ⟨by rfl, ?_⟩) ?_ ?_
     rotate_left
     ·
      intro w'
      go_simp
      with_reducible rfl
     rotate_left
     ·
      simp only [Act.put, List.setIfInBounds_toArray, List.set_cons_zero, List.set_cons_succ, i64_w, i32_w, IntKind.wrap_u32]
      rfl
     refine take_ (i := 1) (N := some 22) (v := ?_) (a' := ?_) #[true, true, true, false, true, false, true, true, false, false, true, false, false, false] rfl rfl (take_ofW HT_.out HW_.out (by kernel_rfl)) (fun _ _ _ h => h) (Or.inl ⟨by rfl, ?_⟩) hHeld ?_ ?_
     rotate_left
     ·
      rintro w' ⟨s0, s1⟩
      go_simp
      with_reducible rfl
     rotate_left
     ·
      simp only [Act.put, List.setIfInBounds_toArray, List.set_cons_zero, List.set_cons_succ, i64_w, i32_w, IntKind.wrap_u32]
      rfl
     refine take_ (i := 5) (N := some 26) (v := ?_) (a' := ?_) #[true, true, true, false, true, true, true, true, false, false, true, false, false, false] rfl rfl (take_ofW HT_.out HW_.out (by kernel_rfl)) (fun _ _ _ h => h) (Or.inl ⟨by rfl, ?_⟩) hHeld ?_ ?_
     rotate_left
     ·
      rintro w' ⟨s0, s1⟩
      go_simp
      with_reducible rfl
     rotate_left
     ·
      simp only [Act.put, List.setIfInBounds_toArray, List.set_cons_zero, List.set_cons_succ, i64_w, i32_w, IntKind.wrap_u32]
      rfl
     refine one_ (i := 3) (N := some 24) #[true, true, true, true, true, true, true, true, false, false, true, false, false, false] rfl rfl (one_of HT_.out (by kernel_rfl)) (by decide) (fun K hK => ?_)
     refine goes_ Try.func56 (by kernel_rfl) rfl #[.slice (some ad225) l0_0.length co3, .int .i64 x7_1, .int .i64 1] (by rfl) rfl rfl (by (try simp only [List.map_toArray, List.map_cons, List.map_nil]); first | done | rfl | (simp only [List.length_drop, List.length_take]; rfl)) ?_
     with_reducible refine (credenzaref10_with.calls _ _ l0_0 x7_1 1 t226 _ ?side1 ?side2 A10.out).mono ?_
     (case side1 => repeat (first | exact (Kd.R_reads' HO_224000.out).2.2 | (with_reducible refine Kd.C_alloc ?_ _) | (with_reducible refine Kd.C_drewN ?_ _) | (with_reducible refine Kd.C_drew ?_)))
     (case side2 => exact (Kd.R_reads' HO_224000.out).2.1)
     rintro e w15 ⟨v227, rfl, ho0, hb⟩
     refine ⟨_, rfl, ?_⟩
     have n0_ := Aside0.mk (Kd.R_elder' (by (with_reducible repeat (first | apply Kd.R_alloc | apply Kd.R_drewN | apply Kd.R_drew)); exact HO_224000.out) (Kd.R_base ho0) hb)
     have n1_ := Aside0.mk (Kd.R_elder' (by (with_reducible repeat (first | apply Kd.R_alloc | apply Kd.R_drewN | apply Kd.R_drew)); exact HO_224001.out) (Kd.R_base ho0) hb)
     have n2_ := Aside0.mk (Kd.R_lower (Kd.R_new' (Kd.R_new' (Kd.R_newM (M := fun k_ => ((P0_0_ k_ ∨ P0_1_ k_) ∨ w.heap.size ≤ k_)) ho0 (by first | exact HK.out.1 | exact (show Kept w _ (fun k_ => P0_0_ k_ ∨ P0_1_ k_) from by repeat (first | (with_reducible first | exact HK.out | apply Kept.alloc | apply Kept.drewN | apply Kept.drew | refine Kept.setCell ?_ (.inr GW223.out) _ | refine Kept.setCell ?_ (.inr GW224.out) _) | exact HK.out)).1) (fun k_ h_ => .inr h_)) (Kd.R_lt (by (with_reducible repeat (first | apply Kd.R_alloc | apply Kd.R_drewN | apply Kd.R_drew)); exact HO_224000.out))) (Kd.R_lt (by (with_reducible repeat (first | apply Kd.R_alloc | apply Kd.R_drewN | apply Kd.R_drew)); exact HO_224001.out))) (below_size (by repeat (first | (with_reducible first | exact HB.out | apply below_alloc | apply pw_below_drewN | apply below_drew1 | refine below_set ?_ GE223.out | refine below_set ?_ GE224.out) | exact HB.out))))
     have n3_ := Aside0.mk (blk_below (g := gb223) (o := .cells #[.slice (some ad225) l0_0.length co3, .slice Ao4 l0_1.length co4] 30 (0, 0)) (by (with_reducible repeat (first | refine blk_drewN ?_ _ | refine blk_drew ?_ | refine blk_alloc ?_ _)); exact BK223.out) hb)
     have n4_ := Aside0.mk (blk_below (g := gb224) (o := .cells #[.slice none 0 0, .slice none 0 0] 30 (0, 0)) (by (with_reducible repeat (first | refine blk_drewN ?_ _ | refine blk_drew ?_ | refine blk_alloc ?_ _)); exact BK224.out) hb)
     have n5_ := Aside0.mk (Kept.below (S := (fun k_ => P0_0_ k_ ∨ P0_1_ k_)) (by repeat (first | (with_reducible first | exact HK.out | apply Kept.alloc | apply Kept.drewN | apply Kept.drew | refine Kept.setCell ?_ (.inr GW223.out) _ | refine Kept.setCell ?_ (.inr GW224.out) _) | exact HK.out)) hb)
     have n6_ := Aside0.mk (below_step (by repeat (first | (with_reducible first | exact HB.out | apply below_alloc | apply pw_below_drewN | apply below_drew1 | refine below_set ?_ GE223.out | refine below_set ?_ GE224.out) | exact HB.out)) hb)
     clear HO_224000
     clear HO_224001
     clear BK223
     clear BK224
     clear HK
     clear HB
     have HO_224000 := n0_
     have HO_224001 := n1_
     have HO228 := n2_
     have BK223 := n3_
     have BK224 := n4_
     have HK := n5_
     have HB := n6_
     clear n0_ n1_ n2_ n3_ n4_ n5_ n6_
     (try clear hb)
     (try clear hb2)
     (try clear hk)
     (try clear hi)
     (try clear ho0)
     refine hK.out _ _ ⟨(blk_cell BK223.out 0).trans rfl, (blk_cell BK223.out 1).trans rfl⟩ (fun hHeld => ?_)
     clear hK K
     refine norm_ (a' := ?_) ?_ ?_
     rotate_left
     ·
      show Act.put _ (some 24) _ = _
      simp only [Act.put, List.setIfInBounds_toArray, List.set_cons_zero, List.set_cons_succ, i64_w, i32_w, IntKind.wrap_u32]
      rfl
     refine one_ (i := 8) (N := some 29) #[true, true, true, true, true, true, true, true, true, false, true, false, false, false] rfl rfl (one_of HT_.out (by kernel_rfl)) (by decide) (fun K hK => ?_)
     refine goes_ Try.func56 (by kernel_rfl) rfl #[.slice Ao4 l0_1.length co4, .int .i64 x7_1, .int .i64 a1] (by rfl) rfl rfl (by (try simp only [List.map_toArray, List.map_cons, List.map_nil]); first | done | rfl | (simp only [List.length_drop, List.length_take]; rfl)) ?_
     with_reducible refine (credenzaref10_with.calls _ _ l0_1 x7_1 a1 t229 _ ?side1 ?side2 A11.out).mono ?_
     (case side1 => repeat (first | exact (Kd.R_reads' HO_224001.out).2.2 | (with_reducible refine Kd.C_alloc ?_ _) | (with_reducible refine Kd.C_drewN ?_ _) | (with_reducible refine Kd.C_drew ?_)))
     (case side2 => exact (Kd.R_reads' HO_224001.out).2.1)
     rintro e w16 ⟨v230, rfl, ho0, hb⟩
     refine ⟨_, rfl, ?_⟩
     have n0_ := Aside0.mk (Kd.R_elder' (by (with_reducible repeat (first | apply Kd.R_alloc | apply Kd.R_drewN | apply Kd.R_drew)); exact HO_224000.out) (Kd.R_base ho0) hb)
     have n1_ := Aside0.mk (Kd.R_elder' (by (with_reducible repeat (first | apply Kd.R_alloc | apply Kd.R_drewN | apply Kd.R_drew)); exact HO_224001.out) (Kd.R_base ho0) hb)
     have n2_ := Aside0.mk (Kd.R_elder' (by (with_reducible repeat (first | apply Kd.R_alloc | apply Kd.R_drewN | apply Kd.R_drew)); exact HO228.out) (Kd.R_base ho0) hb)
     have n3_ := Aside0.mk (Kd.R_lower (Kd.R_new' (Kd.R_new' (Kd.R_new' (Kd.R_newM (M := fun k_ => ((P0_0_ k_ ∨ P0_1_ k_) ∨ w.heap.size ≤ k_)) ho0 (by first | exact HK.out.1 | exact (show Kept w _ (fun k_ => P0_0_ k_ ∨ P0_1_ k_) from by repeat (first | (with_reducible first | exact HK.out | apply Kept.alloc | apply Kept.drewN | apply Kept.drew | refine Kept.setCell ?_ (.inr GW223.out) _ | refine Kept.setCell ?_ (.inr GW224.out) _) | exact HK.out)).1) (fun k_ h_ => .inr h_)) (Kd.R_lt (by (with_reducible repeat (first | apply Kd.R_alloc | apply Kd.R_drewN | apply Kd.R_drew)); exact HO_224000.out))) (Kd.R_lt (by (with_reducible repeat (first | apply Kd.R_alloc | apply Kd.R_drewN | apply Kd.R_drew)); exact HO_224001.out))) (Kd.R_lt (by (with_reducible repeat (first | apply Kd.R_alloc | apply Kd.R_drewN | apply Kd.R_drew)); exact HO228.out))) (below_size (by repeat (first | (with_reducible first | exact HB.out | apply below_alloc | apply pw_below_drewN | apply below_drew1 | refine below_set ?_ GE223.out | refine below_set ?_ GE224.out) | exact HB.out))))
     have n4_ := Aside0.mk (blk_below (g := gb223) (o := .cells #[.slice (some ad225) l0_0.length co3, .slice Ao4 l0_1.length co4] 30 (0, 0)) (by (with_reducible repeat (first | refine blk_drewN ?_ _ | refine blk_drew ?_ | refine blk_alloc ?_ _)); exact BK223.out) hb)
     have n5_ := Aside0.mk (blk_below (g := gb224) (o := .cells #[.slice none 0 0, .slice none 0 0] 30 (0, 0)) (by (with_reducible repeat (first | refine blk_drewN ?_ _ | refine blk_drew ?_ | refine blk_alloc ?_ _)); exact BK224.out) hb)
     have n6_ := Aside0.mk (Kept.below (S := (fun k_ => P0_0_ k_ ∨ P0_1_ k_)) (by repeat (first | (with_reducible first | exact HK.out | apply Kept.alloc | apply Kept.drewN | apply Kept.drew | refine Kept.setCell ?_ (.inr GW223.out) _ | refine Kept.setCell ?_ (.inr GW224.out) _) | exact HK.out)) hb)
     have n7_ := Aside0.mk (below_step (by repeat (first | (with_reducible first | exact HB.out | apply below_alloc | apply pw_below_drewN | apply below_drew1 | refine below_set ?_ GE223.out | refine below_set ?_ GE224.out) | exact HB.out)) hb)
     clear HO_224000
     clear HO_224001
     clear HO228
     clear BK223
     clear BK224
     clear HK
     clear HB
     have HO_224000 := n0_
     have HO_224001 := n1_
     have HO228 := n2_
     have HO231 := n3_
     have BK223 := n4_
     have BK224 := n5_
     have HK := n6_
     have HB := n7_
     clear n0_ n1_ n2_ n3_ n4_ n5_ n6_ n7_
     (try clear hb)
     (try clear hb2)
     (try clear hk)
     (try clear hi)
     (try clear ho0)
     obtain ⟨Ao17, co17, eo17⟩ := Kd.R_slice HO231.out
     (first | subst eo17 | (injection eo17 with f1_ f2_ f3_; have f4_ := f1_.symm; have f5_ := f3_.symm; clear f1_ f2_ f3_; subst f4_; subst f5_))
     obtain ⟨Ao18, co18, eo18⟩ := Kd.R_slice HO228.out
     (first | subst eo18 | (injection eo18 with f1_ f2_ f3_; have f4_ := f1_.symm; have f5_ := f3_.symm; clear f1_ f2_ f3_; subst f4_; subst f5_))
     refine hK.out _ _ ⟨(blk_cell BK223.out 0).trans rfl, (blk_cell BK223.out 1).trans rfl⟩ (fun hHeld => ?_)
     clear hK K
     refine norm_ (a' := ?_) ?_ ?_
     rotate_left
     ·
      show Act.put _ (some 29) _ = _
      simp only [Act.put, List.setIfInBounds_toArray, List.set_cons_zero, List.set_cons_succ, i64_w, i32_w, IntKind.wrap_u32]
      rfl
     refine pure_ (i := 9) (N := some 30) (v := ?_) (a' := ?_) #[true, true, true, true, true, true, true, true, true, true, true, false, false, false] rfl rfl (any_of HT_.out (by kernel_rfl)) (fun _ _ _ h => h) (Or.inl ⟨by rfl, ?_⟩) ?_ ?_
     rotate_left
     ·
      intro w'
      go_simp
      with_reducible rfl
     rotate_left
     ·
      simp only [Act.put, List.setIfInBounds_toArray, List.set_cons_zero, List.set_cons_succ, i64_w, i32_w, IntKind.wrap_u32]
      rfl
     refine one_ (i := 11) (N := none) #[true, true, true, true, true, true, true, true, true, true, true, true, false, false] rfl rfl (one_of HT_.out (by kernel_rfl)) (by decide) (fun K hK => ?_)
     have hs19 : w16.cell? ⟨gb224, 0, none⟩ = some (.slice none 0 0) := (blk_cell BK224.out 0).trans rfl
     have hfs19 := blk_frozen BK224.out 0
     have hns19_0 := NB223_224.out
     have hms19_0 := NB224_223.out
     have hs20 : w16.cell? ⟨gb224, 1, none⟩ = some (.slice none 0 0) := (blk_cell BK224.out 1).trans rfl
     have hfs20 := blk_frozen BK224.out 1
     have hns20_0 := NB223_224.out
     have hms20_0 := NB224_223.out
     refine skip_ (w1 := ?_) (by rfl) rfl ?_ ?_
     rotate_left
     ·
      go_simp
      rfl
     refine hK.out _ _ ⟨((cell_far (p := ⟨gb224, _, none⟩) NB223_224.out _).trans (((cell_far (p := ⟨gb224, _, none⟩) NB223_224.out _).trans (hHeld.1)))), ((cell_far (p := ⟨gb224, _, none⟩) NB223_224.out _).trans (((cell_far (p := ⟨gb224, _, none⟩) NB223_224.out _).trans (hHeld.2))))⟩ (fun hHeld => ?_)
     clear hK K
     refine pure_ (i := 12) (N := some 5) (v := ?_) (a' := ?_) #[true, true, true, true, true, true, true, true, true, true, true, true, true, false] rfl rfl (any_of HT_.out (by kernel_rfl)) (fun _ _ _ h => h) (Or.inl ⟨by rfl, ?_⟩) ?_ ?_
     rotate_left
     ·
      intro w'
      go_simp
      with_reducible rfl
     rotate_left
     ·
      simp only [Act.put, List.setIfInBounds_toArray, List.set_cons_zero, List.set_cons_succ, i64_w, i32_w, IntKind.wrap_u32]
      rfl
     refine pure_ (i := 13) (N := some 6) (v := ?_) (a' := ?_) #[true, true, true, true, true, true, true, true, true, true, true, true, true, true] rfl rfl (any_of HT_.out (by kernel_rfl)) (fun _ _ _ h => h) (Or.inl ⟨by rfl, ?_⟩) ?_ ?_
     rotate_left
     ·
      intro w'
      go_simp
      with_reducible rfl
     rotate_left
     ·
      simp only [Act.put, List.setIfInBounds_toArray, List.set_cons_zero, List.set_cons_succ, i64_w, i32_w, IntKind.wrap_u32]
      rfl
     refine done_ (done_of HT_.out (by kernel_rfl)) ?_
     try go_wp2
     refine bodyPost_ret (results_ctt rfl _ _ gb224 30 #[.slice Ao18 t226.length co18, .slice Ao17 t229.length co17] (0, 0) _ rfl (by (with_reducible repeat (first | refine blk_drewN ?_ _ | refine blk_drew ?_ | refine blk_alloc ?_ _)); refine blk_put (cs := #[.slice Ao18 t226.length co18, .slice none 0 0]) ?_ 1 _ rfl; (with_reducible repeat (first | refine blk_drewN ?_ _ | refine blk_drew ?_ | refine blk_alloc ?_ _)); refine blk_put (cs := #[.slice none 0 0, .slice none 0 0]) ?_ 0 _ rfl; (with_reducible repeat (first | refine blk_drewN ?_ _ | refine blk_drew ?_ | refine blk_alloc ?_ _)); exact BK224.out) Try.underlying30 rfl (by kernel_rfl)) rfl ?_
     exact ⟨_, _, by first | rfl | (simp [errW_none, errW_some] <;> rfl) | (simp [*, errW_none, errW_some] <;> rfl), by (with_reducible repeat (first | apply Kd.R_alloc | apply Kd.R_drewN | apply Kd.R_drew)); exact Kd.R_mono (Kd.R_far (p := ⟨gb224, 1, none⟩) (Kd.R_far (p := ⟨gb224, 0, none⟩) (Kd.R_types HO228.out BK224.out (by decide)) (fun _ hk => hk.2) (.slice Ao18 t226.length co18)) (fun _ hk => hk.2) (.slice Ao17 t229.length co17)) (fun _ hk => ⟨hk.1.1.1.1.1, hk.1.2⟩), by (with_reducible repeat (first | apply Kd.R_alloc | apply Kd.R_drewN | apply Kd.R_drew)); exact Kd.R_mono (Kd.R_far (p := ⟨gb224, 1, none⟩) (Kd.R_far (p := ⟨gb224, 0, none⟩) (Kd.R_types HO231.out BK224.out (by decide)) (fun _ hk => hk.2) (.slice Ao18 t226.length co18)) (fun _ hk => hk.2) (.slice Ao17 t229.length co17)) (fun _ hk => ⟨hk.1.1.1.1.1, hk.1.2⟩), by repeat (first | (with_reducible first | exact HB.out | apply below_alloc | apply pw_below_drewN | apply below_drew1 | refine below_set ?_ GE223.out | refine below_set ?_ GE224.out) | exact HB.out), by repeat (first | (with_reducible first | exact HK.out | apply Kept.alloc | apply Kept.drewN | apply Kept.drew | refine Kept.setCell ?_ (.inr GW223.out) _ | refine Kept.setCell ?_ (.inr GW224.out) _) | exact HK.out)⟩
    ·
     rw [if_neg c9] at H
     have c9b0 : ((rd l0_0 x7_1) == 0) = false := beq_eq_false_iff_ne.mpr c9
     have c9b1 : ((rd l0_0 x7_1) != 0) = true := bne_iff_ne.mpr c9
     have H' := Aside0.mk H
     clear H
     have hnb21 := NB223_224.out
     have hnc21 := NB224_223.out
     have hcz22_0 : wr.cell? ⟨gb223, 0, none⟩ = some (.slice Ao3 l0_0.length co3) := (blk_cell BK223.out 0).trans rfl
     have hcz22_1 : wr.cell? ⟨gb223, 1, none⟩ = some (.slice Ao4 l0_1.length co4) := (blk_cell BK223.out 1).trans rfl
     have hfz22_0 := blk_frozen BK223.out 0
     have hfz22_1 := blk_frozen BK223.out 1
     have p225 : 0 ≤ (x7_1 : Int) := of_decide_eq_true (by first | (with_reducible assumption) | assumption)
     have q225 : x7_1 < (l0_0.length : Int) := of_decide_eq_true (by first | (with_reducible assumption) | assumption)
     obtain ⟨ad225, e225, hx225_0⟩ := Kd.at_int (Kd.R_reads' HO_224000.out).2.2 x7_1 p225 q225
     cases e225
     replace p225 := eq_true p225
     replace q225 := eq_true q225
     go_wp2
     go_roundg k1
     case measure => have := HK1.out; omega
     case rel => exact ⟨(wrap64 (x7_1 + 1)), (by first | rfl | (simp; done) | (simp [*]; done)), H', ⟨by have := HK1.out; omega⟩, ⟨by exact HO_224000.out⟩, ⟨by exact HO_224001.out⟩, ⟨by exact BK223.out⟩, ⟨by exact BK224.out⟩, ⟨by with_reducible exact HK.out⟩, ⟨by with_reducible exact HB.out⟩⟩
   ·
    rw [if_neg c7] at H
    have c7b0 : decide (x7_1 < (l0_0.length : Int)) = false := decide_eq_false c7
    clear c7
    simp only [Option.some.injEq, Prod.mk.injEq] at H
    obtain ⟨rfl, rfl, rfl, rfl⟩ := H
    have hnb23 := NB223_224.out
    have hnc23 := NB224_223.out
    have hcz24_0 : wr.cell? ⟨gb223, 0, none⟩ = some (.slice Ao3 l0_0.length co3) := (blk_cell BK223.out 0).trans rfl
    have hcz24_1 : wr.cell? ⟨gb223, 1, none⟩ = some (.slice Ao4 l0_1.length co4) := (blk_cell BK223.out 1).trans rfl
    have hfz24_0 := blk_frozen BK223.out 0
    have hfz24_1 := blk_frozen BK223.out 1
    have hcz25_0 : wr.cell? ⟨gb224, 0, none⟩ = some (.slice none 0 0) := (blk_cell BK224.out 0).trans rfl
    have hcz25_1 : wr.cell? ⟨gb224, 1, none⟩ = some (.slice none 0 0) := (blk_cell BK224.out 1).trans rfl
    have hfz25_0 := blk_frozen BK224.out 0
    have hfz25_1 := blk_frozen BK224.out 1
    go_wp2
    refine bodyPost_ret (results_ctt rfl _ _ gb224 30 #[.slice Ao3 l0_0.length co3, .slice Ao4 l0_1.length co4] (0, 0) _ rfl (by (with_reducible repeat (first | refine blk_drewN ?_ _ | refine blk_drew ?_ | refine blk_alloc ?_ _)); refine blk_put (cs := #[.slice Ao3 l0_0.length co3, .slice none 0 0]) ?_ 1 _ rfl; (with_reducible repeat (first | refine blk_drewN ?_ _ | refine blk_drew ?_ | refine blk_alloc ?_ _)); refine blk_put (cs := #[.slice none 0 0, .slice none 0 0]) ?_ 0 _ rfl; (with_reducible repeat (first | refine blk_drewN ?_ _ | refine blk_drew ?_ | refine blk_alloc ?_ _)); exact BK224.out) Try.underlying30 rfl (by kernel_rfl)) rfl ?_
    exact ⟨_, _, by first | rfl | (simp [errW_none, errW_some] <;> rfl) | (simp [*, errW_none, errW_some] <;> rfl), by (with_reducible repeat (first | apply Kd.R_alloc | apply Kd.R_drewN | apply Kd.R_drew)); exact Kd.R_mono (Kd.R_far (p := ⟨gb224, 1, none⟩) (Kd.R_far (p := ⟨gb224, 0, none⟩) (Kd.R_types HO_224000.out BK224.out (by decide)) (fun _ hk => hk.2) (.slice Ao3 l0_0.length co3)) (fun _ hk => hk.2) (.slice Ao4 l0_1.length co4)) (fun _ hk => ⟨hk.1.1, hk.1.2⟩), by (with_reducible repeat (first | apply Kd.R_alloc | apply Kd.R_drewN | apply Kd.R_drew)); exact Kd.R_mono (Kd.R_far (p := ⟨gb224, 1, none⟩) (Kd.R_far (p := ⟨gb224, 0, none⟩) (Kd.R_types HO_224001.out BK224.out (by decide)) (fun _ hk => hk.2) (.slice Ao3 l0_0.length co3)) (fun _ hk => hk.2) (.slice Ao4 l0_1.length co4)) (fun _ hk => ⟨hk.1.1, hk.1.2⟩), by repeat (first | (with_reducible first | exact HB.out | apply below_alloc | apply pw_below_drewN | apply below_drew1 | refine below_set ?_ GE223.out | refine below_set ?_ GE224.out) | exact HB.out), by repeat (first | (with_reducible first | exact HK.out | apply Kept.alloc | apply Kept.drewN | apply Kept.drew | refine Kept.setCell ?_ (.inr GW223.out) _ | refine Kept.setCell ?_ (.inr GW224.out) _) | exact HK.out)⟩

/-! ### credenzaref10_Pool_Is: function 43 -/
def credenzaref10_Pool_Is.f (l0_0 : List Int) (l0_1 : List Int) (a1 : Int) : Option (Bool) := if a1 ≥ 0 then (if a1 < (l0_0.length : Int) then (if 0 ≤ a1 then (some (decide ((rd l0_0 a1) > 0))) else (none)) else (some false)) else (some false)
set_option maxHeartbeats 8000000 in
set_option maxRecDepth 100000 in
theorem credenzaref10_Pool_Is.calls (A0_0 : Option Addr) (c0_0 : Nat) (l0_0 : List Int) (A0_1 : Option Addr) (c0_1 : Nat) (l0_1 : List Int) (a1 : Int) (r : Bool) (w : World) (hr0_0 : Kd.C (Kd.int .i64) w A0_0 l0_0.length l0_0) (hc0_0 : l0_0.length ≤ c0_0) (hr0_1 : Kd.C (Kd.int .i64) w A0_1 l0_1.length l0_1) (hc0_1 : l0_1.length ≤ c0_1) (h : credenzaref10_Pool_Is.f l0_0 l0_1 a1 = some r) :
  Calls Try.prog 43 #[.agg #[.slice A0_0 l0_0.length c0_0, .slice A0_1 l0_1.length c0_1], .int .i64 a1] w fun e w' => e = .returned (.bool r) ∧ Below w.heap.size w w' := by
 have hu30 := Try.underlying30
 have HR0_0 := Aside0.mk hr0_0
 have HC0_0 := Aside0.mk hc0_0
 clear hr0_0 hc0_0
 have HR0_1 := Aside0.mk hr0_1
 have HC0_1 := Aside0.mk hc0_1
 clear hr0_1 hc0_1
 have HB := Aside0.mk (Below.refl w.heap.size w)
 have H : (if a1 ≥ 0 then (if a1 < (l0_0.length : Int) then (if 0 ≤ a1 then (some (decide ((rd l0_0 a1) > 0))) else (none)) else (some false)) else (some false)) = some r := h
 clear h
 by_cases c3 : a1 ≥ 0
 ·
  rw [if_pos c3] at H
  have c3b0 : decide (0 ≤ a1) = true := decide_eq_true c3
  clear c3
  by_cases c4 : a1 < (l0_0.length : Int)
  ·
   rw [if_pos c4] at H
   have c4b0 : decide (a1 < (l0_0.length : Int)) = true := decide_eq_true c4
   clear c4
   by_cases c5 : 0 ≤ a1
   case neg => (rw [if_neg c5] at H; exact absurd H (by simp))
   rw [if_pos c5] at H
   have c5b0 : decide (0 ≤ a1) = true := decide_eq_true c5
   clear c5
   obtain rfl := Option.some.inj H
   go_enter Try.func43, Try.ntmps43
   go_wp2_with (first | ((with_reducible refine gate_dst (N := 2) rfl ?_); (try (refine gate_guard (by rfl) ?_; dsimp only)); refine box_event ?hg (N := 2) ?hd (cs := #[.slice A0_0 l0_0.length c0_0, .slice A0_1 l0_1.length c0_1]) (t := 30) ?hr ?_; (case hd => rfl); (case hg => rfl); (case hr => first | (go_simp; done) | (go_simp; rfl)); intro gb232 hg w6 hbox hb; have n0_ := Aside0.mk (below_step (by with_reducible exact HB.out) hb); have n1_ := Aside0.mk (hbox); have n2_ := Aside0.mk ((by rw [hg]; exact (below_size (by with_reducible exact HB.out)) : w.heap.size ≤ gb232)); have n3_ := Aside0.mk ((by rw [hg]; exact (below_size (by with_reducible exact HB.out)) : w.heap.size ≤ gb232)); clear HB; have HB := n0_; have BK232 := n1_; have GW232 := n2_; have GE232 := n3_; clear n0_ n1_ n2_ n3_; clear hb hbox hg; have hcz7_0 : w6.cell? ⟨gb232, 0, none⟩ = some (.slice A0_0 l0_0.length c0_0) := (blk_cell BK232.out 0).trans rfl; have hcz7_1 : w6.cell? ⟨gb232, 1, none⟩ = some (.slice A0_1 l0_1.length c0_1) := (blk_cell BK232.out 1).trans rfl; have hfz7_0 := blk_frozen BK232.out 0; have hfz7_1 := blk_frozen BK232.out 1; have p233 : 0 ≤ (a1 : Int) := of_decide_eq_true (by first | (with_reducible assumption) | assumption); have q233 : a1 < (l0_0.length : Int) := of_decide_eq_true (by first | (with_reducible assumption) | assumption); obtain ⟨ad233, e233, hx233_0⟩ := Kd.at_int HR0_0.out a1 p233 q233; cases e233; replace hx233_0 := (HB.out.cell (World.block_lt_of_cell? w _ hx233_0)).trans hx233_0; replace p233 := eq_true p233; replace q233 := eq_true q233))
   go_ret
   exact ⟨by first | rfl | (simp [errW_none, errW_some] <;> rfl) | (simp [*, errW_none, errW_some] <;> rfl), by with_reducible exact HB.out⟩
  ·
   rw [if_neg c4] at H
   have c4b0 : decide (a1 < (l0_0.length : Int)) = false := decide_eq_false c4
   clear c4
   obtain rfl := Option.some.inj H
   go_enter Try.func43, Try.ntmps43
   go_wp2_with (first | ((with_reducible refine gate_dst (N := 2) rfl ?_); (try (refine gate_guard (by rfl) ?_; dsimp only)); refine box_event ?hg (N := 2) ?hd (cs := #[.slice A0_0 l0_0.length c0_0, .slice A0_1 l0_1.length c0_1]) (t := 30) ?hr ?_; (case hd => rfl); (case hg => rfl); (case hr => first | (go_simp; done) | (go_simp; rfl)); intro gb232 hg w8 hbox hb; have n0_ := Aside0.mk (below_step (by with_reducible exact HB.out) hb); have n1_ := Aside0.mk (hbox); have n2_ := Aside0.mk ((by rw [hg]; exact (below_size (by with_reducible exact HB.out)) : w.heap.size ≤ gb232)); have n3_ := Aside0.mk ((by rw [hg]; exact (below_size (by with_reducible exact HB.out)) : w.heap.size ≤ gb232)); clear HB; have HB := n0_; have BK232 := n1_; have GW232 := n2_; have GE232 := n3_; clear n0_ n1_ n2_ n3_; clear hb hbox hg; have hcz9_0 : w8.cell? ⟨gb232, 0, none⟩ = some (.slice A0_0 l0_0.length c0_0) := (blk_cell BK232.out 0).trans rfl; have hcz9_1 : w8.cell? ⟨gb232, 1, none⟩ = some (.slice A0_1 l0_1.length c0_1) := (blk_cell BK232.out 1).trans rfl; have hfz9_0 := blk_frozen BK232.out 0; have hfz9_1 := blk_frozen BK232.out 1))
   go_ret
   exact ⟨by first | rfl | (simp [errW_none, errW_some] <;> rfl) | (simp [*, errW_none, errW_some] <;> rfl), by with_reducible exact HB.out⟩
 ·
  rw [if_neg c3] at H
  have c3b0 : decide (0 ≤ a1) = false := decide_eq_false c3
  clear c3
  obtain rfl := Option.some.inj H
  go_enter Try.func43, Try.ntmps43
  go_wp2_with (first | ((with_reducible refine gate_dst (N := 2) rfl ?_); (try (refine gate_guard (by rfl) ?_; dsimp only)); refine box_event ?hg (N := 2) ?hd (cs := #[.slice A0_0 l0_0.length c0_0, .slice A0_1 l0_1.length c0_1]) (t := 30) ?hr ?_; (case hd => rfl); (case hg => rfl); (case hr => first | (go_simp; done) | (go_simp; rfl)); intro gb232 hg w10 hbox hb; have n0_ := Aside0.mk (below_step (by with_reducible exact HB.out) hb); have n1_ := Aside0.mk (hbox); have n2_ := Aside0.mk ((by rw [hg]; exact (below_size (by with_reducible exact HB.out)) : w.heap.size ≤ gb232)); have n3_ := Aside0.mk ((by rw [hg]; exact (below_size (by with_reducible exact HB.out)) : w.heap.size ≤ gb232)); clear HB; have HB := n0_; have BK232 := n1_; have GW232 := n2_; have GE232 := n3_; clear n0_ n1_ n2_ n3_; clear hb hbox hg))
  go_ret
  exact ⟨by first | rfl | (simp [errW_none, errW_some] <;> rfl) | (simp [*, errW_none, errW_some] <;> rfl), by with_reducible exact HB.out⟩

end Go.Proofs.Ytoofkemhikigoaa.PBlockPlays
