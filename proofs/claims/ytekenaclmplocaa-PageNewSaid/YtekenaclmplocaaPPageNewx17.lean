-- Written by a program of this session (wip/tools/mkprint.py over the kit's print).
import Derived.Test.YtekenaclmplocaaPPageNewx0
import Derived.Test.YtekenaclmplocaaPPageNewx10
namespace Go.Proofs.Ytekenaclmplocaa.PPageNew
open Go.RowKit Go.Proofs.YtekenaclmplocaaW.PrintWords Go.Proofs.YtekenaclmplocaaW.PrintLast Go.Proofs.YtekenaclmplocaaW.PrintMore
attribute [local go_sem] max2_int min2_int max_two min_two max_three min_three max_four min_four
set_option linter.unusedVariables false
set_option maxHeartbeats 8000000
set_option maxRecDepth 100000
set_option linter.unusedSimpArgs false

def F43.l0 : Nat → Int → Int → List (S47) → List (S82) → Int → Int → Option ((List (S47)))
 | 0, _, _, _, _, _, _ => none
 | k + 1, x1, x2, x7, x11, x12, x13 => if x13 < x12 then (if 0 ≤ x13 then (if x13 < (x11.length : Int) then ((F75.f k ((rd_T82 x11 x13).f1) x1 x2).bind fun bt474 => (if x7.length < 4398046511104 then (F43.l0 k x1 x2 (x7 ++ [(⟨(rd_T82 x11 x13).f0.f0, (rd_T82 x11 x13).f0.f1, bt474.1⟩ : S47)]) x11 x12 (wrap64 (x13 + 1))) else (none))) else (none)) else (none)) else (some x7)
def F43.f (k : Nat) (l0 : List (S82)) (a1 : Int) (a2 : Int) : Option ((List (S47))) := F43.l0 k a1 a2 ([] : List (S47)) l0 (l0.length : Int) 0
theorem F43.mono_l : ∀ k, (∀ y0 y1 y2 y3 y4 y5, LeO (F43.l0 k y0 y1 y2 y3 y4 y5) (F43.l0 (k + 1) y0 y1 y2 y3 y4 y5))
 | 0 => fun _ _ _ _ _ _ r h => by simp [F43.l0] at h
 | k + 1 => by
  have ih0 := F43.mono_l k
  ·
   intro y0 y1 y2 y3 y4 y5; unfold F43.l0
   repeat' with_reducible first | exact ih0 _ _ _ _ _ _ | exact F75.mono _ _ _ _ | exact LeO.refl _ | exact LeO.none _ | refine LeO.ite ?_ ?_ | refine LeO.bind ?_ (fun _ => ?_)
theorem F43.mono : ∀ a0 a1 a2 k, LeO (F43.f k a0 a1 a2) (F43.f (k + 1) a0 a1 a2) := by
 intro a0 a1 a2 k; have ih0 := F43.mono_l k; unfold F43.f
 repeat' with_reducible first | exact ih0 _ _ _ _ _ _ | exact F75.mono _ _ _ _ | exact LeO.refl _ | exact LeO.none _ | refine LeO.ite ?_ ?_ | refine LeO.bind ?_ (fun _ => ?_)
theorem F43.calls (k : Nat) (A0 : Option Addr) (c0 : Nat) (l0 : List (S82)) (a1 : Int) (a2 : Int) (r : List (S47)) (w : World) (hr0 : Kd.C k82 w A0 l0.length l0) (hc0 : l0.length ≤ c0) (h : F43.f k l0 a1 a2 = some r) :
  Calls Try.prog 43 #[.slice A0 l0.length c0, .int .i64 a1, .int .i64 a2] w fun e w' => ∃ v0_ : Value, e = .returned (v0_) ∧ Kd.S k47 47 w' w.heap.size (fun _ => True) v0_ r ∧ Below w.heap.size w w' := by
 have hu82 := Try.underlying82; have hu47 := Try.underlying47; have HR0 := aM hr0; have HC0 := aM hc0; clear hr0 hc0; have HB := aM (Below.refl w.heap.size w); have H := h; clear h; unfold F43.f at H; have H' := aM H; clear H
 go_enter Try.func43, Try.ntmps43
 go_wp2
 go_loopg [7, 13] k (fun kq v7 v13 w' => ∃ (x7_1 : List (S47)) (x13_1 : Int), v13 = .int .i64 x13_1 ∧ Aside0 (F43.l0 kq a1 a2 x7_1 l0 (l0.length : Int) x13_1 = some r) ∧ Aside0 (kq ≤ k) ∧ Aside0 (Kd.S k47 47 w' w.heap.size (fun _ => True) v7 x7_1) ∧ Aside0 (Below w.heap.size w w'))
 case atStart => exact ⟨(([] : List (S47))), (0), rfl, H', ⟨Nat.le_refl _⟩, ⟨by first | exact Kd.S_nil _ _ _ _ _ | exact Kd.N_nil _ _ _ _ _ | exact Kd.V_nil _ _ _ _ _ | exact Kd.Q_nil _ _ _ _ _ | exact Kd.R_nil _ _ _ _ _⟩, HB⟩
 case round =>
  clear H'; (try clear p2); obtain ⟨x7_1, x13_1, rfl, HA, HK1, HO_7, HB⟩ := hrel
  cases gk with
  | zero => exact absurd HA.out (by simp [F43.l0])
  | succ k1 =>
   have H := HA.out; clear HA; simp only [F43.l0] at H
   by_cases c4 : x13_1 < (l0.length : Int)
   ·
    rw [if_pos c4] at H; have c4b0 : decide (x13_1 < (l0.length : Int)) = true := dT c4; clear c4; obtain ⟨c5, H⟩ := ifp H; have c5b0 : decide (0 ≤ x13_1) = true := dT c5; clear c5; obtain ⟨c6, H⟩ := ifp H; have c6b0 : decide (x13_1 < (l0.length : Int)) = true := dT c6; clear c6; obtain ⟨⟨t474, t475⟩, A7, H⟩ := bnd H
    try dsimp only at H
    obtain ⟨c8, H⟩ := ifp H; have LMc8 := aM c8; clear c8; obtain ⟨y478, hy478⟩ : ∃ y_ : List (S47), y_ = (x7_1 ++ [(⟨(rd_T82 l0 x13_1).f0.f0, (rd_T82 l0 x13_1).f0.f1, t474⟩ : S47)]) := ⟨_, rfl⟩; (replace H : (F43.l0 k1 a1 a2 y478 l0 (l0.length : Int) (wrap64 (x13_1 + 1))) = some r := by rw [hy478]; exact H); have Ny478 := aM hy478; clear hy478; have H' := aM H; clear H; have p471 : 0 ≤ (x13_1 : Int) := oD; have q471 : x13_1 < (l0.length : Int) := oD; obtain ⟨ad471, A471_2, c471_2, A471_3, c471_3, e471, hx471_0, hx471_1, hx471_2, hx471_3, hl471_2, hi471_2, hl471_3, hi471_3⟩ := at_T82 HR0.out x13_1 p471 q471
    cases e471
    replace hx471_0 := cU HB hx471_0; replace hx471_1 := cU HB hx471_1; replace hx471_2 := cU HB hx471_2; replace hx471_3 := cU HB hx471_3; have HR471_2 := aM hi471_2; have HC471_2 := aM hl471_2; clear hi471_2 hl471_2; have HR471_3 := aM hi471_3; have HC471_3 := aM hl471_3; clear hi471_3 hl471_3; replace p471 := eq_true p471; replace q471 := eq_true q471
    go_wp2_with (first | ((with_reducible refine gate_dst (N := 9) rfl ?_); refine bxE 9 #[.int .i32 0, .int .u32 0, .slice none 0 0, .slice none 0 0] 82 (h := ?_); intro gb472 hg w9 hbox hb; replace HO_7 := sst HO_7 hb; have BK472 := aM (hbox); have GW472 := gE hg HB; have GE472 := gE hg HB; replace HB := bst HB hb; clear hb hbox hg; have hz10 := bx4 BK472.out) | ((with_reducible refine gate_dst (N := 10) rfl ?_); refine bxE 10 #[.int .i32 0, .int .u32 0, .slice none 0 0] 47 (h := ?_); intro gb473 hg w11 hbox hb; replace HO_7 := aM (Kd.S_below (Kd.S_elderB (by (with_reducible repeat (first | apply Kd.S_alloc | apply Kd.S_drewN | apply Kd.S_drew)); exact (Kd.S_mono (Kd.S_far (p := ⟨gb472, 3, none⟩) (Kd.S_far (p := ⟨gb472, 2, none⟩) (Kd.S_far (p := ⟨gb472, 1, none⟩) (Kd.S_far (p := ⟨gb472, 0, none⟩) (Kd.S_types HO_7.out BK472.out (by decide)) (fun _ hk => hk.2) (.int .i32 ((rd_T82 l0 x13_1).f0.f0))) (fun _ hk => hk.2) (.int .u32 ((rd_T82 l0 x13_1).f0.f1))) (fun _ hk => hk.2) (.slice A471_2 ((rd_T82 l0 x13_1).f0.f2).length c471_2)) (fun _ hk => hk.2) (.slice A471_3 ((rd_T82 l0 x13_1).f1).length c471_3)) (fun _ h_ => h_.1))) gb473 (Nat.le_of_eq hg.symm)) hb); have BK473 := aM (hbox); have GW473 := aM ((by rw [hg]; exact (below_size bZ) : w.heap.size ≤ gb473)); have GE473 := aM ((by rw [hg]; exact (below_size bZ) : w.heap.size ≤ gb473)); replace HB := aM (below_step bZ hb); have NB472_473 := aM ((by rw [hg]; exact Nat.ne_of_lt (blk_lt (g := gb472) (o := .cells #[.int .i32 ((rd_T82 l0 x13_1).f0.f0), .int .u32 ((rd_T82 l0 x13_1).f0.f1), .slice A471_2 ((rd_T82 l0 x13_1).f0.f2).length c471_2, .slice A471_3 ((rd_T82 l0 x13_1).f1).length c471_3] 82 (0, 0)) (blk_put (blk_put (blk_put (blk_put BK472.out 0 _ rfl) 1 _ rfl) 2 _ rfl) 3 _ rfl)) : gb472 ≠ gb473)); have NB473_472 := aM ((by rw [hg]; exact Nat.ne_of_gt (blk_lt (g := gb472) (o := .cells #[.int .i32 ((rd_T82 l0 x13_1).f0.f0), .int .u32 ((rd_T82 l0 x13_1).f0.f1), .slice A471_2 ((rd_T82 l0 x13_1).f0.f2).length c471_2, .slice A471_3 ((rd_T82 l0 x13_1).f1).length c471_3] 82 (0, 0)) (blk_put (blk_put (blk_put (blk_put BK472.out 0 _ rfl) 1 _ rfl) 2 _ rfl) 3 _ rfl)) : gb473 ≠ gb472)); replace BK472 := aM (blk_below (g := gb472) (o := .cells #[.int .i32 ((rd_T82 l0 x13_1).f0.f0), .int .u32 ((rd_T82 l0 x13_1).f0.f1), .slice A471_2 ((rd_T82 l0 x13_1).f0.f2).length c471_2, .slice A471_3 ((rd_T82 l0 x13_1).f1).length c471_3] 82 (0, 0)) (blk_put (blk_put (blk_put (blk_put BK472.out 0 _ rfl) 1 _ rfl) 2 _ rfl) 3 _ rfl) hb); clear hb hbox hg; have hnb12 := NB473_472.out; have hnc12 := NB472_473.out; have hz13 := bx3 BK473.out; have hz14 := bx4 BK472.out) | ((with_reducible refine gate_callee (f := 75) rfl ?_); refine gL 24 Try.func75 #[.slice A471_3 ((rd_T82 l0 x13_1).f1).length c471_3, .int .i64 a1, .int .i64 a2] (h := ?_); (with_reducible refine (F75.calls k1 _ _ ((rd_T82 l0 x13_1).f1) a1 a2 t474 t475 _ ?side1 ?side2 A7.out).mono ?_); (case side1 => exact Kd.C_below HR471_3.out bZ); (case side2 => exact HC471_3.out); rintro e w15 ⟨v476, rfl, ho0, hb⟩; refine ⟨_, rfl, ?_⟩; replace HO_7 := aM (Kd.S_elder' (by (with_reducible repeat (first | apply Kd.S_alloc | apply Kd.S_drewN | apply Kd.S_drew)); exact (Kd.S_mono (Kd.S_far (p := ⟨gb473, 2, none⟩) (Kd.S_far (p := ⟨gb473, 1, none⟩) (Kd.S_far (p := ⟨gb473, 0, none⟩) (Kd.S_mono HO_7.out (fun k_ hk => (⟨hk, hk.2⟩ : _ ∧ k_ ≠ gb473))) (fun _ hk => hk.2) (.int .i32 ((rd_T82 l0 x13_1).f0.f0))) (fun _ hk => hk.2) (.int .u32 ((rd_T82 l0 x13_1).f0.f1))) (fun _ hk => hk.2) (.slice A471_2 ((rd_T82 l0 x13_1).f0.f2).length c471_2)) (fun _ h_ => h_.1))) (Kd.R_base ho0) hb); have HO477 := aM (Kd.R_lower ho0 (below_size bZ)); replace BK472 := aM (blk_below (g := gb472) (o := .cells #[.int .i32 ((rd_T82 l0 x13_1).f0.f0), .int .u32 ((rd_T82 l0 x13_1).f0.f1), .slice A471_2 ((rd_T82 l0 x13_1).f0.f2).length c471_2, .slice A471_3 ((rd_T82 l0 x13_1).f1).length c471_3] 82 (0, 0)) (by (with_reducible repeat (first | refine blk_drewN ?_ _ | refine blk_drew ?_ | refine blk_alloc ?_ _)); refine blk_far ?_ NB472_473.out _; (with_reducible repeat (first | refine blk_drewN ?_ _ | refine blk_drew ?_ | refine blk_alloc ?_ _)); refine blk_far ?_ NB472_473.out _; (with_reducible repeat (first | refine blk_drewN ?_ _ | refine blk_drew ?_ | refine blk_alloc ?_ _)); refine blk_far ?_ NB472_473.out _; (with_reducible repeat (first | refine blk_drewN ?_ _ | refine blk_drew ?_ | refine blk_alloc ?_ _)); exact BK472.out) hb); replace BK473 := aM (blk_below (g := gb473) (o := .cells #[.int .i32 ((rd_T82 l0 x13_1).f0.f0), .int .u32 ((rd_T82 l0 x13_1).f0.f1), .slice A471_2 ((rd_T82 l0 x13_1).f0.f2).length c471_2] 47 (0, 0)) (blk_put (blk_put (blk_put BK473.out 0 _ rfl) 1 _ rfl) 2 _ rfl) hb); replace HB := aM (below_step bZ hb); clear hb ho0; obtain ⟨Ao16, co16, eo16⟩ := Kd.R_slice HO477.out; subst eo16; have hz17 := bx3 BK473.out) | ((with_reducible refine gate_store (t := 45) (p := 27) rfl ?_); refine store_event (t := 45) (p := 27) (v := ?vo_w18) (w1 := (w15.setCell ⟨gb473, 2, none⟩ (.slice Ao16 t474.length co16))) ?hg ?ho ?hn ?hr ?_; (case ho => rfl); (case hg => rfl); (case hn => rfl); (case hr => first | (go_simp; done) | (go_simp; rfl)); intro w18 hw; have n0_ : Aside0 (Kd.S k47 47 w18 w.heap.size (fun k_ => some k_ ≠ (.slice Ao16 t474.length co16 : Value).ownBlock ∧ k_ ≠ gb473) u7 x7_1) := ⟨(by rw [hw]; exact (by (with_reducible repeat (first | apply Kd.S_alloc | apply Kd.S_drewN | apply Kd.S_drew)); exact Kd.S_mono (Kd.S_far (p := ⟨gb473, 2, none⟩) (Kd.S_mono HO_7.out (fun k_ hk => (⟨hk, hk.1.2⟩ : _ ∧ k_ ≠ gb473))) (fun _ hk => hk.2) (.slice Ao16 t474.length co16)) (fun _ hk => ⟨hk.1.2, hk.1.1.2⟩)))⟩; have n1_ : Aside0 (Kd.R (Kd.int .i64) 3 w18 w.heap.size (fun _ => True) (.slice Ao16 t474.length co16) t474) := ⟨(by rw [hw]; exact (by (with_reducible repeat (first | apply Kd.R_alloc | apply Kd.R_drewN | apply Kd.R_drew)); exact Kd.R_mono (Kd.R_far (p := ⟨gb473, 2, none⟩) (Kd.R_types HO477.out BK473.out (by decide)) (fun _ hk => hk.2) (.slice Ao16 t474.length co16)) (fun _ hk => trivial)))⟩; have n2_ : Aside0 (w18.heap[gb472]? = some (.cells #[.int .i32 ((rd_T82 l0 x13_1).f0.f0), .int .u32 ((rd_T82 l0 x13_1).f0.f1), .slice A471_2 ((rd_T82 l0 x13_1).f0.f2).length c471_2, .slice A471_3 ((rd_T82 l0 x13_1).f1).length c471_3] 82 (0, 0))) := ⟨(by rw [hw]; exact (by (with_reducible repeat (first | refine blk_drewN ?_ _ | refine blk_drew ?_ | refine blk_alloc ?_ _)); refine blk_far ?_ NB472_473.out _; (with_reducible repeat (first | refine blk_drewN ?_ _ | refine blk_drew ?_ | refine blk_alloc ?_ _)); exact BK472.out))⟩; have n3_ : Aside0 (w18.heap[gb473]? = some (.cells #[.int .i32 ((rd_T82 l0 x13_1).f0.f0), .int .u32 ((rd_T82 l0 x13_1).f0.f1), .slice Ao16 t474.length co16] 47 (0, 0))) := ⟨(by rw [hw]; exact (blk_put BK473.out 2 _ rfl))⟩; have n4_ : Aside0 (Below w.heap.size w w18) := ⟨(by rw [hw]; exact bZ)⟩; clear hw; clear HO_7; clear HO477; clear BK472; clear BK473; clear HB; have HO_7 := n0_; have HO477 := n1_; have BK472 := n2_; have BK473 := n3_; have HB := n4_; clear n0_ n1_ n2_ n3_ n4_; have hz19 := bx3 BK473.out) | ((with_reducible refine gate_builtin (b := .append) (xs := #[.tmp 28, .tmp 30]) rfl ?_); at_builtin; refine Kd.S_append k47 (w0 := w) w.heap.size rfl (.tmp 28) (.tmp 30) 40 47 (.agg #[(.int .i32 0), (.int .u32 0), (.slice none 0 0)]) 32 rfl Try.underlying40 info47 rfl (by decide) (by omega) u7 x7_1 (⟨(rd_T82 l0 x13_1).f0.f0, (rd_T82 l0 x13_1).f0.f1, t474⟩ : S47) [.int .i32 ((rd_T82 l0 x13_1).f0.f0), .int .u32 ((rd_T82 l0 x13_1).f0.f1), .slice Ao16 t474.length co16] (fun k_ => k_ ≠ gb473) (fun k_ => some k_ = (.slice Ao16 t474.length co16 : Value).ownBlock) rfl rfl ?aP (fun k_ hk_ => ((Kd.R_mono (ok' := fun k_ => ((fun k_ => k_ ≠ gb473)) k_ ∧ some k_ ≠ (u7 : Value).ownBlock) (Kd.R_types (Kd.R_apart' (HO477.out) (Kd.S_typed HO_7.out) (by decide)) BK473.out (by decide)) (fun k_ hk => ⟨hk.2, hk.1.2⟩))).1 k_ hk_.symm) ?aF ?aO ?aB ?aS ?aL ?_; (case aP => exact k47_mkM _ _ _ (⟨(rd_T82 l0 x13_1).f0.f0, (rd_T82 l0 x13_1).f0.f1, t474⟩ : S47) (Kd.R_mono (Kd.R_tight rfl (Kd.R_mono (ok' := fun k_ => ((fun k_ => k_ ≠ gb473)) k_ ∧ some k_ ≠ (u7 : Value).ownBlock) (Kd.R_types (Kd.R_apart' (HO477.out) (Kd.S_typed HO_7.out) (by decide)) BK473.out (by decide)) (fun k_ hk => ⟨hk.2, hk.1.2⟩))) (fun _ h_ => h_))); (case aB => exact HB.out); (case aF => exact (fun k_ hk => Kd.freshB (g := gb473) (o := .cells #[.int .i32 ((rd_T82 l0 x13_1).f0.f0), .int .u32 ((rd_T82 l0 x13_1).f0.f1), .slice Ao16 t474.length co16] 47 (0, 0)) BK473.out k_ hk)); (case aO => exact (by (with_reducible repeat (first | apply Kd.S_alloc | apply Kd.S_drewN | apply Kd.S_drew)); exact Kd.S_mono HO_7.out (fun k_ hk => ⟨hk.2, fun e_ => hk.1 e_⟩))); (case aS => exact (bsz HB)); (case aL => have := LMc8.out; omega); intro v479 w20 ho hb hg hat; rw [← Ny478.out] at ho; have n0_ := aM (blk_grown (g := gb472) (o := .cells #[.int .i32 ((rd_T82 l0 x13_1).f0.f0), .int .u32 ((rd_T82 l0 x13_1).f0.f1), .slice A471_2 ((rd_T82 l0 x13_1).f0.f2).length c471_2, .slice A471_3 ((rd_T82 l0 x13_1).f1).length c471_3] 82 (0, 0)) BK472.out hg (Kd.S_ne HO_7.out BK472.out (by decide))); have n1_ := aM (blk_grown (g := gb473) (o := .cells #[.int .i32 ((rd_T82 l0 x13_1).f0.f0), .int .u32 ((rd_T82 l0 x13_1).f0.f1), .slice Ao16 t474.length co16] 47 (0, 0)) BK473.out hg (Kd.S_away HO_7.out (fun _ hk => hk.2))); have n2_ := aM (hb); have n3_ := aM (ho); clear BK472; clear BK473; clear HB; clear HO_7; clear HO477; have BK472 := n0_; have BK473 := n1_; have HB := n2_; have HO480 := n3_; clear n0_ n1_ n2_ n3_; clear ho hb hg hat))
    go_roundg k1
    case measure => have := HK1.out; omega
    case rel => exact ⟨(y478), (wrap64 (x13_1 + 1)), rfl, H', ⟨by have := HK1.out; omega⟩, ⟨by exact Kd.S_mono HO480.out (fun _ hk => trivial)⟩, HB⟩
   ·
    rw [if_neg c4] at H; have c4b0 : decide (x13_1 < (l0.length : Int)) = false := dF c4; clear c4; obtain rfl := oI H
    go_wp2
    go_ret
    exact ⟨_, rfl, HO_7.out, HB.out⟩

def F16.f (k : Nat) (l0 : List (S75)) : Option ((List (S47))) := if 0 < (l0.length : Int) then ((F43.f k ((rd_T75 l0 0).f1) ((rd_T75 l0 0).f0.f2) ((rd_T75 l0 0).f0.f0)).bind fun t484 => (some t484)) else (none)
theorem F16.mono : ∀ a0 k, LeO (F16.f k a0) (F16.f (k + 1) a0) := by
 intro a0 k; unfold F16.f
 repeat' with_reducible first | exact F43.mono _ _ _ _ | exact LeO.refl _ | exact LeO.none _ | refine LeO.ite ?_ ?_ | refine LeO.bind ?_ (fun _ => ?_)
def F16.T1 : Bool × List (List Nat × List Nat) := (true, [([], []), ([0], [0]), ([1], [1]), ([2], [2]), ([], []), ([4], [4]), ([5], [5]), ([6], [6]), ([7], [7]), ([], []), ([9], [9]), ([10], [10]), ([11], [11]), ([12], [12]), ([3, 8, 13], [3, 8, 13]), ([14, 14, 0, 1, 2, 3, 4, 5, 6, 7, 8, 9, 10, 11, 12, 13, 14], [14])])
def F16.B1 : List Nat := [0, 1, 3, 7, 0, 16, 48, 112, 240, 0, 512, 1536, 3584, 7680, 16383, 32767]
theorem F16.tab1 : rtab .any (opsOf Try.f16 1) = F16.T1 := by kernel_rfl
theorem F16.bits1 : waitsOk F16.T1.2 F16.B1 = true := by kernel_rfl
theorem F16.calls (k : Nat) (A0 : Option Addr) (c0 : Nat) (l0 : List (S75)) (r : List (S47)) (w : World) (hr0 : Kd.C k75 w A0 l0.length l0) (hc0 : l0.length ≤ c0) (h : F16.f k l0 = some r) :
  Calls Try.prog 16 #[asPtr (.slice A0 l0.length c0)] w fun e w' => ∃ v0_ : Value, e = .returned (v0_) ∧ Kd.S k47 47 w' w.heap.size (fun _ => True) v0_ r ∧ Below w.heap.size w w' := by
 have HR0 := aM hr0; have HC0 := aM hc0; clear hr0 hc0; have HB := aM (Below.refl w.heap.size w); have H := h; clear h; unfold F16.f at H; obtain ⟨c2, H⟩ := ifp H; have c2b0 : decide (0 < (l0.length : Int)) = true := dT c2; have c2b1 : decide (0 < l0.length) = true := dT (by omega); clear c2; obtain ⟨t484, A3, H⟩ := bnd H; obtain rfl := oI H
 go_enter Try.func16, Try.ntmps16
 try go_wp2
 replace HB := aM (below_drew1 HB.out); have p481 : 0 ≤ (0 : Int) := (by omega); have q481 : 0 < (l0.length : Int) := oD; obtain ⟨ad481, A481_7, c481_7, A481_8, c481_8, e481, _, _, _, _, _, _, _, hx481_7, _, hl481_7, hi481_7, _, _⟩ := at_T75 HR0.out 0 p481 q481; have hw481_7 := hx481_7; (try rw [show ((0 : Int)).toNat = 0 from rfl] at hw481_7); (try rw [show 0 * 9 = 0 from rfl] at hw481_7); (try rw [Addr.add_zero'] at hw481_7)
 cases e481
 have qi481 : (0 < l0.length) = True := eq_true (by omega); (try rw [show ((0 : Int)).toNat = 0 from rfl] at hx481_7); (try rw [show 0 * 9 = 0 from rfl] at hx481_7); (try rw [Addr.add_zero'] at hx481_7); replace hx481_7 := cU HB hx481_7; have HR481_7 := aM hi481_7; have HC481_7 := aM hl481_7; clear hi481_7 hl481_7; replace p481 := eq_true p481; replace q481 := eq_true q481; have hP481 : asPtr (.slice (some ad481) l0.length c0) = .pointer (some ad481) := asPtr_some oD; have p482 : 0 ≤ (0 : Int) := (by omega); have q482 : 0 < (l0.length : Int) := oD; obtain ⟨ad482, A482_7, c482_7, A482_8, c482_8, e482, _, _, hx482_2, _, _, _, _, _, _, _, _, _, _⟩ := at_T75 HR0.out 0 p482 q482; have hw482_2 := hx482_2; (try rw [show ((0 : Int)).toNat = 0 from rfl] at hw482_2); (try rw [show 0 * 9 = 0 from rfl] at hw482_2); (try rw [Addr.add_zero'] at hw482_2); obtain rfl : ad481 = ad482 := (by injection e482); have qi482 : (0 < l0.length) = True := eq_true (by omega); (try rw [show ((0 : Int)).toNat = 0 from rfl] at hx482_2); (try rw [show 0 * 9 = 0 from rfl] at hx482_2); (try rw [Addr.add_zero'] at hx482_2); replace hx482_2 := cU HB hx482_2; replace p482 := eq_true p482; replace q482 := eq_true q482; have hP482 : asPtr (.slice (some ad481) l0.length c0) = .pointer (some ad481) := asPtr_some oD; have p483 : 0 ≤ (0 : Int) := (by omega); have q483 : 0 < (l0.length : Int) := oD; obtain ⟨ad483, A483_7, c483_7, A483_8, c483_8, e483, hx483_0, _, _, _, _, _, _, _, _, _, _, _, _⟩ := at_T75 HR0.out 0 p483 q483; have hw483_0 := hx483_0; (try rw [show ((0 : Int)).toNat = 0 from rfl] at hw483_0); (try rw [show 0 * 9 = 0 from rfl] at hw483_0); (try rw [Addr.add_zero'] at hw483_0); obtain rfl : ad481 = ad483 := (by injection e483); have qi483 : (0 < l0.length) = True := eq_true (by omega); (try rw [show ((0 : Int)).toNat = 0 from rfl] at hx483_0); (try rw [show 0 * 9 = 0 from rfl] at hx483_0); (try rw [Addr.add_zero'] at hx483_0); replace hx483_0 := cU HB hx483_0; replace p483 := eq_true p483; replace q483 := eq_true q483; have hP483 : asPtr (.slice (some ad481) l0.length c0) = .pointer (some ad481) := asPtr_some oD
 refine start_ (n := 16) (S := fun w' => w'.cell? ⟨ad481.block, ad481.off + 7, none⟩ = some (.slice A481_7 ((rd_T75 l0 0).f1).length c481_7) ∧ w'.cell? ⟨ad481.block, ad481.off + 2, none⟩ = some (.int .i64 ((rd_T75 l0 0).f0.f2)) ∧ w'.cell? ad481 = some (.int .i64 ((rd_T75 l0 0).f0.f0))) (ds := []) (bA 16 0) (by kernel_rfl) rfl (by kernel_rfl) ⟨(cU HB hw481_7 :), (cU HB hw482_2 :), (cU HB hw483_0 :)⟩ (fun hHeld => ?_); refine with_tabW F16.tab1 F16.bits1 (fun HT_ HW_ => ?_)
 generalize w.drew = w4 at HB HR481_7 hx481_7 hx482_2 hx483_0 hHeld ⊢
 refine pT 16 0 3 1 HT_ (h := ?_)
 refine pT 16 1 4 3 HT_ (h := ?_)
 refine pT 16 2 5 7 HT_ (h := ?_)
 refine pT 16 4 7 23 HT_ (h := ?_)
 refine pT 16 5 8 55 HT_ (h := ?_)
 refine pT 16 6 9 119 HT_ (h := ?_)
 refine pT 16 7 10 247 HT_ (h := ?_)
 refine pT 16 9 12 759 HT_ (h := ?_)
 refine pT 16 10 13 1783 HT_ (h := ?_)
 refine pT 16 11 14 3831 HT_ (h := ?_)
 refine pT 16 12 15 7927 HT_ (h := ?_)
 refine tT 16 3 6 7935 HT_ HW_ hHeld (h := ?_)
 refine tT 16 8 11 8191 HT_ HW_ hHeld (h := ?_)
 refine tT 16 13 16 16383 HT_ HW_ hHeld (h := ?_)
 refine one_ (i := 14) (N := some 17) (bA 16 32767) rfl rfl (one_of HT_.out (by kernel_rfl)) (by decide) (fun K hK => ?_)
 refine gA Try.func43 #[.slice A481_7 ((rd_T75 l0 0).f1).length c481_7, .int .i64 ((rd_T75 l0 0).f0.f2), .int .i64 ((rd_T75 l0 0).f0.f0)] (h := ?_)
 with_reducible refine (F43.calls k _ _ ((rd_T75 l0 0).f1) ((rd_T75 l0 0).f0.f2) ((rd_T75 l0 0).f0.f0) t484 _ ?side1 ?side2 A3.out).mono ?_
 (case side1 => with_reducible exact (Kd.C_below HR481_7.out HB.out)); (case side2 => exact HC481_7.out); rintro e w5 ⟨v485, rfl, ho0, hb⟩
 refine ⟨_, rfl, ?_⟩
 have HO486 := aM (Kd.S_lower ho0 (below_size bZ)); replace HB := aM (below_step bZ hb); (try clear hb); (try clear hb2); (try clear hk); (try clear hi); (try clear ho0)
 refine hK.out _ _ ⟨(cU HB hw481_7 :), (cU HB hw482_2 :), (cU HB hw483_0 :)⟩ (fun hHeld => ?_)
 clear hK K
 refine nT 17 (h := ?_)
 refine pT 16 15 2 65535 HT_ (h := ?_)
 refine done_ (done_of HT_.out (by kernel_rfl)) ?_
 try go_wp2
 go_ret
 exact ⟨_, rfl, HO486.out, HB.out⟩

def F17.f (k : Nat) (l0 : List (S75)) : Option ((List (S47))) := if 0 < (l0.length : Int) then ((F43.f k ((rd_T75 l0 0).f2) ((rd_T75 l0 0).f0.f3) ((rd_T75 l0 0).f0.f1)).bind fun t490 => (some t490)) else (none)
theorem F17.mono : ∀ a0 k, LeO (F17.f k a0) (F17.f (k + 1) a0) := by
 intro a0 k; unfold F17.f
 repeat' with_reducible first | exact F43.mono _ _ _ _ | exact LeO.refl _ | exact LeO.none _ | refine LeO.ite ?_ ?_ | refine LeO.bind ?_ (fun _ => ?_)
def F17.T1 : Bool × List (List Nat × List Nat) := (true, [([], []), ([0], [0]), ([1], [1]), ([2], [2]), ([], []), ([4], [4]), ([5], [5]), ([6], [6]), ([7], [7]), ([], []), ([9], [9]), ([10], [10]), ([11], [11]), ([12], [12]), ([3, 8, 13], [3, 8, 13]), ([14, 14, 0, 1, 2, 3, 4, 5, 6, 7, 8, 9, 10, 11, 12, 13, 14], [14])])
def F17.B1 : List Nat := [0, 1, 3, 7, 0, 16, 48, 112, 240, 0, 512, 1536, 3584, 7680, 16383, 32767]
theorem F17.tab1 : rtab .any (opsOf Try.f17 1) = F17.T1 := by kernel_rfl
theorem F17.bits1 : waitsOk F17.T1.2 F17.B1 = true := by kernel_rfl
theorem F17.calls (k : Nat) (A0 : Option Addr) (c0 : Nat) (l0 : List (S75)) (r : List (S47)) (w : World) (hr0 : Kd.C k75 w A0 l0.length l0) (hc0 : l0.length ≤ c0) (h : F17.f k l0 = some r) :
  Calls Try.prog 17 #[asPtr (.slice A0 l0.length c0)] w fun e w' => ∃ v0_ : Value, e = .returned (v0_) ∧ Kd.S k47 47 w' w.heap.size (fun _ => True) v0_ r ∧ Below w.heap.size w w' := by
 have HR0 := aM hr0; have HC0 := aM hc0; clear hr0 hc0; have HB := aM (Below.refl w.heap.size w); have H := h; clear h; unfold F17.f at H; obtain ⟨c2, H⟩ := ifp H; have c2b0 : decide (0 < (l0.length : Int)) = true := dT c2; have c2b1 : decide (0 < l0.length) = true := dT (by omega); clear c2; obtain ⟨t490, A3, H⟩ := bnd H; obtain rfl := oI H
 go_enter Try.func17, Try.ntmps17
 try go_wp2
 replace HB := aM (below_drew1 HB.out); have p487 : 0 ≤ (0 : Int) := (by omega); have q487 : 0 < (l0.length : Int) := oD; obtain ⟨ad487, A487_7, c487_7, A487_8, c487_8, e487, _, _, _, _, _, _, _, _, hx487_8, _, _, hl487_8, hi487_8⟩ := at_T75 HR0.out 0 p487 q487; have hw487_8 := hx487_8; (try rw [show ((0 : Int)).toNat = 0 from rfl] at hw487_8); (try rw [show 0 * 9 = 0 from rfl] at hw487_8); (try rw [Addr.add_zero'] at hw487_8)
 cases e487
 have qi487 : (0 < l0.length) = True := eq_true (by omega); (try rw [show ((0 : Int)).toNat = 0 from rfl] at hx487_8); (try rw [show 0 * 9 = 0 from rfl] at hx487_8); (try rw [Addr.add_zero'] at hx487_8); replace hx487_8 := cU HB hx487_8; have HR487_8 := aM hi487_8; have HC487_8 := aM hl487_8; clear hi487_8 hl487_8; replace p487 := eq_true p487; replace q487 := eq_true q487; have hP487 : asPtr (.slice (some ad487) l0.length c0) = .pointer (some ad487) := asPtr_some oD; have p488 : 0 ≤ (0 : Int) := (by omega); have q488 : 0 < (l0.length : Int) := oD; obtain ⟨ad488, A488_7, c488_7, A488_8, c488_8, e488, _, _, _, hx488_3, _, _, _, _, _, _, _, _, _⟩ := at_T75 HR0.out 0 p488 q488; have hw488_3 := hx488_3; (try rw [show ((0 : Int)).toNat = 0 from rfl] at hw488_3); (try rw [show 0 * 9 = 0 from rfl] at hw488_3); (try rw [Addr.add_zero'] at hw488_3); obtain rfl : ad487 = ad488 := (by injection e488); have qi488 : (0 < l0.length) = True := eq_true (by omega); (try rw [show ((0 : Int)).toNat = 0 from rfl] at hx488_3); (try rw [show 0 * 9 = 0 from rfl] at hx488_3); (try rw [Addr.add_zero'] at hx488_3); replace hx488_3 := cU HB hx488_3; replace p488 := eq_true p488; replace q488 := eq_true q488; have hP488 : asPtr (.slice (some ad487) l0.length c0) = .pointer (some ad487) := asPtr_some oD; have p489 : 0 ≤ (0 : Int) := (by omega); have q489 : 0 < (l0.length : Int) := oD; obtain ⟨ad489, A489_7, c489_7, A489_8, c489_8, e489, _, hx489_1, _, _, _, _, _, _, _, _, _, _, _⟩ := at_T75 HR0.out 0 p489 q489; have hw489_1 := hx489_1; (try rw [show ((0 : Int)).toNat = 0 from rfl] at hw489_1); (try rw [show 0 * 9 = 0 from rfl] at hw489_1); (try rw [Addr.add_zero'] at hw489_1); obtain rfl : ad487 = ad489 := (by injection e489); have qi489 : (0 < l0.length) = True := eq_true (by omega); (try rw [show ((0 : Int)).toNat = 0 from rfl] at hx489_1); (try rw [show 0 * 9 = 0 from rfl] at hx489_1); (try rw [Addr.add_zero'] at hx489_1); replace hx489_1 := cU HB hx489_1; replace p489 := eq_true p489; replace q489 := eq_true q489; have hP489 : asPtr (.slice (some ad487) l0.length c0) = .pointer (some ad487) := asPtr_some oD
 refine start_ (n := 16) (S := fun w' => w'.cell? ⟨ad487.block, ad487.off + 8, none⟩ = some (.slice A487_8 ((rd_T75 l0 0).f2).length c487_8) ∧ w'.cell? ⟨ad487.block, ad487.off + 3, none⟩ = some (.int .i64 ((rd_T75 l0 0).f0.f3)) ∧ w'.cell? ⟨ad487.block, ad487.off + 1, none⟩ = some (.int .i64 ((rd_T75 l0 0).f0.f1))) (ds := []) (bA 16 0) (by kernel_rfl) rfl (by kernel_rfl) ⟨(cU HB hw487_8 :), (cU HB hw488_3 :), (cU HB hw489_1 :)⟩ (fun hHeld => ?_); refine with_tabW F17.tab1 F17.bits1 (fun HT_ HW_ => ?_)
 generalize w.drew = w4 at HB HR487_8 hx487_8 hx488_3 hx489_1 hHeld ⊢
 refine pT 16 0 3 1 HT_ (h := ?_)
 refine pT 16 1 4 3 HT_ (h := ?_)
 refine pT 16 2 5 7 HT_ (h := ?_)
 refine pT 16 4 7 23 HT_ (h := ?_)
 refine pT 16 5 8 55 HT_ (h := ?_)
 refine pT 16 6 9 119 HT_ (h := ?_)
 refine pT 16 7 10 247 HT_ (h := ?_)
 refine pT 16 9 12 759 HT_ (h := ?_)
 refine pT 16 10 13 1783 HT_ (h := ?_)
 refine pT 16 11 14 3831 HT_ (h := ?_)
 refine pT 16 12 15 7927 HT_ (h := ?_)
 refine tT 16 3 6 7935 HT_ HW_ hHeld (h := ?_)
 refine tT 16 8 11 8191 HT_ HW_ hHeld (h := ?_)
 refine tT 16 13 16 16383 HT_ HW_ hHeld (h := ?_)
 refine one_ (i := 14) (N := some 17) (bA 16 32767) rfl rfl (one_of HT_.out (by kernel_rfl)) (by decide) (fun K hK => ?_)
 refine gA Try.func43 #[.slice A487_8 ((rd_T75 l0 0).f2).length c487_8, .int .i64 ((rd_T75 l0 0).f0.f3), .int .i64 ((rd_T75 l0 0).f0.f1)] (h := ?_)
 with_reducible refine (F43.calls k _ _ ((rd_T75 l0 0).f2) ((rd_T75 l0 0).f0.f3) ((rd_T75 l0 0).f0.f1) t490 _ ?side1 ?side2 A3.out).mono ?_
 (case side1 => with_reducible exact (Kd.C_below HR487_8.out HB.out)); (case side2 => exact HC487_8.out); rintro e w5 ⟨v491, rfl, ho0, hb⟩
 refine ⟨_, rfl, ?_⟩
 have HO492 := aM (Kd.S_lower ho0 (below_size bZ)); replace HB := aM (below_step bZ hb); (try clear hb); (try clear hb2); (try clear hk); (try clear hi); (try clear ho0)
 refine hK.out _ _ ⟨(cU HB hw487_8 :), (cU HB hw488_3 :), (cU HB hw489_1 :)⟩ (fun hHeld => ?_)
 clear hK K
 refine nT 17 (h := ?_)
 refine pT 16 15 2 65535 HT_ (h := ?_)
 refine done_ (done_of HT_.out (by kernel_rfl)) ?_
 try go_wp2
 go_ret
 exact ⟨_, rfl, HO492.out, HB.out⟩

end Go.Proofs.Ytekenaclmplocaa.PPageNew
