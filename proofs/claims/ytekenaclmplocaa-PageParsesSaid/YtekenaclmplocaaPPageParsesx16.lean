-- Written by a program of this session (wip/tools/mkprint.py over the kit's print).
import Derived.Test.YtekenaclmplocaaPPageParsesx0
import Derived.Test.YtekenaclmplocaaPPageParsesx12
namespace Go.Proofs.Ytekenaclmplocaa.PPageParses
open Go.RowKit Go.Proofs.YtekenaclmplocaaW.PrintWords Go.Proofs.YtekenaclmplocaaW.PrintLast Go.Proofs.YtekenaclmplocaaW.PrintMore
attribute [local go_sem] max2_int min2_int max_two min_two max_three min_three max_four min_four
set_option linter.unusedVariables false
set_option maxHeartbeats 8000000
set_option maxRecDepth 100000
set_option linter.unusedSimpArgs false

mutual
def F20000063.l0 : Nat → List (S75) → List (List Int) → Int → Int → Option ((List (List Int)))
 | 0, _, _, _, _ => none
 | k + 1, x0, x5, x15, x16 => if x16 < x15 then (if 0 < (x0.length : Int) then (F20000063.l1 k x0 x5 x16 x15 x16 ((rd_T75 x0 0).f0.f3) 0) else (none)) else (some x5)
def F20000063.l1 : Nat → List (S75) → List (List Int) → Int → Int → Int → Int → Int → Option ((List (List Int)))
 | 0, _, _, _, _, _, _, _ => none
 | k + 1, x0, x5, x6, x15, x16, x23, x24 => if x24 < x23 then (if 0 ≤ x6 then (if x6 < (x5.length : Int) then ((F19.f x0 x6 x24).bind fun t478 => (if (rd_L13 x5 x6).length < 35184372088832 then (F20000063.l1 k x0 (x5.set (x6 : Int).toNat ((rd_L13 x5 x6) ++ [t478])) x6 x15 x16 x23 (wrap64 (x24 + 1))) else (none))) else (none)) else (none)) else (F20000063.l0 k x0 x5 x15 (wrap64 (x16 + 1)))
end
def F20000063.f (k : Nat) (l0 : List (S75))  : Option ((List (List Int))) := if 0 < (l0.length : Int) then (if 0 ≤ ((rd_T75 l0 0).f0.f2) then (if ((rd_T75 l0 0).f0.f2 : Int).toNat ≤ 11728124029610 then ((some (List.replicate ((rd_T75 l0 0).f0.f2 : Int).toNat [] : List (List Int))).bind fun y473 => (F20000063.l0 k l0 y473 (y473.length : Int) 0)) else (none)) else (none)) else (none)
theorem F20000063.mono_l : ∀ k, (∀ y0 y1 y2 y3, LeO (F20000063.l0 k y0 y1 y2 y3) (F20000063.l0 (k + 1) y0 y1 y2 y3)) ∧ (∀ y0 y1 y2 y3 y4 y5 y6, LeO (F20000063.l1 k y0 y1 y2 y3 y4 y5 y6) (F20000063.l1 (k + 1) y0 y1 y2 y3 y4 y5 y6))
 | 0 => ⟨fun _ _ _ _ r h => by simp [F20000063.l0] at h, fun _ _ _ _ _ _ _ r h => by simp [F20000063.l1] at h⟩
 | k + 1 => by
  obtain ⟨ih0, ih1⟩ := F20000063.mono_l k
  refine ⟨?_, ?_⟩
  all_goals intros
  all_goals first | unfold F20000063.l0 | unfold F20000063.l1
  all_goals repeat' with_reducible first | exact ih0 _ _ _ _ | exact ih1 _ _ _ _ _ _ _ | exact LeO.refl _ | exact LeO.none _ | refine LeO.ite ?_ ?_ | refine LeO.bind ?_ (fun _ => ?_)
theorem F20000063.mono : ∀ a0 k, LeO (F20000063.f k a0) (F20000063.f (k + 1) a0) := by
 intro a0 k; obtain ⟨ih0, ih1⟩ := F20000063.mono_l k; unfold F20000063.f
 repeat' with_reducible first | exact ih0 _ _ _ _ | exact ih1 _ _ _ _ _ _ _ | exact LeO.refl _ | exact LeO.none _ | refine LeO.ite ?_ ?_ | refine LeO.bind ?_ (fun _ => ?_)
def F20000063.T8 : Bool × List (List Nat × List Nat) := (true, [([], []), ([], []), ([], []), ([], []), ([2, 3], [2, 3]), ([4], [4]), ([], []), ([], []), ([], []), ([6, 7, 8], [6, 7, 8]), ([9], [9]), ([5, 10, 9], [5, 10]), ([0, 1, 0, 1, 2, 3, 4, 5, 6, 7, 8, 9, 10, 11], [0, 1]), ([12, 11, 11, 0, 1, 2, 3, 4, 5, 6, 7, 8, 9, 10, 11], [11, 12])])
def F20000063.B8 : List Nat := [0, 0, 0, 0, 12, 28, 0, 0, 0, 448, 960, 2044, 4095, 8191]
theorem F20000063.tab8 : rtab .any (opsOf Try.f63 8) = F20000063.T8 := by kernel_rfl
theorem F20000063.bits8 : waitsOk F20000063.T8.2 F20000063.B8 = true := by kernel_rfl
theorem F20000063.calls (k : Nat) (A0 : Option Addr) (c0 : Nat) (l0 : List (S75))  (r : List (List Int)) (w : World) (hr0 : Kd.C k75 w A0 l0.length l0) (hc0 : l0.length ≤ c0) (h : F20000063.f k l0 = some r) :
  Calls Try.prog 63 #[asPtr (.slice A0 l0.length c0), .func (.func 19) #[asPtr (.slice A0 l0.length c0)] #[]] w fun e w' => ∃ v0_ : Value, e = .returned (v0_) ∧ Kd.S (Kd.slice 21 (Kd.int .i32)) 43 w' w.heap.size (fun _ => True) v0_ r ∧ Below w.heap.size w w' := by
 have HR0 := aM hr0; have HC0 := aM hc0; clear hr0 hc0; have HB := aM (Below.refl w.heap.size w); have H := h; clear h; unfold F20000063.f at H; obtain ⟨c3, H⟩ := ifp H; have c3b0 : decide (0 < (l0.length : Int)) = true := dT c3; have c3b1 : decide (0 < l0.length) = true := dT (by omega); clear c3; obtain ⟨c4, H⟩ := ifp H; have c4b0 := eq_true c4; have c4b1 : decide (0 ≤ ((rd_T75 l0 0).f0.f2)) = true := dT c4; clear c4; obtain ⟨c5, H⟩ := ifp H; have c5b0 := eq_true c5; have c5b1 : decide (((rd_T75 l0 0).f0.f2 : Int).toNat ≤ 11728124029610) = true := dT c5; clear c5; obtain ⟨y473, hy473⟩ : ∃ y_ : List (List Int), y_ = (List.replicate ((rd_T75 l0 0).f0.f2 : Int).toNat []) := ⟨_, rfl⟩; (replace H : (F20000063.l0 k l0 y473 (y473.length : Int) 0) = some r := by rw [hy473]; exact H); have Ny473 := aM hy473; clear hy473; have H' := aM H; clear H; have p472 : 0 ≤ (0 : Int) := (by omega); have q472 : 0 < (l0.length : Int) := oD; obtain ⟨ad472, A472_7, c472_7, A472_8, c472_8, e472, _, _, hx472_2, _, _, _, _, _, _, _, _, _, _⟩ := at_T75 HR0.out 0 p472 q472
 cases e472
 have qi472 : (0 < l0.length) = True := eq_true (by omega); (try rw [show ((0 : Int)).toNat = 0 from rfl] at hx472_2); (try rw [show 0 * 9 = 0 from rfl] at hx472_2); (try rw [Addr.add_zero'] at hx472_2); replace p472 := eq_true p472; replace q472 := eq_true q472; have hP472 : asPtr (.slice (some ad472) l0.length c0) = .pointer (some ad472) := asPtr_some oD
 go_enter Try.func63, Try.ntmps63
 go_wp2_with (first | ((with_reducible refine gate_dst (N := 13) rfl ?_); refine Kd.S_make (Kd.slice 21 (Kd.int .i32)) _ 43 rfl (N := 13) rfl 24 _ _ rfl ((rd_T75 l0 0).f0.f2) rfl rfl Try.underlying24 (.slice none 0 0) 24 info43 rfl (by decide) (by omega) [] (ok := fun _ => True) (okp := fun _ => True) ⟨_, rfl, Kd.R_nil _ _ _ _ _⟩ (fun _ hk => hk) trivial oD (Nat.le_trans (Nat.mul_le_mul_right _ (oD : ((rd_T75 l0 0).f0.f2).toNat ≤ 11728124029610)) (by omega)) (Below.refl _ _) (Nat.le_refl _) ?_; intro v474 w6 ho7 hb hg_ hnew_; clear hg_ hnew_; (first | rw [← Ny473.out] at ho7 | (simp only [Int.reduceToNat] at ho7; rw [← Ny473.out] at ho7)); have HO475 := aM (Kd.S_lower ho7 (bsz HB)); replace HB := bst HB hb; clear hb ho7; obtain ⟨Ao8, co8, eo8⟩ := Kd.S_slice HO475.out; subst eo8))
 go_loopg [16] k (fun kq v16 w' => ∃ (x5_1 : List (List Int)) (x16_1 : Int), v16 = .int .i64 x16_1 ∧ Aside0 (F20000063.l0 kq l0 x5_1 (y473.length : Int) x16_1 = some r) ∧ Aside0 (kq ≤ k) ∧ Aside0 (Kd.S (Kd.slice 21 (Kd.int .i32)) 43 w' w.heap.size (fun _ => True) (.slice Ao8 y473.length co8) x5_1) ∧ Aside0 (Below w.heap.size w w'))
 case atStart => exact ⟨(y473), (0), rfl, H', ⟨Nat.le_refl _⟩, HO475, HB⟩
 case round =>
  clear H'; (try clear p2); (try clear c3); (try clear c3b0); (try clear c3b1); (try clear c4); (try clear c4b0); (try clear c4b1); (try clear p4); (try clear q4); (try clear hx4); (try clear qi4); (try clear c5); (try clear c5b0); (try clear c5b1); (try clear c6); (try clear hx472_2); (try clear p472); (try clear q472); obtain ⟨x5_1, x16_1, rfl, HA, HK1, HO_5, HB⟩ := hrel; have hl5_1 := (Kd.S_reads' HO_5.out).1; rw [hl5_1] at HO_5; (try simp only [hl5_1])
  cases gk with
  | zero => exact absurd HA.out (by simp [F20000063.l0])
  | succ k1 =>
   have H := HA.out; clear HA; simp only [F20000063.l0] at H
   by_cases c9 : x16_1 < (y473.length : Int)
   ·
    rw [if_pos c9] at H; have c9b0 : decide (x16_1 < (y473.length : Int)) = true := dT c9; (try simp only [hl5_1] at c9b0); clear c9; obtain ⟨c10, H⟩ := ifp H; have c10b0 : decide (0 < (l0.length : Int)) = true := dT c10; (try simp only [hl5_1] at c10b0); have c10b1 : decide (0 < l0.length) = true := dT (by omega); (try simp only [hl5_1] at c10b1); clear c10; have H' := aM H; clear H; have p476 : 0 ≤ (0 : Int) := (by omega); have q476 : 0 < (l0.length : Int) := oD; obtain ⟨ad476, A476_7, c476_7, A476_8, c476_8, e476, _, _, _, hx476_3, _, _, _, _, _, _, _, _, _⟩ := at_T75 HR0.out 0 p476 q476; obtain rfl : ad472 = ad476 := (by injection e476); have qi476 : (0 < l0.length) = True := eq_true (by omega); (try rw [show ((0 : Int)).toNat = 0 from rfl] at hx476_3); (try rw [show 0 * 9 = 0 from rfl] at hx476_3); (try rw [Addr.add_zero'] at hx476_3); replace hx476_3 := cU HB hx476_3; replace p476 := eq_true p476; replace q476 := eq_true q476; have hP476 : asPtr (.slice (some ad472) l0.length c0) = .pointer (some ad472) := asPtr_some oD
    go_wp2
    go_loopg [24] k1 (fun kq v24 w' => ∃ (x5_2 : List (List Int)) (x24_2 : Int), v24 = .int .i64 x24_2 ∧ Aside0 (F20000063.l1 kq l0 x5_2 x16_1 (y473.length : Int) x16_1 ((rd_T75 l0 0).f0.f3) x24_2 = some r) ∧ Aside0 (kq ≤ k1) ∧ Aside0 (Kd.S (Kd.slice 21 (Kd.int .i32)) 43 w' w.heap.size (fun _ => True) (.slice Ao8 x5_1.length co8) x5_2) ∧ Aside0 (Below w.heap.size w w'))
    case atStart => exact ⟨(x5_1), (0), rfl, H', ⟨Nat.le_refl _⟩, ⟨by (try simp only [hl5_1]); exact HO_5.out⟩, HB⟩
    case round =>
     clear H'; (try clear c1); (try clear p2); (try clear c3); (try clear c3b0); (try clear c3b1); (try clear c4); (try clear c4b0); (try clear c4b1); (try clear p4); (try clear q4); (try clear hx4); (try clear qi4); (try clear c5); (try clear c5b0); (try clear c5b1); (try clear c6); (try clear c9); (try clear c9b0); (try clear c10); (try clear c10b0); (try clear c10b1); (try clear hx472_2); (try clear hx476_3); (try clear p2); (try clear p4); (try clear p472); (try clear p476); (try clear q4); (try clear q472); (try clear q476); obtain ⟨x5_2, x24_2, rfl, HA, HK2, HO_5, HB⟩ := hrel; have hl5_2 := (Kd.S_reads' HO_5.out).1; rw [hl5_2] at HO_5; (try simp only [hl5_2])
     cases gk with
     | zero => exact absurd HA.out (by simp [F20000063.l1])
     | succ k2 =>
      have H := HA.out; clear HA; simp only [F20000063.l1] at H
      by_cases c11 : x24_2 < ((rd_T75 l0 0).f0.f3)
      ·
       rw [if_pos c11] at H; have c11b0 : decide (x24_2 < ((rd_T75 l0 0).f0.f3)) = true := dT c11; clear c11; obtain ⟨c12, H⟩ := ifp H; have c12b0 : decide (0 ≤ x16_1) = true := dT c12; clear c12; obtain ⟨c13, H⟩ := ifp H; have c13b0 : decide (x16_1 < (x5_2.length : Int)) = true := dT c13; (try simp only [hl5_1] at c13b0); (try simp only [hl5_2] at c13b0); clear c13; obtain ⟨t478, A14, H⟩ := bnd H; obtain ⟨c15, H⟩ := ifp H; have LMc15 := aM c15; clear c15; obtain ⟨y479, hy479⟩ : ∃ y_ : List Int, y_ = ((rd_L13 x5_2 x16_1) ++ [t478]) := ⟨_, rfl⟩; (replace H : (F20000063.l1 k2 l0 (x5_2.set (x16_1 : Int).toNat y479) x16_1 (y473.length : Int) x16_1 ((rd_T75 l0 0).f0.f3) (wrap64 (x24_2 + 1))) = some r := by rw [hy479]; exact H); have Ny479 := aM hy479; clear hy479; obtain ⟨y482, hy482⟩ : ∃ y_ : List (List Int), y_ = (x5_2.set (x16_1 : Int).toNat y479) := ⟨_, rfl⟩; (replace H : (F20000063.l1 k2 l0 y482 x16_1 (y473.length : Int) x16_1 ((rd_T75 l0 0).f0.f3) (wrap64 (x24_2 + 1))) = some r := by rw [hy482]; exact H); have Ny482 := aM hy482; clear hy482; have H' := aM H; clear H
       try go_wp2
       replace HO_5 := aM (Kd.S_drew HO_5.out); replace HB := aM (below_drew1 HB.out); have p477 : 0 ≤ (x16_1 : Int) := oD; have q477 : x16_1 < (x5_2.length : Int) := oD; obtain ⟨ad477, A477_0, c477_0, e477, hx477_0, hl477_0, hi477_0⟩ := at_L13 (Kd.S_reads' HO_5.out).2.2 x16_1 p477 q477
       cases e477
       obtain ⟨ce477, hce477, hMe477, hcc477⟩ := Kd.S_get HO_5.out [] x16_1 p477 (by first | exact q477 | exact oD | (have e_ := (Kd.S_reads' HO_5.out).1; omega)); obtain ⟨ve477_0, rfl, ge477_0⟩ := hMe477; have hv477_0 := hcc477 0 _ rfl; rw [Nat.add_zero, show ((Kd.slice 21 (Kd.int .i32))).sz = 1 from rfl, Nat.mul_one] at hv477_0; replace hv477_0 := oI (hv477_0.symm.trans hx477_0); rw [hv477_0] at ge477_0; have HL477_0 := aM (show Kd.R (Kd.int .i32) 21 _ _ _ _ (rd_L13 x5_2 x16_1) from ge477_0); clear hv477_0 ge477_0; have HX477_0 := aM hx477_0; clear hcc477 hce477; have HR477_0 := aM hi477_0; have HC477_0 := aM hl477_0; clear hi477_0 hl477_0; replace p477 := eq_true p477; replace q477 := eq_true q477
       refine start_ (n := 14) (S := fun w' => w'.cell? (ad477.add (x16_1).toNat) = some (.slice A477_0 (rd_L13 x5_2 x16_1).length c477_0)) (ds := [13]) (bA 14 0) (by kernel_rfl) rfl (by kernel_rfl) (hx477_0) (fun hHeld => ?_); refine with_tabW F20000063.tab8 F20000063.bits8 (fun HT_ HW_ => ?_)
       generalize wr.drew = w17 at HO_5 HB HL477_0 HR477_0 HX477_0 hx477_0 hHeld ⊢
       refine pT 14 0 27 1 HT_ (h := ?_)
       refine pT 14 1 28 3 HT_ (h := ?_)
       refine pT 14 2 29 7 HT_ (h := ?_)
       refine pT 14 3 30 15 HT_ (h := ?_)
       refine pT 14 4 31 31 HT_ (h := ?_)
       refine pT 14 6 33 95 HT_ (h := ?_)
       refine pT 14 7 34 223 HT_ (h := ?_)
       refine pT 14 8 35 479 HT_ (h := ?_)
       refine tT 14 5 32 511 HT_ HW_ hHeld (h := ?_)
       refine one_ (i := 9) (N := some 36) (bA 14 1023) rfl rfl (one_of HT_.out (by kernel_rfl)) (by decide) (fun K hK => ?_)
       refine goesB_ Try.func19 (by kernel_rfl) rfl #[asPtr (.slice (some ad472) l0.length c0), .int .i64 x16_1, .int .i64 x24_2] (by rfl) rfl rfl _ rfl (by (try simp only [List.map_toArray, List.map_cons, List.map_nil]); first | done | (rw [(by first | assumption | exact asPtr_some oD : asPtr (.slice (some ad472) l0.length c0) = .pointer (some ad472))] <;> rfl) | rfl | (simp only [List.length_drop, List.length_take]; rfl)) ?_
       with_reducible refine (F19.calls _ _ l0 x16_1 x24_2 t478 _ ?side1 ?side2 A14.out).mono ?_
       (case side1 => with_reducible exact (Kd.C_below HR0.out HB.out)); (case side2 => exact HC0.out); rintro e w18 ⟨rfl, hb⟩; have HS0_ := (hb.cell (World.block_lt_of_cell? _ _ (hHeld))).trans (hHeld)
       refine ⟨_, rfl, ?_⟩
       replace HO_5 := aM (Kd.S_below (kS HO_5.out) hb); replace HL477_0 := aM (Kd.R_below (kR HL477_0.out) hb); replace HR477_0 := aM (Kd.C_below (kC HR477_0.out) hb); replace HX477_0 := aM (pw_cell_below hb HX477_0.out); replace HB := aM (below_step bZ hb); (try clear hb); (try clear hb2); (try clear hk); (try clear hi); obtain ⟨go19, co19, eo19, gb19, gl19, cl19, HG19⟩ := Kd.S_form HO_5.out (by have h_ : (x16_1 : Int) < ((x5_2.length : Int) : Int) := oD; have h2_ : 0 ≤ (x16_1 : Int) := oD; omega); (first | cases eo19 | (injection eo19 with ea_ en_ ec_; (first | subst ea_ | (injection ea_ with ea_; subst ea_)); subst ec_; clear en_)); have GB19 := aM gb19; have GG19 := aM HG19; clear gb19 gl19 HG19; (first | simp only [add_plain] at hx477_0 | skip); obtain ⟨oki19, ce19, hcl19, hM19, hcc19, _, _, hH19⟩ := Kd.S_elem HO_5.out [] (x16_1 : Int) oD (by have h_ : (x16_1 : Int) < ((x5_2.length : Int) : Int) := oD; first | exact h_ | (have e_ := (Kd.S_reads' HO_5.out).1; omega) | simpa using h_); obtain ⟨ve19_0, rfl, ge19_0⟩ := hM19; have hv19 := hcc19 0 _ rfl; have hX19 := HX477_0.out; (try simp only [add_plain] at hX19); (try simp only [Nat.add_zero] at hv19); (try rw [show ((Kd.slice 21 (Kd.int .i32))).sz = 1 from rfl, Nat.mul_one] at hv19); replace hv19 := oI (hv19.symm.trans hX19); subst hv19; clear hX19 hcc19 hcl19; have UU19 := aM (show Kd.R (Kd.int .i32) 21 _ w.heap.size oki19 (.slice A477_0 (rd_L13 x5_2 x16_1).length c477_0) (rd_L13 x5_2 x16_1) from ge19_0); have HH19 := aM hH19; have HN19 := aM (Kd.S_reads' HO_5.out).1; clear hH19 ge19_0
       refine hK.out _ _ (HS0_) (fun hHeld => ?_)
       clear hK K
       refine nT 36 (h := ?_)
       refine one_ (i := 10) (N := some 37) (bA 14 2047) rfl rfl (one_of HT_.out (by kernel_rfl)) (by decide) (fun K hK => ?_)
       refine value_ (w1 := ?_) (v := ?_) (by rfl) rfl ?_ ?_
       rotate_left 2
       ·
        go_simp
        constructor
        ·
         rfl
        ·
         rfl
       refine hK.out _ _ ((World.cell?_alloc_lt _ _ _ (World.block_lt_of_cell? _ _ (hHeld))).trans (hHeld)) (fun hHeld => ?_)
       clear hK K
       refine nT 37 (h := ?_)
       refine one_ (i := 11) (N := some 38) (bA 14 4095) rfl rfl (one_of HT_.out (by kernel_rfl)) (by decide) (fun K hK => ?_)
       refine Kd.R_append_step (Kd.int .i32) (w0 := w) w.heap.size (by rfl) (.tmp 32) (.tmp 37) 43 21 (.int .i32 0) 4 rfl Try.underlying43 info21 rfl (by decide) (by omega) (.slice A477_0 (rd_L13 x5_2 x16_1).length c477_0) (rd_L13 x5_2 x16_1) t478 [.int .i32 t478] (fun k_ => oki19 k_ ∨ ((fun _ => True)) k_ ∧ w18.heap.size ≤ k_) (fun _ => False) rfl rfl ?aP (fun _ hk => hk.elim) ?aF ?aO ?aB ?aS ?aL ?_
       (case aP => exact rfl); (case aB => exact bZ); (case aF => exact (fun k_ hk => .inr ⟨trivial, hk⟩)); (case aO => exact (by (with_reducible repeat (first | apply Kd.R_alloc | apply Kd.R_drewN | apply Kd.R_drew)); exact Kd.R_mono UU19.out (fun _ hk => .inl hk))); (case aS => exact (below_size bZ)); (case aL => have := LMc15.out; omega); intro v480 w20 ho hb hg hat; (first | have HS0_ := cell_grown hg (hHeld) (by first | (rw [add_block]; exact (fun e_ => ((HL477_0.out.1 _ e_.symm).2) rfl)) | (show some (Addr.add _ _).block ≠ _; rw [add_block]; exact (fun e_ => ((HL477_0.out.1 _ e_.symm).2) rfl)) | exact (fun e_ => ((HL477_0.out.1 _ e_.symm).2) rfl)) | have HS0_ := cell_grown hg (cell_unalloc (hHeld) (by first | (rw [add_block]; exact Kd.S_lt HO_5.out _ rfl) | (show (Addr.add _ _).block < _; rw [add_block]; exact Kd.S_lt HO_5.out _ rfl) | exact Kd.S_lt HO_5.out _ rfl)) (by first | (rw [add_block]; exact (fun e_ => ((HL477_0.out.1 _ e_.symm).2) rfl)) | (show some (Addr.add _ _).block ≠ _; rw [add_block]; exact (fun e_ => ((HL477_0.out.1 _ e_.symm).2) rfl)) | exact (fun e_ => ((HL477_0.out.1 _ e_.symm).2) rfl))); rw [← Ny479.out] at ho; have n0_ := aM (hb); have n1_ := aM (Kd.H_grown (Kd.H_widen (by repeat (first | exact HH19.out | refine Kd.H_alloc ?_ _ | refine Kd.H_drewN ?_ _ | refine Kd.H_drew ?_))) hg (fun k_ e_ => .inl (UU19.out.1 k_ e_))); have n2_ := aM (ho); clear HB; clear HH19; clear HO_5; clear UU19; clear HL477_0; have HB := n0_; have HH19 := n1_; have HO481 := n2_; clear n0_ n1_ n2_; clear ho hb hg hat; have p16 : 0 ≤ (x16_1 : Int) := oD; have q16 : (x16_1 : Int) < ((x5_2.length : Int) : Int) := oD; replace p16 := eq_true p16; replace q16 := eq_true q16; obtain ⟨Ao23, co23, eo23⟩ := Kd.R_slice HO481.out; (first | subst eo23 | (injection eo23 with f1_ f2_ f3_; have f4_ := f1_.symm; have f5_ := f3_.symm; clear f1_ f2_ f3_; subst f4_; subst f5_)); obtain ⟨_, _, hraw21, _, _, hcc21, _⟩ := Kd.H_raw HH19.out oD (by have h_ : (x16_1 : Int) < ((x5_2.length : Int) : Int) := oD; first | exact h_ | (have e_ := (HN19.out); omega) | simpa using h_); obtain ⟨_, hfr21⟩ := Kd.H_at HH19.out oD (by have h_ : (x16_1 : Int) < ((x5_2.length : Int) : Int) := oD; first | exact h_ | (have e_ := (HN19.out); omega) | simpa using h_); have hx21_0 := hcc21 0 _ rfl; have hf21_0 := hfr21 0; (try simp only [Nat.add_zero] at hx21_0 hf21_0); (try rw [show ((Kd.slice 21 (Kd.int .i32))).sz = 1 from rfl, Nat.mul_one] at hx21_0); (try rw [show ((Kd.slice 21 (Kd.int .i32))).sz = 1 from rfl, Nat.mul_one] at hf21_0); have HP21 := Kd.S_seg0 HH19.out oD (by have h_ : (x16_1 : Int) < ((x5_2.length : Int) : Int) := oD; first | exact h_ | (have e_ := (HN19.out); omega) | simpa using h_) (seg := [.slice Ao23 y479.length co23]) (j := 0) (show 1 ≤ 1 from by decide) (x' := y479) (Kd.M_row HO481.out) (fun _ hk => hk); (try simp only [show ((Kd.slice 21 (Kd.int .i32))).sz = 1 from rfl, Nat.mul_one, Nat.add_zero] at HP21); clear hcc21 hfr21; have HS21 := HP21.1; rw [← Ny482.out] at HS21; have HQ21 := aM HS21; obtain ⟨_, hgg21⟩ := Kd.R_typed hraw21 go19 rfl; have GG21_ := aM hgg21; clear HP21 HS21 hgg21
       refine hK.out _ _ (HS0_) (fun hHeld => ?_)
       clear hK K
       refine nT 38 (h := ?_)
       refine pT 14 12 39 8191 HT_ (h := ?_)
       refine last_ (i := 13) (N := none) (bA 14 16383) rfl rfl (one_of HT_.out (by kernel_rfl)) (by decide) (fun K hK => ?_)
       refine skip_ (w1 := ?_) (by rfl) rfl ?_ ?_
       rotate_left
       ·
        go_simp
        rfl
       refine hK.out _ _ ?_
       clear hK K
       refine done_ (done_of HT_.out (by kernel_rfl)) ?_
       try go_wp2
       (try simp only [← hl5_2])
       go_roundg k2
       case measure => have := HK1.out; have := HK2.out; omega
       case rel => exact ⟨(y482), (wrap64 (x24_2 + 1)), rfl, H', ⟨by have := HK1.out; have := HK2.out; omega⟩, ⟨by (try simp only [hl5_1]); (try simp only [hl5_2]); (with_reducible repeat (first | apply Kd.S_alloc | apply Kd.S_drewN | apply Kd.S_drew)); exact HQ21.out⟩, ⟨by repeat (first | (with_reducible first | exact HB.out | apply below_alloc | apply pw_below_drewN | apply below_drew1 | refine below_set ?_ GB19.out) | exact HB.out)⟩⟩
      ·
       rw [if_neg c11] at H; have c11b0 : decide (x24_2 < ((rd_T75 l0 0).f0.f3)) = false := dF c11; clear c11; have H' := aM H; clear H
       go_wp2
       (try simp only [← hl5_1, ← hl5_2])
       go_roundg k2
       case measure => have := HK1.out; have := HK2.out; omega
       case rel => exact ⟨(x5_2), (wrap64 (x16_1 + 1)), rfl, H', ⟨by have := HK1.out; have := HK2.out; omega⟩, ⟨by (try simp only [hl5_1]); (try simp only [hl5_2]); exact HO_5.out⟩, HB⟩
   ·
    rw [if_neg c9] at H; have c9b0 : decide (x16_1 < (y473.length : Int)) = false := dF c9; (try simp only [hl5_1] at c9b0); clear c9; obtain rfl := oI H
    go_wp2
    go_ret
    exact ⟨_, rfl, HO_5.out, HB.out⟩

def F30.f (k : Nat) (l0 : List (S75)) : Option ((List (List Int))) := (F20000063.f k l0).bind fun t483 => (some t483)
theorem F30.mono : ∀ a0 k, LeO (F30.f k a0) (F30.f (k + 1) a0) := by
 intro a0 k; unfold F30.f
 repeat' with_reducible first | exact F20000063.mono _ _ | exact LeO.refl _ | exact LeO.none _ | refine LeO.ite ?_ ?_ | refine LeO.bind ?_ (fun _ => ?_)
theorem F30.calls (k : Nat) (A0 : Option Addr) (c0 : Nat) (l0 : List (S75)) (r : List (List Int)) (w : World) (hr0 : Kd.C k75 w A0 l0.length l0) (hc0 : l0.length ≤ c0) (h : F30.f k l0 = some r) :
  Calls Try.prog 30 #[asPtr (.slice A0 l0.length c0)] w fun e w' => ∃ v0_ : Value, e = .returned (v0_) ∧ Kd.S (Kd.slice 21 (Kd.int .i32)) 43 w' w.heap.size (fun _ => True) v0_ r ∧ Below w.heap.size w w' := by
 have HR0 := aM hr0; have HC0 := aM hc0; clear hr0 hc0; have HB := aM (Below.refl w.heap.size w); have H := h; clear h; unfold F30.f at H; obtain ⟨t483, A2, H⟩ := bnd H; obtain rfl := oI H
 go_enter Try.func30, Try.ntmps30
 go_wp2_with (first | ((with_reducible refine gate_callee (f := 63) rfl ?_); refine gL 6 Try.func63 #[asPtr (.slice A0 l0.length c0), .func (.func 19) #[asPtr (.slice A0 l0.length c0)] #[]] (h := ?_); (with_reducible refine (F20000063.calls k _ _ l0  t483 _ ?side1 ?side2 A2.out).mono ?_); (case side1 => with_reducible exact HR0.out); (case side2 => exact HC0.out); rintro e w3 ⟨v484, rfl, ho0, hb⟩; refine ⟨_, rfl, ?_⟩; have HO485 := aM (Kd.S_lower ho0 (bsz HB)); replace HB := bst HB hb; clear hb ho0))
 go_ret
 exact ⟨_, rfl, HO485.out, HB.out⟩

end Go.Proofs.Ytekenaclmplocaa.PPageParses
