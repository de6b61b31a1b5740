-- Written by a program of this session (wip/tools/mkprint.py over the kit's print).
import Derived.Test.YtekenaclmplocaaPPageQuantizesx0
import Derived.Test.YtekenaclmplocaaPPageQuantizesx19
namespace Go.Proofs.Ytekenaclmplocaa.PPageQuantizes
open Go.RowKit Go.Proofs.YtekenaclmplocaaW.PrintWords Go.Proofs.YtekenaclmplocaaW.PrintLast Go.Proofs.YtekenaclmplocaaW.PrintMore
attribute [local go_sem] max2_int min2_int max_two min_two max_three min_three max_four min_four   -- for this text's walks alone
set_option linter.unusedVariables false
set_option linter.unusedSimpArgs false

/-! ### credenzaref05_Pack: function 102 -/
mutual
def credenzaref05_Pack.l0 : Nat → List Int → Int → List Int → Int → Option (List Int)
 | 0, _, _, _, _ => none
 | k + 1, x0, x1, x5, x6 => (credenzaref05_Words.f k (x0.length : Int) x1).bind fun t526 => (if x6 < t526 then (if x5.length < 17592186044416 then (credenzaref05_Pack.l0 k x0 x1 (x5 ++ [0]) (wrap64 (x6 + 1))) else (none)) else (credenzaref05_Pack.l1 k x0 x1 x5 0))
def credenzaref05_Pack.l1 : Nat → List Int → Int → List Int → Int → Option (List Int)
 | 0, _, _, _, _ => none
 | k + 1, x0, x1, x5, x7 => if x7 < (x0.length : Int) then (credenzaref05_Pack.l2 k x0 x1 x5 x7 0) else (some x5)
def credenzaref05_Pack.l2 : Nat → List Int → Int → List Int → Int → Int → Option (List Int)
 | 0, _, _, _, _, _ => none
 | k + 1, x0, x1, x5, x7, x8 => if x8 < x1 then (if 0 ≤ (wrap64 (Int.tdiv (wrap64 ((wrap64 (x7 * x1)) + x8)) 64)) then (if (wrap64 (Int.tdiv (wrap64 ((wrap64 (x7 * x1)) + x8)) 64)) < (x5.length : Int) then (if 0 ≤ x7 then (if x7 < (x0.length : Int) then ((credenzaref05_bit.f k (IntKind.u64.wrap (rd x0 x7)) x8).bind fun t532 => ((credenzaref05_power.f k (Int.tmod (wrap64 ((wrap64 (x7 * x1)) + x8)) 64)).bind fun t533 => (credenzaref05_Pack.l2 k x0 x1 (x5.set ((wrap64 (Int.tdiv (wrap64 ((wrap64 (x7 * x1)) + x8)) 64)) : Int).toNat (IntKind.u64.wrap ((rd x5 (wrap64 (Int.tdiv (wrap64 ((wrap64 (x7 * x1)) + x8)) 64))) + (IntKind.u64.wrap (t532 * t533))))) x7 (wrap64 (x8 + 1))))) else (none)) else (none)) else (none)) else (none)) else (credenzaref05_Pack.l1 k x0 x1 x5 (wrap64 (x7 + 1)))
end
def credenzaref05_Pack.f (k : Nat) (l0 : List Int) (a1 : Int) : Option (List Int) := credenzaref05_Pack.l0 k l0 a1 ([] : List Int) 0
theorem credenzaref05_Pack.mono_l : ∀ k, (∀ y0 y1 y2 y3, LeO (credenzaref05_Pack.l0 k y0 y1 y2 y3) (credenzaref05_Pack.l0 (k + 1) y0 y1 y2 y3)) ∧ (∀ y0 y1 y2 y3, LeO (credenzaref05_Pack.l1 k y0 y1 y2 y3) (credenzaref05_Pack.l1 (k + 1) y0 y1 y2 y3)) ∧ (∀ y0 y1 y2 y3 y4, LeO (credenzaref05_Pack.l2 k y0 y1 y2 y3 y4) (credenzaref05_Pack.l2 (k + 1) y0 y1 y2 y3 y4))
 | 0 => ⟨fun _ _ _ _ r h => by simp [credenzaref05_Pack.l0] at h, fun _ _ _ _ r h => by simp [credenzaref05_Pack.l1] at h, fun _ _ _ _ _ r h => by simp [credenzaref05_Pack.l2] at h⟩
 | k + 1 => by
  obtain ⟨ih0, ih1, ih2⟩ := credenzaref05_Pack.mono_l k
  refine ⟨?_, ?_, ?_⟩
  all_goals intros
  all_goals first | unfold credenzaref05_Pack.l0 | unfold credenzaref05_Pack.l1 | unfold credenzaref05_Pack.l2
  all_goals repeat' first
   | (with_reducible exact ih0 _ _ _ _)
   | (with_reducible exact ih1 _ _ _ _)
   | (with_reducible exact ih2 _ _ _ _ _)
   | (with_reducible exact credenzaref05_Words.mono _ _ _)
   | (with_reducible exact credenzaref05_bit.mono _ _ _)
   | (with_reducible exact credenzaref05_power.mono _ _)
   | (with_reducible exact LeO.refl _)
   | (with_reducible exact LeO.none _)
   | (with_reducible refine LeO.ite ?_ ?_)
   | (with_reducible refine LeO.bind ?_ (fun _ => ?_))
theorem credenzaref05_Pack.mono : ∀ a0 a1 k, LeO (credenzaref05_Pack.f k a0 a1) (credenzaref05_Pack.f (k + 1) a0 a1) := by
 intro a0 a1 k; obtain ⟨ih0, ih1, ih2⟩ := credenzaref05_Pack.mono_l k; unfold credenzaref05_Pack.f
 repeat' first
   | (with_reducible exact ih0 _ _ _ _)
   | (with_reducible exact ih1 _ _ _ _)
   | (with_reducible exact ih2 _ _ _ _ _)
   | (with_reducible exact credenzaref05_Words.mono _ _ _)
   | (with_reducible exact credenzaref05_bit.mono _ _ _)
   | (with_reducible exact credenzaref05_power.mono _ _)
   | (with_reducible exact LeO.refl _)
   | (with_reducible exact LeO.none _)
   | (with_reducible refine LeO.ite ?_ ?_)
   | (with_reducible refine LeO.bind ?_ (fun _ => ?_))
def credenzaref05_Pack.T13 : Bool × List (List Nat × List Nat) := (true, [([], []), ([], []), ([1], [1]), ([0, 2], [0, 2]), ([3], [3]), ([], []), ([], []), ([5, 6], [5, 6]), ([7], [7]), ([8], [8]), ([], []), ([9, 10], [9, 10]), ([], []), ([12], [12]), ([13, 11], [13]), ([11, 14], [11, 14]), ([4, 15], [4, 15]), ([0, 2, 0, 1, 2, 3, 4, 5, 6, 7, 8, 9, 10, 11, 12, 13, 14, 15, 16], [0, 2]), ([17, 16, 14, 0, 1, 2, 3, 4, 5, 6, 7, 8, 9, 10, 11, 12, 13, 14, 15, 16], [16, 17])])
def credenzaref05_Pack.B13 : List Nat := [0, 0, 2, 7, 15, 0, 0, 96, 224, 480, 0, 2016, 0, 4096, 16352, 32736, 65535, 131071, 262143]
theorem credenzaref05_Pack.tab13 : rtab .any (opsOf Try.f102 13) = credenzaref05_Pack.T13 := by kernel_rfl
theorem credenzaref05_Pack.bits13 : waitsOk credenzaref05_Pack.T13.2 credenzaref05_Pack.B13 = true := by kernel_rfl
set_option maxHeartbeats 8000000 in
set_option maxRecDepth 100000 in
theorem credenzaref05_Pack.calls (k : Nat) (A0 : Option Addr) (c0 : Nat) (l0 : List Int) (a1 : Int) (r : List Int) (w : World) (hr0 : Kd.C (Kd.int .i64) w A0 l0.length l0) (hc0 : l0.length ≤ c0) (h : credenzaref05_Pack.f k l0 a1 = some r) :
  Calls Try.prog 102 #[.slice A0 l0.length c0, .int .i64 a1] w fun e w' => ∃ v0_ : Value, e = .returned (v0_) ∧ Kd.R (Kd.int .u64) 78 w' w.heap.size (fun _ => True) v0_ r ∧ Below w.heap.size w w' := by
 have HR0 := Aside0.mk hr0; have HC0 := Aside0.mk hc0; clear hr0 hc0; have HB := Aside0.mk (Below.refl w.heap.size w); have H := h; clear h; unfold credenzaref05_Pack.f at H; have H' := Aside0.mk H; clear H
 go_enter Try.func102, Try.ntmps102
 go_wp2
 go_loopg [5, 6] k (fun kq v5 v6 w' => ∃ (x5_1 : List Int) (x6_1 : Int), v6 = .int .i64 x6_1 ∧ Aside0 (credenzaref05_Pack.l0 kq l0 a1 x5_1 x6_1 = some r) ∧ Aside0 (kq ≤ k) ∧ Aside0 (Kd.R (Kd.int .u64) 78 w' w.heap.size (fun _ => True) v5 x5_1) ∧ Aside0 (Below w.heap.size w w'))
 case atStart => exact ⟨(([] : List Int)), (0), rfl, H', ⟨Nat.le_refl _⟩, ⟨by first | exact Kd.R_nil _ _ _ _ _ | exact Kd.N_nil _ _ _ _ _ | exact Kd.V_nil _ _ _ _ _ | exact Kd.Q_nil _ _ _ _ _ | exact Kd.S_nil _ _ _ _ _⟩, HB⟩
 case round =>
  clear H'; (try clear c1); (try clear p2); obtain ⟨x5_1, x6_1, rfl, HA, HK1, HO_5, HB⟩ := hrel
  cases gk with
  | zero => exact absurd HA.out (by simp [credenzaref05_Pack.l0])
  | succ k1 =>
   have H := HA.out; clear HA; simp only [credenzaref05_Pack.l0] at H; obtain ⟨t526, A3, H⟩ := bnd H
   by_cases c4 : x6_1 < t526
   ·
    rw [if_pos c4] at H; have c4b0 : decide (x6_1 < t526) = true := decide_eq_true c4; clear c4; obtain ⟨c5, H⟩ := ifp H; have LMc5 := Aside0.mk c5; clear c5; obtain ⟨y527, hy527⟩ : ∃ y_ : List Int, y_ = (x5_1 ++ [0]) := ⟨_, rfl⟩; (replace H : (credenzaref05_Pack.l0 k1 l0 a1 y527 (wrap64 (x6_1 + 1))) = some r := by rw [hy527]; exact H); have Ny527 := Aside0.mk hy527; clear hy527; have H' := Aside0.mk H; clear H
    go_wp2_with (first | ((with_reducible refine gate_callee (f := 89) rfl ?_); refine gL 14 Try.func89 #[.int .i64 (l0.length : Int), .int .i64 a1] (h := ?_); (with_reducible refine (credenzaref05_Words.calls k1 (l0.length : Int) a1 t526 _ A3.out).mono ?_); rintro e w' ⟨rfl, ⟨nd, rfl⟩⟩; refine ⟨_, rfl, ?_⟩) | ((with_reducible refine gate_builtin (b := .append) (xs := #[.tmp 18, .tmp 19]) rfl ?_); at_builtin; refine Kd.R_append (Kd.int .u64) (w0 := w) w.heap.size rfl (.tmp 18) (.tmp 19) 80 78 (.int .u64 0) 8 rfl Try.underlying80 info78 rfl (by decide) (by omega) u5 x5_1 0 [.int .u64 0] (fun _ => True) (fun _ => False) rfl rfl ?aP (fun _ hk => hk.elim) ?aF ?aO ?aB ?aS ?aL ?_; (case aP => exact rfl); (case aB => exact bZ); (case aF => exact (fun _ _ => trivial)); (case aO => exact (by (with_reducible repeat (first | apply Kd.R_alloc | apply Kd.R_drewN | apply Kd.R_drew)); exact HO_5.out)); (case aS => exact (below_size bZ)); (case aL => have := LMc5.out; omega); intro v528 w6 ho hb hg hat; rw [← Ny527.out] at ho; have n0_ := Aside0.mk (hb); have n1_ := Aside0.mk (ho); clear HB; clear HO_5; have HB := n0_; have HO529 := n1_; clear n0_ n1_; clear ho hb hg hat))
    go_roundg k1
    case measure => have := HK1.out; omega
    case rel => exact ⟨(y527), (wrap64 (x6_1 + 1)), rfl, H', ⟨by have := HK1.out; omega⟩, HO529, HB⟩
   ·
    rw [if_neg c4] at H; have c4b0 : decide (x6_1 < t526) = false := decide_eq_false c4; clear c4; have H' := Aside0.mk H; clear H
    go_wp2_with (first | ((with_reducible refine gate_callee (f := 89) rfl ?_); refine gL 14 Try.func89 #[.int .i64 (l0.length : Int), .int .i64 a1] (h := ?_); (with_reducible refine (credenzaref05_Words.calls k1 (l0.length : Int) a1 t526 _ A3.out).mono ?_); rintro e w' ⟨rfl, ⟨nd, rfl⟩⟩; refine ⟨_, rfl, ?_⟩))
    go_loopg [7] k1 (fun kq v7 w' => ∃ (x5_2 : List Int) (x7_2 : Int), v7 = .int .i64 x7_2 ∧ Aside0 (credenzaref05_Pack.l1 kq l0 a1 x5_2 x7_2 = some r) ∧ Aside0 (kq ≤ k1) ∧ Aside0 (Kd.R (Kd.int .u64) 78 w' w.heap.size (fun _ => True) u5 x5_2) ∧ Aside0 (Below w.heap.size w w'))
    case atStart => exact ⟨(x5_1), (0), rfl, H', ⟨Nat.le_refl _⟩, ⟨by (with_reducible repeat (first | apply Kd.R_alloc | apply Kd.R_drewN | apply Kd.R_drew)); exact HO_5.out⟩, ⟨bZ⟩⟩
    case round =>
     clear H'; (try clear c1); (try clear p2); (try clear c4); (try clear c4b0); (try clear c5); (try clear p6); (try clear p2); obtain ⟨x5_2, x7_2, rfl, HA, HK2, HO_5, HB⟩ := hrel
     cases gk with
     | zero => exact absurd HA.out (by simp [credenzaref05_Pack.l1])
     | succ k2 =>
      have H := HA.out; clear HA; simp only [credenzaref05_Pack.l1] at H
      by_cases c7 : x7_2 < (l0.length : Int)
      ·
       rw [if_pos c7] at H; have c7b0 : decide (x7_2 < (l0.length : Int)) = true := decide_eq_true c7; clear c7; have H' := Aside0.mk H; clear H
       go_wp2
       go_loopg [8] k2 (fun kq v8 w' => ∃ (x5_3 : List Int) (x8_3 : Int), v8 = .int .i64 x8_3 ∧ Aside0 (credenzaref05_Pack.l2 kq l0 a1 x5_3 x7_2 x8_3 = some r) ∧ Aside0 (kq ≤ k2) ∧ Aside0 (Kd.R (Kd.int .u64) 78 w' w.heap.size (fun _ => True) u5 x5_3) ∧ Aside0 (Below w.heap.size w w'))
       case atStart => exact ⟨(x5_2), (0), rfl, H', ⟨Nat.le_refl _⟩, HO_5, HB⟩
       case round =>
        clear H'; (try clear c1); (try clear p2); (try clear c4); (try clear c4b0); (try clear c5); (try clear p6); (try clear c7); (try clear c7b0); (try clear p2); (try clear p6); obtain ⟨x5_3, x8_3, rfl, HA, HK3, HO_5, HB⟩ := hrel
        cases gk with
        | zero => exact absurd HA.out (by simp [credenzaref05_Pack.l2])
        | succ k3 =>
         have H := HA.out; clear HA; simp only [credenzaref05_Pack.l2] at H
         by_cases c8 : x8_3 < a1
         ·
          rw [if_pos c8] at H; have c8b0 : decide (x8_3 < a1) = true := decide_eq_true c8; clear c8; obtain ⟨ji9, hji9⟩ : ∃ j_ : Int, (wrap64 (Int.tdiv (wrap64 ((wrap64 (x7_2 * a1)) + x8_3)) 64)) = j_ := ⟨_, rfl⟩; (replace H : (if 0 ≤ (ji9) then (if (ji9) < (x5_3.length : Int) then (if 0 ≤ x7_2 then (if x7_2 < (l0.length : Int) then ((credenzaref05_bit.f k3 (IntKind.u64.wrap (rd l0 x7_2)) x8_3).bind fun t532 => ((credenzaref05_power.f k3 (Int.tmod (wrap64 ((wrap64 (x7_2 * a1)) + x8_3)) 64)).bind fun t533 => (credenzaref05_Pack.l2 k3 l0 a1 (x5_3.set ((ji9) : Int).toNat (IntKind.u64.wrap ((rd x5_3 (ji9)) + (IntKind.u64.wrap (t532 * t533))))) x7_2 (wrap64 (x8_3 + 1))))) else (none)) else (none)) else (none)) else (none)) = some r := by first | (rw [hji9] at H; exact H) | (simp only [hji9] at H ⊢; exact H)); have hji9w : (IntKind.i64.wrap (Int.tdiv (wrap64 ((wrap64 (x7_2 * a1)) + x8_3)) 64)) = ji9 := (i64_w _).trans hji9; obtain ⟨c10, H⟩ := ifp H; have c10b0 : decide (0 ≤ (ji9)) = true := decide_eq_true c10; clear c10; obtain ⟨c11, H⟩ := ifp H; have c11b0 : decide ((ji9) < (x5_3.length : Int)) = true := decide_eq_true c11; clear c11; obtain ⟨c12, H⟩ := ifp H; have c12b0 : decide (0 ≤ x7_2) = true := decide_eq_true c12; clear c12; obtain ⟨c13, H⟩ := ifp H; have c13b0 : decide (x7_2 < (l0.length : Int)) = true := decide_eq_true c13; clear c13; obtain ⟨t532, A14, H⟩ := bnd H; obtain ⟨t533, A15, H⟩ := bnd H; obtain ⟨y534, hy534⟩ : ∃ y_ : List Int, y_ = (x5_3.set ((ji9) : Int).toNat (IntKind.u64.wrap ((rd x5_3 (ji9)) + (IntKind.u64.wrap (t532 * t533))))) := ⟨_, rfl⟩; (replace H : (credenzaref05_Pack.l2 k3 l0 a1 y534 x7_2 (wrap64 (x8_3 + 1))) = some r := by rw [hy534]; exact H); have Ny534 := Aside0.mk hy534; clear hy534; have H' := Aside0.mk H; clear H
          try go_wp2
          replace HO_5 := Aside0.mk (Kd.R_drew HO_5.out); replace HB := Aside0.mk (below_drew1 HB.out); obtain ⟨Ao18, co18, eo18⟩ := Kd.R_slice HO_5.out; (first | subst eo18 | (injection eo18 with f1_ f2_ f3_; have f4_ := f1_.symm; have f5_ := f3_.symm; clear f1_ f2_ f3_; subst f4_; subst f5_)); have p530 : 0 ≤ ((ji9) : Int) := oD; have q530 : (ji9) < (x5_3.length : Int) := oD; obtain ⟨ad530, e530, hx530_0⟩ := Kd.at_int (Kd.R_reads' HO_5.out).2.2 (ji9) p530 q530
          cases e530
          replace p530 := eq_true p530; replace q530 := eq_true q530; have p531 : 0 ≤ (x7_2 : Int) := oD; have q531 : x7_2 < (l0.length : Int) := oD; obtain ⟨ad531, e531, hx531_0⟩ := Kd.at_int HR0.out x7_2 p531 q531; have hw531_0 := hx531_0
          cases e531
          replace hx531_0 := cU HB hx531_0; replace p531 := eq_true p531; replace q531 := eq_true q531; (refine start_ (n := 19) (S := fun w' => w'.cell? (ad530.add ((ji9)).toNat) = some (.int .u64 (rd x5_3 (ji9))) ∧ w'.cell? (ad531.add (x7_2).toNat) = some (.int .i64 (rd l0 x7_2))) (ds := [18]) (bA 19 0) (by kernel_rfl) rfl (by kernel_rfl) ⟨hx530_0, ((HB.out.cell (World.block_lt_of_cell? w _ hw531_0)).trans hw531_0)⟩ (fun hHeld => ?_); refine with_tabW credenzaref05_Pack.tab13 credenzaref05_Pack.bits13 (fun HT_ HW_ => ?_)); generalize wr.drew = w17 at HO_5 HB hx530_0 hx531_0 hHeld ⊢
          refine pT 19 0 37 1 HT_ (h := ?_)
          refine pT 19 1 38 3 HT_ (h := ?_)
          refine pT 19 2 39 7 HT_ (h := ?_)
          refine pT 19 3 40 15 HT_ (h := ?_)
          refine pT 19 5 42 47 HT_ (h := ?_)
          refine pT 19 6 43 111 HT_ (h := ?_)
          refine pT 19 7 44 239 HT_ (h := ?_)
          refine pT 19 10 47 1263 HT_ (h := ?_)
          refine pT 19 12 49 5359 HT_ (h := ?_)
          refine pT 19 13 50 13551 HT_ (h := ?_)
          refine tT 19 4 41 13567 HT_ HW_ hHeld (h := ?_)
          refine tT 19 8 45 13823 HT_ HW_ hHeld (h := ?_)
          refine pT 19 9 46 14335 HT_ (h := ?_)
          refine one_ (i := 11) (N := some 48) (bA 19 16383) rfl rfl (one_of HT_.out (by kernel_rfl)) (by decide) (fun K hK => ?_)
          refine gA Try.func104 #[.int .u64 (IntKind.u64.wrap (rd l0 x7_2)), .int .i64 x8_3] (h := ?_)
          with_reducible refine (credenzaref05_bit.calls k3 (IntKind.u64.wrap (rd l0 x7_2)) x8_3 t532 _ A14.out).mono ?_
          rintro e w' ⟨rfl, ⟨nd, rfl⟩⟩
          refine ⟨_, rfl, ?_⟩
          refine hK.out _ _ ⟨hHeld.1, ((HB.out.cell (World.block_lt_of_cell? w _ hw531_0)).trans hw531_0)⟩ (fun hHeld => ?_)
          clear hK K
          refine nT 48 (h := ?_)
          refine one_ (i := 14) (N := some 51) (bA 19 32767) rfl rfl (one_of HT_.out (by kernel_rfl)) (by decide) (fun K hK => ?_)
          refine gA Try.func105 #[.int .i64 (Int.tmod (wrap64 ((wrap64 (x7_2 * a1)) + x8_3)) 64)] (h := ?_)
          with_reducible refine (credenzaref05_power.calls k3 (Int.tmod (wrap64 ((wrap64 (x7_2 * a1)) + x8_3)) 64) t533 _ A15.out).mono ?_
          rintro e w' ⟨rfl, ⟨nd, rfl⟩⟩
          refine ⟨_, rfl, ?_⟩
          have p16 : 0 ≤ ((ji9) : Int) := oD; have q16 : ((ji9) : Int) < ((x5_3.length : Int) : Int) := oD; obtain ⟨go16, co16, eo16, gb16, gl16, cl16, HG16⟩ := Kd.R_form HO_5.out (by omega); (first | cases eo16 | (injection eo16 with ea_ en_ ec_; (first | subst ea_ | (injection ea_ with ea_; subst ea_)); subst ec_; clear en_)); have GB16 := Aside0.mk gb16; have GG16 := Aside0.mk HG16; clear gb16 gl16 HG16; (first | simp only [add_plain] at hx530_0 | skip); obtain ⟨hx16_0, hf16_0⟩ := Kd.R_celln 0 HO_5.out ((ji9) : Int) p16 q16; replace p16 := eq_true p16; replace q16 := eq_true q16; have HP19 := Kd.R_putn HO_5.out ((ji9) : Int) (IntKind.u64.wrap ((rd x5_3 (ji9)) + (IntKind.u64.wrap (t532 * t533)))); rw [← Ny534.out] at HP19; have HQ19 := Aside0.mk HP19; clear HP19
          refine hK.out _ _ ⟨hHeld.1, ((HB.out.cell (World.block_lt_of_cell? w _ hw531_0)).trans hw531_0)⟩ (fun hHeld => ?_)
          clear hK K
          refine nT 51 (h := ?_)
          refine pT 19 15 52 65535 HT_ (h := ?_)
          refine pT 19 16 53 131071 HT_ (h := ?_)
          refine pT 19 17 54 262143 HT_ (h := ?_)
          refine last_ (i := 18) (N := none) (bA 19 524287) rfl rfl (one_of HT_.out (by kernel_rfl)) (by decide) (fun K hK => ?_)
          refine skip_ (w1 := ?_) (by rfl) rfl ?_ ?_
          rotate_left
          ·
           go_simp
           rfl
          refine hK.out _ _ ?_
          clear hK K
          refine done_ (done_of HT_.out (by kernel_rfl)) ?_
          try go_wp2
          go_roundg k3
          case measure => have := HK1.out; have := HK2.out; have := HK3.out; omega
          case rel => exact ⟨(y534), (wrap64 (x8_3 + 1)), rfl, H', ⟨by have := HK1.out; have := HK2.out; have := HK3.out; omega⟩, ⟨by (with_reducible repeat (first | apply Kd.R_alloc | apply Kd.R_drewN | apply Kd.R_drew)); exact HQ19.out⟩, ⟨by repeat (first | (with_reducible first | exact HB.out | apply below_alloc | apply pw_below_drewN | apply below_drew1 | refine below_set ?_ GB16.out) | exact HB.out)⟩⟩
         ·
          rw [if_neg c8] at H; have c8b0 : decide (x8_3 < a1) = false := decide_eq_false c8; clear c8; have H' := Aside0.mk H; clear H
          go_wp2
          go_roundg k3
          case measure => have := HK1.out; have := HK2.out; have := HK3.out; omega
          case rel => exact ⟨(x5_3), (wrap64 (x7_2 + 1)), rfl, H', ⟨by have := HK1.out; have := HK2.out; have := HK3.out; omega⟩, HO_5, HB⟩
      ·
       rw [if_neg c7] at H; have c7b0 : decide (x7_2 < (l0.length : Int)) = false := decide_eq_false c7; clear c7; obtain rfl := Option.some.inj H
       go_wp2
       go_ret
       exact ⟨_, rfl, HO_5.out, HB.out⟩

/-! ### credenzaref08_group: function 86 -/
def credenzaref08_group.l0 : Nat → ByteArray → List Int → Int → Option (ByteArray)
 | 0, _, _, _ => none
 | k + 1, x5, x6, x7 => if x7 < (x6.length : Int) then (if 0 ≤ x7 then ((credenzaref06_Bytes.f k (rd x6 x7) 8).bind fun t542 => (if x5.size + t542.size ≤ 9223372036854775807 then (credenzaref08_group.l0 k (x5 ++ t542) x6 (wrap64 (x7 + 1))) else (none))) else (none)) else (some x5)
def credenzaref08_group.f (k : Nat) (a0_0 : Int) (a0_1 : Int) (l0_2 : List Int) (a1 : Int) : Option (ByteArray) := (credenzaref06_Word.f k a0_0).bind fun t536 => ((credenzaref06_Bytes.f k (IntKind.u64.wrap (a0_1)) 4).bind fun t537 => (if t536.size + t537.size ≤ 9223372036854775807 then ((credenzaref05_Pack.f k l0_2 a1).bind fun t538 => (credenzaref08_group.l0 k (t536 ++ t537) t538 0)) else (none)))
theorem credenzaref08_group.mono_l : ∀ k, (∀ y0 y1 y2, LeO (credenzaref08_group.l0 k y0 y1 y2) (credenzaref08_group.l0 (k + 1) y0 y1 y2))
 | 0 => fun _ _ _ r h => by simp [credenzaref08_group.l0] at h
 | k + 1 => by
  have ih0 := credenzaref08_group.mono_l k
  ·
   intro y0 y1 y2; unfold credenzaref08_group.l0
   repeat' first
   | (with_reducible exact ih0 _ _ _)
   | (with_reducible exact credenzaref05_Pack.mono _ _ _)
   | (with_reducible exact credenzaref06_Bytes.mono _ _ _)
   | (with_reducible exact credenzaref06_Word.mono _ _)
   | (with_reducible exact LeO.refl _)
   | (with_reducible exact LeO.none _)
   | (with_reducible refine LeO.ite ?_ ?_)
   | (with_reducible refine LeO.bind ?_ (fun _ => ?_))
theorem credenzaref08_group.mono : ∀ a0 a1 a2 a3 k, LeO (credenzaref08_group.f k a0 a1 a2 a3) (credenzaref08_group.f (k + 1) a0 a1 a2 a3) := by
 intro a0 a1 a2 a3 k; have ih0 := credenzaref08_group.mono_l k; unfold credenzaref08_group.f
 repeat' first
   | (with_reducible exact ih0 _ _ _)
   | (with_reducible exact credenzaref05_Pack.mono _ _ _)
   | (with_reducible exact credenzaref06_Bytes.mono _ _ _)
   | (with_reducible exact credenzaref06_Word.mono _ _)
   | (with_reducible exact LeO.refl _)
   | (with_reducible exact LeO.none _)
   | (with_reducible refine LeO.ite ?_ ?_)
   | (with_reducible refine LeO.bind ?_ (fun _ => ?_))
def credenzaref08_group.T1 : Bool × List (List Nat × List Nat) := (true, [([], []), ([0], [0]), ([1], [1]), ([], []), ([3], [3]), ([4], [4]), ([5, 2], [5]), ([2, 6], [2, 6]), ([7, 6, 0, 1, 2, 3, 4, 5, 6, 7], [7])])
def credenzaref08_group.B1 : List Nat := [0, 1, 3, 0, 8, 24, 63, 127, 255]
theorem credenzaref08_group.tab1 : rtab .any (opsOf Try.f86 1) = credenzaref08_group.T1 := by kernel_rfl
theorem credenzaref08_group.bits1 : waitsOk credenzaref08_group.T1.2 credenzaref08_group.B1 = true := by kernel_rfl
set_option maxHeartbeats 8000000 in
set_option maxRecDepth 100000 in
theorem credenzaref08_group.calls (k : Nat) (a0_0 : Int) (a0_1 : Int) (A0_2 : Option Addr) (c0_2 : Nat) (l0_2 : List Int) (a1 : Int) (r : ByteArray) (w : World) (hr0_2 : Kd.C (Kd.int .i64) w A0_2 l0_2.length l0_2) (hc0_2 : l0_2.length ≤ c0_2) (h : credenzaref08_group.f k a0_0 a0_1 l0_2 a1 = some r) :
  Calls Try.prog 86 #[.agg #[.int .i32 a0_0, .int .u32 a0_1, .slice A0_2 l0_2.length c0_2], .int .i64 a1] w fun e w' => e = .returned (.string r) ∧ Below w.heap.size w w' := by
 have hu98 := Try.underlying98; have HR0_2 := Aside0.mk hr0_2; have HC0_2 := Aside0.mk hc0_2; clear hr0_2 hc0_2; have HB := Aside0.mk (Below.refl w.heap.size w); have H := h; clear h; unfold credenzaref08_group.f at H; obtain ⟨t536, A3, H⟩ := bnd H; obtain ⟨t537, A4, H⟩ := bnd H; obtain ⟨c5, H⟩ := ifp H; have c5b0 := eq_true c5; have c5b1 : decide (t536.size + t537.size ≤ 9223372036854775807) = true := decide_eq_true c5
 try have c5b2 : (9223372036854775807 < t536.size + t537.size) = False := eq_false (Nat.not_lt.2 c5)
 (try (have c5b3 := c5b2; simp only [ByteArray.size_append] at c5b3)); obtain ⟨t538, A6, H⟩ := bnd H; have H' := Aside0.mk H; clear H
 go_enter Try.func86, Try.ntmps86
 try go_wp2_with (first | ((with_reducible refine gate_dst (N := 2) rfl ?_); refine bxE 2 #[.int .i32 a0_0, .int .u32 a0_1, .slice A0_2 l0_2.length c0_2] 98 (h := ?_); intro gb535 hg w7 hbox hb; have BK535 := Aside0.mk (hbox); have GW535 := gE hg HB; have GE535 := gE hg HB; replace HB := bst HB hb; clear hb hbox hg))
 replace BK535 := Aside0.mk (blk_drew BK535.out); replace HB := Aside0.mk (below_drew1 HB.out); (refine start_ (n := 9) (S := fun w' => w'.cell? ⟨gb535, 0, none⟩ = some (.int .i32 a0_0) ∧ w'.cell? ⟨gb535, 1, none⟩ = some (.int .u32 a0_1) ∧ w'.cell? ⟨gb535, 2, none⟩ = some (.slice A0_2 l0_2.length c0_2)) (ds := []) (bA 9 0) (by kernel_rfl) rfl (by kernel_rfl) (cx3 BK535.out) (fun hHeld => ?_); refine with_tabW credenzaref08_group.tab1 credenzaref08_group.bits1 (fun HT_ HW_ => ?_)); generalize w7.drew = w8 at BK535 HB hHeld ⊢
 refine pT 9 0 8 1 HT_ (h := ?_)
 refine pT 9 3 11 9 HT_ (h := ?_)
 refine tT 9 1 9 11 HT_ HW_ hHeld (h := ?_)
 refine tT 9 4 12 27 HT_ HW_ hHeld (h := ?_)
 refine pT 9 5 13 59 HT_ (h := ?_)
 refine one_ (i := 2) (N := some 10) (bA 9 63) rfl rfl (one_of HT_.out (by kernel_rfl)) (by decide) (fun K hK => ?_)
 refine gA Try.func101 #[.int .i32 a0_0] (h := ?_)
 with_reducible refine (credenzaref06_Word.calls k a0_0 t536 _ A3.out).mono ?_
 rintro e w9 ⟨rfl, hb⟩
 refine ⟨_, rfl, ?_⟩
 replace BK535 := Aside0.mk (blk_below (g := gb535) (o := .cells #[.int .i32 a0_0, .int .u32 a0_1, .slice A0_2 l0_2.length c0_2] 98 (0, 0)) (by (with_reducible repeat (first | refine blk_drewN ?_ _ | refine blk_drew ?_ | refine blk_alloc ?_ _)); exact BK535.out) hb); replace HB := Aside0.mk (below_step bZ hb); (try clear hb); (try clear hb2); (try clear hk); (try clear hi)
 refine hK.out _ _ (cx3 BK535.out) (fun hHeld => ?_)
 clear hK K
 refine nT 10 (h := ?_)
 refine one_ (i := 6) (N := some 14) (bA 9 127) rfl rfl (one_of HT_.out (by kernel_rfl)) (by decide) (fun K hK => ?_)
 refine gA Try.func85 #[.int .u64 (IntKind.u64.wrap (a0_1)), .int .i64 4] (h := ?_)
 with_reducible refine (credenzaref06_Bytes.calls k (IntKind.u64.wrap (a0_1)) 4 t537 _ A4.out).mono ?_
 rintro e w10 ⟨rfl, hb⟩
 refine ⟨_, rfl, ?_⟩
 replace BK535 := Aside0.mk (blk_below (g := gb535) (o := .cells #[.int .i32 a0_0, .int .u32 a0_1, .slice A0_2 l0_2.length c0_2] 98 (0, 0)) (by (with_reducible repeat (first | refine blk_drewN ?_ _ | refine blk_drew ?_ | refine blk_alloc ?_ _)); exact BK535.out) hb); replace HB := Aside0.mk (below_step bZ hb); (try clear hb); (try clear hb2); (try clear hk); (try clear hi)
 refine hK.out _ _ (cx3 BK535.out) (fun hHeld => ?_)
 clear hK K
 refine nT 14 (h := ?_)
 refine pT 9 7 15 255 HT_ (h := ?_)
 refine pT 9 8 5 511 HT_ (h := ?_)
 refine done_ (done_of HT_.out (by kernel_rfl)) ?_
 have hz11 := bx3 BK535.out
 try go_wp2_with (first | ((with_reducible refine gate_callee (f := 102) rfl ?_); refine gL 19 Try.func102 #[.slice A0_2 l0_2.length c0_2, .int .i64 a1] (h := ?_); (with_reducible refine (credenzaref05_Pack.calls k _ _ l0_2 a1 t538 _ ?side1 ?side2 A6.out).mono ?_); (case side1 => with_reducible exact (Kd.C_below HR0_2.out HB.out)); (case side2 => exact HC0_2.out); rintro e w12 ⟨v539, rfl, ho0, hb⟩; refine ⟨_, rfl, ?_⟩; have HO540 := Aside0.mk (Kd.R_lower ho0 (bsz HB)); replace BK535 := kst BK535 hb; replace HB := bst HB hb; clear hb ho0))
 go_loopg [5, 7] k (fun kq v5 v7 w' => ∃ (x5_1 : ByteArray) (x7_1 : Int), v5 = .string x5_1 ∧ v7 = .int .i64 x7_1 ∧ Aside0 (credenzaref08_group.l0 kq x5_1 t538 x7_1 = some r) ∧ Aside0 (kq ≤ k) ∧ Aside0 (Kd.R (Kd.int .u64) 78 w' w.heap.size (fun _ => True) v539 t538) ∧ Aside0 (w'.heap[gb535]? = some (.cells #[.int .i32 a0_0, .int .u32 a0_1, (.slice A0_2 l0_2.length c0_2)] 98 (0, 0))) ∧ Aside0 (Below w.heap.size w w'))
 case atStart => exact ⟨(t536 ++ t537), (0), rfl, rfl, H', ⟨Nat.le_refl _⟩, HO540, BK535, HB⟩
 case round =>
  clear H'; (try clear c1); (try clear p2); (try clear c5); (try clear c5b0); (try clear c5b1); (try clear c5b2); (try clear c8); (try clear c10); (try clear hz11); obtain ⟨x5_1, x7_1, rfl, rfl, HA, HK1, HO_6, BK535, HB⟩ := hrel
  cases gk with
  | zero => exact absurd HA.out (by simp [credenzaref08_group.l0])
  | succ k1 =>
   have H := HA.out; clear HA; simp only [credenzaref08_group.l0] at H
   by_cases c13 : x7_1 < (t538.length : Int)
   ·
    rw [if_pos c13] at H; have c13b0 : decide (x7_1 < (t538.length : Int)) = true := decide_eq_true c13; clear c13; obtain ⟨c14, H⟩ := ifp H; have c14b0 : decide (0 ≤ x7_1) = true := decide_eq_true c14; clear c14; obtain ⟨t542, A15, H⟩ := bnd H; obtain ⟨c16, H⟩ := ifp H; have c16b0 := eq_true c16; have c16b1 : decide (x5_1.size + t542.size ≤ 9223372036854775807) = true := decide_eq_true c16
    try have c16b2 : (9223372036854775807 < x5_1.size + t542.size) = False := eq_false (Nat.not_lt.2 c16)
    (try (have c16b3 := c16b2; simp only [ByteArray.size_append] at c16b3)); have H' := Aside0.mk H; clear H; obtain ⟨Ao17, co17, eo17⟩ := Kd.R_slice HO_6.out; subst eo17; have p541 : 0 ≤ (x7_1 : Int) := oD; have q541 : x7_1 < (t538.length : Int) := oD; obtain ⟨ad541, e541, hx541_0⟩ := Kd.at_int (Kd.R_reads' HO_6.out).2.2 x7_1 p541 q541
    cases e541
    replace p541 := eq_true p541; replace q541 := eq_true q541
    go_wp2_with (first | ((with_reducible refine gate_callee (f := 85) rfl ?_); refine gL 31 Try.func85 #[.int .u64 (rd t538 x7_1), .int .i64 8] (h := ?_); (with_reducible refine (credenzaref06_Bytes.calls k1 (rd t538 x7_1) 8 t542 _ A15.out).mono ?_); rintro e w18 ⟨rfl, hb⟩; refine ⟨_, rfl, ?_⟩; replace HO_6 := rst HO_6 hb; replace BK535 := kst BK535 hb; replace HB := bst HB hb; clear hb))
    go_roundg k1
    case measure => have := HK1.out; omega
    case rel => exact ⟨(x5_1 ++ t542), (wrap64 (x7_1 + 1)), rfl, rfl, H', ⟨by have := HK1.out; omega⟩, HO_6, BK535, HB⟩
   ·
    rw [if_neg c13] at H; have c13b0 : decide (x7_1 < (t538.length : Int)) = false := decide_eq_false c13; clear c13; obtain rfl := Option.some.inj H; obtain ⟨Ao19, co19, eo19⟩ := Kd.R_slice HO_6.out; subst eo19
    go_wp2
    go_ret
    exact ⟨rfl, HB.out⟩

/-! ### credenzaref06_Sum: function 103 -/
def credenzaref06_Sum.l0 : Nat → ByteArray → Int → Int → Option (Int)
 | 0, _, _, _ => none
 | k + 1, x0, x3, x4 => if x4 < (x0.size : Int) then (if 0 ≤ x4 then (credenzaref06_Sum.l0 k x0 (Int.tmod (IntKind.u64.wrap ((Go.bits .xor .u64 x3 (IntKind.u64.wrap (bt x0 x4))) * 16777619)) 4294967296) (wrap64 (x4 + 1))) else (none)) else (some ((x3) % 4294967296))
def credenzaref06_Sum.f (k : Nat) (a0 : ByteArray) : Option (Int) := credenzaref06_Sum.l0 k a0 2166136261 0
theorem credenzaref06_Sum.mono_l : ∀ k, (∀ y0 y1 y2, LeO (credenzaref06_Sum.l0 k y0 y1 y2) (credenzaref06_Sum.l0 (k + 1) y0 y1 y2))
 | 0 => fun _ _ _ r h => by simp [credenzaref06_Sum.l0] at h
 | k + 1 => by
  have ih0 := credenzaref06_Sum.mono_l k
  ·
   intro y0 y1 y2; unfold credenzaref06_Sum.l0
   repeat' first
   | (with_reducible exact ih0 _ _ _)
   | (with_reducible exact LeO.refl _)
   | (with_reducible exact LeO.none _)
   | (with_reducible refine LeO.ite ?_ ?_)
   | (with_reducible refine LeO.bind ?_ (fun _ => ?_))
theorem credenzaref06_Sum.mono : ∀ a0 k, LeO (credenzaref06_Sum.f k a0) (credenzaref06_Sum.f (k + 1) a0) := by
 intro a0 k; have ih0 := credenzaref06_Sum.mono_l k; unfold credenzaref06_Sum.f
 repeat' first
   | (with_reducible exact ih0 _ _ _)
   | (with_reducible exact LeO.refl _)
   | (with_reducible exact LeO.none _)
   | (with_reducible refine LeO.ite ?_ ?_)
   | (with_reducible refine LeO.bind ?_ (fun _ => ?_))
set_option maxHeartbeats 8000000 in
set_option maxRecDepth 100000 in
theorem credenzaref06_Sum.calls (k : Nat) (a0 : ByteArray) (r : Int) (w : World) (h : credenzaref06_Sum.f k a0 = some r) :
  Calls Try.prog 103 #[.string a0] w fun e w' => e = .returned (.int .u32 r) ∧ Drawn0 w w' := by
 have H := h; clear h; unfold credenzaref06_Sum.f at H; have H' := Aside0.mk H; clear H
 go_enter Try.func103, Try.ntmps103
 go_wp2
 go_loopg [3, 4] k (fun kq v3 v4 w' => ∃ (x3_1 : Int) (x4_1 : Int), v3 = .int .u64 x3_1 ∧ v4 = .int .i64 x4_1 ∧ Aside0 (credenzaref06_Sum.l0 kq a0 x3_1 x4_1 = some r) ∧ Aside0 (kq ≤ k) ∧ Drawn0 w w')
 case atStart => exact ⟨(2166136261), (0), rfl, rfl, H', ⟨Nat.le_refl _⟩, by repeat (first | exact Drawn0.refl _ | apply Drawn0.step)⟩
 case round =>
  clear H'; (try clear c1); obtain ⟨x3_1, x4_1, rfl, rfl, HA, HK1, ⟨m1, rfl⟩⟩ := hrel
  cases gk with
  | zero => exact absurd HA.out (by simp [credenzaref06_Sum.l0])
  | succ k1 =>
   have H := HA.out; clear HA; simp only [credenzaref06_Sum.l0] at H
   by_cases c2 : x4_1 < (a0.size : Int)
   ·
    rw [if_pos c2] at H; have c2b0 : decide (x4_1 < (a0.size : Int)) = true := decide_eq_true c2; clear c2; obtain ⟨c3, H⟩ := ifp H; have c3b0 : decide (0 ≤ x4_1) = true := decide_eq_true c3; clear c3; have H' := Aside0.mk H; clear H; have p4 : 0 ≤ (x4_1 : Int) := oD; have q4 : x4_1 < (a0.size : Int) := oD; have hx4 := bt_at a0 x4_1; replace p4 := eq_true p4; replace q4 := eq_true q4
    go_wp2
    go_roundg k1
    case measure => have := HK1.out; omega
    case rel => exact ⟨(Int.tmod (IntKind.u64.wrap ((Go.bits .xor .u64 x3_1 (IntKind.u64.wrap (bt a0 x4_1))) * 16777619)) 4294967296), (wrap64 (x4_1 + 1)), rfl, rfl, H', ⟨by have := HK1.out; omega⟩, by repeat (first | exact Drawn0.refl _ | apply Drawn0.step)⟩
   ·
    rw [if_neg c2] at H; have c2b0 : decide (x4_1 < (a0.size : Int)) = false := decide_eq_false c2; clear c2; obtain rfl := Option.some.inj H
    go_wp2
    go_ret
    exact ⟨rfl, by repeat (first | exact Drawn0.refl _ | apply Drawn0.step)⟩

/-! ### credenzaref06_Close: function 87 -/
def credenzaref06_Close.f (k : Nat) (a0 : ByteArray) : Option (ByteArray) := (credenzaref06_Sum.f k a0).bind fun t543 => ((credenzaref06_Bytes.f k (IntKind.u64.wrap (t543)) 4).bind fun t544 => (if a0.size + t544.size ≤ 9223372036854775807 then (some (a0 ++ t544)) else (none)))
theorem credenzaref06_Close.mono : ∀ a0 k, LeO (credenzaref06_Close.f k a0) (credenzaref06_Close.f (k + 1) a0) := by
 intro a0 k; unfold credenzaref06_Close.f
 repeat' first
   | (with_reducible exact credenzaref06_Bytes.mono _ _ _)
   | (with_reducible exact credenzaref06_Sum.mono _ _)
   | (with_reducible exact LeO.refl _)
   | (with_reducible exact LeO.none _)
   | (with_reducible refine LeO.ite ?_ ?_)
   | (with_reducible refine LeO.bind ?_ (fun _ => ?_))
set_option maxHeartbeats 8000000 in
set_option maxRecDepth 100000 in
theorem credenzaref06_Close.calls (k : Nat) (a0 : ByteArray) (r : ByteArray) (w : World) (h : credenzaref06_Close.f k a0 = some r) :
  Calls Try.prog 87 #[.string a0] w fun e w' => e = .returned (.string r) ∧ Below w.heap.size w w' := by
 have HB := Aside0.mk (Below.refl w.heap.size w); have H : ((credenzaref06_Sum.f k a0).bind fun t543 => ((credenzaref06_Bytes.f k (IntKind.u64.wrap (t543)) 4).bind fun t544 => (if a0.size + t544.size ≤ 9223372036854775807 then (some (a0 ++ t544)) else (none)))) = some r := h; clear h; replace H := Option.bind_eq_some_iff.mp H; obtain ⟨t543, A20, H⟩ := H; replace H : ((credenzaref06_Bytes.f k (IntKind.u64.wrap (t543)) 4).bind fun t544 => (if a0.size + t544.size ≤ 9223372036854775807 then (some (a0 ++ t544)) else (none))) = some r := H; have A2 := Aside0.mk A20; clear A20; replace H := Option.bind_eq_some_iff.mp H; obtain ⟨t544, A30, H⟩ := H; replace H : (if a0.size + t544.size ≤ 9223372036854775807 then (some (a0 ++ t544)) else (none)) = some r := H; have A3 := Aside0.mk A30; clear A30
 by_cases c4 : a0.size + t544.size ≤ 9223372036854775807
 case neg => (rw [if_neg c4] at H; exact absurd H (by simp))
 rw [if_pos c4] at H; have c4b0 := eq_true c4; have c4b1 : decide (a0.size + t544.size ≤ 9223372036854775807) = true := decide_eq_true c4
 try have c4b2 : (9223372036854775807 < a0.size + t544.size) = False := eq_false (Nat.not_lt.2 c4)
 (try (have c4b3 := c4b2; simp only [ByteArray.size_append] at c4b3)); obtain rfl := Option.some.inj H
 go_enter Try.func87, Try.ntmps87
 go_wp2_with (first | ((with_reducible refine gate_callee (f := 103) rfl ?_); refine gL 5 Try.func103 #[.string a0] (h := ?_); (with_reducible refine (credenzaref06_Sum.calls k a0 t543 _ A2.out).mono ?_); rintro e w' ⟨rfl, ⟨nd, rfl⟩⟩; refine ⟨_, rfl, ?_⟩) | ((with_reducible refine gate_callee (f := 85) rfl ?_); refine gL 7 Try.func85 #[.int .u64 (IntKind.u64.wrap (t543)), .int .i64 4] (h := ?_); (with_reducible refine (credenzaref06_Bytes.calls k (IntKind.u64.wrap (t543)) 4 t544 _ A3.out).mono ?_); rintro e w5 ⟨rfl, hb⟩; refine ⟨_, rfl, ?_⟩; have n0_ := Aside0.mk (below_step bZ hb); clear HB; have HB := n0_; clear n0_; clear hb))
 go_ret
 exact ⟨rfl, HB.out⟩

end Go.Proofs.Ytekenaclmplocaa.PPageQuantizes
