-- Written by a program of this session (wip/tools/mkprint.py over the kit's print).
import Derived.Test.YtekenaclmplocaaPPageParsesx0
import Derived.Test.YtekenaclmplocaaPPageParsesx19
namespace Go.Proofs.Ytekenaclmplocaa.PPageParses
open Go.RowKit Go.Proofs.YtekenaclmplocaaW.PrintWords Go.Proofs.YtekenaclmplocaaW.PrintLast Go.Proofs.YtekenaclmplocaaW.PrintMore
attribute [local go_sem] max2_int min2_int max_two min_two max_three min_three max_four min_four
set_option linter.unusedVariables false
set_option maxHeartbeats 8000000
set_option maxRecDepth 100000
set_option linter.unusedSimpArgs false

mutual
def F102.l0 : Nat → List Int → Int → List Int → Int → Option (List Int)
 | 0, _, _, _, _ => none
 | k + 1, x0, x1, x5, x6 => (F89.f k (x0.length : Int) x1).bind fun t521 => (if x6 < t521 then (if x5.length < 17592186044416 then (F102.l0 k x0 x1 (x5 ++ [0]) (wrap64 (x6 + 1))) else (none)) else (F102.l1 k x0 x1 x5 0))
def F102.l1 : Nat → List Int → Int → List Int → Int → Option (List Int)
 | 0, _, _, _, _ => none
 | k + 1, x0, x1, x5, x7 => if x7 < (x0.length : Int) then (F102.l2 k x0 x1 x5 x7 0) else (some x5)
def F102.l2 : Nat → List Int → Int → List Int → Int → Int → Option (List Int)
 | 0, _, _, _, _, _ => none
 | k + 1, x0, x1, x5, x7, x8 => if x8 < x1 then (if 0 ≤ (wrap64 (Int.tdiv (wrap64 ((wrap64 (x7 * x1)) + x8)) 64)) then (if (wrap64 (Int.tdiv (wrap64 ((wrap64 (x7 * x1)) + x8)) 64)) < (x5.length : Int) then (if 0 ≤ x7 then (if x7 < (x0.length : Int) then ((F104.f k (IntKind.u64.wrap (rd x0 x7)) x8).bind fun t527 => ((F105.f k (Int.tmod (wrap64 ((wrap64 (x7 * x1)) + x8)) 64)).bind fun t528 => (F102.l2 k x0 x1 (x5.set ((wrap64 (Int.tdiv (wrap64 ((wrap64 (x7 * x1)) + x8)) 64)) : Int).toNat (IntKind.u64.wrap ((rd x5 (wrap64 (Int.tdiv (wrap64 ((wrap64 (x7 * x1)) + x8)) 64))) + (IntKind.u64.wrap (t527 * t528))))) x7 (wrap64 (x8 + 1))))) else (none)) else (none)) else (none)) else (none)) else (F102.l1 k x0 x1 x5 (wrap64 (x7 + 1)))
end
def F102.f (k : Nat) (l0 : List Int) (a1 : Int) : Option (List Int) := F102.l0 k l0 a1 ([] : List Int) 0
theorem F102.mono_l : ∀ k, (∀ y0 y1 y2 y3, LeO (F102.l0 k y0 y1 y2 y3) (F102.l0 (k + 1) y0 y1 y2 y3)) ∧ (∀ y0 y1 y2 y3, LeO (F102.l1 k y0 y1 y2 y3) (F102.l1 (k + 1) y0 y1 y2 y3)) ∧ (∀ y0 y1 y2 y3 y4, LeO (F102.l2 k y0 y1 y2 y3 y4) (F102.l2 (k + 1) y0 y1 y2 y3 y4))
 | 0 => ⟨fun _ _ _ _ r h => by simp [F102.l0] at h, fun _ _ _ _ r h => by simp [F102.l1] at h, fun _ _ _ _ _ r h => by simp [F102.l2] at h⟩
 | k + 1 => by
  obtain ⟨ih0, ih1, ih2⟩ := F102.mono_l k
  refine ⟨?_, ?_, ?_⟩
  all_goals intros
  all_goals first | unfold F102.l0 | unfold F102.l1 | unfold F102.l2
  all_goals repeat' with_reducible first | exact ih0 _ _ _ _ | exact ih1 _ _ _ _ | exact ih2 _ _ _ _ _ | exact F89.mono _ _ _ | exact F104.mono _ _ _ | exact F105.mono _ _ | exact LeO.refl _ | exact LeO.none _ | refine LeO.ite ?_ ?_ | refine LeO.bind ?_ (fun _ => ?_)
theorem F102.mono : ∀ a0 a1 k, LeO (F102.f k a0 a1) (F102.f (k + 1) a0 a1) := by
 intro a0 a1 k; obtain ⟨ih0, ih1, ih2⟩ := F102.mono_l k; unfold F102.f
 repeat' with_reducible first | exact ih0 _ _ _ _ | exact ih1 _ _ _ _ | exact ih2 _ _ _ _ _ | exact F89.mono _ _ _ | exact F104.mono _ _ _ | exact F105.mono _ _ | exact LeO.refl _ | exact LeO.none _ | refine LeO.ite ?_ ?_ | refine LeO.bind ?_ (fun _ => ?_)
def F102.T13 : Bool × List (List Nat × List Nat) := (true, [([], []), ([], []), ([1], [1]), ([0, 2], [0, 2]), ([3], [3]), ([], []), ([], []), ([5, 6], [5, 6]), ([7], [7]), ([8], [8]), ([], []), ([9, 10], [9, 10]), ([], []), ([12], [12]), ([13, 11], [13]), ([11, 14], [11, 14]), ([4, 15], [4, 15]), ([0, 2, 0, 1, 2, 3, 4, 5, 6, 7, 8, 9, 10, 11, 12, 13, 14, 15, 16], [0, 2]), ([17, 16, 14, 0, 1, 2, 3, 4, 5, 6, 7, 8, 9, 10, 11, 12, 13, 14, 15, 16], [16, 17])])
def F102.B13 : List Nat := [0, 0, 2, 7, 15, 0, 0, 96, 224, 480, 0, 2016, 0, 4096, 16352, 32736, 65535, 131071, 262143]
theorem F102.tab13 : rtab .any (opsOf Try.f102 13) = F102.T13 := by kernel_rfl
theorem F102.bits13 : waitsOk F102.T13.2 F102.B13 = true := by kernel_rfl
theorem F102.calls (k : Nat) (A0 : Option Addr) (c0 : Nat) (l0 : List Int) (a1 : Int) (r : List Int) (w : World) (hr0 : Kd.C (Kd.int .i64) w A0 l0.length l0) (hc0 : l0.length ≤ c0) (h : F102.f k l0 a1 = some r) :
  Calls Try.prog 102 #[.slice A0 l0.length c0, .int .i64 a1] w fun e w' => ∃ v0_ : Value, e = .returned (v0_) ∧ Kd.R (Kd.int .u64) 78 w' w.heap.size (fun _ => True) v0_ r ∧ Below w.heap.size w w' := by
 have HR0 := aM hr0; have HC0 := aM hc0; clear hr0 hc0; have HB := aM (Below.refl w.heap.size w); have H := h; clear h; unfold F102.f at H; have H' := aM H; clear H
 go_enter Try.func102, Try.ntmps102
 go_wp2
 go_loopg [5, 6] k (fun kq v5 v6 w' => ∃ (x5_1 : List Int) (x6_1 : Int), v6 = .int .i64 x6_1 ∧ Aside0 (F102.l0 kq l0 a1 x5_1 x6_1 = some r) ∧ Aside0 (kq ≤ k) ∧ Aside0 (Kd.R (Kd.int .u64) 78 w' w.heap.size (fun _ => True) v5 x5_1) ∧ Aside0 (Below w.heap.size w w'))
 case atStart => exact ⟨(([] : List Int)), (0), rfl, H', ⟨Nat.le_refl _⟩, ⟨by first | exact Kd.R_nil _ _ _ _ _ | exact Kd.N_nil _ _ _ _ _ | exact Kd.V_nil _ _ _ _ _ | exact Kd.Q_nil _ _ _ _ _ | exact Kd.S_nil _ _ _ _ _⟩, HB⟩
 case round =>
  clear H'; (try clear c1); (try clear p2); obtain ⟨x5_1, x6_1, rfl, HA, HK1, HO_5, HB⟩ := hrel
  cases gk with
  | zero => exact absurd HA.out (by simp [F102.l0])
  | succ k1 =>
   have H := HA.out; clear HA; simp only [F102.l0] at H; obtain ⟨t521, A3, H⟩ := bnd H
   by_cases c4 : x6_1 < t521
   ·
    rw [if_pos c4] at H; have c4b0 : decide (x6_1 < t521) = true := dT c4; clear c4; obtain ⟨c5, H⟩ := ifp H; have LMc5 := aM c5; clear c5; obtain ⟨y522, hy522⟩ : ∃ y_ : List Int, y_ = (x5_1 ++ [0]) := ⟨_, rfl⟩; (replace H : (F102.l0 k1 l0 a1 y522 (wrap64 (x6_1 + 1))) = some r := by rw [hy522]; exact H); have Ny522 := aM hy522; clear hy522; have H' := aM H; clear H
    go_wp2_with (first | ((with_reducible refine gate_callee (f := 89) rfl ?_); refine gL 14 Try.func89 #[.int .i64 (l0.length : Int), .int .i64 a1] (h := ?_); (with_reducible refine (F89.calls k1 (l0.length : Int) a1 t521 _ A3.out).mono ?_); rintro e w' ⟨rfl, ⟨nd, rfl⟩⟩; refine ⟨_, rfl, ?_⟩) | ((with_reducible refine gate_builtin (b := .append) (xs := #[.tmp 18, .tmp 19]) rfl ?_); at_builtin; refine Kd.R_append (Kd.int .u64) (w0 := w) w.heap.size rfl (.tmp 18) (.tmp 19) 80 78 (.int .u64 0) 8 rfl Try.underlying80 info78 rfl (by decide) (by omega) u5 x5_1 0 [.int .u64 0] (fun _ => True) (fun _ => False) rfl rfl ?aP (fun _ hk => hk.elim) ?aF ?aO ?aB ?aS ?aL ?_; (case aP => exact rfl); (case aB => exact bZ); (case aF => exact (fun _ _ => trivial)); (case aO => exact (kR HO_5.out)); (case aS => exact (below_size bZ)); (case aL => have := LMc5.out; omega); intro v523 w6 ho hb hg hat; rw [← Ny522.out] at ho; have n0_ := aM (hb); have n1_ := aM (ho); clear HB; clear HO_5; have HB := n0_; have HO524 := n1_; clear n0_ n1_; clear ho hb hg hat))
    go_roundg k1
    case measure => have := HK1.out; omega
    case rel => exact ⟨(y522), (wrap64 (x6_1 + 1)), rfl, H', ⟨by have := HK1.out; omega⟩, HO524, HB⟩
   ·
    rw [if_neg c4] at H; have c4b0 : decide (x6_1 < t521) = false := dF c4; clear c4; have H' := aM H; clear H
    go_wp2_with (first | ((with_reducible refine gate_callee (f := 89) rfl ?_); refine gL 14 Try.func89 #[.int .i64 (l0.length : Int), .int .i64 a1] (h := ?_); (with_reducible refine (F89.calls k1 (l0.length : Int) a1 t521 _ A3.out).mono ?_); rintro e w' ⟨rfl, ⟨nd, rfl⟩⟩; refine ⟨_, rfl, ?_⟩))
    go_loopg [7] k1 (fun kq v7 w' => ∃ (x5_2 : List Int) (x7_2 : Int), v7 = .int .i64 x7_2 ∧ Aside0 (F102.l1 kq l0 a1 x5_2 x7_2 = some r) ∧ Aside0 (kq ≤ k1) ∧ Aside0 (Kd.R (Kd.int .u64) 78 w' w.heap.size (fun _ => True) u5 x5_2) ∧ Aside0 (Below w.heap.size w w'))
    case atStart => exact ⟨(x5_1), (0), rfl, H', ⟨Nat.le_refl _⟩, ⟨kR HO_5.out⟩, ⟨bZ⟩⟩
    case round =>
     clear H'; (try clear c1); (try clear p2); (try clear c4); (try clear c4b0); (try clear c5); (try clear p6); (try clear p2); obtain ⟨x5_2, x7_2, rfl, HA, HK2, HO_5, HB⟩ := hrel
     cases gk with
     | zero => exact absurd HA.out (by simp [F102.l1])
     | succ k2 =>
      have H := HA.out; clear HA; simp only [F102.l1] at H
      by_cases c7 : x7_2 < (l0.length : Int)
      ·
       rw [if_pos c7] at H; have c7b0 : decide (x7_2 < (l0.length : Int)) = true := dT c7; clear c7; have H' := aM H; clear H
       go_wp2
       go_loopg [8] k2 (fun kq v8 w' => ∃ (x5_3 : List Int) (x8_3 : Int), v8 = .int .i64 x8_3 ∧ Aside0 (F102.l2 kq l0 a1 x5_3 x7_2 x8_3 = some r) ∧ Aside0 (kq ≤ k2) ∧ Aside0 (Kd.R (Kd.int .u64) 78 w' w.heap.size (fun _ => True) u5 x5_3) ∧ Aside0 (Below w.heap.size w w'))
       case atStart => exact ⟨(x5_2), (0), rfl, H', ⟨Nat.le_refl _⟩, HO_5, HB⟩
       case round =>
        clear H'; (try clear c1); (try clear p2); (try clear c4); (try clear c4b0); (try clear c5); (try clear p6); (try clear c7); (try clear c7b0); (try clear p2); (try clear p6); obtain ⟨x5_3, x8_3, rfl, HA, HK3, HO_5, HB⟩ := hrel
        cases gk with
        | zero => exact absurd HA.out (by simp [F102.l2])
        | succ k3 =>
         have H := HA.out; clear HA; simp only [F102.l2] at H
         by_cases c8 : x8_3 < a1
         ·
          rw [if_pos c8] at H; have c8b0 : decide (x8_3 < a1) = true := dT c8; clear c8; obtain ⟨ji9, hji9⟩ : ∃ j_ : Int, (wrap64 (Int.tdiv (wrap64 ((wrap64 (x7_2 * a1)) + x8_3)) 64)) = j_ := ⟨_, rfl⟩; (replace H : (if 0 ≤ (ji9) then (if (ji9) < (x5_3.length : Int) then (if 0 ≤ x7_2 then (if x7_2 < (l0.length : Int) then ((F104.f k3 (IntKind.u64.wrap (rd l0 x7_2)) x8_3).bind fun t527 => ((F105.f k3 (Int.tmod (wrap64 ((wrap64 (x7_2 * a1)) + x8_3)) 64)).bind fun t528 => (F102.l2 k3 l0 a1 (x5_3.set ((ji9) : Int).toNat (IntKind.u64.wrap ((rd x5_3 (ji9)) + (IntKind.u64.wrap (t527 * t528))))) x7_2 (wrap64 (x8_3 + 1))))) else (none)) else (none)) else (none)) else (none)) = some r := by first | (rw [hji9] at H; exact H) | (simp only [hji9] at H ⊢; exact H)); have hji9w : (IntKind.i64.wrap (Int.tdiv (wrap64 ((wrap64 (x7_2 * a1)) + x8_3)) 64)) = ji9 := (i64_w _).trans hji9; obtain ⟨c10, H⟩ := ifp H; have c10b0 : decide (0 ≤ (ji9)) = true := dT c10; clear c10; obtain ⟨c11, H⟩ := ifp H; have c11b0 : decide ((ji9) < (x5_3.length : Int)) = true := dT c11; clear c11; obtain ⟨c12, H⟩ := ifp H; have c12b0 : decide (0 ≤ x7_2) = true := dT c12; clear c12; obtain ⟨c13, H⟩ := ifp H; have c13b0 : decide (x7_2 < (l0.length : Int)) = true := dT c13; clear c13; obtain ⟨t527, A14, H⟩ := bnd H; obtain ⟨t528, A15, H⟩ := bnd H; obtain ⟨y529, hy529⟩ : ∃ y_ : List Int, y_ = (x5_3.set ((ji9) : Int).toNat (IntKind.u64.wrap ((rd x5_3 (ji9)) + (IntKind.u64.wrap (t527 * t528))))) := ⟨_, rfl⟩; (replace H : (F102.l2 k3 l0 a1 y529 x7_2 (wrap64 (x8_3 + 1))) = some r := by rw [hy529]; exact H); have Ny529 := aM hy529; clear hy529; have H' := aM H; clear H
          try go_wp2
          replace HO_5 := aM (Kd.R_drew HO_5.out); replace HB := aM (below_drew1 HB.out); obtain ⟨Ao18, co18, eo18⟩ := Kd.R_slice HO_5.out; (first | subst eo18 | (injection eo18 with f1_ f2_ f3_; have f4_ := f1_.symm; have f5_ := f3_.symm; clear f1_ f2_ f3_; subst f4_; subst f5_)); have p525 : 0 ≤ ((ji9) : Int) := oD; have q525 : (ji9) < (x5_3.length : Int) := oD; obtain ⟨ad525, e525, hx525_0⟩ := Kd.at_int (Kd.R_reads' HO_5.out).2.2 (ji9) p525 q525
          cases e525
          replace p525 := eq_true p525; replace q525 := eq_true q525; have p526 : 0 ≤ (x7_2 : Int) := oD; have q526 : x7_2 < (l0.length : Int) := oD; obtain ⟨ad526, e526, hx526_0⟩ := Kd.at_int HR0.out x7_2 p526 q526; have hw526_0 := hx526_0
          cases e526
          replace hx526_0 := cU HB hx526_0; replace p526 := eq_true p526; replace q526 := eq_true q526
          refine start_ (n := 19) (S := fun w' => w'.cell? (ad525.add ((ji9)).toNat) = some (.int .u64 (rd x5_3 (ji9))) ∧ w'.cell? (ad526.add (x7_2).toNat) = some (.int .i64 (rd l0 x7_2))) (ds := [18]) (bA 19 0) (by kernel_rfl) rfl (by kernel_rfl) ⟨hx525_0, (cU HB hw526_0 :)⟩ (fun hHeld => ?_); refine with_tabW F102.tab13 F102.bits13 (fun HT_ HW_ => ?_)
          generalize wr.drew = w17 at HO_5 HB hx525_0 hx526_0 hHeld ⊢
          refine pT 19 0 37 1 HT_ (h := ?_)
          refine pT 19 1 38 3 HT_ (h := ?_)
          refine pT 19 2 39 7 HT_ (h := ?_)
          refine pT 19 3 40 15 HT_ (h := ?_)
          refine pT 19 5 42 47 HT_ (h := ?_)
          refine pT 19 6 43 111 HT_ (h := ?_)
          refine pT 19 7 44 239 HT_ (h := ?_)
          refine pT 19 10 47 1263 HT_ (h := ?_)
          refine pT 19 12 49 5359 HT_ (h := ?_)
          refine pT 19 13 50 13551 HT_ (h := ?_)
          refine tT 19 4 41 13567 HT_ HW_ hHeld (h := ?_)
          refine tT 19 8 45 13823 HT_ HW_ hHeld (h := ?_)
          refine pT 19 9 46 14335 HT_ (h := ?_)
          refine one_ (i := 11) (N := some 48) (bA 19 16383) rfl rfl (one_of HT_.out (by kernel_rfl)) (by decide) (fun K hK => ?_)
          refine gA Try.func104 #[.int .u64 (IntKind.u64.wrap (rd l0 x7_2)), .int .i64 x8_3] (h := ?_)
          with_reducible refine (F104.calls k3 (IntKind.u64.wrap (rd l0 x7_2)) x8_3 t527 _ A14.out).mono ?_
          rintro e w' ⟨rfl, ⟨nd, rfl⟩⟩
          refine ⟨_, rfl, ?_⟩
          refine hK.out _ _ ⟨hHeld.1, (cU HB hw526_0 :)⟩ (fun hHeld => ?_)
          clear hK K
          refine nT 48 (h := ?_)
          refine one_ (i := 14) (N := some 51) (bA 19 32767) rfl rfl (one_of HT_.out (by kernel_rfl)) (by decide) (fun K hK => ?_)
          refine gA Try.func105 #[.int .i64 (Int.tmod (wrap64 ((wrap64 (x7_2 * a1)) + x8_3)) 64)] (h := ?_)
          with_reducible refine (F105.calls k3 (Int.tmod (wrap64 ((wrap64 (x7_2 * a1)) + x8_3)) 64) t528 _ A15.out).mono ?_
          rintro e w' ⟨rfl, ⟨nd, rfl⟩⟩
          refine ⟨_, rfl, ?_⟩
          have p16 : 0 ≤ ((ji9) : Int) := oD; have q16 : ((ji9) : Int) < ((x5_3.length : Int) : Int) := oD; obtain ⟨go16, co16, eo16, gb16, gl16, cl16, HG16⟩ := Kd.R_form HO_5.out (by omega); (first | cases eo16 | (injection eo16 with ea_ en_ ec_; (first | subst ea_ | (injection ea_ with ea_; subst ea_)); subst ec_; clear en_)); have GB16 := aM gb16; have GG16 := aM HG16; clear gb16 gl16 HG16; (first | simp only [add_plain] at hx525_0 | skip); obtain ⟨hx16_0, hf16_0⟩ := Kd.R_celln 0 HO_5.out ((ji9) : Int) p16 q16; replace p16 := eq_true p16; replace q16 := eq_true q16; have HP19 := Kd.R_putn HO_5.out ((ji9) : Int) (IntKind.u64.wrap ((rd x5_3 (ji9)) + (IntKind.u64.wrap (t527 * t528)))); rw [← Ny529.out] at HP19; have HQ19 := aM HP19; clear HP19
          refine hK.out _ _ ⟨hHeld.1, (cU HB hw526_0 :)⟩ (fun hHeld => ?_)
          clear hK K
          refine nT 51 (h := ?_)
          refine pT 19 15 52 65535 HT_ (h := ?_)
          refine pT 19 16 53 131071 HT_ (h := ?_)
          refine pT 19 17 54 262143 HT_ (h := ?_)
          refine last_ (i := 18) (N := none) (bA 19 524287) rfl rfl (one_of HT_.out (by kernel_rfl)) (by decide) (fun K hK => ?_)
          refine skip_ (w1 := ?_) (by rfl) rfl ?_ ?_
          rotate_left
          ·
           go_simp
           rfl
          refine hK.out _ _ ?_
          clear hK K
          refine done_ (done_of HT_.out (by kernel_rfl)) ?_
          try go_wp2
          go_roundg k3
          case measure => have := HK1.out; have := HK2.out; have := HK3.out; omega
          case rel => exact ⟨(y529), (wrap64 (x8_3 + 1)), rfl, H', ⟨by have := HK1.out; have := HK2.out; have := HK3.out; omega⟩, ⟨kR HQ19.out⟩, ⟨by repeat (first | (with_reducible first | exact HB.out | apply below_alloc | apply pw_below_drewN | apply below_drew1 | refine below_set ?_ GB16.out) | exact HB.out)⟩⟩
         ·
          rw [if_neg c8] at H; have c8b0 : decide (x8_3 < a1) = false := dF c8; clear c8; have H' := aM H; clear H
          go_wp2
          go_roundg k3
          case measure => have := HK1.out; have := HK2.out; have := HK3.out; omega
          case rel => exact ⟨(x5_3), (wrap64 (x7_2 + 1)), rfl, H', ⟨by have := HK1.out; have := HK2.out; have := HK3.out; omega⟩, HO_5, HB⟩
      ·
       rw [if_neg c7] at H; have c7b0 : decide (x7_2 < (l0.length : Int)) = false := dF c7; clear c7; obtain rfl := oI H
       go_wp2
       go_ret
       exact ⟨_, rfl, HO_5.out, HB.out⟩

def F86.l0 : Nat → ByteArray → List Int → Int → Option (ByteArray)
 | 0, _, _, _ => none
 | k + 1, x5, x6, x7 => if x7 < (x6.length : Int) then (if 0 ≤ x7 then ((F85.f k (rd x6 x7) 8).bind fun t537 => (if x5.size + t537.size ≤ 9223372036854775807 then (F86.l0 k (x5 ++ t537) x6 (wrap64 (x7 + 1))) else (none))) else (none)) else (some x5)
def F86.f (k : Nat) (a0_0 : Int) (a0_1 : Int) (l0_2 : List Int) (a1 : Int) : Option (ByteArray) := (F101.f k a0_0).bind fun t531 => ((F85.f k (IntKind.u64.wrap (a0_1)) 4).bind fun t532 => (if t531.size + t532.size ≤ 9223372036854775807 then ((F102.f k l0_2 a1).bind fun t533 => (F86.l0 k (t531 ++ t532) t533 0)) else (none)))
theorem F86.mono_l : ∀ k, (∀ y0 y1 y2, LeO (F86.l0 k y0 y1 y2) (F86.l0 (k + 1) y0 y1 y2))
 | 0 => fun _ _ _ r h => by simp [F86.l0] at h
 | k + 1 => by
  have ih0 := F86.mono_l k
  ·
   intro y0 y1 y2; unfold F86.l0
   repeat' with_reducible first | exact ih0 _ _ _ | exact F102.mono _ _ _ | exact F85.mono _ _ _ | exact F101.mono _ _ | exact LeO.refl _ | exact LeO.none _ | refine LeO.ite ?_ ?_ | refine LeO.bind ?_ (fun _ => ?_)
theorem F86.mono : ∀ a0 a1 a2 a3 k, LeO (F86.f k a0 a1 a2 a3) (F86.f (k + 1) a0 a1 a2 a3) := by
 intro a0 a1 a2 a3 k; have ih0 := F86.mono_l k; unfold F86.f
 repeat' with_reducible first | exact ih0 _ _ _ | exact F102.mono _ _ _ | exact F85.mono _ _ _ | exact F101.mono _ _ | exact LeO.refl _ | exact LeO.none _ | refine LeO.ite ?_ ?_ | refine LeO.bind ?_ (fun _ => ?_)
def F86.T1 : Bool × List (List Nat × List Nat) := (true, [([], []), ([0], [0]), ([1], [1]), ([], []), ([3], [3]), ([4], [4]), ([5, 2], [5]), ([2, 6], [2, 6]), ([7, 6, 0, 1, 2, 3, 4, 5, 6, 7], [7])])
def F86.B1 : List Nat := [0, 1, 3, 0, 8, 24, 63, 127, 255]
theorem F86.tab1 : rtab .any (opsOf Try.f86 1) = F86.T1 := by kernel_rfl
theorem F86.bits1 : waitsOk F86.T1.2 F86.B1 = true := by kernel_rfl
theorem F86.calls (k : Nat) (a0_0 : Int) (a0_1 : Int) (A0_2 : Option Addr) (c0_2 : Nat) (l0_2 : List Int) (a1 : Int) (r : ByteArray) (w : World) (hr0_2 : Kd.C (Kd.int .i64) w A0_2 l0_2.length l0_2) (hc0_2 : l0_2.length ≤ c0_2) (h : F86.f k a0_0 a0_1 l0_2 a1 = some r) :
  Calls Try.prog 86 #[.agg #[.int .i32 a0_0, .int .u32 a0_1, .slice A0_2 l0_2.length c0_2], .int .i64 a1] w fun e w' => e = .returned (.string r) ∧ Below w.heap.size w w' := by
 have hu98 := Try.underlying98; have HR0_2 := aM hr0_2; have HC0_2 := aM hc0_2; clear hr0_2 hc0_2; have HB := aM (Below.refl w.heap.size w); have H := h; clear h; unfold F86.f at H; obtain ⟨t531, A3, H⟩ := bnd H; obtain ⟨t532, A4, H⟩ := bnd H; obtain ⟨c5, H⟩ := ifp H; have c5b0 := eq_true c5; have c5b1 : decide (t531.size + t532.size ≤ 9223372036854775807) = true := dT c5
 try have c5b2 : (9223372036854775807 < t531.size + t532.size) = False := eq_false (Nat.not_lt.2 c5)
 (try (have c5b3 := c5b2; simp only [ByteArray.size_append] at c5b3)); obtain ⟨t533, A6, H⟩ := bnd H; have H' := aM H; clear H
 go_enter Try.func86, Try.ntmps86
 try go_wp2_with (first | ((with_reducible refine gate_dst (N := 2) rfl ?_); refine bxE 2 #[.int .i32 a0_0, .int .u32 a0_1, .slice A0_2 l0_2.length c0_2] 98 (h := ?_); intro gb530 hg w7 hbox hb; have BK530 := aM (hbox); have GW530 := gE hg HB; have GE530 := gE hg HB; replace HB := bst HB hb; clear hb hbox hg))
 replace BK530 := aM (blk_drew BK530.out); replace HB := aM (below_drew1 HB.out)
 refine start_ (n := 9) (S := fun w' => w'.cell? ⟨gb530, 0, none⟩ = some (.int .i32 a0_0) ∧ w'.cell? ⟨gb530, 1, none⟩ = some (.int .u32 a0_1) ∧ w'.cell? ⟨gb530, 2, none⟩ = some (.slice A0_2 l0_2.length c0_2)) (ds := []) (bA 9 0) (by kernel_rfl) rfl (by kernel_rfl) (cx3 BK530.out) (fun hHeld => ?_); refine with_tabW F86.tab1 F86.bits1 (fun HT_ HW_ => ?_)
 generalize w7.drew = w8 at BK530 HB hHeld ⊢
 refine pT 9 0 8 1 HT_ (h := ?_)
 refine pT 9 3 11 9 HT_ (h := ?_)
 refine tT 9 1 9 11 HT_ HW_ hHeld (h := ?_)
 refine tT 9 4 12 27 HT_ HW_ hHeld (h := ?_)
 refine pT 9 5 13 59 HT_ (h := ?_)
 refine one_ (i := 2) (N := some 10) (bA 9 63) rfl rfl (one_of HT_.out (by kernel_rfl)) (by decide) (fun K hK => ?_)
 refine gA Try.func101 #[.int .i32 a0_0] (h := ?_)
 with_reducible refine (F101.calls k a0_0 t531 _ A3.out).mono ?_
 rintro e w9 ⟨rfl, hb⟩
 refine ⟨_, rfl, ?_⟩
 replace BK530 := aM (blk_below (g := gb530) (o := .cells #[.int .i32 a0_0, .int .u32 a0_1, .slice A0_2 l0_2.length c0_2] 98 (0, 0)) (bK BK530.out) hb); replace HB := aM (below_step bZ hb); (try clear hb); (try clear hb2); (try clear hk); (try clear hi)
 refine hK.out _ _ (cx3 BK530.out) (fun hHeld => ?_)
 clear hK K
 refine nT 10 (h := ?_)
 refine one_ (i := 6) (N := some 14) (bA 9 127) rfl rfl (one_of HT_.out (by kernel_rfl)) (by decide) (fun K hK => ?_)
 refine gA Try.func85 #[.int .u64 (IntKind.u64.wrap (a0_1)), .int .i64 4] (h := ?_)
 with_reducible refine (F85.calls k (IntKind.u64.wrap (a0_1)) 4 t532 _ A4.out).mono ?_
 rintro e w10 ⟨rfl, hb⟩
 refine ⟨_, rfl, ?_⟩
 replace BK530 := aM (blk_below (g := gb530) (o := .cells #[.int .i32 a0_0, .int .u32 a0_1, .slice A0_2 l0_2.length c0_2] 98 (0, 0)) (bK BK530.out) hb); replace HB := aM (below_step bZ hb); (try clear hb); (try clear hb2); (try clear hk); (try clear hi)
 refine hK.out _ _ (cx3 BK530.out) (fun hHeld => ?_)
 clear hK K
 refine nT 14 (h := ?_)
 refine pT 9 7 15 255 HT_ (h := ?_)
 refine pT 9 8 5 511 HT_ (h := ?_)
 refine done_ (done_of HT_.out (by kernel_rfl)) ?_
 have hz11 := bx3 BK530.out
 try go_wp2_with (first | ((with_reducible refine gate_callee (f := 102) rfl ?_); refine gL 19 Try.func102 #[.slice A0_2 l0_2.length c0_2, .int .i64 a1] (h := ?_); (with_reducible refine (F102.calls k _ _ l0_2 a1 t533 _ ?side1 ?side2 A6.out).mono ?_); (case side1 => with_reducible exact (Kd.C_below HR0_2.out HB.out)); (case side2 => exact HC0_2.out); rintro e w12 ⟨v534, rfl, ho0, hb⟩; refine ⟨_, rfl, ?_⟩; have HO535 := aM (Kd.R_lower ho0 (bsz HB)); replace BK530 := kst BK530 hb; replace HB := bst HB hb; clear hb ho0))
 go_loopg [5, 7] k (fun kq v5 v7 w' => ∃ (x5_1 : ByteArray) (x7_1 : Int), v5 = .string x5_1 ∧ v7 = .int .i64 x7_1 ∧ Aside0 (F86.l0 kq x5_1 t533 x7_1 = some r) ∧ Aside0 (kq ≤ k) ∧ Aside0 (Kd.R (Kd.int .u64) 78 w' w.heap.size (fun _ => True) v534 t533) ∧ Aside0 (w'.heap[gb530]? = some (.cells #[.int .i32 a0_0, .int .u32 a0_1, (.slice A0_2 l0_2.length c0_2)] 98 (0, 0))) ∧ Aside0 (Below w.heap.size w w'))
 case atStart => exact ⟨(t531 ++ t532), (0), rfl, rfl, H', ⟨Nat.le_refl _⟩, HO535, BK530, HB⟩
 case round =>
  clear H'; (try clear c1); (try clear p2); (try clear c5); (try clear c5b0); (try clear c5b1); (try clear c5b2); (try clear c8); (try clear c10); (try clear hz11); obtain ⟨x5_1, x7_1, rfl, rfl, HA, HK1, HO_6, BK530, HB⟩ := hrel
  cases gk with
  | zero => exact absurd HA.out (by simp [F86.l0])
  | succ k1 =>
   have H := HA.out; clear HA; simp only [F86.l0] at H
   by_cases c13 : x7_1 < (t533.length : Int)
   ·
    rw [if_pos c13] at H; have c13b0 : decide (x7_1 < (t533.length : Int)) = true := dT c13; clear c13; obtain ⟨c14, H⟩ := ifp H; have c14b0 : decide (0 ≤ x7_1) = true := dT c14; clear c14; obtain ⟨t537, A15, H⟩ := bnd H; obtain ⟨c16, H⟩ := ifp H; have c16b0 := eq_true c16; have c16b1 : decide (x5_1.size + t537.size ≤ 9223372036854775807) = true := dT c16
    try have c16b2 : (9223372036854775807 < x5_1.size + t537.size) = False := eq_false (Nat.not_lt.2 c16)
    (try (have c16b3 := c16b2; simp only [ByteArray.size_append] at c16b3)); have H' := aM H; clear H; obtain ⟨Ao17, co17, eo17⟩ := Kd.R_slice HO_6.out; subst eo17; have p536 : 0 ≤ (x7_1 : Int) := oD; have q536 : x7_1 < (t533.length : Int) := oD; obtain ⟨ad536, e536, hx536_0⟩ := Kd.at_int (Kd.R_reads' HO_6.out).2.2 x7_1 p536 q536
    cases e536
    replace p536 := eq_true p536; replace q536 := eq_true q536
    go_wp2_with (first | ((with_reducible refine gate_callee (f := 85) rfl ?_); refine gL 31 Try.func85 #[.int .u64 (rd t533 x7_1), .int .i64 8] (h := ?_); (with_reducible refine (F85.calls k1 (rd t533 x7_1) 8 t537 _ A15.out).mono ?_); rintro e w18 ⟨rfl, hb⟩; refine ⟨_, rfl, ?_⟩; replace HO_6 := rst HO_6 hb; replace BK530 := kst BK530 hb; replace HB := bst HB hb; clear hb))
    go_roundg k1
    case measure => have := HK1.out; omega
    case rel => exact ⟨(x5_1 ++ t537), (wrap64 (x7_1 + 1)), rfl, rfl, H', ⟨by have := HK1.out; omega⟩, HO_6, BK530, HB⟩
   ·
    rw [if_neg c13] at H; have c13b0 : decide (x7_1 < (t533.length : Int)) = false := dF c13; clear c13; obtain rfl := oI H; obtain ⟨Ao19, co19, eo19⟩ := Kd.R_slice HO_6.out; subst eo19
    go_wp2
    go_ret
    exact ⟨rfl, HB.out⟩

def F103.l0 : Nat → ByteArray → Int → Int → Option (Int)
 | 0, _, _, _ => none
 | k + 1, x0, x3, x4 => if x4 < (x0.size : Int) then (if 0 ≤ x4 then (F103.l0 k x0 (Int.tmod (IntKind.u64.wrap ((Go.bits .xor .u64 x3 (IntKind.u64.wrap (bt x0 x4))) * 16777619)) 4294967296) (wrap64 (x4 + 1))) else (none)) else (some ((x3) % 4294967296))
def F103.f (k : Nat) (a0 : ByteArray) : Option (Int) := F103.l0 k a0 2166136261 0
theorem F103.mono_l : ∀ k, (∀ y0 y1 y2, LeO (F103.l0 k y0 y1 y2) (F103.l0 (k + 1) y0 y1 y2))
 | 0 => fun _ _ _ r h => by simp [F103.l0] at h
 | k + 1 => by
  have ih0 := F103.mono_l k
  ·
   intro y0 y1 y2; unfold F103.l0
   repeat' with_reducible first | exact ih0 _ _ _ | exact LeO.refl _ | exact LeO.none _ | refine LeO.ite ?_ ?_ | refine LeO.bind ?_ (fun _ => ?_)
theorem F103.mono : ∀ a0 k, LeO (F103.f k a0) (F103.f (k + 1) a0) := by
 intro a0 k; have ih0 := F103.mono_l k; unfold F103.f
 repeat' with_reducible first | exact ih0 _ _ _ | exact LeO.refl _ | exact LeO.none _ | refine LeO.ite ?_ ?_ | refine LeO.bind ?_ (fun _ => ?_)
theorem F103.calls (k : Nat) (a0 : ByteArray) (r : Int) (w : World) (h : F103.f k a0 = some r) :
  Calls Try.prog 103 #[.string a0] w fun e w' => e = .returned (.int .u32 r) ∧ Drawn0 w w' := by
 have H := h; clear h; unfold F103.f at H; have H' := aM H; clear H
 go_enter Try.func103, Try.ntmps103
 go_wp2
 go_loopg [3, 4] k (fun kq v3 v4 w' => ∃ (x3_1 : Int) (x4_1 : Int), v3 = .int .u64 x3_1 ∧ v4 = .int .i64 x4_1 ∧ Aside0 (F103.l0 kq a0 x3_1 x4_1 = some r) ∧ Aside0 (kq ≤ k) ∧ Drawn0 w w')
 case atStart => exact ⟨(2166136261), (0), rfl, rfl, H', ⟨Nat.le_refl _⟩, dR⟩
 case round =>
  clear H'; (try clear c1); obtain ⟨x3_1, x4_1, rfl, rfl, HA, HK1, ⟨m1, rfl⟩⟩ := hrel
  cases gk with
  | zero => exact absurd HA.out (by simp [F103.l0])
  | succ k1 =>
   have H := HA.out; clear HA; simp only [F103.l0] at H
   by_cases c2 : x4_1 < (a0.size : Int)
   ·
    rw [if_pos c2] at H; have c2b0 : decide (x4_1 < (a0.size : Int)) = true := dT c2; clear c2; obtain ⟨c3, H⟩ := ifp H; have c3b0 : decide (0 ≤ x4_1) = true := dT c3; clear c3; have H' := aM H; clear H; have p4 : 0 ≤ (x4_1 : Int) := oD; have q4 : x4_1 < (a0.size : Int) := oD; have hx4 := bt_at a0 x4_1; replace p4 := eq_true p4; replace q4 := eq_true q4
    go_wp2
    go_roundg k1
    case measure => have := HK1.out; omega
    case rel => exact ⟨(Int.tmod (IntKind.u64.wrap ((Go.bits .xor .u64 x3_1 (IntKind.u64.wrap (bt a0 x4_1))) * 16777619)) 4294967296), (wrap64 (x4_1 + 1)), rfl, rfl, H', ⟨by have := HK1.out; omega⟩, dR⟩
   ·
    rw [if_neg c2] at H; have c2b0 : decide (x4_1 < (a0.size : Int)) = false := dF c2; clear c2; obtain rfl := oI H
    go_wp2
    go_ret
    exact ⟨rfl, dR⟩

def F87.f (k : Nat) (a0 : ByteArray) : Option (ByteArray) := (F103.f k a0).bind fun t538 => ((F85.f k (IntKind.u64.wrap (t538)) 4).bind fun t539 => (if a0.size + t539.size ≤ 9223372036854775807 then (some (a0 ++ t539)) else (none)))
theorem F87.mono : ∀ a0 k, LeO (F87.f k a0) (F87.f (k + 1) a0) := by
 intro a0 k; unfold F87.f
 repeat' with_reducible first | exact F85.mono _ _ _ | exact F103.mono _ _ | exact LeO.refl _ | exact LeO.none _ | refine LeO.ite ?_ ?_ | refine LeO.bind ?_ (fun _ => ?_)
theorem F87.calls (k : Nat) (a0 : ByteArray) (r : ByteArray) (w : World) (h : F87.f k a0 = some r) :
  Calls Try.prog 87 #[.string a0] w fun e w' => e = .returned (.string r) ∧ Below w.heap.size w w' := by
 have HB := aM (Below.refl w.heap.size w); have H : ((F103.f k a0).bind fun t538 => ((F85.f k (IntKind.u64.wrap (t538)) 4).bind fun t539 => (if a0.size + t539.size ≤ 9223372036854775807 then (some (a0 ++ t539)) else (none)))) = some r := h; clear h; replace H := Option.bind_eq_some_iff.mp H; obtain ⟨t538, A20, H⟩ := H; replace H : ((F85.f k (IntKind.u64.wrap (t538)) 4).bind fun t539 => (if a0.size + t539.size ≤ 9223372036854775807 then (some (a0 ++ t539)) else (none))) = some r := H; have A2 := aM A20; clear A20; replace H := Option.bind_eq_some_iff.mp H; obtain ⟨t539, A30, H⟩ := H; replace H : (if a0.size + t539.size ≤ 9223372036854775807 then (some (a0 ++ t539)) else (none)) = some r := H; have A3 := aM A30; clear A30
 by_cases c4 : a0.size + t539.size ≤ 9223372036854775807
 case neg => (rw [if_neg c4] at H; exact absurd H (by simp))
 rw [if_pos c4] at H; have c4b0 := eq_true c4; have c4b1 : decide (a0.size + t539.size ≤ 9223372036854775807) = true := dT c4
 try have c4b2 : (9223372036854775807 < a0.size + t539.size) = False := eq_false (Nat.not_lt.2 c4)
 (try (have c4b3 := c4b2; simp only [ByteArray.size_append] at c4b3)); obtain rfl := oI H
 go_enter Try.func87, Try.ntmps87
 go_wp2_with (first | ((with_reducible refine gate_callee (f := 103) rfl ?_); refine gL 5 Try.func103 #[.string a0] (h := ?_); (with_reducible refine (F103.calls k a0 t538 _ A2.out).mono ?_); rintro e w' ⟨rfl, ⟨nd, rfl⟩⟩; refine ⟨_, rfl, ?_⟩) | ((with_reducible refine gate_callee (f := 85) rfl ?_); refine gL 7 Try.func85 #[.int .u64 (IntKind.u64.wrap (t538)), .int .i64 4] (h := ?_); (with_reducible refine (F85.calls k (IntKind.u64.wrap (t538)) 4 t539 _ A3.out).mono ?_); rintro e w5 ⟨rfl, hb⟩; refine ⟨_, rfl, ?_⟩; have n0_ := aM (below_step bZ hb); clear HB; have HB := n0_; clear n0_; clear hb))
 go_ret
 exact ⟨rfl, HB.out⟩

end Go.Proofs.Ytekenaclmplocaa.PPageParses
