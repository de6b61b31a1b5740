-- Written by a program of this session (wip/tools/mkprint.py over the kit's print).
import Derived.Test.YtekenaclmplocaaPPageParsesx0
import Derived.Test.YtekenaclmplocaaPPageParsesx3
import Derived.Test.YtekenaclmplocaaPPageParsesx4
namespace Go.Proofs.Ytekenaclmplocaa.PPageParses
open Go.RowKit Go.Proofs.YtekenaclmplocaaW.PrintWords Go.Proofs.YtekenaclmplocaaW.PrintLast Go.Proofs.YtekenaclmplocaaW.PrintMore
attribute [local go_sem] max2_int min2_int max_two min_two max_three min_three max_four min_four
set_option linter.unusedVariables false
set_option maxHeartbeats 8000000
set_option maxRecDepth 100000
set_option linter.unusedSimpArgs false

def F79.l0 : Nat → List Int → List Int → Int → Int → Int → Option (List Int × Int)
 | 0, _, _, _, _, _ => none
 | k + 1, x6, x28, x29, x30, x120000 => if x30 < x29 then (if 0 ≤ x30 then (if x30 < (x28.length : Int) then (if 0 ≤ (wrap64 (Int.tdiv (wrap64 (x30 * x120000)) 64)) then (if (wrap64 (Int.tdiv (wrap64 (x30 * x120000)) 64)) < (x6.length : Int) then (if 0 ≤ (Int.tmod (wrap64 (x30 * x120000)) 64) then (F79.l0 k (x6.set ((wrap64 (Int.tdiv (wrap64 (x30 * x120000)) 64)) : Int).toNat (Go.bits .or .u64 (rd x6 (wrap64 (Int.tdiv (wrap64 (x30 * x120000)) 64))) (shl .u64 (IntKind.u64.wrap (rd x28 x30)) (Int.tmod (wrap64 (x30 * x120000)) 64)))) x28 x29 (wrap64 (x30 + 1)) x120000) else (none)) else (none)) else (none)) else (none)) else (none)) else (some (x6, 0))
def F79.f (k : Nat) (l0 : List Int) (a1 : Int) : Option (List Int × Int) := (F48.f a1).bind fun t120 => (if t120 = true then ((F88.f (l0.length : Int)).bind fun t121 => (if t121 = true then ((F94bb.f l0 a1).bind fun t122 => (if t122 = true then (some (([] : List Int), 11)) else ((F57.f (l0.length : Int) a1).bind fun t123 => (if 0 ≤ t123 then (if (t123 : Int).toNat ≤ 35184372088832 then (F79.l0 k (List.replicate (t123 : Int).toNat 0) l0 (l0.length : Int) 0 a1) else (none)) else (none))))) else (some (([] : List Int), 12)))) else (some (([] : List Int), 20)))
theorem F79.mono_l : ∀ k, (∀ y0 y1 y2 y3 y4, LeO (F79.l0 k y0 y1 y2 y3 y4) (F79.l0 (k + 1) y0 y1 y2 y3 y4))
 | 0 => fun _ _ _ _ _ r h => by simp [F79.l0] at h
 | k + 1 => by
  have ih0 := F79.mono_l k
  ·
   intro y0 y1 y2 y3 y4; unfold F79.l0
   repeat' with_reducible first | exact ih0 _ _ _ _ _ | exact LeO.refl _ | exact LeO.none _ | refine LeO.ite ?_ ?_ | refine LeO.bind ?_ (fun _ => ?_)
theorem F79.mono : ∀ a0 a1 k, LeO (F79.f k a0 a1) (F79.f (k + 1) a0 a1) := by
 intro a0 a1 k; have ih0 := F79.mono_l k; unfold F79.f
 repeat' with_reducible first | exact ih0 _ _ _ _ _ | exact LeO.refl _ | exact LeO.none _ | refine LeO.ite ?_ ?_ | refine LeO.bind ?_ (fun _ => ?_)
def F79.T12 : Bool × List (List Nat × List Nat) := (true, [([], []), ([], []), ([1], [1]), ([0, 2], [0, 2]), ([3], [3]), ([], []), ([5], [5]), ([], []), ([7], [7]), ([6, 8], [6, 8]), ([4, 9], [4, 9]), ([0, 2, 0, 1, 2, 3, 4, 5, 6, 7, 8, 9, 10], [0, 2]), ([11, 10, 0, 1, 2, 3, 4, 5, 6, 7, 8, 9, 10], [10, 11])])
def F79.B12 : List Nat := [0, 0, 2, 7, 15, 0, 32, 0, 128, 480, 1023, 2047, 4095]
theorem F79.tab12 : rtab .any (opsOf Try.f79 12) = F79.T12 := by kernel_rfl
theorem F79.bits12 : waitsOk F79.T12.2 F79.B12 = true := by kernel_rfl
theorem F79.calls (k : Nat) (A0 : Option Addr) (c0 : Nat) (l0 : List Int) (a1 : Int) (r1 : List Int) (r2 : Int) (w : World) (hr0 : Kd.C (Kd.int .i64) w A0 l0.length l0) (hc0 : l0.length ≤ c0) (h : F79.f k l0 a1 = some (r1, r2)) :
  Calls Try.prog 79 #[.slice A0 l0.length c0, .int .i64 a1] w fun e w' => ∃ v0_ : Value, e = .returned (.tuple #[v0_, .int .i64 r2]) ∧ Kd.R (Kd.int .u64) 78 w' w.heap.size (fun _ => True) v0_ r1 ∧ Below w.heap.size w w' := by
 have HR0 := aM hr0; have HC0 := aM hc0; clear hr0 hc0; have HB := aM (Below.refl w.heap.size w); have H := h; clear h; unfold F79.f at H; obtain ⟨t120, A3, H⟩ := bnd H
 by_cases c4 : t120 = true
 ·
  subst c4; rw [if_pos rfl] at H; obtain ⟨t121, A5, H⟩ := bnd H
  by_cases c6 : t121 = true
  ·
   subst c6; rw [if_pos rfl] at H; obtain ⟨t122, A7, H⟩ := bnd H
   by_cases c8 : t122 = true
   ·
    subst c8; rw [if_pos rfl] at H; simp only [Option.some.injEq, Prod.mk.injEq] at H; obtain ⟨rfl, rfl⟩ := H
    go_enter Try.func79, Try.ntmps79
    go_wp2_with (first | ((with_reducible refine gate_dst (N := 3) rfl ?_); refine bxE 3 #[.int .i64 a1] 3 (h := ?_); intro gb119 hg w9 hbox hb; have BK119 := aM (hbox); have GW119 := gE hg HB; have GE119 := gE hg HB; replace HB := bst HB hb; clear hb hbox hg; have hz10 := bx1 BK119.out) | ((with_reducible refine gate_callee (f := 48) rfl ?_); refine gL 12 Try.func48 #[.int .i64 a1] (h := ?_); (with_reducible refine (F48.calls a1 true _ A3.out).mono ?_); rintro e w' ⟨rfl, ⟨nd, rfl⟩⟩; refine ⟨_, rfl, ?_⟩) | ((with_reducible refine gate_callee (f := 88) rfl ?_); refine gL 17 Try.func88 #[.int .i64 (l0.length : Int)] (h := ?_); (with_reducible refine (F88.calls (l0.length : Int) true _ A5.out).mono ?_); rintro e w' ⟨rfl, ⟨nd, rfl⟩⟩; refine ⟨_, rfl, ?_⟩) | ((with_reducible refine gate_callee (f := 94) rfl ?_); refine gL 22 Try.func94 #[.slice A0 l0.length c0, .func (.func 98) #[] #[.pointer (some ⟨gb119, 0, none⟩)]] (h := ?_); (with_reducible refine (F94bb.calls _ _ l0 gb119 a1 true _ ?side1 ?side2 ?side3 A7.out).mono ?_); (case side1 => repeat (first | exact (Kd.C_below HR0.out bZ) | (with_reducible refine Kd.C_alloc ?_ _) | (with_reducible refine Kd.C_drewN ?_ _) | (with_reducible refine Kd.C_drew ?_))); (case side2 => exact HC0.out); (case side3 => exact by (with_reducible repeat (first | refine blk_drewN ?_ _ | refine blk_drew ?_ | refine blk_alloc ?_ _)); exact BK119.out); rintro e w' ⟨rfl, ⟨nd, rfl⟩⟩; refine ⟨_, rfl, ?_⟩))
    go_ret2
    exact ⟨_, rfl, by first | exact Kd.R_nil _ _ _ _ _ | exact Kd.N_nil _ _ _ _ _ | exact Kd.V_nil _ _ _ _ _ | exact Kd.Q_nil _ _ _ _ _ | exact Kd.S_nil _ _ _ _ _, bZ⟩
   ·
    replace c8 := Bool.eq_false_iff.mpr c8; subst c8; rw [if_neg (show ¬ (false = true) by decide)] at H; obtain ⟨t123, A11, H⟩ := bnd H; obtain ⟨c12, H⟩ := ifp H; have c12b0 := eq_true c12; have c12b1 : decide (0 ≤ t123) = true := dT c12; clear c12; obtain ⟨c13, H⟩ := ifp H; have c13b0 := eq_true c13; have c13b1 : decide ((t123 : Int).toNat ≤ 35184372088832) = true := dT c13; clear c13; obtain ⟨y124, hy124⟩ : ∃ y_ : List Int, y_ = (List.replicate (t123 : Int).toNat 0) := ⟨_, rfl⟩; (replace H : (F79.l0 k y124 l0 (l0.length : Int) 0 a1) = some (r1, r2) := by rw [hy124]; exact H); have Ny124 := aM hy124; clear hy124; have H' := aM H; clear H
    go_enter Try.func79, Try.ntmps79
    go_wp2_with (first | ((with_reducible refine gate_dst (N := 3) rfl ?_); refine bxE 3 #[.int .i64 a1] 3 (h := ?_); intro gb119 hg w14 hbox hb; have BK119 := aM (hbox); have GW119 := gE hg HB; have GE119 := gE hg HB; replace HB := bst HB hb; clear hb hbox hg; have hz15 := bx1 BK119.out) | ((with_reducible refine gate_callee (f := 48) rfl ?_); refine gL 12 Try.func48 #[.int .i64 a1] (h := ?_); (with_reducible refine (F48.calls a1 true _ A3.out).mono ?_); rintro e w' ⟨rfl, ⟨nd, rfl⟩⟩; refine ⟨_, rfl, ?_⟩) | ((with_reducible refine gate_callee (f := 88) rfl ?_); refine gL 17 Try.func88 #[.int .i64 (l0.length : Int)] (h := ?_); (with_reducible refine (F88.calls (l0.length : Int) true _ A5.out).mono ?_); rintro e w' ⟨rfl, ⟨nd, rfl⟩⟩; refine ⟨_, rfl, ?_⟩) | ((with_reducible refine gate_callee (f := 94) rfl ?_); refine gL 22 Try.func94 #[.slice A0 l0.length c0, .func (.func 98) #[] #[.pointer (some ⟨gb119, 0, none⟩)]] (h := ?_); (with_reducible refine (F94bb.calls _ _ l0 gb119 a1 false _ ?side1 ?side2 ?side3 A7.out).mono ?_); (case side1 => repeat (first | exact (Kd.C_below HR0.out bZ) | (with_reducible refine Kd.C_alloc ?_ _) | (with_reducible refine Kd.C_drewN ?_ _) | (with_reducible refine Kd.C_drew ?_))); (case side2 => exact HC0.out); (case side3 => exact by (with_reducible repeat (first | refine blk_drewN ?_ _ | refine blk_drew ?_ | refine blk_alloc ?_ _)); exact BK119.out); rintro e w' ⟨rfl, ⟨nd, rfl⟩⟩; refine ⟨_, rfl, ?_⟩) | ((with_reducible refine gate_callee (f := 57) rfl ?_); refine gL 26 Try.func57 #[.int .i64 (l0.length : Int), .int .i64 a1] (h := ?_); (with_reducible refine (F57.calls (l0.length : Int) a1 t123 _ A11.out).mono ?_); rintro e w' ⟨rfl, ⟨nd, rfl⟩⟩; refine ⟨_, rfl, ?_⟩) | ((with_reducible refine gate_dst (N := 27) rfl ?_); refine Kd.R_make (Kd.int .u64) _ 78 rfl (N := 27) rfl 80 _ _ rfl t123 rfl rfl Try.underlying80 (.int .u64 0) 8 info78 rfl (by decide) (by omega) 0 (ok := fun _ => True) (okp := fun _ => True) rfl (fun _ hk => hk) trivial oD (Nat.le_trans (Nat.mul_le_mul_right _ (oD : t123.toNat ≤ 35184372088832)) (by omega)) (Below.refl _ _) (Nat.le_refl _) ?_; intro v125 w16 ho17 hb hg_ hnew_; clear hg_ hnew_; (first | rw [← Ny124.out] at ho17 | (simp only [Int.reduceToNat] at ho17; rw [← Ny124.out] at ho17)); have HO126 := aM (Kd.R_lower ho17 (below_size bZ)); replace BK119 := aM (blk_below (g := gb119) (o := .cells #[.int .i64 a1] 3 (0, 0)) (bK BK119.out) hb); replace HB := aM (below_step bZ hb); clear hb ho17))
    go_loopg [30] k (fun kq v30 w' => ∃ (x6_1 : List Int) (x30_1 : Int), v30 = .int .i64 x30_1 ∧ Aside0 (F79.l0 kq x6_1 l0 (l0.length : Int) x30_1 a1 = some (r1, r2)) ∧ Aside0 (kq ≤ k) ∧ Aside0 (Kd.R (Kd.int .u64) 78 w' w.heap.size (fun _ => True) v125 x6_1) ∧ Aside0 (w'.heap[gb119]? = some (.cells #[.int .i64 a1] 3 (0, 0))) ∧ Aside0 (Below w.heap.size w w'))
    case atStart => exact ⟨(y124), (0), rfl, H', ⟨Nat.le_refl _⟩, HO126, BK119, HB⟩
    case round =>
     clear H'; (try clear c1); (try clear p2); (try clear c4); (try clear c5); (try clear c6); (try clear c7); (try clear c8); (try clear c9); (try clear c12); (try clear c12b0); (try clear c12b1); (try clear c13); (try clear c13b0); (try clear c13b1); (try clear hz10); (try clear hz15); obtain ⟨x6_1, x30_1, rfl, HA, HK1, HO_6, BK119, HB⟩ := hrel
     cases gk with
     | zero => exact absurd HA.out (by simp [F79.l0])
     | succ k1 =>
      have H := HA.out; clear HA; simp only [F79.l0] at H
      by_cases c18 : x30_1 < (l0.length : Int)
      ·
       rw [if_pos c18] at H; have c18b0 : decide (x30_1 < (l0.length : Int)) = true := dT c18; clear c18; obtain ⟨c19, H⟩ := ifp H; have c19b0 : decide (0 ≤ x30_1) = true := dT c19; clear c19; obtain ⟨c20, H⟩ := ifp H; have c20b0 : decide (x30_1 < (l0.length : Int)) = true := dT c20; clear c20; obtain ⟨ji21, hji21⟩ : ∃ j_ : Int, (wrap64 (Int.tdiv (wrap64 (x30_1 * a1)) 64)) = j_ := ⟨_, rfl⟩; (replace H : (if 0 ≤ (ji21) then (if (ji21) < (x6_1.length : Int) then (if 0 ≤ (Int.tmod (wrap64 (x30_1 * a1)) 64) then (F79.l0 k1 (x6_1.set ((ji21) : Int).toNat (Go.bits .or .u64 (rd x6_1 (ji21)) (shl .u64 (IntKind.u64.wrap (rd l0 x30_1)) (Int.tmod (wrap64 (x30_1 * a1)) 64)))) l0 (l0.length : Int) (wrap64 (x30_1 + 1)) a1) else (none)) else (none)) else (none)) = some (r1, r2) := by first | (rw [hji21] at H; exact H) | (simp only [hji21] at H ⊢; exact H)); have hji21w : (IntKind.i64.wrap (Int.tdiv (wrap64 (x30_1 * a1)) 64)) = ji21 := (i64_w _).trans hji21; obtain ⟨c22, H⟩ := ifp H; have c22b0 : decide (0 ≤ (ji21)) = true := dT c22; clear c22; obtain ⟨c23, H⟩ := ifp H; have c23b0 : decide ((ji21) < (x6_1.length : Int)) = true := dT c23; clear c23; obtain ⟨ji24, hji24⟩ : ∃ j_ : Int, (Int.tmod (wrap64 (x30_1 * a1)) 64) = j_ := ⟨_, rfl⟩; (replace H : (if 0 ≤ (ji24) then (F79.l0 k1 (x6_1.set ((ji21) : Int).toNat (Go.bits .or .u64 (rd x6_1 (ji21)) (shl .u64 (IntKind.u64.wrap (rd l0 x30_1)) (ji24)))) l0 (l0.length : Int) (wrap64 (x30_1 + 1)) a1) else (none)) = some (r1, r2) := by first | (rw [hji24] at H; exact H) | (simp only [hji24] at H ⊢; exact H)); obtain ⟨c25, H⟩ := ifp H; have c25b0 := eq_true c25; have c25b1 : decide (0 ≤ (ji24)) = true := dT c25; clear c25; obtain ⟨ji26, hji26⟩ : ∃ j_ : Int, (shl .u64 (IntKind.u64.wrap (rd l0 x30_1)) (ji24)) = j_ := ⟨_, rfl⟩; (replace H : (F79.l0 k1 (x6_1.set ((ji21) : Int).toNat (Go.bits .or .u64 (rd x6_1 (ji21)) (ji26))) l0 (l0.length : Int) (wrap64 (x30_1 + 1)) a1) = some (r1, r2) := by first | (rw [hji26] at H; exact H) | (simp only [hji26] at H ⊢; exact H)); have hji26_ : (IntKind.u64.wrap ((IntKind.u64.wrap (rd l0 x30_1)) * 2 ^ min (ji24).toNat 64)) = ji26 := hji26; have hji26z : (ji24) ≤ 64 → (IntKind.u64.wrap ((IntKind.u64.wrap (rd l0 x30_1)) * 2 ^ (ji24).toNat)) = ji26 := shl_small hji26; obtain ⟨y129, hy129⟩ : ∃ y_ : List Int, y_ = (x6_1.set ((ji21) : Int).toNat (Go.bits .or .u64 (rd x6_1 (ji21)) (ji26))) := ⟨_, rfl⟩; (replace H : (F79.l0 k1 y129 l0 (l0.length : Int) (wrap64 (x30_1 + 1)) a1) = some (r1, r2) := by rw [hy129]; exact H); have Ny129 := aM hy129; clear hy129; have H' := aM H; clear H; have p127 : 0 ≤ (x30_1 : Int) := oD; have q127 : x30_1 < (l0.length : Int) := oD; obtain ⟨ad127, e127, hx127_0⟩ := Kd.at_int HR0.out x30_1 p127 q127
       cases e127
       replace hx127_0 := cU HB hx127_0; replace p127 := eq_true p127; replace q127 := eq_true q127; have hz28 := bx1 BK119.out
       try go_wp2
       replace HO_6 := aM (Kd.R_drew HO_6.out); replace BK119 := aM (blk_drew BK119.out); replace HB := aM (below_drew1 HB.out); obtain ⟨Ao30, co30, eo30⟩ := Kd.R_slice HO_6.out; (first | subst eo30 | (injection eo30 with f1_ f2_ f3_; have f4_ := f1_.symm; have f5_ := f3_.symm; clear f1_ f2_ f3_; subst f4_; subst f5_)); have p128 : 0 ≤ ((ji21) : Int) := oD; have q128 : (ji21) < (x6_1.length : Int) := oD; obtain ⟨ad128, e128, hx128_0⟩ := Kd.at_int (Kd.R_reads' HO_6.out).2.2 (ji21) p128 q128
       cases e128
       replace p128 := eq_true p128; replace q128 := eq_true q128; have p27 : 0 ≤ ((ji21) : Int) := oD; have q27 : ((ji21) : Int) < ((x6_1.length : Int) : Int) := oD; obtain ⟨go27, co27, eo27, gb27, gl27, cl27, HG27⟩ := Kd.R_form HO_6.out (by omega); (first | cases eo27 | (injection eo27 with ea_ en_ ec_; (first | subst ea_ | (injection ea_ with ea_; subst ea_)); subst ec_; clear en_)); have GB27 := aM gb27; have GG27 := aM HG27; clear gb27 gl27 HG27; (first | simp only [add_plain] at hx128_0 | skip); obtain ⟨hx27_0, hf27_0⟩ := Kd.R_celln 0 HO_6.out ((ji21) : Int) p27 q27; replace p27 := eq_true p27; replace q27 := eq_true q27; have HP31 := Kd.R_putn HO_6.out ((ji21) : Int) (Go.bits .or .u64 (rd x6_1 (ji21)) (ji26)); rw [← Ny129.out] at HP31; have HQ31 := aM HP31; clear HP31
       refine start_ (n := 13) (S := fun w' => w'.cell? ⟨go27, ((ji21)).toNat, none⟩ = some (.int .u64 (rd x6_1 (ji21)))) (ds := [12]) (bA 13 0) (by kernel_rfl) rfl (by kernel_rfl) (hx128_0) (fun hHeld => ?_); refine with_tabW F79.tab12 F79.bits12 (fun HT_ HW_ => ?_)
       generalize wr.drew = w29 at HO_6 BK119 HB GG27 HQ31 hf27_0 hx128_0 hx27_0 hHeld ⊢
       refine pT 13 0 38 1 HT_ (h := ?_)
       refine pT 13 1 39 3 HT_ (h := ?_)
       refine pT 13 2 40 7 HT_ (h := ?_)
       refine pT 13 3 41 15 HT_ (h := ?_)
       refine pT 13 5 43 47 HT_ (h := ?_)
       refine pT 13 6 44 111 HT_ (h := ?_)
       refine pT 13 7 45 239 HT_ (h := ?_)
       refine pT 13 8 46 495 HT_ (h := ?_)
       refine pT 13 9 47 1007 HT_ (h := ?_)
       refine tT 13 4 42 1023 HT_ HW_ hHeld (h := ?_)
       refine pT 13 10 48 2047 HT_ (h := ?_)
       refine pT 13 11 49 4095 HT_ (h := ?_)
       refine last_ (i := 12) (N := none) (bA 13 8191) rfl rfl (one_of HT_.out (by kernel_rfl)) (by decide) (fun K hK => ?_)
       refine skip_ (w1 := ?_) (by rfl) rfl ?_ ?_
       rotate_left
       ·
        go_simp
        rfl
       refine hK.out _ _ ?_
       clear hK K
       refine done_ (done_of HT_.out (by kernel_rfl)) ?_
       try go_wp2
       go_roundg k1
       case measure => have := HK1.out; omega
       case rel => exact ⟨(y129), (wrap64 (x30_1 + 1)), rfl, H', ⟨by have := HK1.out; omega⟩, ⟨kR HQ31.out⟩, ⟨by (with_reducible repeat (first | refine blk_drewN ?_ _ | refine blk_drew ?_ | refine blk_alloc ?_ _)); refine blk_far ?_ (by have h_ := Kd.R_ne HO_6.out BK119.out (by decide); intro e_; exact h_ (by rw [e_]; rfl)) _; (with_reducible repeat (first | refine blk_drewN ?_ _ | refine blk_drew ?_ | refine blk_alloc ?_ _)); exact BK119.out⟩, ⟨by repeat (first | (with_reducible first | exact HB.out | apply below_alloc | apply pw_below_drewN | apply below_drew1 | refine below_set ?_ GB27.out | refine below_set ?_ GE119.out) | exact HB.out)⟩⟩
      ·
       rw [if_neg c18] at H; have c18b0 : decide (x30_1 < (l0.length : Int)) = false := dF c18; clear c18; simp only [Option.some.injEq, Prod.mk.injEq] at H; obtain ⟨rfl, rfl⟩ := H
       go_wp2
       go_ret2
       exact ⟨_, rfl, HO_6.out, HB.out⟩
  ·
   replace c6 := Bool.eq_false_iff.mpr c6; subst c6; rw [if_neg (show ¬ (false = true) by decide)] at H; simp only [Option.some.injEq, Prod.mk.injEq] at H; obtain ⟨rfl, rfl⟩ := H
   go_enter Try.func79, Try.ntmps79
   go_wp2_with (first | ((with_reducible refine gate_dst (N := 3) rfl ?_); refine bxE 3 #[.int .i64 a1] 3 (h := ?_); intro gb119 hg w32 hbox hb; have BK119 := aM (hbox); have GW119 := gE hg HB; have GE119 := gE hg HB; replace HB := bst HB hb; clear hb hbox hg; have hz33 := bx1 BK119.out) | ((with_reducible refine gate_callee (f := 48) rfl ?_); refine gL 12 Try.func48 #[.int .i64 a1] (h := ?_); (with_reducible refine (F48.calls a1 true _ A3.out).mono ?_); rintro e w' ⟨rfl, ⟨nd, rfl⟩⟩; refine ⟨_, rfl, ?_⟩) | ((with_reducible refine gate_callee (f := 88) rfl ?_); refine gL 17 Try.func88 #[.int .i64 (l0.length : Int)] (h := ?_); (with_reducible refine (F88.calls (l0.length : Int) false _ A5.out).mono ?_); rintro e w' ⟨rfl, ⟨nd, rfl⟩⟩; refine ⟨_, rfl, ?_⟩))
   go_ret2
   exact ⟨_, rfl, by first | exact Kd.R_nil _ _ _ _ _ | exact Kd.N_nil _ _ _ _ _ | exact Kd.V_nil _ _ _ _ _ | exact Kd.Q_nil _ _ _ _ _ | exact Kd.S_nil _ _ _ _ _, bZ⟩
 ·
  replace c4 := Bool.eq_false_iff.mpr c4; subst c4; rw [if_neg (show ¬ (false = true) by decide)] at H; simp only [Option.some.injEq, Prod.mk.injEq] at H; obtain ⟨rfl, rfl⟩ := H
  go_enter Try.func79, Try.ntmps79
  go_wp2_with (first | ((with_reducible refine gate_dst (N := 3) rfl ?_); refine bxE 3 #[.int .i64 a1] 3 (h := ?_); intro gb119 hg w34 hbox hb; have BK119 := aM (hbox); have GW119 := gE hg HB; have GE119 := gE hg HB; replace HB := bst HB hb; clear hb hbox hg; have hz35 := bx1 BK119.out) | ((with_reducible refine gate_callee (f := 48) rfl ?_); refine gL 12 Try.func48 #[.int .i64 a1] (h := ?_); (with_reducible refine (F48.calls a1 false _ A3.out).mono ?_); rintro e w' ⟨rfl, ⟨nd, rfl⟩⟩; refine ⟨_, rfl, ?_⟩))
  go_ret2
  exact ⟨_, rfl, by first | exact Kd.R_nil _ _ _ _ _ | exact Kd.N_nil _ _ _ _ _ | exact Kd.V_nil _ _ _ _ _ | exact Kd.Q_nil _ _ _ _ _ | exact Kd.S_nil _ _ _ _ _, bZ⟩

def F47.l0 : Nat → Int → List (S82) → List (S47) → Int → Int → Option ((List (S82)) × Int)
 | 0, _, _, _, _, _ => none
 | k + 1, x1, x6, x12, x13, x14 => if x14 < x13 then (if 0 ≤ x14 then (if x14 < (x12.length : Int) then ((F76.f k ((rd_T47 x12 x14).f0) ((rd_T47 x12 x14).f1) ((rd_T47 x12 x14).f2) x1).bind fun t132 => (if t132 = 0 then ((F79.f k ((rd_T47 x12 x14).f2) x1).bind fun bt133 => (if bt133.2 = 0 then (if x6.length < 2513169434916 then (F47.l0 k x1 (x6 ++ [(⟨(⟨(rd_T47 x12 x14).f0, (rd_T47 x12 x14).f1, ([] : List Int)⟩ : S47), bt133.1⟩ : S82)]) x12 x13 (wrap64 (x14 + 1))) else (none)) else (some (([] : List (S82)), bt133.2)))) else (some (([] : List (S82)), t132)))) else (none)) else (none)) else (some (x6, 0))
def F47.f (k : Nat) (l0 : List (S47)) (a1 : Int) : Option ((List (S82)) × Int) := F47.l0 k a1 ([] : List (S82)) l0 (l0.length : Int) 0
theorem F47.mono_l : ∀ k, (∀ y0 y1 y2 y3 y4, LeO (F47.l0 k y0 y1 y2 y3 y4) (F47.l0 (k + 1) y0 y1 y2 y3 y4))
 | 0 => fun _ _ _ _ _ r h => by simp [F47.l0] at h
 | k + 1 => by
  have ih0 := F47.mono_l k
  ·
   intro y0 y1 y2 y3 y4; unfold F47.l0
   repeat' with_reducible first | exact ih0 _ _ _ _ _ | exact F76.mono _ _ _ _ _ | exact F79.mono _ _ _ | exact LeO.refl _ | exact LeO.none _ | refine LeO.ite ?_ ?_ | refine LeO.bind ?_ (fun _ => ?_)
theorem F47.mono : ∀ a0 a1 k, LeO (F47.f k a0 a1) (F47.f (k + 1) a0 a1) := by
 intro a0 a1 k; have ih0 := F47.mono_l k; unfold F47.f
 repeat' with_reducible first | exact ih0 _ _ _ _ _ | exact F76.mono _ _ _ _ _ | exact F79.mono _ _ _ | exact LeO.refl _ | exact LeO.none _ | refine LeO.ite ?_ ?_ | refine LeO.bind ?_ (fun _ => ?_)
theorem F47.calls (k : Nat) (A0 : Option Addr) (c0 : Nat) (l0 : List (S47)) (a1 : Int) (r1 : List (S82)) (r2 : Int) (w : World) (hr0 : Kd.C k47 w A0 l0.length l0) (hc0 : l0.length ≤ c0) (h : F47.f k l0 a1 = some (r1, r2)) :
  Calls Try.prog 47 #[.slice A0 l0.length c0, .int .i64 a1] w fun e w' => ∃ v0_ : Value, e = .returned (.tuple #[v0_, .int .i64 r2]) ∧ Kd.S k82 82 w' w.heap.size (fun _ => True) v0_ r1 ∧ Below w.heap.size w w' := by
 have hu47 := Try.underlying47; have hu82 := Try.underlying82; have HR0 := aM hr0; have HC0 := aM hc0; clear hr0 hc0; have HB := aM (Below.refl w.heap.size w); have H := h; clear h; unfold F47.f at H; have H' := aM H; clear H
 go_enter Try.func47, Try.ntmps47
 go_wp2
 go_loopg [6, 14] k (fun kq v6 v14 w' => ∃ (x6_1 : List (S82)) (x14_1 : Int), v14 = .int .i64 x14_1 ∧ Aside0 (F47.l0 kq a1 x6_1 l0 (l0.length : Int) x14_1 = some (r1, r2)) ∧ Aside0 (kq ≤ k) ∧ Aside0 (Kd.S k82 82 w' w.heap.size (fun _ => True) v6 x6_1) ∧ Aside0 (Below w.heap.size w w'))
 case atStart => exact ⟨(([] : List (S82))), (0), rfl, H', ⟨Nat.le_refl _⟩, ⟨by first | exact Kd.S_nil _ _ _ _ _ | exact Kd.N_nil _ _ _ _ _ | exact Kd.V_nil _ _ _ _ _ | exact Kd.Q_nil _ _ _ _ _ | exact Kd.R_nil _ _ _ _ _⟩, HB⟩
 case round =>
  clear H'; (try clear p2); obtain ⟨x6_1, x14_1, rfl, HA, HK1, HO_6, HB⟩ := hrel
  cases gk with
  | zero => exact absurd HA.out (by simp [F47.l0])
  | succ k1 =>
   have H := HA.out; clear HA; simp only [F47.l0] at H
   by_cases c3 : x14_1 < (l0.length : Int)
   ·
    rw [if_pos c3] at H; have c3b0 : decide (x14_1 < (l0.length : Int)) = true := dT c3; clear c3; obtain ⟨c4, H⟩ := ifp H; have c4b0 : decide (0 ≤ x14_1) = true := dT c4; clear c4; obtain ⟨c5, H⟩ := ifp H; have c5b0 : decide (x14_1 < (l0.length : Int)) = true := dT c5; clear c5; obtain ⟨t132, A6, H⟩ := bnd H
    by_cases c7 : t132 = 0
    ·
     rw [if_pos c7] at H; have c7b0 : (t132 == 0) = true := beq_iff_eq.mpr c7; have c7b1 : (t132 != 0) = false := bne_eq_false_iff_eq.mpr c7; clear c7; obtain ⟨⟨t133, t134⟩, A8, H⟩ := bnd H
     try dsimp only at H
     by_cases c9 : t134 = 0
     ·
      rw [if_pos c9] at H; have c9b0 : (t134 == 0) = true := beq_iff_eq.mpr c9; have c9b1 : (t134 != 0) = false := bne_eq_false_iff_eq.mpr c9; clear c9; obtain ⟨c10, H⟩ := ifp H; have LMc10 := aM c10; clear c10; obtain ⟨y137, hy137⟩ : ∃ y_ : List (S82), y_ = (x6_1 ++ [(⟨(⟨(rd_T47 l0 x14_1).f0, (rd_T47 l0 x14_1).f1, ([] : List Int)⟩ : S47), t133⟩ : S82)]) := ⟨_, rfl⟩; (replace H : (F47.l0 k1 a1 y137 l0 (l0.length : Int) (wrap64 (x14_1 + 1))) = some (r1, r2) := by rw [hy137]; exact H); have Ny137 := aM hy137; clear hy137; have H' := aM H; clear H; have p130 : 0 ≤ (x14_1 : Int) := oD; have q130 : x14_1 < (l0.length : Int) := oD; obtain ⟨ad130, A130_2, c130_2, e130, hx130_0, hx130_1, hx130_2, hl130_2, hi130_2⟩ := at_T47 HR0.out x14_1 p130 q130
      cases e130
      replace hx130_0 := cU HB hx130_0; replace hx130_1 := cU HB hx130_1; replace hx130_2 := cU HB hx130_2; have HR130_2 := aM hi130_2; have HC130_2 := aM hl130_2; clear hi130_2 hl130_2; replace p130 := eq_true p130; replace q130 := eq_true q130
      go_wp2_with (first | ((with_reducible refine gate_dst (N := 8) rfl ?_); refine bxE 8 #[.int .i32 0, .int .u32 0, .slice none 0 0] 47 (h := ?_); intro gb131 hg w11 hbox hb; replace HO_6 := sst HO_6 hb; have BK131 := aM (hbox); have GW131 := gE hg HB; have GE131 := gE hg HB; replace HB := bst HB hb; clear hb hbox hg; have hz12 := bx3 BK131.out) | ((with_reducible refine gate_callee (f := 76) rfl ?_); refine gL 20 Try.func76 #[.agg #[.int .i32 ((rd_T47 l0 x14_1).f0), .int .u32 ((rd_T47 l0 x14_1).f1), .slice A130_2 ((rd_T47 l0 x14_1).f2).length c130_2], .int .i64 a1] (h := ?_); (with_reducible refine (F76.calls k1 ((rd_T47 l0 x14_1).f0) ((rd_T47 l0 x14_1).f1) _ _ ((rd_T47 l0 x14_1).f2) a1 t132 _ ?side1 ?side2 A6.out).mono ?_); (case side1 => exact Kd.C_below HR130_2.out bZ); (case side2 => exact HC130_2.out); rintro e w13 ⟨rfl, hb⟩; refine ⟨_, rfl, ?_⟩; replace HO_6 := aM (Kd.S_below (by (with_reducible repeat (first | apply Kd.S_alloc | apply Kd.S_drewN | apply Kd.S_drew)); exact (Kd.S_mono (Kd.S_far (p := ⟨gb131, 2, none⟩) (Kd.S_far (p := ⟨gb131, 1, none⟩) (Kd.S_far (p := ⟨gb131, 0, none⟩) (Kd.S_types HO_6.out BK131.out (by decide)) (fun _ hk => hk.2) (.int .i32 ((rd_T47 l0 x14_1).f0))) (fun _ hk => hk.2) (.int .u32 ((rd_T47 l0 x14_1).f1))) (fun _ hk => hk.2) (.slice A130_2 ((rd_T47 l0 x14_1).f2).length c130_2)) (fun _ h_ => h_.1))) hb); replace BK131 := aM (blk_below (g := gb131) (o := .cells #[.int .i32 ((rd_T47 l0 x14_1).f0), .int .u32 ((rd_T47 l0 x14_1).f1), .slice A130_2 ((rd_T47 l0 x14_1).f2).length c130_2] 47 (0, 0)) (blk_put (blk_put (blk_put BK131.out 0 _ rfl) 1 _ rfl) 2 _ rfl) hb); replace HB := aM (below_step bZ hb); clear hb; have hz14 := bx3 BK131.out) | ((with_reducible refine gate_callee (f := 79) rfl ?_); refine gL 28 Try.func79 #[.slice A130_2 ((rd_T47 l0 x14_1).f2).length c130_2, .int .i64 a1] (h := ?_); (with_reducible refine (F79.calls k1 _ _ ((rd_T47 l0 x14_1).f2) a1 t133 t134 _ ?side1 ?side2 A8.out).mono ?_); (case side1 => with_reducible exact (Kd.C_below HR130_2.out HB.out)); (case side2 => exact HC130_2.out); rintro e w15 ⟨v135, rfl, ho0, hb⟩; refine ⟨_, rfl, ?_⟩; replace HO_6 := aM (Kd.S_elder' HO_6.out (Kd.R_base ho0) hb); have HO136 := aM (Kd.R_lower ho0 (bsz HB)); replace BK131 := kst BK131 hb; replace HB := bst HB hb; clear hb ho0; have hz16 := bx3 BK131.out; obtain ⟨Ao17, co17, eo17⟩ := Kd.R_slice HO136.out; subst eo17) | ((with_reducible refine gate_builtin (b := .append) (xs := #[.tmp 34, .tmp 42]) rfl ?_); at_builtin; refine Kd.S_append k82 (w0 := w) w.heap.size rfl (.tmp 34) (.tmp 42) 73 82 (.agg #[(.int .i32 0), (.int .u32 0), (.slice none 0 0), (.slice none 0 0)]) 56 rfl Try.underlying73 info82 rfl (by decide) (by omega) u6 x6_1 (⟨(⟨(rd_T47 l0 x14_1).f0, (rd_T47 l0 x14_1).f1, ([] : List Int)⟩ : S47), t133⟩ : S82) [.int .i32 ((rd_T47 l0 x14_1).f0), .int .u32 ((rd_T47 l0 x14_1).f1), .slice none 0 0, .slice Ao17 t133.length co17] (fun _ => True) (fun k_ => some k_ = (.slice Ao17 t133.length co17 : Value).ownBlock) rfl rfl ?aP (fun k_ hk_ => ((Kd.R_mono (ok' := fun k_ => ((fun _ => True)) k_ ∧ some k_ ≠ (u6 : Value).ownBlock) (Kd.R_apart' (HO136.out) (Kd.S_typed HO_6.out) (by decide)) (fun k_ hk => ⟨trivial, hk.2⟩))).1 k_ hk_.symm) ?aF ?aO ?aB ?aS ?aL ?_; (case aP => exact k82_mkM _ _ _ (⟨(⟨(rd_T47 l0 x14_1).f0, (rd_T47 l0 x14_1).f1, ([] : List Int)⟩ : S47), t133⟩ : S82) (Kd.R_nil _ _ _ _ _) (Kd.R_mono (Kd.R_tight rfl (Kd.R_mono (ok' := fun k_ => ((fun _ => True)) k_ ∧ some k_ ≠ (u6 : Value).ownBlock) (Kd.R_apart' (HO136.out) (Kd.S_typed HO_6.out) (by decide)) (fun k_ hk => ⟨trivial, hk.2⟩))) (fun _ h_ => h_))); (case aB => exact HB.out); (case aF => exact (fun _ _ => trivial)); (case aO => exact (by (with_reducible repeat (first | apply Kd.S_alloc | apply Kd.S_drewN | apply Kd.S_drew)); exact Kd.S_mono HO_6.out (fun k_ hk => ⟨trivial, fun e_ => hk.2 e_⟩))); (case aS => exact (bsz HB)); (case aL => have := LMc10.out; omega); intro v138 w18 ho hb hg hat; rw [← Ny137.out] at ho; have n0_ := aM (blk_grown (g := gb131) (o := .cells #[.int .i32 ((rd_T47 l0 x14_1).f0), .int .u32 ((rd_T47 l0 x14_1).f1), .slice A130_2 ((rd_T47 l0 x14_1).f2).length c130_2] 47 (0, 0)) BK131.out hg (Kd.S_ne HO_6.out BK131.out (by decide))); have n1_ := aM (hb); have n2_ := aM (ho); clear BK131; clear HB; clear HO_6; clear HO136; have BK131 := n0_; have HB := n1_; have HO139 := n2_; clear n0_ n1_ n2_; clear ho hb hg hat))
      go_roundg k1
      case measure => have := HK1.out; omega
      case rel => exact ⟨(y137), (wrap64 (x14_1 + 1)), rfl, H', ⟨by have := HK1.out; omega⟩, HO139, HB⟩
     ·
      rw [if_neg c9] at H; have c9b0 : (t134 == 0) = false := beq_eq_false_iff_ne.mpr c9; have c9b1 : (t134 != 0) = true := bne_iff_ne.mpr c9; simp only [Option.some.injEq, Prod.mk.injEq] at H; obtain ⟨rfl, rfl⟩ := H; have p130 : 0 ≤ (x14_1 : Int) := oD; have q130 : x14_1 < (l0.length : Int) := oD; obtain ⟨ad130, A130_2, c130_2, e130, hx130_0, hx130_1, hx130_2, hl130_2, hi130_2⟩ := at_T47 HR0.out x14_1 p130 q130
      cases e130
      replace hx130_0 := cU HB hx130_0; replace hx130_1 := cU HB hx130_1; replace hx130_2 := cU HB hx130_2; have HR130_2 := aM hi130_2; have HC130_2 := aM hl130_2; clear hi130_2 hl130_2; replace p130 := eq_true p130; replace q130 := eq_true q130
      go_wp2_with (first | ((with_reducible refine gate_dst (N := 8) rfl ?_); refine bxE 8 #[.int .i32 0, .int .u32 0, .slice none 0 0] 47 (h := ?_); intro gb131 hg w19 hbox hb; replace HO_6 := sst HO_6 hb; have BK131 := aM (hbox); have GW131 := gE hg HB; have GE131 := gE hg HB; replace HB := bst HB hb; clear hb hbox hg; have hz20 := bx3 BK131.out) | ((with_reducible refine gate_callee (f := 76) rfl ?_); refine gL 20 Try.func76 #[.agg #[.int .i32 ((rd_T47 l0 x14_1).f0), .int .u32 ((rd_T47 l0 x14_1).f1), .slice A130_2 ((rd_T47 l0 x14_1).f2).length c130_2], .int .i64 a1] (h := ?_); (with_reducible refine (F76.calls k1 ((rd_T47 l0 x14_1).f0) ((rd_T47 l0 x14_1).f1) _ _ ((rd_T47 l0 x14_1).f2) a1 t132 _ ?side1 ?side2 A6.out).mono ?_); (case side1 => exact Kd.C_below HR130_2.out bZ); (case side2 => exact HC130_2.out); rintro e w21 ⟨rfl, hb⟩; refine ⟨_, rfl, ?_⟩; replace HO_6 := aM (Kd.S_below (by (with_reducible repeat (first | apply Kd.S_alloc | apply Kd.S_drewN | apply Kd.S_drew)); exact (Kd.S_mono (Kd.S_far (p := ⟨gb131, 2, none⟩) (Kd.S_far (p := ⟨gb131, 1, none⟩) (Kd.S_far (p := ⟨gb131, 0, none⟩) (Kd.S_types HO_6.out BK131.out (by decide)) (fun _ hk => hk.2) (.int .i32 ((rd_T47 l0 x14_1).f0))) (fun _ hk => hk.2) (.int .u32 ((rd_T47 l0 x14_1).f1))) (fun _ hk => hk.2) (.slice A130_2 ((rd_T47 l0 x14_1).f2).length c130_2)) (fun _ h_ => h_.1))) hb); replace BK131 := aM (blk_below (g := gb131) (o := .cells #[.int .i32 ((rd_T47 l0 x14_1).f0), .int .u32 ((rd_T47 l0 x14_1).f1), .slice A130_2 ((rd_T47 l0 x14_1).f2).length c130_2] 47 (0, 0)) (blk_put (blk_put (blk_put BK131.out 0 _ rfl) 1 _ rfl) 2 _ rfl) hb); replace HB := aM (below_step bZ hb); clear hb; have hz22 := bx3 BK131.out) | ((with_reducible refine gate_callee (f := 79) rfl ?_); refine gL 28 Try.func79 #[.slice A130_2 ((rd_T47 l0 x14_1).f2).length c130_2, .int .i64 a1] (h := ?_); (with_reducible refine (F79.calls k1 _ _ ((rd_T47 l0 x14_1).f2) a1 t133 t134 _ ?side1 ?side2 A8.out).mono ?_); (case side1 => with_reducible exact (Kd.C_below HR130_2.out HB.out)); (case side2 => exact HC130_2.out); rintro e w23 ⟨v135, rfl, ho0, hb⟩; refine ⟨_, rfl, ?_⟩; replace HO_6 := aM (Kd.S_elder' HO_6.out (Kd.R_base ho0) hb); have HO136 := aM (Kd.R_lower ho0 (bsz HB)); replace BK131 := kst BK131 hb; replace HB := bst HB hb; clear hb ho0))
      go_ret2
      exact ⟨_, rfl, by first | exact Kd.S_nil _ _ _ _ _ | exact Kd.N_nil _ _ _ _ _ | exact Kd.V_nil _ _ _ _ _ | exact Kd.Q_nil _ _ _ _ _ | exact Kd.R_nil _ _ _ _ _, HB.out⟩
    ·
     rw [if_neg c7] at H; have c7b0 : (t132 == 0) = false := beq_eq_false_iff_ne.mpr c7; have c7b1 : (t132 != 0) = true := bne_iff_ne.mpr c7; simp only [Option.some.injEq, Prod.mk.injEq] at H; obtain ⟨rfl, rfl⟩ := H; have p130 : 0 ≤ (x14_1 : Int) := oD; have q130 : x14_1 < (l0.length : Int) := oD; obtain ⟨ad130, A130_2, c130_2, e130, hx130_0, hx130_1, hx130_2, hl130_2, hi130_2⟩ := at_T47 HR0.out x14_1 p130 q130
     cases e130
     replace hx130_0 := cU HB hx130_0; replace hx130_1 := cU HB hx130_1; replace hx130_2 := cU HB hx130_2; have HR130_2 := aM hi130_2; have HC130_2 := aM hl130_2; clear hi130_2 hl130_2; replace p130 := eq_true p130; replace q130 := eq_true q130
     go_wp2_with (first | ((with_reducible refine gate_dst (N := 8) rfl ?_); refine bxE 8 #[.int .i32 0, .int .u32 0, .slice none 0 0] 47 (h := ?_); intro gb131 hg w24 hbox hb; replace HO_6 := sst HO_6 hb; have BK131 := aM (hbox); have GW131 := gE hg HB; have GE131 := gE hg HB; replace HB := bst HB hb; clear hb hbox hg; have hz25 := bx3 BK131.out) | ((with_reducible refine gate_callee (f := 76) rfl ?_); refine gL 20 Try.func76 #[.agg #[.int .i32 ((rd_T47 l0 x14_1).f0), .int .u32 ((rd_T47 l0 x14_1).f1), .slice A130_2 ((rd_T47 l0 x14_1).f2).length c130_2], .int .i64 a1] (h := ?_); (with_reducible refine (F76.calls k1 ((rd_T47 l0 x14_1).f0) ((rd_T47 l0 x14_1).f1) _ _ ((rd_T47 l0 x14_1).f2) a1 t132 _ ?side1 ?side2 A6.out).mono ?_); (case side1 => exact Kd.C_below HR130_2.out bZ); (case side2 => exact HC130_2.out); rintro e w26 ⟨rfl, hb⟩; refine ⟨_, rfl, ?_⟩; replace HO_6 := aM (Kd.S_below (by (with_reducible repeat (first | apply Kd.S_alloc | apply Kd.S_drewN | apply Kd.S_drew)); exact (Kd.S_mono (Kd.S_far (p := ⟨gb131, 2, none⟩) (Kd.S_far (p := ⟨gb131, 1, none⟩) (Kd.S_far (p := ⟨gb131, 0, none⟩) (Kd.S_types HO_6.out BK131.out (by decide)) (fun _ hk => hk.2) (.int .i32 ((rd_T47 l0 x14_1).f0))) (fun _ hk => hk.2) (.int .u32 ((rd_T47 l0 x14_1).f1))) (fun _ hk => hk.2) (.slice A130_2 ((rd_T47 l0 x14_1).f2).length c130_2)) (fun _ h_ => h_.1))) hb); replace BK131 := aM (blk_below (g := gb131) (o := .cells #[.int .i32 ((rd_T47 l0 x14_1).f0), .int .u32 ((rd_T47 l0 x14_1).f1), .slice A130_2 ((rd_T47 l0 x14_1).f2).length c130_2] 47 (0, 0)) (blk_put (blk_put (blk_put BK131.out 0 _ rfl) 1 _ rfl) 2 _ rfl) hb); replace HB := aM (below_step bZ hb); clear hb))
     go_ret2
     exact ⟨_, rfl, by first | exact Kd.S_nil _ _ _ _ _ | exact Kd.N_nil _ _ _ _ _ | exact Kd.V_nil _ _ _ _ _ | exact Kd.Q_nil _ _ _ _ _ | exact Kd.R_nil _ _ _ _ _, HB.out⟩
   ·
    rw [if_neg c3] at H; have c3b0 : decide (x14_1 < (l0.length : Int)) = false := dF c3; clear c3; simp only [Option.some.injEq, Prod.mk.injEq] at H; obtain ⟨rfl, rfl⟩ := H
    go_wp2
    go_ret2
    exact ⟨_, rfl, HO_6.out, HB.out⟩

theorem R_box {α : Type} (d : Kd α) (e : Nat) (W : World) (base : Nat) {x : α} {cs : List Value} {okp : Nat → Prop} (hM : d.M W base okp x cs) (hb : base ≤ W.heap.size) : d.R e (W.alloc (.cells cs.toArray e)) base (fun _ => True) (.slice (some ⟨W.heap.size, 0, none⟩) 1 1) [x] := by
 have hlen : cs.length = d.sz := d.K_len (d.K_of_M hM); have hrep : Reps (d.M W base okp) d.sz [x] cs := by simpa using (Reps.none (d.M W base okp) d.sz).snoc hM hlen
 refine ⟨fun k hk => trivial, cs, ?_, ?_⟩
 ·
  have h2 := World.ownsRow_lit (base := base) (e := e) (size := d.sz) W cs.toArray 1 hb (by decide) (by simpa using hlen)
  simpa using h2
 ·
  refine hrep.imp_ (fun p c hp => d.M_mono (fun k hk => ⟨trivial, fun he => ?_⟩) (Kd.M_below (d.M_bound hp) (below_alloc (Below.refl _ _) _)))
  (have h3 : k = W.heap.size := by simpa [Value.ownBlock] using he); have := hk.2.2.1
  omega
def F21.f (k : Nat) (a0_0 : Int) (a0_1 : Int) (a0_2 : Int) (a0_3 : Int) (a0_4 : Int) (a0_5 : Int) (a0_6 : Int) (l1 : List S47) (l2 : List S47) : Option (List S75 × Int) :=
 (F23.f a0_0 a0_1 a0_2 a0_3 a0_4 a0_5 a0_6).bind fun b => if b = true then
  (F46.f k l1 a0_3 a0_2).bind fun c => if c = true then
   (F46.f k l2 a0_2 a0_3).bind fun d => if d = true then
    (F47.f k l1 a0_0).bind fun p => if p.2 = 0 then
     (F47.f k l2 a0_1).bind fun q => if q.2 = 0 then some ([⟨⟨a0_0, a0_1, a0_2, a0_3, a0_4, a0_5, a0_6⟩, p.1, q.1⟩], 0)
     else some ([], q.2)
    else some ([], p.2)
   else some ([], 25)
  else some ([], 25)
 else some ([], 11)
theorem F21.mono : ∀ a0_0 a0_1 a0_2 a0_3 a0_4 a0_5 a0_6 l1 l2 k, LeO (F21.f k a0_0 a0_1 a0_2 a0_3 a0_4 a0_5 a0_6 l1 l2) (F21.f (k + 1) a0_0 a0_1 a0_2 a0_3 a0_4 a0_5 a0_6 l1 l2) := by
 intro a0_0 a0_1 a0_2 a0_3 a0_4 a0_5 a0_6 l1 l2 k; unfold F21.f
 repeat' with_reducible first | exact LeO.refl _ | exact LeO.none _ | exact F46.mono _ _ _ _ | exact F47.mono _ _ _ | refine LeO.ite ?_ ?_ | refine LeO.bind ?_ (fun _ => ?_)
theorem F21.calls (k : Nat) (a0_0 : Int) (a0_1 : Int) (a0_2 : Int) (a0_3 : Int) (a0_4 : Int) (a0_5 : Int) (a0_6 : Int) (A1 : Option Addr) (c1 : Nat) (l1 : List S47) (A2 : Option Addr) (c2 : Nat) (l2 : List S47) (r1 : List S75) (r2 : Int) (w : World)
  (hr1 : Kd.C k47 w A1 l1.length l1) (hc1 : l1.length ≤ c1) (hr2 : Kd.C k47 w A2 l2.length l2) (hc2 : l2.length ≤ c2) (h : F21.f k a0_0 a0_1 a0_2 a0_3 a0_4 a0_5 a0_6 l1 l2 = some (r1, r2)) :
  Calls Try.prog 21 #[.agg #[.int .i64 a0_0, .int .i64 a0_1, .int .i64 a0_2, .int .i64 a0_3, .int .i64 a0_4, .int .i64 a0_5, .int .i64 a0_6], .slice A1 l1.length c1, .slice A2 l2.length c2] w fun e w' => ∃ v0_ : Value, e = .returned (.tuple #[asPtr v0_, .int .i64 r2]) ∧ Kd.R k75 75 w' w.heap.size (fun _ => True) v0_ r1 ∧ Below w.heap.size w w' := by
 have HR1 := aM hr1; have HC1 := aM hc1; have HR2 := aM hr2; have HC2 := aM hc2; clear hr1 hc1 hr2 hc2; unfold F21.f at h; obtain ⟨b, hx, h⟩ := Option.bind_eq_some_iff.mp h; have X1 := aM hx; clear hx
 cases b with
 | false =>
  rw [if_neg (by decide)] at h; simp only [Option.some.injEq, Prod.mk.injEq] at h; obtain ⟨rfl, rfl⟩ := h
  go_enter Try.func21, Try.ntmps21
  go_wp2_with (first | (go_at_call 23; (with_reducible refine (F23.calls a0_0 a0_1 a0_2 a0_3 a0_4 a0_5 a0_6 false _ X1.out).mono ?_); rintro e w1 ⟨rfl, hb⟩; have BT1 := aM (blk_below (blk_new w (.cells #[.int .i64 a0_0, .int .i64 a0_1, .int .i64 a0_2, .int .i64 a0_3, .int .i64 a0_4, .int .i64 a0_5, .int .i64 a0_6] 23)) hb); have hq1_0 := bx7 BT1.out; have HB1 := aM (below_step (below_alloc (Below.refl w.heap.size w) (.cells #[.int .i64 a0_0, .int .i64 a0_1, .int .i64 a0_2, .int .i64 a0_3, .int .i64 a0_4, .int .i64 a0_5, .int .i64 a0_6] 23)) hb); clear hb))
  go_ret2
  exact ⟨.slice none 0 0, by first | rfl | simp [asPtr], Kd.R_nil _ _ _ _ _, HB1.out⟩
 | true =>
  rw [if_pos rfl] at h; obtain ⟨c, hx, h⟩ := Option.bind_eq_some_iff.mp h; have X2 := aM hx; clear hx
  cases c with
  | false =>
   rw [if_neg (by decide)] at h; simp only [Option.some.injEq, Prod.mk.injEq] at h; obtain ⟨rfl, rfl⟩ := h
   go_enter Try.func21, Try.ntmps21
   go_wp2_with (first | (go_at_call 23; (with_reducible refine (F23.calls a0_0 a0_1 a0_2 a0_3 a0_4 a0_5 a0_6 true _ X1.out).mono ?_); rintro e w1 ⟨rfl, hb⟩; have BT1 := aM (blk_below (blk_new w (.cells #[.int .i64 a0_0, .int .i64 a0_1, .int .i64 a0_2, .int .i64 a0_3, .int .i64 a0_4, .int .i64 a0_5, .int .i64 a0_6] 23)) hb); have hq1_0 := bx7 BT1.out; have HB1 := aM (below_step (below_alloc (Below.refl w.heap.size w) (.cells #[.int .i64 a0_0, .int .i64 a0_1, .int .i64 a0_2, .int .i64 a0_3, .int .i64 a0_4, .int .i64 a0_5, .int .i64 a0_6] 23)) hb); clear hb) | (go_at_call 46; (with_reducible refine (F46.calls k A1 c1 l1 a0_3 a0_2 false _ ?q1 ?q2 X2.out).mono ?_); (case q1 => exact Kd.C_below HR1.out HB1.out); (case q2 => exact HC1.out); rintro e w2 ⟨rfl, hb⟩; have BT2 := kst BT1 hb; have hq2_0 := bx7 BT2.out; have HB2 := bst HB1 hb; clear hb))
   go_ret2
   exact ⟨.slice none 0 0, by first | rfl | simp [asPtr], Kd.R_nil _ _ _ _ _, HB2.out⟩
  | true =>
   rw [if_pos rfl] at h; obtain ⟨d, hx, h⟩ := Option.bind_eq_some_iff.mp h; have X3 := aM hx; clear hx
   cases d with
   | false =>
    rw [if_neg (by decide)] at h; simp only [Option.some.injEq, Prod.mk.injEq] at h; obtain ⟨rfl, rfl⟩ := h
    go_enter Try.func21, Try.ntmps21
    go_wp2_with (first | (go_at_call 23; (with_reducible refine (F23.calls a0_0 a0_1 a0_2 a0_3 a0_4 a0_5 a0_6 true _ X1.out).mono ?_); rintro e w1 ⟨rfl, hb⟩; have BT1 := aM (blk_below (blk_new w (.cells #[.int .i64 a0_0, .int .i64 a0_1, .int .i64 a0_2, .int .i64 a0_3, .int .i64 a0_4, .int .i64 a0_5, .int .i64 a0_6] 23)) hb); have hq1_0 := bx7 BT1.out; have HB1 := aM (below_step (below_alloc (Below.refl w.heap.size w) (.cells #[.int .i64 a0_0, .int .i64 a0_1, .int .i64 a0_2, .int .i64 a0_3, .int .i64 a0_4, .int .i64 a0_5, .int .i64 a0_6] 23)) hb); clear hb) | (go_at_call 46; (with_reducible refine (F46.calls k A1 c1 l1 a0_3 a0_2 true _ ?q1 ?q2 X2.out).mono ?_); (case q1 => exact Kd.C_below HR1.out HB1.out); (case q2 => exact HC1.out); rintro e w2 ⟨rfl, hb⟩; have BT2 := kst BT1 hb; have hq2_0 := bx7 BT2.out; have HB2 := bst HB1 hb; clear hb) | (go_at_call 46; (with_reducible refine (F46.calls k A2 c2 l2 a0_2 a0_3 false _ ?q1 ?q2 X3.out).mono ?_); (case q1 => exact Kd.C_below HR2.out HB2.out); (case q2 => exact HC2.out); rintro e w3 ⟨rfl, hb⟩; have BT3 := kst BT2 hb; have hq3_0 := bx7 BT3.out; have HB3 := bst HB2 hb; clear hb))
    go_ret2
    exact ⟨.slice none 0 0, by first | rfl | simp [asPtr], Kd.R_nil _ _ _ _ _, HB3.out⟩
   | true =>
    rw [if_pos rfl] at h; obtain ⟨⟨p1, p2⟩, hx, h⟩ := Option.bind_eq_some_iff.mp h; have X4 := aM hx; clear hx
    by_cases c9 : ¬ (p2 = 0)
    ·
     rw [if_neg c9] at h; simp only [Option.some.injEq, Prod.mk.injEq] at h; obtain ⟨rfl, rfl⟩ := h; have d1 : (p2 == 0) = false := beq_eq_false_iff_ne.2 c9; have d2 : (p2 != 0) = true := bne_iff_ne.2 c9; clear c9
     go_enter Try.func21, Try.ntmps21
     go_wp2_with (first | (go_at_call 23; (with_reducible refine (F23.calls a0_0 a0_1 a0_2 a0_3 a0_4 a0_5 a0_6 true _ X1.out).mono ?_); rintro e w1 ⟨rfl, hb⟩; have BT1 := aM (blk_below (blk_new w (.cells #[.int .i64 a0_0, .int .i64 a0_1, .int .i64 a0_2, .int .i64 a0_3, .int .i64 a0_4, .int .i64 a0_5, .int .i64 a0_6] 23)) hb); have hq1_0 := bx7 BT1.out; have HB1 := aM (below_step (below_alloc (Below.refl w.heap.size w) (.cells #[.int .i64 a0_0, .int .i64 a0_1, .int .i64 a0_2, .int .i64 a0_3, .int .i64 a0_4, .int .i64 a0_5, .int .i64 a0_6] 23)) hb); clear hb) | (go_at_call 46; (with_reducible refine (F46.calls k A1 c1 l1 a0_3 a0_2 true _ ?q1 ?q2 X2.out).mono ?_); (case q1 => exact Kd.C_below HR1.out HB1.out); (case q2 => exact HC1.out); rintro e w2 ⟨rfl, hb⟩; have BT2 := kst BT1 hb; have hq2_0 := bx7 BT2.out; have HB2 := bst HB1 hb; clear hb) | (go_at_call 46; (with_reducible refine (F46.calls k A2 c2 l2 a0_2 a0_3 true _ ?q1 ?q2 X3.out).mono ?_); (case q1 => exact Kd.C_below HR2.out HB2.out); (case q2 => exact HC2.out); rintro e w3 ⟨rfl, hb⟩; have BT3 := kst BT2 hb; have hq3_0 := bx7 BT3.out; have HB3 := bst HB2 hb; clear hb) | (go_at_call 47; (with_reducible refine (F47.calls k A1 c1 l1 a0_0 p1 p2 _ ?q1 ?q2 X4.out).mono ?_); (case q1 => exact Kd.C_below HR1.out HB3.out); (case q2 => exact HC1.out); rintro e w4 ⟨v1, rfl, ho, hb⟩; obtain ⟨B1, d1, e1⟩ := Kd.R_slice (Kd.S_R ho); subst e1; have BT4 := kst BT3 hb; have hq4_0 := bx7 BT4.out; have HB4 := bst HB3 hb; have HO1 := aM (Kd.R_lower (Kd.S_R ho) HB3.out.size); clear hb ho))
     go_ret2
     exact ⟨.slice none 0 0, by first | rfl | simp [asPtr], Kd.R_nil _ _ _ _ _, HB4.out⟩
    ·
     (have c0 := Classical.not_not.1 c9; clear c9; rw [if_pos c0] at h); subst c0; obtain ⟨⟨q1, q2⟩, hx, h⟩ := Option.bind_eq_some_iff.mp h; have X5 := aM hx; clear hx
     by_cases c10 : ¬ (q2 = 0)
     ·
      rw [if_neg c10] at h; simp only [Option.some.injEq, Prod.mk.injEq] at h; obtain ⟨rfl, rfl⟩ := h; have d1 : (q2 == 0) = false := beq_eq_false_iff_ne.2 c10; have d2 : (q2 != 0) = true := bne_iff_ne.2 c10; clear c10
      go_enter Try.func21, Try.ntmps21
      go_wp2_with (first | (go_at_call 23; (with_reducible refine (F23.calls a0_0 a0_1 a0_2 a0_3 a0_4 a0_5 a0_6 true _ X1.out).mono ?_); rintro e w1 ⟨rfl, hb⟩; have BT1 := aM (blk_below (blk_new w (.cells #[.int .i64 a0_0, .int .i64 a0_1, .int .i64 a0_2, .int .i64 a0_3, .int .i64 a0_4, .int .i64 a0_5, .int .i64 a0_6] 23)) hb); have hq1_0 := bx7 BT1.out; have HB1 := aM (below_step (below_alloc (Below.refl w.heap.size w) (.cells #[.int .i64 a0_0, .int .i64 a0_1, .int .i64 a0_2, .int .i64 a0_3, .int .i64 a0_4, .int .i64 a0_5, .int .i64 a0_6] 23)) hb); clear hb) | (go_at_call 46; (with_reducible refine (F46.calls k A1 c1 l1 a0_3 a0_2 true _ ?q1 ?q2 X2.out).mono ?_); (case q1 => exact Kd.C_below HR1.out HB1.out); (case q2 => exact HC1.out); rintro e w2 ⟨rfl, hb⟩; have BT2 := kst BT1 hb; have hq2_0 := bx7 BT2.out; have HB2 := bst HB1 hb; clear hb) | (go_at_call 46; (with_reducible refine (F46.calls k A2 c2 l2 a0_2 a0_3 true _ ?q1 ?q2 X3.out).mono ?_); (case q1 => exact Kd.C_below HR2.out HB2.out); (case q2 => exact HC2.out); rintro e w3 ⟨rfl, hb⟩; have BT3 := kst BT2 hb; have hq3_0 := bx7 BT3.out; have HB3 := bst HB2 hb; clear hb) | (go_at_call 47; (with_reducible refine (F47.calls k A1 c1 l1 a0_0 p1 0 _ ?q1 ?q2 X4.out).mono ?_); (case q1 => exact Kd.C_below HR1.out HB3.out); (case q2 => exact HC1.out); rintro e w4 ⟨v1, rfl, ho, hb⟩; obtain ⟨B1, d1, e1⟩ := Kd.R_slice (Kd.S_R ho); subst e1; have BT4 := kst BT3 hb; have hq4_0 := bx7 BT4.out; have HB4 := bst HB3 hb; have HO1 := aM (Kd.R_lower (Kd.S_R ho) HB3.out.size); clear hb ho) | (go_at_call 47; (with_reducible refine (F47.calls k A2 c2 l2 a0_1 q1 q2 _ ?q1 ?q2 X5.out).mono ?_); (case q1 => exact Kd.C_below HR2.out HB4.out); (case q2 => exact HC2.out); rintro e w5 ⟨v2, rfl, ho, hb⟩; obtain ⟨B2, d2, e2⟩ := Kd.R_slice (Kd.S_R ho); subst e2; have BT5 := kst BT4 hb; have hq5_0 := bx7 BT5.out; have HB5 := bst HB4 hb; have HO1b := rst HO1 hb; have HO2 := aM (Kd.R_lower (Kd.S_R ho) HB4.out.size); clear hb ho))
      go_ret2
      exact ⟨.slice none 0 0, by first | rfl | simp [asPtr], Kd.R_nil _ _ _ _ _, HB5.out⟩
     ·
      (have c0 := Classical.not_not.1 c10; clear c10; rw [if_pos c0] at h); subst c0; simp only [Option.some.injEq, Prod.mk.injEq] at h; obtain ⟨rfl, rfl⟩ := h
      go_enter Try.func21, Try.ntmps21
      go_wp2_with (first | (go_at_call 23; (with_reducible refine (F23.calls a0_0 a0_1 a0_2 a0_3 a0_4 a0_5 a0_6 true _ X1.out).mono ?_); rintro e w1 ⟨rfl, hb⟩; have BT1 := aM (blk_below (blk_new w (.cells #[.int .i64 a0_0, .int .i64 a0_1, .int .i64 a0_2, .int .i64 a0_3, .int .i64 a0_4, .int .i64 a0_5, .int .i64 a0_6] 23)) hb); have hq1_0 := bx7 BT1.out; have HB1 := aM (below_step (below_alloc (Below.refl w.heap.size w) (.cells #[.int .i64 a0_0, .int .i64 a0_1, .int .i64 a0_2, .int .i64 a0_3, .int .i64 a0_4, .int .i64 a0_5, .int .i64 a0_6] 23)) hb); clear hb) | (go_at_call 46; (with_reducible refine (F46.calls k A1 c1 l1 a0_3 a0_2 true _ ?q1 ?q2 X2.out).mono ?_); (case q1 => exact Kd.C_below HR1.out HB1.out); (case q2 => exact HC1.out); rintro e w2 ⟨rfl, hb⟩; have BT2 := kst BT1 hb; have hq2_0 := bx7 BT2.out; have HB2 := bst HB1 hb; clear hb) | (go_at_call 46; (with_reducible refine (F46.calls k A2 c2 l2 a0_2 a0_3 true _ ?q1 ?q2 X3.out).mono ?_); (case q1 => exact Kd.C_below HR2.out HB2.out); (case q2 => exact HC2.out); rintro e w3 ⟨rfl, hb⟩; have BT3 := kst BT2 hb; have hq3_0 := bx7 BT3.out; have HB3 := bst HB2 hb; clear hb) | (go_at_call 47; (with_reducible refine (F47.calls k A1 c1 l1 a0_0 p1 0 _ ?q1 ?q2 X4.out).mono ?_); (case q1 => exact Kd.C_below HR1.out HB3.out); (case q2 => exact HC1.out); rintro e w4 ⟨v1, rfl, ho, hb⟩; obtain ⟨B1, d1, e1⟩ := Kd.R_slice (Kd.S_R ho); subst e1; have BT4 := kst BT3 hb; have hq4_0 := bx7 BT4.out; have HB4 := bst HB3 hb; have HO1 := aM (Kd.R_lower (Kd.S_R ho) HB3.out.size); clear hb ho) | (go_at_call 47; (with_reducible refine (F47.calls k A2 c2 l2 a0_1 q1 0 _ ?q1 ?q2 X5.out).mono ?_); (case q1 => exact Kd.C_below HR2.out HB4.out); (case q2 => exact HC2.out); rintro e w5 ⟨v2, rfl, ho, hb⟩; obtain ⟨B2, d2, e2⟩ := Kd.R_slice (Kd.S_R ho); subst e2; have BT5 := kst BT4 hb; have hq5_0 := bx7 BT5.out; have HB5 := bst HB4 hb; have HO1b := rst HO1 hb; have HO2 := aM (Kd.R_lower (Kd.S_R ho) HB4.out.size); clear hb ho))
      go_ret2
      refine ⟨.slice (some ⟨w5.heap.size, 0, none⟩) 1 1, rfl, ?_, below_alloc HB5.out _⟩
      exact R_box k75 75 w5 w.heap.size (k75_mkM w5 w.heap.size (fun _ => True) (⟨⟨a0_0, a0_1, a0_2, a0_3, a0_4, a0_5, a0_6⟩, p1, q1⟩ : S75) HO1b.out HO2.out) HB5.out.size

def F33.l0 : Nat → List (List Int) → Int → Int → List (List Int) → Int → Int → Option (Bool)
 | 0, _, _, _, _, _, _ => none
 | k + 1, x0, x1, x2, x9, x10, x11 => if x11 < x10 then (if 0 ≤ x11 then (if x11 < (x9.length : Int) then (if ((rd_L13 x9 x11).length : Int) = x2 then (F33.l0 k x0 x1 x2 x9 x10 (wrap64 (x11 + 1))) else (some false)) else (none)) else (none)) else (some ((x0.length : Int) == x1))
def F33.f (k : Nat) (l0 : List (List Int)) (a1 : Int) (a2 : Int) : Option (Bool) := F33.l0 k l0 a1 a2 l0 (l0.length : Int) 0
theorem F33.mono_l : ∀ k, (∀ y0 y1 y2 y3 y4 y5, LeO (F33.l0 k y0 y1 y2 y3 y4 y5) (F33.l0 (k + 1) y0 y1 y2 y3 y4 y5))
 | 0 => fun _ _ _ _ _ _ r h => by simp [F33.l0] at h
 | k + 1 => by
  have ih0 := F33.mono_l k
  ·
   intro y0 y1 y2 y3 y4 y5; unfold F33.l0
   repeat' with_reducible first | exact ih0 _ _ _ _ _ _ | exact LeO.refl _ | exact LeO.none _ | refine LeO.ite ?_ ?_ | refine LeO.bind ?_ (fun _ => ?_)
theorem F33.mono : ∀ a0 a1 a2 k, LeO (F33.f k a0 a1 a2) (F33.f (k + 1) a0 a1 a2) := by
 intro a0 a1 a2 k; have ih0 := F33.mono_l k; unfold F33.f
 repeat' with_reducible first | exact ih0 _ _ _ _ _ _ | exact LeO.refl _ | exact LeO.none _ | refine LeO.ite ?_ ?_ | refine LeO.bind ?_ (fun _ => ?_)
theorem F33.calls (k : Nat) (A0 : Option Addr) (c0 : Nat) (l0 : List (List Int)) (a1 : Int) (a2 : Int) (r : Bool) (w : World) (hr0 : Kd.C (Kd.slice 21 (Kd.int .i32)) w A0 l0.length l0) (hc0 : l0.length ≤ c0) (h : F33.f k l0 a1 a2 = some r) :
  Calls Try.prog 33 #[.slice A0 l0.length c0, .int .i64 a1, .int .i64 a2] w fun e w' => e = .returned (.bool r) ∧ Drawn0 w w' := by
 have HR0 := aM hr0; have HC0 := aM hc0; clear hr0 hc0; have H := h; clear h; unfold F33.f at H; have H' := aM H; clear H
 go_enter Try.func33, Try.ntmps33
 go_wp2
 go_loopg [11] k (fun kq v11 w' => ∃ (x11_1 : Int), v11 = .int .i64 x11_1 ∧ Aside0 (F33.l0 kq l0 a1 a2 l0 (l0.length : Int) x11_1 = some r) ∧ Aside0 (kq ≤ k) ∧ Drawn0 w w')
 case atStart => exact ⟨(0), rfl, H', ⟨Nat.le_refl _⟩, dR⟩
 case round =>
  clear H'; (try clear p2); (try clear c3); obtain ⟨x11_1, rfl, HA, HK1, ⟨m1, rfl⟩⟩ := hrel
  cases gk with
  | zero => exact absurd HA.out (by simp [F33.l0])
  | succ k1 =>
   have H := HA.out; clear HA; simp only [F33.l0] at H
   by_cases c4 : x11_1 < (l0.length : Int)
   ·
    rw [if_pos c4] at H; have c4b0 : decide (x11_1 < (l0.length : Int)) = true := dT c4; clear c4; obtain ⟨c5, H⟩ := ifp H; have c5b0 : decide (0 ≤ x11_1) = true := dT c5; clear c5; obtain ⟨c6, H⟩ := ifp H; have c6b0 : decide (x11_1 < (l0.length : Int)) = true := dT c6; clear c6
    by_cases c7 : ((rd_L13 l0 x11_1).length : Int) = a2
    ·
     rw [if_pos c7] at H; have c7b0 : (((rd_L13 l0 x11_1).length : Int) == a2) = true := beq_iff_eq.mpr c7; have c7b1 : (((rd_L13 l0 x11_1).length : Int) != a2) = false := bne_eq_false_iff_eq.mpr c7; clear c7; have H' := aM H; clear H; have p140 : 0 ≤ (x11_1 : Int) := oD; have q140 : x11_1 < (l0.length : Int) := oD; obtain ⟨ad140, A140_0, c140_0, e140, hx140_0, hl140_0, hi140_0⟩ := at_L13 HR0.out x11_1 p140 q140
     cases e140
     have HR140_0 := aM hi140_0; have HC140_0 := aM hl140_0; clear hi140_0 hl140_0; replace p140 := eq_true p140; replace q140 := eq_true q140
     go_wp2
     go_roundg k1
     case measure => have := HK1.out; omega
     case rel => exact ⟨(wrap64 (x11_1 + 1)), rfl, H', ⟨by have := HK1.out; omega⟩, dR⟩
    ·
     rw [if_neg c7] at H; have c7b0 : (((rd_L13 l0 x11_1).length : Int) == a2) = false := beq_eq_false_iff_ne.mpr c7; have c7b1 : (((rd_L13 l0 x11_1).length : Int) != a2) = true := bne_iff_ne.mpr c7; obtain rfl := oI H; have p140 : 0 ≤ (x11_1 : Int) := oD; have q140 : x11_1 < (l0.length : Int) := oD; obtain ⟨ad140, A140_0, c140_0, e140, hx140_0, hl140_0, hi140_0⟩ := at_L13 HR0.out x11_1 p140 q140
     cases e140
     have HR140_0 := aM hi140_0; have HC140_0 := aM hl140_0; clear hi140_0 hl140_0; replace p140 := eq_true p140; replace q140 := eq_true q140
     go_wp2
     go_ret
     exact ⟨rfl, dR⟩
   ·
    rw [if_neg c4] at H; have c4b0 : decide (x11_1 < (l0.length : Int)) = false := dF c4; clear c4; obtain rfl := oI H
    go_wp2
    go_ret
    exact ⟨rfl, dR⟩

end Go.Proofs.Ytekenaclmplocaa.PPageParses
