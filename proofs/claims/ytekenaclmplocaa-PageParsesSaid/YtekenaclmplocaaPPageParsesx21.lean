-- Written by a program of this session (wip/tools/mkprint.py over the kit's print).
import Derived.Test.YtekenaclmplocaaPPageParsesx0
import Derived.Test.YtekenaclmplocaaPPageParsesx19
import Derived.Test.YtekenaclmplocaaPPageParsesx20
namespace Go.Proofs.Ytekenaclmplocaa.PPageParses
open Go.RowKit Go.Proofs.YtekenaclmplocaaW.PrintWords Go.Proofs.YtekenaclmplocaaW.PrintLast Go.Proofs.YtekenaclmplocaaW.PrintMore
attribute [local go_sem] max2_int min2_int max_two min_two max_three min_three max_four min_four
set_option linter.unusedVariables false
set_option maxHeartbeats 8000000
set_option maxRecDepth 100000
set_option linter.unusedSimpArgs false

mutual
def F56.l0 : Nat → ByteArray → Int → Int → Int → Int → Int → Int → Int → Int → List (S98) → List (S98) → Option (ByteArray)
 | 0, _, _, _, _, _, _, _, _, _, _, _ => none
 | k + 1, x3, x4, x541000, x541001, x541002, x541003, x541004, x541005, x541006, x541007, x541008 => if x4 < 6 then (if 0 ≤ x4 then (if x4 < 7 then ((F85.f k (IntKind.u64.wrap ((rd [x541000, x541001, x541002, x541003, x541004, x541005, x541006] x4))) 1).bind fun t542 => (if x3.size + t542.size ≤ 9223372036854775807 then (F56.l0 k (x3 ++ t542) (wrap64 (x4 + 1)) x541000 x541001 x541002 x541003 x541004 x541005 x541006 x541007 x541008) else (none))) else (none)) else (none)) else ((F85.f k (IntKind.u64.wrap (x541006)) 2).bind fun t543 => (if x3.size + t543.size ≤ 9223372036854775807 then (F56.l1 k (x3 ++ t543) 0 x541000 x541001 x541002 x541003 x541004 x541005 x541006 x541007 x541008) else (none)))
def F56.l1 : Nat → ByteArray → Int → Int → Int → Int → Int → Int → Int → Int → List (S98) → List (S98) → Option (ByteArray)
 | 0, _, _, _, _, _, _, _, _, _, _, _ => none
 | k + 1, x3, x5, x541000, x541001, x541002, x541003, x541004, x541005, x541006, x541007, x541008 => if x5 < (x541007.length : Int) then (if 0 ≤ x5 then ((F86.f k ((rd_T98 x541007 x5).f0) ((rd_T98 x541007 x5).f1) ((rd_T98 x541007 x5).f2) x541000).bind fun t545 => (if x3.size + t545.size ≤ 9223372036854775807 then (F56.l1 k (x3 ++ t545) (wrap64 (x5 + 1)) x541000 x541001 x541002 x541003 x541004 x541005 x541006 x541007 x541008) else (none))) else (none)) else (F56.l2 k x3 0 x541000 x541001 x541002 x541003 x541004 x541005 x541006 x541007 x541008)
def F56.l2 : Nat → ByteArray → Int → Int → Int → Int → Int → Int → Int → Int → List (S98) → List (S98) → Option (ByteArray)
 | 0, _, _, _, _, _, _, _, _, _, _, _ => none
 | k + 1, x3, x6, x541000, x541001, x541002, x541003, x541004, x541005, x541006, x541007, x541008 => if x6 < (x541008.length : Int) then (if 0 ≤ x6 then ((F86.f k ((rd_T98 x541008 x6).f0) ((rd_T98 x541008 x6).f1) ((rd_T98 x541008 x6).f2) x541001).bind fun t547 => (if x3.size + t547.size ≤ 9223372036854775807 then (F56.l2 k (x3 ++ t547) (wrap64 (x6 + 1)) x541000 x541001 x541002 x541003 x541004 x541005 x541006 x541007 x541008) else (none))) else (none)) else ((F87.f k x3).bind fun t548 => (some t548))
end
def F56.f (k : Nat) (a0_0 : Int) (a0_1 : Int) (a0_2 : Int) (a0_3 : Int) (a0_4 : Int) (a0_5 : Int) (a0_6 : Int) (l0_7 : List (S98)) (l0_8 : List (S98)) : Option (ByteArray) := F56.l0 k (⟨#[75]⟩ : ByteArray) 0 a0_0 a0_1 a0_2 a0_3 a0_4 a0_5 a0_6 l0_7 l0_8
theorem F56.mono_l : ∀ k, (∀ y0 y1 y2 y3 y4 y5 y6 y7 y8 y9 y10, LeO (F56.l0 k y0 y1 y2 y3 y4 y5 y6 y7 y8 y9 y10) (F56.l0 (k + 1) y0 y1 y2 y3 y4 y5 y6 y7 y8 y9 y10)) ∧ (∀ y0 y1 y2 y3 y4 y5 y6 y7 y8 y9 y10, LeO (F56.l1 k y0 y1 y2 y3 y4 y5 y6 y7 y8 y9 y10) (F56.l1 (k + 1) y0 y1 y2 y3 y4 y5 y6 y7 y8 y9 y10)) ∧ (∀ y0 y1 y2 y3 y4 y5 y6 y7 y8 y9 y10, LeO (F56.l2 k y0 y1 y2 y3 y4 y5 y6 y7 y8 y9 y10) (F56.l2 (k + 1) y0 y1 y2 y3 y4 y5 y6 y7 y8 y9 y10))
 | 0 => ⟨fun _ _ _ _ _ _ _ _ _ _ _ r h => by simp [F56.l0] at h, fun _ _ _ _ _ _ _ _ _ _ _ r h => by simp [F56.l1] at h, fun _ _ _ _ _ _ _ _ _ _ _ r h => by simp [F56.l2] at h⟩
 | k + 1 => by
  obtain ⟨ih0, ih1, ih2⟩ := F56.mono_l k
  refine ⟨?_, ?_, ?_⟩
  all_goals intros
  all_goals first | unfold F56.l0 | unfold F56.l1 | unfold F56.l2
  all_goals repeat' with_reducible first | exact ih0 _ _ _ _ _ _ _ _ _ _ _ | exact ih1 _ _ _ _ _ _ _ _ _ _ _ | exact ih2 _ _ _ _ _ _ _ _ _ _ _ | exact F85.mono _ _ _ | exact F87.mono _ _ | exact F86.mono _ _ _ _ _ | exact LeO.refl _ | exact LeO.none _ | refine LeO.ite ?_ ?_ | refine LeO.bind ?_ (fun _ => ?_)
theorem F56.mono : ∀ a0 a1 a2 a3 a4 a5 a6 a7 a8 k, LeO (F56.f k a0 a1 a2 a3 a4 a5 a6 a7 a8) (F56.f (k + 1) a0 a1 a2 a3 a4 a5 a6 a7 a8) := by
 intro a0 a1 a2 a3 a4 a5 a6 a7 a8 k; obtain ⟨ih0, ih1, ih2⟩ := F56.mono_l k; unfold F56.f
 repeat' with_reducible first | exact ih0 _ _ _ _ _ _ _ _ _ _ _ | exact ih1 _ _ _ _ _ _ _ _ _ _ _ | exact ih2 _ _ _ _ _ _ _ _ _ _ _ | exact F85.mono _ _ _ | exact F87.mono _ _ | exact F86.mono _ _ _ _ _ | exact LeO.refl _ | exact LeO.none _ | refine LeO.ite ?_ ?_ | refine LeO.bind ?_ (fun _ => ?_)
def F56.T10 : Bool × List (List Nat × List Nat) := (true, [([], []), ([], []), ([1], [1]), ([], []), ([2, 3], [2, 3]), ([4], [4]), ([], []), ([6], [6]), ([7], [7]), ([5, 8], [5, 8]), ([0, 9], [0, 9]), ([10, 9, 0, 1, 2, 3, 4, 5, 6, 7, 8, 9, 10], [0, 10])])
def F56.B10 : List Nat := [0, 0, 2, 0, 14, 30, 0, 64, 192, 510, 1023, 2047]
theorem F56.tab10 : rtab .any (opsOf Try.f56 10) = F56.T10 := by kernel_rfl
theorem F56.bits10 : waitsOk F56.T10.2 F56.B10 = true := by kernel_rfl
def F56.T14 : Bool × List (List Nat × List Nat) := (true, [([], []), ([], []), ([1], [1]), ([], []), ([2, 3], [2, 3]), ([4], [4]), ([], []), ([6], [6]), ([7], [7]), ([5, 8], [5, 8]), ([0, 9], [0, 9]), ([10, 9, 0, 1, 2, 3, 4, 5, 6, 7, 8, 9, 10], [0, 10])])
def F56.B14 : List Nat := [0, 0, 2, 0, 14, 30, 0, 64, 192, 510, 1023, 2047]
theorem F56.tab14 : rtab .any (opsOf Try.f56 14) = F56.T14 := by kernel_rfl
theorem F56.bits14 : waitsOk F56.T14.2 F56.B14 = true := by kernel_rfl
theorem F56.calls (k : Nat) (a0_0 : Int) (a0_1 : Int) (a0_2 : Int) (a0_3 : Int) (a0_4 : Int) (a0_5 : Int) (a0_6 : Int) (A0_7 : Option Addr) (c0_7 : Nat) (l0_7 : List (S98)) (A0_8 : Option Addr) (c0_8 : Nat) (l0_8 : List (S98)) (r : ByteArray) (w : World) (hr0_7 : Kd.C k98 w A0_7 l0_7.length l0_7) (hc0_7 : l0_7.length ≤ c0_7) (hr0_8 : Kd.C k98 w A0_8 l0_8.length l0_8) (hc0_8 : l0_8.length ≤ c0_8) (h : F56.f k a0_0 a0_1 a0_2 a0_3 a0_4 a0_5 a0_6 l0_7 l0_8 = some r) :
  Calls Try.prog 56 #[.agg #[.int .i64 a0_0, .int .i64 a0_1, .int .i64 a0_2, .int .i64 a0_3, .int .i64 a0_4, .int .i64 a0_5, .int .i64 a0_6, .slice A0_7 l0_7.length c0_7, .slice A0_8 l0_8.length c0_8]] w fun e w' => e = .returned (.string r) ∧ Below w.heap.size w w' := by
 have hu56 := Try.underlying56; have hu98 := Try.underlying98; have HR0_7 := aM hr0_7; have HC0_7 := aM hc0_7; clear hr0_7 hc0_7; have HR0_8 := aM hr0_8; have HC0_8 := aM hc0_8; clear hr0_8 hc0_8; have HB := aM (Below.refl w.heap.size w); have H := h; clear h; unfold F56.f at H; have H' := aM H; clear H
 go_enter Try.func56, Try.ntmps56
 go_wp2_with (first | ((with_reducible refine gate_dst (N := 1) rfl ?_); refine bxE 1 #[.int .i64 a0_0, .int .i64 a0_1, .int .i64 a0_2, .int .i64 a0_3, .int .i64 a0_4, .int .i64 a0_5, .int .i64 a0_6, .slice A0_7 l0_7.length c0_7, .slice A0_8 l0_8.length c0_8] 56 (h := ?_); intro gb540 hg w2 hbox hb; have BK540 := aM (hbox); have GW540 := gE hg HB; have GE540 := gE hg HB; replace HB := bst HB hb; clear hb hbox hg))
 go_loopg [3, 4] k (fun kq v3 v4 w' => ∃ (x3_1 : ByteArray) (x4_1 : Int), v3 = .string x3_1 ∧ v4 = .int .i64 x4_1 ∧ Aside0 (F56.l0 kq x3_1 x4_1 a0_0 a0_1 a0_2 a0_3 a0_4 a0_5 a0_6 l0_7 l0_8 = some r) ∧ Aside0 (kq ≤ k) ∧ Aside0 (w'.heap[gb540]? = some (.cells #[.int .i64 a0_0, .int .i64 a0_1, .int .i64 a0_2, .int .i64 a0_3, .int .i64 a0_4, .int .i64 a0_5, .int .i64 a0_6, (.slice A0_7 l0_7.length c0_7), (.slice A0_8 l0_8.length c0_8)] 56 (0, 0))) ∧ Aside0 (Below w.heap.size w w'))
 case atStart => exact ⟨((⟨#[75]⟩ : ByteArray)), (0), rfl, rfl, H', ⟨Nat.le_refl _⟩, BK540, HB⟩
 case round =>
  clear H'; (try clear p2); obtain ⟨x3_1, x4_1, rfl, rfl, HA, HK1, BK540, HB⟩ := hrel
  cases gk with
  | zero => exact absurd HA.out (by simp [F56.l0])
  | succ k1 =>
   have H := HA.out; clear HA; simp only [F56.l0] at H
   by_cases c3 : x4_1 < 6
   ·
    rw [if_pos c3] at H; have c3b0 : decide (x4_1 < 6) = true := dT c3; clear c3; obtain ⟨c4, H⟩ := ifp H; have c4b0 : decide (0 ≤ x4_1) = true := dT c4; clear c4; obtain ⟨c5, H⟩ := ifp H; have c5b0 : decide (x4_1 < 7) = true := dT c5; clear c5; obtain ⟨t542, A6, H⟩ := bnd H; obtain ⟨c7, H⟩ := ifp H; have c7b0 := eq_true c7; have c7b1 : decide (x3_1.size + t542.size ≤ 9223372036854775807) = true := dT c7
    try have c7b2 : (9223372036854775807 < x3_1.size + t542.size) = False := eq_false (Nat.not_lt.2 c7)
    (try (have c7b3 := c7b2; simp only [ByteArray.size_append] at c7b3)); have H' := aM H; clear H; have hz8 := bx9 BK540.out; have hxb541 := blk_rd7 BK540.out rfl rfl rfl rfl rfl rfl rfl x4_1 oD oD; have hu28 := Try.underlying28; have pxb541 : (0 ≤ x4_1) = True := eq_true oD; have qxb541 : (x4_1 < 7) = True := eq_true oD
    go_wp2_with (first | ((with_reducible refine gate_callee (f := 85) rfl ?_); refine gL 17 Try.func85 #[.int .u64 (IntKind.u64.wrap ((rd [a0_0, a0_1, a0_2, a0_3, a0_4, a0_5, a0_6] x4_1))), .int .i64 1] (h := ?_); (with_reducible refine (F85.calls k1 (IntKind.u64.wrap ((rd [a0_0, a0_1, a0_2, a0_3, a0_4, a0_5, a0_6] x4_1))) 1 t542 _ A6.out).mono ?_); rintro e w9 ⟨rfl, hb⟩; refine ⟨_, rfl, ?_⟩; replace BK540 := kst BK540 hb; replace HB := bst HB hb; clear hb))
    go_roundg k1
    case measure => have := HK1.out; omega
    case rel => exact ⟨(x3_1 ++ t542), (wrap64 (x4_1 + 1)), rfl, rfl, H', ⟨by have := HK1.out; omega⟩, BK540, HB⟩
   ·
    rw [if_neg c3] at H; have c3b0 : decide (x4_1 < 6) = false := dF c3; clear c3; obtain ⟨t543, A10, H⟩ := bnd H; obtain ⟨c11, H⟩ := ifp H; have c11b0 := eq_true c11; have c11b1 : decide (x3_1.size + t543.size ≤ 9223372036854775807) = true := dT c11
    try have c11b2 : (9223372036854775807 < x3_1.size + t543.size) = False := eq_false (Nat.not_lt.2 c11)
    (try (have c11b3 := c11b2; simp only [ByteArray.size_append] at c11b3)); have H' := aM H; clear H; have hz12 := bx9 BK540.out
    go_wp2_with (first | ((with_reducible refine gate_callee (f := 85) rfl ?_); refine gL 24 Try.func85 #[.int .u64 (IntKind.u64.wrap (a0_6)), .int .i64 2] (h := ?_); (with_reducible refine (F85.calls k1 (IntKind.u64.wrap (a0_6)) 2 t543 _ A10.out).mono ?_); rintro e w13 ⟨rfl, hb⟩; refine ⟨_, rfl, ?_⟩; replace BK540 := kst BK540 hb; replace HB := bst HB hb; clear hb))
    go_loopg [3, 5] k1 (fun kq v3 v5 w' => ∃ (x3_2 : ByteArray) (x5_2 : Int), v3 = .string x3_2 ∧ v5 = .int .i64 x5_2 ∧ Aside0 (F56.l1 kq x3_2 x5_2 a0_0 a0_1 a0_2 a0_3 a0_4 a0_5 a0_6 l0_7 l0_8 = some r) ∧ Aside0 (kq ≤ k1) ∧ Aside0 (w'.heap[gb540]? = some (.cells #[.int .i64 a0_0, .int .i64 a0_1, .int .i64 a0_2, .int .i64 a0_3, .int .i64 a0_4, .int .i64 a0_5, .int .i64 a0_6, (.slice A0_7 l0_7.length c0_7), (.slice A0_8 l0_8.length c0_8)] 56 (0, 0))) ∧ Aside0 (Below w.heap.size w w'))
    case atStart => exact ⟨(x3_1 ++ t543), (0), rfl, rfl, H', ⟨Nat.le_refl _⟩, BK540, HB⟩
    case round =>
     clear H'; (try clear c1); (try clear p2); (try clear c3); (try clear c3b0); (try clear c4); (try clear c4b0); (try clear c5); (try clear c5b0); (try clear p6); (try clear c7); (try clear c7b0); (try clear c7b1); (try clear c7b2); (try clear c8); (try clear c11); (try clear c11b0); (try clear c11b1); (try clear c11b2); (try clear hz12); (try clear hz8); (try clear p2); obtain ⟨x3_2, x5_2, rfl, rfl, HA, HK2, BK540, HB⟩ := hrel
     cases gk with
     | zero => exact absurd HA.out (by simp [F56.l1])
     | succ k2 =>
      have H := HA.out; clear HA; simp only [F56.l1] at H
      by_cases c14 : x5_2 < (l0_7.length : Int)
      ·
       rw [if_pos c14] at H; have c14b0 : decide (x5_2 < (l0_7.length : Int)) = true := dT c14; clear c14; obtain ⟨c15, H⟩ := ifp H; have c15b0 : decide (0 ≤ x5_2) = true := dT c15; clear c15; obtain ⟨t545, A16, H⟩ := bnd H; obtain ⟨c17, H⟩ := ifp H; have c17b0 := eq_true c17; have c17b1 : decide (x3_2.size + t545.size ≤ 9223372036854775807) = true := dT c17
       try have c17b2 : (9223372036854775807 < x3_2.size + t545.size) = False := eq_false (Nat.not_lt.2 c17)
       (try (have c17b3 := c17b2; simp only [ByteArray.size_append] at c17b3)); have H' := aM H; clear H; have hz18 := bx9 BK540.out
       try go_wp2
       replace BK540 := aM (blk_drew BK540.out); replace HB := aM (below_drew1 HB.out); have p544 : 0 ≤ (x5_2 : Int) := oD; have q544 : x5_2 < (l0_7.length : Int) := oD; obtain ⟨ad544, A544_2, c544_2, e544, hx544_0, hx544_1, hx544_2, hl544_2, hi544_2⟩ := at_T98 HR0_7.out x5_2 p544 q544; have hw544_2 := hx544_2; have hw544_1 := hx544_1; have hw544_0 := hx544_0
       cases e544
       replace hx544_0 := cU HB hx544_0; replace hx544_1 := cU HB hx544_1; replace hx544_2 := cU HB hx544_2; have HR544_2 := aM hi544_2; have HC544_2 := aM hl544_2; clear hi544_2 hl544_2; replace p544 := eq_true p544; replace q544 := eq_true q544
       refine start_ (n := 12) (S := fun w' => w'.cell? ⟨gb540, 0, none⟩ = some (.int .i64 a0_0) ∧ w'.cell? ⟨gb540, 1, none⟩ = some (.int .i64 a0_1) ∧ w'.cell? ⟨gb540, 2, none⟩ = some (.int .i64 a0_2) ∧ w'.cell? ⟨gb540, 3, none⟩ = some (.int .i64 a0_3) ∧ w'.cell? ⟨gb540, 4, none⟩ = some (.int .i64 a0_4) ∧ w'.cell? ⟨gb540, 5, none⟩ = some (.int .i64 a0_5) ∧ w'.cell? ⟨gb540, 6, none⟩ = some (.int .i64 a0_6) ∧ w'.cell? ⟨gb540, 7, none⟩ = some (.slice (some ad544) l0_7.length c0_7) ∧ w'.cell? ⟨gb540, 8, none⟩ = some (.slice A0_8 l0_8.length c0_8) ∧ w'.cell? (ad544.add ((x5_2).toNat * 3)) = some (.int .i32 ((rd_T98 l0_7 x5_2).f0)) ∧ w'.cell? ⟨(ad544.add ((x5_2).toNat * 3)).block, (ad544.add ((x5_2).toNat * 3)).off + 1, none⟩ = some (.int .u32 ((rd_T98 l0_7 x5_2).f1)) ∧ w'.cell? ⟨(ad544.add ((x5_2).toNat * 3)).block, (ad544.add ((x5_2).toNat * 3)).off + 2, none⟩ = some (.slice A544_2 ((rd_T98 l0_7 x5_2).f2).length c544_2)) (ds := []) (bA 12 0) (by kernel_rfl) rfl (by kernel_rfl) ⟨cL BK540 0, cL BK540 1, cL BK540 2, cL BK540 3, cL BK540 4, cL BK540 5, cL BK540 6, cL BK540 7, cL BK540 8, (cU HB hw544_0 :), (cU HB hw544_1 :), (cU HB hw544_2 :)⟩ (fun hHeld => ?_); refine with_tabW F56.tab10 F56.bits10 (fun HT_ HW_ => ?_)
       generalize wr.drew = w19 at BK540 HB HR544_2 hx544_0 hx544_1 hx544_2 hHeld ⊢
       refine pT 12 0 33 1 HT_ (h := ?_)
       refine pT 12 1 34 3 HT_ (h := ?_)
       refine pT 12 3 36 11 HT_ (h := ?_)
       refine pT 12 6 39 75 HT_ (h := ?_)
       refine pT 12 7 40 203 HT_ (h := ?_)
       refine tT 12 2 35 207 HT_ HW_ hHeld (h := ?_)
       refine pT 12 4 37 223 HT_ (h := ?_)
       refine tT 12 5 38 255 HT_ HW_ hHeld (h := ?_)
       refine tT 12 8 41 511 HT_ HW_ hHeld (h := ?_)
       refine one_ (i := 9) (N := some 42) (bA 12 1023) rfl rfl (one_of HT_.out (by kernel_rfl)) (by decide) (fun K hK => ?_)
       refine gA Try.func86 #[.agg #[.int .i32 ((rd_T98 l0_7 x5_2).f0), .int .u32 ((rd_T98 l0_7 x5_2).f1), .slice A544_2 ((rd_T98 l0_7 x5_2).f2).length c544_2], .int .i64 a0_0] (h := ?_)
       with_reducible refine (F86.calls k2 ((rd_T98 l0_7 x5_2).f0) ((rd_T98 l0_7 x5_2).f1) _ _ ((rd_T98 l0_7 x5_2).f2) a0_0 t545 _ ?side1 ?side2 A16.out).mono ?_
       (case side1 => with_reducible exact (Kd.C_below HR544_2.out HB.out)); (case side2 => exact HC544_2.out); rintro e w20 ⟨rfl, hb⟩
       refine ⟨_, rfl, ?_⟩
       replace BK540 := aM (blk_below (g := gb540) (o := .cells #[.int .i64 a0_0, .int .i64 a0_1, .int .i64 a0_2, .int .i64 a0_3, .int .i64 a0_4, .int .i64 a0_5, .int .i64 a0_6, .slice (some ad544) l0_7.length c0_7, .slice A0_8 l0_8.length c0_8] 56 (0, 0)) (bK BK540.out) hb); replace HB := aM (below_step bZ hb); (try clear hb); (try clear hb2); (try clear hk); (try clear hi)
       refine hK.out _ _ ⟨cL BK540 0, cL BK540 1, cL BK540 2, cL BK540 3, cL BK540 4, cL BK540 5, cL BK540 6, cL BK540 7, cL BK540 8, (cU HB hw544_0 :), (cU HB hw544_1 :), (cU HB hw544_2 :)⟩ (fun hHeld => ?_)
       clear hK K
       refine nT 42 (h := ?_)
       refine pT 12 10 43 2047 HT_ (h := ?_)
       refine pT 12 11 3 4095 HT_ (h := ?_)
       refine done_ (done_of HT_.out (by kernel_rfl)) ?_
       try go_wp2
       go_roundg k2
       case measure => have := HK1.out; have := HK2.out; omega
       case rel => exact ⟨(x3_2 ++ t545), (wrap64 (x5_2 + 1)), rfl, rfl, H', ⟨by have := HK1.out; have := HK2.out; omega⟩, BK540, HB⟩
      ·
       rw [if_neg c14] at H; have c14b0 : decide (x5_2 < (l0_7.length : Int)) = false := dF c14; clear c14; have H' := aM H; clear H; have hz21 := bx9 BK540.out
       go_wp2
       go_loopg [3, 6] k2 (fun kq v3 v6 w' => ∃ (x3_3 : ByteArray) (x6_3 : Int), v3 = .string x3_3 ∧ v6 = .int .i64 x6_3 ∧ Aside0 (F56.l2 kq x3_3 x6_3 a0_0 a0_1 a0_2 a0_3 a0_4 a0_5 a0_6 l0_7 l0_8 = some r) ∧ Aside0 (kq ≤ k2) ∧ Aside0 (w'.heap[gb540]? = some (.cells #[.int .i64 a0_0, .int .i64 a0_1, .int .i64 a0_2, .int .i64 a0_3, .int .i64 a0_4, .int .i64 a0_5, .int .i64 a0_6, (.slice A0_7 l0_7.length c0_7), (.slice A0_8 l0_8.length c0_8)] 56 (0, 0))) ∧ Aside0 (Below w.heap.size w w'))
       case atStart => exact ⟨(x3_2), (0), rfl, rfl, H', ⟨Nat.le_refl _⟩, BK540, HB⟩
       case round =>
        clear H'; (try clear c1); (try clear p2); (try clear c3); (try clear c3b0); (try clear c4); (try clear c4b0); (try clear c5); (try clear c5b0); (try clear p5); (try clear q5); (try clear hx5); (try clear p6); (try clear c7); (try clear c7b0); (try clear c7b1); (try clear c7b2); (try clear c8); (try clear c11); (try clear c11b0); (try clear c11b1); (try clear c11b2); (try clear c14); (try clear c14b0); (try clear c15); (try clear c15b0); (try clear c17); (try clear c17b0); (try clear c17b1); (try clear c17b2); (try clear hz12); (try clear hz18); (try clear hz21); (try clear hz8); (try clear hx544_0); (try clear hx544_1); (try clear hx544_2); (try clear p2); (try clear p544); (try clear p6); (try clear q544); obtain ⟨x3_3, x6_3, rfl, rfl, HA, HK3, BK540, HB⟩ := hrel
        cases gk with
        | zero => exact absurd HA.out (by simp [F56.l2])
        | succ k3 =>
         have H := HA.out; clear HA; simp only [F56.l2] at H
         by_cases c22 : x6_3 < (l0_8.length : Int)
         ·
          rw [if_pos c22] at H; have c22b0 : decide (x6_3 < (l0_8.length : Int)) = true := dT c22; clear c22; obtain ⟨c23, H⟩ := ifp H; have c23b0 : decide (0 ≤ x6_3) = true := dT c23; clear c23; obtain ⟨t547, A24, H⟩ := bnd H; obtain ⟨c25, H⟩ := ifp H; have c25b0 := eq_true c25; have c25b1 : decide (x3_3.size + t547.size ≤ 9223372036854775807) = true := dT c25
          try have c25b2 : (9223372036854775807 < x3_3.size + t547.size) = False := eq_false (Nat.not_lt.2 c25)
          (try (have c25b3 := c25b2; simp only [ByteArray.size_append] at c25b3)); have H' := aM H; clear H; have hz26 := bx9 BK540.out
          try go_wp2
          replace BK540 := aM (blk_drew BK540.out); replace HB := aM (below_drew1 HB.out); have p546 : 0 ≤ (x6_3 : Int) := oD; have q546 : x6_3 < (l0_8.length : Int) := oD; obtain ⟨ad546, A546_2, c546_2, e546, hx546_0, hx546_1, hx546_2, hl546_2, hi546_2⟩ := at_T98 HR0_8.out x6_3 p546 q546; have hw546_2 := hx546_2; have hw546_1 := hx546_1; have hw546_0 := hx546_0
          cases e546
          replace hx546_0 := cU HB hx546_0; replace hx546_1 := cU HB hx546_1; replace hx546_2 := cU HB hx546_2; have HR546_2 := aM hi546_2; have HC546_2 := aM hl546_2; clear hi546_2 hl546_2; replace p546 := eq_true p546; replace q546 := eq_true q546
          refine start_ (n := 12) (S := fun w' => w'.cell? ⟨gb540, 0, none⟩ = some (.int .i64 a0_0) ∧ w'.cell? ⟨gb540, 1, none⟩ = some (.int .i64 a0_1) ∧ w'.cell? ⟨gb540, 2, none⟩ = some (.int .i64 a0_2) ∧ w'.cell? ⟨gb540, 3, none⟩ = some (.int .i64 a0_3) ∧ w'.cell? ⟨gb540, 4, none⟩ = some (.int .i64 a0_4) ∧ w'.cell? ⟨gb540, 5, none⟩ = some (.int .i64 a0_5) ∧ w'.cell? ⟨gb540, 6, none⟩ = some (.int .i64 a0_6) ∧ w'.cell? ⟨gb540, 7, none⟩ = some (.slice A0_7 l0_7.length c0_7) ∧ w'.cell? ⟨gb540, 8, none⟩ = some (.slice (some ad546) l0_8.length c0_8) ∧ w'.cell? (ad546.add ((x6_3).toNat * 3)) = some (.int .i32 ((rd_T98 l0_8 x6_3).f0)) ∧ w'.cell? ⟨(ad546.add ((x6_3).toNat * 3)).block, (ad546.add ((x6_3).toNat * 3)).off + 1, none⟩ = some (.int .u32 ((rd_T98 l0_8 x6_3).f1)) ∧ w'.cell? ⟨(ad546.add ((x6_3).toNat * 3)).block, (ad546.add ((x6_3).toNat * 3)).off + 2, none⟩ = some (.slice A546_2 ((rd_T98 l0_8 x6_3).f2).length c546_2)) (ds := []) (bA 12 0) (by kernel_rfl) rfl (by kernel_rfl) ⟨cL BK540 0, cL BK540 1, cL BK540 2, cL BK540 3, cL BK540 4, cL BK540 5, cL BK540 6, cL BK540 7, cL BK540 8, (cU HB hw546_0 :), (cU HB hw546_1 :), (cU HB hw546_2 :)⟩ (fun hHeld => ?_); refine with_tabW F56.tab14 F56.bits14 (fun HT_ HW_ => ?_)
          generalize wr.drew = w27 at BK540 HB HR546_2 hx546_0 hx546_1 hx546_2 hHeld ⊢
          refine pT 12 0 51 1 HT_ (h := ?_)
          refine pT 12 1 52 3 HT_ (h := ?_)
          refine pT 12 3 54 11 HT_ (h := ?_)
          refine pT 12 6 57 75 HT_ (h := ?_)
          refine pT 12 7 58 203 HT_ (h := ?_)
          refine tT 12 2 53 207 HT_ HW_ hHeld (h := ?_)
          refine pT 12 4 55 223 HT_ (h := ?_)
          refine tT 12 5 56 255 HT_ HW_ hHeld (h := ?_)
          refine tT 12 8 59 511 HT_ HW_ hHeld (h := ?_)
          refine one_ (i := 9) (N := some 60) (bA 12 1023) rfl rfl (one_of HT_.out (by kernel_rfl)) (by decide) (fun K hK => ?_)
          refine gA Try.func86 #[.agg #[.int .i32 ((rd_T98 l0_8 x6_3).f0), .int .u32 ((rd_T98 l0_8 x6_3).f1), .slice A546_2 ((rd_T98 l0_8 x6_3).f2).length c546_2], .int .i64 a0_1] (h := ?_)
          with_reducible refine (F86.calls k3 ((rd_T98 l0_8 x6_3).f0) ((rd_T98 l0_8 x6_3).f1) _ _ ((rd_T98 l0_8 x6_3).f2) a0_1 t547 _ ?side1 ?side2 A24.out).mono ?_
          (case side1 => with_reducible exact (Kd.C_below HR546_2.out HB.out)); (case side2 => exact HC546_2.out); rintro e w28 ⟨rfl, hb⟩
          refine ⟨_, rfl, ?_⟩
          replace BK540 := aM (blk_below (g := gb540) (o := .cells #[.int .i64 a0_0, .int .i64 a0_1, .int .i64 a0_2, .int .i64 a0_3, .int .i64 a0_4, .int .i64 a0_5, .int .i64 a0_6, .slice A0_7 l0_7.length c0_7, .slice (some ad546) l0_8.length c0_8] 56 (0, 0)) (bK BK540.out) hb); replace HB := aM (below_step bZ hb); (try clear hb); (try clear hb2); (try clear hk); (try clear hi)
          refine hK.out _ _ ⟨cL BK540 0, cL BK540 1, cL BK540 2, cL BK540 3, cL BK540 4, cL BK540 5, cL BK540 6, cL BK540 7, cL BK540 8, (cU HB hw546_0 :), (cU HB hw546_1 :), (cU HB hw546_2 :)⟩ (fun hHeld => ?_)
          clear hK K
          refine nT 60 (h := ?_)
          refine pT 12 10 61 2047 HT_ (h := ?_)
          refine pT 12 11 3 4095 HT_ (h := ?_)
          refine done_ (done_of HT_.out (by kernel_rfl)) ?_
          try go_wp2
          go_roundg k3
          case measure => have := HK1.out; have := HK2.out; have := HK3.out; omega
          case rel => exact ⟨(x3_3 ++ t547), (wrap64 (x6_3 + 1)), rfl, rfl, H', ⟨by have := HK1.out; have := HK2.out; have := HK3.out; omega⟩, BK540, HB⟩
         ·
          rw [if_neg c22] at H; have c22b0 : decide (x6_3 < (l0_8.length : Int)) = false := dF c22; clear c22; obtain ⟨t548, A29, H⟩ := bnd H; obtain rfl := oI H; have hz30 := bx9 BK540.out
          go_wp2_with (first | ((with_reducible refine gate_callee (f := 87) rfl ?_); refine gL 63 Try.func87 #[.string x3_3] (h := ?_); (with_reducible refine (F87.calls k3 x3_3 t548 _ A29.out).mono ?_); rintro e w31 ⟨rfl, hb⟩; refine ⟨_, rfl, ?_⟩; replace BK540 := kst BK540 hb; replace HB := bst HB hb; clear hb))
          go_ret
          exact ⟨rfl, HB.out⟩

end Go.Proofs.Ytekenaclmplocaa.PPageParses
