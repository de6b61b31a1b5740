-- Written by a program of this session (wip/tools/mkprint.py over the kit's print).
import Derived.Test.YtekenaclmplocaaPPageParsesx0
import Derived.Test.YtekenaclmplocaaPPageParsesx19
import Derived.Test.YtekenaclmplocaaPPageParsesx23
import Derived.Test.YtekenaclmplocaaPPageParsesx24
namespace Go.Proofs.Ytekenaclmplocaa.PPageParses
open Go.RowKit Go.Proofs.YtekenaclmplocaaW.PrintWords Go.Proofs.YtekenaclmplocaaW.PrintLast Go.Proofs.YtekenaclmplocaaW.PrintMore
attribute [local go_sem] max2_int min2_int max_two min_two max_three min_three max_four min_four
set_option linter.unusedVariables false
set_option maxHeartbeats 8000000
set_option maxRecDepth 100000
set_option linter.unusedSimpArgs false

mutual
def F61.l0 : Nat → ByteArray → Int → Int → Int → List (S98) → Int → Option ((List (S98)) × ByteArray × Int)
 | 0, _, _, _, _, _, _ => none
 | k + 1, x0, x1, x2, x3, x11, x12 => if x12 < x1 then (if 0 ≤ 4 then (if 4 ≤ (x0.size : Int) then ((F90.f k (x0.extract 0 4)).bind fun t626 => (if 4 ≤ 8 then (if 8 ≤ (x0.size : Int) then ((F59.f k (x0.extract 4 8)).bind fun t627 => (F61.l1 k (x0.extract 8 x0.size) x1 x2 x3 x11 x12 ([] : List Int) 0 t626 ((t627) % 4294967296))) else (none)) else (none))) else (none)) else (none)) else (some (x11, x0, 0))
def F61.l1 : Nat → ByteArray → Int → Int → Int → List (S98) → Int → List Int → Int → Int → Int → Option ((List (S98)) × ByteArray × Int)
 | 0, _, _, _, _, _, _, _, _, _, _ => none
 | k + 1, x0, x1, x2, x3, x11, x12, x14, x15, x629000, x629001 => (F89.f k x2 x3).bind fun t629 => (if x15 < t629 then (if 0 ≤ 8 then (if 8 ≤ (x0.size : Int) then ((F59.f k (x0.extract 0 8)).bind fun t630 => (if x14.length < 17592186044416 then (F61.l1 k (x0.extract 8 x0.size) x1 x2 x3 x11 x12 (x14 ++ [t630]) (wrap64 (x15 + 1)) x629000 x629001) else (none))) else (none)) else (none)) else ((F91.f k x14 x2 x3).bind fun t634 => (if t634 = true then (some (([] : List (S98)), x0, 10)) else (F61.l2 k x0 x1 x2 x3 x11 x12 x14 0 x629000 x629001 ([] : List Int)))))
def F61.l2 : Nat → ByteArray → Int → Int → Int → List (S98) → Int → List Int → Int → Int → Int → List Int → Option ((List (S98)) × ByteArray × Int)
 | 0, _, _, _, _, _, _, _, _, _, _, _ => none
 | k + 1, x0, x1, x2, x3, x11, x12, x14, x16, x629000, x629001, x629002 => if x16 < x2 then ((F92.f k x14 x16 x3).bind fun t635 => (if x629002.length < 17592186044416 then (F61.l2 k x0 x1 x2 x3 x11 x12 x14 (wrap64 (x16 + 1)) x629000 x629001 (x629002 ++ [t635])) else (none))) else ((F51.f k x629000 x629001 x629002 x3).bind fun t639 => (if t639 = 0 then (if x11.length < 4398046511104 then (F61.l0 k x0 x1 x2 x3 (x11 ++ [(⟨x629000, x629001, x629002⟩ : S98)]) (wrap64 (x12 + 1))) else (none)) else (some (([] : List (S98)), x0, t639))))
end
def F61.f (k : Nat) (a0 : ByteArray) (a1 : Int) (a2 : Int) (a3 : Int) : Option ((List (S98)) × ByteArray × Int) := F61.l0 k a0 a1 a2 a3 ([] : List (S98)) 0
theorem F61.mono_l : ∀ k, (∀ y0 y1 y2 y3 y4 y5, LeO (F61.l0 k y0 y1 y2 y3 y4 y5) (F61.l0 (k + 1) y0 y1 y2 y3 y4 y5)) ∧ (∀ y0 y1 y2 y3 y4 y5 y6 y7 y8 y9, LeO (F61.l1 k y0 y1 y2 y3 y4 y5 y6 y7 y8 y9) (F61.l1 (k + 1) y0 y1 y2 y3 y4 y5 y6 y7 y8 y9)) ∧ (∀ y0 y1 y2 y3 y4 y5 y6 y7 y8 y9 y10, LeO (F61.l2 k y0 y1 y2 y3 y4 y5 y6 y7 y8 y9 y10) (F61.l2 (k + 1) y0 y1 y2 y3 y4 y5 y6 y7 y8 y9 y10))
 | 0 => ⟨fun _ _ _ _ _ _ r h => by simp [F61.l0] at h, fun _ _ _ _ _ _ _ _ _ _ r h => by simp [F61.l1] at h, fun _ _ _ _ _ _ _ _ _ _ _ r h => by simp [F61.l2] at h⟩
 | k + 1 => by
  obtain ⟨ih0, ih1, ih2⟩ := F61.mono_l k
  refine ⟨?_, ?_, ?_⟩
  all_goals intros
  all_goals first | unfold F61.l0 | unfold F61.l1 | unfold F61.l2
  all_goals repeat' with_reducible first | exact ih0 _ _ _ _ _ _ | exact ih1 _ _ _ _ _ _ _ _ _ _ | exact ih2 _ _ _ _ _ _ _ _ _ _ _ | exact F92.mono _ _ _ _ | exact F91.mono _ _ _ _ | exact F89.mono _ _ _ | exact F59.mono _ _ | exact F90.mono _ _ | exact F51.mono _ _ _ _ _ | exact LeO.refl _ | exact LeO.none _ | refine LeO.ite ?_ ?_ | refine LeO.bind ?_ (fun _ => ?_)
theorem F61.mono : ∀ a0 a1 a2 a3 k, LeO (F61.f k a0 a1 a2 a3) (F61.f (k + 1) a0 a1 a2 a3) := by
 intro a0 a1 a2 a3 k; obtain ⟨ih0, ih1, ih2⟩ := F61.mono_l k; unfold F61.f
 repeat' with_reducible first | exact ih0 _ _ _ _ _ _ | exact ih1 _ _ _ _ _ _ _ _ _ _ | exact ih2 _ _ _ _ _ _ _ _ _ _ _ | exact F92.mono _ _ _ _ | exact F91.mono _ _ _ _ | exact F89.mono _ _ _ | exact F59.mono _ _ | exact F90.mono _ _ | exact F51.mono _ _ _ _ _ | exact LeO.refl _ | exact LeO.none _ | refine LeO.ite ?_ ?_ | refine LeO.bind ?_ (fun _ => ?_)
def F61.T5 : Bool × List (List Nat × List Nat) := (true, [([], []), ([0], [0]), ([1], [1]), ([], []), ([3], [3]), ([4, 2], [4]), ([5], [5]), ([2, 6], [2, 6]), ([], []), ([8, 7, 5, 0, 1, 2, 3, 4, 5, 6, 7, 8], [7, 8])])
def F61.B5 : List Nat := [0, 1, 3, 0, 8, 31, 63, 127, 0, 511]
theorem F61.tab5 : rtab .any (opsOf Try.f61 5) = F61.T5 := by kernel_rfl
theorem F61.bits5 : waitsOk F61.T5.2 F61.B5 = true := by kernel_rfl
def F61.T18 : Bool × List (List Nat × List Nat) := (true, [([], []), ([0], [0]), ([], []), ([], []), ([], []), ([2, 3, 4], [2, 3, 4]), ([5], [5]), ([1, 6, 5], [1, 6]), ([0, 1, 2, 3, 4, 5, 6, 7], []), ([8, 7, 7, 0, 1, 2, 3, 4, 5, 6, 7], [7, 8])])
def F61.B18 : List Nat := [0, 1, 0, 0, 0, 28, 60, 127, 255, 511]
theorem F61.tab18 : rtab .any (opsOf Try.f61 18) = F61.T18 := by kernel_rfl
theorem F61.bits18 : waitsOk F61.T18.2 F61.B18 = true := by kernel_rfl
theorem F61.calls (k : Nat) (a0 : ByteArray) (a1 : Int) (a2 : Int) (a3 : Int) (r1 : List (S98)) (r2 : ByteArray) (r3 : Int) (w : World) (h : F61.f k a0 a1 a2 a3 = some (r1, r2, r3)) :
  Calls Try.prog 61 #[.string a0, .int .i64 a1, .int .i64 a2, .int .i64 a3] w fun e w' => ∃ v0_ : Value, e = .returned (.tuple #[v0_, .string r2, .int .i64 r3]) ∧ Kd.S k98 98 w' w.heap.size (fun _ => True) v0_ r1 ∧ Below w.heap.size w w' := by
 have hu98 := Try.underlying98; have HB := aM (Below.refl w.heap.size w); have H := h; clear h; unfold F61.f at H; have H' := aM H; clear H
 go_enter Try.func61, Try.ntmps61
 go_wp2
 go_loopg [0, 11, 12] k (fun kq v0 v11 v12 w' => ∃ (x0_1 : ByteArray) (x11_1 : List (S98)) (x12_1 : Int), v0 = .string x0_1 ∧ v12 = .int .i64 x12_1 ∧ Aside0 (F61.l0 kq x0_1 a1 a2 a3 x11_1 x12_1 = some (r1, r2, r3)) ∧ Aside0 (kq ≤ k) ∧ Aside0 (Kd.S k98 98 w' w.heap.size (fun _ => True) v11 x11_1) ∧ Aside0 (Below w.heap.size w w'))
 case atStart => exact ⟨(a0), (([] : List (S98))), (0), rfl, rfl, H', ⟨Nat.le_refl _⟩, ⟨by first | exact Kd.S_nil _ _ _ _ _ | exact Kd.N_nil _ _ _ _ _ | exact Kd.V_nil _ _ _ _ _ | exact Kd.Q_nil _ _ _ _ _ | exact Kd.R_nil _ _ _ _ _⟩, HB⟩
 case round =>
  clear H'; (try clear p2); obtain ⟨x0_1, x11_1, x12_1, rfl, rfl, HA, HK1, HO_11, HB⟩ := hrel
  cases gk with
  | zero => exact absurd HA.out (by simp [F61.l0])
  | succ k1 =>
   have H := HA.out; clear HA; simp only [F61.l0] at H
   by_cases c5 : x12_1 < a1
   ·
    rw [if_pos c5] at H; have c5b0 : decide (x12_1 < a1) = true := dT c5; clear c5; obtain ⟨c6, H⟩ := ifp H; have c6b0 := eq_true c6; have c6b1 : decide (0 ≤ 4) = true := dT c6; clear c6; obtain ⟨c7, H⟩ := ifp H; have c7b0 := eq_true c7; have c7b1 : decide (4 ≤ (x0_1.size : Int)) = true := dT c7; clear c7; obtain ⟨t626, A8, H⟩ := bnd H; obtain ⟨c9, H⟩ := ifp H; have c9b0 := eq_true c9; have c9b1 : decide (4 ≤ 8) = true := dT c9; clear c9; obtain ⟨c10, H⟩ := ifp H; have c10b0 := eq_true c10; have c10b1 : decide (8 ≤ (x0_1.size : Int)) = true := dT c10; clear c10; obtain ⟨t627, A11, H⟩ := bnd H; have c12b0 := eq_true (oD : 8 ≤ (x0_1.size : Int)); have H' := aM H; clear H
    try go_wp2
    replace HO_11 := aM (Kd.S_drew HO_11.out); replace HB := aM (below_drew1 HB.out)
    refine start_ (n := 10) (S := fun w' => True) (ds := []) (bA 10 0) (by kernel_rfl) rfl (by kernel_rfl) trivial (fun hHeld => ?_); refine with_tabW F61.tab5 F61.bits5 (fun HT_ HW_ => ?_)
    generalize wr.drew = w13 at HO_11 HB hHeld ⊢
    refine pT 10 0 23 1 HT_ (h := ?_)
    refine pT 10 1 24 3 HT_ (h := ?_)
    refine pT 10 3 26 11 HT_ (h := ?_)
    refine pT 10 4 27 27 HT_ (h := ?_)
    refine join_ (σ := Nat) 1 (bA 10 511) (fun s_ => [(25, .int .i32 t626), (28, .int .u64 t627), (13, .pointer (some ⟨s_, 0, none⟩)), (29, .int .u32 ((t627) % 4294967296)), (30, .agg #[.int .i32 t626, .int .u32 ((t627) % 4294967296), .slice none 0 0])]) (fun s_ w' => (Kd.S k98 98 w' w.heap.size (fun k_ => k_ ≠ s_) u11 x11_1) ∧ (w'.heap[s_]? = some (.cells #[.int .i32 0, .int .u32 0, .slice none 0 0] 98 (0, 0))) ∧ (w.heap.size ≤ s_) ∧ (w.heap.size ≤ s_) ∧ (Below w.heap.size w w')) ?_ ?_
    rotate_left
    ·
     intro hCont
     refine two_ (i := 2) (j := 8) (Ni := some 25) (Nj := some 13) (bA 10 31) (bA 10 283) rfl rfl rfl rfl (two_of HT_.out (by kernel_rfl)) (by decide) (by decide) (fun K hK => ?_) (fun K hK => ?_)
     ·
      skip
      refine gA Try.func90 #[.string (x0_1.extract 0 4)] (h := ?_)
      with_reducible refine (F90.calls k1 (x0_1.extract 0 4) t626 _ A8.out).mono ?_
      rintro e w' ⟨rfl, ⟨nd, rfl⟩⟩
      refine ⟨_, rfl, ?_⟩
      refine hK.out _ _ trivial (fun hHeld => ?_)
      clear hK K
      refine nT 25 (h := ?_)
      refine two_ (i := 5) (j := 8) (Ni := some 28) (Nj := some 13) (bA 10 63) (bA 10 287) rfl rfl rfl rfl (two_of HT_.out (by kernel_rfl)) (by decide) (by decide) (fun K hK => ?_) (fun K hK => ?_)
      ·
       skip
       refine gA Try.func59 #[.string (x0_1.extract 4 8)] (h := ?_)
       with_reducible refine (F59.calls k1 (x0_1.extract 4 8) t627 _ A11.out).mono ?_
       rintro e w' ⟨rfl, ⟨nd, rfl⟩⟩
       refine ⟨_, rfl, ?_⟩
       refine hK.out _ _ trivial (fun hHeld => ?_)
       clear hK K
       refine nT 28 (h := ?_)
       refine pT 10 6 29 127 HT_ (h := ?_)
       refine pT 10 7 30 255 HT_ (h := ?_)
       refine one_ (i := 8) (N := some 13) (bA 10 511) rfl rfl (one_of HT_.out (by kernel_rfl)) (by decide) (fun K hK => ?_)
       refine box_step ?hg (N := 13) ?hd (cs := #[.int .i32 0, .int .u32 0, .slice none 0 0]) (t := 98) ?hr ?_; (case hd => rfl); (case hg => rfl); (case hr => first | (go_simp; done) | (go_simp; rfl))
       intro gb628 hg w14 hbox hb; replace HO_11 := aM (Kd.S_below (Kd.S_elderB (kS HO_11.out) gb628 (Nat.le_of_eq hg.symm)) hb); have BK628 := aM (hbox); have GW628 := aM ((by rw [hg]; exact (below_size bZ) : w.heap.size ≤ gb628)); have GE628 := aM ((by rw [hg]; exact (below_size bZ) : w.heap.size ≤ gb628)); replace HB := aM (below_step bZ hb); clear hb hbox hg
       refine hK.out _ _ trivial (fun hHeld => ?_)
       clear hK K
       refine nT 13 (h := ?_)
       exact norm_ (by simp only [putAll, Act.put, List.setIfInBounds_toArray, List.set_cons_zero, List.set_cons_succ]) (hCont (gb628) _ ⟨(by (with_reducible repeat (first | apply Kd.S_alloc | apply Kd.S_drewN | apply Kd.S_drew)); exact Kd.S_mono HO_11.out (fun _ hk => hk.2)), (bK BK628.out), GW628.out, GE628.out, bZ⟩)
      ·
       skip
       refine box_step ?hg (N := 13) ?hd (cs := #[.int .i32 0, .int .u32 0, .slice none 0 0]) (t := 98) ?hr ?_; (case hd => rfl); (case hg => rfl); (case hr => first | (go_simp; done) | (go_simp; rfl))
       intro gb628 hg w14 hbox hb; replace HO_11 := aM (Kd.S_below (Kd.S_elderB (kS HO_11.out) gb628 (Nat.le_of_eq hg.symm)) hb); have BK628 := aM (hbox); have GW628 := aM ((by rw [hg]; exact (below_size bZ) : w.heap.size ≤ gb628)); have GE628 := aM ((by rw [hg]; exact (below_size bZ) : w.heap.size ≤ gb628)); replace HB := aM (below_step bZ hb); clear hb hbox hg
       refine hK.out _ _ trivial (fun hHeld => ?_)
       clear hK K
       refine nT 13 (h := ?_)
       refine one_ (i := 5) (N := some 28) (bA 10 319) rfl rfl (one_of HT_.out (by kernel_rfl)) (by decide) (fun K hK => ?_)
       refine gA Try.func59 #[.string (x0_1.extract 4 8)] (h := ?_)
       with_reducible refine (F59.calls k1 (x0_1.extract 4 8) t627 _ A11.out).mono ?_
       rintro e w' ⟨rfl, ⟨nd, rfl⟩⟩
       refine ⟨_, rfl, ?_⟩
       refine hK.out _ _ trivial (fun hHeld => ?_)
       clear hK K
       refine nT 28 (h := ?_)
       refine pT 10 6 29 383 HT_ (h := ?_)
       refine pT 10 7 30 511 HT_ (h := ?_)
       exact norm_ (by simp only [putAll, Act.put, List.setIfInBounds_toArray, List.set_cons_zero, List.set_cons_succ]) (hCont (gb628) _ ⟨(by (with_reducible repeat (first | apply Kd.S_alloc | apply Kd.S_drewN | apply Kd.S_drew)); exact Kd.S_mono HO_11.out (fun _ hk => hk.2)), (bK BK628.out), GW628.out, GE628.out, bZ⟩)
     ·
      skip
      refine box_step ?hg (N := 13) ?hd (cs := #[.int .i32 0, .int .u32 0, .slice none 0 0]) (t := 98) ?hr ?_; (case hd => rfl); (case hg => rfl); (case hr => first | (go_simp; done) | (go_simp; rfl))
      intro gb628 hg w14 hbox hb; replace HO_11 := aM (Kd.S_below (Kd.S_elderB (kS HO_11.out) gb628 (Nat.le_of_eq hg.symm)) hb); have BK628 := aM (hbox); have GW628 := aM ((by rw [hg]; exact (below_size bZ) : w.heap.size ≤ gb628)); have GE628 := aM ((by rw [hg]; exact (below_size bZ) : w.heap.size ≤ gb628)); replace HB := aM (below_step bZ hb); clear hb hbox hg
      refine hK.out _ _ trivial (fun hHeld => ?_)
      clear hK K
      refine nT 13 (h := ?_)
      refine one_ (i := 2) (N := some 25) (bA 10 287) rfl rfl (one_of HT_.out (by kernel_rfl)) (by decide) (fun K hK => ?_)
      refine gA Try.func90 #[.string (x0_1.extract 0 4)] (h := ?_)
      with_reducible refine (F90.calls k1 (x0_1.extract 0 4) t626 _ A8.out).mono ?_
      rintro e w' ⟨rfl, ⟨nd, rfl⟩⟩
      refine ⟨_, rfl, ?_⟩
      refine hK.out _ _ trivial (fun hHeld => ?_)
      clear hK K
      refine nT 25 (h := ?_)
      refine one_ (i := 5) (N := some 28) (bA 10 319) rfl rfl (one_of HT_.out (by kernel_rfl)) (by decide) (fun K hK => ?_)
      refine gA Try.func59 #[.string (x0_1.extract 4 8)] (h := ?_)
      with_reducible refine (F59.calls k1 (x0_1.extract 4 8) t627 _ A11.out).mono ?_
      rintro e w' ⟨rfl, ⟨nd, rfl⟩⟩
      refine ⟨_, rfl, ?_⟩
      refine hK.out _ _ trivial (fun hHeld => ?_)
      clear hK K
      refine nT 28 (h := ?_)
      refine pT 10 6 29 383 HT_ (h := ?_)
      refine pT 10 7 30 511 HT_ (h := ?_)
      exact norm_ (by simp only [putAll, Act.put, List.setIfInBounds_toArray, List.set_cons_zero, List.set_cons_succ]) (hCont (gb628) _ ⟨(by (with_reducible repeat (first | apply Kd.S_alloc | apply Kd.S_drewN | apply Kd.S_drew)); exact Kd.S_mono HO_11.out (fun _ hk => hk.2)), (bK BK628.out), GW628.out, GE628.out, bZ⟩)
    rintro gb628 w15 ⟨h0_, h1_, h2_, h3_, h4_⟩; have n0_ : Aside0 (Kd.S k98 98 w15 w.heap.size (fun k_ => k_ ≠ gb628) u11 x11_1) := ⟨h0_⟩; have n1_ : Aside0 (w15.heap[gb628]? = some (.cells #[.int .i32 0, .int .u32 0, .slice none 0 0] 98 (0, 0))) := ⟨h1_⟩; have n2_ : Aside0 (w.heap.size ≤ gb628) := ⟨h2_⟩; have n3_ : Aside0 (w.heap.size ≤ gb628) := ⟨h3_⟩; have n4_ : Aside0 (Below w.heap.size w w15) := ⟨h4_⟩; clear HO_11; clear HB; clear h0_ h1_ h2_ h3_ h4_; have HO_11 := n0_; have BK628 := n1_; have GW628 := n2_; have GE628 := n3_; have HB := n4_; clear n0_ n1_ n2_ n3_ n4_; have hHeld := trivial
    refine norm_ (a' := ?_) ?_ ?_
    rotate_left
    ·
     simp only [putAll, Act.put, List.setIfInBounds_toArray, List.set_cons_zero, List.set_cons_succ]
     rfl
    refine one_ (i := 9) (N := none) (bA 10 1023) rfl rfl (one_of HT_.out (by kernel_rfl)) (by decide) (fun K hK => ?_)
    have hs16 : w15.cell? ⟨gb628, 0, none⟩ = some (.int .i32 0) := cL BK628 0; have hfs16 := blk_frozen BK628.out 0; have hs17 : w15.cell? ⟨gb628, 1, none⟩ = some (.int .u32 0) := cL BK628 1; have hfs17 := blk_frozen BK628.out 1; have hs18 : w15.cell? ⟨gb628, 2, none⟩ = some (.slice none 0 0) := cL BK628 2; have hfs18 := blk_frozen BK628.out 2
    refine skip_ (w1 := ?_) (by rfl) rfl ?_ ?_
    rotate_left
    ·
     go_simp
     rfl
    refine hK.out _ _ trivial (fun hHeld => ?_)
    clear hK K
    refine done_ (done_of HT_.out (by kernel_rfl)) ?_
    try go_wp2
    go_loopg [0, 14, 15] k1 (fun kq v0 v14 v15 w' => ∃ (x0_2 : ByteArray) (x14_2 : List Int) (x15_2 : Int), v0 = .string x0_2 ∧ v15 = .int .i64 x15_2 ∧ Aside0 (F61.l1 kq x0_2 a1 a2 a3 x11_1 x12_1 x14_2 x15_2 t626 ((t627) % 4294967296) = some (r1, r2, r3)) ∧ Aside0 (kq ≤ k1) ∧ Aside0 (Kd.S k98 98 w' w.heap.size (fun k_ => k_ ≠ gb628) u11 x11_1) ∧ Aside0 (Kd.R (Kd.int .u64) 78 w' w.heap.size (fun _ => True) v14 x14_2) ∧ Aside0 (w'.heap[gb628]? = some (.cells #[.int .i32 t626, .int .u32 ((t627) % 4294967296), (.slice none 0 0)] 98 (0, 0))) ∧ Aside0 (Below w.heap.size w w'))
    case atStart => exact ⟨(x0_1.extract 8 x0_1.size), (([] : List Int)), (0), rfl, rfl, H', ⟨Nat.le_refl _⟩, ⟨by (with_reducible repeat (first | apply Kd.S_alloc | apply Kd.S_drewN | apply Kd.S_drew)); exact Kd.S_mono (Kd.S_far (p := ⟨gb628, 2, none⟩) (Kd.S_far (p := ⟨gb628, 1, none⟩) (Kd.S_far (p := ⟨gb628, 0, none⟩) (Kd.S_mono HO_11.out (fun k_ hk => (⟨hk, hk⟩ : _ ∧ k_ ≠ gb628))) (fun _ hk => hk.2) (.int .i32 t626)) (fun _ hk => hk.2) (.int .u32 ((t627) % 4294967296))) (fun _ hk => hk.2) (.slice none 0 0)) (fun _ hk => hk.1)⟩, ⟨by first | exact Kd.R_nil _ _ _ _ _ | exact Kd.N_nil _ _ _ _ _ | exact Kd.V_nil _ _ _ _ _ | exact Kd.Q_nil _ _ _ _ _ | exact Kd.S_nil _ _ _ _ _⟩, ⟨by (with_reducible repeat (first | refine blk_drewN ?_ _ | refine blk_drew ?_ | refine blk_alloc ?_ _)); refine blk_put (cs := #[.int .i32 t626, .int .u32 ((t627) % 4294967296), .slice none 0 0]) ?_ 2 _ rfl; (with_reducible repeat (first | refine blk_drewN ?_ _ | refine blk_drew ?_ | refine blk_alloc ?_ _)); refine blk_put (cs := #[.int .i32 t626, .int .u32 0, .slice none 0 0]) ?_ 1 _ rfl; (with_reducible repeat (first | refine blk_drewN ?_ _ | refine blk_drew ?_ | refine blk_alloc ?_ _)); refine blk_put (cs := #[.int .i32 0, .int .u32 0, .slice none 0 0]) ?_ 0 _ rfl; (with_reducible repeat (first | refine blk_drewN ?_ _ | refine blk_drew ?_ | refine blk_alloc ?_ _)); exact BK628.out⟩, ⟨bZ⟩⟩
    case round =>
     clear H'; (try clear c1); (try clear p2); (try clear c5); (try clear c5b0); (try clear c6); (try clear c6b0); (try clear c6b1); (try clear c7); (try clear c7b0); (try clear c7b1); (try clear c9); (try clear c9b0); (try clear c9b1); (try clear c10); (try clear c10b0); (try clear c10b1); (try clear c12); (try clear c12b0); (try clear p2); obtain ⟨x0_2, x14_2, x15_2, rfl, rfl, HA, HK2, HO_11, HO_14, BK628, HB⟩ := hrel
     cases gk with
     | zero => exact absurd HA.out (by simp [F61.l1])
     | succ k2 =>
      have H := HA.out; clear HA; simp only [F61.l1] at H; obtain ⟨t629, A19, H⟩ := bnd H
      by_cases c20 : x15_2 < t629
      ·
       rw [if_pos c20] at H; have c20b0 : decide (x15_2 < t629) = true := dT c20; clear c20; obtain ⟨c21, H⟩ := ifp H; have c21b0 := eq_true c21; have c21b1 : decide (0 ≤ 8) = true := dT c21; clear c21; obtain ⟨c22, H⟩ := ifp H; have c22b0 := eq_true c22; have c22b1 : decide (8 ≤ (x0_2.size : Int)) = true := dT c22; clear c22; obtain ⟨t630, A23, H⟩ := bnd H; obtain ⟨c24, H⟩ := ifp H; have LMc24 := aM c24; clear c24; obtain ⟨y631, hy631⟩ : ∃ y_ : List Int, y_ = (x14_2 ++ [t630]) := ⟨_, rfl⟩; (replace H : (F61.l1 k2 (x0_2.extract 8 x0_2.size) a1 a2 a3 x11_1 x12_1 y631 (wrap64 (x15_2 + 1)) t626 ((t627) % 4294967296)) = some (r1, r2, r3) := by rw [hy631]; exact H); have Ny631 := aM hy631; clear hy631; have c25b0 := eq_true (oD : 8 ≤ (x0_2.size : Int)); have H' := aM H; clear H
       go_wp2_with (first | ((with_reducible refine gate_callee (f := 89) rfl ?_); refine gL 36 Try.func89 #[.int .i64 a2, .int .i64 a3] (h := ?_); (with_reducible refine (F89.calls k2 a2 a3 t629 _ A19.out).mono ?_); rintro e w' ⟨rfl, ⟨nd, rfl⟩⟩; refine ⟨_, rfl, ?_⟩) | ((with_reducible refine gate_callee (f := 59) rfl ?_); refine gL 43 Try.func59 #[.string (x0_2.extract 0 8)] (h := ?_); (with_reducible refine (F59.calls k2 (x0_2.extract 0 8) t630 _ A23.out).mono ?_); rintro e w' ⟨rfl, ⟨nd, rfl⟩⟩; refine ⟨_, rfl, ?_⟩) | ((with_reducible refine gate_builtin (b := .append) (xs := #[.tmp 40, .tmp 44]) rfl ?_); at_builtin; refine Kd.R_append (Kd.int .u64) (w0 := w) w.heap.size rfl (.tmp 40) (.tmp 44) 80 78 (.int .u64 0) 8 rfl Try.underlying80 info78 rfl (by decide) (by omega) u14 x14_2 t630 [.int .u64 t630] (fun _ => True) (fun _ => False) rfl rfl ?aP (fun _ hk => hk.elim) ?aF ?aO ?aB ?aS ?aL ?_; (case aP => exact rfl); (case aB => exact bZ); (case aF => exact (fun _ _ => trivial)); (case aO => exact (kR HO_14.out)); (case aS => exact (below_size bZ)); (case aL => have := LMc24.out; omega); intro v632 w26 ho hb hg hat; rw [← Ny631.out] at ho; have n0_ := aM (Kd.S_over' (kS HO_11.out) (Kd.R_typed (kR HO_14.out)) (by decide) hg); have n1_ := aM (blk_grown (g := gb628) (o := .cells #[.int .i32 t626, .int .u32 ((t627) % 4294967296), .slice none 0 0] 98 (0, 0)) (bK BK628.out) hg (Kd.R_ne HO_14.out BK628.out (by decide))); have n2_ := aM (hb); have n3_ := aM (ho); clear HO_11; clear BK628; clear HB; clear HO_14; have HO_11 := n0_; have BK628 := n1_; have HB := n2_; have HO633 := n3_; clear n0_ n1_ n2_ n3_; clear ho hb hg hat))
       go_roundg k2
       case measure => have := HK1.out; have := HK2.out; omega
       case rel => exact ⟨(x0_2.extract 8 x0_2.size), (y631), (wrap64 (x15_2 + 1)), rfl, rfl, H', ⟨by have := HK1.out; have := HK2.out; omega⟩, HO_11, HO633, BK628, HB⟩
      ·
       rw [if_neg c20] at H; have c20b0 : decide (x15_2 < t629) = false := dF c20; clear c20; obtain ⟨t634, A27, H⟩ := bnd H
       by_cases c28 : t634 = true
       ·
        subst c28; rw [if_pos rfl] at H; simp only [Option.some.injEq, Prod.mk.injEq] at H; obtain ⟨rfl, rfl, rfl⟩ := H
        go_wp2_with (first | ((with_reducible refine gate_callee (f := 89) rfl ?_); refine gL 36 Try.func89 #[.int .i64 a2, .int .i64 a3] (h := ?_); (with_reducible refine (F89.calls k2 a2 a3 t629 _ A19.out).mono ?_); rintro e w' ⟨rfl, ⟨nd, rfl⟩⟩; refine ⟨_, rfl, ?_⟩; obtain ⟨Ao29, co29, eo29⟩ := Kd.R_slice HO_14.out; subst eo29) | ((with_reducible refine gate_callee (f := 91) rfl ?_); refine gL 51 Try.func91 #[.slice Ao29 x14_2.length co29, .int .i64 a2, .int .i64 a3] (h := ?_); (with_reducible refine (F91.calls k2 _ _ x14_2 a2 a3 true _ ?side1 ?side2 A27.out).mono ?_); (case side1 => exact kC (Kd.R_reads' HO_14.out).2.2); (case side2 => exact (Kd.R_reads' HO_14.out).2.1); rintro e w' ⟨rfl, ⟨nd, rfl⟩⟩; refine ⟨_, rfl, ?_⟩))
        go_ret3
        exact ⟨_, rfl, by first | exact Kd.S_nil _ _ _ _ _ | exact Kd.N_nil _ _ _ _ _ | exact Kd.V_nil _ _ _ _ _ | exact Kd.Q_nil _ _ _ _ _ | exact Kd.R_nil _ _ _ _ _, bZ⟩
       ·
        replace c28 := Bool.eq_false_iff.mpr c28; subst c28; rw [if_neg (show ¬ (false = true) by decide)] at H; have H' := aM H; clear H
        go_wp2_with (first | ((with_reducible refine gate_callee (f := 89) rfl ?_); refine gL 36 Try.func89 #[.int .i64 a2, .int .i64 a3] (h := ?_); (with_reducible refine (F89.calls k2 a2 a3 t629 _ A19.out).mono ?_); rintro e w' ⟨rfl, ⟨nd, rfl⟩⟩; refine ⟨_, rfl, ?_⟩; obtain ⟨Ao30, co30, eo30⟩ := Kd.R_slice HO_14.out; subst eo30) | ((with_reducible refine gate_callee (f := 91) rfl ?_); refine gL 51 Try.func91 #[.slice Ao30 x14_2.length co30, .int .i64 a2, .int .i64 a3] (h := ?_); (with_reducible refine (F91.calls k2 _ _ x14_2 a2 a3 false _ ?side1 ?side2 A27.out).mono ?_); (case side1 => exact kC (Kd.R_reads' HO_14.out).2.2); (case side2 => exact (Kd.R_reads' HO_14.out).2.1); rintro e w' ⟨rfl, ⟨nd, rfl⟩⟩; refine ⟨_, rfl, ?_⟩))
        go_loopg [16] k2 (fun kq v16 w' => ∃ (x16_3 : Int) (x629002_3 : List Int) (u629002 : Value), v16 = .int .i64 x16_3 ∧ Aside0 (F61.l2 kq x0_2 a1 a2 a3 x11_1 x12_1 x14_2 x16_3 t626 ((t627) % 4294967296) x629002_3 = some (r1, r2, r3)) ∧ Aside0 (kq ≤ k2) ∧ Aside0 (Kd.S k98 98 w' w.heap.size (fun k_ => some k_ ≠ (u629002 : Value).ownBlock ∧ k_ ≠ gb628) u11 x11_1) ∧ Aside0 (Kd.R (Kd.int .u64) 78 w' w.heap.size (fun _ => True) (.slice Ao30 x14_2.length co30) x14_2) ∧ Aside0 (Kd.R (Kd.int .i64) 3 w' w.heap.size (fun _ => True) u629002 x629002_3) ∧ Aside0 (w'.heap[gb628]? = some (.cells #[.int .i32 t626, .int .u32 ((t627) % 4294967296), u629002] 98 (0, 0))) ∧ Aside0 (Below w.heap.size w w'))
        case atStart => exact ⟨(0), (([] : List Int)), (.slice none 0 0), rfl, H', ⟨Nat.le_refl _⟩, ⟨by (with_reducible repeat (first | apply Kd.S_alloc | apply Kd.S_drewN | apply Kd.S_drew)); exact Kd.S_mono HO_11.out (fun _ hk => ⟨(by simp [Value.ownBlock]), hk⟩)⟩, ⟨kR HO_14.out⟩, ⟨by first | exact Kd.R_nil _ _ _ _ _ | exact Kd.N_nil _ _ _ _ _ | exact Kd.V_nil _ _ _ _ _ | exact Kd.Q_nil _ _ _ _ _ | exact Kd.S_nil _ _ _ _ _⟩, ⟨bK BK628.out⟩, ⟨bZ⟩⟩
        case round =>
         clear H'; (try clear c1); (try clear c2); (try clear p2); (try clear c5); (try clear c5b0); (try clear c6); (try clear c6b0); (try clear c6b1); (try clear p6); (try clear c7); (try clear c7b0); (try clear c7b1); (try clear c8); (try clear c9); (try clear c9b0); (try clear c9b1); (try clear c10); (try clear c10b0); (try clear c10b1); (try clear c12); (try clear c12b0); (try clear c20); (try clear c20b0); (try clear c21); (try clear c21b0); (try clear c21b1); (try clear c22); (try clear c22b0); (try clear c22b1); (try clear c24); (try clear c25); (try clear c25b0); (try clear c28); (try clear p2); obtain ⟨x16_3, x629002_3, u629002, rfl, HA, HK3, HO_11, HO_14, HO_629002, BK628, HB⟩ := hrel
         cases gk with
         | zero => exact absurd HA.out (by simp [F61.l2])
         | succ k3 =>
          have H := HA.out; clear HA; simp only [F61.l2] at H
          by_cases c31 : x16_3 < a2
          ·
           rw [if_pos c31] at H; have c31b0 : decide (x16_3 < a2) = true := dT c31; clear c31; obtain ⟨t635, A32, H⟩ := bnd H; obtain ⟨c33, H⟩ := ifp H; have LMc33 := aM c33; clear c33; obtain ⟨y636, hy636⟩ : ∃ y_ : List Int, y_ = (x629002_3 ++ [t635]) := ⟨_, rfl⟩; (replace H : (F61.l2 k3 x0_2 a1 a2 a3 x11_1 x12_1 x14_2 (wrap64 (x16_3 + 1)) t626 ((t627) % 4294967296) y636) = some (r1, r2, r3) := by rw [hy636]; exact H); have Ny636 := aM hy636; clear hy636; have H' := aM H; clear H
           try go_wp2
           replace HO_11 := aM (Kd.S_drew HO_11.out); replace HO_14 := aM (Kd.R_drew HO_14.out); replace HO_629002 := aM (Kd.R_drew HO_629002.out); replace BK628 := aM (blk_drew BK628.out); replace HB := aM (below_drew1 HB.out)
           refine start_ (n := 10) (S := fun w' => w'.cell? ⟨gb628, 0, none⟩ = some (.int .i32 t626) ∧ w'.cell? ⟨gb628, 1, none⟩ = some (.int .u32 ((t627) % 4294967296)) ∧ w'.cell? ⟨gb628, 2, none⟩ = some (u629002)) (ds := [9]) (bA 10 0) (by kernel_rfl) rfl (by kernel_rfl) (cx3 BK628.out) (fun hHeld => ?_); refine with_tabW F61.tab18 F61.bits18 (fun HT_ HW_ => ?_)
           generalize wr.drew = w34 at HO_11 HO_14 HO_629002 BK628 HB hHeld ⊢
           refine pT 10 0 58 1 HT_ (h := ?_)
           refine pT 10 2 60 5 HT_ (h := ?_)
           refine pT 10 3 61 13 HT_ (h := ?_)
           refine pT 10 4 62 29 HT_ (h := ?_)
           refine tT 10 1 59 31 HT_ HW_ hHeld (h := ?_)
           refine one_ (i := 5) (N := some 63) (bA 10 63) rfl rfl (one_of HT_.out (by kernel_rfl)) (by decide) (fun K hK => ?_)
           refine gA Try.func92 #[.slice Ao30 x14_2.length co30, .int .i64 x16_3, .int .i64 a3] (h := ?_)
           with_reducible refine (F92.calls k3 _ _ x14_2 x16_3 a3 t635 _ ?side1 ?side2 A32.out).mono ?_
           (case side1 => exact kC (Kd.R_reads' HO_14.out).2.2); (case side2 => exact (Kd.R_reads' HO_14.out).2.1); rintro e w' ⟨rfl, ⟨nd, rfl⟩⟩
           refine ⟨_, rfl, ?_⟩
           refine hK.out _ _ (cx3 BK628.out) (fun hHeld => ?_)
           clear hK K
           refine nT 63 (h := ?_)
           refine one_ (i := 6) (N := some 64) (bA 10 127) rfl rfl (one_of HT_.out (by kernel_rfl)) (by decide) (fun K hK => ?_)
           refine value_ (w1 := ?_) (v := ?_) (by rfl) rfl ?_ ?_
           rotate_left 2
           ·
            go_simp
            constructor
            ·
             rfl
            ·
             rfl
           refine hK.out _ _ ⟨(blk_cell (blk_alloc BK628.out _) 0).trans rfl, (blk_cell (blk_alloc BK628.out _) 1).trans rfl, (blk_cell (blk_alloc BK628.out _) 2).trans rfl⟩ (fun hHeld => ?_)
           clear hK K
           refine nT 64 (h := ?_)
           refine one_ (i := 7) (N := some 65) (bA 10 255) rfl rfl (one_of HT_.out (by kernel_rfl)) (by decide) (fun K hK => ?_)
           refine Kd.R_append_step (Kd.int .i64) (w0 := w) w.heap.size (by rfl) (.tmp 59) (.tmp 64) 45 3 (.int .i64 0) 8 rfl Try.underlying45 info3 rfl (by decide) (by omega) u629002 x629002_3 t635 [.int .i64 t635] (fun _ => True) (fun _ => False) rfl rfl ?aP (fun _ hk => hk.elim) ?aF ?aO ?aB ?aS ?aL ?_
           (case aP => exact rfl); (case aB => exact bZ); (case aF => exact (fun _ _ => trivial)); (case aO => exact (kR HO_629002.out)); (case aS => exact (below_size bZ)); (case aL => have := LMc33.out; omega); intro v637 w35 ho hb hg hat; rw [← Ny636.out] at ho; have n0_ := aM (Kd.S_after (ok := (fun k_ => k_ ≠ gb628)) (by (with_reducible repeat (first | apply Kd.S_alloc | apply Kd.S_drewN | apply Kd.S_drew)); exact Kd.S_mono HO_11.out (fun _ hk => ⟨hk.2, hk.1⟩)) hg hat); have n1_ := aM (Kd.R_over' (kR HO_14.out) (Kd.R_typed (kR HO_629002.out)) (by decide) hg); have n2_ := aM (blk_grown (g := gb628) (o := .cells #[.int .i32 t626, .int .u32 ((t627) % 4294967296), u629002] 98 (0, 0)) (bK BK628.out) hg (Kd.R_ne HO_629002.out BK628.out (by decide))); have n3_ := aM (hb); have n4_ := aM (ho); clear HO_11; clear HO_14; clear BK628; clear HB; clear HO_629002; have HO_11 := n0_; have HO_14 := n1_; have BK628 := n2_; have HB := n3_; have HO638 := n4_; clear n0_ n1_ n2_ n3_ n4_; clear ho hb hg hat; obtain ⟨Ao36, co36, eo36⟩ := Kd.R_slice HO638.out; (first | subst eo36 | (injection eo36 with f1_ f2_ f3_; have f4_ := f1_.symm; have f5_ := f3_.symm; clear f1_ f2_ f3_; subst f4_; subst f5_))
           refine hK.out _ _ (cx3 BK628.out) (fun hHeld => ?_)
           clear hK K
           refine nT 65 (h := ?_)
           refine pT 10 8 66 511 HT_ (h := ?_)
           refine last_ (i := 9) (N := none) (bA 10 1023) rfl rfl (one_of HT_.out (by kernel_rfl)) (by decide) (fun K hK => ?_)
           have hs37 : w35.cell? ⟨gb628, 2, none⟩ = some (u629002) := cL BK628 2; have hfs37 := blk_frozen BK628.out 2
           refine skip_ (w1 := ?_) (by rfl) rfl ?_ ?_
           rotate_left
           ·
            go_simp
            rfl
           refine hK.out _ _ ?_
           clear hK K
           refine done_ (done_of HT_.out (by kernel_rfl)) ?_
           try go_wp2
           go_roundg k3
           case measure => have := HK1.out; have := HK2.out; have := HK3.out; omega
           case rel => exact ⟨(wrap64 (x16_3 + 1)), (y636), (.slice Ao36 y636.length co36), rfl, H', ⟨by have := HK1.out; have := HK2.out; have := HK3.out; omega⟩, ⟨by (with_reducible repeat (first | apply Kd.S_alloc | apply Kd.S_drewN | apply Kd.S_drew)); exact Kd.S_mono (Kd.S_far (p := ⟨gb628, 2, none⟩) (Kd.S_mono HO_11.out (fun k_ hk => (⟨hk, hk.1⟩ : _ ∧ k_ ≠ gb628))) (fun _ hk => hk.2) (.slice Ao36 y636.length co36)) (fun _ hk => ⟨hk.1.2, hk.1.1⟩)⟩, ⟨by (with_reducible repeat (first | apply Kd.R_alloc | apply Kd.R_drewN | apply Kd.R_drew)); exact Kd.R_mono (Kd.R_far (p := ⟨gb628, 2, none⟩) (Kd.R_types HO_14.out BK628.out (by decide)) (fun _ hk => hk.2) (.slice Ao36 y636.length co36)) (fun _ hk => trivial)⟩, ⟨by (with_reducible repeat (first | apply Kd.R_alloc | apply Kd.R_drewN | apply Kd.R_drew)); exact Kd.R_mono (Kd.R_far (p := ⟨gb628, 2, none⟩) (Kd.R_types HO638.out BK628.out (by decide)) (fun _ hk => hk.2) (.slice Ao36 y636.length co36)) (fun _ hk => trivial)⟩, ⟨by (with_reducible repeat (first | refine blk_drewN ?_ _ | refine blk_drew ?_ | refine blk_alloc ?_ _)); refine blk_put (cs := #[.int .i32 t626, .int .u32 ((t627) % 4294967296), u629002]) ?_ 2 _ rfl; (with_reducible repeat (first | refine blk_drewN ?_ _ | refine blk_drew ?_ | refine blk_alloc ?_ _)); exact BK628.out⟩, ⟨bZ⟩⟩
          ·
           rw [if_neg c31] at H; have c31b0 : decide (x16_3 < a2) = false := dF c31; clear c31; obtain ⟨t639, A38, H⟩ := bnd H
           by_cases c39 : t639 = 0
           ·
            rw [if_pos c39] at H; have c39b0 : (t639 == 0) = true := beq_iff_eq.mpr c39; have c39b1 : (t639 != 0) = false := bne_eq_false_iff_eq.mpr c39; clear c39; obtain ⟨c40, H⟩ := ifp H; have LMc40 := aM c40; clear c40; obtain ⟨y640, hy640⟩ : ∃ y_ : List (S98), y_ = (x11_1 ++ [(⟨t626, ((t627) % 4294967296), x629002_3⟩ : S98)]) := ⟨_, rfl⟩; (replace H : (F61.l0 k3 x0_2 a1 a2 a3 y640 (wrap64 (x12_1 + 1))) = some (r1, r2, r3) := by rw [hy640]; exact H); have Ny640 := aM hy640; clear hy640; have H' := aM H; clear H; have hz41 := bx3 BK628.out; obtain ⟨Ao42, co42, eo42⟩ := Kd.R_slice HO_629002.out; subst eo42
            go_wp2_with (first | ((with_reducible refine gate_callee (f := 51) rfl ?_); refine gL 69 Try.func51 #[.agg #[.int .i32 t626, .int .u32 ((t627) % 4294967296), .slice Ao42 x629002_3.length co42], .int .i64 a3] (h := ?_); (with_reducible refine (F51.calls k3 t626 ((t627) % 4294967296) _ _ x629002_3 a3 t639 _ ?side1 ?side2 A38.out).mono ?_); (case side1 => with_reducible exact (Kd.R_reads' HO_629002.out).2.2); (case side2 => exact (Kd.R_reads' HO_629002.out).2.1); rintro e w43 ⟨rfl, hb⟩; refine ⟨_, rfl, ?_⟩; replace HO_11 := sst HO_11 hb; replace HO_14 := rst HO_14 hb; replace HO_629002 := rst HO_629002 hb; replace BK628 := kst BK628 hb; replace HB := bst HB hb; clear hb; have hz44 := bx3 BK628.out) | ((with_reducible refine gate_builtin (b := .append) (xs := #[.tmp 74, .tmp 76]) rfl ?_); at_builtin; refine Kd.S_append k98 (w0 := w) w.heap.size rfl (.tmp 74) (.tmp 76) 53 98 (.agg #[(.int .i32 0), (.int .u32 0), (.slice none 0 0)]) 32 rfl Try.underlying53 info98 rfl (by decide) (by omega) u11 x11_1 (⟨t626, ((t627) % 4294967296), x629002_3⟩ : S98) [.int .i32 t626, .int .u32 ((t627) % 4294967296), .slice Ao42 x629002_3.length co42] (fun k_ => k_ ≠ gb628) (fun k_ => some k_ = (.slice Ao42 x629002_3.length co42 : Value).ownBlock) rfl rfl ?aP (fun k_ hk_ => ((Kd.R_mono (ok' := fun k_ => ((fun k_ => k_ ≠ gb628)) k_ ∧ some k_ ≠ (u11 : Value).ownBlock) (Kd.R_types (Kd.R_apart' (HO_629002.out) (Kd.S_typed HO_11.out) (by decide)) BK628.out (by decide)) (fun k_ hk => ⟨hk.2, hk.1.2⟩))).1 k_ hk_.symm) ?aF ?aO ?aB ?aS ?aL ?_; (case aP => exact k98_mkM _ _ _ (⟨t626, ((t627) % 4294967296), x629002_3⟩ : S98) (Kd.R_mono (Kd.R_tight rfl (Kd.R_mono (ok' := fun k_ => ((fun k_ => k_ ≠ gb628)) k_ ∧ some k_ ≠ (u11 : Value).ownBlock) (Kd.R_types (Kd.R_apart' (HO_629002.out) (Kd.S_typed HO_11.out) (by decide)) BK628.out (by decide)) (fun k_ hk => ⟨hk.2, hk.1.2⟩))) (fun _ h_ => h_))); (case aB => exact HB.out); (case aF => exact (fun k_ hk => Kd.freshB (g := gb628) (o := .cells #[.int .i32 t626, .int .u32 ((t627) % 4294967296), .slice Ao42 x629002_3.length co42] 98 (0, 0)) BK628.out k_ hk)); (case aO => exact (by (with_reducible repeat (first | apply Kd.S_alloc | apply Kd.S_drewN | apply Kd.S_drew)); exact Kd.S_mono HO_11.out (fun k_ hk => ⟨hk.2, fun e_ => hk.1 e_⟩))); (case aS => exact (bsz HB)); (case aL => have := LMc40.out; omega); intro v641 w45 ho hb hg hat; rw [← Ny640.out] at ho; have n0_ := aM (Kd.R_over' HO_14.out (Kd.S_typed HO_11.out) (by decide) hg); have n1_ := aM (blk_grown (g := gb628) (o := .cells #[.int .i32 t626, .int .u32 ((t627) % 4294967296), .slice Ao42 x629002_3.length co42] 98 (0, 0)) BK628.out hg (Kd.S_away HO_11.out (fun _ hk => hk.2))); have n2_ := aM (hb); have n3_ := aM (ho); clear HO_14; clear BK628; clear HB; clear HO_11; clear HO_629002; have HO_14 := n0_; have BK628 := n1_; have HB := n2_; have HO642 := n3_; clear n0_ n1_ n2_ n3_; clear ho hb hg hat))
            go_roundg k3
            case measure => have := HK1.out; have := HK2.out; have := HK3.out; omega
            case rel => exact ⟨(x0_2), (y640), (wrap64 (x12_1 + 1)), rfl, rfl, H', ⟨by have := HK1.out; have := HK2.out; have := HK3.out; omega⟩, ⟨by exact Kd.S_mono HO642.out (fun _ hk => trivial)⟩, HB⟩
           ·
            rw [if_neg c39] at H; have c39b0 : (t639 == 0) = false := beq_eq_false_iff_ne.mpr c39; have c39b1 : (t639 != 0) = true := bne_iff_ne.mpr c39; simp only [Option.some.injEq, Prod.mk.injEq] at H; obtain ⟨rfl, rfl, rfl⟩ := H; have hz46 := bx3 BK628.out; obtain ⟨Ao47, co47, eo47⟩ := Kd.R_slice HO_629002.out; subst eo47
            go_wp2_with (first | ((with_reducible refine gate_callee (f := 51) rfl ?_); refine gL 69 Try.func51 #[.agg #[.int .i32 t626, .int .u32 ((t627) % 4294967296), .slice Ao47 x629002_3.length co47], .int .i64 a3] (h := ?_); (with_reducible refine (F51.calls k3 t626 ((t627) % 4294967296) _ _ x629002_3 a3 t639 _ ?side1 ?side2 A38.out).mono ?_); (case side1 => with_reducible exact (Kd.R_reads' HO_629002.out).2.2); (case side2 => exact (Kd.R_reads' HO_629002.out).2.1); rintro e w48 ⟨rfl, hb⟩; refine ⟨_, rfl, ?_⟩; replace HO_11 := sst HO_11 hb; replace HO_14 := rst HO_14 hb; replace HO_629002 := rst HO_629002 hb; replace BK628 := kst BK628 hb; replace HB := bst HB hb; clear hb))
            go_ret3
            exact ⟨_, rfl, by first | exact Kd.S_nil _ _ _ _ _ | exact Kd.N_nil _ _ _ _ _ | exact Kd.V_nil _ _ _ _ _ | exact Kd.Q_nil _ _ _ _ _ | exact Kd.R_nil _ _ _ _ _, HB.out⟩
   ·
    rw [if_neg c5] at H; have c5b0 : decide (x12_1 < a1) = false := dF c5; clear c5; simp only [Option.some.injEq, Prod.mk.injEq] at H; obtain ⟨rfl, rfl, rfl⟩ := H
    go_wp2
    go_ret3
    exact ⟨_, rfl, HO_11.out, HB.out⟩

end Go.Proofs.Ytekenaclmplocaa.PPageParses
