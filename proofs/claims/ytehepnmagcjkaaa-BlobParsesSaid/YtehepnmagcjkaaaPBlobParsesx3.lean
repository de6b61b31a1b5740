-- Written by a program of this session (wip/tools/mkprint.py over the kit's print).
import Derived.Test.YtehepnmagcjkaaaPBlobParsesx0
import Derived.Test.YtehepnmagcjkaaaPBlobParsesx2
namespace Go.Proofs.Ytehepnmagcjkaaa.PBlobParses
open Go.RowKit Go.Proofs.YtehepnmagcjkaaaW.PrintWords Go.Proofs.YtehepnmagcjkaaaW.PrintLast Go.Proofs.YtehepnmagcjkaaaW.PrintMore
attribute [local go_sem] max2_int min2_int max_two min_two max_three min_three max_four min_four   -- for this text's walks alone
set_option linter.unusedVariables false
set_option linter.unusedSimpArgs false

/-! ### blob_Config_Numbers: function 25 -/
theorem bx15 {w : World} {g : Nat} {t : TypeId} {a0 a1 a2 a3 a4 a5 a6 a7 a8 a9 a10 a11 a12 a13 a14 : Value} (h : w.heap[g]? = some (.cells #[a0, a1, a2, a3, a4, a5, a6, a7, a8, a9, a10, a11, a12, a13, a14] t (0, 0))) : w.cell? ⟨g, 0, none⟩ = some a0 ∧ w.cell? ⟨g, 1, none⟩ = some a1 ∧ w.cell? ⟨g, 2, none⟩ = some a2 ∧ w.cell? ⟨g, 3, none⟩ = some a3 ∧ w.cell? ⟨g, 4, none⟩ = some a4 ∧ w.cell? ⟨g, 5, none⟩ = some a5 ∧ w.cell? ⟨g, 6, none⟩ = some a6 ∧ w.cell? ⟨g, 7, none⟩ = some a7 ∧ w.cell? ⟨g, 8, none⟩ = some a8 ∧ w.cell? ⟨g, 9, none⟩ = some a9 ∧ w.cell? ⟨g, 10, none⟩ = some a10 ∧ w.cell? ⟨g, 11, none⟩ = some a11 ∧ w.cell? ⟨g, 12, none⟩ = some a12 ∧ w.cell? ⟨g, 13, none⟩ = some a13 ∧ w.cell? ⟨g, 14, none⟩ = some a14 ∧ (∀ i, w.frozen? ⟨g, i, none⟩ = false) := ⟨(blk_cell h 0).trans rfl, (blk_cell h 1).trans rfl, (blk_cell h 2).trans rfl, (blk_cell h 3).trans rfl, (blk_cell h 4).trans rfl, (blk_cell h 5).trans rfl, (blk_cell h 6).trans rfl, (blk_cell h 7).trans rfl, (blk_cell h 8).trans rfl, (blk_cell h 9).trans rfl, (blk_cell h 10).trans rfl, (blk_cell h 11).trans rfl, (blk_cell h 12).trans rfl, (blk_cell h 13).trans rfl, (blk_cell h 14).trans rfl, blk_frozen h⟩
theorem bx6 {w : World} {g : Nat} {t : TypeId} {a0 a1 a2 a3 a4 a5 : Value} (h : w.heap[g]? = some (.cells #[a0, a1, a2, a3, a4, a5] t (0, 0))) : w.cell? ⟨g, 0, none⟩ = some a0 ∧ w.cell? ⟨g, 1, none⟩ = some a1 ∧ w.cell? ⟨g, 2, none⟩ = some a2 ∧ w.cell? ⟨g, 3, none⟩ = some a3 ∧ w.cell? ⟨g, 4, none⟩ = some a4 ∧ w.cell? ⟨g, 5, none⟩ = some a5 ∧ (∀ i, w.frozen? ⟨g, i, none⟩ = false) := ⟨(blk_cell h 0).trans rfl, (blk_cell h 1).trans rfl, (blk_cell h 2).trans rfl, (blk_cell h 3).trans rfl, (blk_cell h 4).trans rfl, (blk_cell h 5).trans rfl, blk_frozen h⟩
def bp.one (t l : Option Addr) (r c : Int) : List Value := [.pointer t, .pointer l, .int .i64 r, .int .i64 c]
/-- A layer's parts: the layer's cells begin at place o of block g. -/
def bp.layer (g o : Nat) (w kv q : Int) : List (List Value) :=
 [bp.one none (some ⟨g, o, none⟩) 1 w, bp.one (some ⟨g, o + 1, none⟩) none w w, bp.one (some ⟨g, o + 4, none⟩) none kv w, bp.one (some ⟨g, o + 7, none⟩) none kv w, bp.one (some ⟨g, o + 10, none⟩) none w w]
def bp.layer2 (g o : Nat) (w kv q : Int) : List (List Value) :=
 [bp.one none (some ⟨g, o + 13, none⟩) 1 w, bp.one (some ⟨g, o + 14, none⟩) none q w, bp.one (some ⟨g, o + 17, none⟩) none q w, bp.one (some ⟨g, o + 20, none⟩) none w q]
def bp.layers (g o : Nat) (w kv q : Int) : Nat → List (List Value)
 | 0 => []
 | n + 1 => bp.layers g o w kv q n ++ (bp.layer g (o + n * 23) w kv q ++ bp.layer2 g (o + n * 23) w kv q)
def bp.all (g gl ol n : Nat) (v w kv q : Int) : List (List Value) := (bp.one (some ⟨g, 7, none⟩) none v w :: bp.layers gl ol w kv q n) ++ [bp.one none (some ⟨g, 11, none⟩) 1 w, bp.one (some ⟨g, 12, none⟩) none v w]
theorem bp.layers_length (g o : Nat) (w kv q : Int) : ∀ n, (bp.layers g o w kv q n).length = 9 * n
 | 0 => rfl
 | n + 1 => by
  simp only [bp.layers, List.length_append, bp.layers_length g o w kv q n, bp.layer, bp.layer2, List.length_cons, List.length_nil]
  omega
/-- A literal row of cells. -/
theorem lit_R {W : World} {e : TypeId} {sz n base : Nat} (rows : List (List Value)) (hn : rows.length = n) (hs : ∀ r ∈ rows, r.length = sz ∧ ∀ u ∈ r, u.oneCell' = true) (hm : n ≤ 9223372036854775807) (hb : base ≤ W.heap.size) : (Kd.raw sz).R e (W.alloc (.cells rows.flatten.toArray e)) base (fun _ => True) (.slice (some ⟨W.heap.size, 0, none⟩) n n) rows := by
 have hrep : ∀ (l : List (List Value)), (∀ r ∈ l, r.length = sz ∧ ∀ u ∈ r, u.oneCell' = true) → Reps (fun x cs => cs = x ∧ cs.length = sz ∧ ∀ u ∈ cs, u.oneCell' = true) sz l l.flatten := by
  intro l
  induction l with
  | nil => intro _; exact Reps.none _ _
  | cons r l ih =>
   intro h
   have h1 : (fun (x : List Value) (cs : List Value) => cs = x ∧ cs.length = sz ∧ ∀ u ∈ cs, u.oneCell' = true) r r := ⟨rfl, (h r List.mem_cons_self).1, (h r List.mem_cons_self).2⟩
   exact Kd.reps_append ((Reps.none _ sz).snoc h1 (h r List.mem_cons_self).1) (ih (fun x hx => h x (List.mem_cons_of_mem _ hx)))
 have h2 := World.ownsRow_lit (base := base) (e := e) (size := sz) W rows.flatten.toArray n hb (by simpa [maxLen] using hm) (by have := (hrep rows hs).1; rw [← hn]; simpa using this)
 exact ⟨fun _ _ => trivial, rows.flatten, by rw [hn]; exact (by simpa using h2 : (W.alloc (.cells rows.flatten.toArray e)).ownsRow base e sz (.slice (some ⟨W.heap.size, 0, none⟩) n n) n rows.flatten), hrep rows hs⟩
theorem lit_C {W : World} {e : TypeId} {sz n : Nat} (rows : List (List Value)) (hn : rows.length = n) (hs : ∀ r ∈ rows, r.length = sz ∧ ∀ u ∈ r, u.oneCell' = true) (hm : n ≤ 9223372036854775807) : (Kd.raw sz).C (W.alloc (.cells rows.flatten.toArray e)) (some ⟨W.heap.size, 0, none⟩) n rows := by
 have h4 := Kd.R_reads' (lit_R (base := 0) (e := e) (W := W) rows hn hs hm (Nat.zero_le _))
 have h5 := h4.2.2
 rw [← h4.1] at h5
 exact h5
theorem all_ok : ∀ {l : List (List Value)}, (∀ r ∈ l, ∃ t u a b, r = bp.one t u a b) → ∀ r ∈ l, r.length = 4 ∧ ∀ u ∈ r, u.oneCell' = true := by
 intro l h r hr
 obtain ⟨t, u, a, b, rfl⟩ := h r hr
 exact ⟨rfl, by intro u hu; simp only [bp.one, List.mem_cons, List.mem_nil_iff, or_false] at hu; rcases hu with rfl | rfl | rfl | rfl <;> rfl⟩
theorem one_ok (t l : Option Addr) (r c : Int) : (bp.one t l r c).length = 4 ∧ ∀ u ∈ bp.one t l r c, u.oneCell' = true := ⟨rfl, by intro u hu; simp only [bp.one, List.mem_cons, List.mem_nil_iff, or_false] at hu; rcases hu with rfl | rfl | rfl | rfl <;> rfl⟩
def bp.T2 : Bool × List (List Nat × List Nat) := (true, [([], []), ([0], [0]), ([], []), ([2], [2]), ([], []), ([4], [4]), ([3, 5], [3, 5]), ([1, 1, 0, 1], [1]), ([6, 7, 0, 1, 2, 3, 4, 5, 6, 7], [6])])
def bp.B2 : List Nat := [0, 1, 0, 4, 0, 16, 60, 3, 255]
theorem bp.tab2 : rtab .any (opsOf Try.f57 2) = bp.T2 := by kernel_rfl
theorem bp.bits2 : waitsOk bp.T2.2 bp.B2 = true := by kernel_rfl
def bp.T3 : Bool × List (List Nat × List Nat) := (true, [([], []), ([0], [0]), ([1], [1]), ([], []), ([3], [3]), ([], []), ([2, 4, 5], [2, 4, 5]), ([6], [6]), ([7, 0, 1, 2, 3, 4, 5, 6, 7], [7])])
def bp.B3 : List Nat := [0, 1, 3, 0, 8, 0, 63, 127, 255]
theorem bp.tab3 : rtab .any (opsOf Try.f57 3) = bp.T3 := by kernel_rfl
theorem bp.bits3 : waitsOk bp.T3.2 bp.B3 = true := by kernel_rfl
def bp.T8 : Bool × List (List Nat × List Nat) := (true, [([], []), ([], []), ([1], [1]), ([2], [2]), ([], []), ([3, 4], [3, 4]), ([], []), ([6], [6]), ([7], [7]), ([], []), ([], []), ([8, 9, 10], [8, 9, 10]), ([], []), ([12], [12]), ([13], [13]), ([], []), ([], []), ([14, 15, 16], [14, 15, 16]), ([], []), ([18], [18]), ([19], [19]), ([], []), ([], []), ([20, 21, 22], [20, 21, 22]), ([], []), ([24], [24]), ([25], [25]), ([], []), ([], []), ([26, 27, 28], [26, 27, 28]), ([5, 11, 17, 23, 29], [5, 11, 17, 23, 29]), ([0, 30], [0, 30]), ([31, 31, 0, 1, 2, 3, 4, 5, 6, 7, 8, 9, 10, 11, 12, 13, 14, 15, 16, 17, 18, 19, 20, 21, 22, 23, 24, 25, 26, 27, 28, 29, 30, 31], [0, 31])])
def bp.B8 : List Nat := [0, 0, 2, 6, 0, 30, 0, 64, 192, 0, 0, 1984, 0, 4096, 12288, 0, 0, 126976, 0, 262144, 786432, 0, 0, 8126464, 0, 16777216, 50331648, 0, 0, 520093696, 1073741822, 2147483647, 4294967295]
theorem bp.tab8 : rtab .any (opsOf Try.f57 8) = bp.T8 := by kernel_rfl
theorem bp.bits8 : waitsOk bp.T8.2 bp.B8 = true := by kernel_rfl
def bp.T9 : Bool × List (List Nat × List Nat) := (true, [([], []), ([], []), ([1], [1]), ([2], [2]), ([], []), ([3, 4], [3, 4]), ([], []), ([6], [6]), ([7], [7]), ([], []), ([9], [9]), ([], []), ([8, 10, 11], [8, 10, 11]), ([], []), ([13], [13]), ([14], [14]), ([], []), ([16], [16]), ([], []), ([15, 17, 18], [15, 17, 18]), ([], []), ([20], [20]), ([21], [21]), ([], []), ([], []), ([24], [24]), ([22, 23, 25], [22, 23, 25]), ([5, 12, 19, 26], [5, 12, 19, 26]), ([0, 27], [0, 27]), ([28, 28, 0, 1, 2, 3, 4, 5, 6, 7, 8, 9, 10, 11, 12, 13, 14, 15, 16, 17, 18, 19, 20, 21, 22, 23, 24, 25, 26, 27, 28], [0, 28])])
def bp.B9 : List Nat := [0, 0, 2, 6, 0, 30, 0, 64, 192, 0, 512, 0, 4032, 0, 8192, 24576, 0, 65536, 0, 516096, 0, 1048576, 3145728, 0, 0, 16777216, 66060288, 134217726, 268435455, 536870911]
theorem bp.tab9 : rtab .any (opsOf Try.f57 9) = bp.T9 := by kernel_rfl
theorem bp.bits9 : waitsOk bp.T9.2 bp.B9 = true := by kernel_rfl
def bp.T11 : Bool × List (List Nat × List Nat) := (true, [([], []), ([], []), ([1], [1]), ([2], [2]), ([], []), ([3, 4], [3, 4]), ([], []), ([6], [6]), ([7], [7]), ([], []), ([9], [9]), ([], []), ([8, 10, 11], [8, 10, 11]), ([5, 12], [5, 12]), ([0, 13], [0, 13]), ([14, 14, 0, 1, 2, 3, 4, 5, 6, 7, 8, 9, 10, 11, 12, 13, 14], [14])])
def bp.B11 : List Nat := [0, 0, 2, 6, 0, 30, 0, 64, 192, 0, 512, 0, 4032, 8190, 16383, 32767]
theorem bp.tab11 : rtab .any (opsOf Try.f57 11) = bp.T11 := by kernel_rfl
theorem bp.bits11 : waitsOk bp.T11.2 bp.B11 = true := by kernel_rfl
set_option maxHeartbeats 8000000 in
set_option maxRecDepth 100000 in
theorem bp.calls (g gl ol n c : Nat) (A : Option Addr) (x0 x1 x2 x3 x4 x5 : Int) (v6 v7 v8 v9 v11 v12 v13 v14 : Value) (w : World) (hg : w.heap[g]? = some (.cells #[.int .i64 x0, .int .i64 x1, .int .i64 x2, .int .i64 x3, .int .i64 x4, .int .i64 x5, v6, v7, v8, v9, .slice A n c, v11, v12, v13, v14] 67 (0, 0))) (hA : 0 < n → A = some ⟨gl, ol, none⟩) (hn : n ≤ 1000000) :
  Calls Try.prog 57 #[.pointer (some ⟨g, 0, none⟩)] w fun e w' => ∃ v, e = .returned v ∧ (Kd.raw 4).R 105 w' w.heap.size (fun _ => True) v (bp.all g gl ol n x5 (wrap64 (x1 * x3)) (wrap64 (x2 * x3)) x4) ∧ Below w.heap.size w w' := by
 have hu54 := Try.underlying54
 have hu67 := Try.underlying67
 have hu105 := Try.underlying105
 have hu120 := Try.underlying120
 have HG := Aside0.mk hg
 have HA := Aside0.mk hA
 have HN := Aside0.mk hn
 have HB := Aside0.mk (Below.refl w.heap.size w)
 clear hA hn
 have hz0 := bx15 hg
 clear hg
 go_enter Try.func57, Try.ntmps57
 go_upto_region 2 with (first | ((with_reducible refine gate_dst (N := 3) rfl ?_); refine box_event ?hg (N := 3) ?hd (cs := #[.int .i64 0, .int .i64 0, .int .i64 0, .int .i64 0, .int .i64 0, .int .i64 0]) (t := 54) ?hr ?_; (case hd => rfl); (case hg => rfl); (case hr => first | (go_simp; done) | (go_simp; rfl)); intro gb hg w1 hbox hb; have hz1 := bx6 hbox; have HBX := Aside0.mk hbox; have HBB := Aside0.mk hb; have HBG := Aside0.mk hg; clear hbox hb hg))
 have hb1 : _ = some (Obj.cells #[.int .i64 x0, .int .i64 x1, .int .i64 x2, .int .i64 x3, .int .i64 x4, .int .i64 x5] 54 (0, 0)) := blk_put (blk_put (blk_put (blk_put (blk_put (blk_put (HBX.out) 0 (.int .i64 x0) rfl) 1 (.int .i64 x1) rfl) 2 (.int .i64 x2) rfl) 3 (.int .i64 x3) rfl) 4 (.int .i64 x4) rfl) 5 (.int .i64 x5) rfl
 have hB1 := ((((((HBB.out).setCell (p := ⟨gb, 0, none⟩) (by rw [HBG.out]; exact Nat.le_refl _) (.int .i64 x0)).setCell (p := ⟨gb, 1, none⟩) (by rw [HBG.out]; exact Nat.le_refl _) (.int .i64 x1)).setCell (p := ⟨gb, 2, none⟩) (by rw [HBG.out]; exact Nat.le_refl _) (.int .i64 x2)).setCell (p := ⟨gb, 3, none⟩) (by rw [HBG.out]; exact Nat.le_refl _) (.int .i64 x3)).setCell (p := ⟨gb, 4, none⟩) (by rw [HBG.out]; exact Nat.le_refl _) (.int .i64 x4)).setCell (p := ⟨gb, 5, none⟩) (by rw [HBG.out]; exact Nat.le_refl _) (.int .i64 x5)
 have HG1 := Aside0.mk (blk_below HG.out hB1)
 have BK := Aside0.mk hb1
 replace HB := Aside0.mk hB1
 have HGB := Aside0.mk (show w.heap.size ≤ gb from by rw [HBG.out]; exact Nat.le_refl _)
 clear HBX HBB HBG hz0 hz1 hb1 hB1
 generalize ((((((w1).setCell ⟨gb, 0, none⟩ (Value.int IntKind.i64 x0)).setCell ⟨gb, 1, none⟩ (Value.int IntKind.i64 x1)).setCell ⟨gb, 2, none⟩ (Value.int IntKind.i64 x2)).setCell ⟨gb, 3, none⟩ (Value.int IntKind.i64 x3)).setCell ⟨gb, 4, none⟩ (Value.int IntKind.i64 x4)).setCell ⟨gb, 5, none⟩ (Value.int IntKind.i64 x5) = w2 at HG1 BK HB ⊢
 try go_wp2
 replace HG1 := Aside0.mk (blk_drew HG1.out)
 replace BK := Aside0.mk (blk_drew BK.out)
 replace HB := Aside0.mk (below_drew1 HB.out)
 refine start_ (n := 9) (S := fun w' => w'.cell? ⟨gb, 0, none⟩ = some (.int .i64 x0) ∧ w'.cell? ⟨gb, 1, none⟩ = some (.int .i64 x1) ∧ w'.cell? ⟨gb, 2, none⟩ = some (.int .i64 x2) ∧ w'.cell? ⟨gb, 3, none⟩ = some (.int .i64 x3) ∧ w'.cell? ⟨gb, 4, none⟩ = some (.int .i64 x4) ∧ w'.cell? ⟨gb, 5, none⟩ = some (.int .i64 x5)) (ds := []) #[false, false, false, false, false, false, false, false, false] (by kernel_rfl) rfl rfl ⟨(blk_cell BK.out 0).trans rfl, (blk_cell BK.out 1).trans rfl, (blk_cell BK.out 2).trans rfl, (blk_cell BK.out 3).trans rfl, (blk_cell BK.out 4).trans rfl, (blk_cell BK.out 5).trans rfl⟩ (fun hHeld => ?_); refine with_tabW bp.tab2 bp.bits2 (fun HT_ HW_ => ?_)
 generalize w2.drew = w3 at HG1 BK HB hHeld ⊢
 refine pure_ (i := 2) (N := some 15) (v := ?_) (a' := ?_) #[false, false, true, false, false, false, false, false, false] rfl rfl (any_of HT_.out (by kernel_rfl)) (fun _ _ _ h => h) (Or.inl ⟨by rfl, ?_⟩) ?_ ?_
 rotate_left
 ·
  intro w'
  go_simp
  with_reducible rfl
 rotate_left
 ·
  simp only [Act.put, List.setIfInBounds_toArray, List.set_cons_zero, List.set_cons_succ, i64_w, i32_w, IntKind.wrap_u32]
  rfl
 refine pure_ (i := 4) (N := some 17) (v := ?_) (a' := ?_) #[false, false, true, false, true, false, false, false, false] rfl rfl (any_of HT_.out (by kernel_rfl)) (fun _ _ _ h => h) (Or.inl ⟨by rfl, ?_⟩) ?_ ?_
 rotate_left
 ·
  intro w'
  go_simp
  with_reducible rfl
 rotate_left
 ·
  simp only [Act.put, List.setIfInBounds_toArray, List.set_cons_zero, List.set_cons_succ, i64_w, i32_w, IntKind.wrap_u32]
  rfl
 refine take_ (i := 0) (N := some 13) (v := ?_) (a' := ?_) #[true, false, true, false, true, false, false, false, false] rfl rfl (take_ofW HT_.out HW_.out (by kernel_rfl)) (fun _ _ _ h => h) (Or.inl ⟨by rfl, ?_⟩) hHeld ?_ ?_
 rotate_left
 ·
  rintro w' ⟨s0, s1, s2, s3, s4, s5⟩
  go_simp
  with_reducible rfl
 rotate_left
 ·
  simp only [Act.put, List.setIfInBounds_toArray, List.set_cons_zero, List.set_cons_succ, i64_w, i32_w, IntKind.wrap_u32]
  rfl
 refine take_ (i := 3) (N := some 16) (v := ?_) (a' := ?_) #[true, false, true, true, true, false, false, false, false] rfl rfl (take_ofW HT_.out HW_.out (by kernel_rfl)) (fun _ _ _ h => h) (Or.inl ⟨by rfl, ?_⟩) hHeld ?_ ?_
 rotate_left
 ·
  rintro w' ⟨s0, s1, s2, s3, s4, s5⟩
  go_simp
  with_reducible rfl
 rotate_left
 ·
  simp only [Act.put, List.setIfInBounds_toArray, List.set_cons_zero, List.set_cons_succ, i64_w, i32_w, IntKind.wrap_u32]
  rfl
 refine take_ (i := 5) (N := some 18) (v := ?_) (a' := ?_) #[true, false, true, true, true, true, false, false, false] rfl rfl (take_ofW HT_.out HW_.out (by kernel_rfl)) (fun _ _ _ h => h) (Or.inl ⟨by rfl, ?_⟩) hHeld ?_ ?_
 rotate_left
 ·
  rintro w' ⟨s0, s1, s2, s3, s4, s5⟩
  go_simp
  with_reducible rfl
 rotate_left
 ·
  simp only [Act.put, List.setIfInBounds_toArray, List.set_cons_zero, List.set_cons_succ, i64_w, i32_w, IntKind.wrap_u32]
  rfl
 refine pure_ (i := 6) (N := some 19) (v := ?_) (a' := ?_) #[true, false, true, true, true, true, true, false, false] rfl rfl (any_of HT_.out (by kernel_rfl)) (fun _ _ _ h => h) (Or.inl ⟨by rfl, ?_⟩) ?_ ?_
 rotate_left
 ·
  intro w'
  go_simp
  with_reducible rfl
 rotate_left
 ·
  simp only [Act.put, List.setIfInBounds_toArray, List.set_cons_zero, List.set_cons_succ, i64_w, i32_w, IntKind.wrap_u32]
  rfl
 refine one_ (i := 1) (N := some 14) #[true, true, true, true, true, true, true, false, false] rfl rfl (one_of HT_.out (by kernel_rfl)) (by decide) (fun K hK => ?_)
 refine goes_ Try.func28 (by kernel_rfl) rfl #[.agg #[.int .i64 x0, .int .i64 x1, .int .i64 x2, .int .i64 x3, .int .i64 x4, .int .i64 x5]] (by rfl) rfl rfl (by simp only [List.map_toArray, List.map_cons, List.map_nil]; rfl) ?_
 with_reducible refine (blob_Config_Width.calls x0 x1 x2 x3 x4 x5 _ _ rfl).mono ?_
 rintro e w4 ⟨rfl, hb⟩
 refine ⟨_, rfl, ?_⟩
 have HG2 := Aside0.mk (blk_below HG1.out hb)
 have BK2 := Aside0.mk (blk_below BK.out hb)
 have HB2 := Aside0.mk (below_step HB.out hb)
 clear hb HG1 BK HB
 have HG1 := HG2
 have BK := BK2
 have HB := HB2
 clear HG2 BK2 HB2
 refine hK.out _ _ ⟨(blk_cell BK.out 0).trans rfl, (blk_cell BK.out 1).trans rfl, (blk_cell BK.out 2).trans rfl, (blk_cell BK.out 3).trans rfl, (blk_cell BK.out 4).trans rfl, (blk_cell BK.out 5).trans rfl⟩ (fun hHeld => ?_)
 clear hK K
 refine norm_ (a' := ?_) ?_ ?_
 rotate_left
 ·
  show Act.put _ (some 14) _ = _
  simp only [Act.put, List.setIfInBounds_toArray, List.set_cons_zero, List.set_cons_succ, i64_w, i32_w, IntKind.wrap_u32]
  rfl
 refine pure_ (i := 7) (N := some 4) (v := ?_) (a' := ?_) #[true, true, true, true, true, true, true, true, false] rfl rfl (any_of HT_.out (by kernel_rfl)) (fun _ _ _ h => h) (Or.inl ⟨by rfl, ?_⟩) ?_ ?_
 rotate_left
 ·
  intro w'
  go_simp
  with_reducible rfl
 rotate_left
 ·
  simp only [Act.put, List.setIfInBounds_toArray, List.set_cons_zero, List.set_cons_succ, i64_w, i32_w, IntKind.wrap_u32]
  rfl
 refine pure_ (i := 8) (N := some 5) (v := ?_) (a' := ?_) #[true, true, true, true, true, true, true, true, true] rfl rfl (any_of HT_.out (by kernel_rfl)) (fun _ _ _ h => h) (Or.inl ⟨by rfl, ?_⟩) ?_ ?_
 rotate_left
 ·
  intro w'
  go_simp
  with_reducible rfl
 rotate_left
 ·
  simp only [Act.put, List.setIfInBounds_toArray, List.set_cons_zero, List.set_cons_succ, i64_w, i32_w, IntKind.wrap_u32]
  rfl
 refine done_ (done_of HT_.out (by kernel_rfl)) ?_
 try go_wp2
 replace HG1 := Aside0.mk (blk_drew HG1.out)
 replace BK := Aside0.mk (blk_drew BK.out)
 replace HB := Aside0.mk (below_drew1 HB.out)
 refine start_ (n := 9) (S := fun w' => w'.cell? ⟨gb, 5, none⟩ = some (.int .i64 x5)) (ds := [7]) #[false, false, false, false, false, false, false, false, false] (by kernel_rfl) rfl rfl ((blk_cell BK.out 5).trans rfl) (fun hHeld => ?_); refine with_tabW bp.tab3 bp.bits3 (fun HT_ HW_ => ?_)
 generalize w4.drew = w5 at HG1 BK HB hHeld ⊢
 refine pure_ (i := 0) (N := some 20) (v := ?_) (a' := ?_) #[true, false, false, false, false, false, false, false, false] rfl rfl (any_of HT_.out (by kernel_rfl)) (fun _ _ _ h => h) (Or.inl ⟨by rfl, ?_⟩) ?_ ?_
 rotate_left
 ·
  intro w'
  go_simp
  with_reducible rfl
 rotate_left
 ·
  simp only [Act.put, List.setIfInBounds_toArray, List.set_cons_zero, List.set_cons_succ, i64_w, i32_w, IntKind.wrap_u32]
  rfl
 refine pure_ (i := 1) (N := some 21) (v := ?_) (a' := ?_) #[true, true, false, false, false, false, false, false, false] rfl rfl (any_of HT_.out (by kernel_rfl)) (fun _ _ _ h => h) (Or.inl ⟨by rfl, ?_⟩) ?_ ?_
 rotate_left
 ·
  intro w'
  go_simp
  with_reducible rfl
 rotate_left
 ·
  simp only [Act.put, List.setIfInBounds_toArray, List.set_cons_zero, List.set_cons_succ, i64_w, i32_w, IntKind.wrap_u32]
  rfl
 refine pure_ (i := 2) (N := some 22) (v := ?_) (a' := ?_) #[true, true, true, false, false, false, false, false, false] rfl rfl (any_of HT_.out (by kernel_rfl)) (fun _ _ _ h => h) (Or.inl ⟨by rfl, ?_⟩) ?_ ?_
 rotate_left
 ·
  intro w'
  go_simp
  with_reducible rfl
 rotate_left
 ·
  simp only [Act.put, List.setIfInBounds_toArray, List.set_cons_zero, List.set_cons_succ, i64_w, i32_w, IntKind.wrap_u32]
  rfl
 refine pure_ (i := 3) (N := some 23) (v := ?_) (a' := ?_) #[true, true, true, true, false, false, false, false, false] rfl rfl (any_of HT_.out (by kernel_rfl)) (fun _ _ _ h => h) (Or.inl ⟨by rfl, ?_⟩) ?_ ?_
 rotate_left
 ·
  intro w'
  go_simp
  with_reducible rfl
 rotate_left
 ·
  simp only [Act.put, List.setIfInBounds_toArray, List.set_cons_zero, List.set_cons_succ, i64_w, i32_w, IntKind.wrap_u32]
  rfl
 refine pure_ (i := 5) (N := some 25) (v := ?_) (a' := ?_) #[true, true, true, true, false, true, false, false, false] rfl rfl (any_of HT_.out (by kernel_rfl)) (fun _ _ _ h => h) (Or.inl ⟨by rfl, ?_⟩) ?_ ?_
 rotate_left
 ·
  intro w'
  go_simp
  with_reducible rfl
 rotate_left
 ·
  simp only [Act.put, List.setIfInBounds_toArray, List.set_cons_zero, List.set_cons_succ, i64_w, i32_w, IntKind.wrap_u32]
  rfl
 refine take_ (i := 4) (N := some 24) (v := ?_) (a' := ?_) #[true, true, true, true, true, true, false, false, false] rfl rfl (take_ofW HT_.out HW_.out (by kernel_rfl)) (fun _ _ _ h => h) (Or.inl ⟨by rfl, ?_⟩) hHeld ?_ ?_
 rotate_left
 ·
  intro w' s0
  go_simp
  with_reducible rfl
 rotate_left
 ·
  simp only [Act.put, List.setIfInBounds_toArray, List.set_cons_zero, List.set_cons_succ, i64_w, i32_w, IntKind.wrap_u32]
  rfl
 refine pure_ (i := 6) (N := some 26) (v := ?_) (a' := ?_) #[true, true, true, true, true, true, true, false, false] rfl rfl (any_of HT_.out (by kernel_rfl)) (fun _ _ _ h => h) (Or.inl ⟨by rfl, ?_⟩) ?_ ?_
 rotate_left
 ·
  intro w'
  go_simp
  with_reducible rfl
 rotate_left
 ·
  simp only [Act.put, List.setIfInBounds_toArray, List.set_cons_zero, List.set_cons_succ, i64_w, i32_w, IntKind.wrap_u32]
  rfl
 refine last_ (i := 7) (N := some 27) #[true, true, true, true, true, true, true, true, false] rfl rfl (one_of HT_.out (by kernel_rfl)) (by decide) (fun K hK => ?_)
 refine value_ (w1 := ?_) (v := ?_) (by rfl) rfl ?_ ?_
 rotate_left 2
 ·
  go_simp
  constructor
  ·
   rfl
  ·
   rfl
 refine hK.out _ _ ?_
 clear hK K
 refine norm_ (a' := ?_) ?_ ?_
 rotate_left
 ·
  show Act.put _ (some 27) _ = _
  simp only [Act.put, List.setIfInBounds_toArray, List.set_cons_zero, List.set_cons_succ, i64_w, i32_w, IntKind.wrap_u32]
  rfl
 refine pure_ (i := 8) (N := some 6) (v := ?_) (a' := ?_) #[true, true, true, true, true, true, true, true, true] rfl rfl (any_of HT_.out (by kernel_rfl)) (fun _ _ _ h => h) (Or.inl ⟨by rfl, ?_⟩) ?_ ?_
 rotate_left
 ·
  intro w'
  go_simp
  with_reducible rfl
 rotate_left
 ·
  simp only [Act.put, List.setIfInBounds_toArray, List.set_cons_zero, List.set_cons_succ, i64_w, i32_w, IntKind.wrap_u32]
  rfl
 refine done_ (done_of HT_.out (by kernel_rfl)) ?_
 have HV := Aside0.mk (show (Kd.raw 4).R 105 (w5.alloc (.cells #[.pointer (some ⟨g, 7, none⟩), .pointer none, .int .i64 x5, .int .i64 (wrap64 (x1 * x3))] 105)) w.heap.size (fun _ => True) (.slice (some ⟨w5.heap.size, 0, none⟩) 1 1) [bp.one (some ⟨g, 7, none⟩) none x5 (wrap64 (x1 * x3))] from lit_R (W := w5) [bp.one (some ⟨g, 7, none⟩) none x5 (wrap64 (x1 * x3))] rfl (all_ok (by intro r hr; simp only [List.mem_cons, List.mem_nil_iff, or_false] at hr; subst hr; exact ⟨_, _, _, _, rfl⟩)) (by decide) (below_size HB.out))
 replace HG1 := Aside0.mk (blk_below HG1.out (below_alloc (Below.refl _ _) (.cells #[.pointer (some ⟨g, 7, none⟩), .pointer none, .int .i64 x5, .int .i64 (wrap64 (x1 * x3))] 105)))
 replace BK := Aside0.mk (blk_below BK.out (below_alloc (Below.refl _ _) (.cells #[.pointer (some ⟨g, 7, none⟩), .pointer none, .int .i64 x5, .int .i64 (wrap64 (x1 * x3))] 105)))
 replace HB := Aside0.mk (below_alloc HB.out (.cells #[.pointer (some ⟨g, 7, none⟩), .pointer none, .int .i64 x5, .int .i64 (wrap64 (x1 * x3))] 105))
 generalize w5.alloc (Obj.cells #[.pointer (some ⟨g, 7, none⟩), .pointer none, .int .i64 x5, .int .i64 (wrap64 (x1 * x3))] 105) = w6 at HG1 BK HB HV ⊢
 generalize (Value.slice (some ⟨w5.heap.size, 0, none⟩) 1 1) = v27 at HV ⊢
 have hz2 := bx15 HG1.out
 have hn1 : n ≤ 1000000 := HN.out
 try go_wp2
 go_loopw [33, 6] (fun i v W' => ∃ k : Nat, k ≤ n ∧ i = .int .i64 k ∧ Aside0 ((Kd.raw 4).R 105 W' w.heap.size (fun _ => True) v (bp.one (some ⟨g, 7, none⟩) none x5 (wrap64 (x1 * x3)) :: bp.layers gl ol (wrap64 (x1 * x3)) (wrap64 (x2 * x3)) x4 k)) ∧ Aside0 (W'.heap[g]? = some (.cells #[.int .i64 x0, .int .i64 x1, .int .i64 x2, .int .i64 x3, .int .i64 x4, .int .i64 x5, v6, v7, v8, v9, .slice A n c, v11, v12, v13, v14] 67 (0, 0))) ∧ Aside0 (W'.heap[gb]? = some (.cells #[.int .i64 x0, .int .i64 x1, .int .i64 x2, .int .i64 x3, .int .i64 x4, .int .i64 x5] 54 (0, 0))) ∧ Aside0 (Below w.heap.size w W')) (fun i _ _ => n - (intOf i).toNat)
 case atStart => exact ⟨0, Nat.zero_le _, rfl, HV, HG1, BK, HB⟩
 case round =>
  clear HV HG1 BK HB hz2
  obtain ⟨k, hk, rfl, HV, HG1, BK, HB⟩ := hrel
  have hz2 := bx15 HG1.out
  by_cases c1 : k < n
  ·
   have d1 : decide ((k : Int) < (n : Int)) = true := decide_eq_true (by omega)
   have d2 : decide (k < n) = true := decide_eq_true c1
   obtain rfl := HA.out (by omega)
   go_upto_region 8 with (fail)
   replace hz2 := True.intro
   replace HV := Aside0.mk (Kd.R_drew HV.out)
   replace HG1 := Aside0.mk (blk_drew HG1.out)
   replace BK := Aside0.mk (blk_drew BK.out)
   replace HB := Aside0.mk (below_drew1 HB.out)
   refine start_ (n := 33) (S := fun w' => True) (ds := [30, 31]) #[false, false, false, false, false, false, false, false, false, false, false, false, false, false, false, false, false, false, false, false, false, false, false, false, false, false, false, false, false, false, false, false, false] (by kernel_rfl) rfl rfl trivial (fun hHeld => ?_); refine with_tabW bp.tab8 bp.bits8 (fun HT_ HW_ => ?_)
   generalize wr.drew = w8 at HV HG1 BK HB hHeld ⊢
   refine pure_ (i := 0) (N := some 42) (v := ?_) (a' := ?_) #[true, false, false, false, false, false, false, false, false, false, false, false, false, false, false, false, false, false, false, false, false, false, false, false, false, false, false, false, false, false, false, false, false] rfl rfl (any_of HT_.out (by kernel_rfl)) (fun _ _ _ h => h) (Or.inl ⟨by rfl, ?_⟩) ?_ ?_
   rotate_left
   ·
    intro w'
    go_simp
    with_reducible rfl
   rotate_left
   ·
    simp only [Act.put, List.setIfInBounds_toArray, List.set_cons_zero, List.set_cons_succ, i64_w, i32_w, IntKind.wrap_u32]
    rfl
   refine pure_ (i := 1) (N := some 43) (v := ?_) (a' := ?_) #[true, true, false, false, false, false, false, false, false, false, false, false, false, false, false, false, false, false, false, false, false, false, false, false, false, false, false, false, false, false, false, false, false] rfl rfl (any_of HT_.out (by kernel_rfl)) (fun _ _ _ h => h) (Or.inl ⟨by rfl, ?_⟩) ?_ ?_
   rotate_left
   ·
    intro w'
    go_simp
    with_reducible rfl
   rotate_left
   ·
    simp only [Act.put, List.setIfInBounds_toArray, List.set_cons_zero, List.set_cons_succ, i64_w, i32_w, IntKind.wrap_u32]
    rfl
   refine pure_ (i := 2) (N := some 44) (v := ?_) (a' := ?_) #[true, true, true, false, false, false, false, false, false, false, false, false, false, false, false, false, false, false, false, false, false, false, false, false, false, false, false, false, false, false, false, false, false] rfl rfl (any_of HT_.out (by kernel_rfl)) (fun _ _ _ h => h) (Or.inl ⟨by rfl, ?_⟩) ?_ ?_
   rotate_left
   ·
    intro w'
    go_simp
    with_reducible rfl
   rotate_left
   ·
    simp only [Act.put, List.setIfInBounds_toArray, List.set_cons_zero, List.set_cons_succ, i64_w, i32_w, IntKind.wrap_u32]
    rfl
   refine pure_ (i := 3) (N := some 45) (v := ?_) (a' := ?_) #[true, true, true, true, false, false, false, false, false, false, false, false, false, false, false, false, false, false, false, false, false, false, false, false, false, false, false, false, false, false, false, false, false] rfl rfl (any_of HT_.out (by kernel_rfl)) (fun _ _ _ h => h) (Or.inl ⟨by rfl, ?_⟩) ?_ ?_
   rotate_left
   ·
    intro w'
    go_simp
    with_reducible rfl
   rotate_left
   ·
    simp only [Act.put, List.setIfInBounds_toArray, List.set_cons_zero, List.set_cons_succ, i64_w, i32_w, IntKind.wrap_u32]
    rfl
   refine pure_ (i := 4) (N := some 46) (v := ?_) (a' := ?_) #[true, true, true, true, true, false, false, false, false, false, false, false, false, false, false, false, false, false, false, false, false, false, false, false, false, false, false, false, false, false, false, false, false] rfl rfl (any_of HT_.out (by kernel_rfl)) (fun _ _ _ h => h) (Or.inl ⟨by rfl, ?_⟩) ?_ ?_
   rotate_left
   ·
    intro w'
    go_simp
    with_reducible rfl
   rotate_left
   ·
    simp only [Act.put, List.setIfInBounds_toArray, List.set_cons_zero, List.set_cons_succ, i64_w, i32_w, IntKind.wrap_u32]
    rfl
   refine pure_ (i := 5) (N := some 47) (v := ?_) (a' := ?_) #[true, true, true, true, true, true, false, false, false, false, false, false, false, false, false, false, false, false, false, false, false, false, false, false, false, false, false, false, false, false, false, false, false] rfl rfl (any_of HT_.out (by kernel_rfl)) (fun _ _ _ h => h) (Or.inl ⟨by rfl, ?_⟩) ?_ ?_
   rotate_left
   ·
    intro w'
    go_simp
    with_reducible rfl
   rotate_left
   ·
    simp only [Act.put, List.setIfInBounds_toArray, List.set_cons_zero, List.set_cons_succ, i64_w, i32_w, IntKind.wrap_u32]
    rfl
   refine pure_ (i := 6) (N := some 48) (v := ?_) (a' := ?_) #[true, true, true, true, true, true, true, false, false, false, false, false, false, false, false, false, false, false, false, false, false, false, false, false, false, false, false, false, false, false, false, false, false] rfl rfl (any_of HT_.out (by kernel_rfl)) (fun _ _ _ h => h) (Or.inl ⟨by rfl, ?_⟩) ?_ ?_
   rotate_left
   ·
    intro w'
    go_simp
    with_reducible rfl
   rotate_left
   ·
    simp only [Act.put, List.setIfInBounds_toArray, List.set_cons_zero, List.set_cons_succ, i64_w, i32_w, IntKind.wrap_u32]
    rfl
   refine pure_ (i := 7) (N := some 49) (v := ?_) (a' := ?_) #[true, true, true, true, true, true, true, true, false, false, false, false, false, false, false, false, false, false, false, false, false, false, false, false, false, false, false, false, false, false, false, false, false] rfl rfl (any_of HT_.out (by kernel_rfl)) (fun _ _ _ h => h) (Or.inl ⟨by rfl, ?_⟩) ?_ ?_
   rotate_left
   ·
    intro w'
    go_simp
    with_reducible rfl
   rotate_left
   ·
    simp only [Act.put, List.setIfInBounds_toArray, List.set_cons_zero, List.set_cons_succ, i64_w, i32_w, IntKind.wrap_u32]
    rfl
   refine pure_ (i := 8) (N := some 50) (v := ?_) (a' := ?_) #[true, true, true, true, true, true, true, true, true, false, false, false, false, false, false, false, false, false, false, false, false, false, false, false, false, false, false, false, false, false, false, false, false] rfl rfl (any_of HT_.out (by kernel_rfl)) (fun _ _ _ h => h) (Or.inl ⟨by rfl, ?_⟩) ?_ ?_
   rotate_left
   ·
    intro w'
    go_simp
    with_reducible rfl
   rotate_left
   ·
    simp only [Act.put, List.setIfInBounds_toArray, List.set_cons_zero, List.set_cons_succ, i64_w, i32_w, IntKind.wrap_u32]
    rfl
   refine pure_ (i := 9) (N := some 51) (v := ?_) (a' := ?_) #[true, true, true, true, true, true, true, true, true, true, false, false, false, false, false, false, false, false, false, false, false, false, false, false, false, false, false, false, false, false, false, false, false] rfl rfl (any_of HT_.out (by kernel_rfl)) (fun _ _ _ h => h) (Or.inl ⟨by rfl, ?_⟩) ?_ ?_
   rotate_left
   ·
    intro w'
    go_simp
    with_reducible rfl
   rotate_left
   ·
    simp only [Act.put, List.setIfInBounds_toArray, List.set_cons_zero, List.set_cons_succ, i64_w, i32_w, IntKind.wrap_u32]
    rfl
   refine pure_ (i := 10) (N := some 52) (v := ?_) (a' := ?_) #[true, true, true, true, true, true, true, true, true, true, true, false, false, false, false, false, false, false, false, false, false, false, false, false, false, false, false, false, false, false, false, false, false] rfl rfl (any_of HT_.out (by kernel_rfl)) (fun _ _ _ h => h) (Or.inl ⟨by rfl, ?_⟩) ?_ ?_
   rotate_left
   ·
    intro w'
    go_simp
    with_reducible rfl
   rotate_left
   ·
    simp only [Act.put, List.setIfInBounds_toArray, List.set_cons_zero, List.set_cons_succ, i64_w, i32_w, IntKind.wrap_u32]
    rfl
   refine pure_ (i := 11) (N := some 53) (v := ?_) (a' := ?_) #[true, true, true, true, true, true, true, true, true, true, true, true, false, false, false, false, false, false, false, false, false, false, false, false, false, false, false, false, false, false, false, false, false] rfl rfl (any_of HT_.out (by kernel_rfl)) (fun _ _ _ h => h) (Or.inl ⟨by rfl, ?_⟩) ?_ ?_
   rotate_left
   ·
    intro w'
    go_simp
    with_reducible rfl
   rotate_left
   ·
    simp only [Act.put, List.setIfInBounds_toArray, List.set_cons_zero, List.set_cons_succ, i64_w, i32_w, IntKind.wrap_u32]
    rfl
   refine pure_ (i := 12) (N := some 54) (v := ?_) (a' := ?_) #[true, true, true, true, true, true, true, true, true, true, true, true, true, false, false, false, false, false, false, false, false, false, false, false, false, false, false, false, false, false, false, false, false] rfl rfl (any_of HT_.out (by kernel_rfl)) (fun _ _ _ h => h) (Or.inl ⟨by rfl, ?_⟩) ?_ ?_
   rotate_left
   ·
    intro w'
    go_simp
    with_reducible rfl
   rotate_left
   ·
    simp only [Act.put, List.setIfInBounds_toArray, List.set_cons_zero, List.set_cons_succ, i64_w, i32_w, IntKind.wrap_u32]
    rfl
   refine pure_ (i := 13) (N := some 55) (v := ?_) (a' := ?_) #[true, true, true, true, true, true, true, true, true, true, true, true, true, true, false, false, false, false, false, false, false, false, false, false, false, false, false, false, false, false, false, false, false] rfl rfl (any_of HT_.out (by kernel_rfl)) (fun _ _ _ h => h) (Or.inl ⟨by rfl, ?_⟩) ?_ ?_
   rotate_left
   ·
    intro w'
    go_simp
    with_reducible rfl
   rotate_left
   ·
    simp only [Act.put, List.setIfInBounds_toArray, List.set_cons_zero, List.set_cons_succ, i64_w, i32_w, IntKind.wrap_u32]
    rfl
   refine pure_ (i := 14) (N := some 56) (v := ?_) (a' := ?_) #[true, true, true, true, true, true, true, true, true, true, true, true, true, true, true, false, false, false, false, false, false, false, false, false, false, false, false, false, false, false, false, false, false] rfl rfl (any_of HT_.out (by kernel_rfl)) (fun _ _ _ h => h) (Or.inl ⟨by rfl, ?_⟩) ?_ ?_
   rotate_left
   ·
    intro w'
    go_simp
    with_reducible rfl
   rotate_left
   ·
    simp only [Act.put, List.setIfInBounds_toArray, List.set_cons_zero, List.set_cons_succ, i64_w, i32_w, IntKind.wrap_u32]
    rfl
   refine pure_ (i := 15) (N := some 57) (v := ?_) (a' := ?_) #[true, true, true, true, true, true, true, true, true, true, true, true, true, true, true, true, false, false, false, false, false, false, false, false, false, false, false, false, false, false, false, false, false] rfl rfl (any_of HT_.out (by kernel_rfl)) (fun _ _ _ h => h) (Or.inl ⟨by rfl, ?_⟩) ?_ ?_
   rotate_left
   ·
    intro w'
    go_simp
    with_reducible rfl
   rotate_left
   ·
    simp only [Act.put, List.setIfInBounds_toArray, List.set_cons_zero, List.set_cons_succ, i64_w, i32_w, IntKind.wrap_u32]
    rfl
   refine pure_ (i := 16) (N := some 58) (v := ?_) (a' := ?_) #[true, true, true, true, true, true, true, true, true, true, true, true, true, true, true, true, true, false, false, false, false, false, false, false, false, false, false, false, false, false, false, false, false] rfl rfl (any_of HT_.out (by kernel_rfl)) (fun _ _ _ h => h) (Or.inl ⟨by rfl, ?_⟩) ?_ ?_
   rotate_left
   ·
    intro w'
    go_simp
    with_reducible rfl
   rotate_left
   ·
    simp only [Act.put, List.setIfInBounds_toArray, List.set_cons_zero, List.set_cons_succ, i64_w, i32_w, IntKind.wrap_u32]
    rfl
   refine pure_ (i := 17) (N := some 59) (v := ?_) (a' := ?_) #[true, true, true, true, true, true, true, true, true, true, true, true, true, true, true, true, true, true, false, false, false, false, false, false, false, false, false, false, false, false, false, false, false] rfl rfl (any_of HT_.out (by kernel_rfl)) (fun _ _ _ h => h) (Or.inl ⟨by rfl, ?_⟩) ?_ ?_
   rotate_left
   ·
    intro w'
    go_simp
    with_reducible rfl
   rotate_left
   ·
    simp only [Act.put, List.setIfInBounds_toArray, List.set_cons_zero, List.set_cons_succ, i64_w, i32_w, IntKind.wrap_u32]
    rfl
   refine pure_ (i := 18) (N := some 60) (v := ?_) (a' := ?_) #[true, true, true, true, true, true, true, true, true, true, true, true, true, true, true, true, true, true, true, false, false, false, false, false, false, false, false, false, false, false, false, false, false] rfl rfl (any_of HT_.out (by kernel_rfl)) (fun _ _ _ h => h) (Or.inl ⟨by rfl, ?_⟩) ?_ ?_
   rotate_left
   ·
    intro w'
    go_simp
    with_reducible rfl
   rotate_left
   ·
    simp only [Act.put, List.setIfInBounds_toArray, List.set_cons_zero, List.set_cons_succ, i64_w, i32_w, IntKind.wrap_u32]
    rfl
   refine pure_ (i := 19) (N := some 61) (v := ?_) (a' := ?_) #[true, true, true, true, true, true, true, true, true, true, true, true, true, true, true, true, true, true, true, true, false, false, false, false, false, false, false, false, false, false, false, false, false] rfl rfl (any_of HT_.out (by kernel_rfl)) (fun _ _ _ h => h) (Or.inl ⟨by rfl, ?_⟩) ?_ ?_
   rotate_left
   ·
    intro w'
    go_simp
    with_reducible rfl
   rotate_left
   ·
    simp only [Act.put, List.setIfInBounds_toArray, List.set_cons_zero, List.set_cons_succ, i64_w, i32_w, IntKind.wrap_u32]
    rfl
   refine pure_ (i := 20) (N := some 62) (v := ?_) (a' := ?_) #[true, true, true, true, true, true, true, true, true, true, true, true, true, true, true, true, true, true, true, true, true, false, false, false, false, false, false, false, false, false, false, false, false] rfl rfl (any_of HT_.out (by kernel_rfl)) (fun _ _ _ h => h) (Or.inl ⟨by rfl, ?_⟩) ?_ ?_
   rotate_left
   ·
    intro w'
    go_simp
    with_reducible rfl
   rotate_left
   ·
    simp only [Act.put, List.setIfInBounds_toArray, List.set_cons_zero, List.set_cons_succ, i64_w, i32_w, IntKind.wrap_u32]
    rfl
   refine pure_ (i := 21) (N := some 63) (v := ?_) (a' := ?_) #[true, true, true, true, true, true, true, true, true, true, true, true, true, true, true, true, true, true, true, true, true, true, false, false, false, false, false, false, false, false, false, false, false] rfl rfl (any_of HT_.out (by kernel_rfl)) (fun _ _ _ h => h) (Or.inl ⟨by rfl, ?_⟩) ?_ ?_
   rotate_left
   ·
    intro w'
    go_simp
    with_reducible rfl
   rotate_left
   ·
    simp only [Act.put, List.setIfInBounds_toArray, List.set_cons_zero, List.set_cons_succ, i64_w, i32_w, IntKind.wrap_u32]
    rfl
   refine pure_ (i := 22) (N := some 64) (v := ?_) (a' := ?_) #[true, true, true, true, true, true, true, true, true, true, true, true, true, true, true, true, true, true, true, true, true, true, true, false, false, false, false, false, false, false, false, false, false] rfl rfl (any_of HT_.out (by kernel_rfl)) (fun _ _ _ h => h) (Or.inl ⟨by rfl, ?_⟩) ?_ ?_
   rotate_left
   ·
    intro w'
    go_simp
    with_reducible rfl
   rotate_left
   ·
    simp only [Act.put, List.setIfInBounds_toArray, List.set_cons_zero, List.set_cons_succ, i64_w, i32_w, IntKind.wrap_u32]
    rfl
   refine pure_ (i := 23) (N := some 65) (v := ?_) (a' := ?_) #[true, true, true, true, true, true, true, true, true, true, true, true, true, true, true, true, true, true, true, true, true, true, true, true, false, false, false, false, false, false, false, false, false] rfl rfl (any_of HT_.out (by kernel_rfl)) (fun _ _ _ h => h) (Or.inl ⟨by rfl, ?_⟩) ?_ ?_
   rotate_left
   ·
    intro w'
    go_simp
    with_reducible rfl
   rotate_left
   ·
    simp only [Act.put, List.setIfInBounds_toArray, List.set_cons_zero, List.set_cons_succ, i64_w, i32_w, IntKind.wrap_u32]
    rfl
   refine pure_ (i := 24) (N := some 66) (v := ?_) (a' := ?_) #[true, true, true, true, true, true, true, true, true, true, true, true, true, true, true, true, true, true, true, true, true, true, true, true, true, false, false, false, false, false, false, false, false] rfl rfl (any_of HT_.out (by kernel_rfl)) (fun _ _ _ h => h) (Or.inl ⟨by rfl, ?_⟩) ?_ ?_
   rotate_left
   ·
    intro w'
    go_simp
    with_reducible rfl
   rotate_left
   ·
    simp only [Act.put, List.setIfInBounds_toArray, List.set_cons_zero, List.set_cons_succ, i64_w, i32_w, IntKind.wrap_u32]
    rfl
   refine pure_ (i := 25) (N := some 67) (v := ?_) (a' := ?_) #[true, true, true, true, true, true, true, true, true, true, true, true, true, true, true, true, true, true, true, true, true, true, true, true, true, true, false, false, false, false, false, false, false] rfl rfl (any_of HT_.out (by kernel_rfl)) (fun _ _ _ h => h) (Or.inl ⟨by rfl, ?_⟩) ?_ ?_
   rotate_left
   ·
    intro w'
    go_simp
    with_reducible rfl
   rotate_left
   ·
    simp only [Act.put, List.setIfInBounds_toArray, List.set_cons_zero, List.set_cons_succ, i64_w, i32_w, IntKind.wrap_u32]
    rfl
   refine pure_ (i := 26) (N := some 68) (v := ?_) (a' := ?_) #[true, true, true, true, true, true, true, true, true, true, true, true, true, true, true, true, true, true, true, true, true, true, true, true, true, true, true, false, false, false, false, false, false] rfl rfl (any_of HT_.out (by kernel_rfl)) (fun _ _ _ h => h) (Or.inl ⟨by rfl, ?_⟩) ?_ ?_
   rotate_left
   ·
    intro w'
    go_simp
    with_reducible rfl
   rotate_left
   ·
    simp only [Act.put, List.setIfInBounds_toArray, List.set_cons_zero, List.set_cons_succ, i64_w, i32_w, IntKind.wrap_u32]
    rfl
   refine pure_ (i := 27) (N := some 69) (v := ?_) (a' := ?_) #[true, true, true, true, true, true, true, true, true, true, true, true, true, true, true, true, true, true, true, true, true, true, true, true, true, true, true, true, false, false, false, false, false] rfl rfl (any_of HT_.out (by kernel_rfl)) (fun _ _ _ h => h) (Or.inl ⟨by rfl, ?_⟩) ?_ ?_
   rotate_left
   ·
    intro w'
    go_simp
    with_reducible rfl
   rotate_left
   ·
    simp only [Act.put, List.setIfInBounds_toArray, List.set_cons_zero, List.set_cons_succ, i64_w, i32_w, IntKind.wrap_u32]
    rfl
   refine pure_ (i := 28) (N := some 70) (v := ?_) (a' := ?_) #[true, true, true, true, true, true, true, true, true, true, true, true, true, true, true, true, true, true, true, true, true, true, true, true, true, true, true, true, true, false, false, false, false] rfl rfl (any_of HT_.out (by kernel_rfl)) (fun _ _ _ h => h) (Or.inl ⟨by rfl, ?_⟩) ?_ ?_
   rotate_left
   ·
    intro w'
    go_simp
    with_reducible rfl
   rotate_left
   ·
    simp only [Act.put, List.setIfInBounds_toArray, List.set_cons_zero, List.set_cons_succ, i64_w, i32_w, IntKind.wrap_u32]
    rfl
   refine pure_ (i := 29) (N := some 71) (v := ?_) (a' := ?_) #[true, true, true, true, true, true, true, true, true, true, true, true, true, true, true, true, true, true, true, true, true, true, true, true, true, true, true, true, true, true, false, false, false] rfl rfl (any_of HT_.out (by kernel_rfl)) (fun _ _ _ h => h) (Or.inl ⟨by rfl, ?_⟩) ?_ ?_
   rotate_left
   ·
    intro w'
    go_simp
    with_reducible rfl
   rotate_left
   ·
    simp only [Act.put, List.setIfInBounds_toArray, List.set_cons_zero, List.set_cons_succ, i64_w, i32_w, IntKind.wrap_u32]
    rfl
   refine last_ (i := 30) (N := some 72) #[true, true, true, true, true, true, true, true, true, true, true, true, true, true, true, true, true, true, true, true, true, true, true, true, true, true, true, true, true, true, true, false, false] rfl rfl (one_of HT_.out (by kernel_rfl)) (by decide) (fun K hK => ?_)
   refine value_ (w1 := ?_) (v := ?_) (by rfl) rfl ?_ ?_
   rotate_left 2
   ·
    go_simp
    constructor
    ·
     rfl
    ·
     rfl
   refine hK.out _ _ ?_
   clear hK K
   refine norm_ (a' := ?_) ?_ ?_
   rotate_left
   ·
    show Act.put _ (some 72) _ = _
    simp only [Act.put, List.setIfInBounds_toArray, List.set_cons_zero, List.set_cons_succ, i64_w, i32_w, IntKind.wrap_u32]
    rfl
   refine last_ (i := 31) (N := some 73) #[true, true, true, true, true, true, true, true, true, true, true, true, true, true, true, true, true, true, true, true, true, true, true, true, true, true, true, true, true, true, true, true, false] rfl rfl (one_of HT_.out (by kernel_rfl)) (by decide) (fun K hK => ?_)
   refine Kd.R_append_rows_step (Kd.raw 4) (w0 := w) w.heap.size (by rfl) (.tmp 42) (.tmp 72) 100 105 (.agg #[.pointer none, .pointer none, .int .i64 0, .int .i64 0]) 32 rfl Try.underlying100 (by kernel_rfl) rfl (by decide) (by omega) u6 (bp.one (some ⟨g, 7, none⟩) none x5 (wrap64 (x1 * x3)) :: bp.layers gl ol (wrap64 (x1 * x3)) (wrap64 (x2 * x3)) x4 k) (bp.layer gl (ol + k * 23) (wrap64 (x1 * x3)) (wrap64 (x2 * x3)) x4) _ _ _ (fun _ => True) (fun _ => False) rfl rfl ?aO ?aR (fun _ _ h => h) (fun _ h => h.elim) ?aF ?aB ?aS ?aL ?_
   case aO => exact Kd.R_alloc HV.out _
   case aR => exact lit_C (W := w8) (bp.layer gl (ol + k * 23) (wrap64 (x1 * x3)) (wrap64 (x2 * x3)) x4) rfl (all_ok (by intro r hr; simp only [bp.layer, bp.layer2, List.mem_cons, List.mem_nil_iff, or_false] at hr; rcases hr with rfl | rfl | rfl | rfl | rfl <;> exact ⟨_, _, _, _, rfl⟩)) (by decide)
   case aF => exact fun _ _ => trivial
   case aB => exact below_alloc HB.out _
   case aS => exact below_size (below_alloc HB.out _)
   case aL => simp only [List.length_cons, bp.layers_length]; omega
   intro v8 w9 ho hb hg_ hat
   have BK2 := Aside0.mk (blk_grown (blk_below BK.out (below_alloc (Below.refl _ _) (.cells #[.pointer none, .pointer (some ⟨gl, ol + k * 23, none⟩), .int .i64 1, .int .i64 (wrap64 (x1 * x3)), .pointer (some ⟨gl, ol + k * 23 + 1, none⟩), .pointer none, .int .i64 (wrap64 (x1 * x3)), .int .i64 (wrap64 (x1 * x3)), .pointer (some ⟨gl, ol + k * 23 + 4, none⟩), .pointer none, .int .i64 (wrap64 (x2 * x3)), .int .i64 (wrap64 (x1 * x3)), .pointer (some ⟨gl, ol + k * 23 + 7, none⟩), .pointer none, .int .i64 (wrap64 (x2 * x3)), .int .i64 (wrap64 (x1 * x3)), .pointer (some ⟨gl, ol + k * 23 + 10, none⟩), .pointer none, .int .i64 (wrap64 (x1 * x3)), .int .i64 (wrap64 (x1 * x3))] 105))) hg_ (Kd.R_ne (Kd.R_alloc HV.out (.cells #[.pointer none, .pointer (some ⟨gl, ol + k * 23, none⟩), .int .i64 1, .int .i64 (wrap64 (x1 * x3)), .pointer (some ⟨gl, ol + k * 23 + 1, none⟩), .pointer none, .int .i64 (wrap64 (x1 * x3)), .int .i64 (wrap64 (x1 * x3)), .pointer (some ⟨gl, ol + k * 23 + 4, none⟩), .pointer none, .int .i64 (wrap64 (x2 * x3)), .int .i64 (wrap64 (x1 * x3)), .pointer (some ⟨gl, ol + k * 23 + 7, none⟩), .pointer none, .int .i64 (wrap64 (x2 * x3)), .int .i64 (wrap64 (x1 * x3)), .pointer (some ⟨gl, ol + k * 23 + 10, none⟩), .pointer none, .int .i64 (wrap64 (x1 * x3)), .int .i64 (wrap64 (x1 * x3))] 105)) (blk_below BK.out (below_alloc (Below.refl _ _) (.cells #[.pointer none, .pointer (some ⟨gl, ol + k * 23, none⟩), .int .i64 1, .int .i64 (wrap64 (x1 * x3)), .pointer (some ⟨gl, ol + k * 23 + 1, none⟩), .pointer none, .int .i64 (wrap64 (x1 * x3)), .int .i64 (wrap64 (x1 * x3)), .pointer (some ⟨gl, ol + k * 23 + 4, none⟩), .pointer none, .int .i64 (wrap64 (x2 * x3)), .int .i64 (wrap64 (x1 * x3)), .pointer (some ⟨gl, ol + k * 23 + 7, none⟩), .pointer none, .int .i64 (wrap64 (x2 * x3)), .int .i64 (wrap64 (x1 * x3)), .pointer (some ⟨gl, ol + k * 23 + 10, none⟩), .pointer none, .int .i64 (wrap64 (x1 * x3)), .int .i64 (wrap64 (x1 * x3))] 105))) (by decide)))
   have HG2 := Aside0.mk (blk_below HG.out hb)
   have HV2 := Aside0.mk ho
   have HB2 := Aside0.mk hb
   clear ho hb hg_ hat HV HG1 BK HB
   have HV := HV2
   have HG1 := HG2
   have BK := BK2
   have HB := HB2
   clear HV2 HG2 BK2 HB2
   refine hK.out _ _ ?_
   clear hK K
   refine norm_ (a' := ?_) ?_ ?_
   rotate_left
   ·
    show Act.put _ (some 73) _ = _
    simp only [Act.put, List.setIfInBounds_toArray, List.set_cons_zero, List.set_cons_succ, i64_w, i32_w, IntKind.wrap_u32]
    rfl
   refine pure_ (i := 32) (N := some 6) (v := ?_) (a' := ?_) #[true, true, true, true, true, true, true, true, true, true, true, true, true, true, true, true, true, true, true, true, true, true, true, true, true, true, true, true, true, true, true, true, true] rfl rfl (any_of HT_.out (by kernel_rfl)) (fun _ _ _ h => h) (Or.inl ⟨by rfl, ?_⟩) ?_ ?_
   rotate_left
   ·
    intro w'
    go_simp
    with_reducible rfl
   rotate_left
   ·
    simp only [Act.put, List.setIfInBounds_toArray, List.set_cons_zero, List.set_cons_succ, i64_w, i32_w, IntKind.wrap_u32]
    rfl
   refine done_ (done_of HT_.out (by kernel_rfl)) ?_
   try go_wp2
   replace HV := Aside0.mk (Kd.R_drew HV.out)
   replace HG1 := Aside0.mk (blk_drew HG1.out)
   replace BK := Aside0.mk (blk_drew BK.out)
   replace HB := Aside0.mk (below_drew1 HB.out)
   refine start_ (n := 30) (S := fun w' => w'.cell? ⟨gb, 4, none⟩ = some (.int .i64 x4)) (ds := [27, 28]) #[false, false, false, false, false, false, false, false, false, false, false, false, false, false, false, false, false, false, false, false, false, false, false, false, false, false, false, false, false, false] (by kernel_rfl) rfl rfl ((blk_cell BK.out 4).trans rfl) (fun hHeld => ?_); refine with_tabW bp.tab9 bp.bits9 (fun HT_ HW_ => ?_)
   generalize w9.drew = w10 at HV HG1 BK HB hHeld ⊢
   refine pure_ (i := 0) (N := some 74) (v := ?_) (a' := ?_) #[true, false, false, false, false, false, false, false, false, false, false, false, false, false, false, false, false, false, false, false, false, false, false, false, false, false, false, false, false, false] rfl rfl (any_of HT_.out (by kernel_rfl)) (fun _ _ _ h => h) (Or.inl ⟨by rfl, ?_⟩) ?_ ?_
   rotate_left
   ·
    intro w'
    go_simp
    with_reducible rfl
   rotate_left
   ·
    simp only [Act.put, List.setIfInBounds_toArray, List.set_cons_zero, List.set_cons_succ, i64_w, i32_w, IntKind.wrap_u32]
    rfl
   refine pure_ (i := 1) (N := some 75) (v := ?_) (a' := ?_) #[true, true, false, false, false, false, false, false, false, false, false, false, false, false, false, false, false, false, false, false, false, false, false, false, false, false, false, false, false, false] rfl rfl (any_of HT_.out (by kernel_rfl)) (fun _ _ _ h => h) (Or.inl ⟨by rfl, ?_⟩) ?_ ?_
   rotate_left
   ·
    intro w'
    go_simp
    with_reducible rfl
   rotate_left
   ·
    simp only [Act.put, List.setIfInBounds_toArray, List.set_cons_zero, List.set_cons_succ, i64_w, i32_w, IntKind.wrap_u32]
    rfl
   refine pure_ (i := 2) (N := some 76) (v := ?_) (a' := ?_) #[true, true, true, false, false, false, false, false, false, false, false, false, false, false, false, false, false, false, false, false, false, false, false, false, false, false, false, false, false, false] rfl rfl (any_of HT_.out (by kernel_rfl)) (fun _ _ _ h => h) (Or.inl ⟨by rfl, ?_⟩) ?_ ?_
   rotate_left
   ·
    intro w'
    go_simp
    with_reducible rfl
   rotate_left
   ·
    simp only [Act.put, List.setIfInBounds_toArray, List.set_cons_zero, List.set_cons_succ, i64_w, i32_w, IntKind.wrap_u32]
    rfl
   refine pure_ (i := 3) (N := some 77) (v := ?_) (a' := ?_) #[true, true, true, true, false, false, false, false, false, false, false, false, false, false, false, false, false, false, false, false, false, false, false, false, false, false, false, false, false, false] rfl rfl (any_of HT_.out (by kernel_rfl)) (fun _ _ _ h => h) (Or.inl ⟨by rfl, ?_⟩) ?_ ?_
   rotate_left
   ·
    intro w'
    go_simp
    with_reducible rfl
   rotate_left
   ·
    simp only [Act.put, List.setIfInBounds_toArray, List.set_cons_zero, List.set_cons_succ, i64_w, i32_w, IntKind.wrap_u32]
    rfl
   refine pure_ (i := 4) (N := some 78) (v := ?_) (a' := ?_) #[true, true, true, true, true, false, false, false, false, false, false, false, false, false, false, false, false, false, false, false, false, false, false, false, false, false, false, false, false, false] rfl rfl (any_of HT_.out (by kernel_rfl)) (fun _ _ _ h => h) (Or.inl ⟨by rfl, ?_⟩) ?_ ?_
   rotate_left
   ·
    intro w'
    go_simp
    with_reducible rfl
   rotate_left
   ·
    simp only [Act.put, List.setIfInBounds_toArray, List.set_cons_zero, List.set_cons_succ, i64_w, i32_w, IntKind.wrap_u32]
    rfl
   refine pure_ (i := 5) (N := some 79) (v := ?_) (a' := ?_) #[true, true, true, true, true, true, false, false, false, false, false, false, false, false, false, false, false, false, false, false, false, false, false, false, false, false, false, false, false, false] rfl rfl (any_of HT_.out (by kernel_rfl)) (fun _ _ _ h => h) (Or.inl ⟨by rfl, ?_⟩) ?_ ?_
   rotate_left
   ·
    intro w'
    go_simp
    with_reducible rfl
   rotate_left
   ·
    simp only [Act.put, List.setIfInBounds_toArray, List.set_cons_zero, List.set_cons_succ, i64_w, i32_w, IntKind.wrap_u32]
    rfl
   refine pure_ (i := 6) (N := some 80) (v := ?_) (a' := ?_) #[true, true, true, true, true, true, true, false, false, false, false, false, false, false, false, false, false, false, false, false, false, false, false, false, false, false, false, false, false, false] rfl rfl (any_of HT_.out (by kernel_rfl)) (fun _ _ _ h => h) (Or.inl ⟨by rfl, ?_⟩) ?_ ?_
   rotate_left
   ·
    intro w'
    go_simp
    with_reducible rfl
   rotate_left
   ·
    simp only [Act.put, List.setIfInBounds_toArray, List.set_cons_zero, List.set_cons_succ, i64_w, i32_w, IntKind.wrap_u32]
    rfl
   refine pure_ (i := 7) (N := some 81) (v := ?_) (a' := ?_) #[true, true, true, true, true, true, true, true, false, false, false, false, false, false, false, false, false, false, false, false, false, false, false, false, false, false, false, false, false, false] rfl rfl (any_of HT_.out (by kernel_rfl)) (fun _ _ _ h => h) (Or.inl ⟨by rfl, ?_⟩) ?_ ?_
   rotate_left
   ·
    intro w'
    go_simp
    with_reducible rfl
   rotate_left
   ·
    simp only [Act.put, List.setIfInBounds_toArray, List.set_cons_zero, List.set_cons_succ, i64_w, i32_w, IntKind.wrap_u32]
    rfl
   refine pure_ (i := 8) (N := some 82) (v := ?_) (a' := ?_) #[true, true, true, true, true, true, true, true, true, false, false, false, false, false, false, false, false, false, false, false, false, false, false, false, false, false, false, false, false, false] rfl rfl (any_of HT_.out (by kernel_rfl)) (fun _ _ _ h => h) (Or.inl ⟨by rfl, ?_⟩) ?_ ?_
   rotate_left
   ·
    intro w'
    go_simp
    with_reducible rfl
   rotate_left
   ·
    simp only [Act.put, List.setIfInBounds_toArray, List.set_cons_zero, List.set_cons_succ, i64_w, i32_w, IntKind.wrap_u32]
    rfl
   refine pure_ (i := 9) (N := some 83) (v := ?_) (a' := ?_) #[true, true, true, true, true, true, true, true, true, true, false, false, false, false, false, false, false, false, false, false, false, false, false, false, false, false, false, false, false, false] rfl rfl (any_of HT_.out (by kernel_rfl)) (fun _ _ _ h => h) (Or.inl ⟨by rfl, ?_⟩) ?_ ?_
   rotate_left
   ·
    intro w'
    go_simp
    with_reducible rfl
   rotate_left
   ·
    simp only [Act.put, List.setIfInBounds_toArray, List.set_cons_zero, List.set_cons_succ, i64_w, i32_w, IntKind.wrap_u32]
    rfl
   refine pure_ (i := 11) (N := some 85) (v := ?_) (a' := ?_) #[true, true, true, true, true, true, true, true, true, true, false, true, false, false, false, false, false, false, false, false, false, false, false, false, false, false, false, false, false, false] rfl rfl (any_of HT_.out (by kernel_rfl)) (fun _ _ _ h => h) (Or.inl ⟨by rfl, ?_⟩) ?_ ?_
   rotate_left
   ·
    intro w'
    go_simp
    with_reducible rfl
   rotate_left
   ·
    simp only [Act.put, List.setIfInBounds_toArray, List.set_cons_zero, List.set_cons_succ, i64_w, i32_w, IntKind.wrap_u32]
    rfl
   refine pure_ (i := 13) (N := some 87) (v := ?_) (a' := ?_) #[true, true, true, true, true, true, true, true, true, true, false, true, false, true, false, false, false, false, false, false, false, false, false, false, false, false, false, false, false, false] rfl rfl (any_of HT_.out (by kernel_rfl)) (fun _ _ _ h => h) (Or.inl ⟨by rfl, ?_⟩) ?_ ?_
   rotate_left
   ·
    intro w'
    go_simp
    with_reducible rfl
   rotate_left
   ·
    simp only [Act.put, List.setIfInBounds_toArray, List.set_cons_zero, List.set_cons_succ, i64_w, i32_w, IntKind.wrap_u32]
    rfl
   refine pure_ (i := 14) (N := some 88) (v := ?_) (a' := ?_) #[true, true, true, true, true, true, true, true, true, true, false, true, false, true, true, false, false, false, false, false, false, false, false, false, false, false, false, false, false, false] rfl rfl (any_of HT_.out (by kernel_rfl)) (fun _ _ _ h => h) (Or.inl ⟨by rfl, ?_⟩) ?_ ?_
   rotate_left
   ·
    intro w'
    go_simp
    with_reducible rfl
   rotate_left
   ·
    simp only [Act.put, List.setIfInBounds_toArray, List.set_cons_zero, List.set_cons_succ, i64_w, i32_w, IntKind.wrap_u32]
    rfl
   refine pure_ (i := 15) (N := some 89) (v := ?_) (a' := ?_) #[true, true, true, true, true, true, true, true, true, true, false, true, false, true, true, true, false, false, false, false, false, false, false, false, false, false, false, false, false, false] rfl rfl (any_of HT_.out (by kernel_rfl)) (fun _ _ _ h => h) (Or.inl ⟨by rfl, ?_⟩) ?_ ?_
   rotate_left
   ·
    intro w'
    go_simp
    with_reducible rfl
   rotate_left
   ·
    simp only [Act.put, List.setIfInBounds_toArray, List.set_cons_zero, List.set_cons_succ, i64_w, i32_w, IntKind.wrap_u32]
    rfl
   refine pure_ (i := 16) (N := some 90) (v := ?_) (a' := ?_) #[true, true, true, true, true, true, true, true, true, true, false, true, false, true, true, true, true, false, false, false, false, false, false, false, false, false, false, false, false, false] rfl rfl (any_of HT_.out (by kernel_rfl)) (fun _ _ _ h => h) (Or.inl ⟨by rfl, ?_⟩) ?_ ?_
   rotate_left
   ·
    intro w'
    go_simp
    with_reducible rfl
   rotate_left
   ·
    simp only [Act.put, List.setIfInBounds_toArray, List.set_cons_zero, List.set_cons_succ, i64_w, i32_w, IntKind.wrap_u32]
    rfl
   refine pure_ (i := 18) (N := some 92) (v := ?_) (a' := ?_) #[true, true, true, true, true, true, true, true, true, true, false, true, false, true, true, true, true, false, true, false, false, false, false, false, false, false, false, false, false, false] rfl rfl (any_of HT_.out (by kernel_rfl)) (fun _ _ _ h => h) (Or.inl ⟨by rfl, ?_⟩) ?_ ?_
   rotate_left
   ·
    intro w'
    go_simp
    with_reducible rfl
   rotate_left
   ·
    simp only [Act.put, List.setIfInBounds_toArray, List.set_cons_zero, List.set_cons_succ, i64_w, i32_w, IntKind.wrap_u32]
    rfl
   refine pure_ (i := 20) (N := some 94) (v := ?_) (a' := ?_) #[true, true, true, true, true, true, true, true, true, true, false, true, false, true, true, true, true, false, true, false, true, false, false, false, false, false, false, false, false, false] rfl rfl (any_of HT_.out (by kernel_rfl)) (fun _ _ _ h => h) (Or.inl ⟨by rfl, ?_⟩) ?_ ?_
   rotate_left
   ·
    intro w'
    go_simp
    with_reducible rfl
   rotate_left
   ·
    simp only [Act.put, List.setIfInBounds_toArray, List.set_cons_zero, List.set_cons_succ, i64_w, i32_w, IntKind.wrap_u32]
    rfl
   refine pure_ (i := 21) (N := some 95) (v := ?_) (a' := ?_) #[true, true, true, true, true, true, true, true, true, true, false, true, false, true, true, true, true, false, true, false, true, true, false, false, false, false, false, false, false, false] rfl rfl (any_of HT_.out (by kernel_rfl)) (fun _ _ _ h => h) (Or.inl ⟨by rfl, ?_⟩) ?_ ?_
   rotate_left
   ·
    intro w'
    go_simp
    with_reducible rfl
   rotate_left
   ·
    simp only [Act.put, List.setIfInBounds_toArray, List.set_cons_zero, List.set_cons_succ, i64_w, i32_w, IntKind.wrap_u32]
    rfl
   refine pure_ (i := 22) (N := some 96) (v := ?_) (a' := ?_) #[true, true, true, true, true, true, true, true, true, true, false, true, false, true, true, true, true, false, true, false, true, true, true, false, false, false, false, false, false, false] rfl rfl (any_of HT_.out (by kernel_rfl)) (fun _ _ _ h => h) (Or.inl ⟨by rfl, ?_⟩) ?_ ?_
   rotate_left
   ·
    intro w'
    go_simp
    with_reducible rfl
   rotate_left
   ·
    simp only [Act.put, List.setIfInBounds_toArray, List.set_cons_zero, List.set_cons_succ, i64_w, i32_w, IntKind.wrap_u32]
    rfl
   refine pure_ (i := 23) (N := some 97) (v := ?_) (a' := ?_) #[true, true, true, true, true, true, true, true, true, true, false, true, false, true, true, true, true, false, true, false, true, true, true, true, false, false, false, false, false, false] rfl rfl (any_of HT_.out (by kernel_rfl)) (fun _ _ _ h => h) (Or.inl ⟨by rfl, ?_⟩) ?_ ?_
   rotate_left
   ·
    intro w'
    go_simp
    with_reducible rfl
   rotate_left
   ·
    simp only [Act.put, List.setIfInBounds_toArray, List.set_cons_zero, List.set_cons_succ, i64_w, i32_w, IntKind.wrap_u32]
    rfl
   refine pure_ (i := 24) (N := some 98) (v := ?_) (a' := ?_) #[true, true, true, true, true, true, true, true, true, true, false, true, false, true, true, true, true, false, true, false, true, true, true, true, true, false, false, false, false, false] rfl rfl (any_of HT_.out (by kernel_rfl)) (fun _ _ _ h => h) (Or.inl ⟨by rfl, ?_⟩) ?_ ?_
   rotate_left
   ·
    intro w'
    go_simp
    with_reducible rfl
   rotate_left
   ·
    simp only [Act.put, List.setIfInBounds_toArray, List.set_cons_zero, List.set_cons_succ, i64_w, i32_w, IntKind.wrap_u32]
    rfl
   refine take_ (i := 10) (N := some 84) (v := ?_) (a' := ?_) #[true, true, true, true, true, true, true, true, true, true, true, true, false, true, true, true, true, false, true, false, true, true, true, true, true, false, false, false, false, false] rfl rfl (take_ofW HT_.out HW_.out (by kernel_rfl)) (fun _ _ _ h => h) (Or.inl ⟨by rfl, ?_⟩) hHeld ?_ ?_
   rotate_left
   ·
    intro w' s0
    go_simp
    with_reducible rfl
   rotate_left
   ·
    simp only [Act.put, List.setIfInBounds_toArray, List.set_cons_zero, List.set_cons_succ, i64_w, i32_w, IntKind.wrap_u32]
    rfl
   refine pure_ (i := 12) (N := some 86) (v := ?_) (a' := ?_) #[true, true, true, true, true, true, true, true, true, true, true, true, true, true, true, true, true, false, true, false, true, true, true, true, true, false, false, false, false, false] rfl rfl (any_of HT_.out (by kernel_rfl)) (fun _ _ _ h => h) (Or.inl ⟨by rfl, ?_⟩) ?_ ?_
   rotate_left
   ·
    intro w'
    go_simp
    with_reducible rfl
   rotate_left
   ·
    simp only [Act.put, List.setIfInBounds_toArray, List.set_cons_zero, List.set_cons_succ, i64_w, i32_w, IntKind.wrap_u32]
    rfl
   refine take_ (i := 17) (N := some 91) (v := ?_) (a' := ?_) #[true, true, true, true, true, true, true, true, true, true, true, true, true, true, true, true, true, true, true, false, true, true, true, true, true, false, false, false, false, false] rfl rfl (take_ofW HT_.out HW_.out (by kernel_rfl)) (fun _ _ _ h => h) (Or.inl ⟨by rfl, ?_⟩) hHeld ?_ ?_
   rotate_left
   ·
    intro w' s0
    go_simp
    with_reducible rfl
   rotate_left
   ·
    simp only [Act.put, List.setIfInBounds_toArray, List.set_cons_zero, List.set_cons_succ, i64_w, i32_w, IntKind.wrap_u32]
    rfl
   refine pure_ (i := 19) (N := some 93) (v := ?_) (a' := ?_) #[true, true, true, true, true, true, true, true, true, true, true, true, true, true, true, true, true, true, true, true, true, true, true, true, true, false, false, false, false, false] rfl rfl (any_of HT_.out (by kernel_rfl)) (fun _ _ _ h => h) (Or.inl ⟨by rfl, ?_⟩) ?_ ?_
   rotate_left
   ·
    intro w'
    go_simp
    with_reducible rfl
   rotate_left
   ·
    simp only [Act.put, List.setIfInBounds_toArray, List.set_cons_zero, List.set_cons_succ, i64_w, i32_w, IntKind.wrap_u32]
    rfl
   refine take_ (i := 25) (N := some 99) (v := ?_) (a' := ?_) #[true, true, true, true, true, true, true, true, true, true, true, true, true, true, true, true, true, true, true, true, true, true, true, true, true, true, false, false, false, false] rfl rfl (take_ofW HT_.out HW_.out (by kernel_rfl)) (fun _ _ _ h => h) (Or.inl ⟨by rfl, ?_⟩) hHeld ?_ ?_
   rotate_left
   ·
    intro w' s0
    go_simp
    with_reducible rfl
   rotate_left
   ·
    simp only [Act.put, List.setIfInBounds_toArray, List.set_cons_zero, List.set_cons_succ, i64_w, i32_w, IntKind.wrap_u32]
    rfl
   refine pure_ (i := 26) (N := some 100) (v := ?_) (a' := ?_) #[true, true, true, true, true, true, true, true, true, true, true, true, true, true, true, true, true, true, true, true, true, true, true, true, true, true, true, false, false, false] rfl rfl (any_of HT_.out (by kernel_rfl)) (fun _ _ _ h => h) (Or.inl ⟨by rfl, ?_⟩) ?_ ?_
   rotate_left
   ·
    intro w'
    go_simp
    with_reducible rfl
   rotate_left
   ·
    simp only [Act.put, List.setIfInBounds_toArray, List.set_cons_zero, List.set_cons_succ, i64_w, i32_w, IntKind.wrap_u32]
    rfl
   refine last_ (i := 27) (N := some 101) #[true, true, true, true, true, true, true, true, true, true, true, true, true, true, true, true, true, true, true, true, true, true, true, true, true, true, true, true, false, false] rfl rfl (one_of HT_.out (by kernel_rfl)) (by decide) (fun K hK => ?_)
   refine value_ (w1 := ?_) (v := ?_) (by rfl) rfl ?_ ?_
   rotate_left 2
   ·
    go_simp
    constructor
    ·
     rfl
    ·
     rfl
   refine hK.out _ _ ?_
   clear hK K
   refine norm_ (a' := ?_) ?_ ?_
   rotate_left
   ·
    show Act.put _ (some 101) _ = _
    simp only [Act.put, List.setIfInBounds_toArray, List.set_cons_zero, List.set_cons_succ, i64_w, i32_w, IntKind.wrap_u32]
    rfl
   refine last_ (i := 28) (N := some 102) #[true, true, true, true, true, true, true, true, true, true, true, true, true, true, true, true, true, true, true, true, true, true, true, true, true, true, true, true, true, false] rfl rfl (one_of HT_.out (by kernel_rfl)) (by decide) (fun K hK => ?_)
   refine Kd.R_append_rows_step (Kd.raw 4) (w0 := w) w.heap.size (by rfl) (.tmp 74) (.tmp 101) 100 105 (.agg #[.pointer none, .pointer none, .int .i64 0, .int .i64 0]) 32 rfl Try.underlying100 (by kernel_rfl) rfl (by decide) (by omega) v8 ((bp.one (some ⟨g, 7, none⟩) none x5 (wrap64 (x1 * x3)) :: bp.layers gl ol (wrap64 (x1 * x3)) (wrap64 (x2 * x3)) x4 k) ++ bp.layer gl (ol + k * 23) (wrap64 (x1 * x3)) (wrap64 (x2 * x3)) x4) (bp.layer2 gl (ol + k * 23) (wrap64 (x1 * x3)) (wrap64 (x2 * x3)) x4) _ _ _ (fun _ => True) (fun _ => False) rfl rfl ?aO ?aR (fun _ _ h => h) (fun _ h => h.elim) ?aF ?aB ?aS ?aL ?_
   case aO => exact Kd.R_alloc HV.out _
   case aR => exact lit_C (W := w10) (bp.layer2 gl (ol + k * 23) (wrap64 (x1 * x3)) (wrap64 (x2 * x3)) x4) rfl (all_ok (by intro r hr; simp only [bp.layer, bp.layer2, List.mem_cons, List.mem_nil_iff, or_false] at hr; rcases hr with rfl | rfl | rfl | rfl <;> exact ⟨_, _, _, _, rfl⟩)) (by decide)
   case aF => exact fun _ _ => trivial
   case aB => exact below_alloc HB.out _
   case aS => exact below_size (below_alloc HB.out _)
   case aL => simp only [List.length_append, List.length_cons, bp.layers_length, bp.layer, List.length_nil]; omega
   intro v9 w11 ho hb hg_ hat
   have BK2 := Aside0.mk (blk_grown (blk_below BK.out (below_alloc (Below.refl _ _) (.cells #[.pointer none, .pointer (some ⟨gl, ol + k * 23 + 13, none⟩), .int .i64 1, .int .i64 (wrap64 (x1 * x3)), .pointer (some ⟨gl, ol + k * 23 + 14, none⟩), .pointer none, .int .i64 x4, .int .i64 (wrap64 (x1 * x3)), .pointer (some ⟨gl, ol + k * 23 + 17, none⟩), .pointer none, .int .i64 x4, .int .i64 (wrap64 (x1 * x3)), .pointer (some ⟨gl, ol + k * 23 + 20, none⟩), .pointer none, .int .i64 (wrap64 (x1 * x3)), .int .i64 x4] 105))) hg_ (Kd.R_ne (Kd.R_alloc HV.out (.cells #[.pointer none, .pointer (some ⟨gl, ol + k * 23 + 13, none⟩), .int .i64 1, .int .i64 (wrap64 (x1 * x3)), .pointer (some ⟨gl, ol + k * 23 + 14, none⟩), .pointer none, .int .i64 x4, .int .i64 (wrap64 (x1 * x3)), .pointer (some ⟨gl, ol + k * 23 + 17, none⟩), .pointer none, .int .i64 x4, .int .i64 (wrap64 (x1 * x3)), .pointer (some ⟨gl, ol + k * 23 + 20, none⟩), .pointer none, .int .i64 (wrap64 (x1 * x3)), .int .i64 x4] 105)) (blk_below BK.out (below_alloc (Below.refl _ _) (.cells #[.pointer none, .pointer (some ⟨gl, ol + k * 23 + 13, none⟩), .int .i64 1, .int .i64 (wrap64 (x1 * x3)), .pointer (some ⟨gl, ol + k * 23 + 14, none⟩), .pointer none, .int .i64 x4, .int .i64 (wrap64 (x1 * x3)), .pointer (some ⟨gl, ol + k * 23 + 17, none⟩), .pointer none, .int .i64 x4, .int .i64 (wrap64 (x1 * x3)), .pointer (some ⟨gl, ol + k * 23 + 20, none⟩), .pointer none, .int .i64 (wrap64 (x1 * x3)), .int .i64 x4] 105))) (by decide)))
   have HG2 := Aside0.mk (blk_below HG.out hb)
   have HV2 := Aside0.mk ho
   have HB2 := Aside0.mk hb
   clear ho hb hg_ hat HV HG1 BK HB
   have HV := HV2
   have HG1 := HG2
   have BK := BK2
   have HB := HB2
   clear HV2 HG2 BK2 HB2
   refine hK.out _ _ ?_
   clear hK K
   refine norm_ (a' := ?_) ?_ ?_
   rotate_left
   ·
    show Act.put _ (some 102) _ = _
    simp only [Act.put, List.setIfInBounds_toArray, List.set_cons_zero, List.set_cons_succ, i64_w, i32_w, IntKind.wrap_u32]
    rfl
   refine pure_ (i := 29) (N := some 6) (v := ?_) (a' := ?_) #[true, true, true, true, true, true, true, true, true, true, true, true, true, true, true, true, true, true, true, true, true, true, true, true, true, true, true, true, true, true] rfl rfl (any_of HT_.out (by kernel_rfl)) (fun _ _ _ h => h) (Or.inl ⟨by rfl, ?_⟩) ?_ ?_
   rotate_left
   ·
    intro w'
    go_simp
    with_reducible rfl
   rotate_left
   ·
    simp only [Act.put, List.setIfInBounds_toArray, List.set_cons_zero, List.set_cons_succ, i64_w, i32_w, IntKind.wrap_u32]
    rfl
   refine done_ (done_of HT_.out (by kernel_rfl)) ?_
   try go_wp2
   exact ⟨⟨k + 1, by omega, by simp, ⟨by have h_ := HV.out; simpa only [bp.layers, List.append_assoc, List.cons_append] using h_⟩, HG1, BK, HB⟩, by simp only [intOf]; omega⟩
  ·
   have d1 : decide ((k : Int) < (n : Int)) = false := decide_eq_false (by omega)
   have d2 : decide (k < n) = false := decide_eq_false c1
   obtain rfl : k = n := by omega
   go_upto_region 11 with (fail)
   replace hz2 := True.intro
   replace HV := Aside0.mk (Kd.R_drew HV.out)
   replace HG1 := Aside0.mk (blk_drew HG1.out)
   replace BK := Aside0.mk (blk_drew BK.out)
   replace HB := Aside0.mk (below_drew1 HB.out)
   refine start_ (n := 16) (S := fun w' => w'.cell? ⟨gb, 5, none⟩ = some (.int .i64 x5)) (ds := [13, 14]) #[false, false, false, false, false, false, false, false, false, false, false, false, false, false, false, false] (by kernel_rfl) rfl rfl ((blk_cell BK.out 5).trans rfl) (fun hHeld => ?_); refine with_tabW bp.tab11 bp.bits11 (fun HT_ HW_ => ?_)
   generalize wr.drew = w12 at HV HG1 BK HB hHeld ⊢
   refine pure_ (i := 0) (N := some 104) (v := ?_) (a' := ?_) #[true, false, false, false, false, false, false, false, false, false, false, false, false, false, false, false] rfl rfl (any_of HT_.out (by kernel_rfl)) (fun _ _ _ h => h) (Or.inl ⟨by rfl, ?_⟩) ?_ ?_
   rotate_left
   ·
    intro w'
    go_simp
    with_reducible rfl
   rotate_left
   ·
    simp only [Act.put, List.setIfInBounds_toArray, List.set_cons_zero, List.set_cons_succ, i64_w, i32_w, IntKind.wrap_u32]
    rfl
   refine pure_ (i := 1) (N := some 105) (v := ?_) (a' := ?_) #[true, true, false, false, false, false, false, false, false, false, false, false, false, false, false, false] rfl rfl (any_of HT_.out (by kernel_rfl)) (fun _ _ _ h => h) (Or.inl ⟨by rfl, ?_⟩) ?_ ?_
   rotate_left
   ·
    intro w'
    go_simp
    with_reducible rfl
   rotate_left
   ·
    simp only [Act.put, List.setIfInBounds_toArray, List.set_cons_zero, List.set_cons_succ, i64_w, i32_w, IntKind.wrap_u32]
    rfl
   refine pure_ (i := 2) (N := some 106) (v := ?_) (a' := ?_) #[true, true, true, false, false, false, false, false, false, false, false, false, false, false, false, false] rfl rfl (any_of HT_.out (by kernel_rfl)) (fun _ _ _ h => h) (Or.inl ⟨by rfl, ?_⟩) ?_ ?_
   rotate_left
   ·
    intro w'
    go_simp
    with_reducible rfl
   rotate_left
   ·
    simp only [Act.put, List.setIfInBounds_toArray, List.set_cons_zero, List.set_cons_succ, i64_w, i32_w, IntKind.wrap_u32]
    rfl
   refine pure_ (i := 3) (N := some 107) (v := ?_) (a' := ?_) #[true, true, true, true, false, false, false, false, false, false, false, false, false, false, false, false] rfl rfl (any_of HT_.out (by kernel_rfl)) (fun _ _ _ h => h) (Or.inl ⟨by rfl, ?_⟩) ?_ ?_
   rotate_left
   ·
    intro w'
    go_simp
    with_reducible rfl
   rotate_left
   ·
    simp only [Act.put, List.setIfInBounds_toArray, List.set_cons_zero, List.set_cons_succ, i64_w, i32_w, IntKind.wrap_u32]
    rfl
   refine pure_ (i := 4) (N := some 108) (v := ?_) (a' := ?_) #[true, true, true, true, true, false, false, false, false, false, false, false, false, false, false, false] rfl rfl (any_of HT_.out (by kernel_rfl)) (fun _ _ _ h => h) (Or.inl ⟨by rfl, ?_⟩) ?_ ?_
   rotate_left
   ·
    intro w'
    go_simp
    with_reducible rfl
   rotate_left
   ·
    simp only [Act.put, List.setIfInBounds_toArray, List.set_cons_zero, List.set_cons_succ, i64_w, i32_w, IntKind.wrap_u32]
    rfl
   refine pure_ (i := 5) (N := some 109) (v := ?_) (a' := ?_) #[true, true, true, true, true, true, false, false, false, false, false, false, false, false, false, false] rfl rfl (any_of HT_.out (by kernel_rfl)) (fun _ _ _ h => h) (Or.inl ⟨by rfl, ?_⟩) ?_ ?_
   rotate_left
   ·
    intro w'
    go_simp
    with_reducible rfl
   rotate_left
   ·
    simp only [Act.put, List.setIfInBounds_toArray, List.set_cons_zero, List.set_cons_succ, i64_w, i32_w, IntKind.wrap_u32]
    rfl
   refine pure_ (i := 6) (N := some 110) (v := ?_) (a' := ?_) #[true, true, true, true, true, true, true, false, false, false, false, false, false, false, false, false] rfl rfl (any_of HT_.out (by kernel_rfl)) (fun _ _ _ h => h) (Or.inl ⟨by rfl, ?_⟩) ?_ ?_
   rotate_left
   ·
    intro w'
    go_simp
    with_reducible rfl
   rotate_left
   ·
    simp only [Act.put, List.setIfInBounds_toArray, List.set_cons_zero, List.set_cons_succ, i64_w, i32_w, IntKind.wrap_u32]
    rfl
   refine pure_ (i := 7) (N := some 111) (v := ?_) (a' := ?_) #[true, true, true, true, true, true, true, true, false, false, false, false, false, false, false, false] rfl rfl (any_of HT_.out (by kernel_rfl)) (fun _ _ _ h => h) (Or.inl ⟨by rfl, ?_⟩) ?_ ?_
   rotate_left
   ·
    intro w'
    go_simp
    with_reducible rfl
   rotate_left
   ·
    simp only [Act.put, List.setIfInBounds_toArray, List.set_cons_zero, List.set_cons_succ, i64_w, i32_w, IntKind.wrap_u32]
    rfl
   refine pure_ (i := 8) (N := some 112) (v := ?_) (a' := ?_) #[true, true, true, true, true, true, true, true, true, false, false, false, false, false, false, false] rfl rfl (any_of HT_.out (by kernel_rfl)) (fun _ _ _ h => h) (Or.inl ⟨by rfl, ?_⟩) ?_ ?_
   rotate_left
   ·
    intro w'
    go_simp
    with_reducible rfl
   rotate_left
   ·
    simp only [Act.put, List.setIfInBounds_toArray, List.set_cons_zero, List.set_cons_succ, i64_w, i32_w, IntKind.wrap_u32]
    rfl
   refine pure_ (i := 9) (N := some 113) (v := ?_) (a' := ?_) #[true, true, true, true, true, true, true, true, true, true, false, false, false, false, false, false] rfl rfl (any_of HT_.out (by kernel_rfl)) (fun _ _ _ h => h) (Or.inl ⟨by rfl, ?_⟩) ?_ ?_
   rotate_left
   ·
    intro w'
    go_simp
    with_reducible rfl
   rotate_left
   ·
    simp only [Act.put, List.setIfInBounds_toArray, List.set_cons_zero, List.set_cons_succ, i64_w, i32_w, IntKind.wrap_u32]
    rfl
   refine pure_ (i := 11) (N := some 115) (v := ?_) (a' := ?_) #[true, true, true, true, true, true, true, true, true, true, false, true, false, false, false, false] rfl rfl (any_of HT_.out (by kernel_rfl)) (fun _ _ _ h => h) (Or.inl ⟨by rfl, ?_⟩) ?_ ?_
   rotate_left
   ·
    intro w'
    go_simp
    with_reducible rfl
   rotate_left
   ·
    simp only [Act.put, List.setIfInBounds_toArray, List.set_cons_zero, List.set_cons_succ, i64_w, i32_w, IntKind.wrap_u32]
    rfl
   refine take_ (i := 10) (N := some 114) (v := ?_) (a' := ?_) #[true, true, true, true, true, true, true, true, true, true, true, true, false, false, false, false] rfl rfl (take_ofW HT_.out HW_.out (by kernel_rfl)) (fun _ _ _ h => h) (Or.inl ⟨by rfl, ?_⟩) hHeld ?_ ?_
   rotate_left
   ·
    intro w' s0
    go_simp
    with_reducible rfl
   rotate_left
   ·
    simp only [Act.put, List.setIfInBounds_toArray, List.set_cons_zero, List.set_cons_succ, i64_w, i32_w, IntKind.wrap_u32]
    rfl
   refine pure_ (i := 12) (N := some 116) (v := ?_) (a' := ?_) #[true, true, true, true, true, true, true, true, true, true, true, true, true, false, false, false] rfl rfl (any_of HT_.out (by kernel_rfl)) (fun _ _ _ h => h) (Or.inl ⟨by rfl, ?_⟩) ?_ ?_
   rotate_left
   ·
    intro w'
    go_simp
    with_reducible rfl
   rotate_left
   ·
    simp only [Act.put, List.setIfInBounds_toArray, List.set_cons_zero, List.set_cons_succ, i64_w, i32_w, IntKind.wrap_u32]
    rfl
   refine last_ (i := 13) (N := some 117) #[true, true, true, true, true, true, true, true, true, true, true, true, true, true, false, false] rfl rfl (one_of HT_.out (by kernel_rfl)) (by decide) (fun K hK => ?_)
   refine value_ (w1 := ?_) (v := ?_) (by rfl) rfl ?_ ?_
   rotate_left 2
   ·
    go_simp
    constructor
    ·
     rfl
    ·
     rfl
   refine hK.out _ _ ?_
   clear hK K
   refine norm_ (a' := ?_) ?_ ?_
   rotate_left
   ·
    show Act.put _ (some 117) _ = _
    simp only [Act.put, List.setIfInBounds_toArray, List.set_cons_zero, List.set_cons_succ, i64_w, i32_w, IntKind.wrap_u32]
    rfl
   refine last_ (i := 14) (N := some 118) #[true, true, true, true, true, true, true, true, true, true, true, true, true, true, true, false] rfl rfl (one_of HT_.out (by kernel_rfl)) (by decide) (fun K hK => ?_)
   refine Kd.R_append_rows_step (Kd.raw 4) (w0 := w) w.heap.size (by rfl) (.tmp 104) (.tmp 117) 100 105 (.agg #[.pointer none, .pointer none, .int .i64 0, .int .i64 0]) 32 rfl Try.underlying100 (by kernel_rfl) rfl (by decide) (by omega) u6 (bp.one (some ⟨g, 7, none⟩) none x5 (wrap64 (x1 * x3)) :: bp.layers gl ol (wrap64 (x1 * x3)) (wrap64 (x2 * x3)) x4 k) ([bp.one none (some ⟨g, 11, none⟩) 1 (wrap64 (x1 * x3)), bp.one (some ⟨g, 12, none⟩) none x5 (wrap64 (x1 * x3))]) _ _ _ (fun _ => True) (fun _ => False) rfl rfl ?aO ?aR (fun _ _ h => h) (fun _ h => h.elim) ?aF ?aB ?aS ?aL ?_
   case aO => exact Kd.R_alloc HV.out _
   case aR => exact lit_C (W := w12) ([bp.one none (some ⟨g, 11, none⟩) 1 (wrap64 (x1 * x3)), bp.one (some ⟨g, 12, none⟩) none x5 (wrap64 (x1 * x3))]) rfl (all_ok (by intro r hr; simp only [bp.layer, bp.layer2, List.mem_cons, List.mem_nil_iff, or_false] at hr; rcases hr with rfl | rfl <;> exact ⟨_, _, _, _, rfl⟩)) (by decide)
   case aF => exact fun _ _ => trivial
   case aB => exact below_alloc HB.out _
   case aS => exact below_size (below_alloc HB.out _)
   case aL => simp only [List.length_cons, bp.layers_length]; omega
   intro v10 w13 ho hb hg_ hat
   have BK2 := Aside0.mk (blk_grown (blk_below BK.out (below_alloc (Below.refl _ _) (.cells #[.pointer none, .pointer (some ⟨g, 11, none⟩), .int .i64 1, .int .i64 (wrap64 (x1 * x3)), .pointer (some ⟨g, 12, none⟩), .pointer none, .int .i64 x5, .int .i64 (wrap64 (x1 * x3))] 105))) hg_ (Kd.R_ne (Kd.R_alloc HV.out (.cells #[.pointer none, .pointer (some ⟨g, 11, none⟩), .int .i64 1, .int .i64 (wrap64 (x1 * x3)), .pointer (some ⟨g, 12, none⟩), .pointer none, .int .i64 x5, .int .i64 (wrap64 (x1 * x3))] 105)) (blk_below BK.out (below_alloc (Below.refl _ _) (.cells #[.pointer none, .pointer (some ⟨g, 11, none⟩), .int .i64 1, .int .i64 (wrap64 (x1 * x3)), .pointer (some ⟨g, 12, none⟩), .pointer none, .int .i64 x5, .int .i64 (wrap64 (x1 * x3))] 105))) (by decide)))
   have HG2 := Aside0.mk (blk_below HG.out hb)
   have HV2 := Aside0.mk ho
   have HB2 := Aside0.mk hb
   clear ho hb hg_ hat HV HG1 BK HB
   have HV := HV2
   have HG1 := HG2
   have BK := BK2
   have HB := HB2
   clear HV2 HG2 BK2 HB2
   refine hK.out _ _ ?_
   clear hK K
   refine norm_ (a' := ?_) ?_ ?_
   rotate_left
   ·
    show Act.put _ (some 118) _ = _
    simp only [Act.put, List.setIfInBounds_toArray, List.set_cons_zero, List.set_cons_succ, i64_w, i32_w, IntKind.wrap_u32]
    rfl
   refine pure_ (i := 15) (N := some 2) (v := ?_) (a' := ?_) #[true, true, true, true, true, true, true, true, true, true, true, true, true, true, true, true] rfl rfl (any_of HT_.out (by kernel_rfl)) (fun _ _ _ h => h) (Or.inl ⟨by rfl, ?_⟩) ?_ ?_
   rotate_left
   ·
    intro w'
    go_simp
    with_reducible rfl
   rotate_left
   ·
    simp only [Act.put, List.setIfInBounds_toArray, List.set_cons_zero, List.set_cons_succ, i64_w, i32_w, IntKind.wrap_u32]
    rfl
   refine done_ (done_of HT_.out (by kernel_rfl)) ?_
   try go_wp2
   go_ret
   exact ⟨_, rfl, HV.out, HB.out⟩
theorem nb.made (n : Nat) (hn : n ≤ 1000) : ∃ o : Obj, ∀ W : World, (Instr.makeSlice 65 (.int .i64 (n : Int)) (.int .i64 (n : Int))).run Try.prog W = .ok (.slice (some ⟨W.heap.size, 0, none⟩) n n) (W.alloc o) := by
 obtain ⟨i0, hi⟩ : ∃ i, Try.prog.info? 120 = some i := Option.isSome_iff_exists.mp (by kernel_rfl)
 have hb : (Try.prog.info? 120).map (fun i => decide (i.bytes ≤ 1000)) = some true := by kernel_rfl
 have hz : ((Try.prog.info? 120).bind (fun i => i.zero)).isSome = true := by kernel_rfl
 rw [hi] at hb hz
 obtain ⟨z, hz⟩ := Option.isSome_iff_exists.mp hz
 have hb2 : i0.bytes ≤ 1000 := of_decide_eq_true (Option.some.inj hb)
 refine ⟨.cells (madeCells z.cells (n * i0.size)) 120, fun W => ?_⟩
 have hr := run_make (P := Try.prog) W 65 120 i0 z Try.underlying65 hi hz .i64 .i64 (n : Int) (n : Int) (by omega) (Int.le_refl _) (by
  have h3 : i0.bytes * n ≤ 1000 * 1000 := Nat.mul_le_mul hb2 hn
  have h4 : ((i0.bytes * n : Nat) : Int) ≤ 281474976710656 := by omega
  rwa [Int.natCast_mul] at h4) (by omega)
 simp only [Int.toNat_natCast] at hr
 exact hr
def nb.sum (n : Int) : List (List Value) → Int
 | [] => n
 | c :: l => nb.sum (wrap64 (n + wrap64 (intOf (c.getD 2 undef) * intOf (c.getD 3 undef)))) l
theorem bx4 {w : World} {g : Nat} {t : TypeId} {a0 a1 a2 a3 : Value} (h : w.heap[g]? = some (.cells #[a0, a1, a2, a3] t (0, 0))) : w.cell? ⟨g, 0, none⟩ = some a0 ∧ w.cell? ⟨g, 1, none⟩ = some a1 ∧ w.cell? ⟨g, 2, none⟩ = some a2 ∧ w.cell? ⟨g, 3, none⟩ = some a3 ∧ (∀ i, w.frozen? ⟨g, i, none⟩ = false) := ⟨(blk_cell h 0).trans rfl, (blk_cell h 1).trans rfl, (blk_cell h 2).trans rfl, (blk_cell h 3).trans rfl, blk_frozen h⟩
theorem bp.layers_one (g o : Nat) (w kv q : Int) : ∀ n, ∀ c ∈ bp.layers g o w kv q n, ∃ t u a b, c = bp.one t u a b
 | 0, c, hc => by simp [bp.layers] at hc
 | n + 1, c, hc => by
  rcases List.mem_append.mp hc with h | h
  ·
   exact bp.layers_one g o w kv q n c h
  ·
   simp only [bp.layer, bp.layer2, List.mem_append, List.mem_cons, List.mem_nil_iff, or_false] at h
   rcases h with (rfl | rfl | rfl | rfl | rfl) | (rfl | rfl | rfl | rfl) <;> exact ⟨_, _, _, _, rfl⟩
theorem bp.all_one (g gl ol n : Nat) (v w kv q : Int) : ∀ c ∈ bp.all g gl ol n v w kv q, ∃ t u a b, c = bp.one t u a b := by
 intro c hc
 rcases List.mem_append.mp hc with h | h
 ·
  rcases List.mem_cons.mp h with rfl | h
  ·
   exact ⟨_, _, _, _, rfl⟩
  ·
   exact bp.layers_one _ _ _ _ _ n c h
 ·
  simp only [List.mem_cons, List.mem_nil_iff, or_false] at h
  rcases h with rfl | rfl <;> exact ⟨_, _, _, _, rfl⟩
theorem bp.all_length (g gl ol n : Nat) (v w kv q : Int) : (bp.all g gl ol n v w kv q).length = 9 * n + 3 := by
 simp only [bp.all, List.length_append, List.length_cons, List.length_nil, bp.layers_length]
theorem nb.sum_app (l2 : List (List Value)) : ∀ (l1 : List (List Value)) (y : Int), nb.sum y (l1 ++ l2) = nb.sum (nb.sum y l1) l2
 | [], _ => rfl
 | _ :: l1, _ => nb.sum_app l2 l1 _
theorem nb.layers_sum (g o g' o' : Nat) (w kv q : Int) : ∀ (n : Nat) (y : Int), nb.sum y (bp.layers g o w kv q n) = nb.sum y (bp.layers g' o' w kv q n)
 | 0, _ => rfl
 | n + 1, y => by
  simp only [bp.layers, nb.sum_app, nb.layers_sum g o g' o' w kv q n y]
  rfl
theorem nb.all_sum (y : Int) (g gl ol g' gl' ol' n : Nat) (v w kv q : Int) : nb.sum y (bp.all g gl ol n v w kv q) = nb.sum y (bp.all g' gl' ol' n v w kv q) := by
 simp only [bp.all, nb.sum_app, nb.sum, nb.layers_sum gl ol gl' ol' w kv q n]
 rfl
def blob_Config_Numbers.f (x0 x1 x2 x3 x4 x5 : Int) : Option Int :=
 (blob_Config_Right.f x0 x1 x2 x3 x4 x5).bind fun r => if r = true then (if 0 ≤ x0 then (if x0 ≤ 1000 then some (nb.sum x3 (bp.all 0 0 0 x0.toNat x5 (wrap64 (x1 * x3)) (wrap64 (x2 * x3)) x4)) else none) else none) else some 0
set_option maxHeartbeats 8000000 in
set_option maxRecDepth 100000 in
theorem blob_Config_Numbers.calls (x0 x1 x2 x3 x4 x5 r : Int) (w : World) (h : blob_Config_Numbers.f x0 x1 x2 x3 x4 x5 = some r) :
  Calls Try.prog 25 #[.agg #[.int .i64 x0, .int .i64 x1, .int .i64 x2, .int .i64 x3, .int .i64 x4, .int .i64 x5]] w fun e w' => e = .returned (.int .i64 r) ∧ Below w.heap.size w w' := by
 have hu54 := Try.underlying54
 have hu67 := Try.underlying67
 have hu105 := Try.underlying105
 have hu120 := Try.underlying120
 have hu65 := Try.underlying65
 unfold blob_Config_Numbers.f at h
 obtain ⟨q, hq, h⟩ := Option.bind_eq_some_iff.mp h
 have HQ := Aside0.mk hq
 have HB := Aside0.mk (Below.refl w.heap.size w)
 clear hq
 cases q with
 | false =>
  obtain rfl := Option.some.inj (show some 0 = some r from h)
  clear h
  go_enter Try.func25, Try.ntmps25
  go_wp2_with (first | ((with_reducible refine gate_dst (N := 1) rfl ?_); refine box_event ?hg (N := 1) ?hd (cs := #[.int .i64 x0, .int .i64 x1, .int .i64 x2, .int .i64 x3, .int .i64 x4, .int .i64 x5]) (t := 54) ?hr ?_; (case hd => rfl); (case hg => rfl); (case hr => first | (go_simp; done) | (go_simp; rfl)); intro gb hg w1 hbox hb; have hz1 := bx6 hbox; replace HB := Aside0.mk hb; clear hbox hb hg) | (go_at_call 24; (with_reducible refine (blob_Config_Right.calls x0 x1 x2 x3 x4 x5 _ _ HQ.out).mono ?_); rintro e w2 ⟨rfl, hb⟩; replace HB := Aside0.mk (below_step HB.out hb); clear hb))
  go_ret
  exact ⟨rfl, HB.out⟩
 | true =>
  have h0 : 0 ≤ x0 := by
   rcases Int.lt_or_le x0 0 with c | c
   ·
    rw [if_pos rfl, if_neg (by omega)] at h; cases h
   ·
    exact c
  have h1 : x0 ≤ 1000 := by
   rcases Int.lt_or_le 1000 x0 with c | c
   ·
    rw [if_pos rfl, if_pos h0, if_neg (by omega)] at h; cases h
   ·
    exact c
  rw [if_pos rfl, if_pos h0, if_pos h1] at h
  obtain ⟨n, rfl⟩ : ∃ n : Nat, x0 = (n : Int) := ⟨x0.toNat, by omega⟩
  rw [Int.toNat_natCast] at h
  have HR := Aside0.mk (Option.some.inj h)
  have HN := Aside0.mk (show n ≤ 1000 by omega)
  clear h h0 h1
  go_enter Try.func25, Try.ntmps25
  go_upto_region 3 with (first | ((with_reducible refine gate_dst (N := 1) rfl ?_); refine box_event ?hg (N := 1) ?hd (cs := #[.int .i64 (n : Int), .int .i64 x1, .int .i64 x2, .int .i64 x3, .int .i64 x4, .int .i64 x5]) (t := 54) ?hr ?_; (case hd => rfl); (case hg => rfl); (case hr => first | (go_simp; done) | (go_simp; rfl)); intro gb hg w1 hbox hb; have hz1 := bx6 hbox; have BK := Aside0.mk hbox; replace HB := Aside0.mk hb; have HW := Aside0.mk (show w.heap.size ≤ gb from by rw [hg]; exact Nat.le_refl _); clear hbox hb hg) | (go_at_call 24; (with_reducible refine (blob_Config_Right.calls (n : Int) x1 x2 x3 x4 x5 _ _ HQ.out).mono ?_); rintro e w2 ⟨rfl, hb⟩; replace HB := Aside0.mk (below_step HB.out hb); replace BK := Aside0.mk (blk_below BK.out hb); clear hb hz1))
  have hz2 := bx6 BK.out
  have hlt : gb < w2.heap.size := blk_lt BK.out
  have hal : ∀ o i, (w2.alloc o).cell? ⟨gb, i, none⟩ = w2.cell? ⟨gb, i, none⟩ := fun o i => (below_alloc (Below.refl w2.heap.size w2) o).cell hlt
  have hald : ∀ o i, (w2.alloc o).drew.cell? ⟨gb, i, none⟩ = w2.cell? ⟨gb, i, none⟩ := fun o i => (below_alloc (Below.refl w2.heap.size w2) o).cell hlt
  obtain ⟨om, hom⟩ := nb.made n HN.out
  go_region
  ·
   have HG := Aside0.mk (show (((w2.alloc om).alloc (.cells #[.int .i64 (n : Int), .int .i64 x1, .int .i64 x2, .int .i64 x3, .int .i64 x4, .int .i64 x5, .slice none 0 0, .int .i64 0, .int .i64 0, .slice none 0 0, .slice (some ⟨w2.heap.size, 0, none⟩) n n, .slice none 0 0, .int .i64 0, .int .i64 0, .slice none 0 0] 67)).drew).heap[w2.heap.size + 1]? = some (.cells #[.int .i64 (n : Int), .int .i64 x1, .int .i64 x2, .int .i64 x3, .int .i64 x4, .int .i64 x5, .slice none 0 0, .int .i64 0, .int .i64 0, .slice none 0 0, .slice (some ⟨w2.heap.size, 0, none⟩) n n, .slice none 0 0, .int .i64 0, .int .i64 0, .slice none 0 0] 67 (0, 0)) from blk_drew (by first | exact blk_below (blk_new w2 _) (below_alloc (Below.refl _ _) _) | (have h_ := blk_new (w2.alloc om) (.cells #[.int .i64 (n : Int), .int .i64 x1, .int .i64 x2, .int .i64 x3, .int .i64 x4, .int .i64 x5, .slice none 0 0, .int .i64 0, .int .i64 0, .slice none 0 0, .slice (some ⟨w2.heap.size, 0, none⟩) n n, .slice none 0 0, .int .i64 0, .int .i64 0, .slice none 0 0] 67); rw [show (w2.alloc om).heap.size = w2.heap.size + 1 from by simp] at h_; exact h_)))
   have hbel : Below w2.heap.size w2 (((w2.alloc om).alloc (.cells #[.int .i64 (n : Int), .int .i64 x1, .int .i64 x2, .int .i64 x3, .int .i64 x4, .int .i64 x5, .slice none 0 0, .int .i64 0, .int .i64 0, .slice none 0 0, .slice (some ⟨w2.heap.size, 0, none⟩) n n, .slice none 0 0, .int .i64 0, .int .i64 0, .slice none 0 0] 67)).drew) := below_drew1 (below_alloc (below_alloc (Below.refl w2.heap.size w2) _) _)
   have BK2 := Aside0.mk (blk_below BK.out hbel)
   have HB2 := Aside0.mk (below_step HB.out hbel)
   clear hbel hal hald hom hz2 hlt BK HB
   generalize ((w2.alloc om).alloc (.cells #[.int .i64 (n : Int), .int .i64 x1, .int .i64 x2, .int .i64 x3, .int .i64 x4, .int .i64 x5, .slice none 0 0, .int .i64 0, .int .i64 0, .slice none 0 0, .slice (some ⟨w2.heap.size, 0, none⟩) n n, .slice none 0 0, .int .i64 0, .int .i64 0, .slice none 0 0] 67)).drew = w3 at HG BK2 HB2 ⊢
   generalize w2.heap.size + 1 = gB at HG ⊢
   generalize w2.heap.size = gl at HG ⊢
   have hz3 := bx6 BK2.out
   go_wp2_with (first | (go_at_call 57; (with_reducible refine (bp.calls gB gl 0 n n _ (n : Int) x1 x2 x3 x4 x5 _ _ _ _ _ _ _ _ _ HG.out (fun _ => rfl) (Nat.le_trans HN.out (by decide))).mono ?_); rintro e w4 ⟨v, rfl, hv, hb⟩; have HV := Aside0.mk hv; have HB3 := Aside0.mk (below_step HB2.out hb); have HB4 := Aside0.mk (below_size HB2.out); clear hv hb HB2 BK2 HG hz3; obtain ⟨A, c, rfl⟩ := Kd.R_slice HV.out))
   obtain ⟨rows, hrows⟩ : ∃ l, bp.all gB gl 0 n x5 (wrap64 (x1 * x3)) (wrap64 (x2 * x3)) x4 = l := ⟨_, rfl⟩
   have hone := bp.all_one gB gl 0 n x5 (wrap64 (x1 * x3)) (wrap64 (x2 * x3)) x4
   have hlen := bp.all_length gB gl 0 n x5 (wrap64 (x1 * x3)) (wrap64 (x2 * x3)) x4
   have hsum := nb.all_sum x3 gB gl 0 0 0 0 n x5 (wrap64 (x1 * x3)) (wrap64 (x2 * x3)) x4
   rw [hrows] at hone hlen hsum HV ⊢
   have HS := Aside0.mk (hsum.trans HR.out)
   have HO := Aside0.mk hone
   have HL : Aside0 (rows.length ≤ 100000) := ⟨by have := HN.out; omega⟩
   clear hone hlen hsum hrows HR
   generalize hL : rows.length = L at HL HV ⊢
   have hL1 := HL.out
   have HLL := Aside0.mk hL
   clear hL
   go_loopw [4, 19] (fun m i W' => ∃ (k : Nat) (y : Int), k ≤ L ∧ i = .int .i64 k ∧ m = .int .i64 y ∧ Aside0 (nb.sum y (rows.drop k) = r) ∧ Aside0 ((Kd.raw 4).R 105 W' w3.heap.size (fun _ => True) (.slice A L c) rows) ∧ Aside0 (Below w.heap.size w W')) (fun _ i _ => L - (intOf i).toNat)
   case atStart => exact ⟨0, x3, Nat.zero_le _, rfl, rfl, HS, HV, HB3⟩
   case round =>
    clear HS HV HB3
    obtain ⟨k, y, hk, rfl, rfl, HS, HV, HB3⟩ := hrel
    by_cases c1 : k < L
    ·
     have d1 : decide ((k : Int) < (L : Int)) = true := decide_eq_true (by omega)
     have d2 : decide (k < L) = true := decide_eq_true c1
     obtain ⟨gv, cap, he, -, -, -⟩ := Kd.R_form HV.out (by have := HLL.out; omega)
     injection he with e1 e2 e3
     subst e1
     clear e2 e3
     obtain ⟨cs, hcl, ⟨hcs, -, -⟩, hcc⟩ := Kd.R_getA HV.out [] (k : Int) (by omega) (by omega)
     have hkl : k < rows.length := by have := HLL.out; omega
     obtain ⟨pt, pl, pr, pc, hpe⟩ := HO.out _ (List.getElem_mem hkl)
     have hgd : rows.getD ((k : Int).toNat) [] = bp.one pt pl pr pc := by rw [List.getD_eq_getElem?_getD, Int.toNat_natCast, List.getElem?_eq_getElem hkl]; exact hpe
     rw [hgd] at hcs
     subst hcs
     have hx0 := hcc 0 _ rfl
     have hx1 := hcc 1 _ rfl
     have hx2 := hcc 2 _ rfl
     have hx3 := hcc 3 _ rfl
     rw [add_plain] at hx0 hx1 hx2 hx3
     simp only [Int.toNat_natCast, Kd.raw, Nat.add_zero] at hx0 hx1 hx2 hx3
     have HS1 := Aside0.mk (show nb.sum (wrap64 (y + wrap64 (pr * pc))) (rows.drop (k + 1)) = r from by have h_ := HS.out; rw [List.drop_eq_getElem_cons hkl, hpe] at h_; exact h_)
     clear hcc hkl hpe hgd hcl HS
     go_upto_region 8 with (first | ((with_reducible refine gate_dst (N := 6) rfl ?_); refine box_event ?hg (N := 6) ?hd (cs := #[.pointer none, .pointer none, .int .i64 0, .int .i64 0]) (t := 105) ?hr ?_; (case hd => rfl); (case hg => rfl); (case hr => first | (go_simp; done) | (go_simp; rfl)); intro gx hg w5 hbox hb; have hz4 := bx4 hbox; have HBX := Aside0.mk hbox; have HBB := Aside0.mk hb; have HBG := Aside0.mk hg; clear hbox hb hg))
     have hb4 : _ = some (Obj.cells #[.pointer pt, .pointer pl, .int .i64 pr, .int .i64 pc] 105 (0, 0)) := blk_put (blk_put (blk_put (blk_put HBX.out 0 (.pointer pt) rfl) 1 (.pointer pl) rfl) 2 (.int .i64 pr) rfl) 3 (.int .i64 pc) rfl
     have hB4 := (((HBB.out.setCell (p := ⟨gx, 0, none⟩) (by rw [HBG.out]; exact Nat.le_refl _) (.pointer pt)).setCell (p := ⟨gx, 1, none⟩) (by rw [HBG.out]; exact Nat.le_refl _) (.pointer pl)).setCell (p := ⟨gx, 2, none⟩) (by rw [HBG.out]; exact Nat.le_refl _) (.int .i64 pr)).setCell (p := ⟨gx, 3, none⟩) (by rw [HBG.out]; exact Nat.le_refl _) (.int .i64 pc)
     have HV1 := Aside0.mk (Kd.R_below HV.out hB4)
     have HB5 := Aside0.mk (below_step HB3.out hB4)
     clear HBX HBB HBG hB4 hz4 hx0 hx1 hx2 hx3 HV HB3
     generalize (((w5.setCell ⟨gx, 0, none⟩ (Value.pointer pt)).setCell ⟨gx, 1, none⟩ (Value.pointer pl)).setCell ⟨gx, 2, none⟩ (Value.int IntKind.i64 pr)).setCell ⟨gx, 3, none⟩ (Value.int IntKind.i64 pc) = w6 at hb4 HV1 HB5 ⊢
     have hz5 := bx4 hb4
     clear hb4
     go_wp2
     exact ⟨⟨k + 1, _, by omega, by simp, rfl, HS1, HV1, HB5⟩, by simp only [intOf]; omega⟩
    ·
     have d1 : decide ((k : Int) < (L : Int)) = false := decide_eq_false (by omega)
     have d2 : decide (k < L) = false := decide_eq_false c1
     have hkr : nb.sum y [] = r := by have h_ := HS.out; rw [List.drop_eq_nil_of_le (by have := HLL.out; omega)] at h_; exact h_
     obtain rfl := (show y = r from hkr)
     clear hkr
     go_wp2
     go_ret
     exact ⟨rfl, HB3.out⟩
  ·
   have HG := Aside0.mk (show (((w2.alloc (.cells #[.int .i64 (n : Int), .int .i64 x1, .int .i64 x2, .int .i64 x3, .int .i64 x4, .int .i64 x5, .slice none 0 0, .int .i64 0, .int .i64 0, .slice none 0 0, .slice (some ⟨(w2.heap.size + 1), 0, none⟩) n n, .slice none 0 0, .int .i64 0, .int .i64 0, .slice none 0 0] 67)).alloc om).drew).heap[w2.heap.size]? = some (.cells #[.int .i64 (n : Int), .int .i64 x1, .int .i64 x2, .int .i64 x3, .int .i64 x4, .int .i64 x5, .slice none 0 0, .int .i64 0, .int .i64 0, .slice none 0 0, .slice (some ⟨w2.heap.size + 1, 0, none⟩) n n, .slice none 0 0, .int .i64 0, .int .i64 0, .slice none 0 0] 67 (0, 0)) from blk_drew (by first | exact blk_below (blk_new w2 _) (below_alloc (Below.refl _ _) _) | (have h_ := blk_new (w2.alloc om) (.cells #[.int .i64 (n : Int), .int .i64 x1, .int .i64 x2, .int .i64 x3, .int .i64 x4, .int .i64 x5, .slice none 0 0, .int .i64 0, .int .i64 0, .slice none 0 0, .slice (some ⟨w2.heap.size + 1, 0, none⟩) n n, .slice none 0 0, .int .i64 0, .int .i64 0, .slice none 0 0] 67); rw [show (w2.alloc om).heap.size = w2.heap.size + 1 from by simp] at h_; exact h_)))
   have hbel : Below w2.heap.size w2 (((w2.alloc (.cells #[.int .i64 (n : Int), .int .i64 x1, .int .i64 x2, .int .i64 x3, .int .i64 x4, .int .i64 x5, .slice none 0 0, .int .i64 0, .int .i64 0, .slice none 0 0, .slice (some ⟨(w2.heap.size + 1), 0, none⟩) n n, .slice none 0 0, .int .i64 0, .int .i64 0, .slice none 0 0] 67)).alloc om).drew) := below_drew1 (below_alloc (below_alloc (Below.refl w2.heap.size w2) _) _)
   have BK2 := Aside0.mk (blk_below BK.out hbel)
   have HB2 := Aside0.mk (below_step HB.out hbel)
   clear hbel hal hald hom hz2 hlt BK HB
   generalize ((w2.alloc (.cells #[.int .i64 (n : Int), .int .i64 x1, .int .i64 x2, .int .i64 x3, .int .i64 x4, .int .i64 x5, .slice none 0 0, .int .i64 0, .int .i64 0, .slice none 0 0, .slice (some ⟨(w2.heap.size + 1), 0, none⟩) n n, .slice none 0 0, .int .i64 0, .int .i64 0, .slice none 0 0] 67)).alloc om).drew = w3 at HG BK2 HB2 ⊢
   generalize w2.heap.size + 1 = gl at HG ⊢
   generalize w2.heap.size = gB at HG ⊢
   have hz3 := bx6 BK2.out
   go_wp2_with (first | (go_at_call 57; (with_reducible refine (bp.calls gB gl 0 n n _ (n : Int) x1 x2 x3 x4 x5 _ _ _ _ _ _ _ _ _ HG.out (fun _ => rfl) (Nat.le_trans HN.out (by decide))).mono ?_); rintro e w4 ⟨v, rfl, hv, hb⟩; have HV := Aside0.mk hv; have HB3 := Aside0.mk (below_step HB2.out hb); have HB4 := Aside0.mk (below_size HB2.out); clear hv hb HB2 BK2 HG hz3; obtain ⟨A, c, rfl⟩ := Kd.R_slice HV.out))
   obtain ⟨rows, hrows⟩ : ∃ l, bp.all gB gl 0 n x5 (wrap64 (x1 * x3)) (wrap64 (x2 * x3)) x4 = l := ⟨_, rfl⟩
   have hone := bp.all_one gB gl 0 n x5 (wrap64 (x1 * x3)) (wrap64 (x2 * x3)) x4
   have hlen := bp.all_length gB gl 0 n x5 (wrap64 (x1 * x3)) (wrap64 (x2 * x3)) x4
   have hsum := nb.all_sum x3 gB gl 0 0 0 0 n x5 (wrap64 (x1 * x3)) (wrap64 (x2 * x3)) x4
   rw [hrows] at hone hlen hsum HV ⊢
   have HS := Aside0.mk (hsum.trans HR.out)
   have HO := Aside0.mk hone
   have HL : Aside0 (rows.length ≤ 100000) := ⟨by have := HN.out; omega⟩
   clear hone hlen hsum hrows HR
   generalize hL : rows.length = L at HL HV ⊢
   have hL1 := HL.out
   have HLL := Aside0.mk hL
   clear hL
   go_loopw [4, 19] (fun m i W' => ∃ (k : Nat) (y : Int), k ≤ L ∧ i = .int .i64 k ∧ m = .int .i64 y ∧ Aside0 (nb.sum y (rows.drop k) = r) ∧ Aside0 ((Kd.raw 4).R 105 W' w3.heap.size (fun _ => True) (.slice A L c) rows) ∧ Aside0 (Below w.heap.size w W')) (fun _ i _ => L - (intOf i).toNat)
   case atStart => exact ⟨0, x3, Nat.zero_le _, rfl, rfl, HS, HV, HB3⟩
   case round =>
    clear HS HV HB3
    obtain ⟨k, y, hk, rfl, rfl, HS, HV, HB3⟩ := hrel
    by_cases c1 : k < L
    ·
     have d1 : decide ((k : Int) < (L : Int)) = true := decide_eq_true (by omega)
     have d2 : decide (k < L) = true := decide_eq_true c1
     obtain ⟨gv, cap, he, -, -, -⟩ := Kd.R_form HV.out (by have := HLL.out; omega)
     injection he with e1 e2 e3
     subst e1
     clear e2 e3
     obtain ⟨cs, hcl, ⟨hcs, -, -⟩, hcc⟩ := Kd.R_getA HV.out [] (k : Int) (by omega) (by omega)
     have hkl : k < rows.length := by have := HLL.out; omega
     obtain ⟨pt, pl, pr, pc, hpe⟩ := HO.out _ (List.getElem_mem hkl)
     have hgd : rows.getD ((k : Int).toNat) [] = bp.one pt pl pr pc := by rw [List.getD_eq_getElem?_getD, Int.toNat_natCast, List.getElem?_eq_getElem hkl]; exact hpe
     rw [hgd] at hcs
     subst hcs
     have hx0 := hcc 0 _ rfl
     have hx1 := hcc 1 _ rfl
     have hx2 := hcc 2 _ rfl
     have hx3 := hcc 3 _ rfl
     rw [add_plain] at hx0 hx1 hx2 hx3
     simp only [Int.toNat_natCast, Kd.raw, Nat.add_zero] at hx0 hx1 hx2 hx3
     have HS1 := Aside0.mk (show nb.sum (wrap64 (y + wrap64 (pr * pc))) (rows.drop (k + 1)) = r from by have h_ := HS.out; rw [List.drop_eq_getElem_cons hkl, hpe] at h_; exact h_)
     clear hcc hkl hpe hgd hcl HS
     go_upto_region 8 with (first | ((with_reducible refine gate_dst (N := 6) rfl ?_); refine box_event ?hg (N := 6) ?hd (cs := #[.pointer none, .pointer none, .int .i64 0, .int .i64 0]) (t := 105) ?hr ?_; (case hd => rfl); (case hg => rfl); (case hr => first | (go_simp; done) | (go_simp; rfl)); intro gx hg w5 hbox hb; have hz4 := bx4 hbox; have HBX := Aside0.mk hbox; have HBB := Aside0.mk hb; have HBG := Aside0.mk hg; clear hbox hb hg))
     have hb4 : _ = some (Obj.cells #[.pointer pt, .pointer pl, .int .i64 pr, .int .i64 pc] 105 (0, 0)) := blk_put (blk_put (blk_put (blk_put HBX.out 0 (.pointer pt) rfl) 1 (.pointer pl) rfl) 2 (.int .i64 pr) rfl) 3 (.int .i64 pc) rfl
     have hB4 := (((HBB.out.setCell (p := ⟨gx, 0, none⟩) (by rw [HBG.out]; exact Nat.le_refl _) (.pointer pt)).setCell (p := ⟨gx, 1, none⟩) (by rw [HBG.out]; exact Nat.le_refl _) (.pointer pl)).setCell (p := ⟨gx, 2, none⟩) (by rw [HBG.out]; exact Nat.le_refl _) (.int .i64 pr)).setCell (p := ⟨gx, 3, none⟩) (by rw [HBG.out]; exact Nat.le_refl _) (.int .i64 pc)
     have HV1 := Aside0.mk (Kd.R_below HV.out hB4)
     have HB5 := Aside0.mk (below_step HB3.out hB4)
     clear HBX HBB HBG hB4 hz4 hx0 hx1 hx2 hx3 HV HB3
     generalize (((w5.setCell ⟨gx, 0, none⟩ (Value.pointer pt)).setCell ⟨gx, 1, none⟩ (Value.pointer pl)).setCell ⟨gx, 2, none⟩ (Value.int IntKind.i64 pr)).setCell ⟨gx, 3, none⟩ (Value.int IntKind.i64 pc) = w6 at hb4 HV1 HB5 ⊢
     have hz5 := bx4 hb4
     clear hb4
     go_wp2
     exact ⟨⟨k + 1, _, by omega, by simp, rfl, HS1, HV1, HB5⟩, by simp only [intOf]; omega⟩
    ·
     have d1 : decide ((k : Int) < (L : Int)) = false := decide_eq_false (by omega)
     have d2 : decide (k < L) = false := decide_eq_false c1
     have hkr : nb.sum y [] = r := by have h_ := HS.out; rw [List.drop_eq_nil_of_le (by have := HLL.out; omega)] at h_; exact h_
     obtain rfl := (show y = r from hkr)
     clear hkr
     go_wp2
     go_ret
     exact ⟨rfl, HB3.out⟩

end Go.Proofs.Ytehepnmagcjkaaa.PBlobParses
