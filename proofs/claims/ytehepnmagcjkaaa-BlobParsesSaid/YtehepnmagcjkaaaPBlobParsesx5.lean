-- Written by a program of this session (wip/tools/mkprint.py over the kit's print).
import Derived.Test.YtehepnmagcjkaaaPBlobParsesx0
import Derived.Test.YtehepnmagcjkaaaPBlobParsesx2
import Derived.Test.YtehepnmagcjkaaaPBlobParsesx3
import Derived.Test.YtehepnmagcjkaaaPBlobParsesx4
namespace Go.Proofs.Ytehepnmagcjkaaa.PBlobParses
open Go.RowKit Go.Proofs.YtehepnmagcjkaaaW.PrintWords Go.Proofs.YtehepnmagcjkaaaW.PrintLast Go.Proofs.YtehepnmagcjkaaaW.PrintMore
attribute [local go_sem] max2_int min2_int max_two min_two max_three min_three max_four min_four   -- for this text's walks alone
set_option linter.unusedVariables false
set_option linter.unusedSimpArgs false

/-! ### blob_Right: function 33 -/
/-- What a part leads to: a table (rows, columns, numbers), or a list. -/
structure PV where
 tab : Option (Int × Int)
 A : Option Addr
 n : Nat
 cap : Nat
def Sees (W : World) (t l : Option Addr) (p : PV) : Prop :=
 (∃ b o R C, t = some ⟨b, o, none⟩ ∧ p.tab = some (R, C) ∧ W.cell? ⟨b, o, none⟩ = some (.int .i64 R) ∧ W.cell? ⟨b, o + 1, none⟩ = some (.int .i64 C) ∧ W.cell? ⟨b, o + 2, none⟩ = some (.slice p.A p.n p.cap)) ∨
 (t = none ∧ p.tab = none ∧ ∃ b o, l = some ⟨b, o, none⟩ ∧ W.cell? ⟨b, o, none⟩ = some (.slice p.A p.n p.cap))
theorem Sees.below {W W' : World} {t l : Option Addr} {p : PV} (h : Sees W t l p) (hb : Below W.heap.size W W') : Sees W' t l p := by
 have hc : ∀ a v, W.cell? a = some v → W'.cell? a = some v := fun a v h => (hb.cell (World.block_lt_of_cell? W _ h)).trans h
 rcases h with ⟨b, o, R, C, h1, h2, h3, h4, h5⟩ | ⟨h1, h2, b, o, h3, h4⟩
 ·
  exact .inl ⟨b, o, R, C, h1, h2, hc _ _ h3, hc _ _ h4, hc _ _ h5⟩
 ·
  exact .inr ⟨h1, h2, b, o, h3, hc _ _ h4⟩
set_option maxHeartbeats 8000000 in
set_option maxRecDepth 100000 in
theorem pnum.calls (t l : Option Addr) (r c : Int) (p : PV) (w : World) (h : Sees w t l p) :
  Calls Try.prog 62 #[.agg #[.pointer t, .pointer l, .int .i64 r, .int .i64 c]] w fun e w' => e = .returned (.slice p.A p.n p.cap) ∧ Below w.heap.size w w' := by
 have hu105 := Try.underlying105
 have hu64 := Try.underlying64
 have HB := Aside0.mk (Below.refl w.heap.size w)
 have HS := Aside0.mk h
 clear h
 rcases HS.out with ⟨b, o, R, C, rfl, h2, h3, h4, h5⟩ | ⟨rfl, h2, b, o, rfl, h4⟩
 ·
  go_enter Try.func62, Try.ntmps62
  clear HS h2
  go_wp2_with (first | ((with_reducible refine gate_dst (N := 1) rfl ?_); refine box_event ?hg (N := 1) ?hd (cs := #[.pointer (some ⟨b, o, none⟩), .pointer l, .int .i64 r, .int .i64 c]) (t := 105) ?hr ?_; (case hd => rfl); (case hg => rfl); (case hr => first | (go_simp; done) | (go_simp; rfl)); intro gb hg w1 hbox hb; have hz1 := bx4 hbox; replace HB := Aside0.mk hb; replace h5 := (hb.cell (World.block_lt_of_cell? w _ h5)).trans h5; clear h3 h4 hbox hb hg))
  go_ret
  exact ⟨rfl, HB.out⟩
 ·
  go_enter Try.func62, Try.ntmps62
  clear HS h2
  go_wp2_with (first | ((with_reducible refine gate_dst (N := 1) rfl ?_); refine box_event ?hg (N := 1) ?hd (cs := #[.pointer none, .pointer (some ⟨b, o, none⟩), .int .i64 r, .int .i64 c]) (t := 105) ?hr ?_; (case hd => rfl); (case hg => rfl); (case hr => first | (go_simp; done) | (go_simp; rfl)); intro gb hg w1 hbox hb; have hz1 := bx4 hbox; replace HB := Aside0.mk hb; replace h4 := (hb.cell (World.block_lt_of_cell? w _ h4)).trans h4; clear hbox hb hg))
  go_ret
  exact ⟨rfl, HB.out⟩
def PV.ok (p : PV) (r c : Int) : Bool := if (match p.tab with | some (R, C) => R != r || C != c | none => false) = true then false else (p.n : Int) == wrap64 (r * c)
theorem sees_drew {W : World} {t l : Option Addr} {p : PV} (h : Sees W t l p) : Sees W.drew t l p := h.below (below_drew1 (Below.refl _ _))
def pshape.T3 : Bool × List (List Nat × List Nat) := (true, [([], []), ([0], [0]), ([1], [1]), ([], []), ([3], [3]), ([], []), ([5], [5]), ([4, 6], [4, 6]), ([2, 7], [2, 7]), ([8, 1, 0, 1, 2, 3, 4, 5, 6, 7, 8], [8])])
def pshape.B3 : List Nat := [0, 1, 3, 0, 8, 0, 32, 120, 255, 511]
theorem pshape.tab3 : rtab .any (opsOf Try.f68 3) = pshape.T3 := by kernel_rfl
theorem pshape.bits3 : waitsOk pshape.T3.2 pshape.B3 = true := by kernel_rfl
set_option maxHeartbeats 8000000 in
set_option maxRecDepth 100000 in
theorem pshape.calls (t l : Option Addr) (r c : Int) (p : PV) (w : World) (h : Sees w t l p) :
  Calls Try.prog 68 #[.agg #[.pointer t, .pointer l, .int .i64 r, .int .i64 c]] w fun e w' => e = .returned (.bool (p.ok r c)) ∧ Below w.heap.size w w' := by
 have hu105 := Try.underlying105
 have hu64 := Try.underlying64
 have HB := Aside0.mk (Below.refl w.heap.size w)
 have HS := Aside0.mk h
 clear h
 obtain ⟨q, hq⟩ : ∃ q, p.ok r c = q := ⟨_, rfl⟩
 rw [hq]
 rcases HS.out with ⟨b, o, R, C, rfl, h2, h3, h4, h5⟩ | ⟨rfl, h2, b, o, rfl, h4⟩
 ·
  have HQ := Aside0.mk (show (if (R != r || C != c) = true then false else (p.n : Int) == wrap64 (r * c)) = q from by rw [← hq]; unfold PV.ok; rw [h2])
  clear h2 hq
  go_enter Try.func68, Try.ntmps68
  go_upto_region 1 with (first | ((with_reducible refine gate_dst (N := 1) rfl ?_); refine box_event ?hg (N := 1) ?hd (cs := #[.pointer (some ⟨b, o, none⟩), .pointer l, .int .i64 r, .int .i64 c]) (t := 105) ?hr ?_; (case hd => rfl); (case hg => rfl); (case hr => first | (go_simp; done) | (go_simp; rfl)); intro gb hg w1 hbox hb; have hz1 := bx4 hbox; replace HB := Aside0.mk hb; have HS1 := Aside0.mk (HS.out.below hb); have BK := Aside0.mk hbox; replace h3 := (hb.cell (World.block_lt_of_cell? w _ h3)).trans h3; replace h4 := (hb.cell (World.block_lt_of_cell? w _ h4)).trans h4; replace h5 := (hb.cell (World.block_lt_of_cell? w _ h5)).trans h5; clear hbox hb hg))
  by_cases c1 : R = r
  ·
   subst c1
   by_cases c2 : C = c
   ·
    subst c2
    obtain rfl : ((p.n : Int) == wrap64 (R * C)) = q := by have h_ := HQ.out; simpa using h_
    clear HQ HS h5
    go_region
    replace HS1 := Aside0.mk (sees_drew HS1.out)
    replace BK := Aside0.mk (blk_drew BK.out)
    replace HB := Aside0.mk (below_drew1 HB.out)
    clear hz1 h3 h4
    generalize w1.drew = w2 at HS1 BK HB ⊢
    go_upto_region 3 with (fail)
    replace HS1 := Aside0.mk (sees_drew HS1.out)
    replace BK := Aside0.mk (blk_drew BK.out)
    replace HB := Aside0.mk (below_drew1 HB.out)
    refine start_ (n := 10) (S := fun w' => w'.cell? ⟨gb, 0, none⟩ = some (.pointer (some ⟨b, o, none⟩)) ∧ w'.cell? ⟨gb, 1, none⟩ = some (.pointer l) ∧ w'.cell? ⟨gb, 2, none⟩ = some (.int .i64 R) ∧ w'.cell? ⟨gb, 3, none⟩ = some (.int .i64 C)) (ds := []) #[false, false, false, false, false, false, false, false, false, false] (by kernel_rfl) rfl rfl ⟨(blk_cell BK.out 0).trans rfl, (blk_cell BK.out 1).trans rfl, (blk_cell BK.out 2).trans rfl, (blk_cell BK.out 3).trans rfl⟩ (fun hHeld => ?_); refine with_tabW pshape.tab3 pshape.bits3 (fun HT_ HW_ => ?_)
    generalize w2.drew = w3 at HS1 BK HB hHeld ⊢
    refine pure_ (i := 3) (N := some 29) (v := ?_) (a' := ?_) #[false, false, false, true, false, false, false, false, false, false] rfl rfl (any_of HT_.out (by kernel_rfl)) (fun _ _ _ h => h) (Or.inl ⟨by rfl, ?_⟩) ?_ ?_
    rotate_left
    ·
     intro w'
     go_simp
     with_reducible rfl
    rotate_left
    ·
     simp only [Act.put, List.setIfInBounds_toArray, List.set_cons_zero, List.set_cons_succ, i64_w, i32_w, IntKind.wrap_u32]
     rfl
    refine pure_ (i := 5) (N := some 31) (v := ?_) (a' := ?_) #[false, false, false, true, false, true, false, false, false, false] rfl rfl (any_of HT_.out (by kernel_rfl)) (fun _ _ _ h => h) (Or.inl ⟨by rfl, ?_⟩) ?_ ?_
    rotate_left
    ·
     intro w'
     go_simp
     with_reducible rfl
    rotate_left
    ·
     simp only [Act.put, List.setIfInBounds_toArray, List.set_cons_zero, List.set_cons_succ, i64_w, i32_w, IntKind.wrap_u32]
     rfl
    refine take_ (i := 0) (N := some 26) (v := ?_) (a' := ?_) #[true, false, false, true, false, true, false, false, false, false] rfl rfl (take_ofW HT_.out HW_.out (by kernel_rfl)) (fun _ _ _ h => h) (Or.inl ⟨by rfl, ?_⟩) hHeld ?_ ?_
    rotate_left
    ·
     rintro w' ⟨s0, s1, s2, s3⟩
     go_simp
     with_reducible rfl
    rotate_left
    ·
     simp only [Act.put, List.setIfInBounds_toArray, List.set_cons_zero, List.set_cons_succ, i64_w, i32_w, IntKind.wrap_u32]
     rfl
    refine take_ (i := 4) (N := some 30) (v := ?_) (a' := ?_) #[true, false, false, true, true, true, false, false, false, false] rfl rfl (take_ofW HT_.out HW_.out (by kernel_rfl)) (fun _ _ _ h => h) (Or.inl ⟨by rfl, ?_⟩) hHeld ?_ ?_
    rotate_left
    ·
     rintro w' ⟨s0, s1, s2, s3⟩
     go_simp
     with_reducible rfl
    rotate_left
    ·
     simp only [Act.put, List.setIfInBounds_toArray, List.set_cons_zero, List.set_cons_succ, i64_w, i32_w, IntKind.wrap_u32]
     rfl
    refine take_ (i := 6) (N := some 32) (v := ?_) (a' := ?_) #[true, false, false, true, true, true, true, false, false, false] rfl rfl (take_ofW HT_.out HW_.out (by kernel_rfl)) (fun _ _ _ h => h) (Or.inl ⟨by rfl, ?_⟩) hHeld ?_ ?_
    rotate_left
    ·
     rintro w' ⟨s0, s1, s2, s3⟩
     go_simp
     with_reducible rfl
    rotate_left
    ·
     simp only [Act.put, List.setIfInBounds_toArray, List.set_cons_zero, List.set_cons_succ, i64_w, i32_w, IntKind.wrap_u32]
     rfl
    refine pure_ (i := 7) (N := some 33) (v := ?_) (a' := ?_) #[true, false, false, true, true, true, true, true, false, false] rfl rfl (any_of HT_.out (by kernel_rfl)) (fun _ _ _ h => h) (Or.inl ⟨by rfl, ?_⟩) ?_ ?_
    rotate_left
    ·
     intro w'
     go_simp
     with_reducible rfl
    rotate_left
    ·
     simp only [Act.put, List.setIfInBounds_toArray, List.set_cons_zero, List.set_cons_succ, i64_w, i32_w, IntKind.wrap_u32]
     rfl
    refine one_ (i := 1) (N := some 27) #[true, true, false, true, true, true, true, true, false, false] rfl rfl (one_of HT_.out (by kernel_rfl)) (by decide) (fun K hK => ?_)
    refine goes_ Try.func62 (by kernel_rfl) rfl #[.agg #[.pointer (some ⟨b, o, none⟩), .pointer l, .int .i64 R, .int .i64 C]] (by rfl) rfl rfl (by simp only [List.map_toArray, List.map_cons, List.map_nil]; rfl) ?_
    with_reducible refine (pnum.calls _ _ _ _ p _ HS1.out).mono ?_
    rintro e w4 ⟨rfl, hb⟩
    refine ⟨_, rfl, ?_⟩
    have HS2 := Aside0.mk (HS1.out.below hb)
    have BK2 := Aside0.mk (blk_below BK.out hb)
    have HB2 := Aside0.mk (below_step HB.out hb)
    clear hb HS1 BK HB
    have HS1 := HS2
    have BK := BK2
    have HB := HB2
    clear HS2 BK2 HB2
    refine hK.out _ _ ⟨(blk_cell BK.out 0).trans rfl, (blk_cell BK.out 1).trans rfl, (blk_cell BK.out 2).trans rfl, (blk_cell BK.out 3).trans rfl⟩ (fun hHeld => ?_)
    clear hK K
    refine norm_ (a' := ?_) ?_ ?_
    rotate_left
    ·
     show Act.put _ (some 27) _ = _
     simp only [Act.put, List.setIfInBounds_toArray, List.set_cons_zero, List.set_cons_succ, i64_w, i32_w, IntKind.wrap_u32]
     rfl
    refine pure_ (i := 2) (N := some 28) (v := ?_) (a' := ?_) #[true, true, true, true, true, true, true, true, false, false] rfl rfl (any_of HT_.out (by kernel_rfl)) (fun _ _ _ h => h) (Or.inl ⟨by rfl, ?_⟩) ?_ ?_
    rotate_left
    ·
     intro w'
     go_simp
     with_reducible rfl
    rotate_left
    ·
     simp only [Act.put, List.setIfInBounds_toArray, List.set_cons_zero, List.set_cons_succ, i64_w, i32_w, IntKind.wrap_u32]
     rfl
    refine pure_ (i := 8) (N := some 34) (v := ?_) (a' := ?_) #[true, true, true, true, true, true, true, true, true, false] rfl rfl (any_of HT_.out (by kernel_rfl)) (fun _ _ _ h => h) (Or.inl ⟨by rfl, ?_⟩) ?_ ?_
    rotate_left
    ·
     intro w'
     go_simp
     with_reducible rfl
    rotate_left
    ·
     simp only [Act.put, List.setIfInBounds_toArray, List.set_cons_zero, List.set_cons_succ, i64_w, i32_w, IntKind.wrap_u32]
     rfl
    refine pure_ (i := 9) (N := some 2) (v := ?_) (a' := ?_) #[true, true, true, true, true, true, true, true, true, true] rfl rfl (any_of HT_.out (by kernel_rfl)) (fun _ _ _ h => h) (Or.inl ⟨by rfl, ?_⟩) ?_ ?_
    rotate_left
    ·
     intro w'
     go_simp
     with_reducible rfl
    rotate_left
    ·
     simp only [Act.put, List.setIfInBounds_toArray, List.set_cons_zero, List.set_cons_succ, i64_w, i32_w, IntKind.wrap_u32]
     rfl
    refine done_ (done_of HT_.out (by kernel_rfl)) ?_
    try go_wp2
    go_ret
    exact ⟨rfl, HB.out⟩
   ·
    have c3 : (C == c) = false := beq_eq_false_iff_ne.mpr c2
    have c4 : (C != c) = true := bne_iff_ne.mpr c2
    obtain rfl : false = q := by have h_ := HQ.out; simpa [c4] using h_
    clear HQ HS h5 HS1 BK
    go_region
    replace HB := Aside0.mk (below_drew1 HB.out)
    clear hz1 h3 h4 c2 c3 c4
    generalize w1.drew = w2 at HB ⊢
    try go_wp2
    go_ret
    exact ⟨rfl, HB.out⟩
  ·
   have c3 : (R == r) = false := beq_eq_false_iff_ne.mpr c1
   have c4 : (R != r) = true := bne_iff_ne.mpr c1
   obtain rfl : false = q := by have h_ := HQ.out; simpa [c4] using h_
   clear HQ HS h5 HS1 BK
   go_region
   replace HB := Aside0.mk (below_drew1 HB.out)
   clear hz1 h3 h4 c1 c3 c4
   generalize w1.drew = w2 at HB ⊢
   try go_wp2
   go_ret
   exact ⟨rfl, HB.out⟩
 ·
  obtain rfl : ((p.n : Int) == wrap64 (r * c)) = q := by rw [← hq]; unfold PV.ok; rw [h2]; rfl
  clear h2 hq
  go_enter Try.func68, Try.ntmps68
  go_upto_region 1 with (first | ((with_reducible refine gate_dst (N := 1) rfl ?_); refine box_event ?hg (N := 1) ?hd (cs := #[.pointer none, .pointer (some ⟨b, o, none⟩), .int .i64 r, .int .i64 c]) (t := 105) ?hr ?_; (case hd => rfl); (case hg => rfl); (case hr => first | (go_simp; done) | (go_simp; rfl)); intro gb hg w1 hbox hb; have hz1 := bx4 hbox; replace HB := Aside0.mk hb; have HS1 := Aside0.mk (HS.out.below hb); have BK := Aside0.mk hbox; replace h4 := (hb.cell (World.block_lt_of_cell? w _ h4)).trans h4; clear hbox hb hg))
  clear HS
  go_region
  replace HS1 := Aside0.mk (sees_drew HS1.out)
  replace BK := Aside0.mk (blk_drew BK.out)
  replace HB := Aside0.mk (below_drew1 HB.out)
  clear hz1 h4
  generalize w1.drew = w2 at HS1 BK HB ⊢
  go_upto_region 3 with (fail)
  replace HS1 := Aside0.mk (sees_drew HS1.out)
  replace BK := Aside0.mk (blk_drew BK.out)
  replace HB := Aside0.mk (below_drew1 HB.out)
  refine start_ (n := 10) (S := fun w' => w'.cell? ⟨gb, 0, none⟩ = some (.pointer none) ∧ w'.cell? ⟨gb, 1, none⟩ = some (.pointer (some ⟨b, o, none⟩)) ∧ w'.cell? ⟨gb, 2, none⟩ = some (.int .i64 r) ∧ w'.cell? ⟨gb, 3, none⟩ = some (.int .i64 c)) (ds := []) #[false, false, false, false, false, false, false, false, false, false] (by kernel_rfl) rfl rfl ⟨(blk_cell BK.out 0).trans rfl, (blk_cell BK.out 1).trans rfl, (blk_cell BK.out 2).trans rfl, (blk_cell BK.out 3).trans rfl⟩ (fun hHeld => ?_); refine with_tabW pshape.tab3 pshape.bits3 (fun HT_ HW_ => ?_)
  generalize w2.drew = w3 at HS1 BK HB hHeld ⊢
  refine pure_ (i := 3) (N := some 29) (v := ?_) (a' := ?_) #[false, false, false, true, false, false, false, false, false, false] rfl rfl (any_of HT_.out (by kernel_rfl)) (fun _ _ _ h => h) (Or.inl ⟨by rfl, ?_⟩) ?_ ?_
  rotate_left
  ·
   intro w'
   go_simp
   with_reducible rfl
  rotate_left
  ·
   simp only [Act.put, List.setIfInBounds_toArray, List.set_cons_zero, List.set_cons_succ, i64_w, i32_w, IntKind.wrap_u32]
   rfl
  refine pure_ (i := 5) (N := some 31) (v := ?_) (a' := ?_) #[false, false, false, true, false, true, false, false, false, false] rfl rfl (any_of HT_.out (by kernel_rfl)) (fun _ _ _ h => h) (Or.inl ⟨by rfl, ?_⟩) ?_ ?_
  rotate_left
  ·
   intro w'
   go_simp
   with_reducible rfl
  rotate_left
  ·
   simp only [Act.put, List.setIfInBounds_toArray, List.set_cons_zero, List.set_cons_succ, i64_w, i32_w, IntKind.wrap_u32]
   rfl
  refine take_ (i := 0) (N := some 26) (v := ?_) (a' := ?_) #[true, false, false, true, false, true, false, false, false, false] rfl rfl (take_ofW HT_.out HW_.out (by kernel_rfl)) (fun _ _ _ h => h) (Or.inl ⟨by rfl, ?_⟩) hHeld ?_ ?_
  rotate_left
  ·
   rintro w' ⟨s0, s1, s2, s3⟩
   go_simp
   with_reducible rfl
  rotate_left
  ·
   simp only [Act.put, List.setIfInBounds_toArray, List.set_cons_zero, List.set_cons_succ, i64_w, i32_w, IntKind.wrap_u32]
   rfl
  refine take_ (i := 4) (N := some 30) (v := ?_) (a' := ?_) #[true, false, false, true, true, true, false, false, false, false] rfl rfl (take_ofW HT_.out HW_.out (by kernel_rfl)) (fun _ _ _ h => h) (Or.inl ⟨by rfl, ?_⟩) hHeld ?_ ?_
  rotate_left
  ·
   rintro w' ⟨s0, s1, s2, s3⟩
   go_simp
   with_reducible rfl
  rotate_left
  ·
   simp only [Act.put, List.setIfInBounds_toArray, List.set_cons_zero, List.set_cons_succ, i64_w, i32_w, IntKind.wrap_u32]
   rfl
  refine take_ (i := 6) (N := some 32) (v := ?_) (a' := ?_) #[true, false, false, true, true, true, true, false, false, false] rfl rfl (take_ofW HT_.out HW_.out (by kernel_rfl)) (fun _ _ _ h => h) (Or.inl ⟨by rfl, ?_⟩) hHeld ?_ ?_
  rotate_left
  ·
   rintro w' ⟨s0, s1, s2, s3⟩
   go_simp
   with_reducible rfl
  rotate_left
  ·
   simp only [Act.put, List.setIfInBounds_toArray, List.set_cons_zero, List.set_cons_succ, i64_w, i32_w, IntKind.wrap_u32]
   rfl
  refine pure_ (i := 7) (N := some 33) (v := ?_) (a' := ?_) #[true, false, false, true, true, true, true, true, false, false] rfl rfl (any_of HT_.out (by kernel_rfl)) (fun _ _ _ h => h) (Or.inl ⟨by rfl, ?_⟩) ?_ ?_
  rotate_left
  ·
   intro w'
   go_simp
   with_reducible rfl
  rotate_left
  ·
   simp only [Act.put, List.setIfInBounds_toArray, List.set_cons_zero, List.set_cons_succ, i64_w, i32_w, IntKind.wrap_u32]
   rfl
  refine one_ (i := 1) (N := some 27) #[true, true, false, true, true, true, true, true, false, false] rfl rfl (one_of HT_.out (by kernel_rfl)) (by decide) (fun K hK => ?_)
  refine goes_ Try.func62 (by kernel_rfl) rfl #[.agg #[.pointer none, .pointer (some ⟨b, o, none⟩), .int .i64 r, .int .i64 c]] (by rfl) rfl rfl (by simp only [List.map_toArray, List.map_cons, List.map_nil]; rfl) ?_
  with_reducible refine (pnum.calls _ _ _ _ p _ HS1.out).mono ?_
  rintro e w4 ⟨rfl, hb⟩
  refine ⟨_, rfl, ?_⟩
  have HS2 := Aside0.mk (HS1.out.below hb)
  have BK2 := Aside0.mk (blk_below BK.out hb)
  have HB2 := Aside0.mk (below_step HB.out hb)
  clear hb HS1 BK HB
  have HS1 := HS2
  have BK := BK2
  have HB := HB2
  clear HS2 BK2 HB2
  refine hK.out _ _ ⟨(blk_cell BK.out 0).trans rfl, (blk_cell BK.out 1).trans rfl, (blk_cell BK.out 2).trans rfl, (blk_cell BK.out 3).trans rfl⟩ (fun hHeld => ?_)
  clear hK K
  refine norm_ (a' := ?_) ?_ ?_
  rotate_left
  ·
   show Act.put _ (some 27) _ = _
   simp only [Act.put, List.setIfInBounds_toArray, List.set_cons_zero, List.set_cons_succ, i64_w, i32_w, IntKind.wrap_u32]
   rfl
  refine pure_ (i := 2) (N := some 28) (v := ?_) (a' := ?_) #[true, true, true, true, true, true, true, true, false, false] rfl rfl (any_of HT_.out (by kernel_rfl)) (fun _ _ _ h => h) (Or.inl ⟨by rfl, ?_⟩) ?_ ?_
  rotate_left
  ·
   intro w'
   go_simp
   with_reducible rfl
  rotate_left
  ·
   simp only [Act.put, List.setIfInBounds_toArray, List.set_cons_zero, List.set_cons_succ, i64_w, i32_w, IntKind.wrap_u32]
   rfl
  refine pure_ (i := 8) (N := some 34) (v := ?_) (a' := ?_) #[true, true, true, true, true, true, true, true, true, false] rfl rfl (any_of HT_.out (by kernel_rfl)) (fun _ _ _ h => h) (Or.inl ⟨by rfl, ?_⟩) ?_ ?_
  rotate_left
  ·
   intro w'
   go_simp
   with_reducible rfl
  rotate_left
  ·
   simp only [Act.put, List.setIfInBounds_toArray, List.set_cons_zero, List.set_cons_succ, i64_w, i32_w, IntKind.wrap_u32]
   rfl
  refine pure_ (i := 9) (N := some 2) (v := ?_) (a' := ?_) #[true, true, true, true, true, true, true, true, true, true] rfl rfl (any_of HT_.out (by kernel_rfl)) (fun _ _ _ h => h) (Or.inl ⟨by rfl, ?_⟩) ?_ ?_
  rotate_left
  ·
   intro w'
   go_simp
   with_reducible rfl
  rotate_left
  ·
   simp only [Act.put, List.setIfInBounds_toArray, List.set_cons_zero, List.set_cons_succ, i64_w, i32_w, IntKind.wrap_u32]
   rfl
  refine done_ (done_of HT_.out (by kernel_rfl)) ?_
  try go_wp2
  go_ret
  exact ⟨rfl, HB.out⟩
set_option maxHeartbeats 8000000 in
set_option maxRecDepth 100000 in
theorem pnot.calls (t l : Option Addr) (r c : Int) (p : PV) (w : World) (h : Sees w t l p) :
  Calls Try.prog 67 #[.agg #[.pointer t, .pointer l, .int .i64 r, .int .i64 c]] w fun e w' => e = .returned (.bool (!p.ok r c)) ∧ Below w.heap.size w w' := by
 have hu105 := Try.underlying105
 have HB := Aside0.mk (Below.refl w.heap.size w)
 have HS := Aside0.mk h
 clear h
 generalize hq : p.ok r c = q
 have HQ := Aside0.mk hq
 clear hq
 go_enter Try.func67, Try.ntmps67
 go_wp2_with (first | ((with_reducible refine gate_dst (N := 1) rfl ?_); refine box_event ?hg (N := 1) ?hd (cs := #[.pointer t, .pointer l, .int .i64 r, .int .i64 c]) (t := 105) ?hr ?_; (case hd => rfl); (case hg => rfl); (case hr => first | (go_simp; done) | (go_simp; rfl)); intro gb hg w1 hbox hb; have hz1 := bx4 hbox; replace HB := Aside0.mk hb; have HS1 := Aside0.mk (HS.out.below hb); clear hbox hb hg) | (go_at_call 68; (with_reducible refine (pshape.calls _ _ _ _ p _ HS1.out).mono ?_); rintro e w3 ⟨rfl, hb⟩; rw [HQ.out]; replace HB := Aside0.mk (below_step HB.out hb); clear hb hz1 HS1))
 go_ret
 exact ⟨rfl, HB.out⟩
/-- A part's cells, in a row of parts in block gv. -/
def PRow (w : World) (gv j : Nat) (t l : Option Addr) (r c : Int) : Prop := w.cell? ⟨gv, j * 4, none⟩ = some (.pointer t) ∧ w.cell? ⟨gv, j * 4 + 1, none⟩ = some (.pointer l) ∧ w.cell? ⟨gv, j * 4 + 2, none⟩ = some (.int .i64 r) ∧ w.cell? ⟨gv, j * 4 + 3, none⟩ = some (.int .i64 c)
theorem PRow.below {w w' : World} {gv j : Nat} {t l : Option Addr} {r c : Int} (h : PRow w gv j t l r c) (hb : Below w.heap.size w w') : PRow w' gv j t l r c := by
 have hc : ∀ a v, w.cell? a = some v → w'.cell? a = some v := fun a v h => (hb.cell (World.block_lt_of_cell? w _ h)).trans h
 exact ⟨hc _ _ h.1, hc _ _ h.2.1, hc _ _ h.2.2.1, hc _ _ h.2.2.2⟩
theorem any_succ {φ : Nat → Bool} {n : Nat} (h : (List.range n).any φ = false) : (List.range (n + 1)).any φ = φ n := by rw [List.range_succ, List.any_append, h]; simp
theorem any_at {φ : Nat → Bool} {n L : Nat} (h : φ n = true) (hn : n < L) : (List.range L).any φ = true := List.any_eq_true.mpr ⟨n, List.mem_range.mpr hn, h⟩
set_option maxHeartbeats 8000000 in
set_option maxRecDepth 100000 in
theorem pany67_ix (gv L c : Nat) (A : Option Addr) (φ : Nat → Bool) (w : World) (hA : 0 < L → A = some ⟨gv, 0, none⟩) (hL : L ≤ 1000000) (hrow : ∀ j, j < L → ∃ t l r c p, PRow w gv j t l r c ∧ Sees w t l p ∧ φ j = !p.ok r c) :
  Calls Try.prog 90 #[.slice A L c, .func (.func 67) #[] #[]] w fun e w' => ∃ r : Int, e = .returned (.int .i64 r) ∧ Aside0 (decide (0 ≤ r) = (List.range L).any φ) ∧ Below w.heap.size w w' := by
 have hu105 := Try.underlying105
 have HB := Aside0.mk (Below.refl w.heap.size w)
 have HA0 := Aside0.mk hA
 have HW := Aside0.mk hrow
 have hL1 := hL
 clear hA hrow
 go_enter Try.func90, Try.ntmps90
 go_wp2
 go_loopw [8, 5] (fun i _ w' => ∃ n : Nat, n ≤ L ∧ i = .int .i64 n ∧ Aside0 ((List.range n).any φ = false) ∧ Aside0 (Below w.heap.size w w')) (fun i _ _ => L - (intOf i).toNat)
 case atStart => exact ⟨0, Nat.zero_le _, rfl, ⟨rfl⟩, HB⟩
 case round =>
  clear HB
  obtain ⟨n, hn, rfl, HA, HB⟩ := hrel
  by_cases c0 : n < L
  ·
   have c1 : decide ((n : Int) < (L : Int)) = true := decide_eq_true (by omega)
   have c2 : decide (n < L) = true := decide_eq_true c0
   obtain rfl := HA0.out (by omega)
   obtain ⟨t, l, r, cc, p, hp, hs, hphi⟩ := HW.out n c0
   obtain ⟨hx0, hx1, hx2, hx3⟩ := hp.below HB.out
   have HS1 := Aside0.mk (hs.below HB.out)
   have HT := Aside0.mk (any_succ (φ := φ) HA.out)
   have HP := Aside0.mk hphi
   have HC0 := Aside0.mk c0
   clear hp hs hphi
   generalize hq : φ n = q at HT HP
   have HQ := Aside0.mk hq
   clear hq
   cases q with
   | true =>
    go_wp2_with (first | (go_at_call 67; (with_reducible refine (pnot.calls _ _ _ _ p _ HS1.out).mono ?_); rintro e w' ⟨rfl, hb⟩; rw [← HP.out]; replace HB := Aside0.mk (below_step HB.out hb); clear hb hx0 hx1 hx2 hx3))
    go_ret
    exact ⟨_, rfl, ⟨by rw [any_at HQ.out HC0.out]; simp⟩, HB.out⟩
   | false =>
    go_wp2_with (first | (go_at_call 67; (with_reducible refine (pnot.calls _ _ _ _ p _ HS1.out).mono ?_); rintro e w' ⟨rfl, hb⟩; rw [← HP.out]; replace HB := Aside0.mk (below_step HB.out hb); clear hb hx0 hx1 hx2 hx3))
    exact ⟨⟨n + 1, by have := HC0.out; omega, by simp, HT, HB⟩, by have := HC0.out; simp only [intOf]; omega⟩
  ·
   have c1 : decide ((n : Int) < (L : Int)) = false := decide_eq_false (by omega)
   have c2 : decide (n < L) = false := decide_eq_false c0
   obtain rfl : n = L := by omega
   go_wp2
   go_ret
   exact ⟨_, rfl, ⟨by rw [HA.out]; rfl⟩, HB.out⟩
set_option maxHeartbeats 8000000 in
set_option maxRecDepth 100000 in
theorem pany67.calls (gv L c : Nat) (A : Option Addr) (φ : Nat → Bool) (w : World) (hA : 0 < L → A = some ⟨gv, 0, none⟩) (hL : L ≤ 1000000) (hrow : ∀ j, j < L → ∃ t l r c p, PRow w gv j t l r c ∧ Sees w t l p ∧ φ j = !p.ok r c) :
  Calls Try.prog 66 #[.slice A L c, .func (.func 67) #[] #[]] w fun e w' => e = .returned (.bool ((List.range L).any φ)) ∧ Below w.heap.size w w' := by
 have CC := Aside0.mk (pany67_ix gv L c A φ w hA hL hrow)
 have HB := Aside0.mk (Below.refl w.heap.size w)
 clear hA hrow
 generalize (List.range L).any φ = q at CC ⊢
 go_enter Try.func66, Try.ntmps66
 go_wp2_with (first | (go_at_call 90; (with_reducible refine CC.out.mono ?_); rintro e w' ⟨r1, rfl, HE, hb⟩; replace HB := Aside0.mk hb; have hE := HE.out; have hE1 : decide (r1 ≥ 0) = q := hE; clear hb HE))
 go_ret
 exact ⟨by first | rfl | (simp [*]; done), HB.out⟩
def blob_great.p (x : Int) : Bool := decide (x < -1048576) || decide (x > 1048576)
set_option maxHeartbeats 8000000 in
set_option maxRecDepth 100000 in
theorem blob_great.calls (x : Int) (w : World) :
  Calls Try.prog 69 #[.int .i32 x] w fun e w' => e = .returned (.bool (blob_great.p x)) ∧ Drawn0 w w' := by
 obtain ⟨q, hq⟩ : ∃ q : Bool, blob_great.p x = q := ⟨_, rfl⟩
 have HQ := Aside0.mk hq
 rw [hq]
 clear hq
 by_cases c1 : x < -1048576
 ·
  have c2 : decide (x < -1048576) = true := decide_eq_true c1
  go_enter Try.func69, Try.ntmps69
  go_wp2
  go_ret
  exact ⟨by rw [← HQ.out]; simp [blob_great.p, c1], Drawn0.refl _⟩
 ·
  have c2 : decide (x < -1048576) = false := decide_eq_false c1
  by_cases c3 : x > 1048576
  ·
   have c4 : decide (x > 1048576) = true := decide_eq_true c3
   have c5 : decide (1048576 < x) = true := decide_eq_true c3
   go_enter Try.func69, Try.ntmps69
   go_wp2
   go_ret
   exact ⟨by rw [← HQ.out]; simp [blob_great.p, c3], Drawn0.refl _⟩
  ·
   have c4 : decide (x > 1048576) = false := decide_eq_false c3
   have c5 : decide (1048576 < x) = false := decide_eq_false c3
   go_enter Try.func69, Try.ntmps69
   go_wp2
   go_ret
   exact ⟨by rw [← HQ.out]; simp [blob_great.p, c1, c3], Drawn0.refl _⟩

def blob_great_any.f (l0 : List Int) : Option Bool := some (l0.any blob_great.p)
set_option maxHeartbeats 8000000 in
set_option maxRecDepth 100000 in
theorem blob_great_ix.calls (A0 : Option Addr) (c0 : Nat) (l0 : List Int) (w : World) (hr0 : Kd.C (Kd.int .i32) w A0 l0.length l0) :
  Calls Try.prog 91 #[.slice A0 l0.length c0, .func (.func 69) #[] #[]] w fun e w' => ∃ r : Int, e = .returned (.int .i64 r) ∧ Aside0 (decide (0 ≤ r) = l0.any blob_great.p) ∧ Drawn0 w w' := by
 have HR0 := Aside0.mk hr0
 clear hr0
 go_enter Try.func91, Try.ntmps91
 go_wp2
 go_loopw [8, 5] (fun i _ w' => ∃ n : Nat, n ≤ l0.length ∧ i = .int .i64 n ∧ Aside0 ((l0.take n).any blob_great.p = false) ∧ Drawn0 w w') (fun i _ _ => l0.length - (intOf i).toNat)
 case atStart => exact ⟨0, Nat.zero_le _, rfl, ⟨by simp⟩, Drawn0.refl _⟩
 case round =>
  obtain ⟨n, hn, rfl, HA, ⟨m, rfl⟩⟩ := hrel
  have hl63 := HR0.out.2.1
  by_cases c : n < l0.length
  ·
   have c1 : decide ((n : Int) < (l0.length : Int)) = true := decide_eq_true (by omega)
   have c2 : decide (n < l0.length) = true := decide_eq_true c
   have hp0 : (0 : Int) ≤ (n : Int) := by omega
   have hq0 : (n : Int) < (l0.length : Int) := by omega
   obtain ⟨ad, e1, hx⟩ := Kd.at_int HR0.out (n : Int) hp0 hq0
   cases e1
   have hx2 : w.cell? (ad.add n) = some (.int .i32 (rd l0 (n : Int))) := by simpa using hx
   have hx3 : (w.drewN m).cell? (ad.add n) = some (.int .i32 (rd l0 (n : Int))) := hx2
   obtain ⟨y, hy⟩ : ∃ y : Int, rd l0 (n : Int) = y := ⟨_, rfl⟩
   rw [hy] at hx hx2 hx3
   obtain ⟨q, hq⟩ : ∃ q : Bool, blob_great.p y = q := ⟨_, rfl⟩
   have CC := Aside0.mk (fun (W : World) => by
    have h1 := blob_great.calls y W
    rw [hq] at h1
    exact h1)
   have HT : Aside0 ((l0.take (n + 1)).any blob_great.p = q) := ⟨by
    rw [List.take_succ_eq_append_getElem c, List.any_append, HA.out]
    have : l0[n] = y := by rw [← hy]; simp [rd, List.getElem?_eq_getElem c]
    simp [this, hq]⟩
   have HMEM : Aside0 (blob_great.p y = true → l0.any blob_great.p = true) := ⟨fun h => by
    rw [List.any_eq_true]
    refine ⟨y, ?_, h⟩
    have : l0[n] = y := by rw [← hy]; simp [rd, List.getElem?_eq_getElem c]
    rw [← this]
    exact List.getElem_mem c⟩
   have HQ := Aside0.mk hq
   clear hq hy HA
   cases q with
   | true =>
    go_wp2_with (first | (go_at_call 69; (with_reducible refine (CC.out _).mono ?_); rintro e w' ⟨rfl, ⟨nd, rfl⟩⟩))
    go_ret
    exact ⟨_, rfl, ⟨by rw [HMEM.out HQ.out]; simp⟩, by repeat (first | exact Drawn0.refl _ | apply Drawn0.step)⟩
   | false =>
    go_wp2_with (first | (go_at_call 69; (with_reducible refine (CC.out _).mono ?_); rintro e w' ⟨rfl, ⟨nd, rfl⟩⟩))
    go_roundw
    case rel => exact ⟨n + 1, by omega, by go_num, HT, by repeat (first | exact Drawn0.refl _ | apply Drawn0.step)⟩
    case measure => simp [intOf]; omega
  ·
   have c1 : decide ((n : Int) < (l0.length : Int)) = false := decide_eq_false (by omega)
   have c2 : decide (n < l0.length) = false := decide_eq_false c
   have hnl : n = l0.length := by omega
   subst hnl
   go_wp2
   go_ret
   exact ⟨_, rfl, ⟨by have h1 := HA.out; rw [List.take_length] at h1; rw [h1]; rfl⟩, by repeat (first | exact Drawn0.refl _ | apply Drawn0.step)⟩
set_option maxHeartbeats 8000000 in
set_option maxRecDepth 100000 in
theorem blob_great_any.calls (A0 : Option Addr) (c0 : Nat) (l0 : List Int) (r : Bool) (w : World) (hr0 : Kd.C (Kd.int .i32) w A0 l0.length l0) (hc0 : l0.length ≤ c0) (h : blob_great_any.f l0 = some r) :
  Calls Try.prog 71 #[.slice A0 l0.length c0, .func (.func 69) #[] #[]] w fun e w' => e = .returned (.bool r) ∧ Drawn0 w w' := by
 have h2 : some (l0.any blob_great.p) = some r := h
 clear h
 have HS := Aside0.mk (Option.some.inj h2)
 have HR0 := Aside0.mk hr0
 clear hr0 h2 hc0
 go_enter Try.func71, Try.ntmps71
 go_wp2_with (first | (go_at_call 91; (with_reducible refine (blob_great_ix.calls A0 c0 l0 _ HR0.out).mono ?_); rintro e w' ⟨r1, rfl, HE, ⟨nd, rfl⟩⟩))
 go_ret
 exact ⟨by rw [← HS.out, ← HE.out]; rfl, by repeat (first | exact Drawn0.refl _ | apply Drawn0.step)⟩

theorem c_drew {α : Type} {d : Kd α} {W : World} {A : Option Addr} {n : Nat} {xs : List α} (h : d.C W A n xs) : d.C W.drew A n xs := Kd.C_drew h
theorem any71_of {A : Option Addr} {n cap : Nat} {xs : List Int} {w : World} (h : (Kd.int .i32).C w A n xs) (hn : n = xs.length) (hc : n ≤ cap) :
  Calls Try.prog 71 #[.slice A n cap, .func (.func 69) #[] #[]] w fun e w' => e = .returned (.bool (xs.any blob_great.p)) ∧ Below w.heap.size w w' := by
 subst hn
 refine (blob_great_any.calls A cap xs _ w h hc rfl).mono ?_
 rintro e w' ⟨rfl, hd⟩
 exact ⟨rfl, hd.below⟩
set_option maxHeartbeats 8000000 in
set_option maxRecDepth 100000 in
theorem pgreat.calls (t l : Option Addr) (r c : Int) (p : PV) (gx : Nat) (xs : List Int) (w : World) (h : Sees w t l p) (hn : p.n = xs.length) (hcap : p.n ≤ p.cap) (hx : (Kd.int .i32).C w p.A p.n xs) (hg : w.heap[gx]? = some (.cells #[.func (.func 69) #[] #[]] 124 (0, 0))) :
  Calls Try.prog 70 #[.agg #[.pointer t, .pointer l, .int .i64 r, .int .i64 c], .pointer (some ⟨gx, 0, none⟩)] w fun e w' => e = .returned (.bool (xs.any blob_great.p)) ∧ Below w.heap.size w w' := by
 have hu105 := Try.underlying105
 have HB := Aside0.mk (Below.refl w.heap.size w)
 have HS := Aside0.mk h
 have HNX := Aside0.mk hn
 have HCAP := Aside0.mk hcap
 have HX0 := Aside0.mk hx
 have GX0 := Aside0.mk hg
 clear h hn hcap hx hg
 go_enter Try.func70, Try.ntmps70
 go_upto_region 1 with (first | ((with_reducible refine gate_dst (N := 2) rfl ?_); refine box_event ?hg (N := 2) ?hd (cs := #[.pointer t, .pointer l, .int .i64 r, .int .i64 c]) (t := 105) ?hr ?_; (case hd => rfl); (case hg => rfl); (case hr => first | (go_simp; done) | (go_simp; rfl)); intro gb hg w1 hbox hb; replace HB := Aside0.mk hb; have HS1 := Aside0.mk (HS.out.below hb); have BK := Aside0.mk hbox; have GX := Aside0.mk (blk_below GX0.out hb); have HXS := Aside0.mk (Kd.C_below HX0.out hb); clear hbox hb hg))
 replace HS1 := Aside0.mk (sees_drew HS1.out)
 replace BK := Aside0.mk (blk_drew BK.out)
 replace GX := Aside0.mk (blk_drew GX.out)
 replace HXS := Aside0.mk (c_drew HXS.out)
 replace HB := Aside0.mk (below_drew1 HB.out)
 refine start_ (n := 5) (S := fun w' => w'.cell? ⟨gb, 0, none⟩ = some (.pointer t) ∧ w'.cell? ⟨gb, 1, none⟩ = some (.pointer l) ∧ w'.cell? ⟨gb, 2, none⟩ = some (.int .i64 r) ∧ w'.cell? ⟨gb, 3, none⟩ = some (.int .i64 c) ∧ w'.cell? ⟨gx, 0, none⟩ = some (.func (.func 69) #[] #[])) (ds := [3]) #[false, false, false, false, false] (by kernel_rfl) rfl rfl ⟨(blk_cell BK.out 0).trans rfl, (blk_cell BK.out 1).trans rfl, (blk_cell BK.out 2).trans rfl, (blk_cell BK.out 3).trans rfl, (blk_cell GX.out 0).trans rfl⟩ (fun hHeld => ?_)
 generalize w1.drew = w2 at HS1 BK GX HXS HB hHeld ⊢
 refine take_ (i := 0) (N := some 4) (v := ?_) (a' := ?_) #[true, false, false, false, false] rfl rfl (by kernel_rfl) (fun _ _ _ h => h) (Or.inl ⟨by rfl, ?_⟩) hHeld ?_ ?_
 rotate_left
 ·
  rintro w' ⟨s0, s1, s2, s3, s4⟩
  go_simp
  with_reducible rfl
 rotate_left
 ·
  simp only [Act.put, List.setIfInBounds_toArray, List.set_cons_zero, List.set_cons_succ, i64_w, i32_w, IntKind.wrap_u32]
  rfl
 refine take_ (i := 2) (N := some 6) (v := ?_) (a' := ?_) #[true, false, true, false, false] rfl rfl (by kernel_rfl) (fun _ _ _ h => h) (Or.inl ⟨by rfl, ?_⟩) hHeld ?_ ?_
 rotate_left
 ·
  rintro w' ⟨s0, s1, s2, s3, s4⟩
  go_simp
  with_reducible rfl
 rotate_left
 ·
  simp only [Act.put, List.setIfInBounds_toArray, List.set_cons_zero, List.set_cons_succ, i64_w, i32_w, IntKind.wrap_u32]
  rfl
 refine one_ (i := 1) (N := some 5) #[true, true, true, false, false] rfl rfl (by kernel_rfl) (by decide) (fun K hK => ?_)
 refine goes_ Try.func62 (by kernel_rfl) rfl #[.agg #[.pointer t, .pointer l, .int .i64 r, .int .i64 c]] (by rfl) rfl rfl (by simp only [List.map_toArray, List.map_cons, List.map_nil]; rfl) ?_
 with_reducible refine (pnum.calls _ _ _ _ p _ HS1.out).mono ?_
 rintro e w4 ⟨rfl, hb⟩
 refine ⟨_, rfl, ?_⟩
 have HS2 := Aside0.mk (HS1.out.below hb)
 have BK2 := Aside0.mk (blk_below BK.out hb)
 have GX2 := Aside0.mk (blk_below GX.out hb)
 have HB2 := Aside0.mk (below_step HB.out hb)
 have HXS2 := Aside0.mk (Kd.C_below HXS.out hb)
 clear hb HS1 BK HB GX HXS
 have HS1 := HS2
 have BK := BK2
 have GX := GX2
 have HB := HB2
 have HXS := HXS2
 clear HS2 BK2 HB2 GX2 HXS2
 refine hK.out _ _ ⟨(blk_cell BK.out 0).trans rfl, (blk_cell BK.out 1).trans rfl, (blk_cell BK.out 2).trans rfl, (blk_cell BK.out 3).trans rfl, (blk_cell GX.out 0).trans rfl⟩ (fun hHeld => ?_)
 clear hK K
 refine norm_ (a' := ?_) ?_ ?_
 rotate_left
 ·
  show Act.put _ (some 5) _ = _
  simp only [Act.put, List.setIfInBounds_toArray, List.set_cons_zero, List.set_cons_succ, i64_w, i32_w, IntKind.wrap_u32]
  rfl
 refine last_ (i := 3) (N := some 7) #[true, true, true, true, false] rfl rfl (by kernel_rfl) (by decide) (fun K hK => ?_)
 refine goes_ Try.func71 (by kernel_rfl) rfl #[.slice p.A p.n p.cap, .func (.func 69) #[] #[]] (by rfl) rfl rfl (by simp only [List.map_toArray, List.map_cons, List.map_nil]; rfl) ?_
 with_reducible refine (any71_of HXS.out HNX.out HCAP.out).mono ?_
 rintro e w6 ⟨rfl, hb⟩
 refine ⟨_, rfl, ?_⟩
 have HB2 := Aside0.mk (below_step HB.out hb)
 clear hb HB
 have HB := HB2
 clear HB2
 refine hK.out _ _ ?_
 clear hK K
 refine norm_ (a' := ?_) ?_ ?_
 rotate_left
 ·
  show Act.put _ (some 7) _ = _
  simp only [Act.put, List.setIfInBounds_toArray, List.set_cons_zero, List.set_cons_succ, i64_w, i32_w, IntKind.wrap_u32]
  rfl
 refine pure_ (i := 4) (N := some 3) (v := ?_) (a' := ?_) #[true, true, true, true, true] rfl rfl (by kernel_rfl) (fun _ _ _ h => h) (Or.inl ⟨by rfl, ?_⟩) ?_ ?_
 rotate_left
 ·
  intro w'
  go_simp
  with_reducible rfl
 rotate_left
 ·
  simp only [Act.put, List.setIfInBounds_toArray, List.set_cons_zero, List.set_cons_succ, i64_w, i32_w, IntKind.wrap_u32]
  rfl
 refine done_ (by kernel_rfl) ?_
 try go_wp2
 go_ret
 exact ⟨rfl, HB.out⟩
set_option maxHeartbeats 8000000 in
set_option maxRecDepth 100000 in
theorem pany70_ix (gv L c : Nat) (A : Option Addr) (φ : Nat → Bool) (gx : Nat) (w : World) (hA : 0 < L → A = some ⟨gv, 0, none⟩) (hL : L ≤ 1000000) (hgx : w.heap[gx]? = some (.cells #[.func (.func 69) #[] #[]] 124 (0, 0))) (hrow : ∀ j, j < L → ∃ t l r c p xs, PRow w gv j t l r c ∧ Sees w t l p ∧ p.n = List.length xs ∧ p.n ≤ p.cap ∧ (Kd.int .i32).C w p.A p.n xs ∧ φ j = xs.any blob_great.p) :
  Calls Try.prog 90 #[.slice A L c, .func (.func 70) #[] #[.pointer (some ⟨gx, 0, none⟩)]] w fun e w' => ∃ r : Int, e = .returned (.int .i64 r) ∧ Aside0 (decide (0 ≤ r) = (List.range L).any φ) ∧ Below w.heap.size w w' := by
 have hu105 := Try.underlying105
 have HB := Aside0.mk (Below.refl w.heap.size w)
 have HA0 := Aside0.mk hA
 have HW := Aside0.mk hrow
 have hL1 := hL
 have GX0 := Aside0.mk hgx
 clear hgx
 clear hA hrow
 go_enter Try.func90, Try.ntmps90
 go_wp2
 go_loopw [8, 5] (fun i _ w' => ∃ n : Nat, n ≤ L ∧ i = .int .i64 n ∧ Aside0 ((List.range n).any φ = false) ∧ Aside0 (Below w.heap.size w w')) (fun i _ _ => L - (intOf i).toNat)
 case atStart => exact ⟨0, Nat.zero_le _, rfl, ⟨rfl⟩, HB⟩
 case round =>
  clear HB
  obtain ⟨n, hn, rfl, HA, HB⟩ := hrel
  by_cases c0 : n < L
  ·
   have c1 : decide ((n : Int) < (L : Int)) = true := decide_eq_true (by omega)
   have c2 : decide (n < L) = true := decide_eq_true c0
   obtain rfl := HA0.out (by omega)
   obtain ⟨t, l, r, cc, p, xs, hp, hs, hxn, hxc, hxs, hphi⟩ := HW.out n c0
   obtain ⟨hx0, hx1, hx2, hx3⟩ := hp.below HB.out
   have HS1 := Aside0.mk (hs.below HB.out)
   have HT := Aside0.mk (any_succ (φ := φ) HA.out)
   have HP := Aside0.mk hphi
   have HC0 := Aside0.mk c0
   have HXN := Aside0.mk hxn
   have HXC := Aside0.mk hxc
   have HXS := Aside0.mk (Kd.C_below hxs HB.out)
   clear hxn hxc hxs
   clear hp hs hphi
   generalize hq : φ n = q at HT HP
   have HQ := Aside0.mk hq
   clear hq
   cases q with
   | true =>
    go_wp2_with (first | (go_at_call 70; (with_reducible refine (pgreat.calls _ _ _ _ p gx xs _ HS1.out HXN.out HXC.out HXS.out (blk_below GX0.out HB.out)).mono ?_); rintro e w' ⟨rfl, hb⟩; rw [← HP.out]; replace HB := Aside0.mk (below_step HB.out hb); clear hb hx0 hx1 hx2 hx3))
    go_ret
    exact ⟨_, rfl, ⟨by rw [any_at HQ.out HC0.out]; simp⟩, HB.out⟩
   | false =>
    go_wp2_with (first | (go_at_call 70; (with_reducible refine (pgreat.calls _ _ _ _ p gx xs _ HS1.out HXN.out HXC.out HXS.out (blk_below GX0.out HB.out)).mono ?_); rintro e w' ⟨rfl, hb⟩; rw [← HP.out]; replace HB := Aside0.mk (below_step HB.out hb); clear hb hx0 hx1 hx2 hx3))
    exact ⟨⟨n + 1, by have := HC0.out; omega, by simp, HT, HB⟩, by have := HC0.out; simp only [intOf]; omega⟩
  ·
   have c1 : decide ((n : Int) < (L : Int)) = false := decide_eq_false (by omega)
   have c2 : decide (n < L) = false := decide_eq_false c0
   obtain rfl : n = L := by omega
   go_wp2
   go_ret
   exact ⟨_, rfl, ⟨by rw [HA.out]; rfl⟩, HB.out⟩
set_option maxHeartbeats 8000000 in
set_option maxRecDepth 100000 in
theorem pany70.calls (gv L c : Nat) (A : Option Addr) (φ : Nat → Bool) (gx : Nat) (w : World) (hA : 0 < L → A = some ⟨gv, 0, none⟩) (hL : L ≤ 1000000) (hgx : w.heap[gx]? = some (.cells #[.func (.func 69) #[] #[]] 124 (0, 0))) (hrow : ∀ j, j < L → ∃ t l r c p xs, PRow w gv j t l r c ∧ Sees w t l p ∧ p.n = List.length xs ∧ p.n ≤ p.cap ∧ (Kd.int .i32).C w p.A p.n xs ∧ φ j = xs.any blob_great.p) :
  Calls Try.prog 66 #[.slice A L c, .func (.func 70) #[] #[.pointer (some ⟨gx, 0, none⟩)]] w fun e w' => e = .returned (.bool ((List.range L).any φ)) ∧ Below w.heap.size w w' := by
 have CC := Aside0.mk (pany70_ix gv L c A φ gx w hA hL hgx hrow)
 have HB := Aside0.mk (Below.refl w.heap.size w)
 clear hA hrow hgx
 generalize (List.range L).any φ = q at CC ⊢
 go_enter Try.func66, Try.ntmps66
 go_wp2_with (first | (go_at_call 90; (with_reducible refine CC.out.mono ?_); rintro e w' ⟨r1, rfl, HE, hb⟩; replace HB := Aside0.mk hb; have hE := HE.out; have hE1 : decide (r1 ≥ 0) = q := hE; clear hb HE))
 go_ret
 exact ⟨by first | rfl | (simp [*]; done), HB.out⟩
def turn_Clone.f (l0 : List S115) : Option (List S115) := if l0.length < 1000 then some l0 else none
set_option maxHeartbeats 8000000 in
set_option maxRecDepth 100000 in
theorem turn_Clone.calls (A0 : Option Addr) (c0 : Nat) (l0 : List S115) (r : List S115) (w : World) (hr0 : Kd.C k115 w A0 l0.length l0) (hc0 : l0.length ≤ c0) (h : turn_Clone.f l0 = some r) :
  Calls Try.prog 93 #[.slice A0 l0.length c0] w fun e w' => ∃ v0_ : Value, e = .returned (v0_) ∧ Kd.R k115 115 w' w.heap.size (fun _ => True) v0_ r ∧ Below w.heap.size w w' := by
 unfold turn_Clone.f at h
 by_cases hlim : l0.length < 1000
 ·
  rw [if_pos hlim] at h
  obtain rfl := Option.some.inj h
  clear h
  have HR0 := Aside0.mk hr0
  have HL := Aside0.mk hlim
  have hz := hr0.2.2
  clear hr0 hlim hc0
  have hcmp : ∀ W : World, (binOp .eql 61 (.slice A0 l0.length c0) (.slice none 0 0)).run Try.prog W = .ok (.bool A0.isNone) W := fun W => Lib.run_eql_slice_nil W _ _ A0 _ _ _ _ Try.underlying61
  cases A0 with
  | none =>
   have hl0 : l0 = [] := by
    rcases Nat.eq_zero_or_pos l0.length with h0 | h0
    ·
     exact List.eq_nil_of_length_eq_zero h0
    ·
     obtain ⟨ad, had, _⟩ := hz h0
     cases had
   subst hl0
   clear hz
   simp only [List.length_nil, Option.isNone_none] at hcmp
   have HB := Aside0.mk (Below.refl w.heap.size w)
   go_enter Try.func93, Try.ntmps93
   go_wp2
   go_ret
   exact ⟨_, rfl, Kd.R_nil _ _ _ _ _, HB.out⟩
  | some ad =>
   clear hz
   simp only [Option.isNone_some] at hcmp
   have HB := Aside0.mk (Below.refl w.heap.size w)
   go_enter Try.func93, Try.ntmps93
   go_wp2_with (first | ((with_reducible refine gate_dst (N := 5) rfl ?_); (try (refine gate_guard (by rfl) ?_; dsimp only)); refine Kd.R_lit k115 _ 115 ?hg (N := 5) ?hd (xs := ([] : List S115)) (inner := []) (ok := fun _ => True) (okp := fun _ => True) ?hr ?hp (fun _ hk => hk) trivial (Below.refl _ _) (Nat.le_refl _) (by simp) ?_; (case hd => rfl); (case hg => rfl); (case hr => first | (go_simp; done) | (go_simp; rfl)); (case hp => exact (Reps.none _ _)); intro v188 w10 ho11 hb hg_ hnew_; clear hg_ hnew_; have n0_ := Aside0.mk (Kd.R_lower ho11 (below_size HB.out)); have n1_ := Aside0.mk (below_step HB.out hb); clear HB; have HO189 := n0_; have HB := n1_; clear n0_ n1_; clear hb ho11) | ((with_reducible refine gate_builtin (b := .append) (xs := #[.tmp 5, .tmp 6]) rfl ?_); (try (refine gate_guard (by rfl) ?_; dsimp only)); at_builtin; refine Kd.R_append_rows k115 (w0 := w) w.heap.size rfl (.tmp 5) (.tmp 6) 61 115 (.agg #[.int .i32 0, .int .i32 0]) 8 rfl Try.underlying61 (by kernel_rfl) rfl (by decide) (by omega) v188 [] l0 _ _ _ (fun _ => True) (fun _ => False) rfl rfl ?aO ?aR (fun _ _ h => h) (fun _ h => h.elim) ?aF ?aB ?aS ?aL ?_; (case aR => exact (Kd.C_below HR0.out HB.out)); (case aB => exact HB.out); (case aF => exact (fun _ _ => trivial)); (case aO => exact HO189.out); (case aS => exact (below_size HB.out)); (case aL => have := HL.out; simp; omega); intro v191 w12 ho hb hg hat; have n0_ := Aside0.mk (hb); have n1_ := Aside0.mk (ho); clear HB; clear HO189; have HB := n0_; have HO192 := n1_; clear n0_ n1_; clear ho hb hg hat))
   go_ret
   exact ⟨_, rfl, by simpa using HO192.out, HB.out⟩
 ·
  rw [if_neg hlim] at h
  cases h
def rope_New.e (k : Nat) (l : List S115) : Option Int := if l.length > 8 then some 12 else (rope_allRight.f k l).bind fun q => if q = true then some 0 else some 11
set_option maxHeartbeats 8000000 in
set_option maxRecDepth 100000 in
theorem rope_New.calls_e (k : Nat) (A : Option Addr) (c : Nat) (l : List S115) (r : Int) (w : World) (hr : Kd.C k115 w A l.length l) (hc : l.length ≤ c) (h : rope_New.e k l = some r) :
  Calls Try.prog 72 #[.slice A l.length c] w fun e w' => ∃ v : Value, e = .returned (.tuple #[v, .int .i64 r]) ∧ Below w.heap.size w w' := by
 have HR := Aside0.mk hr
 have HC := Aside0.mk hc
 have HB := Aside0.mk (Below.refl w.heap.size w)
 have hu165 := Try.underlying165
 unfold rope_New.e at h
 clear hr hc
 by_cases c1 : l.length > 8
 ·
  rw [if_pos c1] at h
  obtain rfl := Option.some.inj h
  have c2 : decide ((l.length : Int) > 8) = true := decide_eq_true (by omega)
  have c3 : decide (8 < (l.length : Int)) = true := decide_eq_true (by omega)
  have c4 : decide (8 < l.length) = true := decide_eq_true (by omega)
  clear h
  go_enter Try.func72, Try.ntmps72
  go_wp2
  go_ret2
  exact ⟨_, rfl, HB.out⟩
 ·
  rw [if_neg c1] at h
  have c2 : decide ((l.length : Int) > 8) = false := decide_eq_false (by omega)
  have c3 : decide (8 < (l.length : Int)) = false := decide_eq_false (by omega)
  have c4 : decide (8 < l.length) = false := decide_eq_false (by omega)
  have HL := Aside0.mk (show l.length < 1000 by omega)
  obtain ⟨q, hq, h⟩ := Option.bind_eq_some_iff.mp h
  have HQ := Aside0.mk hq
  clear hq
  cases q with
  | false =>
   obtain rfl := Option.some.inj (show some 11 = some r from h)
   clear h
   go_enter Try.func72, Try.ntmps72
   go_wp2_with (first | (go_at_call 92; (with_reducible refine (rope_allRight.calls k A c l _ _ HR.out HC.out HQ.out).mono ?_); rintro e w1 ⟨rfl, hb⟩; replace HB := Aside0.mk hb; clear hb))
   go_ret2
   exact ⟨_, rfl, HB.out⟩
  | true =>
   obtain rfl := Option.some.inj (show some 0 = some r from h)
   clear h
   have HCL := Aside0.mk (show turn_Clone.f l = some l from if_pos HL.out)
   go_enter Try.func72, Try.ntmps72
   go_wp2_with (first | (go_at_call 92; (with_reducible refine (rope_allRight.calls k A c l _ _ HR.out HC.out HQ.out).mono ?_); rintro e w1 ⟨rfl, hb⟩; replace HB := Aside0.mk hb; replace HR := Aside0.mk (Kd.C_below HR.out hb); clear hb) | (go_at_call 93; (with_reducible refine (turn_Clone.calls A c l l _ HR.out HC.out HCL.out).mono ?_); rintro e w2 ⟨v, rfl, ho, hb⟩; obtain ⟨A9, c9, rfl⟩ := Kd.R_slice ho; replace HB := Aside0.mk (below_step HB.out hb); clear ho hb))
   go_ret2
   exact ⟨_, rfl, by repeat (first | exact HB.out | apply below_alloc)⟩
/-- What is told of a part: rows and columns of a table, its numbers, and the size that it is to have. -/
structure PI where
 tab : Option (Int × Int)
 xs : List Int
 r : Int
 c : Int
def PI.ok (I : PI) : Bool := if (match I.tab with | some (R, C) => R != I.r || C != I.c | none => false) = true then false else (I.xs.length : Int) == wrap64 (I.r * I.c)
def PI.none_ : PI := ⟨none, [], 0, 0⟩
def lay1 (x : S120) (w kv q : Int) : List PI := [⟨none, x.f0, 1, w⟩, ⟨some (x.f1.f0, x.f1.f1), x.f1.f2, w, w⟩, ⟨some (x.f2.f0, x.f2.f1), x.f2.f2, kv, w⟩, ⟨some (x.f3.f0, x.f3.f1), x.f3.f2, kv, w⟩, ⟨some (x.f4.f0, x.f4.f1), x.f4.f2, w, w⟩]
def lay2 (x : S120) (w kv q : Int) : List PI := [⟨none, x.f5, 1, w⟩, ⟨some (x.f6.f0, x.f6.f1), x.f6.f2, q, w⟩, ⟨some (x.f7.f0, x.f7.f1), x.f7.f2, q, w⟩, ⟨some (x.f8.f0, x.f8.f1), x.f8.f2, w, q⟩]
def layI (w kv q : Int) (l : List S120) : List PI := l.flatMap (fun x => lay1 x w kv q ++ lay2 x w kv q)
def infos (v w kv q a7 a8 : Int) (l9 : List Int) (l10 : List S120) (l11 : List Int) (a12 a13 : Int) (l14 : List Int) : List PI :=
 (⟨some (a7, a8), l9, v, w⟩ :: layI w kv q l10) ++ [⟨none, l11, 1, w⟩, ⟨some (a12, a13), l14, v, w⟩]
def RowI (w : World) (row : List Value) (I : PI) : Prop := ∃ t l p, row = bp.one t l I.r I.c ∧ Sees w t l p ∧ p.tab = I.tab ∧ p.n = I.xs.length ∧ p.n ≤ p.cap ∧ (Kd.int .i32).C w p.A p.n I.xs
theorem RowI.below {w w' : World} {row : List Value} {I : PI} (h : RowI w row I) (hb : Below w.heap.size w w') : RowI w' row I := by
 obtain ⟨t, l, p, h1, h2, h3, h4, h5, h6⟩ := h
 exact ⟨t, l, p, h1, h2.below hb, h3, h4, h5, Kd.C_below h6 hb⟩
def RowsI (w : World) : List (List Value) → List PI → Prop
 | [], [] => True
 | r :: rs, I :: Is => RowI w r I ∧ RowsI w rs Is
 | _, _ => False
theorem RowsI.app {w : World} : ∀ {a : List (List Value)} {A : List PI} {b : List (List Value)} {B : List PI}, RowsI w a A → RowsI w b B → RowsI w (a ++ b) (A ++ B)
 | [], [], _, _, _, h => h
 | _ :: _, _ :: _, _, _, h1, h => ⟨h1.1, RowsI.app h1.2 h⟩
 | [], _ :: _, _, _, h1, _ => h1.elim
 | _ :: _, [], _, _, h1, _ => h1.elim
theorem RowsI.below {w w' : World} (hb : Below w.heap.size w w') : ∀ {a : List (List Value)} {A : List PI}, RowsI w a A → RowsI w' a A
 | [], [], h => h
 | _ :: _, _ :: _, h => ⟨h.1.below hb, RowsI.below hb h.2⟩
 | [], _ :: _, h => h.elim
 | _ :: _, [], h => h.elim
theorem RowsI.length {w : World} : ∀ {a : List (List Value)} {A : List PI}, RowsI w a A → a.length = A.length
 | [], [], _ => rfl
 | _ :: _, _ :: _, h => by rw [List.length_cons, List.length_cons, RowsI.length h.2]
 | [], _ :: _, h => h.elim
 | _ :: _, [], h => h.elim
theorem RowsI.at {w : World} : ∀ {a : List (List Value)} {A : List PI}, RowsI w a A → ∀ j, j < a.length → ∃ row I, a[j]? = some row ∧ A[j]? = some I ∧ RowI w row I
 | [], [], _, j, hj => by simp at hj
 | r :: _, I :: _, h, 0, _ => ⟨r, I, rfl, rfl, h.1⟩
 | _ :: _, _ :: _, h, j + 1, hj => by
  obtain ⟨row, I, h1, h2, h3⟩ := RowsI.at h.2 j (by simpa using hj)
  exact ⟨row, I, by simpa using h1, by simpa using h2, h3⟩
 | [], _ :: _, h, _, _ => h.elim
 | _ :: _, [], h, _, _ => h.elim
theorem add_any (g o j : Nat) : (⟨g, o, none⟩ : Addr).add j = ⟨g, o + j, none⟩ := by unfold Addr.add; simp
theorem spot_none {w : World} {a : Addr} {v : Value} (h : w.cell? a = some v) : a.spot = none := by
 unfold World.cell? at h
 split at h
 ·
  split at h
  ·
   cases h
  ·
   next hs => cases hq : a.spot with
   | none => rfl
   | some x => rw [hq] at hs; exact absurd rfl hs
 ·
  cases h
theorem plain_of {l : List S120} {w : World} {A : Option Addr} (h : Kd.C k120 w A l.length l) : ∃ g o, 0 < l.length → A = some ⟨g, o, none⟩ := by
 by_cases hl : 0 < l.length
 ·
  obtain ⟨ad, A0, c0, A3, c3, A6, c6, A9, c9, A12, c12, A13, c13, A16, c16, A19, c19, A22, c22, he, hx, hy⟩ := at_T120 h 0 (by omega) (by omega)
  obtain ⟨hx1, _⟩ := hy
  refine ⟨ad.block, ad.off, fun _ => ?_⟩
  rw [he]
  have hs := spot_none hx
  have hs2 : ad.spot = none := by have h_ := hs; unfold Addr.add at h_; simpa using h_
  rcases ad with ⟨b, o, s⟩
  subst hs2
  rfl
 ·
  exact ⟨0, 0, fun h => absurd h hl⟩
theorem layers_I {l : List S120} {w : World} {A : Option Addr} {gl ol : Nat} (h : Kd.C k120 w A l.length l) (hA : 0 < l.length → A = some ⟨gl, ol, none⟩) (W KV Q : Int) : ∀ n, n ≤ l.length → RowsI w (bp.layers gl ol W KV Q n) (layI W KV Q (l.take n))
 | 0, _ => by simp [bp.layers, layI, RowsI]
 | n + 1, hn => by
  have ih := layers_I h hA W KV Q n (by omega)
  have hlt : n < l.length := by omega
  obtain rfl := hA (by omega)
  obtain ⟨ad, A0, c0, A3, c3, A6, c6, A9, c9, A12, c12, A13, c13, A16, c16, A19, c19, A22, c22, he, hxs⟩ := at_T120 h (n : Int) (by omega) (by omega)
  cases he
  simp only [Int.toNat_natCast, add_any] at hxs
  have hrd : rd_T120 l (n : Int) = l[n] := by unfold rd_T120; rw [Int.toNat_natCast, List.getD_eq_getElem?_getD, List.getElem?_eq_getElem hlt]; rfl
  rw [hrd] at hxs
  rw [List.take_succ_eq_append_getElem hlt]
  unfold layI at ih ⊢
  rw [List.flatMap_append]
  refine RowsI.app ih ?_
  simp only [List.flatMap_cons, List.flatMap_nil, List.append_nil]
  generalize l[n] = x at hxs
  obtain ⟨y0, y1, y2, y3, y4, y5, y6, y7, y8, y9, y10, y11, y12, y13, y14, y15, y16, y17, y18, y19, y20, y21, y22, l0, g0, l3, g3, l6, g6, l9, g9, l12, g12, l13, g13, l16, g16, l19, g19, l22, g22⟩ := hxs
  refine RowsI.app ⟨⟨_, _, ⟨none, A0, _, c0⟩, rfl, .inr ⟨rfl, rfl, _, _, rfl, y0⟩, rfl, rfl, l0, g0⟩, ?_, ?_, ?_, ?_, trivial⟩ ⟨⟨_, _, ⟨none, A13, _, c13⟩, rfl, .inr ⟨rfl, rfl, _, _, rfl, y13⟩, rfl, rfl, l13, g13⟩, ?_, ?_, ?_, trivial⟩
  ·
   exact ⟨_, _, ⟨some (_, _), A3, _, c3⟩, rfl, .inl ⟨_, _, _, _, rfl, rfl, y1, y2, y3⟩, rfl, rfl, l3, g3⟩
  ·
   exact ⟨_, _, ⟨some (_, _), A6, _, c6⟩, rfl, .inl ⟨_, _, _, _, rfl, rfl, y4, y5, y6⟩, rfl, rfl, l6, g6⟩
  ·
   exact ⟨_, _, ⟨some (_, _), A9, _, c9⟩, rfl, .inl ⟨_, _, _, _, rfl, rfl, y7, y8, y9⟩, rfl, rfl, l9, g9⟩
  ·
   exact ⟨_, _, ⟨some (_, _), A12, _, c12⟩, rfl, .inl ⟨_, _, _, _, rfl, rfl, y10, y11, y12⟩, rfl, rfl, l12, g12⟩
  ·
   exact ⟨_, _, ⟨some (_, _), A16, _, c16⟩, rfl, .inl ⟨_, _, _, _, rfl, rfl, y14, y15, y16⟩, rfl, rfl, l16, g16⟩
  ·
   exact ⟨_, _, ⟨some (_, _), A19, _, c19⟩, rfl, .inl ⟨_, _, _, _, rfl, rfl, y17, y18, y19⟩, rfl, rfl, l19, g19⟩
  ·
   exact ⟨_, _, ⟨some (_, _), A22, _, c22⟩, rfl, .inl ⟨_, _, _, _, rfl, rfl, y20, y21, y22⟩, rfl, rfl, l22, g22⟩
/-- All parts of a boxed blob. -/
theorem all_I {gb gl ol : Nat} {x0 x1 x2 x3 x4 x5 a7 a8 a12 a13 : Int} {v6 : Value} {A9 A10 A11 A14 : Option Addr} {c9 c10 c11 c14 : Nat} {l9 l11 l14 : List Int} {l10 : List S120} {w : World}
  (hg : w.heap[gb]? = some (.cells #[.int .i64 x0, .int .i64 x1, .int .i64 x2, .int .i64 x3, .int .i64 x4, .int .i64 x5, v6, .int .i64 a7, .int .i64 a8, .slice A9 l9.length c9, .slice A10 l10.length c10, .slice A11 l11.length c11, .int .i64 a12, .int .i64 a13, .slice A14 l14.length c14] 67 (0, 0)))
  (h9 : (Kd.int .i32).C w A9 l9.length l9) (k9 : l9.length ≤ c9) (h10 : Kd.C k120 w A10 l10.length l10) (hA : 0 < l10.length → A10 = some ⟨gl, ol, none⟩) (h11 : (Kd.int .i32).C w A11 l11.length l11) (k11 : l11.length ≤ c11) (h14 : (Kd.int .i32).C w A14 l14.length l14) (k14 : l14.length ≤ c14) (v W KV Q : Int) :
  RowsI w (bp.all gb gl ol l10.length v W KV Q) (infos v W KV Q a7 a8 l9 l10 l11 a12 a13 l14) := by
 have hc : ∀ i u, (#[.int .i64 x0, .int .i64 x1, .int .i64 x2, .int .i64 x3, .int .i64 x4, .int .i64 x5, v6, .int .i64 a7, .int .i64 a8, .slice A9 l9.length c9, .slice A10 l10.length c10, .slice A11 l11.length c11, .int .i64 a12, .int .i64 a13, .slice A14 l14.length c14] : Array Value)[i]? = some u → w.cell? ⟨gb, i, none⟩ = some u := fun i u h => (blk_cell hg i).trans h
 have hl := layers_I h10 hA W KV Q l10.length (Nat.le_refl _)
 rw [List.take_length] at hl
 unfold bp.all infos
 refine RowsI.app ⟨⟨_, _, ⟨some (_, _), A9, _, c9⟩, rfl, .inl ⟨gb, 7, _, _, rfl, rfl, hc 7 _ rfl, hc 8 _ rfl, hc 9 _ rfl⟩, rfl, rfl, k9, h9⟩, hl⟩ ⟨⟨_, _, ⟨none, A11, _, c11⟩, rfl, .inr ⟨rfl, rfl, gb, 11, rfl, hc 11 _ rfl⟩, rfl, rfl, k11, h11⟩, ⟨_, _, ⟨some (_, _), A14, _, c14⟩, rfl, .inl ⟨gb, 12, _, _, rfl, rfl, hc 12 _ rfl, hc 13 _ rfl, hc 14 _ rfl⟩, rfl, rfl, k14, h14⟩, trivial⟩
theorem range_any {α : Type} (f : α → Bool) (d : α) (l : List α) : (List.range l.length).any (fun j => f (l.getD j d)) = l.any f := by
 rw [Bool.eq_iff_iff, List.any_eq_true, List.any_eq_true]
 constructor
 ·
  rintro ⟨j, hj, h⟩
  have hj := List.mem_range.mp hj
  rw [List.getD_eq_getElem?_getD, List.getElem?_eq_getElem hj] at h
  exact ⟨_, List.getElem_mem hj, h⟩
 ·
  rintro ⟨x, hx, h⟩
  obtain ⟨j, hj, rfl⟩ := List.mem_iff_getElem.mp hx
  exact ⟨j, List.mem_range.mpr hj, by rw [List.getD_eq_getElem?_getD, List.getElem?_eq_getElem hj]; exact h⟩
/-- A row of parts, read. -/
theorem prow_of {w : World} {base c : Nat} {ok : Nat → Prop} {gv L : Nat} {rows : List (List Value)} (h : (Kd.raw 4).R 105 w base ok (.slice (some ⟨gv, 0, none⟩) L c) rows) {j : Nat} {t l : Option Addr} {r cc : Int} (hj : rows[j]? = some (bp.one t l r cc)) : PRow w gv j t l r cc := by
 have hr := Kd.R_reads' h
 have hjl : j < rows.length := (List.getElem?_eq_some_iff.1 hj).1
 obtain ⟨cs, hcl, ⟨hcs, -, -⟩, hcc⟩ := Kd.R_getA h [] (j : Int) (by omega) (by omega)
 have hgd : rows.getD ((j : Int).toNat) [] = bp.one t l r cc := by rw [List.getD_eq_getElem?_getD, Int.toNat_natCast, hj]; rfl
 rw [hgd] at hcs
 subst hcs
 have h0 := hcc 0 _ rfl
 have h1 := hcc 1 _ rfl
 have h2 := hcc 2 _ rfl
 have h3 := hcc 3 _ rfl
 rw [add_plain] at h0 h1 h2 h3
 simp only [Int.toNat_natCast, Kd.raw, Nat.add_zero] at h0 h1 h2 h3
 exact ⟨h0, h1, h2, h3⟩
theorem okI {p : PV} {I : PI} (h : p.tab = I.tab) (hn : p.n = I.xs.length) : p.ok I.r I.c = I.ok := by
 unfold PV.ok PI.ok
 rw [h, hn] <;> rfl

theorem infos_len {l : List S120} (h : l.length ≤ 100000) : ((l.map (fun x => (lay1 x (0 : Int) 0 0 ++ lay2 x 0 0 0).length)).sum + 1) + 2 ≤ 1000000 := by
 have : ∀ l : List S120, (l.map (fun x => (lay1 x (0 : Int) 0 0 ++ lay2 x 0 0 0).length)).sum = 9 * l.length := by
  intro l
  induction l with
  | nil => rfl
  | cons x l ih => rw [List.map_cons, List.sum_cons, ih, List.length_cons]; simp only [lay1, lay2, List.length_append, List.length_cons, List.length_nil]; omega
 rw [this]
 omega
theorem row_plain {w : World} {base c L : Nat} {ok : Nat → Prop} {A : Option Addr} {rows : List (List Value)} (h : (Kd.raw 4).R 105 w base ok (.slice A L c) rows) : ∃ gv, 0 < L → A = some ⟨gv, 0, none⟩ := by
 by_cases hl : 0 < L
 ·
  have hr := Kd.R_reads' h
  obtain ⟨gv, cap, he, -, -, -⟩ := Kd.R_form h (by omega)
  injection he with e1 e2 e3
  exact ⟨gv, fun _ => e1⟩
 ·
  exact ⟨0, fun h => absurd h hl⟩
theorem rows_pick {w : World} {base c L : Nat} {ok : Nat → Prop} {A : Option Addr} {gv : Nat} {rows : List (List Value)} {Is : List PI} (h : (Kd.raw 4).R 105 w base ok (.slice A L c) rows) (hA : 0 < L → A = some ⟨gv, 0, none⟩) (hI : RowsI w rows Is) :
  ∀ j, j < L → ∃ t l r c p, PRow w gv j t l r c ∧ Sees w t l p ∧ (fun j => !(Is.getD j PI.none_).ok) j = !p.ok r c := by
 intro j hj
 have hr := Kd.R_reads' h
 obtain rfl := hA (by omega)
 obtain ⟨row, I, h1, h2, t, l, p, rfl, hs, ht, hn, hc, hx⟩ := hI.at j (by omega)
 refine ⟨t, l, I.r, I.c, p, prow_of h h1, hs, ?_⟩
 rw [okI ht hn]
 show (!(Is.getD j PI.none_).ok) = !I.ok
 rw [List.getD_eq_getElem?_getD, h2]
 rfl
theorem rows_great {w : World} {base c L : Nat} {ok : Nat → Prop} {A : Option Addr} {gv : Nat} {rows : List (List Value)} {Is : List PI} (h : (Kd.raw 4).R 105 w base ok (.slice A L c) rows) (hA : 0 < L → A = some ⟨gv, 0, none⟩) (hI : RowsI w rows Is) :
  ∀ j, j < L → ∃ t l r c p xs, PRow w gv j t l r c ∧ Sees w t l p ∧ p.n = List.length xs ∧ p.n ≤ p.cap ∧ (Kd.int .i32).C w p.A p.n xs ∧ (fun j => (Is.getD j PI.none_).xs.any blob_great.p) j = xs.any blob_great.p := by
 intro j hj
 have hr := Kd.R_reads' h
 obtain rfl := hA (by omega)
 obtain ⟨row, I, h1, h2, t, l, p, rfl, hs, ht, hn, hc, hx⟩ := hI.at j (by omega)
 refine ⟨t, l, I.r, I.c, p, I.xs, prow_of h h1, hs, hn, hc, hx, ?_⟩
 show ((Is.getD j PI.none_).xs.any blob_great.p) = _
 rw [List.getD_eq_getElem?_getD, h2]
 rfl
def blob_Right.rest (k : Nat) (b1 b2 u g : Bool) (l : List S115) : Option Int := if b1 = true then some 25 else if b2 = true then some 25 else if u = true then some 25 else if g = true then some 11 else rope_New.e k l
def blob_Right.f (k : Nat) (a0_0 : Int) (a0_1 : Int) (a0_2 : Int) (a0_3 : Int) (a0_4 : Int) (a0_5 : Int) (l0_6 : List (S115)) (a0_7 : Int) (a0_8 : Int) (l0_9 : List Int) (l0_10 : List (S120)) (l0_11 : List Int) (a0_12 : Int) (a0_13 : Int) (l0_14 : List Int) : Option Int :=
 (blob_Config_Right.f a0_0 a0_1 a0_2 a0_3 a0_4 a0_5).bind fun q => if q = true then (if l0_10.length ≤ 100000 then blob_Right.rest k ((l0_10.length : Int) != a0_0) ((l0_6.length : Int) != (wrap64 (Int.tdiv a0_3 2))) ((infos a0_5 (wrap64 (a0_1 * a0_3)) (wrap64 (a0_2 * a0_3)) a0_4 a0_7 a0_8 l0_9 l0_10 l0_11 a0_12 a0_13 l0_14).any (fun I => !I.ok)) ((infos a0_5 (wrap64 (a0_1 * a0_3)) (wrap64 (a0_2 * a0_3)) a0_4 a0_7 a0_8 l0_9 l0_10 l0_11 a0_12 a0_13 l0_14).any (fun I => I.xs.any blob_great.p)) l0_6 else none) else some 11
theorem blob_Right.mono : ∀ a0_0 a0_1 a0_2 a0_3 a0_4 a0_5 l0_6 a0_7 a0_8 l0_9 l0_10 l0_11 a0_12 a0_13 l0_14 k, LeO (blob_Right.f k a0_0 a0_1 a0_2 a0_3 a0_4 a0_5 l0_6 a0_7 a0_8 l0_9 l0_10 l0_11 a0_12 a0_13 l0_14) (blob_Right.f (k + 1) a0_0 a0_1 a0_2 a0_3 a0_4 a0_5 l0_6 a0_7 a0_8 l0_9 l0_10 l0_11 a0_12 a0_13 l0_14) := by
 intro a0_0 a0_1 a0_2 a0_3 a0_4 a0_5 l0_6 a0_7 a0_8 l0_9 l0_10 l0_11 a0_12 a0_13 l0_14 k
 unfold blob_Right.f blob_Right.rest rope_New.e
 repeat' first
  | (with_reducible exact rope_allRight.mono _ _)
  | (with_reducible exact LeO.refl _)
  | (with_reducible exact LeO.none _)
  | (with_reducible refine LeO.ite ?_ ?_)
  | (with_reducible refine LeO.bind ?_ (fun _ => ?_))
theorem run_store_fn (P : Program) (w : World) (a : Addr) (m : Mode) (f : Fn) (x y : Array Value) : (store a (.func f x y) m).run P w = stored P w a (.func f x y) m := run_store P w a _ m rfl
theorem run_makeFn (P : Program) (fn : Fn) (first cap : Array Value) (w : World) : (Instr.makeFunc fn first cap).run P w = .ok (.func fn first cap) w := rfl
attribute [local go_sem] run_store_fn run_makeFn
set_option maxHeartbeats 8000000 in
set_option maxRecDepth 100000 in
theorem blob_Right.calls (k : Nat) (a0_0 : Int) (a0_1 : Int) (a0_2 : Int) (a0_3 : Int) (a0_4 : Int) (a0_5 : Int) (A0_6 : Option Addr) (c0_6 : Nat) (l0_6 : List (S115)) (a0_7 : Int) (a0_8 : Int) (A0_9 : Option Addr) (c0_9 : Nat) (l0_9 : List Int) (A0_10 : Option Addr) (c0_10 : Nat) (l0_10 : List (S120)) (A0_11 : Option Addr) (c0_11 : Nat) (l0_11 : List Int) (a0_12 : Int) (a0_13 : Int) (A0_14 : Option Addr) (c0_14 : Nat) (l0_14 : List Int) (r : Int) (w : World) (hr0_6 : Kd.C k115 w A0_6 l0_6.length l0_6) (hc0_6 : l0_6.length ≤ c0_6) (hr0_9 : Kd.C (Kd.int .i32) w A0_9 l0_9.length l0_9) (hc0_9 : l0_9.length ≤ c0_9) (hr0_10 : Kd.C k120 w A0_10 l0_10.length l0_10) (hc0_10 : l0_10.length ≤ c0_10) (hr0_11 : Kd.C (Kd.int .i32) w A0_11 l0_11.length l0_11) (hc0_11 : l0_11.length ≤ c0_11) (hr0_14 : Kd.C (Kd.int .i32) w A0_14 l0_14.length l0_14) (hc0_14 : l0_14.length ≤ c0_14) (h : blob_Right.f k a0_0 a0_1 a0_2 a0_3 a0_4 a0_5 l0_6 a0_7 a0_8 l0_9 l0_10 l0_11 a0_12 a0_13 l0_14 = some r) :
  Calls Try.prog 33 #[.agg #[.int .i64 a0_0, .int .i64 a0_1, .int .i64 a0_2, .int .i64 a0_3, .int .i64 a0_4, .int .i64 a0_5, .slice A0_6 l0_6.length c0_6, .int .i64 a0_7, .int .i64 a0_8, .slice A0_9 l0_9.length c0_9, .slice A0_10 l0_10.length c0_10, .slice A0_11 l0_11.length c0_11, .int .i64 a0_12, .int .i64 a0_13, .slice A0_14 l0_14.length c0_14]] w fun e w' => e = .returned (.int .i64 r) ∧ Below w.heap.size w w' := by
 have hu54 := Try.underlying54
 have hu67 := Try.underlying67
 have hu105 := Try.underlying105
 have HB := Aside0.mk (Below.refl w.heap.size w)
 have HR6 := Aside0.mk hr0_6
 have HC6 := Aside0.mk hc0_6
 clear hr0_6 hc0_6
 have HR9 := Aside0.mk hr0_9
 have HC9 := Aside0.mk hc0_9
 clear hr0_9 hc0_9
 have HR10 := Aside0.mk hr0_10
 have HC10 := Aside0.mk hc0_10
 clear hr0_10 hc0_10
 have HR11 := Aside0.mk hr0_11
 have HC11 := Aside0.mk hc0_11
 clear hr0_11 hc0_11
 have HR14 := Aside0.mk hr0_14
 have HC14 := Aside0.mk hc0_14
 clear hr0_14 hc0_14
 unfold blob_Right.f at h
 obtain ⟨q, hq, h⟩ := Option.bind_eq_some_iff.mp h
 have HQ := Aside0.mk hq
 clear hq
 cases q with
 | false =>
  obtain rfl := Option.some.inj (show some 11 = some r from h)
  clear h
  go_enter Try.func33, Try.ntmps33
  go_wp2_with (first | ((with_reducible refine gate_dst (N := 1) rfl ?_); refine box_event ?hg (N := 1) ?hd (cs := #[.int .i64 a0_0, .int .i64 a0_1, .int .i64 a0_2, .int .i64 a0_3, .int .i64 a0_4, .int .i64 a0_5, .slice A0_6 l0_6.length c0_6, .int .i64 a0_7, .int .i64 a0_8, .slice A0_9 l0_9.length c0_9, .slice A0_10 l0_10.length c0_10, .slice A0_11 l0_11.length c0_11, .int .i64 a0_12, .int .i64 a0_13, .slice A0_14 l0_14.length c0_14]) (t := 67) ?hr ?_; (case hd => rfl); (case hg => rfl); (case hr => first | (go_simp; done) | (go_simp; rfl)); intro gb hg w1 hbox hb; have hz1 := bx15 hbox; have BK := Aside0.mk hbox; replace HB := Aside0.mk hb; clear hbox hb hg) | (go_at_call 24; (with_reducible refine (blob_Config_Right.calls a0_0 a0_1 a0_2 a0_3 a0_4 a0_5 _ _ HQ.out).mono ?_); rintro e w2 ⟨rfl, hb⟩; replace HB := Aside0.mk (below_step HB.out hb); replace BK := Aside0.mk (blk_below BK.out hb); clear hb hz1))
  go_ret
  exact ⟨rfl, HB.out⟩
 | true =>
  rw [if_pos rfl] at h
  by_cases hn : l0_10.length ≤ 100000
  case neg => (rw [if_neg hn] at h; cases h)
  rw [if_pos hn] at h
  have HN := Aside0.mk hn
  obtain ⟨Is, hIs⟩ : ∃ l, infos a0_5 (wrap64 (a0_1 * a0_3)) (wrap64 (a0_2 * a0_3)) a0_4 a0_7 a0_8 l0_9 l0_10 l0_11 a0_12 a0_13 l0_14 = l := ⟨_, rfl⟩
  have HIS := Aside0.mk hIs
  rw [hIs] at h
  obtain ⟨b1, hb1⟩ : ∃ b, ((l0_10.length : Int) != a0_0) = b := ⟨_, rfl⟩
  obtain ⟨b2, hb2⟩ : ∃ b, ((l0_6.length : Int) != (wrap64 (Int.tdiv a0_3 2))) = b := ⟨_, rfl⟩
  obtain ⟨u, hu⟩ : ∃ b, Is.any (fun I => !I.ok) = b := ⟨_, rfl⟩
  obtain ⟨gr, hgr⟩ : ∃ b, Is.any (fun I => I.xs.any blob_great.p) = b := ⟨_, rfl⟩
  rw [hb1, hb2, hu, hgr] at h
  have HH := Aside0.mk h
  have HU := Aside0.mk hu
  have HGR := Aside0.mk hgr
  clear h hIs hn hu hgr
  obtain ⟨gl, ol, hgl⟩ := plain_of HR10.out
  have HGL := Aside0.mk hgl
  clear hgl
  go_enter Try.func33, Try.ntmps33
  go_upto_region 4 with (first | ((with_reducible refine gate_dst (N := 1) rfl ?_); refine box_event ?hg (N := 1) ?hd (cs := #[.int .i64 a0_0, .int .i64 a0_1, .int .i64 a0_2, .int .i64 a0_3, .int .i64 a0_4, .int .i64 a0_5, .slice A0_6 l0_6.length c0_6, .int .i64 a0_7, .int .i64 a0_8, .slice A0_9 l0_9.length c0_9, .slice A0_10 l0_10.length c0_10, .slice A0_11 l0_11.length c0_11, .int .i64 a0_12, .int .i64 a0_13, .slice A0_14 l0_14.length c0_14]) (t := 67) ?hr ?_; (case hd => rfl); (case hg => rfl); (case hr => first | (go_simp; done) | (go_simp; rfl)); intro gb hg w1 hbox hb; have hz1 := bx15 hbox; have BK := Aside0.mk hbox; replace HB := Aside0.mk hb; clear hbox hb hg) | (go_at_call 24; (with_reducible refine (blob_Config_Right.calls a0_0 a0_1 a0_2 a0_3 a0_4 a0_5 _ _ HQ.out).mono ?_); rintro e w2 ⟨rfl, hb⟩; replace HB := Aside0.mk (below_step HB.out hb); replace BK := Aside0.mk (blk_below BK.out hb); clear hb hz1) | (go_at_call 57; (with_reducible refine (bp.calls gb gl ol l0_10.length c0_10 A0_10 a0_0 a0_1 a0_2 a0_3 a0_4 a0_5 _ _ _ _ _ _ _ _ _ BK.out HGL.out (Nat.le_trans HN.out (by decide))).mono ?_); rintro e w3 ⟨v, rfl, hv, hb⟩; have HV := Aside0.mk (Kd.R_lower hv (below_size HB.out)); replace HB := Aside0.mk (below_step HB.out hb); replace BK := Aside0.mk (blk_below BK.out hb); obtain ⟨A, c, rfl⟩ := Kd.R_slice hv; clear hb hv))
  have HRI := Aside0.mk (all_I BK.out (Kd.C_below HR9.out HB.out) HC9.out (Kd.C_below HR10.out HB.out) HGL.out (Kd.C_below HR11.out HB.out) HC11.out (Kd.C_below HR14.out HB.out) HC14.out a0_5 (wrap64 (a0_1 * a0_3)) (wrap64 (a0_2 * a0_3)) a0_4)
  rw [HIS.out] at HRI
  generalize bp.all gb gl ol l0_10.length a0_5 (wrap64 (a0_1 * a0_3)) (wrap64 (a0_2 * a0_3)) a0_4 = rows at HRI HV ⊢
  have HLE := Aside0.mk HRI.out.length
  have HNI : Aside0 (Is.length ≤ 1000000) := ⟨by rw [← HIS.out]; have := HN.out; simp only [infos, layI, List.length_append, List.length_cons, List.length_nil, List.length_flatMap]; exact infos_len this⟩
  obtain ⟨gv, hgv⟩ := row_plain HV.out
  have HGV := Aside0.mk hgv
  clear hgv
  have HROW := Aside0.mk (rows_pick HV.out HGV.out HRI.out)
  have HMIX := Aside0.mk (rows_great HV.out HGV.out HRI.out)
  go_upto_region 5 with (first | (go_at_call 66; (with_reducible refine (pany67.calls gv _ c A (fun j => !(Is.getD j PI.none_).ok) _ HGV.out ?hl HROW.out).mono ?_); (case hl => rw [HLE.out]; exact HNI.out); rintro e w4 ⟨rfl, hb⟩; rw [show (List.range rows.length).any (fun j => !(Is.getD j PI.none_).ok) = u from by rw [HLE.out]; exact (range_any (fun I => !I.ok) PI.none_ Is).trans HU.out]; replace HV := Aside0.mk (Kd.R_below HV.out hb); replace HRI := Aside0.mk (HRI.out.below hb); replace BK := Aside0.mk (blk_below BK.out hb); replace HB := Aside0.mk (below_step HB.out hb); clear hb HROW HMIX))
  have hz5 := bx15 BK.out
  cases b1 with
  | true =>
   obtain rfl := Option.some.inj (show some 25 = some r from HH.out)
   go_wp2
   go_ret
   exact ⟨rfl, HB.out⟩
  | false =>
   cases b2 with
   | true =>
    obtain rfl := Option.some.inj (show some 25 = some r from HH.out)
    go_wp2
    go_ret
    exact ⟨rfl, HB.out⟩
   | false =>
    cases u with
    | true =>
     obtain rfl := Option.some.inj (show some 25 = some r from HH.out)
     go_wp2
     go_ret
     exact ⟨rfl, HB.out⟩
    | false =>
     go_upto_region 8 with (first | ((with_reducible refine gate_dst (N := 5) rfl ?_); refine box_event ?hg (N := 5) ?hd (cs := #[.nilFunc]) (t := 124) ?hr ?_; (case hd => rfl); (case hg => rfl); (case hr => first | (go_simp; done) | (go_simp; rfl)); intro gx hg_ w5 hbox hb; have GO := Aside0.mk (by rw [hg_]; exact Nat.le_refl _ : w4.heap.size ≤ gx); have GX := Aside0.mk hbox; have HX := Aside0.mk hb; have hzf := blk_frozen hbox; have hzc : w5.cell? ⟨gx, 0, none⟩ = some .nilFunc := (blk_cell hbox 0).trans rfl; clear hbox hb hg_))
     have HX6 := Aside0.mk (HX.out.setCell (p := ⟨gx, 0, none⟩) GO.out (.func (.func 69) #[] #[]))
     replace GX := Aside0.mk (blk_put GX.out 0 (.func (.func 69) #[] #[]) (cs' := #[.func (.func 69) #[] #[]]) rfl)
     generalize w5.setCell ⟨gx, 0, none⟩ (.func (.func 69) #[] #[]) = w6 at HX6 GX ⊢
     replace HV := Aside0.mk (Kd.R_below HV.out HX6.out)
     replace HRI := Aside0.mk (HRI.out.below HX6.out)
     replace BK := Aside0.mk (blk_below BK.out HX6.out)
     replace HB := Aside0.mk (below_step HB.out HX6.out)
     have HMIX := Aside0.mk (rows_great HV.out HGV.out HRI.out)
     clear HX HX6 hz5 hzf hzc GO
     cases gr with
     | true =>
      obtain rfl := Option.some.inj (show some 11 = some r from HH.out)
      go_wp2_with (first | (go_at_call 66; (with_reducible refine (pany70.calls gv _ c A (fun j => (Is.getD j PI.none_).xs.any blob_great.p) gx _ HGV.out ?hl GX.out HMIX.out).mono ?_); (case hl => rw [HLE.out]; exact HNI.out); rintro e w7 ⟨rfl, hb⟩; rw [show (List.range rows.length).any (fun j => (Is.getD j PI.none_).xs.any blob_great.p) = true from by rw [HLE.out]; exact (range_any (fun I => I.xs.any blob_great.p) PI.none_ Is).trans HGR.out]; replace BK := Aside0.mk (blk_below BK.out hb); replace HB := Aside0.mk (below_step HB.out hb); clear hb HMIX; have hz9 := bx15 BK.out))
      go_ret
      exact ⟨rfl, HB.out⟩
     | false =>
      have HE : Aside0 (rope_New.e k l0_6 = some r) := ⟨by have h_ := HH.out; unfold blob_Right.rest at h_; simpa using h_⟩
      go_wp2_with (first | (go_at_call 66; (with_reducible refine (pany70.calls gv _ c A (fun j => (Is.getD j PI.none_).xs.any blob_great.p) gx _ HGV.out ?hl GX.out HMIX.out).mono ?_); (case hl => rw [HLE.out]; exact HNI.out); rintro e w7 ⟨rfl, hb⟩; rw [show (List.range rows.length).any (fun j => (Is.getD j PI.none_).xs.any blob_great.p) = false from by rw [HLE.out]; exact (range_any (fun I => I.xs.any blob_great.p) PI.none_ Is).trans HGR.out]; replace BK := Aside0.mk (blk_below BK.out hb); replace HB := Aside0.mk (below_step HB.out hb); clear hb HMIX; have hz9 := bx15 BK.out) | (go_at_call 72; (with_reducible refine (rope_New.calls_e k _ _ l0_6 r _ (Kd.C_below HR6.out HB.out) HC6.out HE.out).mono ?_); rintro e w8 ⟨vt, rfl, hb⟩; replace HB := Aside0.mk (below_step HB.out hb); clear hb hz9))
      go_ret
      exact ⟨rfl, HB.out⟩

end Go.Proofs.Ytehepnmagcjkaaa.PBlobParses
