-- Written by a program of this session (wip/tools/mkprint.py over the kit's print).
import Derived.Test.YtehepnmagcjkaaaPBlobParsesx0
import Derived.Test.YtehepnmagcjkaaaPBlobParsesx2
import Derived.Test.YtehepnmagcjkaaaPBlobParsesx3
import Derived.Test.YtehepnmagcjkaaaPBlobParsesx5
import Derived.Test.YtehepnmagcjkaaaPBlobParsesx9
namespace Go.Proofs.Ytehepnmagcjkaaa.PBlobParses
open Go.RowKit Go.Proofs.YtehepnmagcjkaaaW.PrintWords Go.Proofs.YtehepnmagcjkaaaW.PrintLast Go.Proofs.YtehepnmagcjkaaaW.PrintMore
attribute [local go_sem] max2_int min2_int max_two min_two max_three min_three max_four min_four   -- for this text's walks alone
set_option linter.unusedVariables false
set_option linter.unusedSimpArgs false

/-! ### blob_Equal: function 36 -/
theorem cell_drew' {w : World} {a : Addr} {v : Value} (h : w.cell? a = some v) : w.drew.cell? a = some v := h
/-- Are two parts one? -/
def psame.f (k : Nat) (P Q : PI) : Option Bool :=
 match P.tab, Q.tab with
 | some T, some U => mat_Equal.f k T.1 T.2 P.xs U.1 U.2 Q.xs
 | none, none => slices_Equal_int32_int32.f k P.xs Q.xs
 | _, _ => some false
def SeesI (w : World) (t l : Option Addr) (I : PI) : Prop := ∃ A c, I.xs.length ≤ c ∧ (Kd.int .i32).C w A I.xs.length I.xs ∧ Sees w t l ⟨I.tab, A, I.xs.length, c⟩
theorem SeesI.below {w w' : World} {t l : Option Addr} {I : PI} (h : SeesI w t l I) (hb : Below w.heap.size w w') : SeesI w' t l I := by
 obtain ⟨A, c, h1, h2, h3⟩ := h
 exact ⟨A, c, h1, Kd.C_below h2 hb, h3.below hb⟩
theorem RowI.sees {w : World} {row : List Value} {I : PI} (h : RowI w row I) : ∃ t l, row = bp.one t l I.r I.c ∧ SeesI w t l I := by
 obtain ⟨t, l, ⟨tab, A, n, cap⟩, h1, h2, rfl, rfl, h5, h6⟩ := h
 exact ⟨t, l, h1, A, cap, h5, h6, h2⟩
def psame.T2 : Bool × List (List Nat × List Nat) := (true, [([], []), ([0], [0]), ([1], [1]), ([2], [2]), ([], []), ([4], [4]), ([5], [5]), ([6], [6]), ([3, 7], [3, 7]), ([8, 8, 0, 1, 2, 3, 4, 5, 6, 7, 8], [8])])
def psame.B2 : List Nat := [0, 1, 3, 7, 0, 16, 48, 112, 255, 511]
theorem psame.tab2 : rtab .any (opsOf Try.f78 2) = psame.T2 := by kernel_rfl
theorem psame.bits2 : waitsOk psame.T2.2 psame.B2 = true := by kernel_rfl
def psame.T3 : Bool × List (List Nat × List Nat) := (true, [([], []), ([0], [0]), ([1], [1]), ([2], [2]), ([3], [3]), ([4, 3], [3, 4]), ([5, 3], [3, 5]), ([3, 6], [3, 6]), ([7, 3], [7]), ([8], [8]), ([9, 8], [8, 9]), ([10, 8], [8, 10]), ([11, 8], [8, 11]), ([8], [8]), ([13, 8], [8, 13]), ([14, 8], [8, 14]), ([15, 8], [8, 15]), ([12, 16, 8, 8], [8, 12, 16]), ([8, 17], [8, 17]), ([18, 17, 0, 1, 2, 3, 4, 5, 6, 7, 8, 9, 10, 11, 12, 13, 14, 15, 16, 17, 18], [18])])
def psame.B3 : List Nat := [0, 1, 3, 7, 15, 31, 63, 127, 255, 511, 1023, 2047, 4095, 511, 8703, 25087, 57855, 131071, 262143, 524287]
theorem psame.tab3 : rtab .any (opsOf Try.f78 3) = psame.T3 := by kernel_rfl
theorem psame.bits3 : waitsOk psame.T3.2 psame.B3 = true := by kernel_rfl
set_option maxHeartbeats 8000000 in
set_option maxRecDepth 100000 in
theorem psame.calls (k : Nat) (t l t' l' : Option Addr) (r c r' c' : Int) (P Q : PI) (b : Bool) (w : World) (hp : SeesI w t l P) (hq : SeesI w t' l' Q) (h : psame.f k P Q = some b) :
  Calls Try.prog 78 #[.agg #[.pointer t, .pointer l, .int .i64 r, .int .i64 c], .agg #[.pointer t', .pointer l', .int .i64 r', .int .i64 c']] w fun e w' => e = .returned (.bool b) ∧ Below w.heap.size w w' := by
 have hu105 := Try.underlying105
 have hu64 := Try.underlying64
 have HB := Aside0.mk (Below.refl w.heap.size w)
 obtain ⟨A1, c1, n1, x1, s1⟩ := hp
 obtain ⟨A2, c2, n2, x2, s2⟩ := hq
 obtain ⟨tab1, xs1, rr1, cc1⟩ := P
 obtain ⟨tab2, xs2, rr2, cc2⟩ := Q
 dsimp only at n1 x1 s1 n2 x2 s2
 have N1 := Aside0.mk n1
 have N2 := Aside0.mk n2
 have X1 := Aside0.mk x1
 have X2 := Aside0.mk x2
 clear n1 n2 x1 x2
 rcases s1 with ⟨b1, o1, R1, C1, rfl, h1, hy1_0, hy1_1, hy1_2⟩ | ⟨rfl, h1, b1, o1, rfl, hy1_0⟩ <;> rcases s2 with ⟨b2, o2, R2, C2, rfl, h2, hy2_0, hy2_1, hy2_2⟩ | ⟨rfl, h2, b2, o2, rfl, hy2_0⟩
 all_goals (dsimp only at h1 h2; subst h1; subst h2; have HH := Aside0.mk h; clear h)
 ·
  have HM := Aside0.mk (show mat_Equal.f k R1 C1 xs1 R2 C2 xs2 = some b from HH.out)
  go_enter Try.func78, Try.ntmps78
  go_upto_region 2 with (first | ((with_reducible refine gate_dst (N := 2) rfl ?_); refine box_event ?hg (N := 2) ?hd (cs := #[.pointer (some ⟨b1, o1, none⟩), .pointer l, .int .i64 r, .int .i64 c]) (t := 105) ?hr ?_; (case hd => rfl); (case hg => rfl); (case hr => first | (go_simp; done) | (go_simp; rfl)); intro gp hg w1 hbox hb; have BP := Aside0.mk hbox; replace HB := Aside0.mk (below_step HB.out hb); clear hb hbox hg) | ((with_reducible refine gate_dst (N := 3) rfl ?_); refine box_event ?hg (N := 3) ?hd (cs := #[.pointer (some ⟨b2, o2, none⟩), .pointer l', .int .i64 r', .int .i64 c']) (t := 105) ?hr ?_; (case hd => rfl); (case hg => rfl); (case hr => first | (go_simp; done) | (go_simp; rfl)); intro gq hg w2 hbox hb; have BQ := Aside0.mk hbox; replace BP := Aside0.mk (blk_below BP.out hb); replace HB := Aside0.mk (below_step HB.out hb); clear hb hbox hg; have hzp := bx4 BP.out; have hzq := bx4 BQ.out; replace hy1_0 := (HB.out.cell (World.block_lt_of_cell? w _ hy1_0)).trans hy1_0; replace hy1_1 := (HB.out.cell (World.block_lt_of_cell? w _ hy1_1)).trans hy1_1; replace hy1_2 := (HB.out.cell (World.block_lt_of_cell? w _ hy1_2)).trans hy1_2; replace hy2_0 := (HB.out.cell (World.block_lt_of_cell? w _ hy2_0)).trans hy2_0; replace hy2_1 := (HB.out.cell (World.block_lt_of_cell? w _ hy2_1)).trans hy2_1; replace hy2_2 := (HB.out.cell (World.block_lt_of_cell? w _ hy2_2)).trans hy2_2))
  replace BP := Aside0.mk (blk_drew BP.out)
  replace BQ := Aside0.mk (blk_drew BQ.out)
  replace HB := Aside0.mk (below_drew1 HB.out)
  replace hy1_0 := cell_drew' hy1_0
  replace hy1_1 := cell_drew' hy1_1
  replace hy1_2 := cell_drew' hy1_2
  replace hy2_0 := cell_drew' hy2_0
  replace hy2_1 := cell_drew' hy2_1
  replace hy2_2 := cell_drew' hy2_2
  refine start_ (n := 10) (S := fun w' => w'.cell? ⟨gp, 0, none⟩ = some (.pointer (some ⟨b1, o1, none⟩)) ∧ w'.cell? ⟨gp, 1, none⟩ = some (.pointer l) ∧ w'.cell? ⟨gp, 2, none⟩ = some (.int .i64 r) ∧ w'.cell? ⟨gp, 3, none⟩ = some (.int .i64 c) ∧ w'.cell? ⟨gq, 0, none⟩ = some (.pointer (some ⟨b2, o2, none⟩)) ∧ w'.cell? ⟨gq, 1, none⟩ = some (.pointer l') ∧ w'.cell? ⟨gq, 2, none⟩ = some (.int .i64 r') ∧ w'.cell? ⟨gq, 3, none⟩ = some (.int .i64 c') ∧ w'.cell? ⟨b1, o1, none⟩ = some (.int .i64 R1) ∧ w'.cell? ⟨b1, o1 + 1, none⟩ = some (.int .i64 C1) ∧ w'.cell? ⟨b1, o1 + 2, none⟩ = some (.slice A1 xs1.length c1) ∧ w'.cell? ⟨b2, o2, none⟩ = some (.int .i64 R2) ∧ w'.cell? ⟨b2, o2 + 1, none⟩ = some (.int .i64 C2) ∧ w'.cell? ⟨b2, o2 + 2, none⟩ = some (.slice A2 xs2.length c2)) (ds := []) #[false, false, false, false, false, false, false, false, false, false] (by kernel_rfl) rfl rfl ⟨(blk_cell BP.out 0).trans rfl, (blk_cell BP.out 1).trans rfl, (blk_cell BP.out 2).trans rfl, (blk_cell BP.out 3).trans rfl, (blk_cell BQ.out 0).trans rfl, (blk_cell BQ.out 1).trans rfl, (blk_cell BQ.out 2).trans rfl, (blk_cell BQ.out 3).trans rfl, hy1_0, hy1_1, hy1_2, hy2_0, hy2_1, hy2_2⟩ (fun hHeld => ?_); refine with_tabW psame.tab2 psame.bits2 (fun HT_ HW_ => ?_)
  generalize w2.drew = w3 at BP BQ HB hy1_0 hy1_1 hy1_2 hy2_0 hy2_1 hy2_2 hHeld ⊢
  refine pure_ (i := 0) (N := some 13) (v := ?_) (a' := ?_) #[true, false, false, false, false, false, false, false, false, false] rfl rfl (any_of HT_.out (by kernel_rfl)) (fun _ _ _ h => h) (Or.inl ⟨by rfl, ?_⟩) ?_ ?_
  rotate_left
  ·
   intro w'
   go_simp
   with_reducible rfl
  rotate_left
  ·
   simp only [Act.put, List.setIfInBounds_toArray, List.set_cons_zero, List.set_cons_succ, i64_w, i32_w, IntKind.wrap_u32]
   rfl
  refine pure_ (i := 4) (N := some 17) (v := ?_) (a' := ?_) #[true, false, false, false, true, false, false, false, false, false] rfl rfl (any_of HT_.out (by kernel_rfl)) (fun _ _ _ h => h) (Or.inl ⟨by rfl, ?_⟩) ?_ ?_
  rotate_left
  ·
   intro w'
   go_simp
   with_reducible rfl
  rotate_left
  ·
   simp only [Act.put, List.setIfInBounds_toArray, List.set_cons_zero, List.set_cons_succ, i64_w, i32_w, IntKind.wrap_u32]
   rfl
  refine take_ (i := 1) (N := some 14) (v := ?_) (a' := ?_) #[true, true, false, false, true, false, false, false, false, false] rfl rfl (take_ofW HT_.out HW_.out (by kernel_rfl)) (fun _ _ _ h => h) (Or.inl ⟨by rfl, ?_⟩) hHeld ?_ ?_
  rotate_left
  ·
   rintro w' ⟨s0, s1, s2, s3, s4, s5, s6, s7, s8, s9, s10, s11, s12, s13⟩
   go_simp
   with_reducible rfl
  rotate_left
  ·
   simp only [Act.put, List.setIfInBounds_toArray, List.set_cons_zero, List.set_cons_succ, i64_w, i32_w, IntKind.wrap_u32]
   rfl
  refine pure_ (i := 2) (N := some 15) (v := ?_) (a' := ?_) #[true, true, true, false, true, false, false, false, false, false] rfl rfl (any_of HT_.out (by kernel_rfl)) (fun _ _ _ h => h) (Or.inl ⟨by rfl, ?_⟩) ?_ ?_
  rotate_left
  ·
   intro w'
   go_simp
   with_reducible rfl
  rotate_left
  ·
   simp only [Act.put, List.setIfInBounds_toArray, List.set_cons_zero, List.set_cons_succ, i64_w, i32_w, IntKind.wrap_u32]
   rfl
  refine take_ (i := 3) (N := some 16) (v := ?_) (a' := ?_) #[true, true, true, true, true, false, false, false, false, false] rfl rfl (take_ofW HT_.out HW_.out (by kernel_rfl)) (fun _ _ _ h => h) (Or.inl ⟨by rfl, ?_⟩) hHeld ?_ ?_
  rotate_left
  ·
   rintro w' ⟨s0, s1, s2, s3, s4, s5, s6, s7, s8, s9, s10, s11, s12, s13⟩
   go_simp
   with_reducible rfl
  rotate_left
  ·
   simp only [Act.put, List.setIfInBounds_toArray, List.set_cons_zero, List.set_cons_succ, i64_w, i32_w, IntKind.wrap_u32]
   rfl
  refine take_ (i := 5) (N := some 18) (v := ?_) (a' := ?_) #[true, true, true, true, true, true, false, false, false, false] rfl rfl (take_ofW HT_.out HW_.out (by kernel_rfl)) (fun _ _ _ h => h) (Or.inl ⟨by rfl, ?_⟩) hHeld ?_ ?_
  rotate_left
  ·
   rintro w' ⟨s0, s1, s2, s3, s4, s5, s6, s7, s8, s9, s10, s11, s12, s13⟩
   go_simp
   with_reducible rfl
  rotate_left
  ·
   simp only [Act.put, List.setIfInBounds_toArray, List.set_cons_zero, List.set_cons_succ, i64_w, i32_w, IntKind.wrap_u32]
   rfl
  refine pure_ (i := 6) (N := some 19) (v := ?_) (a' := ?_) #[true, true, true, true, true, true, true, false, false, false] rfl rfl (any_of HT_.out (by kernel_rfl)) (fun _ _ _ h => h) (Or.inl ⟨by rfl, ?_⟩) ?_ ?_
  rotate_left
  ·
   intro w'
   go_simp
   with_reducible rfl
  rotate_left
  ·
   simp only [Act.put, List.setIfInBounds_toArray, List.set_cons_zero, List.set_cons_succ, i64_w, i32_w, IntKind.wrap_u32]
   rfl
  refine take_ (i := 7) (N := some 20) (v := ?_) (a' := ?_) #[true, true, true, true, true, true, true, true, false, false] rfl rfl (take_ofW HT_.out HW_.out (by kernel_rfl)) (fun _ _ _ h => h) (Or.inl ⟨by rfl, ?_⟩) hHeld ?_ ?_
  rotate_left
  ·
   rintro w' ⟨s0, s1, s2, s3, s4, s5, s6, s7, s8, s9, s10, s11, s12, s13⟩
   go_simp
   with_reducible rfl
  rotate_left
  ·
   simp only [Act.put, List.setIfInBounds_toArray, List.set_cons_zero, List.set_cons_succ, i64_w, i32_w, IntKind.wrap_u32]
   rfl
  refine one_ (i := 8) (N := some 21) #[true, true, true, true, true, true, true, true, true, false] rfl rfl (one_of HT_.out (by kernel_rfl)) (by decide) (fun K hK => ?_)
  refine goes_ Try.func96 (by kernel_rfl) rfl #[.agg #[.int .i64 R1, .int .i64 C1, .slice A1 xs1.length c1], .agg #[.int .i64 R2, .int .i64 C2, .slice A2 xs2.length c2]] (by rfl) rfl rfl (by simp only [List.map_toArray, List.map_cons, List.map_nil]; rfl) ?_
  with_reducible refine (mat_Equal.calls k _ _ _ _ xs1 _ _ _ _ xs2 b _ (Kd.C_below X1.out HB.out) N1.out (Kd.C_below X2.out HB.out) N2.out HM.out).mono ?_
  rintro e w4 ⟨rfl, hb⟩
  refine ⟨_, rfl, ?_⟩
  replace BP := Aside0.mk (blk_below BP.out hb)
  replace BQ := Aside0.mk (blk_below BQ.out hb)
  replace HB := Aside0.mk (below_step HB.out hb)
  replace hy1_0 := (hb.cell (World.block_lt_of_cell? _ _ hy1_0)).trans hy1_0
  replace hy1_1 := (hb.cell (World.block_lt_of_cell? _ _ hy1_1)).trans hy1_1
  replace hy1_2 := (hb.cell (World.block_lt_of_cell? _ _ hy1_2)).trans hy1_2
  replace hy2_0 := (hb.cell (World.block_lt_of_cell? _ _ hy2_0)).trans hy2_0
  replace hy2_1 := (hb.cell (World.block_lt_of_cell? _ _ hy2_1)).trans hy2_1
  replace hy2_2 := (hb.cell (World.block_lt_of_cell? _ _ hy2_2)).trans hy2_2
  refine hK.out _ _ ⟨(blk_cell BP.out 0).trans rfl, (blk_cell BP.out 1).trans rfl, (blk_cell BP.out 2).trans rfl, (blk_cell BP.out 3).trans rfl, (blk_cell BQ.out 0).trans rfl, (blk_cell BQ.out 1).trans rfl, (blk_cell BQ.out 2).trans rfl, (blk_cell BQ.out 3).trans rfl, hy1_0, hy1_1, hy1_2, hy2_0, hy2_1, hy2_2⟩ (fun hHeld => ?_)
  clear hK K
  refine norm_ (a' := ?_) ?_ ?_
  rotate_left
  ·
   show Act.put _ (some 21) _ = _
   simp only [Act.put, List.setIfInBounds_toArray, List.set_cons_zero, List.set_cons_succ, i64_w, i32_w, IntKind.wrap_u32]
   rfl
  refine pure_ (i := 9) (N := some 4) (v := ?_) (a' := ?_) #[true, true, true, true, true, true, true, true, true, true] rfl rfl (any_of HT_.out (by kernel_rfl)) (fun _ _ _ h => h) (Or.inl ⟨by rfl, ?_⟩) ?_ ?_
  rotate_left
  ·
   intro w'
   go_simp
   with_reducible rfl
  rotate_left
  ·
   simp only [Act.put, List.setIfInBounds_toArray, List.set_cons_zero, List.set_cons_succ, i64_w, i32_w, IntKind.wrap_u32]
   rfl
  refine done_ (done_of HT_.out (by kernel_rfl)) ?_
  try go_wp2
  go_ret
  exact ⟨rfl, HB.out⟩
 ·
  obtain rfl : false = b := Option.some.inj (show some false = some b from HH.out)
  go_enter Try.func78, Try.ntmps78
  go_upto_region 3 with (first | ((with_reducible refine gate_dst (N := 2) rfl ?_); refine box_event ?hg (N := 2) ?hd (cs := #[.pointer (some ⟨b1, o1, none⟩), .pointer l, .int .i64 r, .int .i64 c]) (t := 105) ?hr ?_; (case hd => rfl); (case hg => rfl); (case hr => first | (go_simp; done) | (go_simp; rfl)); intro gp hg w1 hbox hb; have BP := Aside0.mk hbox; replace HB := Aside0.mk (below_step HB.out hb); clear hb hbox hg) | ((with_reducible refine gate_dst (N := 3) rfl ?_); refine box_event ?hg (N := 3) ?hd (cs := #[.pointer none, .pointer (some ⟨b2, o2, none⟩), .int .i64 r', .int .i64 c']) (t := 105) ?hr ?_; (case hd => rfl); (case hg => rfl); (case hr => first | (go_simp; done) | (go_simp; rfl)); intro gq hg w2 hbox hb; have BQ := Aside0.mk hbox; replace BP := Aside0.mk (blk_below BP.out hb); replace HB := Aside0.mk (below_step HB.out hb); clear hb hbox hg; have hzp := bx4 BP.out; have hzq := bx4 BQ.out; skip))
  trace_state
  go_region
  replace HB := Aside0.mk (below_drew1 HB.out)
  try go_wp2
  go_ret
  exact ⟨rfl, HB.out⟩
 ·
  obtain rfl : false = b := Option.some.inj (show some false = some b from HH.out)
  go_enter Try.func78, Try.ntmps78
  go_upto_region 3 with (first | ((with_reducible refine gate_dst (N := 2) rfl ?_); refine box_event ?hg (N := 2) ?hd (cs := #[.pointer none, .pointer (some ⟨b1, o1, none⟩), .int .i64 r, .int .i64 c]) (t := 105) ?hr ?_; (case hd => rfl); (case hg => rfl); (case hr => first | (go_simp; done) | (go_simp; rfl)); intro gp hg w1 hbox hb; have BP := Aside0.mk hbox; replace HB := Aside0.mk (below_step HB.out hb); clear hb hbox hg) | ((with_reducible refine gate_dst (N := 3) rfl ?_); refine box_event ?hg (N := 3) ?hd (cs := #[.pointer (some ⟨b2, o2, none⟩), .pointer l', .int .i64 r', .int .i64 c']) (t := 105) ?hr ?_; (case hd => rfl); (case hg => rfl); (case hr => first | (go_simp; done) | (go_simp; rfl)); intro gq hg w2 hbox hb; have BQ := Aside0.mk hbox; replace BP := Aside0.mk (blk_below BP.out hb); replace HB := Aside0.mk (below_step HB.out hb); clear hb hbox hg; have hzp := bx4 BP.out; have hzq := bx4 BQ.out; skip))
  trace_state
  go_region
  replace HB := Aside0.mk (below_drew1 HB.out)
  try go_wp2
  go_ret
  exact ⟨rfl, HB.out⟩
 ·
  have HM := Aside0.mk (show slices_Equal_int32_int32.f k xs1 xs2 = some b from HH.out)
  go_enter Try.func78, Try.ntmps78
  go_upto_region 3 with (first | ((with_reducible refine gate_dst (N := 2) rfl ?_); refine box_event ?hg (N := 2) ?hd (cs := #[.pointer none, .pointer (some ⟨b1, o1, none⟩), .int .i64 r, .int .i64 c]) (t := 105) ?hr ?_; (case hd => rfl); (case hg => rfl); (case hr => first | (go_simp; done) | (go_simp; rfl)); intro gp hg w1 hbox hb; have BP := Aside0.mk hbox; replace HB := Aside0.mk (below_step HB.out hb); clear hb hbox hg) | ((with_reducible refine gate_dst (N := 3) rfl ?_); refine box_event ?hg (N := 3) ?hd (cs := #[.pointer none, .pointer (some ⟨b2, o2, none⟩), .int .i64 r', .int .i64 c']) (t := 105) ?hr ?_; (case hd => rfl); (case hg => rfl); (case hr => first | (go_simp; done) | (go_simp; rfl)); intro gq hg w2 hbox hb; have BQ := Aside0.mk hbox; replace BP := Aside0.mk (blk_below BP.out hb); replace HB := Aside0.mk (below_step HB.out hb); clear hb hbox hg; have hzp := bx4 BP.out; have hzq := bx4 BQ.out; replace hy1_0 := (HB.out.cell (World.block_lt_of_cell? w _ hy1_0)).trans hy1_0; replace hy2_0 := (HB.out.cell (World.block_lt_of_cell? w _ hy2_0)).trans hy2_0))
  replace BP := Aside0.mk (blk_drew BP.out)
  replace BQ := Aside0.mk (blk_drew BQ.out)
  replace HB := Aside0.mk (below_drew1 HB.out)
  replace hy1_0 := cell_drew' hy1_0
  replace hy2_0 := cell_drew' hy2_0
  refine start_ (n := 20) (S := fun w' => w'.cell? ⟨gp, 0, none⟩ = some (.pointer none) ∧ w'.cell? ⟨gp, 1, none⟩ = some (.pointer (some ⟨b1, o1, none⟩)) ∧ w'.cell? ⟨gp, 2, none⟩ = some (.int .i64 r) ∧ w'.cell? ⟨gp, 3, none⟩ = some (.int .i64 c) ∧ w'.cell? ⟨gq, 0, none⟩ = some (.pointer none) ∧ w'.cell? ⟨gq, 1, none⟩ = some (.pointer (some ⟨b2, o2, none⟩)) ∧ w'.cell? ⟨gq, 2, none⟩ = some (.int .i64 r') ∧ w'.cell? ⟨gq, 3, none⟩ = some (.int .i64 c') ∧ w'.cell? ⟨b1, o1, none⟩ = some (.slice A1 xs1.length c1) ∧ w'.cell? ⟨b2, o2, none⟩ = some (.slice A2 xs2.length c2)) (ds := []) #[false, false, false, false, false, false, false, false, false, false, false, false, false, false, false, false, false, false, false, false] (by kernel_rfl) rfl rfl ⟨(blk_cell BP.out 0).trans rfl, (blk_cell BP.out 1).trans rfl, (blk_cell BP.out 2).trans rfl, (blk_cell BP.out 3).trans rfl, (blk_cell BQ.out 0).trans rfl, (blk_cell BQ.out 1).trans rfl, (blk_cell BQ.out 2).trans rfl, (blk_cell BQ.out 3).trans rfl, hy1_0, hy2_0⟩ (fun hHeld => ?_); refine with_tabW psame.tab3 psame.bits3 (fun HT_ HW_ => ?_)
  generalize w2.drew = w3 at BP BQ HB hy1_0 hy2_0 hHeld ⊢
  refine pure_ (i := 0) (N := some 22) (v := ?_) (a' := ?_) #[true, false, false, false, false, false, false, false, false, false, false, false, false, false, false, false, false, false, false, false] rfl rfl (any_of HT_.out (by kernel_rfl)) (fun _ _ _ h => h) (Or.inl ⟨by rfl, ?_⟩) ?_ ?_
  rotate_left
  ·
   intro w'
   go_simp
   with_reducible rfl
  rotate_left
  ·
   simp only [Act.put, List.setIfInBounds_toArray, List.set_cons_zero, List.set_cons_succ, i64_w, i32_w, IntKind.wrap_u32]
   rfl
  refine take_ (i := 1) (N := some 23) (v := ?_) (a' := ?_) #[true, true, false, false, false, false, false, false, false, false, false, false, false, false, false, false, false, false, false, false] rfl rfl (take_ofW HT_.out HW_.out (by kernel_rfl)) (fun _ _ _ h => h) (Or.inl ⟨by rfl, ?_⟩) hHeld ?_ ?_
  rotate_left
  ·
   rintro w' ⟨s0, s1, s2, s3, s4, s5, s6, s7, s8, s9⟩
   go_simp
   with_reducible rfl
  rotate_left
  ·
   simp only [Act.put, List.setIfInBounds_toArray, List.set_cons_zero, List.set_cons_succ, i64_w, i32_w, IntKind.wrap_u32]
   rfl
  refine pure_ (i := 2) (N := some 24) (v := ?_) (a' := ?_) #[true, true, true, false, false, false, false, false, false, false, false, false, false, false, false, false, false, false, false, false] rfl rfl (any_of HT_.out (by kernel_rfl)) (fun _ _ _ h => h) (Or.inl ⟨by rfl, ?_⟩) ?_ ?_
  rotate_left
  ·
   intro w'
   go_simp
   with_reducible rfl
  rotate_left
  ·
   simp only [Act.put, List.setIfInBounds_toArray, List.set_cons_zero, List.set_cons_succ, i64_w, i32_w, IntKind.wrap_u32]
   rfl
  refine pure_ (i := 3) (N := some 25) (v := ?_) (a' := ?_) #[true, true, true, true, false, false, false, false, false, false, false, false, false, false, false, false, false, false, false, false] rfl rfl (any_of HT_.out (by kernel_rfl)) (fun _ _ _ h => h) (Or.inl ⟨by rfl, ?_⟩) ?_ ?_
  rotate_left
  ·
   intro w'
   go_simp
   with_reducible rfl
  rotate_left
  ·
   simp only [Act.put, List.setIfInBounds_toArray, List.set_cons_zero, List.set_cons_succ, i64_w, i32_w, IntKind.wrap_u32]
   rfl
  refine pure_ (i := 4) (N := some 26) (v := ?_) (a' := ?_) #[true, true, true, true, true, false, false, false, false, false, false, false, false, false, false, false, false, false, false, false] rfl rfl (any_of HT_.out (by kernel_rfl)) (fun _ _ _ h => h) (Or.inl ⟨by rfl, ?_⟩) ?_ ?_
  rotate_left
  ·
   intro w'
   go_simp
   with_reducible rfl
  rotate_left
  ·
   simp only [Act.put, List.setIfInBounds_toArray, List.set_cons_zero, List.set_cons_succ, i64_w, i32_w, IntKind.wrap_u32]
   rfl
  refine take_ (i := 5) (N := some 27) (v := ?_) (a' := ?_) #[true, true, true, true, true, true, false, false, false, false, false, false, false, false, false, false, false, false, false, false] rfl rfl (take_ofW HT_.out HW_.out (by kernel_rfl)) (fun _ _ _ h => h) (Or.inl ⟨by rfl, ?_⟩) hHeld ?_ ?_
  rotate_left
  ·
   rintro w' ⟨s0, s1, s2, s3, s4, s5, s6, s7, s8, s9⟩
   go_simp
   with_reducible rfl
  rotate_left
  ·
   simp only [Act.put, List.setIfInBounds_toArray, List.set_cons_zero, List.set_cons_succ, i64_w, i32_w, IntKind.wrap_u32]
   rfl
  refine pure_ (i := 6) (N := some 28) (v := ?_) (a' := ?_) #[true, true, true, true, true, true, true, false, false, false, false, false, false, false, false, false, false, false, false, false] rfl rfl (any_of HT_.out (by kernel_rfl)) (fun _ _ _ h => h) (Or.inl ⟨by rfl, ?_⟩) ?_ ?_
  rotate_left
  ·
   intro w'
   go_simp
   with_reducible rfl
  rotate_left
  ·
   simp only [Act.put, List.setIfInBounds_toArray, List.set_cons_zero, List.set_cons_succ, i64_w, i32_w, IntKind.wrap_u32]
   rfl
  refine pure_ (i := 7) (N := some 29) (v := ?_) (a' := ?_) #[true, true, true, true, true, true, true, true, false, false, false, false, false, false, false, false, false, false, false, false] rfl rfl (any_of HT_.out (by kernel_rfl)) (fun _ _ _ h => h) (Or.inl ⟨by rfl, ?_⟩) ?_ ?_
  rotate_left
  ·
   intro w'
   go_simp
   with_reducible rfl
  rotate_left
  ·
   simp only [Act.put, List.setIfInBounds_toArray, List.set_cons_zero, List.set_cons_succ, i64_w, i32_w, IntKind.wrap_u32]
   rfl
  refine pure_ (i := 8) (N := some 30) (v := ?_) (a' := ?_) #[true, true, true, true, true, true, true, true, true, false, false, false, false, false, false, false, false, false, false, false] rfl rfl (any_of HT_.out (by kernel_rfl)) (fun _ _ _ h => h) (Or.inl ⟨by rfl, ?_⟩) ?_ ?_
  rotate_left
  ·
   intro w'
   go_simp
   with_reducible rfl
  rotate_left
  ·
   simp only [Act.put, List.setIfInBounds_toArray, List.set_cons_zero, List.set_cons_succ, i64_w, i32_w, IntKind.wrap_u32]
   rfl
  refine pure_ (i := 9) (N := some 31) (v := ?_) (a' := ?_) #[true, true, true, true, true, true, true, true, true, true, false, false, false, false, false, false, false, false, false, false] rfl rfl (any_of HT_.out (by kernel_rfl)) (fun _ _ _ h => h) (Or.inl ⟨by rfl, ?_⟩) ?_ ?_
  rotate_left
  ·
   intro w'
   go_simp
   with_reducible rfl
  rotate_left
  ·
   simp only [Act.put, List.setIfInBounds_toArray, List.set_cons_zero, List.set_cons_succ, i64_w, i32_w, IntKind.wrap_u32]
   rfl
  refine pure_ (i := 13) (N := some 35) (v := ?_) (a' := ?_) #[true, true, true, true, true, true, true, true, true, true, false, false, false, true, false, false, false, false, false, false] rfl rfl (any_of HT_.out (by kernel_rfl)) (fun _ _ _ h => h) (Or.inl ⟨by rfl, ?_⟩) ?_ ?_
  rotate_left
  ·
   intro w'
   go_simp
   with_reducible rfl
  rotate_left
  ·
   simp only [Act.put, List.setIfInBounds_toArray, List.set_cons_zero, List.set_cons_succ, i64_w, i32_w, IntKind.wrap_u32]
   rfl
  refine take_ (i := 10) (N := some 32) (v := ?_) (a' := ?_) #[true, true, true, true, true, true, true, true, true, true, true, false, false, true, false, false, false, false, false, false] rfl rfl (take_ofW HT_.out HW_.out (by kernel_rfl)) (fun _ _ _ h => h) (Or.inl ⟨by rfl, ?_⟩) hHeld ?_ ?_
  rotate_left
  ·
   rintro w' ⟨s0, s1, s2, s3, s4, s5, s6, s7, s8, s9⟩
   go_simp
   with_reducible rfl
  rotate_left
  ·
   simp only [Act.put, List.setIfInBounds_toArray, List.set_cons_zero, List.set_cons_succ, i64_w, i32_w, IntKind.wrap_u32]
   rfl
  refine pure_ (i := 11) (N := some 33) (v := ?_) (a' := ?_) #[true, true, true, true, true, true, true, true, true, true, true, true, false, true, false, false, false, false, false, false] rfl rfl (any_of HT_.out (by kernel_rfl)) (fun _ _ _ h => h) (Or.inl ⟨by rfl, ?_⟩) ?_ ?_
  rotate_left
  ·
   intro w'
   go_simp
   with_reducible rfl
  rotate_left
  ·
   simp only [Act.put, List.setIfInBounds_toArray, List.set_cons_zero, List.set_cons_succ, i64_w, i32_w, IntKind.wrap_u32]
   rfl
  refine take_ (i := 12) (N := some 34) (v := ?_) (a' := ?_) #[true, true, true, true, true, true, true, true, true, true, true, true, true, true, false, false, false, false, false, false] rfl rfl (take_ofW HT_.out HW_.out (by kernel_rfl)) (fun _ _ _ h => h) (Or.inl ⟨by rfl, ?_⟩) hHeld ?_ ?_
  rotate_left
  ·
   rintro w' ⟨s0, s1, s2, s3, s4, s5, s6, s7, s8, s9⟩
   go_simp
   with_reducible rfl
  rotate_left
  ·
   simp only [Act.put, List.setIfInBounds_toArray, List.set_cons_zero, List.set_cons_succ, i64_w, i32_w, IntKind.wrap_u32]
   rfl
  refine take_ (i := 14) (N := some 36) (v := ?_) (a' := ?_) #[true, true, true, true, true, true, true, true, true, true, true, true, true, true, true, false, false, false, false, false] rfl rfl (take_ofW HT_.out HW_.out (by kernel_rfl)) (fun _ _ _ h => h) (Or.inl ⟨by rfl, ?_⟩) hHeld ?_ ?_
  rotate_left
  ·
   rintro w' ⟨s0, s1, s2, s3, s4, s5, s6, s7, s8, s9⟩
   go_simp
   with_reducible rfl
  rotate_left
  ·
   simp only [Act.put, List.setIfInBounds_toArray, List.set_cons_zero, List.set_cons_succ, i64_w, i32_w, IntKind.wrap_u32]
   rfl
  refine pure_ (i := 15) (N := some 37) (v := ?_) (a' := ?_) #[true, true, true, true, true, true, true, true, true, true, true, true, true, true, true, true, false, false, false, false] rfl rfl (any_of HT_.out (by kernel_rfl)) (fun _ _ _ h => h) (Or.inl ⟨by rfl, ?_⟩) ?_ ?_
  rotate_left
  ·
   intro w'
   go_simp
   with_reducible rfl
  rotate_left
  ·
   simp only [Act.put, List.setIfInBounds_toArray, List.set_cons_zero, List.set_cons_succ, i64_w, i32_w, IntKind.wrap_u32]
   rfl
  refine take_ (i := 16) (N := some 38) (v := ?_) (a' := ?_) #[true, true, true, true, true, true, true, true, true, true, true, true, true, true, true, true, true, false, false, false] rfl rfl (take_ofW HT_.out HW_.out (by kernel_rfl)) (fun _ _ _ h => h) (Or.inl ⟨by rfl, ?_⟩) hHeld ?_ ?_
  rotate_left
  ·
   rintro w' ⟨s0, s1, s2, s3, s4, s5, s6, s7, s8, s9⟩
   go_simp
   with_reducible rfl
  rotate_left
  ·
   simp only [Act.put, List.setIfInBounds_toArray, List.set_cons_zero, List.set_cons_succ, i64_w, i32_w, IntKind.wrap_u32]
   rfl
  refine one_ (i := 17) (N := some 39) #[true, true, true, true, true, true, true, true, true, true, true, true, true, true, true, true, true, true, false, false] rfl rfl (one_of HT_.out (by kernel_rfl)) (by decide) (fun K hK => ?_)
  refine goes_ Try.func97 (by kernel_rfl) rfl #[.slice A1 xs1.length c1, .slice A2 xs2.length c2] (by rfl) rfl rfl (by simp only [List.map_toArray, List.map_cons, List.map_nil]; rfl) ?_
  with_reducible refine (slices_Equal_int32_int32.calls k _ _ xs1 _ _ xs2 b _ (Kd.C_below X1.out HB.out) N1.out (Kd.C_below X2.out HB.out) N2.out HM.out).mono ?_
  rintro e w4 ⟨rfl, ⟨nd, rfl⟩⟩
  refine ⟨_, rfl, ?_⟩
  have hb : Below w3.heap.size w3 (w3.drewN nd) := pw_below_drewN (Below.refl _ _) nd
  replace BP := Aside0.mk (blk_below BP.out hb)
  replace BQ := Aside0.mk (blk_below BQ.out hb)
  replace HB := Aside0.mk (below_step HB.out hb)
  replace hy1_0 := (hb.cell (World.block_lt_of_cell? _ _ hy1_0)).trans hy1_0
  replace hy2_0 := (hb.cell (World.block_lt_of_cell? _ _ hy2_0)).trans hy2_0
  refine hK.out _ _ ⟨(blk_cell BP.out 0).trans rfl, (blk_cell BP.out 1).trans rfl, (blk_cell BP.out 2).trans rfl, (blk_cell BP.out 3).trans rfl, (blk_cell BQ.out 0).trans rfl, (blk_cell BQ.out 1).trans rfl, (blk_cell BQ.out 2).trans rfl, (blk_cell BQ.out 3).trans rfl, hy1_0, hy2_0⟩ (fun hHeld => ?_)
  clear hK K
  refine norm_ (a' := ?_) ?_ ?_
  rotate_left
  ·
   show Act.put _ (some 39) _ = _
   simp only [Act.put, List.setIfInBounds_toArray, List.set_cons_zero, List.set_cons_succ, i64_w, i32_w, IntKind.wrap_u32]
   rfl
  refine pure_ (i := 18) (N := some 40) (v := ?_) (a' := ?_) #[true, true, true, true, true, true, true, true, true, true, true, true, true, true, true, true, true, true, true, false] rfl rfl (any_of HT_.out (by kernel_rfl)) (fun _ _ _ h => h) (Or.inl ⟨by rfl, ?_⟩) ?_ ?_
  rotate_left
  ·
   intro w'
   go_simp
   with_reducible rfl
  rotate_left
  ·
   simp only [Act.put, List.setIfInBounds_toArray, List.set_cons_zero, List.set_cons_succ, i64_w, i32_w, IntKind.wrap_u32]
   rfl
  refine pure_ (i := 19) (N := some 4) (v := ?_) (a' := ?_) #[true, true, true, true, true, true, true, true, true, true, true, true, true, true, true, true, true, true, true, true] rfl rfl (any_of HT_.out (by kernel_rfl)) (fun _ _ _ h => h) (Or.inl ⟨by rfl, ?_⟩) ?_ ?_
  rotate_left
  ·
   intro w'
   go_simp
   with_reducible rfl
  rotate_left
  ·
   simp only [Act.put, List.setIfInBounds_toArray, List.set_cons_zero, List.set_cons_succ, i64_w, i32_w, IntKind.wrap_u32]
   rfl
  refine done_ (done_of HT_.out (by kernel_rfl)) ?_
  try go_wp2
  go_ret
  exact ⟨rfl, HB.out⟩
def peq.l (k : Nat) : List PI → List PI → Option Bool
 | P :: Ps, Q :: Qs => (psame.f k P Q).bind fun b => if b = true then peq.l k Ps Qs else some false
 | _, _ => some true
def peq.f (k : Nat) (Ps Qs : List PI) : Option Bool := if Ps.length = Qs.length then peq.l k Ps Qs else some false
def RowsAt (w : World) (gv : Nat) (Is : List PI) : Prop := ∀ j, j < Is.length → ∃ t l I, Is[j]? = some I ∧ PRow w gv j t l I.r I.c ∧ SeesI w t l I
theorem RowsAt.below {w w' : World} {gv : Nat} {Is : List PI} (h : RowsAt w gv Is) (hb : Below w.heap.size w w') : RowsAt w' gv Is := by
 intro j hj
 obtain ⟨t, l, I, h1, h2, h3⟩ := h j hj
 exact ⟨t, l, I, h1, h2.below hb, h3.below hb⟩
theorem blk_put4 {w : World} {g : Nat} {a0 a1 a2 a3 b0 b1 b2 b3 : Value} {t : TypeId} (h : w.heap[g]? = some (.cells #[a0, a1, a2, a3] t (0, 0))) : ((((w.setCell ⟨g, 0, none⟩ b0).setCell ⟨g, 1, none⟩ b1).setCell ⟨g, 2, none⟩ b2).setCell ⟨g, 3, none⟩ b3).heap[g]? = some (.cells #[b0, b1, b2, b3] t (0, 0)) := blk_put (blk_put (blk_put (blk_put h 0 b0 rfl) 1 b1 rfl) 2 b2 rfl) 3 b3 rfl
theorem below_put4 {B : Nat} {u w : World} {g : Nat} {b0 b1 b2 b3 : Value} (h : Below B u w) (hg : B ≤ g) : Below B u ((((w.setCell ⟨g, 0, none⟩ b0).setCell ⟨g, 1, none⟩ b1).setCell ⟨g, 2, none⟩ b2).setCell ⟨g, 3, none⟩ b3) := (((h.setCell (p := ⟨g, 0, none⟩) hg b0).setCell (p := ⟨g, 1, none⟩) hg b1).setCell (p := ⟨g, 2, none⟩) hg b2).setCell (p := ⟨g, 3, none⟩) hg b3
set_option maxHeartbeats 8000000 in
set_option maxRecDepth 100000 in
theorem peq.calls (k gv gv' c c' : Nat) (A A' : Option Addr) (Ps Qs : List PI) (b : Bool) (w : World) (hA : 0 < Ps.length → A = some ⟨gv, 0, none⟩) (hA' : 0 < Qs.length → A' = some ⟨gv', 0, none⟩) (hn : Ps.length ≤ 1000000) (h1 : RowsAt w gv Ps) (h2 : RowsAt w gv' Qs) (h : peq.f k Ps Qs = some b) :
  Calls Try.prog 77 #[.slice A Ps.length c, .slice A' Qs.length c', .func (.func 78) #[] #[]] w fun e w' => e = .returned (.bool b) ∧ Below w.heap.size w w' := by
 have hu105 := Try.underlying105
 have HB := Aside0.mk (Below.refl w.heap.size w)
 have HA0 := Aside0.mk hA
 have HA1 := Aside0.mk hA'
 have H1 := Aside0.mk h1
 have H2 := Aside0.mk h2
 have HN0 := Aside0.mk hn
 have HH := Aside0.mk h
 clear hA hA' h1 h2 hn h
 by_cases cl : Ps.length = Qs.length
 case neg =>
  obtain rfl : false = b := Option.some.inj (show some false = some b from by have h_ := HH.out; unfold peq.f at h_; rw [if_neg cl] at h_; exact h_)
  have d1 : ((Ps.length : Int) != (Qs.length : Int)) = true := bne_iff_ne.mpr (by omega)
  have d2 : ((Ps.length : Int) == (Qs.length : Int)) = false := beq_eq_false_iff_ne.mpr (by omega)
  have d3 : (Ps.length == Qs.length) = false := beq_eq_false_iff_ne.mpr cl
  go_enter Try.func77, Try.ntmps77
  go_wp2
  go_ret
  exact ⟨rfl, HB.out⟩
 case pos =>
  replace HH := Aside0.mk (show peq.l k Ps Qs = some b from by have h_ := HH.out; unfold peq.f at h_; rw [if_pos cl] at h_; exact h_)
  have HL := Aside0.mk cl
  obtain ⟨L, hL⟩ : ∃ L, Ps.length = L := ⟨_, rfl⟩
  have hL' : Qs.length = L := by rw [← HL.out]; exact hL
  rw [hL] at HA0 HN0 ⊢
  rw [hL'] at HA1 ⊢
  have HLP := Aside0.mk hL
  have HLQ := Aside0.mk hL'
  clear cl hL hL'
  have hn1 : L ≤ 1000000 := HN0.out
  go_enter Try.func77, Try.ntmps77
  go_wp2
  go_loopw [17] (fun i w' => ∃ n : Nat, n ≤ L ∧ i = .int .i64 n ∧ Aside0 (peq.l k (Ps.drop n) (Qs.drop n) = some b) ∧ Aside0 (Below w.heap.size w w')) (fun i _ => L - (intOf i).toNat)
  case atStart => exact ⟨0, Nat.zero_le _, rfl, HH, HB⟩
  case round =>
   clear HH HB
   obtain ⟨n, hn, rfl, HH, HB⟩ := hrel
   by_cases c0 : n < L
   ·
    have c1 : decide ((n : Int) < (L : Int)) = true := decide_eq_true (by omega)
    have c2 : decide (n < L) = true := decide_eq_true c0
    obtain rfl := HA0.out (by omega)
    obtain rfl := HA1.out (by omega)
    obtain ⟨t, l, P, hp, hpr, hps⟩ := H1.out n (by rw [HLP.out]; exact c0)
    obtain ⟨t', l', Q, hq, hqr, hqs⟩ := H2.out n (by rw [HLQ.out]; exact c0)
    have hd : peq.l k (Ps.drop n) (Qs.drop n) = (psame.f k P Q).bind fun b => if b = true then peq.l k (Ps.drop (n + 1)) (Qs.drop (n + 1)) else some false := by
     obtain ⟨hpl, hpe⟩ := List.getElem?_eq_some_iff.mp hp
     obtain ⟨hql, hqe⟩ := List.getElem?_eq_some_iff.mp hq
     rw [List.drop_eq_getElem_cons hpl, List.drop_eq_getElem_cons hql, hpe, hqe]
     rfl
    have h_ := HH.out
    rw [hd] at h_
    obtain ⟨s, hs, hrest⟩ := Option.bind_eq_some_iff.mp h_
    clear h_ hd
    have HS := Aside0.mk hs
    have HR := Aside0.mk hrest
    have HC0 := Aside0.mk c0
    have HP := Aside0.mk (hps.below HB.out)
    have HQ := Aside0.mk (hqs.below HB.out)
    have HQR := Aside0.mk (hqr.below HB.out)
    obtain ⟨hx0, hx1, hx2, hx3⟩ := hpr.below HB.out
    clear hps hqs hpr hqr hp hq hs hrest HH
    go_upto_region 6 with (first | ((with_reducible refine gate_dst (N := 8) rfl ?_); refine box_event ?hg (N := 8) ?hd (cs := #[.pointer none, .pointer none, .int .i64 0, .int .i64 0]) (t := 105) ?hr ?_; (case hd => rfl); (case hg => rfl); (case hr => first | (go_simp; done) | (go_simp; rfl)); intro gx hg w5 hbox hb; have hz4 := bx4 hbox; have HBX := Aside0.mk hbox; have HBB := Aside0.mk hb; have HBG := Aside0.mk hg; clear hbox hb hg))
    have hb4 := blk_put4 (b0 := .pointer t) (b1 := .pointer l) (b2 := .int .i64 P.r) (b3 := .int .i64 P.c) HBX.out
    have hB4 := below_put4 (g := gx) (b0 := .pointer t) (b1 := .pointer l) (b2 := .int .i64 P.r) (b3 := .int .i64 P.c) HBB.out (by rw [HBG.out]; exact Nat.le_refl _)
    replace HP := Aside0.mk (HP.out.below hB4)
    replace HQ := Aside0.mk (HQ.out.below hB4)
    obtain ⟨hy0, hy1, hy2, hy3⟩ := HQR.out.below hB4
    replace HB := Aside0.mk (below_step HB.out hB4)
    clear HBX HBB HBG hB4 hz4 hx0 hx1 hx2 hx3 HQR
    generalize (((w5.setCell ⟨gx, 0, none⟩ (Value.pointer t)).setCell ⟨gx, 1, none⟩ (Value.pointer l)).setCell ⟨gx, 2, none⟩ (Value.int IntKind.i64 P.r)).setCell ⟨gx, 3, none⟩ (Value.int IntKind.i64 P.c) = w6 at hb4 HP HQ hy0 hy1 hy2 hy3 HB ⊢
    have HX := Aside0.mk hb4
    clear hb4
    go_upto_region 7 with (first | ((with_reducible refine gate_dst (N := 9) rfl ?_); refine box_event ?hg (N := 9) ?hd (cs := #[.pointer none, .pointer none, .int .i64 0, .int .i64 0]) (t := 105) ?hr ?_; (case hd => rfl); (case hg => rfl); (case hr => first | (go_simp; done) | (go_simp; rfl)); intro gy hg w7 hbox hb; have hz4 := bx4 hbox; have HBX := Aside0.mk hbox; have HBB := Aside0.mk hb; have HBG := Aside0.mk hg; clear hbox hb hg))
    have hb5 := blk_put4 (b0 := .pointer t') (b1 := .pointer l') (b2 := .int .i64 Q.r) (b3 := .int .i64 Q.c) HBX.out
    have hB5 := below_put4 (g := gy) (b0 := .pointer t') (b1 := .pointer l') (b2 := .int .i64 Q.r) (b3 := .int .i64 Q.c) HBB.out (by rw [HBG.out]; exact Nat.le_refl _)
    replace HP := Aside0.mk (HP.out.below hB5)
    replace HQ := Aside0.mk (HQ.out.below hB5)
    replace HX := Aside0.mk (blk_below HX.out hB5)
    replace HB := Aside0.mk (below_step HB.out hB5)
    clear HBX HBB HBG hB5 hz4 hy0 hy1 hy2 hy3
    generalize (((w7.setCell ⟨gy, 0, none⟩ (Value.pointer t')).setCell ⟨gy, 1, none⟩ (Value.pointer l')).setCell ⟨gy, 2, none⟩ (Value.int IntKind.i64 Q.r)).setCell ⟨gy, 3, none⟩ (Value.int IntKind.i64 Q.c) = w8 at hb5 HP HQ HX HB ⊢
    have hzx := bx4 HX.out
    have hzy := bx4 hb5
    clear hb5
    cases s with
    | true =>
     replace HR := Aside0.mk (show peq.l k (Ps.drop (n + 1)) (Qs.drop (n + 1)) = some b from HR.out)
     go_wp2_with (first | (go_at_call 78; (with_reducible refine (psame.calls k _ _ _ _ _ _ _ _ P Q true _ HP.out HQ.out HS.out).mono ?_); rintro e w' ⟨rfl, hb⟩; replace HB := Aside0.mk (below_step HB.out hb); clear hb hzx hzy))
     exact ⟨⟨n + 1, by have := HC0.out; omega, by simp, HR, HB⟩, by have := HC0.out; simp only [intOf]; omega⟩
    | false =>
     obtain rfl : false = b := Option.some.inj (show some false = some b from HR.out)
     go_wp2_with (first | (go_at_call 78; (with_reducible refine (psame.calls k _ _ _ _ _ _ _ _ P Q false _ HP.out HQ.out HS.out).mono ?_); rintro e w' ⟨rfl, hb⟩; replace HB := Aside0.mk (below_step HB.out hb); clear hb hzx hzy))
     go_ret
     exact ⟨rfl, HB.out⟩
   ·
    have c1 : decide ((n : Int) < (L : Int)) = false := decide_eq_false (by omega)
    have c2 : decide (n < L) = false := decide_eq_false c0
    obtain rfl : n = L := by omega
    obtain rfl : true = b := Option.some.inj (show some true = some b from by have h_ := HH.out; rw [List.drop_eq_nil_of_le (by rw [HLP.out]; exact Nat.le_refl _)] at h_; exact h_)
    go_wp2
    go_ret
    exact ⟨rfl, HB.out⟩
theorem psame.mono (P Q : PI) (k : Nat) : LeO (psame.f k P Q) (psame.f (k + 1) P Q) := by
 unfold psame.f
 split
 ·
  exact mat_Equal.mono _ _ _ _ _ _ k
 ·
  exact slices_Equal_int32_int32.mono _ _ k
 ·
  exact LeO.refl _
theorem peq.mono_l (k : Nat) : ∀ Ps Qs, LeO (peq.l k Ps Qs) (peq.l (k + 1) Ps Qs)
 | P :: Ps, Q :: Qs => by
  unfold peq.l
  exact LeO.bind (psame.mono P Q k) (fun _ => LeO.ite (peq.mono_l k Ps Qs) (LeO.refl _))
 | [], _ => by unfold peq.l; exact LeO.refl _
 | _ :: _, [] => by unfold peq.l; exact LeO.refl _
def blob_Equal.f (k : Nat) (a0_0 : Int) (a0_1 : Int) (a0_2 : Int) (a0_3 : Int) (a0_4 : Int) (a0_5 : Int) (l0_6 : List S115) (a0_7 : Int) (a0_8 : Int) (l0_9 : List Int) (l0_10 : List S120) (l0_11 : List Int) (a0_12 : Int) (a0_13 : Int) (l0_14 : List Int) (a1_0 : Int) (a1_1 : Int) (a1_2 : Int) (a1_3 : Int) (a1_4 : Int) (a1_5 : Int) (l1_6 : List S115) (a1_7 : Int) (a1_8 : Int) (l1_9 : List Int) (l1_10 : List S120) (l1_11 : List Int) (a1_12 : Int) (a1_13 : Int) (l1_14 : List Int) : Option Bool :=
 if a0_0 = a1_0 ∧ a0_1 = a1_1 ∧ a0_2 = a1_2 ∧ a0_3 = a1_3 ∧ a0_4 = a1_4 ∧ a0_5 = a1_5 then (rope_Turn_76.f k l0_6 l1_6).bind fun t => if t = true then (if l0_10.length = l1_10.length then (if l0_10.length ≤ 100000 then peq.f k (infos a0_5 (wrap64 (a0_1 * a0_3)) (wrap64 (a0_2 * a0_3)) a0_4 a0_7 a0_8 l0_9 l0_10 l0_11 a0_12 a0_13 l0_14) (infos a1_5 (wrap64 (a1_1 * a1_3)) (wrap64 (a1_2 * a1_3)) a1_4 a1_7 a1_8 l1_9 l1_10 l1_11 a1_12 a1_13 l1_14) else none) else some false) else some false
 else some false
theorem blob_Equal.mono : ∀ a0_0 a0_1 a0_2 a0_3 a0_4 a0_5 l0_6 a0_7 a0_8 l0_9 l0_10 l0_11 a0_12 a0_13 l0_14 a1_0 a1_1 a1_2 a1_3 a1_4 a1_5 l1_6 a1_7 a1_8 l1_9 l1_10 l1_11 a1_12 a1_13 l1_14 k, LeO (blob_Equal.f k a0_0 a0_1 a0_2 a0_3 a0_4 a0_5 l0_6 a0_7 a0_8 l0_9 l0_10 l0_11 a0_12 a0_13 l0_14 a1_0 a1_1 a1_2 a1_3 a1_4 a1_5 l1_6 a1_7 a1_8 l1_9 l1_10 l1_11 a1_12 a1_13 l1_14) (blob_Equal.f (k + 1) a0_0 a0_1 a0_2 a0_3 a0_4 a0_5 l0_6 a0_7 a0_8 l0_9 l0_10 l0_11 a0_12 a0_13 l0_14 a1_0 a1_1 a1_2 a1_3 a1_4 a1_5 l1_6 a1_7 a1_8 l1_9 l1_10 l1_11 a1_12 a1_13 l1_14) := by
 intro a0_0 a0_1 a0_2 a0_3 a0_4 a0_5 l0_6 a0_7 a0_8 l0_9 l0_10 l0_11 a0_12 a0_13 l0_14 a1_0 a1_1 a1_2 a1_3 a1_4 a1_5 l1_6 a1_7 a1_8 l1_9 l1_10 l1_11 a1_12 a1_13 l1_14 k
 unfold blob_Equal.f peq.f
 repeat' first
  | (with_reducible exact LeO.refl _)
  | (with_reducible exact LeO.none _)
  | (with_reducible exact peq.mono_l _ _ _)
  | (with_reducible exact rope_Turn_76.mono _ _ _)
  | (with_reducible refine LeO.ite ?_ ?_)
  | (with_reducible refine LeO.bind ?_ (fun _ => ?_))
theorem rows_at {w : World} {base c L : Nat} {ok : Nat → Prop} {A : Option Addr} {gv : Nat} {rows : List (List Value)} {Is : List PI} (h : (Kd.raw 4).R 105 w base ok (.slice A L c) rows) (hA : 0 < L → A = some ⟨gv, 0, none⟩) (hI : RowsI w rows Is) : RowsAt w gv Is := by
 intro j hj
 have hr := Kd.R_reads' h
 have hlen := RowsI.length hI
 obtain rfl := hA (by omega)
 obtain ⟨row, I, h1, h2, h3⟩ := hI.at j (by omega)
 obtain ⟨t, l, rfl, hs⟩ := h3.sees
 exact ⟨t, l, I, h2, prow_of h h1, hs⟩
theorem infos_ok {v w kv q a7 a8 a12 a13 : Int} {l9 l11 l14 : List Int} {l : List S120} (h : l.length ≤ 100000) : (infos v w kv q a7 a8 l9 l l11 a12 a13 l14).length ≤ 1000000 := by
 have := h; simp only [infos, layI, List.length_append, List.length_cons, List.length_nil, List.length_flatMap]; exact infos_len this
theorem peq.calls' (k gv gv' c c' L L' : Nat) (A A' : Option Addr) (Ps Qs : List PI) (b : Bool) (w : World) (hL : L = Ps.length) (hL' : L' = Qs.length) (hA : 0 < L → A = some ⟨gv, 0, none⟩) (hA' : 0 < L' → A' = some ⟨gv', 0, none⟩) (hn : Ps.length ≤ 1000000) (h1 : RowsAt w gv Ps) (h2 : RowsAt w gv' Qs) (h : peq.f k Ps Qs = some b) :
  Calls Try.prog 77 #[.slice A L c, .slice A' L' c', .func (.func 78) #[] #[]] w fun e w' => e = .returned (.bool b) ∧ Below w.heap.size w w' := by
 subst hL
 subst hL'
 exact peq.calls k gv gv' c c' A A' Ps Qs b w hA hA' hn h1 h2 h
set_option maxHeartbeats 8000000 in
set_option maxRecDepth 100000 in
theorem blob_Equal.calls (k : Nat) (a0_0 : Int) (a0_1 : Int) (a0_2 : Int) (a0_3 : Int) (a0_4 : Int) (a0_5 : Int) (A0_6 : Option Addr) (c0_6 : Nat) (l0_6 : List S115) (a0_7 : Int) (a0_8 : Int) (A0_9 : Option Addr) (c0_9 : Nat) (l0_9 : List Int) (A0_10 : Option Addr) (c0_10 : Nat) (l0_10 : List S120) (A0_11 : Option Addr) (c0_11 : Nat) (l0_11 : List Int) (a0_12 : Int) (a0_13 : Int) (A0_14 : Option Addr) (c0_14 : Nat) (l0_14 : List Int) (a1_0 : Int) (a1_1 : Int) (a1_2 : Int) (a1_3 : Int) (a1_4 : Int) (a1_5 : Int) (A1_6 : Option Addr) (c1_6 : Nat) (l1_6 : List S115) (a1_7 : Int) (a1_8 : Int) (A1_9 : Option Addr) (c1_9 : Nat) (l1_9 : List Int) (A1_10 : Option Addr) (c1_10 : Nat) (l1_10 : List S120) (A1_11 : Option Addr) (c1_11 : Nat) (l1_11 : List Int) (a1_12 : Int) (a1_13 : Int) (A1_14 : Option Addr) (c1_14 : Nat) (l1_14 : List Int) (b : Bool) (w : World) (hr0_6 : Kd.C k115 w A0_6 l0_6.length l0_6) (hc0_6 : l0_6.length ≤ c0_6) (hr0_9 : Kd.C (Kd.int .i32) w A0_9 l0_9.length l0_9) (hc0_9 : l0_9.length ≤ c0_9) (hr0_10 : Kd.C k120 w A0_10 l0_10.length l0_10) (hc0_10 : l0_10.length ≤ c0_10) (hr0_11 : Kd.C (Kd.int .i32) w A0_11 l0_11.length l0_11) (hc0_11 : l0_11.length ≤ c0_11) (hr0_14 : Kd.C (Kd.int .i32) w A0_14 l0_14.length l0_14) (hc0_14 : l0_14.length ≤ c0_14) (hr1_6 : Kd.C k115 w A1_6 l1_6.length l1_6) (hc1_6 : l1_6.length ≤ c1_6) (hr1_9 : Kd.C (Kd.int .i32) w A1_9 l1_9.length l1_9) (hc1_9 : l1_9.length ≤ c1_9) (hr1_10 : Kd.C k120 w A1_10 l1_10.length l1_10) (hc1_10 : l1_10.length ≤ c1_10) (hr1_11 : Kd.C (Kd.int .i32) w A1_11 l1_11.length l1_11) (hc1_11 : l1_11.length ≤ c1_11) (hr1_14 : Kd.C (Kd.int .i32) w A1_14 l1_14.length l1_14) (hc1_14 : l1_14.length ≤ c1_14) (h : blob_Equal.f k a0_0 a0_1 a0_2 a0_3 a0_4 a0_5 l0_6 a0_7 a0_8 l0_9 l0_10 l0_11 a0_12 a0_13 l0_14 a1_0 a1_1 a1_2 a1_3 a1_4 a1_5 l1_6 a1_7 a1_8 l1_9 l1_10 l1_11 a1_12 a1_13 l1_14 = some b) :
  Calls Try.prog 36 #[.agg #[.int .i64 a0_0, .int .i64 a0_1, .int .i64 a0_2, .int .i64 a0_3, .int .i64 a0_4, .int .i64 a0_5, .slice A0_6 l0_6.length c0_6, .int .i64 a0_7, .int .i64 a0_8, .slice A0_9 l0_9.length c0_9, .slice A0_10 l0_10.length c0_10, .slice A0_11 l0_11.length c0_11, .int .i64 a0_12, .int .i64 a0_13, .slice A0_14 l0_14.length c0_14], .agg #[.int .i64 a1_0, .int .i64 a1_1, .int .i64 a1_2, .int .i64 a1_3, .int .i64 a1_4, .int .i64 a1_5, .slice A1_6 l1_6.length c1_6, .int .i64 a1_7, .int .i64 a1_8, .slice A1_9 l1_9.length c1_9, .slice A1_10 l1_10.length c1_10, .slice A1_11 l1_11.length c1_11, .int .i64 a1_12, .int .i64 a1_13, .slice A1_14 l1_14.length c1_14]] w fun e w' => e = .returned (.bool b) ∧ Below w.heap.size w w' := by
 have hu54 := Try.underlying54
 have hu67 := Try.underlying67
 have hu105 := Try.underlying105
 have HB := Aside0.mk (Below.refl w.heap.size w)
 have HR0_6 := Aside0.mk hr0_6
 have HC0_6 := Aside0.mk hc0_6
 clear hr0_6 hc0_6
 have HR0_9 := Aside0.mk hr0_9
 have HC0_9 := Aside0.mk hc0_9
 clear hr0_9 hc0_9
 have HR0_10 := Aside0.mk hr0_10
 have HC0_10 := Aside0.mk hc0_10
 clear hr0_10 hc0_10
 have HR0_11 := Aside0.mk hr0_11
 have HC0_11 := Aside0.mk hc0_11
 clear hr0_11 hc0_11
 have HR0_14 := Aside0.mk hr0_14
 have HC0_14 := Aside0.mk hc0_14
 clear hr0_14 hc0_14
 have HR1_6 := Aside0.mk hr1_6
 have HC1_6 := Aside0.mk hc1_6
 clear hr1_6 hc1_6
 have HR1_9 := Aside0.mk hr1_9
 have HC1_9 := Aside0.mk hc1_9
 clear hr1_9 hc1_9
 have HR1_10 := Aside0.mk hr1_10
 have HC1_10 := Aside0.mk hc1_10
 clear hr1_10 hc1_10
 have HR1_11 := Aside0.mk hr1_11
 have HC1_11 := Aside0.mk hc1_11
 clear hr1_11 hc1_11
 have HR1_14 := Aside0.mk hr1_14
 have HC1_14 := Aside0.mk hc1_14
 clear hr1_14 hc1_14
 have HH := Aside0.mk h
 clear h
 by_cases hc : a0_0 = a1_0 ∧ a0_1 = a1_1 ∧ a0_2 = a1_2 ∧ a0_3 = a1_3 ∧ a0_4 = a1_4 ∧ a0_5 = a1_5
 case neg =>
  obtain rfl : false = b := Option.some.inj (show some false = some b from by have h_ := HH.out; unfold blob_Equal.f at h_; rw [if_neg hc] at h_; exact h_)
  go_enter Try.func36, Try.ntmps36
  go_wp2_with (first | ((with_reducible refine gate_dst (N := 2) rfl ?_); refine box_event ?hg (N := 2) ?hd (cs := #[.int .i64 a0_0, .int .i64 a0_1, .int .i64 a0_2, .int .i64 a0_3, .int .i64 a0_4, .int .i64 a0_5, .slice A0_6 l0_6.length c0_6, .int .i64 a0_7, .int .i64 a0_8, .slice A0_9 l0_9.length c0_9, .slice A0_10 l0_10.length c0_10, .slice A0_11 l0_11.length c0_11, .int .i64 a0_12, .int .i64 a0_13, .slice A0_14 l0_14.length c0_14]) (t := 67) ?hr ?_; (case hd => rfl); (case hg => rfl); (case hr => first | (go_simp; done) | (go_simp; rfl)); intro gp hg w1 hbox hb; have BP := Aside0.mk hbox; replace HB := Aside0.mk (below_step HB.out hb); skip; clear hbox hb hg) | ((with_reducible refine gate_dst (N := 3) rfl ?_); refine box_event ?hg (N := 3) ?hd (cs := #[.int .i64 a1_0, .int .i64 a1_1, .int .i64 a1_2, .int .i64 a1_3, .int .i64 a1_4, .int .i64 a1_5, .slice A1_6 l1_6.length c1_6, .int .i64 a1_7, .int .i64 a1_8, .slice A1_9 l1_9.length c1_9, .slice A1_10 l1_10.length c1_10, .slice A1_11 l1_11.length c1_11, .int .i64 a1_12, .int .i64 a1_13, .slice A1_14 l1_14.length c1_14]) (t := 67) ?hr ?_; (case hd => rfl); (case hg => rfl); (case hr => first | (go_simp; done) | (go_simp; rfl)); intro gq hg w2 hbox hb; have BQ := Aside0.mk hbox; replace HB := Aside0.mk (below_step HB.out hb); replace BP := Aside0.mk (blk_below BP.out hb); have hzp := bx15 BP.out; have hzq := bx15 BQ.out; clear hbox hb hg))
  all_goals first
   | exact absurd ⟨by assumption, by assumption, by assumption, by assumption, by assumption, by assumption⟩ hc
   | (go_ret; exact ⟨rfl, HB.out⟩)
 case pos =>
  replace HH := Aside0.mk (show ((rope_Turn_76.f k l0_6 l1_6).bind fun t => if t = true then (if l0_10.length = l1_10.length then (if l0_10.length ≤ 100000 then peq.f k (infos a0_5 (wrap64 (a0_1 * a0_3)) (wrap64 (a0_2 * a0_3)) a0_4 a0_7 a0_8 l0_9 l0_10 l0_11 a0_12 a0_13 l0_14) (infos a1_5 (wrap64 (a1_1 * a1_3)) (wrap64 (a1_2 * a1_3)) a1_4 a1_7 a1_8 l1_9 l1_10 l1_11 a1_12 a1_13 l1_14) else none) else some false) else some false) = some b from by have h_ := HH.out; unfold blob_Equal.f at h_; rw [if_pos hc] at h_; exact h_)
  obtain ⟨rfl, rfl, rfl, rfl, rfl, rfl⟩ := hc
  obtain ⟨t, ht, hr⟩ := Option.bind_eq_some_iff.mp HH.out
  have HT := Aside0.mk ht
  clear ht HH
  cases t with
  | false =>
   obtain rfl : false = b := Option.some.inj (show some false = some b from hr)
   go_enter Try.func36, Try.ntmps36
   go_wp2_with (first | ((with_reducible refine gate_dst (N := 2) rfl ?_); refine box_event ?hg (N := 2) ?hd (cs := #[.int .i64 a0_0, .int .i64 a0_1, .int .i64 a0_2, .int .i64 a0_3, .int .i64 a0_4, .int .i64 a0_5, .slice A0_6 l0_6.length c0_6, .int .i64 a0_7, .int .i64 a0_8, .slice A0_9 l0_9.length c0_9, .slice A0_10 l0_10.length c0_10, .slice A0_11 l0_11.length c0_11, .int .i64 a0_12, .int .i64 a0_13, .slice A0_14 l0_14.length c0_14]) (t := 67) ?hr ?_; (case hd => rfl); (case hg => rfl); (case hr => first | (go_simp; done) | (go_simp; rfl)); intro gp hg w1 hbox hb; have BP := Aside0.mk hbox; replace HB := Aside0.mk (below_step HB.out hb); skip; clear hbox hb hg) | ((with_reducible refine gate_dst (N := 3) rfl ?_); refine box_event ?hg (N := 3) ?hd (cs := #[.int .i64 a0_0, .int .i64 a0_1, .int .i64 a0_2, .int .i64 a0_3, .int .i64 a0_4, .int .i64 a0_5, .slice A1_6 l1_6.length c1_6, .int .i64 a1_7, .int .i64 a1_8, .slice A1_9 l1_9.length c1_9, .slice A1_10 l1_10.length c1_10, .slice A1_11 l1_11.length c1_11, .int .i64 a1_12, .int .i64 a1_13, .slice A1_14 l1_14.length c1_14]) (t := 67) ?hr ?_; (case hd => rfl); (case hg => rfl); (case hr => first | (go_simp; done) | (go_simp; rfl)); intro gq hg w2 hbox hb; have BQ := Aside0.mk hbox; replace HB := Aside0.mk (below_step HB.out hb); replace BP := Aside0.mk (blk_below BP.out hb); have hzp := bx15 BP.out; have hzq := bx15 BQ.out; clear hbox hb hg) | (go_at_call 76; (with_reducible refine (rope_Turn_76.calls k _ _ l0_6 _ _ l1_6 false _ (Kd.C_below HR0_6.out HB.out) HC0_6.out (Kd.C_below HR1_6.out HB.out) HC1_6.out HT.out).mono ?_); rintro e w3 ⟨rfl, ⟨nd, rfl⟩⟩; have hb : Below w2.heap.size w2 (w2.drewN nd) := pw_below_drewN (Below.refl _ _) nd; replace BP := Aside0.mk (blk_below BP.out hb); replace BQ := Aside0.mk (blk_below BQ.out hb); replace HB := Aside0.mk (below_step HB.out hb); clear hb hzp hzq; have hzp := bx15 BP.out; have hzq := bx15 BQ.out))
   go_ret
   exact ⟨rfl, HB.out⟩
  | true =>
   rw [if_pos rfl] at hr
   by_cases hl : l0_10.length = l1_10.length
   case neg =>
    rw [if_neg hl] at hr
    obtain rfl : false = b := Option.some.inj hr
    have d1 : ((l0_10.length : Int) == (l1_10.length : Int)) = false := beq_eq_false_iff_ne.mpr (by omega)
    have d2 : (l0_10.length == l1_10.length) = false := beq_eq_false_iff_ne.mpr hl
    go_enter Try.func36, Try.ntmps36
    go_wp2_with (first | ((with_reducible refine gate_dst (N := 2) rfl ?_); refine box_event ?hg (N := 2) ?hd (cs := #[.int .i64 a0_0, .int .i64 a0_1, .int .i64 a0_2, .int .i64 a0_3, .int .i64 a0_4, .int .i64 a0_5, .slice A0_6 l0_6.length c0_6, .int .i64 a0_7, .int .i64 a0_8, .slice A0_9 l0_9.length c0_9, .slice A0_10 l0_10.length c0_10, .slice A0_11 l0_11.length c0_11, .int .i64 a0_12, .int .i64 a0_13, .slice A0_14 l0_14.length c0_14]) (t := 67) ?hr ?_; (case hd => rfl); (case hg => rfl); (case hr => first | (go_simp; done) | (go_simp; rfl)); intro gp hg w1 hbox hb; have BP := Aside0.mk hbox; replace HB := Aside0.mk (below_step HB.out hb); skip; clear hbox hb hg) | ((with_reducible refine gate_dst (N := 3) rfl ?_); refine box_event ?hg (N := 3) ?hd (cs := #[.int .i64 a0_0, .int .i64 a0_1, .int .i64 a0_2, .int .i64 a0_3, .int .i64 a0_4, .int .i64 a0_5, .slice A1_6 l1_6.length c1_6, .int .i64 a1_7, .int .i64 a1_8, .slice A1_9 l1_9.length c1_9, .slice A1_10 l1_10.length c1_10, .slice A1_11 l1_11.length c1_11, .int .i64 a1_12, .int .i64 a1_13, .slice A1_14 l1_14.length c1_14]) (t := 67) ?hr ?_; (case hd => rfl); (case hg => rfl); (case hr => first | (go_simp; done) | (go_simp; rfl)); intro gq hg w2 hbox hb; have BQ := Aside0.mk hbox; replace HB := Aside0.mk (below_step HB.out hb); replace BP := Aside0.mk (blk_below BP.out hb); have hzp := bx15 BP.out; have hzq := bx15 BQ.out; clear hbox hb hg) | (go_at_call 76; (with_reducible refine (rope_Turn_76.calls k _ _ l0_6 _ _ l1_6 true _ (Kd.C_below HR0_6.out HB.out) HC0_6.out (Kd.C_below HR1_6.out HB.out) HC1_6.out HT.out).mono ?_); rintro e w3 ⟨rfl, ⟨nd, rfl⟩⟩; have hb : Below w2.heap.size w2 (w2.drewN nd) := pw_below_drewN (Below.refl _ _) nd; replace BP := Aside0.mk (blk_below BP.out hb); replace BQ := Aside0.mk (blk_below BQ.out hb); replace HB := Aside0.mk (below_step HB.out hb); clear hb hzp hzq; have hzp := bx15 BP.out; have hzq := bx15 BQ.out))
    go_ret
    exact ⟨rfl, HB.out⟩
   case pos =>
    rw [if_pos hl] at hr
    by_cases hn : l0_10.length ≤ 100000
    case neg => (rw [if_neg hn] at hr; cases hr)
    rw [if_pos hn] at hr
    have HP := Aside0.mk hr
    have HN0 := Aside0.mk hn
    have HN1 := Aside0.mk (show l1_10.length ≤ 100000 by omega)
    clear hr hn
    have d1 : ((l0_10.length : Int) == (l1_10.length : Int)) = true := beq_iff_eq.mpr (by omega)
    have d2 : (l0_10.length == l1_10.length) = true := beq_iff_eq.mpr hl
    have HLL := Aside0.mk hl
    clear hl
    obtain ⟨gl0, ol0, hgl0⟩ := plain_of HR0_10.out
    have HGL0 := Aside0.mk hgl0
    clear hgl0
    obtain ⟨gl1, ol1, hgl1⟩ := plain_of HR1_10.out
    have HGL1 := Aside0.mk hgl1
    clear hgl1
    go_enter Try.func36, Try.ntmps36
    go_wp2_with (first | ((with_reducible refine gate_dst (N := 2) rfl ?_); refine box_event ?hg (N := 2) ?hd (cs := #[.int .i64 a0_0, .int .i64 a0_1, .int .i64 a0_2, .int .i64 a0_3, .int .i64 a0_4, .int .i64 a0_5, .slice A0_6 l0_6.length c0_6, .int .i64 a0_7, .int .i64 a0_8, .slice A0_9 l0_9.length c0_9, .slice A0_10 l0_10.length c0_10, .slice A0_11 l0_11.length c0_11, .int .i64 a0_12, .int .i64 a0_13, .slice A0_14 l0_14.length c0_14]) (t := 67) ?hr ?_; (case hd => rfl); (case hg => rfl); (case hr => first | (go_simp; done) | (go_simp; rfl)); intro gp hg w1 hbox hb; have BP := Aside0.mk hbox; replace HB := Aside0.mk (below_step HB.out hb); skip; clear hbox hb hg) | ((with_reducible refine gate_dst (N := 3) rfl ?_); refine box_event ?hg (N := 3) ?hd (cs := #[.int .i64 a0_0, .int .i64 a0_1, .int .i64 a0_2, .int .i64 a0_3, .int .i64 a0_4, .int .i64 a0_5, .slice A1_6 l1_6.length c1_6, .int .i64 a1_7, .int .i64 a1_8, .slice A1_9 l1_9.length c1_9, .slice A1_10 l1_10.length c1_10, .slice A1_11 l1_11.length c1_11, .int .i64 a1_12, .int .i64 a1_13, .slice A1_14 l1_14.length c1_14]) (t := 67) ?hr ?_; (case hd => rfl); (case hg => rfl); (case hr => first | (go_simp; done) | (go_simp; rfl)); intro gq hg w2 hbox hb; have BQ := Aside0.mk hbox; replace HB := Aside0.mk (below_step HB.out hb); replace BP := Aside0.mk (blk_below BP.out hb); have hzp := bx15 BP.out; have hzq := bx15 BQ.out; clear hbox hb hg) | (go_at_call 76; (with_reducible refine (rope_Turn_76.calls k _ _ l0_6 _ _ l1_6 true _ (Kd.C_below HR0_6.out HB.out) HC0_6.out (Kd.C_below HR1_6.out HB.out) HC1_6.out HT.out).mono ?_); rintro e w3 ⟨rfl, ⟨nd, rfl⟩⟩; have hb : Below w2.heap.size w2 (w2.drewN nd) := pw_below_drewN (Below.refl _ _) nd; replace BP := Aside0.mk (blk_below BP.out hb); replace BQ := Aside0.mk (blk_below BQ.out hb); replace HB := Aside0.mk (below_step HB.out hb); clear hb hzp hzq; have hzp := bx15 BP.out; have hzq := bx15 BQ.out) | (go_at_call 57; (with_reducible refine (bp.calls gp gl0 ol0 l0_10.length c0_10 A0_10 a0_0 a0_1 a0_2 a0_3 a0_4 a0_5 _ _ _ _ _ _ _ _ _ BP.out HGL0.out (Nat.le_trans HN0.out (by decide))).mono ?_); rintro e w4 ⟨v, rfl, hv, hb⟩; have HV0 := Aside0.mk (Kd.R_lower hv (below_size HB.out)); skip; replace BP := Aside0.mk (blk_below BP.out hb); replace BQ := Aside0.mk (blk_below BQ.out hb); replace HB := Aside0.mk (below_step HB.out hb); obtain ⟨V0, C0, rfl⟩ := Kd.R_slice hv; clear hb hv) | (go_at_call 57; (with_reducible refine (bp.calls gq gl1 ol1 l1_10.length c1_10 A1_10 a0_0 a0_1 a0_2 a0_3 a0_4 a0_5 _ _ _ _ _ _ _ _ _ BQ.out HGL1.out (Nat.le_trans HN1.out (by decide))).mono ?_); rintro e w5 ⟨v, rfl, hv, hb⟩; have HV1 := Aside0.mk (Kd.R_lower hv (below_size HB.out)); replace HV0 := Aside0.mk (Kd.R_below HV0.out hb); replace BP := Aside0.mk (blk_below BP.out hb); replace BQ := Aside0.mk (blk_below BQ.out hb); replace HB := Aside0.mk (below_step HB.out hb); obtain ⟨V1, C1, rfl⟩ := Kd.R_slice hv; clear hb hv) | (go_at_call 77; have HI0 := Aside0.mk (all_I BP.out (Kd.C_below HR0_9.out HB.out) HC0_9.out (Kd.C_below HR0_10.out HB.out) HGL0.out (Kd.C_below HR0_11.out HB.out) HC0_11.out (Kd.C_below HR0_14.out HB.out) HC0_14.out a0_5 (wrap64 (a0_1 * a0_3)) (wrap64 (a0_2 * a0_3)) a0_4); have HI1 := Aside0.mk (all_I BQ.out (Kd.C_below HR1_9.out HB.out) HC1_9.out (Kd.C_below HR1_10.out HB.out) HGL1.out (Kd.C_below HR1_11.out HB.out) HC1_11.out (Kd.C_below HR1_14.out HB.out) HC1_14.out a0_5 (wrap64 (a0_1 * a0_3)) (wrap64 (a0_2 * a0_3)) a0_4); obtain ⟨gv0, hgv0⟩ := row_plain HV0.out; obtain ⟨gv1, hgv1⟩ := row_plain HV1.out; have RA0 := Aside0.mk (rows_at HV0.out hgv0 HI0.out); have RA1 := Aside0.mk (rows_at HV1.out hgv1 HI1.out); (with_reducible refine (peq.calls' k gv0 gv1 _ _ _ _ _ _ (infos a0_5 (wrap64 (a0_1 * a0_3)) (wrap64 (a0_2 * a0_3)) a0_4 a0_7 a0_8 l0_9 l0_10 l0_11 a0_12 a0_13 l0_14) (infos a0_5 (wrap64 (a0_1 * a0_3)) (wrap64 (a0_2 * a0_3)) a0_4 a1_7 a1_8 l1_9 l1_10 l1_11 a1_12 a1_13 l1_14) b _ (RowsI.length HI0.out) (RowsI.length HI1.out) hgv0 hgv1 (infos_ok HN0.out) RA0.out RA1.out HP.out).mono ?_); rintro e w9 ⟨rfl, hb⟩; replace HB := Aside0.mk (below_step HB.out hb); clear hb hzp hzq))
    go_ret
    exact ⟨rfl, HB.out⟩

/-! ### credenzalaw18_least: function 58 -/
def credenzalaw18_least.f  : Option (Int × Int × Int × Int × Int × Int) := some (1, 1, 1, 2, 1, 2)
set_option maxHeartbeats 8000000 in
set_option maxRecDepth 100000 in
theorem credenzalaw18_least.calls  (r1 : Int) (r2 : Int) (r3 : Int) (r4 : Int) (r5 : Int) (r6 : Int) (w : World) (h : credenzalaw18_least.f  = some (r1, r2, r3, r4, r5, r6)) :
  Calls Try.prog 58 #[] w fun e w' => e = .returned (.agg #[.int .i64 r1, .int .i64 r2, .int .i64 r3, .int .i64 r4, .int .i64 r5, .int .i64 r6]) ∧ Below w.heap.size w w' := by
 have hu54 := Try.underlying54
 have HB := Aside0.mk (Below.refl w.heap.size w)
 have H : (some (1, 1, 1, 2, 1, 2)) = some (r1, r2, r3, r4, r5, r6) := h
 clear h
 simp only [Option.some.injEq, Prod.mk.injEq] at H
 obtain ⟨rfl, rfl, rfl, rfl, rfl, rfl⟩ := H
 go_enter Try.func58, Try.ntmps58
 go_wp2_with (first | ((with_reducible refine gate_dst (N := 0) rfl ?_); refine box_event ?hg (N := 0) ?hd (cs := #[.int .i64 0, .int .i64 0, .int .i64 0, .int .i64 0, .int .i64 0, .int .i64 0]) (t := 54) ?hr ?_; (case hd => rfl); (case hg => rfl); (case hr => first | (go_simp; done) | (go_simp; rfl)); intro gb150 hg w1 hbox hb; have n0_ := Aside0.mk (below_step (by with_reducible exact HB.out) hb); have n1_ := Aside0.mk (hbox); have n2_ := Aside0.mk ((by rw [hg]; exact (below_size (by with_reducible exact HB.out)) : w.heap.size ≤ gb150)); have n3_ := Aside0.mk ((by rw [hg]; exact (below_size (by with_reducible exact HB.out)) : w.heap.size ≤ gb150)); clear HB; have HB := n0_; have BK150 := n1_; have GW150 := n2_; have GE150 := n3_; clear n0_ n1_ n2_ n3_; clear hb hbox hg; have hcz2_0 : w1.cell? ⟨gb150, 0, none⟩ = some (.int .i64 0) := (blk_cell BK150.out 0).trans rfl; have hcz2_1 : w1.cell? ⟨gb150, 1, none⟩ = some (.int .i64 0) := (blk_cell BK150.out 1).trans rfl; have hcz2_2 : w1.cell? ⟨gb150, 2, none⟩ = some (.int .i64 0) := (blk_cell BK150.out 2).trans rfl; have hcz2_3 : w1.cell? ⟨gb150, 3, none⟩ = some (.int .i64 0) := (blk_cell BK150.out 3).trans rfl; have hcz2_4 : w1.cell? ⟨gb150, 4, none⟩ = some (.int .i64 0) := (blk_cell BK150.out 4).trans rfl; have hcz2_5 : w1.cell? ⟨gb150, 5, none⟩ = some (.int .i64 0) := (blk_cell BK150.out 5).trans rfl; have hfz2_0 := blk_frozen BK150.out 0; have hfz2_1 := blk_frozen BK150.out 1; have hfz2_2 := blk_frozen BK150.out 2; have hfz2_3 := blk_frozen BK150.out 3; have hfz2_4 := blk_frozen BK150.out 4; have hfz2_5 := blk_frozen BK150.out 5))
 refine bodyPost_ret (results_cell_row rfl _ _ gb150 54 #[.int .i64 1, .int .i64 1, .int .i64 1, .int .i64 2, .int .i64 1, .int .i64 2] (0, 0) _ rfl (by (with_reducible repeat (first | refine blk_drewN ?_ _ | refine blk_drew ?_ | refine blk_alloc ?_ _)); refine blk_put (cs := #[.int .i64 1, .int .i64 1, .int .i64 1, .int .i64 2, .int .i64 1, .int .i64 0]) ?_ 5 _ rfl; (with_reducible repeat (first | refine blk_drewN ?_ _ | refine blk_drew ?_ | refine blk_alloc ?_ _)); refine blk_put (cs := #[.int .i64 1, .int .i64 1, .int .i64 1, .int .i64 2, .int .i64 0, .int .i64 0]) ?_ 4 _ rfl; (with_reducible repeat (first | refine blk_drewN ?_ _ | refine blk_drew ?_ | refine blk_alloc ?_ _)); refine blk_put (cs := #[.int .i64 1, .int .i64 1, .int .i64 1, .int .i64 0, .int .i64 0, .int .i64 0]) ?_ 3 _ rfl; (with_reducible repeat (first | refine blk_drewN ?_ _ | refine blk_drew ?_ | refine blk_alloc ?_ _)); refine blk_put (cs := #[.int .i64 1, .int .i64 1, .int .i64 0, .int .i64 0, .int .i64 0, .int .i64 0]) ?_ 2 _ rfl; (with_reducible repeat (first | refine blk_drewN ?_ _ | refine blk_drew ?_ | refine blk_alloc ?_ _)); refine blk_put (cs := #[.int .i64 1, .int .i64 0, .int .i64 0, .int .i64 0, .int .i64 0, .int .i64 0]) ?_ 1 _ rfl; (with_reducible repeat (first | refine blk_drewN ?_ _ | refine blk_drew ?_ | refine blk_alloc ?_ _)); refine blk_put (cs := #[.int .i64 0, .int .i64 0, .int .i64 0, .int .i64 0, .int .i64 0, .int .i64 0]) ?_ 0 _ rfl; (with_reducible repeat (first | refine blk_drewN ?_ _ | refine blk_drew ?_ | refine blk_alloc ?_ _)); exact BK150.out) Try.underlying54 rfl (by kernel_rfl)) rfl ?_
 exact ⟨by first | rfl | (simp [errW_none, errW_some] <;> rfl) | (simp [*, errW_none, errW_some] <;> rfl), by repeat (first | (with_reducible first | exact HB.out | apply below_alloc | apply pw_below_drewN | apply below_drew1 | refine below_set ?_ GE150.out) | exact HB.out)⟩

/-! ### credenzalaw18_awake: function 26 -/
def credenzalaw18_awake.f (k : Nat) : Option Bool := (blob_Parse.f k (([87] : List Int))).bind fun bp => ((credenzalaw18_least.f).bind fun bt => ((blob_Config_Right.f bt.1 bt.2.1 bt.2.2.1 bt.2.2.2.1 bt.2.2.2.2.1 bt.2.2.2.2.2).bind fun t1 => (if t1 = true then ((blob_Config_Width.f bt.1 bt.2.1 bt.2.2.1 bt.2.2.2.1 bt.2.2.2.2.1 bt.2.2.2.2.2).bind fun t2 => (if t2 = 2 then ((blob_Config_Numbers.f bt.1 bt.2.1 bt.2.2.1 bt.2.2.2.1 bt.2.2.2.2.1 bt.2.2.2.2.2).bind fun t3 => (if t3 = 38 then ((blob_Config_Right.f 0 0 0 0 0 0).bind fun t4 => (if t4 = true then (none) else ((blob_Right.f k 0 0 0 0 0 0 ([] : List (S115)) 0 0 ([] : List Int) ([] : List (S120)) ([] : List Int) 0 0 ([] : List Int)).bind fun t5 => (if t5 = 11 then ((blob_Right.f k bt.1 bt.2.1 bt.2.2.1 bt.2.2.2.1 bt.2.2.2.2.1 bt.2.2.2.2.2 ([] : List (S115)) 0 0 ([] : List Int) ([] : List (S120)) ([] : List Int) 0 0 ([] : List Int)).bind fun t6 => (if t6 = 25 then (if bp.2.2.2.2.2.2.2.2.2.2.2.2.2.2.2 = 16 then ((blob_Equal.f k 0 0 0 0 0 0 ([] : List (S115)) 0 0 ([] : List Int) ([] : List (S120)) ([] : List Int) 0 0 ([] : List Int) 0 0 0 0 0 0 ([] : List (S115)) 0 0 ([] : List Int) ([] : List (S120)) ([] : List Int) 0 0 ([] : List Int)).bind fun t7 => (if t7 = true then ((blob_Equal.f k 0 0 0 0 0 0 ([] : List (S115)) 0 0 ([] : List Int) ([] : List (S120)) ([] : List Int) 0 0 ([] : List Int) bt.1 bt.2.1 bt.2.2.1 bt.2.2.2.1 bt.2.2.2.2.1 bt.2.2.2.2.2 ([] : List (S115)) 0 0 ([] : List Int) ([] : List (S120)) ([] : List Int) 0 0 ([] : List Int)).bind fun t8 => (some (!t8))) else (none))) else (none)) else (none))) else (none))))) else (none))) else (none))) else (none))))
theorem credenzalaw18_awake.mono : ∀ k, LeO (credenzalaw18_awake.f k) (credenzalaw18_awake.f (k + 1)) := by
 intro k
 unfold credenzalaw18_awake.f
 repeat' first
   | (with_reducible exact blob_Equal.mono _ _ _ _ _ _ _ _ _ _ _ _ _ _ _ _ _ _ _ _ _ _ _ _ _ _ _ _ _ _ _)
   | (with_reducible exact blob_Parse.mono _ _)
   | (with_reducible exact blob_Right.mono _ _ _ _ _ _ _ _ _ _ _ _ _ _ _ _)
   | (with_reducible exact LeO.refl _)
   | (with_reducible exact LeO.none _)
   | (with_reducible refine LeO.ite ?_ ?_)
   | (with_reducible refine LeO.bind ?_ (fun _ => ?_))
set_option maxRecDepth 100000 in
theorem credenzalaw18_awake.known (k : Nat) (r : Bool) (h : credenzalaw18_awake.f k = some r) : ∃ (p0 : Int) (p1 : Int) (p2 : Int) (p3 : Int) (p4 : Int) (p5 : Int) (p6 : List S115) (p7 : Int) (p8 : Int) (p9 : List Int) (p10 : List S120) (p11 : List Int) (p12 : Int) (p13 : Int) (p14 : List Int) (p15 : Int), blob_Parse.f k ([87] : List Int) = some (p0, p1, p2, p3, p4, p5, p6, p7, p8, p9, p10, p11, p12, p13, p14, p15) ∧ p15 = 16 ∧ blob_Right.f k 0 0 0 0 0 0 ([] : List (S115)) 0 0 ([] : List Int) ([] : List (S120)) ([] : List Int) 0 0 ([] : List Int) = some 11 ∧ blob_Right.f k 1 1 1 2 1 2 ([] : List (S115)) 0 0 ([] : List Int) ([] : List (S120)) ([] : List Int) 0 0 ([] : List Int) = some 25 ∧ blob_Equal.f k 0 0 0 0 0 0 ([] : List (S115)) 0 0 ([] : List Int) ([] : List (S120)) ([] : List Int) 0 0 ([] : List Int) 0 0 0 0 0 0 ([] : List (S115)) 0 0 ([] : List Int) ([] : List (S120)) ([] : List Int) 0 0 ([] : List Int) = some true ∧ blob_Equal.f k 0 0 0 0 0 0 ([] : List (S115)) 0 0 ([] : List Int) ([] : List (S120)) ([] : List Int) 0 0 ([] : List Int) 1 1 1 2 1 2 ([] : List (S115)) 0 0 ([] : List Int) ([] : List (S120)) ([] : List Int) 0 0 ([] : List Int) = some (!r) := by
 unfold credenzalaw18_awake.f at h
 obtain ⟨⟨p0, p1, p2, p3, p4, p5, p6, p7, p8, p9, p10, p11, p12, p13, p14, p15⟩, h1, H⟩ := Option.bind_eq_some_iff.mp h
 clear h
 replace H : ((blob_Config_Right.f 1 1 1 2 1 2).bind fun t1 => (if t1 = true then ((blob_Config_Width.f 1 1 1 2 1 2).bind fun t2 => (if t2 = 2 then ((blob_Config_Numbers.f 1 1 1 2 1 2).bind fun t3 => (if t3 = 38 then ((blob_Config_Right.f 0 0 0 0 0 0).bind fun t4 => (if t4 = true then (none) else ((blob_Right.f k 0 0 0 0 0 0 ([] : List (S115)) 0 0 ([] : List Int) ([] : List (S120)) ([] : List Int) 0 0 ([] : List Int)).bind fun t5 => (if t5 = 11 then ((blob_Right.f k 1 1 1 2 1 2 ([] : List (S115)) 0 0 ([] : List Int) ([] : List (S120)) ([] : List Int) 0 0 ([] : List Int)).bind fun t6 => (if t6 = 25 then (if p15 = 16 then ((blob_Equal.f k 0 0 0 0 0 0 ([] : List (S115)) 0 0 ([] : List Int) ([] : List (S120)) ([] : List Int) 0 0 ([] : List Int) 0 0 0 0 0 0 ([] : List (S115)) 0 0 ([] : List Int) ([] : List (S120)) ([] : List Int) 0 0 ([] : List Int)).bind fun t7 => (if t7 = true then ((blob_Equal.f k 0 0 0 0 0 0 ([] : List (S115)) 0 0 ([] : List Int) ([] : List (S120)) ([] : List Int) 0 0 ([] : List Int) 1 1 1 2 1 2 ([] : List (S115)) 0 0 ([] : List Int) ([] : List (S120)) ([] : List Int) 0 0 ([] : List Int)).bind fun t8 => (some (!t8))) else (none))) else (none)) else (none))) else (none))))) else (none))) else (none))) else (none))) = some r := H
 obtain ⟨q, hq, H⟩ := Option.bind_eq_some_iff.mp H
 obtain rfl := Option.some.inj (hq.symm.trans (show blob_Config_Right.f 1 1 1 2 1 2 = some true from by decide))
 rw [if_pos rfl] at H
 clear hq
 obtain ⟨q, hq, H⟩ := Option.bind_eq_some_iff.mp H
 obtain rfl := Option.some.inj (hq.symm.trans (show blob_Config_Width.f 1 1 1 2 1 2 = some 2 from by decide +kernel))
 rw [if_pos rfl] at H
 clear hq
 obtain ⟨q, hq, H⟩ := Option.bind_eq_some_iff.mp H
 obtain rfl := Option.some.inj (hq.symm.trans (show blob_Config_Numbers.f 1 1 1 2 1 2 = some 38 from by decide +kernel))
 rw [if_pos rfl] at H
 clear hq
 obtain ⟨q, hq, H⟩ := Option.bind_eq_some_iff.mp H
 obtain rfl := Option.some.inj (hq.symm.trans (show blob_Config_Right.f 0 0 0 0 0 0 = some false from by decide))
 rw [if_neg (by decide)] at H
 clear hq
 obtain ⟨t5, h5, H⟩ := Option.bind_eq_some_iff.mp H
 by_cases c5 : t5 = 11
 case neg => (rw [if_neg c5] at H; cases H)
 rw [if_pos c5] at H
 subst c5
 obtain ⟨t6, h6, H⟩ := Option.bind_eq_some_iff.mp H
 by_cases c6 : t6 = 25
 case neg => (rw [if_neg c6] at H; cases H)
 rw [if_pos c6] at H
 subst c6
 by_cases c7 : p15 = 16
 case neg => (rw [if_neg c7] at H; cases H)
 rw [if_pos c7] at H
 obtain ⟨t7, h7, H⟩ := Option.bind_eq_some_iff.mp H
 by_cases c8 : t7 = true
 case neg => (rw [if_neg c8] at H; cases H)
 rw [if_pos c8] at H
 subst c8
 obtain ⟨t8, h8, H⟩ := Option.bind_eq_some_iff.mp H
 obtain rfl := Option.some.inj H
 exact ⟨p0, p1, p2, p3, p4, p5, p6, p7, p8, p9, p10, p11, p12, p13, p14, p15, h1, c7, h5, h6, h7, by rw [Bool.not_not]; exact h8⟩
set_option maxHeartbeats 8000000 in
set_option maxRecDepth 100000 in
theorem credenzalaw18_awake.calls (k : Nat) (r : Bool) (w : World) (h : credenzalaw18_awake.f k = some r) :
  Calls Try.prog 26 #[] w fun e w' => e = .returned (.bool r) ∧ Below w.heap.size w w' := by
 have hu67 := Try.underlying67
 have hu54 := Try.underlying54
 have HB := Aside0.mk (Below.refl w.heap.size w)
 obtain ⟨p0, p1, p2, p3, p4, p5, p6, p7, p8, p9, p10, p11, p12, p13, p14, p15, hp, rfl, hr0, hr1, he0, he1⟩ := credenzalaw18_awake.known k r h
 clear h
 have HP := Aside0.mk hp
 have HR0 := Aside0.mk hr0
 have HR1 := Aside0.mk hr1
 have HE0 := Aside0.mk he0
 have HE1 := Aside0.mk he1
 clear hp hr0 hr1 he0 he1
 obtain ⟨y, hy⟩ : ∃ y_ : List Int, y_ = (([87] : List Int)) := ⟨_, rfl⟩
 have NY := Aside0.mk hy
 clear hy
 rw [← NY.out] at HP
 go_enter Try.func26, Try.ntmps26
 go_upto_region 2 with (first | ((with_reducible refine gate_dst (N := 5) rfl ?_); refine Kd.R_lit (Kd.int .u8) _ 5 ?hg (N := 5) ?hd (xs := ([87] : List Int)) (inner := [.int .u8 87]) (ok := fun _ => True) (okp := fun _ => True) ?hr ?hp (fun _ hk => hk) trivial (Below.refl _ _) (Nat.le_refl _) (by simp) ?_; (case hd => rfl); (case hg => rfl); (case hr => first | (go_simp; done) | (go_simp; rfl)); (case hp => exact (Reps.one (show Kd.M (Kd.int .u8) _ _ _ 87 [.int .u8 87] from rfl) (Reps.none _ _))); intro v155 w19 ho20 hb hg_ hnew_; clear hg_ hnew_; (first | rw [← NY.out] at ho20 | (simp only [Int.reduceToNat] at ho20; rw [← NY.out] at ho20)); have HO := Aside0.mk ho20; replace HB := Aside0.mk (below_step HB.out hb); clear hb ho20; obtain ⟨Ao21, co21, eo21⟩ := Kd.R_slice HO.out; subst eo21; obtain ⟨w23, hcv22, hr22, hg, hbm, hcc22⟩ := run_mark (P := Try.prog) Try.underlying32 Try.underlying5 HO.out (by first | (rw [NY.out]; decide) | decide); replace HB := Aside0.mk (hbm _ HB.out); clear HO; have HR := Aside0.mk hr22; have HC := Aside0.mk hcc22; clear hr22 hcc22 hg hbm) | (go_at_call 34; (with_reducible refine (blob_Parse.calls k _ _ y p0 p1 p2 p3 p4 p5 p6 p7 p8 p9 p10 p11 p12 p13 p14 16 _ ?side1 ?side2 HP.out).mono ?_); (case side1 => first | with_reducible exact HR.out | exact HR.out); (case side2 => exact HC.out); rintro e w24 ⟨v6, v9, v10, v11, v14, rfl, q6, q9, q10, q11, q14, hb⟩; obtain ⟨a6, b6, rfl⟩ := Kd.R_slice q6; obtain ⟨a9, b9, rfl⟩ := Kd.R_slice q9; obtain ⟨a10, b10, rfl⟩ := Kd.S_slice q10; obtain ⟨a11, b11, rfl⟩ := Kd.R_slice q11; obtain ⟨a14, b14, rfl⟩ := Kd.R_slice q14; clear q6 q9 q10 q11 q14; replace HB := Aside0.mk (below_step HB.out hb); clear HR HC NY HP hb) | ((with_reducible refine gate_dst (N := 1) rfl ?_); refine box_event ?hg (N := 1) ?hd (cs := #[.int .i64 0, .int .i64 0, .int .i64 0, .int .i64 0, .int .i64 0, .int .i64 0, .slice none 0 0, .int .i64 0, .int .i64 0, .slice none 0 0, .slice none 0 0, .slice none 0 0, .int .i64 0, .int .i64 0, .slice none 0 0]) (t := 67) ?hr ?_; (case hd => rfl); (case hg => rfl); (case hr => first | (go_simp; done) | (go_simp; rfl)); intro g1 hg w3 hbox hb; have hz := bx15 hbox; have GE := Aside0.mk (by rw [hg]; exact (below_size HB.out) : w.heap.size ≤ g1); replace HB := Aside0.mk (below_step HB.out hb); clear hbox hb hg))
 have hB1 : Below w.heap.size w ((((((((((((((((w3.setCell ⟨g1, 0, none⟩ (Value.int IntKind.i64 p0)).setCell ⟨g1, 1, none⟩ (Value.int IntKind.i64 p1)).setCell ⟨g1, 2, none⟩ (Value.int IntKind.i64 p2)).setCell ⟨g1, 3, none⟩ (Value.int IntKind.i64 p3)).setCell ⟨g1, 4, none⟩ (Value.int IntKind.i64 p4)).setCell ⟨g1, 5, none⟩ (Value.int IntKind.i64 p5)).setCell ⟨g1, 6, none⟩ (Value.slice a6 p6.length b6)).setCell ⟨g1, 7, none⟩ (Value.int IntKind.i64 p7)).setCell ⟨g1, 8, none⟩ (Value.int IntKind.i64 p8)).setCell ⟨g1, 9, none⟩ (Value.slice a9 p9.length b9)).setCell ⟨g1, 10, none⟩ (Value.slice a10 p10.length b10)).setCell ⟨g1, 11, none⟩ (Value.slice a11 p11.length b11)).setCell ⟨g1, 12, none⟩ (Value.int IntKind.i64 p12)).setCell ⟨g1, 13, none⟩ (Value.int IntKind.i64 p13)).setCell ⟨g1, 14, none⟩ (Value.slice a14 p14.length b14))) := by repeat (first | (with_reducible exact HB.out) | with_reducible refine below_set ?_ GE.out)
 replace HB := Aside0.mk hB1
 clear hB1 GE hz
 generalize (((((((((((((((w3.setCell ⟨g1, 0, none⟩ (Value.int IntKind.i64 p0)).setCell ⟨g1, 1, none⟩ (Value.int IntKind.i64 p1)).setCell ⟨g1, 2, none⟩ (Value.int IntKind.i64 p2)).setCell ⟨g1, 3, none⟩ (Value.int IntKind.i64 p3)).setCell ⟨g1, 4, none⟩ (Value.int IntKind.i64 p4)).setCell ⟨g1, 5, none⟩ (Value.int IntKind.i64 p5)).setCell ⟨g1, 6, none⟩ (Value.slice a6 p6.length b6)).setCell ⟨g1, 7, none⟩ (Value.int IntKind.i64 p7)).setCell ⟨g1, 8, none⟩ (Value.int IntKind.i64 p8)).setCell ⟨g1, 9, none⟩ (Value.slice a9 p9.length b9)).setCell ⟨g1, 10, none⟩ (Value.slice a10 p10.length b10)).setCell ⟨g1, 11, none⟩ (Value.slice a11 p11.length b11)).setCell ⟨g1, 12, none⟩ (Value.int IntKind.i64 p12)).setCell ⟨g1, 13, none⟩ (Value.int IntKind.i64 p13)).setCell ⟨g1, 14, none⟩ (Value.slice a14 p14.length b14)) = w4 at HB ⊢
 go_upto_region 3 with (first | (go_at_call 58; (with_reducible refine (credenzalaw18_least.calls 1 1 1 2 1 2 _ rfl).mono ?_); rintro e w24 ⟨rfl, hb⟩; replace HB := Aside0.mk (below_step HB.out hb); clear hb) | ((with_reducible refine gate_dst (N := 3) rfl ?_); refine box_event ?hg (N := 3) ?hd (cs := #[.int .i64 0, .int .i64 0, .int .i64 0, .int .i64 0, .int .i64 0, .int .i64 0]) (t := 54) ?hr ?_; (case hd => rfl); (case hg => rfl); (case hr => first | (go_simp; done) | (go_simp; rfl)); intro g2 hg w5 hbox hb; have hz := bx6 hbox; have HX := Aside0.mk hbox; have GE := Aside0.mk (by rw [hg]; exact (below_size HB.out) : w.heap.size ≤ g2); replace HB := Aside0.mk (below_step HB.out hb); clear hbox hb hg))
 have hb4 : _ = some (Obj.cells #[.int .i64 1, .int .i64 1, .int .i64 1, .int .i64 2, .int .i64 1, .int .i64 2] 54 (0, 0)) := blk_put (blk_put (blk_put (blk_put (blk_put (blk_put HX.out 0 (.int .i64 1) rfl) 1 (.int .i64 1) rfl) 2 (.int .i64 1) rfl) 3 (.int .i64 2) rfl) 4 (.int .i64 1) rfl) 5 (.int .i64 2) rfl
 have hB2 : Below w.heap.size w (((((((w5.setCell ⟨g2, 0, none⟩ (Value.int IntKind.i64 1)).setCell ⟨g2, 1, none⟩ (Value.int IntKind.i64 1)).setCell ⟨g2, 2, none⟩ (Value.int IntKind.i64 1)).setCell ⟨g2, 3, none⟩ (Value.int IntKind.i64 2)).setCell ⟨g2, 4, none⟩ (Value.int IntKind.i64 1)).setCell ⟨g2, 5, none⟩ (Value.int IntKind.i64 2))) := by repeat (first | (with_reducible exact HB.out) | with_reducible refine below_set ?_ GE.out)
 replace HB := Aside0.mk hB2
 have BK := Aside0.mk hb4
 clear hB2 hb4 GE hz HX
 generalize ((((((w5.setCell ⟨g2, 0, none⟩ (Value.int IntKind.i64 1)).setCell ⟨g2, 1, none⟩ (Value.int IntKind.i64 1)).setCell ⟨g2, 2, none⟩ (Value.int IntKind.i64 1)).setCell ⟨g2, 3, none⟩ (Value.int IntKind.i64 2)).setCell ⟨g2, 4, none⟩ (Value.int IntKind.i64 1)).setCell ⟨g2, 5, none⟩ (Value.int IntKind.i64 2)) = w6 at HB BK ⊢
 have hz := bx6 BK.out
 have hcr : blob_Config_Right.f 1 1 1 2 1 2 = some true := by decide
 have hcw : blob_Config_Width.f 1 1 1 2 1 2 = some 2 := by decide +kernel
 have hcn : blob_Config_Numbers.f 1 1 1 2 1 2 = some 38 := by decide +kernel
 have hcz : blob_Config_Right.f 0 0 0 0 0 0 = some false := by decide
 go_wp2_with (first | (go_at_call 24; first | ((with_reducible refine (blob_Config_Right.calls 1 1 1 2 1 2 _ _ hcr).mono ?_); rintro e w7 ⟨rfl, hb⟩; replace HB := Aside0.mk (below_step HB.out hb); replace BK := Aside0.mk (blk_below BK.out hb); clear hz; have hz := bx6 BK.out; clear hb) | ((with_reducible refine (blob_Config_Right.calls 0 0 0 0 0 0 _ _ hcz).mono ?_); rintro e w7 ⟨rfl, hb⟩; replace HB := Aside0.mk (below_step HB.out hb); replace BK := Aside0.mk (blk_below BK.out hb); clear hz; have hz := bx6 BK.out; clear hb)) | (go_at_call 28; (with_reducible refine (blob_Config_Width.calls 1 1 1 2 1 2 _ _ hcw).mono ?_); rintro e w7 ⟨rfl, hb⟩; replace HB := Aside0.mk (below_step HB.out hb); replace BK := Aside0.mk (blk_below BK.out hb); clear hz; have hz := bx6 BK.out; clear hb) | (go_at_call 25; (with_reducible refine (blob_Config_Numbers.calls 1 1 1 2 1 2 _ _ hcn).mono ?_); rintro e w7 ⟨rfl, hb⟩; replace HB := Aside0.mk (below_step HB.out hb); replace BK := Aside0.mk (blk_below BK.out hb); clear hz; have hz := bx6 BK.out; clear hb) | (go_at_call 33; first | (have q_ := HR0.out; clear HR0; refine (blob_Right.calls k 0 0 0 0 0 0 _ _ ([] : List (S115)) 0 0 _ _ ([] : List Int) _ _ ([] : List (S120)) _ _ ([] : List Int) 0 0 _ _ ([] : List Int) 11 _ ?side1 ?side2 ?side3 ?side4 ?side5 ?side6 ?side7 ?side8 ?side9 ?side10 q_).mono ?_; clear q_; (case side1 => exact Kd.C_nil _ _); (case side2 => exact Nat.le_refl _); (case side3 => exact Kd.C_nil _ _); (case side4 => exact Nat.le_refl _); (case side5 => exact Kd.C_nil _ _); (case side6 => exact Nat.le_refl _); (case side7 => exact Kd.C_nil _ _); (case side8 => exact Nat.le_refl _); (case side9 => exact Kd.C_nil _ _); (case side10 => exact Nat.le_refl _); rintro e w7 ⟨rfl, hb⟩; replace HB := Aside0.mk (below_step HB.out hb); replace BK := Aside0.mk (blk_below BK.out hb); clear hz; have hz := bx6 BK.out; clear hb) | (refine (blob_Right.calls k 1 1 1 2 1 2 _ _ ([] : List (S115)) 0 0 _ _ ([] : List Int) _ _ ([] : List (S120)) _ _ ([] : List Int) 0 0 _ _ ([] : List Int) 25 _ ?side1 ?side2 ?side3 ?side4 ?side5 ?side6 ?side7 ?side8 ?side9 ?side10 HR1.out).mono ?_; (case side1 => exact Kd.C_nil _ _); (case side2 => exact Nat.le_refl _); (case side3 => exact Kd.C_nil _ _); (case side4 => exact Nat.le_refl _); (case side5 => exact Kd.C_nil _ _); (case side6 => exact Nat.le_refl _); (case side7 => exact Kd.C_nil _ _); (case side8 => exact Nat.le_refl _); (case side9 => exact Kd.C_nil _ _); (case side10 => exact Nat.le_refl _); rintro e w7 ⟨rfl, hb⟩; replace HB := Aside0.mk (below_step HB.out hb); replace BK := Aside0.mk (blk_below BK.out hb); clear hz; have hz := bx6 BK.out; clear hb)) | (go_at_call 36; first | (have q_ := HE0.out; clear HE0; refine (blob_Equal.calls k 0 0 0 0 0 0 _ _ ([] : List (S115)) 0 0 _ _ ([] : List Int) _ _ ([] : List (S120)) _ _ ([] : List Int) 0 0 _ _ ([] : List Int) 0 0 0 0 0 0 _ _ ([] : List (S115)) 0 0 _ _ ([] : List Int) _ _ ([] : List (S120)) _ _ ([] : List Int) 0 0 _ _ ([] : List Int) true _ ?side1 ?side2 ?side3 ?side4 ?side5 ?side6 ?side7 ?side8 ?side9 ?side10 ?side11 ?side12 ?side13 ?side14 ?side15 ?side16 ?side17 ?side18 ?side19 ?side20 q_).mono ?_; clear q_; (case side1 => exact Kd.C_nil _ _); (case side2 => exact Nat.le_refl _); (case side3 => exact Kd.C_nil _ _); (case side4 => exact Nat.le_refl _); (case side5 => exact Kd.C_nil _ _); (case side6 => exact Nat.le_refl _); (case side7 => exact Kd.C_nil _ _); (case side8 => exact Nat.le_refl _); (case side9 => exact Kd.C_nil _ _); (case side10 => exact Nat.le_refl _); (case side11 => exact Kd.C_nil _ _); (case side12 => exact Nat.le_refl _); (case side13 => exact Kd.C_nil _ _); (case side14 => exact Nat.le_refl _); (case side15 => exact Kd.C_nil _ _); (case side16 => exact Nat.le_refl _); (case side17 => exact Kd.C_nil _ _); (case side18 => exact Nat.le_refl _); (case side19 => exact Kd.C_nil _ _); (case side20 => exact Nat.le_refl _); rintro e w7 ⟨rfl, hb⟩; replace HB := Aside0.mk (below_step HB.out hb); replace BK := Aside0.mk (blk_below BK.out hb); clear hz; have hz := bx6 BK.out; clear hb) | (refine (blob_Equal.calls k 0 0 0 0 0 0 _ _ ([] : List (S115)) 0 0 _ _ ([] : List Int) _ _ ([] : List (S120)) _ _ ([] : List Int) 0 0 _ _ ([] : List Int) 1 1 1 2 1 2 _ _ ([] : List (S115)) 0 0 _ _ ([] : List Int) _ _ ([] : List (S120)) _ _ ([] : List Int) 0 0 _ _ ([] : List Int) (!r) _ ?side1 ?side2 ?side3 ?side4 ?side5 ?side6 ?side7 ?side8 ?side9 ?side10 ?side11 ?side12 ?side13 ?side14 ?side15 ?side16 ?side17 ?side18 ?side19 ?side20 HE1.out).mono ?_; (case side1 => exact Kd.C_nil _ _); (case side2 => exact Nat.le_refl _); (case side3 => exact Kd.C_nil _ _); (case side4 => exact Nat.le_refl _); (case side5 => exact Kd.C_nil _ _); (case side6 => exact Nat.le_refl _); (case side7 => exact Kd.C_nil _ _); (case side8 => exact Nat.le_refl _); (case side9 => exact Kd.C_nil _ _); (case side10 => exact Nat.le_refl _); (case side11 => exact Kd.C_nil _ _); (case side12 => exact Nat.le_refl _); (case side13 => exact Kd.C_nil _ _); (case side14 => exact Nat.le_refl _); (case side15 => exact Kd.C_nil _ _); (case side16 => exact Nat.le_refl _); (case side17 => exact Kd.C_nil _ _); (case side18 => exact Nat.le_refl _); (case side19 => exact Kd.C_nil _ _); (case side20 => exact Nat.le_refl _); rintro e w7 ⟨rfl, hb⟩; replace HB := Aside0.mk (below_step HB.out hb); replace BK := Aside0.mk (blk_below BK.out hb); clear hz; have hz := bx6 BK.out; clear hb)))
 go_ret
 exact ⟨by simp, HB.out⟩

/-! ### credenzalaw18_config: function 23 -/
def credenzalaw18_config.f (a0_0 : Int) (a0_1 : Int) (a0_2 : Int) (a0_3 : Int) (a0_4 : Int) (a0_5 : Int) : Option (Int × Int × Int × Int × Int × Int) := some (a0_0, a0_1, a0_2, a0_3, a0_4, a0_5)
set_option maxHeartbeats 8000000 in
set_option maxRecDepth 100000 in
theorem credenzalaw18_config.calls (a0_0 : Int) (a0_1 : Int) (a0_2 : Int) (a0_3 : Int) (a0_4 : Int) (a0_5 : Int) (r1 : Int) (r2 : Int) (r3 : Int) (r4 : Int) (r5 : Int) (r6 : Int) (w : World) (h : credenzalaw18_config.f a0_0 a0_1 a0_2 a0_3 a0_4 a0_5 = some (r1, r2, r3, r4, r5, r6)) :
  Calls Try.prog 23 #[.agg #[.int .i64 a0_0, .int .i64 a0_1, .int .i64 a0_2, .int .i64 a0_3, .int .i64 a0_4, .int .i64 a0_5]] w fun e w' => e = .returned (.agg #[.int .i64 r1, .int .i64 r2, .int .i64 r3, .int .i64 r4, .int .i64 r5, .int .i64 r6]) ∧ Below w.heap.size w w' := by
 have hu54 := Try.underlying54
 have hu56 := Try.underlying56
 have HB := Aside0.mk (Below.refl w.heap.size w)
 have H : (some (a0_0, a0_1, a0_2, a0_3, a0_4, a0_5)) = some (r1, r2, r3, r4, r5, r6) := h
 clear h
 simp only [Option.some.injEq, Prod.mk.injEq] at H
 obtain ⟨rfl, rfl, rfl, rfl, rfl, rfl⟩ := H
 go_enter Try.func23, Try.ntmps23
 go_wp2_with (first | ((with_reducible refine gate_dst (N := 1) rfl ?_); refine box_event ?hg (N := 1) ?hd (cs := #[.int .i64 a0_0, .int .i64 a0_1, .int .i64 a0_2, .int .i64 a0_3, .int .i64 a0_4, .int .i64 a0_5]) (t := 54) ?hr ?_; (case hd => rfl); (case hg => rfl); (case hr => first | (go_simp; done) | (go_simp; rfl)); intro gb151 hg w2 hbox hb; have n0_ := Aside0.mk (below_step (by with_reducible exact HB.out) hb); have n1_ := Aside0.mk (hbox); have n2_ := Aside0.mk ((by rw [hg]; exact (below_size (by with_reducible exact HB.out)) : w.heap.size ≤ gb151)); have n3_ := Aside0.mk ((by rw [hg]; exact (below_size (by with_reducible exact HB.out)) : w.heap.size ≤ gb151)); clear HB; have HB := n0_; have BK151 := n1_; have GW151 := n2_; have GE151 := n3_; clear n0_ n1_ n2_ n3_; clear hb hbox hg) | ((with_reducible refine gate_dst (N := 2) rfl ?_); refine box_event ?hg (N := 2) ?hd (cs := #[.int .i64 0, .int .i64 0, .int .i64 0, .int .i64 0, .int .i64 0, .int .i64 0]) (t := 56) ?hr ?_; (case hd => rfl); (case hg => rfl); (case hr => first | (go_simp; done) | (go_simp; rfl)); intro gb152 hg w3 hbox hb; have n0_ := Aside0.mk (blk_below (g := gb151) (o := .cells #[.int .i64 a0_0, .int .i64 a0_1, .int .i64 a0_2, .int .i64 a0_3, .int .i64 a0_4, .int .i64 a0_5] 54 (0, 0)) (by exact BK151.out) hb); have n1_ := Aside0.mk (below_step (by with_reducible exact HB.out) hb); have n2_ := Aside0.mk (hbox); have n3_ := Aside0.mk ((by rw [hg]; exact (below_size (by with_reducible exact HB.out)) : w.heap.size ≤ gb152)); have n4_ := Aside0.mk ((by rw [hg]; exact (below_size (by with_reducible exact HB.out)) : w.heap.size ≤ gb152)); have n5_ := Aside0.mk ((by rw [hg]; exact Nat.ne_of_lt (blk_lt (g := gb151) (o := .cells #[.int .i64 a0_0, .int .i64 a0_1, .int .i64 a0_2, .int .i64 a0_3, .int .i64 a0_4, .int .i64 a0_5] 54 (0, 0)) (by exact BK151.out)) : gb151 ≠ gb152)); have n6_ := Aside0.mk ((by rw [hg]; exact Nat.ne_of_gt (blk_lt (g := gb151) (o := .cells #[.int .i64 a0_0, .int .i64 a0_1, .int .i64 a0_2, .int .i64 a0_3, .int .i64 a0_4, .int .i64 a0_5] 54 (0, 0)) (by exact BK151.out)) : gb152 ≠ gb151)); clear BK151; clear HB; have BK151 := n0_; have HB := n1_; have BK152 := n2_; have GW152 := n3_; have GE152 := n4_; have NB151_152 := n5_; have NB152_151 := n6_; clear n0_ n1_ n2_ n3_ n4_ n5_ n6_; clear hb hbox hg; have hnb4 := NB151_152.out; have hnc4 := NB152_151.out; have hcz5_0 : w3.cell? ⟨gb151, 0, none⟩ = some (.int .i64 a0_0) := (blk_cell BK151.out 0).trans rfl; have hcz5_1 : w3.cell? ⟨gb151, 1, none⟩ = some (.int .i64 a0_1) := (blk_cell BK151.out 1).trans rfl; have hcz5_2 : w3.cell? ⟨gb151, 2, none⟩ = some (.int .i64 a0_2) := (blk_cell BK151.out 2).trans rfl; have hcz5_3 : w3.cell? ⟨gb151, 3, none⟩ = some (.int .i64 a0_3) := (blk_cell BK151.out 3).trans rfl; have hcz5_4 : w3.cell? ⟨gb151, 4, none⟩ = some (.int .i64 a0_4) := (blk_cell BK151.out 4).trans rfl; have hcz5_5 : w3.cell? ⟨gb151, 5, none⟩ = some (.int .i64 a0_5) := (blk_cell BK151.out 5).trans rfl; have hfz5_0 := blk_frozen BK151.out 0; have hfz5_1 := blk_frozen BK151.out 1; have hfz5_2 := blk_frozen BK151.out 2; have hfz5_3 := blk_frozen BK151.out 3; have hfz5_4 := blk_frozen BK151.out 4; have hfz5_5 := blk_frozen BK151.out 5; have hcz6_0 : w3.cell? ⟨gb152, 0, none⟩ = some (.int .i64 0) := (blk_cell BK152.out 0).trans rfl; have hcz6_1 : w3.cell? ⟨gb152, 1, none⟩ = some (.int .i64 0) := (blk_cell BK152.out 1).trans rfl; have hcz6_2 : w3.cell? ⟨gb152, 2, none⟩ = some (.int .i64 0) := (blk_cell BK152.out 2).trans rfl; have hcz6_3 : w3.cell? ⟨gb152, 3, none⟩ = some (.int .i64 0) := (blk_cell BK152.out 3).trans rfl; have hcz6_4 : w3.cell? ⟨gb152, 4, none⟩ = some (.int .i64 0) := (blk_cell BK152.out 4).trans rfl; have hcz6_5 : w3.cell? ⟨gb152, 5, none⟩ = some (.int .i64 0) := (blk_cell BK152.out 5).trans rfl; have hfz6_0 := blk_frozen BK152.out 0; have hfz6_1 := blk_frozen BK152.out 1; have hfz6_2 := blk_frozen BK152.out 2; have hfz6_3 := blk_frozen BK152.out 3; have hfz6_4 := blk_frozen BK152.out 4; have hfz6_5 := blk_frozen BK152.out 5))
 refine bodyPost_ret (results_cell_row rfl _ _ gb152 56 #[.int .i64 a0_0, .int .i64 a0_1, .int .i64 a0_2, .int .i64 a0_3, .int .i64 a0_4, .int .i64 a0_5] (0, 0) _ rfl (by (with_reducible repeat (first | refine blk_drewN ?_ _ | refine blk_drew ?_ | refine blk_alloc ?_ _)); refine blk_put (cs := #[.int .i64 a0_0, .int .i64 a0_1, .int .i64 a0_2, .int .i64 a0_3, .int .i64 a0_4, .int .i64 0]) ?_ 5 _ rfl; (with_reducible repeat (first | refine blk_drewN ?_ _ | refine blk_drew ?_ | refine blk_alloc ?_ _)); refine blk_put (cs := #[.int .i64 a0_0, .int .i64 a0_1, .int .i64 a0_2, .int .i64 a0_3, .int .i64 0, .int .i64 0]) ?_ 4 _ rfl; (with_reducible repeat (first | refine blk_drewN ?_ _ | refine blk_drew ?_ | refine blk_alloc ?_ _)); refine blk_put (cs := #[.int .i64 a0_0, .int .i64 a0_1, .int .i64 a0_2, .int .i64 0, .int .i64 0, .int .i64 0]) ?_ 3 _ rfl; (with_reducible repeat (first | refine blk_drewN ?_ _ | refine blk_drew ?_ | refine blk_alloc ?_ _)); refine blk_put (cs := #[.int .i64 a0_0, .int .i64 a0_1, .int .i64 0, .int .i64 0, .int .i64 0, .int .i64 0]) ?_ 2 _ rfl; (with_reducible repeat (first | refine blk_drewN ?_ _ | refine blk_drew ?_ | refine blk_alloc ?_ _)); refine blk_put (cs := #[.int .i64 a0_0, .int .i64 0, .int .i64 0, .int .i64 0, .int .i64 0, .int .i64 0]) ?_ 1 _ rfl; (with_reducible repeat (first | refine blk_drewN ?_ _ | refine blk_drew ?_ | refine blk_alloc ?_ _)); refine blk_put (cs := #[.int .i64 0, .int .i64 0, .int .i64 0, .int .i64 0, .int .i64 0, .int .i64 0]) ?_ 0 _ rfl; (with_reducible repeat (first | refine blk_drewN ?_ _ | refine blk_drew ?_ | refine blk_alloc ?_ _)); exact BK152.out) Try.underlying56 rfl (by kernel_rfl)) rfl ?_
 exact ⟨by first | rfl | (simp [errW_none, errW_some] <;> rfl) | (simp [*, errW_none, errW_some] <;> rfl), by repeat (first | (with_reducible first | exact HB.out | apply below_alloc | apply pw_below_drewN | apply below_drew1 | refine below_set ?_ GE151.out | refine below_set ?_ GE152.out) | exact HB.out)⟩

/-! ### credenzalaw18_table: function 64 -/
def credenzalaw18_table.f (a0_0 : Int) (a0_1 : Int) (l0_2 : List Int) : Option (Int × Int × List Int) := some (a0_0, a0_1, l0_2)
set_option maxHeartbeats 8000000 in
set_option maxRecDepth 100000 in
theorem credenzalaw18_table.calls (a0_0 : Int) (a0_1 : Int) (P0_2_ : Nat → Prop) (u9000_ : Value) (l0_2 : List Int) (r1 : Int) (r2 : Int) (r3 : List Int) (w0 w : World) (hB : Below w0.heap.size w0 w) (ho0_2 : Kd.R (Kd.int .i32) 21 w w0.heap.size P0_2_ u9000_ l0_2) (h : credenzalaw18_table.f a0_0 a0_1 l0_2 = some (r1, r2, r3)) :
  Calls Try.prog 64 #[.agg #[.int .i64 a0_0, .int .i64 a0_1, u9000_]] w fun e w' => ∃ v2_ : Value, e = .returned (.agg #[.int .i64 r1, .int .i64 r2, v2_]) ∧ Kd.R (Kd.int .i32) 21 w' w0.heap.size (fun k_ => (P0_2_ k_ ∨ w.heap.size ≤ k_)) v2_ r3 ∧ Below w0.heap.size w0 w' ∧ Kept w w' (fun k_ => P0_2_ k_) := by
 have hu64 := Try.underlying64
 have hu111 := Try.underlying111
 have HO0_2 := Aside0.mk (show Kd.R (Kd.int .i32) 21 w w0.heap.size (fun k_ => (P0_2_ k_ ∨ w.heap.size ≤ k_)) u9000_ l0_2 from Kd.R_mono ho0_2 (fun k_ hk => (.inl hk)))
 have HK := Aside0.mk (Kept.refl w (fun k_ => P0_2_ k_))
 have HW0 := Aside0.mk hB.size
 have HB := Aside0.mk hB
 clear hB
 have H : (some (a0_0, a0_1, l0_2)) = some (r1, r2, r3) := h
 clear h
 simp only [Option.some.injEq, Prod.mk.injEq] at H
 obtain ⟨rfl, rfl, rfl⟩ := H
 obtain ⟨Ao2, co2, eo2⟩ := Kd.R_slice HO0_2.out
 subst eo2
 go_enter Try.func64, Try.ntmps64
 go_wp2_with (first | ((with_reducible refine gate_dst (N := 1) rfl ?_); refine box_event ?hg (N := 1) ?hd (cs := #[.int .i64 a0_0, .int .i64 a0_1, .slice Ao2 l0_2.length co2]) (t := 64) ?hr ?_; (case hd => rfl); (case hg => rfl); (case hr => first | (go_simp; done) | (go_simp; rfl)); intro gb153 hg w3 hbox hb; have n0_ := Aside0.mk (Kd.R_below (by exact HO0_2.out) hb); have n1_ := Aside0.mk (Kept.below (S := (fun k_ => P0_2_ k_)) (by with_reducible exact HK.out) hb); have n2_ := Aside0.mk (below_step (by with_reducible exact HB.out) hb); have n3_ := Aside0.mk (hbox); have n4_ := Aside0.mk ((by rw [hg]; exact (by first | exact HK.out.1 | exact (show Kept w _ (fun k_ => P0_2_ k_) from by with_reducible exact HK.out).1) : w.heap.size ≤ gb153)); have n5_ := Aside0.mk ((by rw [hg]; exact (below_size (by with_reducible exact HB.out)) : w0.heap.size ≤ gb153)); clear HO0_2; clear HK; clear HB; have HO0_2 := n0_; have HK := n1_; have HB := n2_; have BK153 := n3_; have GW153 := n4_; have GE153 := n5_; clear n0_ n1_ n2_ n3_ n4_ n5_; clear hb hbox hg) | ((with_reducible refine gate_dst (N := 2) rfl ?_); refine box_event ?hg (N := 2) ?hd (cs := #[.int .i64 0, .int .i64 0, .slice none 0 0]) (t := 111) ?hr ?_; (case hd => rfl); (case hg => rfl); (case hr => first | (go_simp; done) | (go_simp; rfl)); intro gb154 hg w4 hbox hb; have n0_ := Aside0.mk (Kd.R_below (by exact HO0_2.out) hb); have n1_ := Aside0.mk (blk_below (g := gb153) (o := .cells #[.int .i64 a0_0, .int .i64 a0_1, .slice Ao2 l0_2.length co2] 64 (0, 0)) (by exact BK153.out) hb); have n2_ := Aside0.mk (Kept.below (S := (fun k_ => P0_2_ k_)) (by with_reducible exact HK.out) hb); have n3_ := Aside0.mk (below_step (by with_reducible exact HB.out) hb); have n4_ := Aside0.mk (hbox); have n5_ := Aside0.mk ((by rw [hg]; exact (by first | exact HK.out.1 | exact (show Kept w _ (fun k_ => P0_2_ k_) from by with_reducible exact HK.out).1) : w.heap.size ≤ gb154)); have n6_ := Aside0.mk ((by rw [hg]; exact (below_size (by with_reducible exact HB.out)) : w0.heap.size ≤ gb154)); have n7_ := Aside0.mk ((by rw [hg]; exact Nat.ne_of_lt (blk_lt (g := gb153) (o := .cells #[.int .i64 a0_0, .int .i64 a0_1, .slice Ao2 l0_2.length co2] 64 (0, 0)) (by exact BK153.out)) : gb153 ≠ gb154)); have n8_ := Aside0.mk ((by rw [hg]; exact Nat.ne_of_gt (blk_lt (g := gb153) (o := .cells #[.int .i64 a0_0, .int .i64 a0_1, .slice Ao2 l0_2.length co2] 64 (0, 0)) (by exact BK153.out)) : gb154 ≠ gb153)); clear HO0_2; clear BK153; clear HK; clear HB; have HO0_2 := n0_; have BK153 := n1_; have HK := n2_; have HB := n3_; have BK154 := n4_; have GW154 := n5_; have GE154 := n6_; have NB153_154 := n7_; have NB154_153 := n8_; clear n0_ n1_ n2_ n3_ n4_ n5_ n6_ n7_ n8_; clear hb hbox hg; have hnb5 := NB153_154.out; have hnc5 := NB154_153.out; have hcz6_0 : w4.cell? ⟨gb153, 0, none⟩ = some (.int .i64 a0_0) := (blk_cell BK153.out 0).trans rfl; have hcz6_1 : w4.cell? ⟨gb153, 1, none⟩ = some (.int .i64 a0_1) := (blk_cell BK153.out 1).trans rfl; have hcz6_2 : w4.cell? ⟨gb153, 2, none⟩ = some (.slice Ao2 l0_2.length co2) := (blk_cell BK153.out 2).trans rfl; have hfz6_0 := blk_frozen BK153.out 0; have hfz6_1 := blk_frozen BK153.out 1; have hfz6_2 := blk_frozen BK153.out 2; have hcz7_0 : w4.cell? ⟨gb154, 0, none⟩ = some (.int .i64 0) := (blk_cell BK154.out 0).trans rfl; have hcz7_1 : w4.cell? ⟨gb154, 1, none⟩ = some (.int .i64 0) := (blk_cell BK154.out 1).trans rfl; have hcz7_2 : w4.cell? ⟨gb154, 2, none⟩ = some (.slice none 0 0) := (blk_cell BK154.out 2).trans rfl; have hfz7_0 := blk_frozen BK154.out 0; have hfz7_1 := blk_frozen BK154.out 1; have hfz7_2 := blk_frozen BK154.out 2))
 refine bodyPost_ret (results_cell_row rfl _ _ gb154 111 #[.int .i64 a0_0, .int .i64 a0_1, .slice Ao2 l0_2.length co2] (0, 0) _ rfl (by (with_reducible repeat (first | refine blk_drewN ?_ _ | refine blk_drew ?_ | refine blk_alloc ?_ _)); refine blk_put (cs := #[.int .i64 a0_0, .int .i64 a0_1, .slice none 0 0]) ?_ 2 _ rfl; (with_reducible repeat (first | refine blk_drewN ?_ _ | refine blk_drew ?_ | refine blk_alloc ?_ _)); refine blk_put (cs := #[.int .i64 a0_0, .int .i64 0, .slice none 0 0]) ?_ 1 _ rfl; (with_reducible repeat (first | refine blk_drewN ?_ _ | refine blk_drew ?_ | refine blk_alloc ?_ _)); refine blk_put (cs := #[.int .i64 0, .int .i64 0, .slice none 0 0]) ?_ 0 _ rfl; (with_reducible repeat (first | refine blk_drewN ?_ _ | refine blk_drew ?_ | refine blk_alloc ?_ _)); exact BK154.out) Try.underlying111 rfl (by kernel_rfl)) rfl ?_
 exact ⟨_, by first | rfl | (simp [errW_none, errW_some] <;> rfl) | (simp [*, errW_none, errW_some] <;> rfl), by (with_reducible repeat (first | apply Kd.R_alloc | apply Kd.R_drewN | apply Kd.R_drew)); exact Kd.R_mono (Kd.R_far (p := ⟨gb154, 2, none⟩) (Kd.R_far (p := ⟨gb154, 1, none⟩) (Kd.R_far (p := ⟨gb154, 0, none⟩) (Kd.R_types HO0_2.out BK154.out (by decide)) (fun _ hk => hk.2) (.int .i64 a0_0)) (fun _ hk => hk.2) (.int .i64 a0_1)) (fun _ hk => hk.2) (.slice Ao2 l0_2.length co2)) (fun _ hk => hk.1), by repeat (first | (with_reducible first | exact HB.out | apply below_alloc | apply pw_below_drewN | apply below_drew1 | refine below_set ?_ GE153.out | refine below_set ?_ GE154.out) | exact HB.out), by repeat (first | (with_reducible first | exact HK.out | apply Kept.alloc | apply Kept.drewN | apply Kept.drew | refine Kept.setCell ?_ (.inr GW153.out) _ | refine Kept.setCell ?_ (.inr GW154.out) _) | exact HK.out)⟩

/-! ### credenzalaw18_list: function 65 -/
def credenzalaw18_list.f (l0 : List Int) : Option (Int × Int × List Int) := some (0, 0, l0)
set_option maxHeartbeats 8000000 in
set_option maxRecDepth 100000 in
theorem credenzalaw18_list.calls (P0_ : Nat → Prop) (u9000_ : Value) (l0 : List Int) (r1 : Int) (r2 : Int) (r3 : List Int) (w0 w : World) (hB : Below w0.heap.size w0 w) (ho0 : Kd.R (Kd.int .i32) 21 w w0.heap.size P0_ u9000_ l0) (h : credenzalaw18_list.f l0 = some (r1, r2, r3)) :
  Calls Try.prog 65 #[u9000_] w fun e w' => ∃ v2_ : Value, e = .returned (.agg #[.int .i64 r1, .int .i64 r2, v2_]) ∧ Kd.R (Kd.int .i32) 21 w' w0.heap.size (fun k_ => (P0_ k_ ∨ w.heap.size ≤ k_)) v2_ r3 ∧ Below w0.heap.size w0 w' ∧ Kept w w' (fun k_ => P0_ k_) := by
 have hu111 := Try.underlying111
 have HO0 := Aside0.mk (show Kd.R (Kd.int .i32) 21 w w0.heap.size (fun k_ => (P0_ k_ ∨ w.heap.size ≤ k_)) u9000_ l0 from Kd.R_mono ho0 (fun k_ hk => (.inl hk)))
 have HK := Aside0.mk (Kept.refl w (fun k_ => P0_ k_))
 have HW0 := Aside0.mk hB.size
 have HB := Aside0.mk hB
 clear hB
 have H : (some (0, 0, l0)) = some (r1, r2, r3) := h
 clear h
 simp only [Option.some.injEq, Prod.mk.injEq] at H
 obtain ⟨rfl, rfl, rfl⟩ := H
 go_enter Try.func65, Try.ntmps65
 go_wp2_with (first | ((with_reducible refine gate_dst (N := 2) rfl ?_); refine box_event ?hg (N := 2) ?hd (cs := #[.int .i64 0, .int .i64 0, .slice none 0 0]) (t := 111) ?hr ?_; (case hd => rfl); (case hg => rfl); (case hr => first | (go_simp; done) | (go_simp; rfl)); intro gb155 hg w2 hbox hb; have n0_ := Aside0.mk (Kd.R_below (by exact HO0.out) hb); have n1_ := Aside0.mk (Kept.below (S := (fun k_ => P0_ k_)) (by with_reducible exact HK.out) hb); have n2_ := Aside0.mk (below_step (by with_reducible exact HB.out) hb); have n3_ := Aside0.mk (hbox); have n4_ := Aside0.mk ((by rw [hg]; exact (by first | exact HK.out.1 | exact (show Kept w _ (fun k_ => P0_ k_) from by with_reducible exact HK.out).1) : w.heap.size ≤ gb155)); have n5_ := Aside0.mk ((by rw [hg]; exact (below_size (by with_reducible exact HB.out)) : w0.heap.size ≤ gb155)); clear HO0; clear HK; clear HB; have HO0 := n0_; have HK := n1_; have HB := n2_; have BK155 := n3_; have GW155 := n4_; have GE155 := n5_; clear n0_ n1_ n2_ n3_ n4_ n5_; clear hb hbox hg; obtain ⟨Ao3, co3, eo3⟩ := Kd.R_slice HO0.out; subst eo3; have hcz4_0 : w2.cell? ⟨gb155, 0, none⟩ = some (.int .i64 0) := (blk_cell BK155.out 0).trans rfl; have hcz4_1 : w2.cell? ⟨gb155, 1, none⟩ = some (.int .i64 0) := (blk_cell BK155.out 1).trans rfl; have hcz4_2 : w2.cell? ⟨gb155, 2, none⟩ = some (.slice none 0 0) := (blk_cell BK155.out 2).trans rfl; have hfz4_0 := blk_frozen BK155.out 0; have hfz4_1 := blk_frozen BK155.out 1; have hfz4_2 := blk_frozen BK155.out 2))
 refine bodyPost_ret (results_cell_row rfl _ _ gb155 111 #[.int .i64 0, .int .i64 0, .slice Ao3 l0.length co3] (0, 0) _ rfl (by (with_reducible repeat (first | refine blk_drewN ?_ _ | refine blk_drew ?_ | refine blk_alloc ?_ _)); refine blk_put (cs := #[.int .i64 0, .int .i64 0, .slice none 0 0]) ?_ 2 _ rfl; (with_reducible repeat (first | refine blk_drewN ?_ _ | refine blk_drew ?_ | refine blk_alloc ?_ _)); refine blk_put (cs := #[.int .i64 0, .int .i64 0, .slice none 0 0]) ?_ 1 _ rfl; (with_reducible repeat (first | refine blk_drewN ?_ _ | refine blk_drew ?_ | refine blk_alloc ?_ _)); refine blk_put (cs := #[.int .i64 0, .int .i64 0, .slice none 0 0]) ?_ 0 _ rfl; (with_reducible repeat (first | refine blk_drewN ?_ _ | refine blk_drew ?_ | refine blk_alloc ?_ _)); exact BK155.out) Try.underlying111 rfl (by kernel_rfl)) rfl ?_
 exact ⟨_, by first | rfl | (simp [errW_none, errW_some] <;> rfl) | (simp [*, errW_none, errW_some] <;> rfl), by (with_reducible repeat (first | apply Kd.R_alloc | apply Kd.R_drewN | apply Kd.R_drew)); exact Kd.R_mono (Kd.R_far (p := ⟨gb155, 2, none⟩) (Kd.R_far (p := ⟨gb155, 1, none⟩) (Kd.R_far (p := ⟨gb155, 0, none⟩) (Kd.R_types HO0.out BK155.out (by decide)) (fun _ hk => hk.2) (.int .i64 0)) (fun _ hk => hk.2) (.int .i64 0)) (fun _ hk => hk.2) (.slice Ao3 l0.length co3)) (fun _ hk => hk.1), by repeat (first | (with_reducible first | exact HB.out | apply below_alloc | apply pw_below_drewN | apply below_drew1 | refine below_set ?_ GE155.out) | exact HB.out), by repeat (first | (with_reducible first | exact HK.out | apply Kept.alloc | apply Kept.drewN | apply Kept.drew | refine Kept.setCell ?_ (.inr GW155.out) _) | exact HK.out)⟩

end Go.Proofs.Ytehepnmagcjkaaa.PBlobParses
