-- Written by a program of this session (wip/tools/mkprint.py over the kit's print).
import Derived.Test.YtekenaclmplocaaPPagePlacesx0
import Derived.Test.YtekenaclmplocaaPPagePlacesx13
namespace Go.Proofs.Ytekenaclmplocaa.PPagePlaces
open Go.RowKit Go.Proofs.YtekenaclmplocaaW.PrintWords Go.Proofs.YtekenaclmplocaaW.PrintLast Go.Proofs.YtekenaclmplocaaW.PrintMore
attribute [local go_sem] max2_int min2_int max_two min_two max_three min_three max_four min_four   -- for this text's walks alone
set_option linter.unusedVariables false
set_option linter.unusedSimpArgs false

/-! ### page_Page_KeyGroups: function 16 -/
def page_Page_KeyGroups.f (k : Nat) (l0 : List (S75)) : Option ((List (S47))) := if 0 < (l0.length : Int) then ((page_unpack.f k ((rd_T75 l0 0).f1) ((rd_T75 l0 0).f0.f2) ((rd_T75 l0 0).f0.f0)).bind fun t463 => (some t463)) else (none)
theorem page_Page_KeyGroups.mono : ∀ a0 k, LeO (page_Page_KeyGroups.f k a0) (page_Page_KeyGroups.f (k + 1) a0) := by
 intro a0 k
 unfold page_Page_KeyGroups.f
 repeat' first
   | (with_reducible exact page_unpack.mono _ _ _ _)
   | (with_reducible exact LeO.refl _)
   | (with_reducible exact LeO.none _)
   | (with_reducible refine LeO.ite ?_ ?_)
   | (with_reducible refine LeO.bind ?_ (fun _ => ?_))
   | exact page_unpack.mono _ _ _ _
   | exact LeO.none _
   | refine LeO.ite ?_ ?_
   | refine LeO.bind ?_ (fun _ => ?_)
def page_Page_KeyGroups.T1 : Bool × List (List Nat × List Nat) := (true, [([], []), ([0], [0]), ([1], [1]), ([2], [2]), ([], []), ([4], [4]), ([5], [5]), ([6], [6]), ([7], [7]), ([], []), ([9], [9]), ([10], [10]), ([11], [11]), ([12], [12]), ([3, 8, 13], [3, 8, 13]), ([14, 14, 0, 1, 2, 3, 4, 5, 6, 7, 8, 9, 10, 11, 12, 13, 14], [14])])
def page_Page_KeyGroups.B1 : List Nat := [0, 1, 3, 7, 0, 16, 48, 112, 240, 0, 512, 1536, 3584, 7680, 16383, 32767]
theorem page_Page_KeyGroups.tab1 : rtab .any (opsOf Try.f16 1) = page_Page_KeyGroups.T1 := by kernel_rfl
theorem page_Page_KeyGroups.bits1 : waitsOk page_Page_KeyGroups.T1.2 page_Page_KeyGroups.B1 = true := by kernel_rfl
set_option maxHeartbeats 8000000 in
set_option maxRecDepth 100000 in
theorem page_Page_KeyGroups.calls (k : Nat) (A0 : Option Addr) (c0 : Nat) (l0 : List (S75)) (r : List (S47)) (w : World) (hr0 : Kd.C k75 w A0 l0.length l0) (hc0 : l0.length ≤ c0) (h : page_Page_KeyGroups.f k l0 = some r) :
  Calls Try.prog 16 #[asPtr (.slice A0 l0.length c0)] w fun e w' => ∃ v0_ : Value, e = .returned (v0_) ∧ Kd.S k47 47 w' w.heap.size (fun _ => True) v0_ r ∧ Below w.heap.size w w' := by
 have HR0 := Aside0.mk hr0
 have HC0 := Aside0.mk hc0
 clear hr0 hc0
 have HB := Aside0.mk (Below.refl w.heap.size w)
 have H := h
 clear h
 unfold page_Page_KeyGroups.f at H
 by_cases c2 : 0 < (l0.length : Int)
 case neg => (rw [if_neg c2] at H; exact absurd H (by simp))
 rw [if_pos c2] at H
 have c2b0 : decide (0 < (l0.length : Int)) = true := decide_eq_true c2
 have c2b1 : decide (0 < l0.length) = true := decide_eq_true (by omega)
 clear c2
 replace H := Option.bind_eq_some_iff.mp H
 obtain ⟨t463, A30, H⟩ := H
 have A3 := Aside0.mk A30
 clear A30
 obtain rfl := Option.some.inj H
 go_enter Try.func16, Try.ntmps16
 try go_wp2
 replace HB := Aside0.mk (below_drew1 HB.out)
 have p460 : 0 ≤ (0 : Int) := (by omega)
 have q460 : 0 < (l0.length : Int) := of_decide_eq_true (by first | (with_reducible assumption) | assumption)
 obtain ⟨ad460, A460_7, c460_7, A460_8, c460_8, e460, _, _, _, _, _, _, _, hx460_7, _, hl460_7, hi460_7, _, _⟩ := at_T75 HR0.out 0 p460 q460
 have hw460_7 := hx460_7
 (try rw [show ((0 : Int)).toNat = 0 from rfl] at hw460_7)
 (try rw [show 0 * 9 = 0 from rfl] at hw460_7)
 (try rw [Addr.add_zero'] at hw460_7)
 cases e460
 have qi460 : (0 < l0.length) = True := eq_true (by omega)
 (try rw [show ((0 : Int)).toNat = 0 from rfl] at hx460_7)
 (try rw [show 0 * 9 = 0 from rfl] at hx460_7)
 (try rw [Addr.add_zero'] at hx460_7)
 replace hx460_7 := (HB.out.cell (World.block_lt_of_cell? w _ hx460_7)).trans hx460_7
 have HR460_7 := Aside0.mk hi460_7
 have HC460_7 := Aside0.mk hl460_7
 clear hi460_7 hl460_7
 replace p460 := eq_true p460
 replace q460 := eq_true q460
 have hP460 : asPtr (.slice (some ad460) l0.length c0) = .pointer (some ad460) := asPtr_some (of_decide_eq_true (by first | (with_reducible assumption) | assumption))
 have p461 : 0 ≤ (0 : Int) := (by omega)
 have q461 : 0 < (l0.length : Int) := of_decide_eq_true (by first | (with_reducible assumption) | assumption)
 obtain ⟨ad461, A461_7, c461_7, A461_8, c461_8, e461, _, _, hx461_2, _, _, _, _, _, _, _, _, _, _⟩ := at_T75 HR0.out 0 p461 q461
 have hw461_2 := hx461_2
 (try rw [show ((0 : Int)).toNat = 0 from rfl] at hw461_2)
 (try rw [show 0 * 9 = 0 from rfl] at hw461_2)
 (try rw [Addr.add_zero'] at hw461_2)
 obtain rfl : ad460 = ad461 := (by injection e461)
 have qi461 : (0 < l0.length) = True := eq_true (by omega)
 (try rw [show ((0 : Int)).toNat = 0 from rfl] at hx461_2)
 (try rw [show 0 * 9 = 0 from rfl] at hx461_2)
 (try rw [Addr.add_zero'] at hx461_2)
 replace hx461_2 := (HB.out.cell (World.block_lt_of_cell? w _ hx461_2)).trans hx461_2
 replace p461 := eq_true p461
 replace q461 := eq_true q461
 have hP461 : asPtr (.slice (some ad460) l0.length c0) = .pointer (some ad460) := asPtr_some (of_decide_eq_true (by first | (with_reducible assumption) | assumption))
 have p462 : 0 ≤ (0 : Int) := (by omega)
 have q462 : 0 < (l0.length : Int) := of_decide_eq_true (by first | (with_reducible assumption) | assumption)
 obtain ⟨ad462, A462_7, c462_7, A462_8, c462_8, e462, hx462_0, _, _, _, _, _, _, _, _, _, _, _, _⟩ := at_T75 HR0.out 0 p462 q462
 have hw462_0 := hx462_0
 (try rw [show ((0 : Int)).toNat = 0 from rfl] at hw462_0)
 (try rw [show 0 * 9 = 0 from rfl] at hw462_0)
 (try rw [Addr.add_zero'] at hw462_0)
 obtain rfl : ad460 = ad462 := (by injection e462)
 have qi462 : (0 < l0.length) = True := eq_true (by omega)
 (try rw [show ((0 : Int)).toNat = 0 from rfl] at hx462_0)
 (try rw [show 0 * 9 = 0 from rfl] at hx462_0)
 (try rw [Addr.add_zero'] at hx462_0)
 replace hx462_0 := (HB.out.cell (World.block_lt_of_cell? w _ hx462_0)).trans hx462_0
 replace p462 := eq_true p462
 replace q462 := eq_true q462
 have hP462 : asPtr (.slice (some ad460) l0.length c0) = .pointer (some ad460) := asPtr_some (of_decide_eq_true (by first | (with_reducible assumption) | assumption))
 refine start_ (n := 16) (S := fun w' => w'.cell? ⟨ad460.block, ad460.off + 7, none⟩ = some (.slice A460_7 ((rd_T75 l0 0).f1).length c460_7) ∧ w'.cell? ⟨ad460.block, ad460.off + 2, none⟩ = some (.int .i64 ((rd_T75 l0 0).f0.f2)) ∧ w'.cell? ad460 = some (.int .i64 ((rd_T75 l0 0).f0.f0))) (ds := []) #[false, false, false, false, false, false, false, false, false, false, false, false, false, false, false, false] (by kernel_rfl) rfl rfl ⟨((HB.out.cell (World.block_lt_of_cell? w _ hw460_7)).trans hw460_7), ((HB.out.cell (World.block_lt_of_cell? w _ hw461_2)).trans hw461_2), ((HB.out.cell (World.block_lt_of_cell? w _ hw462_0)).trans hw462_0)⟩ (fun hHeld => ?_); refine with_tabW page_Page_KeyGroups.tab1 page_Page_KeyGroups.bits1 (fun HT_ HW_ => ?_)
 generalize w.drew = w4 at HB HR460_7 hx460_7 hx461_2 hx462_0 hHeld ⊢
 refine pure_ (i := 0) (N := some 3) (v := ?_) (a' := ?_) #[true, false, false, false, false, false, false, false, false, false, false, false, false, false, false, false] rfl rfl (any_of HT_.out (by kernel_rfl)) (fun _ _ _ h => h) (Or.inl ⟨by rfl, ?_⟩) ?_ ?_
 rotate_left
 ·
  intro w'
  go_simp
  with_reducible rfl
 rotate_left
 ·
  simp only [Act.put, List.setIfInBounds_toArray, List.set_cons_zero, List.set_cons_succ, i64_w, i32_w, IntKind.wrap_u32]
  rfl
 refine pure_ (i := 1) (N := some 4) (v := ?_) (a' := ?_) #[true, true, false, false, false, false, false, false, false, false, false, false, false, false, false, false] rfl rfl (any_of HT_.out (by kernel_rfl)) (fun _ _ _ h => h) (Or.inl ⟨by rfl, ?_⟩) ?_ ?_
 rotate_left
 ·
  intro w'
  go_simp
  with_reducible rfl
 rotate_left
 ·
  simp only [Act.put, List.setIfInBounds_toArray, List.set_cons_zero, List.set_cons_succ, i64_w, i32_w, IntKind.wrap_u32]
  rfl
 refine pure_ (i := 2) (N := some 5) (v := ?_) (a' := ?_) #[true, true, true, false, false, false, false, false, false, false, false, false, false, false, false, false] rfl rfl (any_of HT_.out (by kernel_rfl)) (fun _ _ _ h => h) (Or.inl ⟨by rfl, ?_⟩) ?_ ?_
 rotate_left
 ·
  intro w'
  go_simp
  with_reducible rfl
 rotate_left
 ·
  simp only [Act.put, List.setIfInBounds_toArray, List.set_cons_zero, List.set_cons_succ, i64_w, i32_w, IntKind.wrap_u32]
  rfl
 refine pure_ (i := 4) (N := some 7) (v := ?_) (a' := ?_) #[true, true, true, false, true, false, false, false, false, false, false, false, false, false, false, false] rfl rfl (any_of HT_.out (by kernel_rfl)) (fun _ _ _ h => h) (Or.inl ⟨by rfl, ?_⟩) ?_ ?_
 rotate_left
 ·
  intro w'
  go_simp
  with_reducible rfl
 rotate_left
 ·
  simp only [Act.put, List.setIfInBounds_toArray, List.set_cons_zero, List.set_cons_succ, i64_w, i32_w, IntKind.wrap_u32]
  rfl
 refine pure_ (i := 5) (N := some 8) (v := ?_) (a' := ?_) #[true, true, true, false, true, true, false, false, false, false, false, false, false, false, false, false] rfl rfl (any_of HT_.out (by kernel_rfl)) (fun _ _ _ h => h) (Or.inl ⟨by rfl, ?_⟩) ?_ ?_
 rotate_left
 ·
  intro w'
  go_simp
  with_reducible rfl
 rotate_left
 ·
  simp only [Act.put, List.setIfInBounds_toArray, List.set_cons_zero, List.set_cons_succ, i64_w, i32_w, IntKind.wrap_u32]
  rfl
 refine pure_ (i := 6) (N := some 9) (v := ?_) (a' := ?_) #[true, true, true, false, true, true, true, false, false, false, false, false, false, false, false, false] rfl rfl (any_of HT_.out (by kernel_rfl)) (fun _ _ _ h => h) (Or.inl ⟨by rfl, ?_⟩) ?_ ?_
 rotate_left
 ·
  intro w'
  go_simp
  with_reducible rfl
 rotate_left
 ·
  simp only [Act.put, List.setIfInBounds_toArray, List.set_cons_zero, List.set_cons_succ, i64_w, i32_w, IntKind.wrap_u32]
  rfl
 refine pure_ (i := 7) (N := some 10) (v := ?_) (a' := ?_) #[true, true, true, false, true, true, true, true, false, false, false, false, false, false, false, false] rfl rfl (any_of HT_.out (by kernel_rfl)) (fun _ _ _ h => h) (Or.inl ⟨by rfl, ?_⟩) ?_ ?_
 rotate_left
 ·
  intro w'
  go_simp
  with_reducible rfl
 rotate_left
 ·
  simp only [Act.put, List.setIfInBounds_toArray, List.set_cons_zero, List.set_cons_succ, i64_w, i32_w, IntKind.wrap_u32]
  rfl
 refine pure_ (i := 9) (N := some 12) (v := ?_) (a' := ?_) #[true, true, true, false, true, true, true, true, false, true, false, false, false, false, false, false] rfl rfl (any_of HT_.out (by kernel_rfl)) (fun _ _ _ h => h) (Or.inl ⟨by rfl, ?_⟩) ?_ ?_
 rotate_left
 ·
  intro w'
  go_simp
  with_reducible rfl
 rotate_left
 ·
  simp only [Act.put, List.setIfInBounds_toArray, List.set_cons_zero, List.set_cons_succ, i64_w, i32_w, IntKind.wrap_u32]
  rfl
 refine pure_ (i := 10) (N := some 13) (v := ?_) (a' := ?_) #[true, true, true, false, true, true, true, true, false, true, true, false, false, false, false, false] rfl rfl (any_of HT_.out (by kernel_rfl)) (fun _ _ _ h => h) (Or.inl ⟨by rfl, ?_⟩) ?_ ?_
 rotate_left
 ·
  intro w'
  go_simp
  with_reducible rfl
 rotate_left
 ·
  simp only [Act.put, List.setIfInBounds_toArray, List.set_cons_zero, List.set_cons_succ, i64_w, i32_w, IntKind.wrap_u32]
  rfl
 refine pure_ (i := 11) (N := some 14) (v := ?_) (a' := ?_) #[true, true, true, false, true, true, true, true, false, true, true, true, false, false, false, false] rfl rfl (any_of HT_.out (by kernel_rfl)) (fun _ _ _ h => h) (Or.inl ⟨by rfl, ?_⟩) ?_ ?_
 rotate_left
 ·
  intro w'
  go_simp
  with_reducible rfl
 rotate_left
 ·
  simp only [Act.put, List.setIfInBounds_toArray, List.set_cons_zero, List.set_cons_succ, i64_w, i32_w, IntKind.wrap_u32]
  rfl
 refine pure_ (i := 12) (N := some 15) (v := ?_) (a' := ?_) #[true, true, true, false, true, true, true, true, false, true, true, true, true, false, false, false] rfl rfl (any_of HT_.out (by kernel_rfl)) (fun _ _ _ h => h) (Or.inl ⟨by rfl, ?_⟩) ?_ ?_
 rotate_left
 ·
  intro w'
  go_simp
  with_reducible rfl
 rotate_left
 ·
  simp only [Act.put, List.setIfInBounds_toArray, List.set_cons_zero, List.set_cons_succ, i64_w, i32_w, IntKind.wrap_u32]
  rfl
 refine take_ (i := 3) (N := some 6) (v := ?_) (a' := ?_) #[true, true, true, true, true, true, true, true, false, true, true, true, true, false, false, false] rfl rfl (take_ofW HT_.out HW_.out (by kernel_rfl)) (fun _ _ _ h => h) (Or.inl ⟨by rfl, ?_⟩) hHeld ?_ ?_
 rotate_left
 ·
  rintro w' ⟨s0, s1, s2⟩
  go_simp
  with_reducible rfl
 rotate_left
 ·
  simp only [Act.put, List.setIfInBounds_toArray, List.set_cons_zero, List.set_cons_succ, i64_w, i32_w, IntKind.wrap_u32]
  rfl
 refine take_ (i := 8) (N := some 11) (v := ?_) (a' := ?_) #[true, true, true, true, true, true, true, true, true, true, true, true, true, false, false, false] rfl rfl (take_ofW HT_.out HW_.out (by kernel_rfl)) (fun _ _ _ h => h) (Or.inl ⟨by rfl, ?_⟩) hHeld ?_ ?_
 rotate_left
 ·
  rintro w' ⟨s0, s1, s2⟩
  go_simp
  with_reducible rfl
 rotate_left
 ·
  simp only [Act.put, List.setIfInBounds_toArray, List.set_cons_zero, List.set_cons_succ, i64_w, i32_w, IntKind.wrap_u32]
  rfl
 refine take_ (i := 13) (N := some 16) (v := ?_) (a' := ?_) #[true, true, true, true, true, true, true, true, true, true, true, true, true, true, false, false] rfl rfl (take_ofW HT_.out HW_.out (by kernel_rfl)) (fun _ _ _ h => h) (Or.inl ⟨by rfl, ?_⟩) hHeld ?_ ?_
 rotate_left
 ·
  rintro w' ⟨s0, s1, s2⟩
  go_simp
  with_reducible rfl
 rotate_left
 ·
  simp only [Act.put, List.setIfInBounds_toArray, List.set_cons_zero, List.set_cons_succ, i64_w, i32_w, IntKind.wrap_u32]
  rfl
 refine one_ (i := 14) (N := some 17) #[true, true, true, true, true, true, true, true, true, true, true, true, true, true, true, false] rfl rfl (one_of HT_.out (by kernel_rfl)) (by decide) (fun K hK => ?_)
 refine goes_ Try.func43 (by kernel_rfl) rfl #[.slice A460_7 ((rd_T75 l0 0).f1).length c460_7, .int .i64 ((rd_T75 l0 0).f0.f2), .int .i64 ((rd_T75 l0 0).f0.f0)] (by rfl) rfl rfl (by (try simp only [List.map_toArray, List.map_cons, List.map_nil]); first | done | rfl | (simp only [List.length_drop, List.length_take]; rfl)) ?_
 with_reducible refine (page_unpack.calls k _ _ ((rd_T75 l0 0).f1) ((rd_T75 l0 0).f0.f2) ((rd_T75 l0 0).f0.f0) t463 _ ?side1 ?side2 A3.out).mono ?_
 (case side1 => with_reducible exact (Kd.C_below HR460_7.out HB.out))
 (case side2 => exact HC460_7.out)
 rintro e w5 ⟨v464, rfl, ho0, hb⟩
 refine ⟨_, rfl, ?_⟩
 have HO465 := Aside0.mk (Kd.S_lower ho0 (below_size (by repeat (first | (with_reducible first | exact HB.out | apply below_alloc | apply pw_below_drewN | apply below_drew1) | exact HB.out))))
 replace HB := Aside0.mk (below_step (by repeat (first | (with_reducible first | exact HB.out | apply below_alloc | apply pw_below_drewN | apply below_drew1) | exact HB.out)) hb)
 (try clear hb)
 (try clear hb2)
 (try clear hk)
 (try clear hi)
 (try clear ho0)
 refine hK.out _ _ ⟨((HB.out.cell (World.block_lt_of_cell? w _ hw460_7)).trans hw460_7), ((HB.out.cell (World.block_lt_of_cell? w _ hw461_2)).trans hw461_2), ((HB.out.cell (World.block_lt_of_cell? w _ hw462_0)).trans hw462_0)⟩ (fun hHeld => ?_)
 clear hK K
 refine norm_ (a' := ?_) ?_ ?_
 rotate_left
 ·
  show Act.put _ (some 17) _ = _
  simp only [Act.put, List.setIfInBounds_toArray, List.set_cons_zero, List.set_cons_succ, i64_w, i32_w, IntKind.wrap_u32]
  rfl
 refine pure_ (i := 15) (N := some 2) (v := ?_) (a' := ?_) #[true, true, true, true, true, true, true, true, true, true, true, true, true, true, true, true] rfl rfl (any_of HT_.out (by kernel_rfl)) (fun _ _ _ h => h) (Or.inl ⟨by rfl, ?_⟩) ?_ ?_
 rotate_left
 ·
  intro w'
  go_simp
  with_reducible rfl
 rotate_left
 ·
  simp only [Act.put, List.setIfInBounds_toArray, List.set_cons_zero, List.set_cons_succ, i64_w, i32_w, IntKind.wrap_u32]
  rfl
 refine done_ (done_of HT_.out (by kernel_rfl)) ?_
 try go_wp2
 go_ret
 exact ⟨_, by first | rfl | (simp [errW_none, errW_some] <;> rfl) | (simp [*, errW_none, errW_some] <;> rfl), by exact HO465.out, by with_reducible exact HB.out⟩

/-! ### page_Page_ValueGroups: function 17 -/
def page_Page_ValueGroups.f (k : Nat) (l0 : List (S75)) : Option ((List (S47))) := if 0 < (l0.length : Int) then ((page_unpack.f k ((rd_T75 l0 0).f2) ((rd_T75 l0 0).f0.f3) ((rd_T75 l0 0).f0.f1)).bind fun t469 => (some t469)) else (none)
theorem page_Page_ValueGroups.mono : ∀ a0 k, LeO (page_Page_ValueGroups.f k a0) (page_Page_ValueGroups.f (k + 1) a0) := by
 intro a0 k
 unfold page_Page_ValueGroups.f
 repeat' first
   | (with_reducible exact page_unpack.mono _ _ _ _)
   | (with_reducible exact LeO.refl _)
   | (with_reducible exact LeO.none _)
   | (with_reducible refine LeO.ite ?_ ?_)
   | (with_reducible refine LeO.bind ?_ (fun _ => ?_))
   | exact page_unpack.mono _ _ _ _
   | exact LeO.none _
   | refine LeO.ite ?_ ?_
   | refine LeO.bind ?_ (fun _ => ?_)
def page_Page_ValueGroups.T1 : Bool × List (List Nat × List Nat) := (true, [([], []), ([0], [0]), ([1], [1]), ([2], [2]), ([], []), ([4], [4]), ([5], [5]), ([6], [6]), ([7], [7]), ([], []), ([9], [9]), ([10], [10]), ([11], [11]), ([12], [12]), ([3, 8, 13], [3, 8, 13]), ([14, 14, 0, 1, 2, 3, 4, 5, 6, 7, 8, 9, 10, 11, 12, 13, 14], [14])])
def page_Page_ValueGroups.B1 : List Nat := [0, 1, 3, 7, 0, 16, 48, 112, 240, 0, 512, 1536, 3584, 7680, 16383, 32767]
theorem page_Page_ValueGroups.tab1 : rtab .any (opsOf Try.f17 1) = page_Page_ValueGroups.T1 := by kernel_rfl
theorem page_Page_ValueGroups.bits1 : waitsOk page_Page_ValueGroups.T1.2 page_Page_ValueGroups.B1 = true := by kernel_rfl
set_option maxHeartbeats 8000000 in
set_option maxRecDepth 100000 in
theorem page_Page_ValueGroups.calls (k : Nat) (A0 : Option Addr) (c0 : Nat) (l0 : List (S75)) (r : List (S47)) (w : World) (hr0 : Kd.C k75 w A0 l0.length l0) (hc0 : l0.length ≤ c0) (h : page_Page_ValueGroups.f k l0 = some r) :
  Calls Try.prog 17 #[asPtr (.slice A0 l0.length c0)] w fun e w' => ∃ v0_ : Value, e = .returned (v0_) ∧ Kd.S k47 47 w' w.heap.size (fun _ => True) v0_ r ∧ Below w.heap.size w w' := by
 have HR0 := Aside0.mk hr0
 have HC0 := Aside0.mk hc0
 clear hr0 hc0
 have HB := Aside0.mk (Below.refl w.heap.size w)
 have H := h
 clear h
 unfold page_Page_ValueGroups.f at H
 by_cases c2 : 0 < (l0.length : Int)
 case neg => (rw [if_neg c2] at H; exact absurd H (by simp))
 rw [if_pos c2] at H
 have c2b0 : decide (0 < (l0.length : Int)) = true := decide_eq_true c2
 have c2b1 : decide (0 < l0.length) = true := decide_eq_true (by omega)
 clear c2
 replace H := Option.bind_eq_some_iff.mp H
 obtain ⟨t469, A30, H⟩ := H
 have A3 := Aside0.mk A30
 clear A30
 obtain rfl := Option.some.inj H
 go_enter Try.func17, Try.ntmps17
 try go_wp2
 replace HB := Aside0.mk (below_drew1 HB.out)
 have p466 : 0 ≤ (0 : Int) := (by omega)
 have q466 : 0 < (l0.length : Int) := of_decide_eq_true (by first | (with_reducible assumption) | assumption)
 obtain ⟨ad466, A466_7, c466_7, A466_8, c466_8, e466, _, _, _, _, _, _, _, _, hx466_8, _, _, hl466_8, hi466_8⟩ := at_T75 HR0.out 0 p466 q466
 have hw466_8 := hx466_8
 (try rw [show ((0 : Int)).toNat = 0 from rfl] at hw466_8)
 (try rw [show 0 * 9 = 0 from rfl] at hw466_8)
 (try rw [Addr.add_zero'] at hw466_8)
 cases e466
 have qi466 : (0 < l0.length) = True := eq_true (by omega)
 (try rw [show ((0 : Int)).toNat = 0 from rfl] at hx466_8)
 (try rw [show 0 * 9 = 0 from rfl] at hx466_8)
 (try rw [Addr.add_zero'] at hx466_8)
 replace hx466_8 := (HB.out.cell (World.block_lt_of_cell? w _ hx466_8)).trans hx466_8
 have HR466_8 := Aside0.mk hi466_8
 have HC466_8 := Aside0.mk hl466_8
 clear hi466_8 hl466_8
 replace p466 := eq_true p466
 replace q466 := eq_true q466
 have hP466 : asPtr (.slice (some ad466) l0.length c0) = .pointer (some ad466) := asPtr_some (of_decide_eq_true (by first | (with_reducible assumption) | assumption))
 have p467 : 0 ≤ (0 : Int) := (by omega)
 have q467 : 0 < (l0.length : Int) := of_decide_eq_true (by first | (with_reducible assumption) | assumption)
 obtain ⟨ad467, A467_7, c467_7, A467_8, c467_8, e467, _, _, _, hx467_3, _, _, _, _, _, _, _, _, _⟩ := at_T75 HR0.out 0 p467 q467
 have hw467_3 := hx467_3
 (try rw [show ((0 : Int)).toNat = 0 from rfl] at hw467_3)
 (try rw [show 0 * 9 = 0 from rfl] at hw467_3)
 (try rw [Addr.add_zero'] at hw467_3)
 obtain rfl : ad466 = ad467 := (by injection e467)
 have qi467 : (0 < l0.length) = True := eq_true (by omega)
 (try rw [show ((0 : Int)).toNat = 0 from rfl] at hx467_3)
 (try rw [show 0 * 9 = 0 from rfl] at hx467_3)
 (try rw [Addr.add_zero'] at hx467_3)
 replace hx467_3 := (HB.out.cell (World.block_lt_of_cell? w _ hx467_3)).trans hx467_3
 replace p467 := eq_true p467
 replace q467 := eq_true q467
 have hP467 : asPtr (.slice (some ad466) l0.length c0) = .pointer (some ad466) := asPtr_some (of_decide_eq_true (by first | (with_reducible assumption) | assumption))
 have p468 : 0 ≤ (0 : Int) := (by omega)
 have q468 : 0 < (l0.length : Int) := of_decide_eq_true (by first | (with_reducible assumption) | assumption)
 obtain ⟨ad468, A468_7, c468_7, A468_8, c468_8, e468, _, hx468_1, _, _, _, _, _, _, _, _, _, _, _⟩ := at_T75 HR0.out 0 p468 q468
 have hw468_1 := hx468_1
 (try rw [show ((0 : Int)).toNat = 0 from rfl] at hw468_1)
 (try rw [show 0 * 9 = 0 from rfl] at hw468_1)
 (try rw [Addr.add_zero'] at hw468_1)
 obtain rfl : ad466 = ad468 := (by injection e468)
 have qi468 : (0 < l0.length) = True := eq_true (by omega)
 (try rw [show ((0 : Int)).toNat = 0 from rfl] at hx468_1)
 (try rw [show 0 * 9 = 0 from rfl] at hx468_1)
 (try rw [Addr.add_zero'] at hx468_1)
 replace hx468_1 := (HB.out.cell (World.block_lt_of_cell? w _ hx468_1)).trans hx468_1
 replace p468 := eq_true p468
 replace q468 := eq_true q468
 have hP468 : asPtr (.slice (some ad466) l0.length c0) = .pointer (some ad466) := asPtr_some (of_decide_eq_true (by first | (with_reducible assumption) | assumption))
 refine start_ (n := 16) (S := fun w' => w'.cell? ⟨ad466.block, ad466.off + 8, none⟩ = some (.slice A466_8 ((rd_T75 l0 0).f2).length c466_8) ∧ w'.cell? ⟨ad466.block, ad466.off + 3, none⟩ = some (.int .i64 ((rd_T75 l0 0).f0.f3)) ∧ w'.cell? ⟨ad466.block, ad466.off + 1, none⟩ = some (.int .i64 ((rd_T75 l0 0).f0.f1))) (ds := []) #[false, false, false, false, false, false, false, false, false, false, false, false, false, false, false, false] (by kernel_rfl) rfl rfl ⟨((HB.out.cell (World.block_lt_of_cell? w _ hw466_8)).trans hw466_8), ((HB.out.cell (World.block_lt_of_cell? w _ hw467_3)).trans hw467_3), ((HB.out.cell (World.block_lt_of_cell? w _ hw468_1)).trans hw468_1)⟩ (fun hHeld => ?_); refine with_tabW page_Page_ValueGroups.tab1 page_Page_ValueGroups.bits1 (fun HT_ HW_ => ?_)
 generalize w.drew = w4 at HB HR466_8 hx466_8 hx467_3 hx468_1 hHeld ⊢
 refine pure_ (i := 0) (N := some 3) (v := ?_) (a' := ?_) #[true, false, false, false, false, false, false, false, false, false, false, false, false, false, false, false] rfl rfl (any_of HT_.out (by kernel_rfl)) (fun _ _ _ h => h) (Or.inl ⟨by rfl, ?_⟩) ?_ ?_
 rotate_left
 ·
  intro w'
  go_simp
  with_reducible rfl
 rotate_left
 ·
  simp only [Act.put, List.setIfInBounds_toArray, List.set_cons_zero, List.set_cons_succ, i64_w, i32_w, IntKind.wrap_u32]
  rfl
 refine pure_ (i := 1) (N := some 4) (v := ?_) (a' := ?_) #[true, true, false, false, false, false, false, false, false, false, false, false, false, false, false, false] rfl rfl (any_of HT_.out (by kernel_rfl)) (fun _ _ _ h => h) (Or.inl ⟨by rfl, ?_⟩) ?_ ?_
 rotate_left
 ·
  intro w'
  go_simp
  with_reducible rfl
 rotate_left
 ·
  simp only [Act.put, List.setIfInBounds_toArray, List.set_cons_zero, List.set_cons_succ, i64_w, i32_w, IntKind.wrap_u32]
  rfl
 refine pure_ (i := 2) (N := some 5) (v := ?_) (a' := ?_) #[true, true, true, false, false, false, false, false, false, false, false, false, false, false, false, false] rfl rfl (any_of HT_.out (by kernel_rfl)) (fun _ _ _ h => h) (Or.inl ⟨by rfl, ?_⟩) ?_ ?_
 rotate_left
 ·
  intro w'
  go_simp
  with_reducible rfl
 rotate_left
 ·
  simp only [Act.put, List.setIfInBounds_toArray, List.set_cons_zero, List.set_cons_succ, i64_w, i32_w, IntKind.wrap_u32]
  rfl
 refine pure_ (i := 4) (N := some 7) (v := ?_) (a' := ?_) #[true, true, true, false, true, false, false, false, false, false, false, false, false, false, false, false] rfl rfl (any_of HT_.out (by kernel_rfl)) (fun _ _ _ h => h) (Or.inl ⟨by rfl, ?_⟩) ?_ ?_
 rotate_left
 ·
  intro w'
  go_simp
  with_reducible rfl
 rotate_left
 ·
  simp only [Act.put, List.setIfInBounds_toArray, List.set_cons_zero, List.set_cons_succ, i64_w, i32_w, IntKind.wrap_u32]
  rfl
 refine pure_ (i := 5) (N := some 8) (v := ?_) (a' := ?_) #[true, true, true, false, true, true, false, false, false, false, false, false, false, false, false, false] rfl rfl (any_of HT_.out (by kernel_rfl)) (fun _ _ _ h => h) (Or.inl ⟨by rfl, ?_⟩) ?_ ?_
 rotate_left
 ·
  intro w'
  go_simp
  with_reducible rfl
 rotate_left
 ·
  simp only [Act.put, List.setIfInBounds_toArray, List.set_cons_zero, List.set_cons_succ, i64_w, i32_w, IntKind.wrap_u32]
  rfl
 refine pure_ (i := 6) (N := some 9) (v := ?_) (a' := ?_) #[true, true, true, false, true, true, true, false, false, false, false, false, false, false, false, false] rfl rfl (any_of HT_.out (by kernel_rfl)) (fun _ _ _ h => h) (Or.inl ⟨by rfl, ?_⟩) ?_ ?_
 rotate_left
 ·
  intro w'
  go_simp
  with_reducible rfl
 rotate_left
 ·
  simp only [Act.put, List.setIfInBounds_toArray, List.set_cons_zero, List.set_cons_succ, i64_w, i32_w, IntKind.wrap_u32]
  rfl
 refine pure_ (i := 7) (N := some 10) (v := ?_) (a' := ?_) #[true, true, true, false, true, true, true, true, false, false, false, false, false, false, false, false] rfl rfl (any_of HT_.out (by kernel_rfl)) (fun _ _ _ h => h) (Or.inl ⟨by rfl, ?_⟩) ?_ ?_
 rotate_left
 ·
  intro w'
  go_simp
  with_reducible rfl
 rotate_left
 ·
  simp only [Act.put, List.setIfInBounds_toArray, List.set_cons_zero, List.set_cons_succ, i64_w, i32_w, IntKind.wrap_u32]
  rfl
 refine pure_ (i := 9) (N := some 12) (v := ?_) (a' := ?_) #[true, true, true, false, true, true, true, true, false, true, false, false, false, false, false, false] rfl rfl (any_of HT_.out (by kernel_rfl)) (fun _ _ _ h => h) (Or.inl ⟨by rfl, ?_⟩) ?_ ?_
 rotate_left
 ·
  intro w'
  go_simp
  with_reducible rfl
 rotate_left
 ·
  simp only [Act.put, List.setIfInBounds_toArray, List.set_cons_zero, List.set_cons_succ, i64_w, i32_w, IntKind.wrap_u32]
  rfl
 refine pure_ (i := 10) (N := some 13) (v := ?_) (a' := ?_) #[true, true, true, false, true, true, true, true, false, true, true, false, false, false, false, false] rfl rfl (any_of HT_.out (by kernel_rfl)) (fun _ _ _ h => h) (Or.inl ⟨by rfl, ?_⟩) ?_ ?_
 rotate_left
 ·
  intro w'
  go_simp
  with_reducible rfl
 rotate_left
 ·
  simp only [Act.put, List.setIfInBounds_toArray, List.set_cons_zero, List.set_cons_succ, i64_w, i32_w, IntKind.wrap_u32]
  rfl
 refine pure_ (i := 11) (N := some 14) (v := ?_) (a' := ?_) #[true, true, true, false, true, true, true, true, false, true, true, true, false, false, false, false] rfl rfl (any_of HT_.out (by kernel_rfl)) (fun _ _ _ h => h) (Or.inl ⟨by rfl, ?_⟩) ?_ ?_
 rotate_left
 ·
  intro w'
  go_simp
  with_reducible rfl
 rotate_left
 ·
  simp only [Act.put, List.setIfInBounds_toArray, List.set_cons_zero, List.set_cons_succ, i64_w, i32_w, IntKind.wrap_u32]
  rfl
 refine pure_ (i := 12) (N := some 15) (v := ?_) (a' := ?_) #[true, true, true, false, true, true, true, true, false, true, true, true, true, false, false, false] rfl rfl (any_of HT_.out (by kernel_rfl)) (fun _ _ _ h => h) (Or.inl ⟨by rfl, ?_⟩) ?_ ?_
 rotate_left
 ·
  intro w'
  go_simp
  with_reducible rfl
 rotate_left
 ·
  simp only [Act.put, List.setIfInBounds_toArray, List.set_cons_zero, List.set_cons_succ, i64_w, i32_w, IntKind.wrap_u32]
  rfl
 refine take_ (i := 3) (N := some 6) (v := ?_) (a' := ?_) #[true, true, true, true, true, true, true, true, false, true, true, true, true, false, false, false] rfl rfl (take_ofW HT_.out HW_.out (by kernel_rfl)) (fun _ _ _ h => h) (Or.inl ⟨by rfl, ?_⟩) hHeld ?_ ?_
 rotate_left
 ·
  rintro w' ⟨s0, s1, s2⟩
  go_simp
  with_reducible rfl
 rotate_left
 ·
  simp only [Act.put, List.setIfInBounds_toArray, List.set_cons_zero, List.set_cons_succ, i64_w, i32_w, IntKind.wrap_u32]
  rfl
 refine take_ (i := 8) (N := some 11) (v := ?_) (a' := ?_) #[true, true, true, true, true, true, true, true, true, true, true, true, true, false, false, false] rfl rfl (take_ofW HT_.out HW_.out (by kernel_rfl)) (fun _ _ _ h => h) (Or.inl ⟨by rfl, ?_⟩) hHeld ?_ ?_
 rotate_left
 ·
  rintro w' ⟨s0, s1, s2⟩
  go_simp
  with_reducible rfl
 rotate_left
 ·
  simp only [Act.put, List.setIfInBounds_toArray, List.set_cons_zero, List.set_cons_succ, i64_w, i32_w, IntKind.wrap_u32]
  rfl
 refine take_ (i := 13) (N := some 16) (v := ?_) (a' := ?_) #[true, true, true, true, true, true, true, true, true, true, true, true, true, true, false, false] rfl rfl (take_ofW HT_.out HW_.out (by kernel_rfl)) (fun _ _ _ h => h) (Or.inl ⟨by rfl, ?_⟩) hHeld ?_ ?_
 rotate_left
 ·
  rintro w' ⟨s0, s1, s2⟩
  go_simp
  with_reducible rfl
 rotate_left
 ·
  simp only [Act.put, List.setIfInBounds_toArray, List.set_cons_zero, List.set_cons_succ, i64_w, i32_w, IntKind.wrap_u32]
  rfl
 refine one_ (i := 14) (N := some 17) #[true, true, true, true, true, true, true, true, true, true, true, true, true, true, true, false] rfl rfl (one_of HT_.out (by kernel_rfl)) (by decide) (fun K hK => ?_)
 refine goes_ Try.func43 (by kernel_rfl) rfl #[.slice A466_8 ((rd_T75 l0 0).f2).length c466_8, .int .i64 ((rd_T75 l0 0).f0.f3), .int .i64 ((rd_T75 l0 0).f0.f1)] (by rfl) rfl rfl (by (try simp only [List.map_toArray, List.map_cons, List.map_nil]); first | done | rfl | (simp only [List.length_drop, List.length_take]; rfl)) ?_
 with_reducible refine (page_unpack.calls k _ _ ((rd_T75 l0 0).f2) ((rd_T75 l0 0).f0.f3) ((rd_T75 l0 0).f0.f1) t469 _ ?side1 ?side2 A3.out).mono ?_
 (case side1 => with_reducible exact (Kd.C_below HR466_8.out HB.out))
 (case side2 => exact HC466_8.out)
 rintro e w5 ⟨v470, rfl, ho0, hb⟩
 refine ⟨_, rfl, ?_⟩
 have HO471 := Aside0.mk (Kd.S_lower ho0 (below_size (by repeat (first | (with_reducible first | exact HB.out | apply below_alloc | apply pw_below_drewN | apply below_drew1) | exact HB.out))))
 replace HB := Aside0.mk (below_step (by repeat (first | (with_reducible first | exact HB.out | apply below_alloc | apply pw_below_drewN | apply below_drew1) | exact HB.out)) hb)
 (try clear hb)
 (try clear hb2)
 (try clear hk)
 (try clear hi)
 (try clear ho0)
 refine hK.out _ _ ⟨((HB.out.cell (World.block_lt_of_cell? w _ hw466_8)).trans hw466_8), ((HB.out.cell (World.block_lt_of_cell? w _ hw467_3)).trans hw467_3), ((HB.out.cell (World.block_lt_of_cell? w _ hw468_1)).trans hw468_1)⟩ (fun hHeld => ?_)
 clear hK K
 refine norm_ (a' := ?_) ?_ ?_
 rotate_left
 ·
  show Act.put _ (some 17) _ = _
  simp only [Act.put, List.setIfInBounds_toArray, List.set_cons_zero, List.set_cons_succ, i64_w, i32_w, IntKind.wrap_u32]
  rfl
 refine pure_ (i := 15) (N := some 2) (v := ?_) (a' := ?_) #[true, true, true, true, true, true, true, true, true, true, true, true, true, true, true, true] rfl rfl (any_of HT_.out (by kernel_rfl)) (fun _ _ _ h => h) (Or.inl ⟨by rfl, ?_⟩) ?_ ?_
 rotate_left
 ·
  intro w'
  go_simp
  with_reducible rfl
 rotate_left
 ·
  simp only [Act.put, List.setIfInBounds_toArray, List.set_cons_zero, List.set_cons_succ, i64_w, i32_w, IntKind.wrap_u32]
  rfl
 refine done_ (done_of HT_.out (by kernel_rfl)) ?_
 try go_wp2
 go_ret
 exact ⟨_, by first | rfl | (simp [errW_none, errW_some] <;> rfl) | (simp [*, errW_none, errW_some] <;> rfl), by exact HO471.out, by with_reducible exact HB.out⟩

end Go.Proofs.Ytekenaclmplocaa.PPagePlaces
