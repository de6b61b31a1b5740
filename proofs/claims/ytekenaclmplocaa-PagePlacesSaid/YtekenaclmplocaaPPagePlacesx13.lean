-- Written by a program of this session (wip/tools/mkprint.py over the kit's print).
import Derived.Test.YtekenaclmplocaaPPagePlacesx0
import Derived.Test.YtekenaclmplocaaPPagePlacesx1
import Derived.Test.YtekenaclmplocaaPPagePlacesx2
import Derived.Test.YtekenaclmplocaaPPagePlacesx6
import Derived.Test.YtekenaclmplocaaPPagePlacesx7
import Derived.Test.YtekenaclmplocaaPPagePlacesx9
import Derived.Test.YtekenaclmplocaaPPagePlacesx10
import Derived.Test.YtekenaclmplocaaPPagePlacesx11
import Derived.Test.YtekenaclmplocaaPPagePlacesx12
namespace Go.Proofs.Ytekenaclmplocaa.PPagePlaces
open Go.RowKit Go.Proofs.YtekenaclmplocaaW.PrintWords Go.Proofs.YtekenaclmplocaaW.PrintLast Go.Proofs.YtekenaclmplocaaW.PrintMore
attribute [local go_sem] max2_int min2_int max_two min_two max_three min_three max_four min_four   -- for this text's walks alone
set_option linter.unusedVariables false
set_option linter.unusedSimpArgs false

attribute [local go_sem high] eqA23
/-! ### credenzalaw08_awake: function 12 -/
def credenzalaw08_awake.f (k : Nat)  : Option (Bool) := (page_Quantize.f k 2 4 2 1 1 0 3 (([(([0] : List Int)), (([30] : List Int))] : List (List Int))) (([(([5] : List Int)), (([6] : List Int))] : List (List Int)))).bind fun bt394 => ((page_Quantize.f k 2 4 2 1 1 0 3 (([(([0] : List Int))] : List (List Int))) (([(([5] : List Int)), (([6] : List Int))] : List (List Int)))).bind fun bt413 => ((page_Parse.f k (([75] : List Int))).bind fun bt421 => (if bt394.2 = 0 then (if (bt394.1.length : Int) = 0 then (none) else (if bt413.2 = 25 then (if bt421.2 = 16 then ((page_Page_Head.f bt394.1).bind fun bt425 => (if (!(bt425.1 == 2) || (!(bt425.2.1 == 4) || (!(bt425.2.2.1 == 2) || (!(bt425.2.2.2.1 == 1) || (!(bt425.2.2.2.2.1 == 1) || (!(bt425.2.2.2.2.2.1 == 0) || (!(bt425.2.2.2.2.2.2 == 3)))))))) = true then (none) else ((page_Size.f 2 4 2 1 1 0 3).bind fun t432 => (if t432 = 61 then ((page_Page_Bytes.f k bt394.1).bind fun t433 => ((page_Parse.f k t433).bind fun bt436 => (if bt436.2 = 0 then (if (bt436.1.length : Int) = 0 then (none) else ((page_Page_Key.f bt436.1 1 0).bind fun t440 => (if t440 = 30 then ((page_Page_Value.f bt436.1 0 0).bind fun t441 => (if t441 = 5 then ((page_Page_Key.f bt436.1 2 0).bind fun t442 => (if t442 = 0 then ((page_Page_Keys.f k bt436.1).bind fun t443 => (if (t443.length : Int) = 2 then ((page_Page_Bytes.f k bt394.1).bind fun t446 => (if (t446.length : Int) = 61 then ((page_Right.f 2 4 2 1 1 0 3).bind fun t449 => (some t449)) else (none))) else (none))) else (none))) else (none))) else (none)))) else (none)))) else (none))))) else (none)) else (none))) else (none))))
theorem credenzalaw08_awake.mono : ∀ k, LeO (credenzalaw08_awake.f k ) (credenzalaw08_awake.f (k + 1) ) := by
 intro  k
 unfold credenzalaw08_awake.f
 repeat' first
   | (with_reducible exact page_Page_Bytes.mono _ _)
   | (with_reducible exact page_Page_Keys.mono _ _)
   | (with_reducible exact page_Parse.mono _ _)
   | (with_reducible exact page_Quantize.mono _ _ _ _ _ _ _ _ _ _)
   | (with_reducible exact LeO.refl _)
   | (with_reducible exact LeO.none _)
   | (with_reducible refine LeO.ite ?_ ?_)
   | (with_reducible refine LeO.bind ?_ (fun _ => ?_))
   | exact page_Page_Bytes.mono _ _
   | exact page_Page_Keys.mono _ _
   | exact page_Parse.mono _ _
   | exact page_Quantize.mono _ _ _ _ _ _ _ _ _ _
   | exact LeO.none _
   | refine LeO.ite ?_ ?_
   | refine LeO.bind ?_ (fun _ => ?_)
def credenzalaw08_awake.T5 : Bool × List (List Nat × List Nat) := (true, [([], []), ([0], [0]), ([1], [1]), ([2], [2]), ([3, 2], [2, 3]), ([2, 4], [2, 4]), ([5, 2], [5]), ([6], [6]), ([7, 6], [6, 7]), ([6, 8], [6, 8]), ([9, 6], [9]), ([10], [10]), ([11, 10], [10, 11]), ([10, 12], [10, 12]), ([13, 10], [13]), ([14], [14]), ([15, 14, 14], [14, 15]), ([14], [14]), ([16, 17, 14], [14, 16, 17]), ([14, 18], [14, 18]), ([19, 16], [19]), ([20], [20]), ([21, 20, 20], [20, 21]), ([22, 20], [20, 22]), ([20, 23], [20, 23])])
def credenzalaw08_awake.B5 : List Nat := [0, 1, 3, 7, 15, 31, 63, 127, 255, 511, 1023, 2047, 4095, 8191, 16383, 32767, 65535, 32767, 262143, 524287, 1048575, 2097151, 4194303, 8388607, 16777215]
theorem credenzalaw08_awake.tab5 : rtab .any (opsOf Try.f12 5) = credenzalaw08_awake.T5 := by kernel_rfl
theorem credenzalaw08_awake.bits5 : waitsOk credenzalaw08_awake.T5.2 credenzalaw08_awake.B5 = true := by kernel_rfl
set_option maxHeartbeats 8000000 in
set_option maxRecDepth 100000 in
theorem credenzalaw08_awake.calls (k : Nat)  (r : Bool) (w : World) (h : credenzalaw08_awake.f k  = some r) :
  Calls Try.prog 12 #[] w fun e w' => e = .returned (.bool r) ∧ Below w.heap.size w w' := by
 have hu23 := Try.underlying23
 have HB := Aside0.mk (Below.refl w.heap.size w)
 have H := h
 clear h
 unfold credenzalaw08_awake.f at H
 obtain ⟨y376, hy376⟩ : ∃ y_ : List Int, y_ = (([0] : List Int)) := ⟨_, rfl⟩
 have Ny376 := Aside0.mk hy376
 clear hy376
 obtain ⟨y379, hy379⟩ : ∃ y_ : List Int, y_ = (([30] : List Int)) := ⟨_, rfl⟩
 have Ny379 := Aside0.mk hy379
 clear hy379
 obtain ⟨y382, hy382⟩ : ∃ y_ : List (List Int), y_ = (([y376, y379] : List (List Int))) := ⟨_, rfl⟩
 have Ny382 := Aside0.mk hy382
 clear hy382
 obtain ⟨y385, hy385⟩ : ∃ y_ : List Int, y_ = (([5] : List Int)) := ⟨_, rfl⟩
 have Ny385 := Aside0.mk hy385
 clear hy385
 obtain ⟨y388, hy388⟩ : ∃ y_ : List Int, y_ = (([6] : List Int)) := ⟨_, rfl⟩
 have Ny388 := Aside0.mk hy388
 clear hy388
 obtain ⟨y391, hy391⟩ : ∃ y_ : List (List Int), y_ = (([y385, y388] : List (List Int))) := ⟨_, rfl⟩
 have Ny391 := Aside0.mk hy391
 clear hy391
 replace H := Option.bind_eq_some_iff.mp H
 obtain ⟨⟨t394, t397⟩, A10, H⟩ := H
 replace A10 : page_Quantize.f k 2 4 2 1 1 0 3 y382 y391 = some (t394, t397) := by rw [Ny391.out, Ny388.out, Ny385.out, Ny382.out, Ny379.out, Ny376.out]; exact A10
 try dsimp only at H
 have A1 := Aside0.mk A10
 clear A10
 obtain ⟨y398, hy398⟩ : ∃ y_ : List Int, y_ = (([0] : List Int)) := ⟨_, rfl⟩
 have Ny398 := Aside0.mk hy398
 clear hy398
 obtain ⟨y401, hy401⟩ : ∃ y_ : List (List Int), y_ = (([y398] : List (List Int))) := ⟨_, rfl⟩
 have Ny401 := Aside0.mk hy401
 clear hy401
 obtain ⟨y404, hy404⟩ : ∃ y_ : List Int, y_ = (([5] : List Int)) := ⟨_, rfl⟩
 have Ny404 := Aside0.mk hy404
 clear hy404
 obtain ⟨y407, hy407⟩ : ∃ y_ : List Int, y_ = (([6] : List Int)) := ⟨_, rfl⟩
 have Ny407 := Aside0.mk hy407
 clear hy407
 obtain ⟨y410, hy410⟩ : ∃ y_ : List (List Int), y_ = (([y404, y407] : List (List Int))) := ⟨_, rfl⟩
 have Ny410 := Aside0.mk hy410
 clear hy410
 replace H := Option.bind_eq_some_iff.mp H
 obtain ⟨⟨t413, t416⟩, A20, H⟩ := H
 replace A20 : page_Quantize.f k 2 4 2 1 1 0 3 y401 y410 = some (t413, t416) := by rw [Ny410.out, Ny407.out, Ny404.out, Ny401.out, Ny398.out]; exact A20
 try dsimp only at H
 have A2 := Aside0.mk A20
 clear A20
 obtain ⟨y417, hy417⟩ : ∃ y_ : List Int, y_ = (([75] : List Int)) := ⟨_, rfl⟩
 have Ny417 := Aside0.mk hy417
 clear hy417
 replace H := Option.bind_eq_some_iff.mp H
 obtain ⟨⟨t421, t422⟩, A30, H⟩ := H
 replace A30 : page_Parse.f k y417 = some (t421, t422) := by rw [Ny417.out]; exact A30
 try dsimp only at H
 have A3 := Aside0.mk A30
 clear A30
 by_cases c4 : t397 = 0
 case neg => (rw [if_neg c4] at H; exact absurd H (by simp))
 rw [if_pos c4] at H
 have c4b0 : (t397 == 0) = true := beq_iff_eq.mpr c4
 have c4b1 : (t397 != 0) = false := bne_eq_false_iff_eq.mpr c4
 clear c4
 by_cases c5 : (t394.length : Int) = 0
 case pos => (rw [if_pos c5] at H; exact absurd H (by simp))
 rw [if_neg c5] at H
 have c5b0 : ((t394.length : Int) == 0) = false := beq_eq_false_iff_ne.mpr c5
 have c5b1 : ((t394.length : Int) != 0) = true := bne_iff_ne.mpr c5
 have c5b2 : ¬ (t394 = []) := fun h_ => c5 (by rw [h_]; rfl)
 by_cases c6 : t416 = 25
 case neg => (rw [if_neg c6] at H; exact absurd H (by simp))
 rw [if_pos c6] at H
 have c6b0 : (t416 == 25) = true := beq_iff_eq.mpr c6
 have c6b1 : (t416 != 25) = false := bne_eq_false_iff_eq.mpr c6
 clear c6
 by_cases c7 : t422 = 16
 case neg => (rw [if_neg c7] at H; exact absurd H (by simp))
 rw [if_pos c7] at H
 have c7b0 : (t422 == 16) = true := beq_iff_eq.mpr c7
 have c7b1 : (t422 != 16) = false := bne_eq_false_iff_eq.mpr c7
 clear c7
 replace H := Option.bind_eq_some_iff.mp H
 obtain ⟨⟨t425, t426, t427, t428, t429, t430, t431⟩, A80, H⟩ := H
 try dsimp only at H
 have A8 := Aside0.mk A80
 clear A80
 by_cases c9 : (!(t425 == 2) || (!(t426 == 4) || (!(t427 == 2) || (!(t428 == 1) || (!(t429 == 1) || (!(t430 == 0) || (!(t431 == 3)))))))) = true
 case pos => (rw [if_pos c9] at H; exact absurd H (by simp))
 rw [if_neg c9] at H
 have c9b0 : (!(t425 == 2) || (!(t426 == 4) || (!(t427 == 2) || (!(t428 == 1) || (!(t429 == 1) || (!(t430 == 0) || (!(t431 == 3)))))))) = false := by simpa using c9
 clear c9
 replace H := Option.bind_eq_some_iff.mp H
 obtain ⟨t432, A100, H⟩ := H
 have A10 := Aside0.mk A100
 clear A100
 by_cases c11 : t432 = 61
 case neg => (rw [if_neg c11] at H; exact absurd H (by simp))
 rw [if_pos c11] at H
 have c11b0 : (t432 == 61) = true := beq_iff_eq.mpr c11
 have c11b1 : (t432 != 61) = false := bne_eq_false_iff_eq.mpr c11
 clear c11
 replace H := Option.bind_eq_some_iff.mp H
 obtain ⟨t433, A120, H⟩ := H
 have A12 := Aside0.mk A120
 clear A120
 replace H := Option.bind_eq_some_iff.mp H
 obtain ⟨⟨t436, t437⟩, A130, H⟩ := H
 try dsimp only at H
 have A13 := Aside0.mk A130
 clear A130
 by_cases c14 : t437 = 0
 case neg => (rw [if_neg c14] at H; exact absurd H (by simp))
 rw [if_pos c14] at H
 have c14b0 : (t437 == 0) = true := beq_iff_eq.mpr c14
 have c14b1 : (t437 != 0) = false := bne_eq_false_iff_eq.mpr c14
 clear c14
 by_cases c15 : (t436.length : Int) = 0
 case pos => (rw [if_pos c15] at H; exact absurd H (by simp))
 rw [if_neg c15] at H
 have c15b0 : ((t436.length : Int) == 0) = false := beq_eq_false_iff_ne.mpr c15
 have c15b1 : ((t436.length : Int) != 0) = true := bne_iff_ne.mpr c15
 have c15b2 : ¬ (t436 = []) := fun h_ => c15 (by rw [h_]; rfl)
 replace H := Option.bind_eq_some_iff.mp H
 obtain ⟨t440, A160, H⟩ := H
 have A16 := Aside0.mk A160
 clear A160
 by_cases c17 : t440 = 30
 case neg => (rw [if_neg c17] at H; exact absurd H (by simp))
 rw [if_pos c17] at H
 have c17b0 : (t440 == 30) = true := beq_iff_eq.mpr c17
 have c17b1 : (t440 != 30) = false := bne_eq_false_iff_eq.mpr c17
 clear c17
 replace H := Option.bind_eq_some_iff.mp H
 obtain ⟨t441, A180, H⟩ := H
 have A18 := Aside0.mk A180
 clear A180
 by_cases c19 : t441 = 5
 case neg => (rw [if_neg c19] at H; exact absurd H (by simp))
 rw [if_pos c19] at H
 have c19b0 : (t441 == 5) = true := beq_iff_eq.mpr c19
 have c19b1 : (t441 != 5) = false := bne_eq_false_iff_eq.mpr c19
 clear c19
 replace H := Option.bind_eq_some_iff.mp H
 obtain ⟨t442, A200, H⟩ := H
 have A20 := Aside0.mk A200
 clear A200
 by_cases c21 : t442 = 0
 case neg => (rw [if_neg c21] at H; exact absurd H (by simp))
 rw [if_pos c21] at H
 have c21b0 : (t442 == 0) = true := beq_iff_eq.mpr c21
 have c21b1 : (t442 != 0) = false := bne_eq_false_iff_eq.mpr c21
 clear c21
 replace H := Option.bind_eq_some_iff.mp H
 obtain ⟨t443, A220, H⟩ := H
 have A22 := Aside0.mk A220
 clear A220
 by_cases c23 : (t443.length : Int) = 2
 case neg => (rw [if_neg c23] at H; exact absurd H (by simp))
 rw [if_pos c23] at H
 have c23b0 : ((t443.length : Int) == 2) = true := beq_iff_eq.mpr c23
 have c23b1 : ((t443.length : Int) != 2) = false := bne_eq_false_iff_eq.mpr c23
 clear c23
 replace H := Option.bind_eq_some_iff.mp H
 obtain ⟨t446, A240, H⟩ := H
 have A24 := Aside0.mk A240
 clear A240
 by_cases c25 : (t446.length : Int) = 61
 case neg => (rw [if_neg c25] at H; exact absurd H (by simp))
 rw [if_pos c25] at H
 have c25b0 : ((t446.length : Int) == 61) = true := beq_iff_eq.mpr c25
 have c25b1 : ((t446.length : Int) != 61) = false := bne_eq_false_iff_eq.mpr c25
 clear c25
 replace H := Option.bind_eq_some_iff.mp H
 obtain ⟨t449, A260, H⟩ := H
 have A26 := Aside0.mk A260
 clear A260
 obtain rfl := Option.some.inj H
 go_enter Try.func12, Try.ntmps12
 try go_wp2_with (first | ((with_reducible refine gate_dst (N := 1) rfl ?_); (try (refine gate_guard (by rfl) ?_; dsimp only)); refine box_event ?hg (N := 1) ?hd (cs := #[.int .i64 0, .int .i64 0, .int .i64 0, .int .i64 0, .int .i64 0, .int .i64 0, .int .i64 0]) (t := 23) ?hr ?_; (case hd => rfl); (case hg => rfl); (case hr => first | (go_simp; done) | (go_simp; rfl)); intro gb375 hg w27 hbox hb; have BK375 := Aside0.mk (hbox); have GW375 := Aside0.mk ((by rw [hg]; exact (below_size (by with_reducible exact HB.out)) : w.heap.size ≤ gb375)); have GE375 := Aside0.mk ((by rw [hg]; exact (below_size (by with_reducible exact HB.out)) : w.heap.size ≤ gb375)); replace HB := Aside0.mk (below_step (by with_reducible exact HB.out) hb); clear hb hbox hg; have hz28 := bx7 BK375.out) | ((with_reducible refine gate_dst (N := 13) rfl ?_); (try (refine gate_guard (by rfl) ?_; dsimp only)); refine Kd.R_lit (Kd.int .i32) _ 21 ?hg (N := 13) ?hd (xs := ([0] : List Int)) (inner := [.int .i32 0]) (ok := fun _ => True) (okp := fun _ => True) ?hr ?hp (fun _ hk => hk) trivial (Below.refl _ _) (Nat.le_refl _) (by simp) ?_; (case hd => rfl); (case hg => rfl); (case hr => first | (go_simp; done) | (go_simp; rfl)); (case hp => exact (Reps.one (show Kd.M (Kd.int .i32) _ _ _ 0 [.int .i32 0] from rfl) (Reps.none _ _))); intro v377 w29 ho30 hb hg_ hnew_; clear hg_ hnew_; (first | rw [← Ny376.out] at ho30 | (simp only [Int.reduceToNat] at ho30; rw [← Ny376.out] at ho30)); have HO378 := Aside0.mk (Kd.R_lower ho30 (below_size (by repeat (first | (with_reducible first | exact HB.out | apply below_alloc | apply pw_below_drewN | apply below_drew1 | refine below_set ?_ GE375.out) | exact HB.out)))); replace BK375 := Aside0.mk (blk_below (g := gb375) (o := .cells #[.int .i64 2, .int .i64 4, .int .i64 2, .int .i64 1, .int .i64 1, .int .i64 0, .int .i64 3] 23 (0, 0)) (by (with_reducible repeat (first | refine blk_drewN ?_ _ | refine blk_drew ?_ | refine blk_alloc ?_ _)); refine blk_put (cs := #[.int .i64 2, .int .i64 4, .int .i64 2, .int .i64 1, .int .i64 1, .int .i64 0, .int .i64 0]) ?_ 6 _ rfl; (with_reducible repeat (first | refine blk_drewN ?_ _ | refine blk_drew ?_ | refine blk_alloc ?_ _)); refine blk_put (cs := #[.int .i64 2, .int .i64 4, .int .i64 2, .int .i64 1, .int .i64 1, .int .i64 0, .int .i64 0]) ?_ 5 _ rfl; (with_reducible repeat (first | refine blk_drewN ?_ _ | refine blk_drew ?_ | refine blk_alloc ?_ _)); refine blk_put (cs := #[.int .i64 2, .int .i64 4, .int .i64 2, .int .i64 1, .int .i64 0, .int .i64 0, .int .i64 0]) ?_ 4 _ rfl; (with_reducible repeat (first | refine blk_drewN ?_ _ | refine blk_drew ?_ | refine blk_alloc ?_ _)); refine blk_put (cs := #[.int .i64 2, .int .i64 4, .int .i64 2, .int .i64 0, .int .i64 0, .int .i64 0, .int .i64 0]) ?_ 3 _ rfl; (with_reducible repeat (first | refine blk_drewN ?_ _ | refine blk_drew ?_ | refine blk_alloc ?_ _)); refine blk_put (cs := #[.int .i64 2, .int .i64 4, .int .i64 0, .int .i64 0, .int .i64 0, .int .i64 0, .int .i64 0]) ?_ 2 _ rfl; (with_reducible repeat (first | refine blk_drewN ?_ _ | refine blk_drew ?_ | refine blk_alloc ?_ _)); refine blk_put (cs := #[.int .i64 2, .int .i64 0, .int .i64 0, .int .i64 0, .int .i64 0, .int .i64 0, .int .i64 0]) ?_ 1 _ rfl; (with_reducible repeat (first | refine blk_drewN ?_ _ | refine blk_drew ?_ | refine blk_alloc ?_ _)); refine blk_put (cs := #[.int .i64 0, .int .i64 0, .int .i64 0, .int .i64 0, .int .i64 0, .int .i64 0, .int .i64 0]) ?_ 0 _ rfl; (with_reducible repeat (first | refine blk_drewN ?_ _ | refine blk_drew ?_ | refine blk_alloc ?_ _)); exact BK375.out) hb); replace HB := Aside0.mk (below_step (by repeat (first | (with_reducible first | exact HB.out | apply below_alloc | apply pw_below_drewN | apply below_drew1 | refine below_set ?_ GE375.out) | exact HB.out)) hb); clear hb ho30) | ((with_reducible refine gate_dst (N := 14) rfl ?_); (try (refine gate_guard (by rfl) ?_; dsimp only)); refine Kd.R_lit (Kd.int .i32) _ 21 ?hg (N := 14) ?hd (xs := ([30] : List Int)) (inner := [.int .i32 30]) (ok := fun _ => True) (okp := fun _ => True) ?hr ?hp (fun _ hk => hk) trivial (Below.refl _ _) (Nat.le_refl _) (by simp) ?_; (case hd => rfl); (case hg => rfl); (case hr => first | (go_simp; done) | (go_simp; rfl)); (case hp => exact (Reps.one (show Kd.M (Kd.int .i32) _ _ _ 30 [.int .i32 30] from rfl) (Reps.none _ _))); intro v380 w31 ho32 hb hg_ hnew_; clear hg_ hnew_; (first | rw [← Ny379.out] at ho32 | (simp only [Int.reduceToNat] at ho32; rw [← Ny379.out] at ho32)); have HO381 := Aside0.mk (Kd.R_lower (Kd.R_new' ho32 (Kd.R_lt (by exact HO378.out))) (below_size (by with_reducible exact HB.out))); replace HO378 := Aside0.mk (Kd.R_elder' (by exact HO378.out) (Kd.R_base ho32) hb); replace BK375 := Aside0.mk (blk_below BK375.out hb); replace HB := Aside0.mk (below_step (by with_reducible exact HB.out) hb); clear hb ho32; obtain ⟨Ao33, co33, eo33⟩ := Kd.R_slice HO378.out; subst eo33; obtain ⟨Ao34, co34, eo34⟩ := Kd.R_slice HO381.out; subst eo34) | ((with_reducible refine gate_dst (N := 15) rfl ?_); (try (refine gate_guard (by rfl) ?_; dsimp only)); refine Kd.N_lit (Kd.slice 21 (Kd.int .i32)) _ 43 ?hg (N' := 15) ?hd (xs := ([y376, y379] : List (List Int))) (inner := [.slice Ao33 y376.length co33, .slice Ao34 y379.length co34]) (ok := (fun k_ => k_ ≠ gb375)) (okp := (fun k_ => k_ ≠ gb375)) ?hr ?hp (fun _ hk => hk) ((show ∀ k_, w31.heap.size ≤ k_ → (fun k_ => k_ ≠ gb375) k_ from fun k_ hk => Kd.freshB (g := gb375) (o := .cells #[.int .i64 2, .int .i64 4, .int .i64 2, .int .i64 1, .int .i64 1, .int .i64 0, .int .i64 3] 23 (0, 0)) (by exact BK375.out) k_ hk) _ (Nat.le_refl _)) (Below.refl _ _) (Nat.le_refl _) (by simp) ?_; (case hd => rfl); (case hg => rfl); (case hr => first | (go_simp; done) | (go_simp; rfl)); (case hp => exact (Reps.one (show Kd.FK (Kd.slice 21 (Kd.int .i32)) _ _ y376 [.slice Ao33 y376.length co33] from (Kd.FK_slice_mk (Kd.R_reads' (Kd.R_mono (ok' := (fun k_ => k_ ≠ gb375)) (Kd.R_types (HO378.out) BK375.out (by decide)) (fun k_ hk => hk.2))).2.1 (Kd.R_F (Kd.R_mono (ok' := (fun k_ => k_ ≠ gb375)) (Kd.R_types (HO378.out) BK375.out (by decide)) (fun k_ hk => hk.2))))) (Reps.one (show Kd.FK (Kd.slice 21 (Kd.int .i32)) _ _ y379 [.slice Ao34 y379.length co34] from (Kd.FK_slice_mk (Kd.R_reads' (Kd.R_mono (ok' := (fun k_ => k_ ≠ gb375)) (Kd.R_types (HO381.out) BK375.out (by decide)) (fun k_ hk => hk.2))).2.1 (Kd.R_F (Kd.R_mono (ok' := (fun k_ => k_ ≠ gb375)) (Kd.R_types (HO381.out) BK375.out (by decide)) (fun k_ hk => hk.2))))) (Reps.none _ _)))); intro v383 w35 ho36 hb hg_ hnew_; clear hg_ hnew_; (first | rw [← Ny382.out] at ho36 | (simp only [Int.reduceToNat] at ho36; rw [← Ny382.out] at ho36)); have n0_ := Aside0.mk (Kd.N_lower ho36 (below_size (by with_reducible exact HB.out))); have n1_ := Aside0.mk (blk_below BK375.out hb); have n2_ := Aside0.mk (below_step (by with_reducible exact HB.out) hb); clear BK375; clear HB; clear HO378; clear HO381; have HO384 := n0_; have BK375 := n1_; have HB := n2_; clear n0_ n1_ n2_; clear hb ho36) | ((with_reducible refine gate_dst (N := 16) rfl ?_); (try (refine gate_guard (by rfl) ?_; dsimp only)); refine Kd.R_lit (Kd.int .i32) _ 21 ?hg (N := 16) ?hd (xs := ([5] : List Int)) (inner := [.int .i32 5]) (ok := fun _ => True) (okp := fun _ => True) ?hr ?hp (fun _ hk => hk) trivial (Below.refl _ _) (Nat.le_refl _) (by simp) ?_; (case hd => rfl); (case hg => rfl); (case hr => first | (go_simp; done) | (go_simp; rfl)); (case hp => exact (Reps.one (show Kd.M (Kd.int .i32) _ _ _ 5 [.int .i32 5] from rfl) (Reps.none _ _))); intro v386 w37 ho38 hb hg_ hnew_; clear hg_ hnew_; (first | rw [← Ny385.out] at ho38 | (simp only [Int.reduceToNat] at ho38; rw [← Ny385.out] at ho38)); replace HO384 := Aside0.mk (Kd.N_elder' (by exact HO384.out) (Kd.R_base ho38) hb); have HO387 := Aside0.mk (Kd.R_lower ho38 (below_size (by with_reducible exact HB.out))); replace BK375 := Aside0.mk (blk_below BK375.out hb); replace HB := Aside0.mk (below_step (by with_reducible exact HB.out) hb); clear hb ho38) | ((with_reducible refine gate_dst (N := 17) rfl ?_); (try (refine gate_guard (by rfl) ?_; dsimp only)); refine Kd.R_lit (Kd.int .i32) _ 21 ?hg (N := 17) ?hd (xs := ([6] : List Int)) (inner := [.int .i32 6]) (ok := fun _ => True) (okp := fun _ => True) ?hr ?hp (fun _ hk => hk) trivial (Below.refl _ _) (Nat.le_refl _) (by simp) ?_; (case hd => rfl); (case hg => rfl); (case hr => first | (go_simp; done) | (go_simp; rfl)); (case hp => exact (Reps.one (show Kd.M (Kd.int .i32) _ _ _ 6 [.int .i32 6] from rfl) (Reps.none _ _))); intro v389 w39 ho40 hb hg_ hnew_; clear hg_ hnew_; (first | rw [← Ny388.out] at ho40 | (simp only [Int.reduceToNat] at ho40; rw [← Ny388.out] at ho40)); replace HO384 := Aside0.mk (Kd.N_elder' (by exact HO384.out) (Kd.R_base ho40) hb); have HO390 := Aside0.mk (Kd.R_lower (Kd.R_new' ho40 (Kd.R_lt (by exact HO387.out))) (below_size (by with_reducible exact HB.out))); replace HO387 := Aside0.mk (Kd.R_elder' (by exact HO387.out) (Kd.R_base ho40) hb); replace BK375 := Aside0.mk (blk_below BK375.out hb); replace HB := Aside0.mk (below_step (by with_reducible exact HB.out) hb); clear hb ho40; obtain ⟨Ao41, co41, eo41⟩ := Kd.R_slice HO387.out; subst eo41; obtain ⟨Ao42, co42, eo42⟩ := Kd.R_slice HO390.out; subst eo42) | ((with_reducible refine gate_dst (N := 18) rfl ?_); (try (refine gate_guard (by rfl) ?_; dsimp only)); refine Kd.N_lit (Kd.slice 21 (Kd.int .i32)) _ 43 ?hg (N' := 18) ?hd (xs := ([y385, y388] : List (List Int))) (inner := [.slice Ao41 y385.length co41, .slice Ao42 y388.length co42]) (ok := (fun k_ => some k_ ≠ (v383 : Value).ownBlock ∧ k_ ≠ gb375)) (okp := (fun k_ => some k_ ≠ (v383 : Value).ownBlock ∧ k_ ≠ gb375)) ?hr ?hp (fun _ hk => hk) ((show ∀ k_, w39.heap.size ≤ k_ → (fun k_ => some k_ ≠ (v383 : Value).ownBlock ∧ k_ ≠ gb375) k_ from fun k_ hk => ⟨Kd.fresh' (Kd.N_lt (by exact HO384.out)) k_ hk, Kd.freshB (g := gb375) (o := .cells #[.int .i64 2, .int .i64 4, .int .i64 2, .int .i64 1, .int .i64 1, .int .i64 0, .int .i64 3] 23 (0, 0)) (by exact BK375.out) k_ hk⟩) _ (Nat.le_refl _)) (Below.refl _ _) (Nat.le_refl _) (by simp) ?_; (case hd => rfl); (case hg => rfl); (case hr => first | (go_simp; done) | (go_simp; rfl)); (case hp => exact (Reps.one (show Kd.FK (Kd.slice 21 (Kd.int .i32)) _ _ y385 [.slice Ao41 y385.length co41] from (Kd.FK_slice_mk (Kd.R_reads' (Kd.R_mono (ok' := (fun k_ => some k_ ≠ (v383 : Value).ownBlock ∧ k_ ≠ gb375)) (Kd.R_types (Kd.R_apart' (HO387.out) (Kd.N_typed HO384.out) (by decide)) BK375.out (by decide)) (fun k_ hk => ⟨hk.1.2, hk.2⟩))).2.1 (Kd.R_F (Kd.R_mono (ok' := (fun k_ => some k_ ≠ (v383 : Value).ownBlock ∧ k_ ≠ gb375)) (Kd.R_types (Kd.R_apart' (HO387.out) (Kd.N_typed HO384.out) (by decide)) BK375.out (by decide)) (fun k_ hk => ⟨hk.1.2, hk.2⟩))))) (Reps.one (show Kd.FK (Kd.slice 21 (Kd.int .i32)) _ _ y388 [.slice Ao42 y388.length co42] from (Kd.FK_slice_mk (Kd.R_reads' (Kd.R_mono (ok' := (fun k_ => some k_ ≠ (v383 : Value).ownBlock ∧ k_ ≠ gb375)) (Kd.R_types (Kd.R_apart' (HO390.out) (Kd.N_typed HO384.out) (by decide)) BK375.out (by decide)) (fun k_ hk => ⟨hk.1.2, hk.2⟩))).2.1 (Kd.R_F (Kd.R_mono (ok' := (fun k_ => some k_ ≠ (v383 : Value).ownBlock ∧ k_ ≠ gb375)) (Kd.R_types (Kd.R_apart' (HO390.out) (Kd.N_typed HO384.out) (by decide)) BK375.out (by decide)) (fun k_ hk => ⟨hk.1.2, hk.2⟩))))) (Reps.none _ _)))); intro v392 w43 ho44 hb hg_ hnew_; clear hg_ hnew_; (first | rw [← Ny391.out] at ho44 | (simp only [Int.reduceToNat] at ho44; rw [← Ny391.out] at ho44)); have n0_ := Aside0.mk (Kd.N_elder' (by exact HO384.out) (Kd.N_base ho44) hb); have n1_ := Aside0.mk (Kd.N_lower ho44 (below_size (by with_reducible exact HB.out))); have n2_ := Aside0.mk (blk_below BK375.out hb); have n3_ := Aside0.mk (below_step (by with_reducible exact HB.out) hb); clear HO384; clear BK375; clear HB; clear HO387; clear HO390; have HO384 := n0_; have HO393 := n1_; have BK375 := n2_; have HB := n3_; clear n0_ n1_ n2_ n3_; clear hb ho44; obtain ⟨Ao45, co45, eo45⟩ := Kd.N_slice HO384.out; subst eo45; obtain ⟨Ao46, co46, eo46⟩ := Kd.N_slice HO393.out; subst eo46) | ((with_reducible refine gate_callee (f := 13) rfl ?_); refine goesL_ (some 19) rfl rfl Try.func13 (by kernel_rfl) rfl #[.agg #[.int .i64 2, .int .i64 4, .int .i64 2, .int .i64 1, .int .i64 1, .int .i64 0, .int .i64 3], .slice Ao45 y382.length co45, .slice Ao46 y391.length co46] rfl (by (try simp only [List.map_toArray, List.map_cons, List.map_nil]); first | done | rfl | (simp only [List.length_drop, List.length_take]; rfl)) ?_; (with_reducible refine (page_Quantize.calls k 2 4 2 1 1 0 3 _ _ y382 _ _ y391 t394 t397 _ ?side1 ?side2 ?side3 ?side4 A1.out).mono ?_); (case side1 => with_reducible exact (Kd.N_reads' HO384.out).2.2); (case side2 => exact (Kd.N_reads' HO384.out).2.1); (case side3 => with_reducible exact (Kd.N_reads' HO393.out).2.2); (case side4 => exact (Kd.N_reads' HO393.out).2.1); rintro e w47 ⟨v395, rfl, ho0, hb⟩; refine ⟨_, rfl, ?_⟩; have HO396 := Aside0.mk (Kd.N_lower (Kd.N_mono (ok' := fun k_ => some k_ ≠ (.slice Ao45 y382.length co45 : Value).ownBlock ∧ some k_ ≠ (.slice Ao46 y391.length co46 : Value).ownBlock ∧ k_ ≠ gb375) (Kd.R_N (Kd.R_bound ho0)) (fun k_ hk_ => ⟨(Kd.fresh' (Kd.N_lt (by exact HO384.out)) k_ hk_.2.1), (Kd.fresh' (Kd.N_lt (by exact HO393.out)) k_ hk_.2.1), (Kd.freshB (g := gb375) (o := .cells #[.int .i64 2, .int .i64 4, .int .i64 2, .int .i64 1, .int .i64 1, .int .i64 0, .int .i64 3] 23 (0, 0)) (by exact BK375.out) k_ hk_.2.1)⟩)) (below_size (by with_reducible exact HB.out))); replace HO384 := Aside0.mk (Kd.N_elder' (by exact HO384.out) (Kd.R_base ho0) hb); replace HO393 := Aside0.mk (Kd.N_elder' (by exact HO393.out) (Kd.R_base ho0) hb); replace BK375 := Aside0.mk (blk_below BK375.out hb); replace HB := Aside0.mk (below_step (by with_reducible exact HB.out) hb); clear hb ho0; have hz48 := bx7 BK375.out) | ((with_reducible refine gate_dst (N := 24) rfl ?_); (try (refine gate_guard (by rfl) ?_; dsimp only)); refine Kd.R_lit (Kd.int .i32) _ 21 ?hg (N := 24) ?hd (xs := ([0] : List Int)) (inner := [.int .i32 0]) (ok := fun _ => True) (okp := fun _ => True) ?hr ?hp (fun _ hk => hk) trivial (Below.refl _ _) (Nat.le_refl _) (by simp) ?_; (case hd => rfl); (case hg => rfl); (case hr => first | (go_simp; done) | (go_simp; rfl)); (case hp => exact (Reps.one (show Kd.M (Kd.int .i32) _ _ _ 0 [.int .i32 0] from rfl) (Reps.none _ _))); intro v399 w49 ho50 hb hg_ hnew_; clear hg_ hnew_; (first | rw [← Ny398.out] at ho50 | (simp only [Int.reduceToNat] at ho50; rw [← Ny398.out] at ho50)); replace HO384 := Aside0.mk (Kd.N_elder' (by exact HO384.out) (Kd.R_base ho50) hb); replace HO393 := Aside0.mk (Kd.N_elder' (by exact HO393.out) (Kd.R_base ho50) hb); replace HO396 := Aside0.mk (Kd.N_elder' (by exact HO396.out) (Kd.R_base ho50) hb); have HO400 := Aside0.mk (Kd.R_lower ho50 (below_size (by with_reducible exact HB.out))); replace BK375 := Aside0.mk (blk_below BK375.out hb); replace HB := Aside0.mk (below_step (by with_reducible exact HB.out) hb); clear hb ho50; obtain ⟨Ao51, co51, eo51⟩ := Kd.R_slice HO400.out; subst eo51) | ((with_reducible refine gate_dst (N := 25) rfl ?_); (try (refine gate_guard (by rfl) ?_; dsimp only)); refine Kd.N_lit (Kd.slice 21 (Kd.int .i32)) _ 43 ?hg (N' := 25) ?hd (xs := ([y398] : List (List Int))) (inner := [.slice Ao51 y398.length co51]) (ok := (fun k_ => some k_ ≠ (.slice Ao45 y382.length co45 : Value).ownBlock ∧ some k_ ≠ (.slice Ao46 y391.length co46 : Value).ownBlock ∧ some k_ ≠ (v395 : Value).ownBlock ∧ k_ ≠ gb375)) (okp := (fun k_ => some k_ ≠ (.slice Ao45 y382.length co45 : Value).ownBlock ∧ some k_ ≠ (.slice Ao46 y391.length co46 : Value).ownBlock ∧ some k_ ≠ (v395 : Value).ownBlock ∧ k_ ≠ gb375)) ?hr ?hp (fun _ hk => hk) ((show ∀ k_, w49.heap.size ≤ k_ → (fun k_ => some k_ ≠ (.slice Ao45 y382.length co45 : Value).ownBlock ∧ some k_ ≠ (.slice Ao46 y391.length co46 : Value).ownBlock ∧ some k_ ≠ (v395 : Value).ownBlock ∧ k_ ≠ gb375) k_ from fun k_ hk => ⟨Kd.fresh' (Kd.N_lt (by exact HO384.out)) k_ hk, Kd.fresh' (Kd.N_lt (by exact HO393.out)) k_ hk, Kd.fresh' (Kd.N_lt (by exact HO396.out)) k_ hk, Kd.freshB (g := gb375) (o := .cells #[.int .i64 2, .int .i64 4, .int .i64 2, .int .i64 1, .int .i64 1, .int .i64 0, .int .i64 3] 23 (0, 0)) (by exact BK375.out) k_ hk⟩) _ (Nat.le_refl _)) (Below.refl _ _) (Nat.le_refl _) (by simp) ?_; (case hd => rfl); (case hg => rfl); (case hr => first | (go_simp; done) | (go_simp; rfl)); (case hp => exact (Reps.one (show Kd.FK (Kd.slice 21 (Kd.int .i32)) _ _ y398 [.slice Ao51 y398.length co51] from (Kd.FK_slice_mk (Kd.R_reads' (Kd.R_mono (ok' := (fun k_ => some k_ ≠ (.slice Ao45 y382.length co45 : Value).ownBlock ∧ some k_ ≠ (.slice Ao46 y391.length co46 : Value).ownBlock ∧ some k_ ≠ (v395 : Value).ownBlock ∧ k_ ≠ gb375)) (Kd.R_types (Kd.R_apart' (Kd.R_apart' (Kd.R_apart' (HO400.out) (Kd.N_typed HO384.out) (by decide)) (Kd.N_typed HO393.out) (by decide)) (Kd.N_typed HO396.out) (by decide)) BK375.out (by decide)) (fun k_ hk => ⟨hk.1.1.1.2, ⟨hk.1.1.2, ⟨hk.1.2, hk.2⟩⟩⟩))).2.1 (Kd.R_F (Kd.R_mono (ok' := (fun k_ => some k_ ≠ (.slice Ao45 y382.length co45 : Value).ownBlock ∧ some k_ ≠ (.slice Ao46 y391.length co46 : Value).ownBlock ∧ some k_ ≠ (v395 : Value).ownBlock ∧ k_ ≠ gb375)) (Kd.R_types (Kd.R_apart' (Kd.R_apart' (Kd.R_apart' (HO400.out) (Kd.N_typed HO384.out) (by decide)) (Kd.N_typed HO393.out) (by decide)) (Kd.N_typed HO396.out) (by decide)) BK375.out (by decide)) (fun k_ hk => ⟨hk.1.1.1.2, ⟨hk.1.1.2, ⟨hk.1.2, hk.2⟩⟩⟩))))) (Reps.none _ _))); intro v402 w52 ho53 hb hg_ hnew_; clear hg_ hnew_; (first | rw [← Ny401.out] at ho53 | (simp only [Int.reduceToNat] at ho53; rw [← Ny401.out] at ho53)); have n0_ := Aside0.mk (Kd.N_elder' (by exact HO384.out) (Kd.N_base ho53) hb); have n1_ := Aside0.mk (Kd.N_elder' (by exact HO393.out) (Kd.N_base ho53) hb); have n2_ := Aside0.mk (Kd.N_elder' (by exact HO396.out) (Kd.N_base ho53) hb); have n3_ := Aside0.mk (Kd.N_lower ho53 (below_size (by with_reducible exact HB.out))); have n4_ := Aside0.mk (blk_below BK375.out hb); have n5_ := Aside0.mk (below_step (by with_reducible exact HB.out) hb); clear HO384; clear HO393; clear HO396; clear BK375; clear HB; clear HO400; have HO384 := n0_; have HO393 := n1_; have HO396 := n2_; have HO403 := n3_; have BK375 := n4_; have HB := n5_; clear n0_ n1_ n2_ n3_ n4_ n5_; clear hb ho53) | ((with_reducible refine gate_dst (N := 26) rfl ?_); (try (refine gate_guard (by rfl) ?_; dsimp only)); refine Kd.R_lit (Kd.int .i32) _ 21 ?hg (N := 26) ?hd (xs := ([5] : List Int)) (inner := [.int .i32 5]) (ok := fun _ => True) (okp := fun _ => True) ?hr ?hp (fun _ hk => hk) trivial (Below.refl _ _) (Nat.le_refl _) (by simp) ?_; (case hd => rfl); (case hg => rfl); (case hr => first | (go_simp; done) | (go_simp; rfl)); (case hp => exact (Reps.one (show Kd.M (Kd.int .i32) _ _ _ 5 [.int .i32 5] from rfl) (Reps.none _ _))); intro v405 w54 ho55 hb hg_ hnew_; clear hg_ hnew_; (first | rw [← Ny404.out] at ho55 | (simp only [Int.reduceToNat] at ho55; rw [← Ny404.out] at ho55)); replace HO384 := Aside0.mk (Kd.N_elder' (by exact HO384.out) (Kd.R_base ho55) hb); replace HO393 := Aside0.mk (Kd.N_elder' (by exact HO393.out) (Kd.R_base ho55) hb); replace HO396 := Aside0.mk (Kd.N_elder' (by exact HO396.out) (Kd.R_base ho55) hb); replace HO403 := Aside0.mk (Kd.N_elder' (by exact HO403.out) (Kd.R_base ho55) hb); have HO406 := Aside0.mk (Kd.R_lower ho55 (below_size (by with_reducible exact HB.out))); replace BK375 := Aside0.mk (blk_below BK375.out hb); replace HB := Aside0.mk (below_step (by with_reducible exact HB.out) hb); clear hb ho55) | ((with_reducible refine gate_dst (N := 27) rfl ?_); (try (refine gate_guard (by rfl) ?_; dsimp only)); refine Kd.R_lit (Kd.int .i32) _ 21 ?hg (N := 27) ?hd (xs := ([6] : List Int)) (inner := [.int .i32 6]) (ok := fun _ => True) (okp := fun _ => True) ?hr ?hp (fun _ hk => hk) trivial (Below.refl _ _) (Nat.le_refl _) (by simp) ?_; (case hd => rfl); (case hg => rfl); (case hr => first | (go_simp; done) | (go_simp; rfl)); (case hp => exact (Reps.one (show Kd.M (Kd.int .i32) _ _ _ 6 [.int .i32 6] from rfl) (Reps.none _ _))); intro v408 w56 ho57 hb hg_ hnew_; clear hg_ hnew_; (first | rw [← Ny407.out] at ho57 | (simp only [Int.reduceToNat] at ho57; rw [← Ny407.out] at ho57)); replace HO384 := Aside0.mk (Kd.N_elder' (by exact HO384.out) (Kd.R_base ho57) hb); replace HO393 := Aside0.mk (Kd.N_elder' (by exact HO393.out) (Kd.R_base ho57) hb); replace HO396 := Aside0.mk (Kd.N_elder' (by exact HO396.out) (Kd.R_base ho57) hb); replace HO403 := Aside0.mk (Kd.N_elder' (by exact HO403.out) (Kd.R_base ho57) hb); have HO409 := Aside0.mk (Kd.R_lower (Kd.R_new' ho57 (Kd.R_lt (by exact HO406.out))) (below_size (by with_reducible exact HB.out))); replace HO406 := Aside0.mk (Kd.R_elder' (by exact HO406.out) (Kd.R_base ho57) hb); replace BK375 := Aside0.mk (blk_below BK375.out hb); replace HB := Aside0.mk (below_step (by with_reducible exact HB.out) hb); clear hb ho57; obtain ⟨Ao58, co58, eo58⟩ := Kd.R_slice HO406.out; subst eo58; obtain ⟨Ao59, co59, eo59⟩ := Kd.R_slice HO409.out; subst eo59) | ((with_reducible refine gate_dst (N := 28) rfl ?_); (try (refine gate_guard (by rfl) ?_; dsimp only)); refine Kd.N_lit (Kd.slice 21 (Kd.int .i32)) _ 43 ?hg (N' := 28) ?hd (xs := ([y404, y407] : List (List Int))) (inner := [.slice Ao58 y404.length co58, .slice Ao59 y407.length co59]) (ok := (fun k_ => some k_ ≠ (.slice Ao45 y382.length co45 : Value).ownBlock ∧ some k_ ≠ (.slice Ao46 y391.length co46 : Value).ownBlock ∧ some k_ ≠ (v395 : Value).ownBlock ∧ some k_ ≠ (v402 : Value).ownBlock ∧ k_ ≠ gb375)) (okp := (fun k_ => some k_ ≠ (.slice Ao45 y382.length co45 : Value).ownBlock ∧ some k_ ≠ (.slice Ao46 y391.length co46 : Value).ownBlock ∧ some k_ ≠ (v395 : Value).ownBlock ∧ some k_ ≠ (v402 : Value).ownBlock ∧ k_ ≠ gb375)) ?hr ?hp (fun _ hk => hk) ((show ∀ k_, w56.heap.size ≤ k_ → (fun k_ => some k_ ≠ (.slice Ao45 y382.length co45 : Value).ownBlock ∧ some k_ ≠ (.slice Ao46 y391.length co46 : Value).ownBlock ∧ some k_ ≠ (v395 : Value).ownBlock ∧ some k_ ≠ (v402 : Value).ownBlock ∧ k_ ≠ gb375) k_ from fun k_ hk => ⟨Kd.fresh' (Kd.N_lt (by exact HO384.out)) k_ hk, Kd.fresh' (Kd.N_lt (by exact HO393.out)) k_ hk, Kd.fresh' (Kd.N_lt (by exact HO396.out)) k_ hk, Kd.fresh' (Kd.N_lt (by exact HO403.out)) k_ hk, Kd.freshB (g := gb375) (o := .cells #[.int .i64 2, .int .i64 4, .int .i64 2, .int .i64 1, .int .i64 1, .int .i64 0, .int .i64 3] 23 (0, 0)) (by exact BK375.out) k_ hk⟩) _ (Nat.le_refl _)) (Below.refl _ _) (Nat.le_refl _) (by simp) ?_; (case hd => rfl); (case hg => rfl); (case hr => first | (go_simp; done) | (go_simp; rfl)); (case hp => exact (Reps.one (show Kd.FK (Kd.slice 21 (Kd.int .i32)) _ _ y404 [.slice Ao58 y404.length co58] from (Kd.FK_slice_mk (Kd.R_reads' (Kd.R_mono (ok' := (fun k_ => some k_ ≠ (.slice Ao45 y382.length co45 : Value).ownBlock ∧ some k_ ≠ (.slice Ao46 y391.length co46 : Value).ownBlock ∧ some k_ ≠ (v395 : Value).ownBlock ∧ some k_ ≠ (v402 : Value).ownBlock ∧ k_ ≠ gb375)) (Kd.R_types (Kd.R_apart' (Kd.R_apart' (Kd.R_apart' (Kd.R_apart' (HO406.out) (Kd.N_typed HO384.out) (by decide)) (Kd.N_typed HO393.out) (by decide)) (Kd.N_typed HO396.out) (by decide)) (Kd.N_typed HO403.out) (by decide)) BK375.out (by decide)) (fun k_ hk => ⟨hk.1.1.1.1.2, ⟨hk.1.1.1.2, ⟨hk.1.1.2, ⟨hk.1.2, hk.2⟩⟩⟩⟩))).2.1 (Kd.R_F (Kd.R_mono (ok' := (fun k_ => some k_ ≠ (.slice Ao45 y382.length co45 : Value).ownBlock ∧ some k_ ≠ (.slice Ao46 y391.length co46 : Value).ownBlock ∧ some k_ ≠ (v395 : Value).ownBlock ∧ some k_ ≠ (v402 : Value).ownBlock ∧ k_ ≠ gb375)) (Kd.R_types (Kd.R_apart' (Kd.R_apart' (Kd.R_apart' (Kd.R_apart' (HO406.out) (Kd.N_typed HO384.out) (by decide)) (Kd.N_typed HO393.out) (by decide)) (Kd.N_typed HO396.out) (by decide)) (Kd.N_typed HO403.out) (by decide)) BK375.out (by decide)) (fun k_ hk => ⟨hk.1.1.1.1.2, ⟨hk.1.1.1.2, ⟨hk.1.1.2, ⟨hk.1.2, hk.2⟩⟩⟩⟩))))) (Reps.one (show Kd.FK (Kd.slice 21 (Kd.int .i32)) _ _ y407 [.slice Ao59 y407.length co59] from (Kd.FK_slice_mk (Kd.R_reads' (Kd.R_mono (ok' := (fun k_ => some k_ ≠ (.slice Ao45 y382.length co45 : Value).ownBlock ∧ some k_ ≠ (.slice Ao46 y391.length co46 : Value).ownBlock ∧ some k_ ≠ (v395 : Value).ownBlock ∧ some k_ ≠ (v402 : Value).ownBlock ∧ k_ ≠ gb375)) (Kd.R_types (Kd.R_apart' (Kd.R_apart' (Kd.R_apart' (Kd.R_apart' (HO409.out) (Kd.N_typed HO384.out) (by decide)) (Kd.N_typed HO393.out) (by decide)) (Kd.N_typed HO396.out) (by decide)) (Kd.N_typed HO403.out) (by decide)) BK375.out (by decide)) (fun k_ hk => ⟨hk.1.1.1.1.2, ⟨hk.1.1.1.2, ⟨hk.1.1.2, ⟨hk.1.2, hk.2⟩⟩⟩⟩))).2.1 (Kd.R_F (Kd.R_mono (ok' := (fun k_ => some k_ ≠ (.slice Ao45 y382.length co45 : Value).ownBlock ∧ some k_ ≠ (.slice Ao46 y391.length co46 : Value).ownBlock ∧ some k_ ≠ (v395 : Value).ownBlock ∧ some k_ ≠ (v402 : Value).ownBlock ∧ k_ ≠ gb375)) (Kd.R_types (Kd.R_apart' (Kd.R_apart' (Kd.R_apart' (Kd.R_apart' (HO409.out) (Kd.N_typed HO384.out) (by decide)) (Kd.N_typed HO393.out) (by decide)) (Kd.N_typed HO396.out) (by decide)) (Kd.N_typed HO403.out) (by decide)) BK375.out (by decide)) (fun k_ hk => ⟨hk.1.1.1.1.2, ⟨hk.1.1.1.2, ⟨hk.1.1.2, ⟨hk.1.2, hk.2⟩⟩⟩⟩))))) (Reps.none _ _)))); intro v411 w60 ho61 hb hg_ hnew_; clear hg_ hnew_; (first | rw [← Ny410.out] at ho61 | (simp only [Int.reduceToNat] at ho61; rw [← Ny410.out] at ho61)); have n0_ := Aside0.mk (Kd.N_elder' (by exact HO384.out) (Kd.N_base ho61) hb); have n1_ := Aside0.mk (Kd.N_elder' (by exact HO393.out) (Kd.N_base ho61) hb); have n2_ := Aside0.mk (Kd.N_elder' (by exact HO396.out) (Kd.N_base ho61) hb); have n3_ := Aside0.mk (Kd.N_elder' (by exact HO403.out) (Kd.N_base ho61) hb); have n4_ := Aside0.mk (Kd.N_lower ho61 (below_size (by with_reducible exact HB.out))); have n5_ := Aside0.mk (blk_below BK375.out hb); have n6_ := Aside0.mk (below_step (by with_reducible exact HB.out) hb); clear HO384; clear HO393; clear HO396; clear HO403; clear BK375; clear HB; clear HO406; clear HO409; have HO384 := n0_; have HO393 := n1_; have HO396 := n2_; have HO403 := n3_; have HO412 := n4_; have BK375 := n5_; have HB := n6_; clear n0_ n1_ n2_ n3_ n4_ n5_ n6_; clear hb ho61; obtain ⟨Ao62, co62, eo62⟩ := Kd.N_slice HO403.out; subst eo62; obtain ⟨Ao63, co63, eo63⟩ := Kd.N_slice HO412.out; subst eo63) | ((with_reducible refine gate_callee (f := 13) rfl ?_); refine goesL_ (some 29) rfl rfl Try.func13 (by kernel_rfl) rfl #[.agg #[.int .i64 2, .int .i64 4, .int .i64 2, .int .i64 1, .int .i64 1, .int .i64 0, .int .i64 3], .slice Ao62 y401.length co62, .slice Ao63 y410.length co63] rfl (by (try simp only [List.map_toArray, List.map_cons, List.map_nil]); first | done | rfl | (simp only [List.length_drop, List.length_take]; rfl)) ?_; (with_reducible refine (page_Quantize.calls k 2 4 2 1 1 0 3 _ _ y401 _ _ y410 t413 t416 _ ?side1 ?side2 ?side3 ?side4 A2.out).mono ?_); (case side1 => with_reducible exact (Kd.N_reads' HO403.out).2.2); (case side2 => exact (Kd.N_reads' HO403.out).2.1); (case side3 => with_reducible exact (Kd.N_reads' HO412.out).2.2); (case side4 => exact (Kd.N_reads' HO412.out).2.1); rintro e w64 ⟨v414, rfl, ho0, hb⟩; refine ⟨_, rfl, ?_⟩; have HO415 := Aside0.mk (Kd.N_lower (Kd.N_mono (ok' := fun k_ => some k_ ≠ (.slice Ao45 y382.length co45 : Value).ownBlock ∧ some k_ ≠ (.slice Ao46 y391.length co46 : Value).ownBlock ∧ some k_ ≠ (v395 : Value).ownBlock ∧ some k_ ≠ (.slice Ao62 y401.length co62 : Value).ownBlock ∧ some k_ ≠ (.slice Ao63 y410.length co63 : Value).ownBlock ∧ k_ ≠ gb375) (Kd.R_N (Kd.R_bound ho0)) (fun k_ hk_ => ⟨(Kd.fresh' (Kd.N_lt (by exact HO384.out)) k_ hk_.2.1), (Kd.fresh' (Kd.N_lt (by exact HO393.out)) k_ hk_.2.1), (Kd.fresh' (Kd.N_lt (by exact HO396.out)) k_ hk_.2.1), (Kd.fresh' (Kd.N_lt (by exact HO403.out)) k_ hk_.2.1), (Kd.fresh' (Kd.N_lt (by exact HO412.out)) k_ hk_.2.1), (Kd.freshB (g := gb375) (o := .cells #[.int .i64 2, .int .i64 4, .int .i64 2, .int .i64 1, .int .i64 1, .int .i64 0, .int .i64 3] 23 (0, 0)) (by exact BK375.out) k_ hk_.2.1)⟩)) (below_size (by with_reducible exact HB.out))); replace HO384 := Aside0.mk (Kd.N_elder' (by exact HO384.out) (Kd.R_base ho0) hb); replace HO393 := Aside0.mk (Kd.N_elder' (by exact HO393.out) (Kd.R_base ho0) hb); replace HO396 := Aside0.mk (Kd.N_elder' (by exact HO396.out) (Kd.R_base ho0) hb); replace HO403 := Aside0.mk (Kd.N_elder' (by exact HO403.out) (Kd.R_base ho0) hb); replace HO412 := Aside0.mk (Kd.N_elder' (by exact HO412.out) (Kd.R_base ho0) hb); replace BK375 := Aside0.mk (blk_below BK375.out hb); replace HB := Aside0.mk (below_step (by with_reducible exact HB.out) hb); clear hb ho0) | ((with_reducible refine gate_dst (N := 33) rfl ?_); (try (refine gate_guard (by rfl) ?_; dsimp only)); refine Kd.R_lit (Kd.int .u8) _ 5 ?hg (N := 33) ?hd (xs := ([75] : List Int)) (inner := [.int .u8 75]) (ok := fun _ => True) (okp := fun _ => True) ?hr ?hp (fun _ hk => hk) trivial (Below.refl _ _) (Nat.le_refl _) (by simp) ?_; (case hd => rfl); (case hg => rfl); (case hr => first | (go_simp; done) | (go_simp; rfl)); (case hp => exact (Reps.one (show Kd.M (Kd.int .u8) _ _ _ 75 [.int .u8 75] from rfl) (Reps.none _ _))); intro v418 w65 ho66 hb hg_ hnew_; clear hg_ hnew_; (first | rw [← Ny417.out] at ho66 | (simp only [Int.reduceToNat] at ho66; rw [← Ny417.out] at ho66)); replace HO384 := Aside0.mk (Kd.N_elder' (by exact HO384.out) (Kd.R_base ho66) hb); replace HO393 := Aside0.mk (Kd.N_elder' (by exact HO393.out) (Kd.R_base ho66) hb); replace HO396 := Aside0.mk (Kd.N_elder' (by exact HO396.out) (Kd.R_base ho66) hb); replace HO403 := Aside0.mk (Kd.N_elder' (by exact HO403.out) (Kd.R_base ho66) hb); replace HO412 := Aside0.mk (Kd.N_elder' (by exact HO412.out) (Kd.R_base ho66) hb); replace HO415 := Aside0.mk (Kd.N_elder' (by exact HO415.out) (Kd.R_base ho66) hb); have HO419 := Aside0.mk (Kd.R_lower ho66 (below_size (by with_reducible exact HB.out))); replace BK375 := Aside0.mk (blk_below BK375.out hb); replace HB := Aside0.mk (below_step (by with_reducible exact HB.out) hb); clear hb ho66; obtain ⟨Ao67, co67, eo67⟩ := Kd.R_slice HO419.out; subst eo67; obtain ⟨w69, hcv68, hr68, hg, hbm, hcc68⟩ := run_mark (P := Try.prog) Try.underlying36 Try.underlying5 HO419.out (by first | (rw [Ny417.out]; decide) | decide); have n0_ := Aside0.mk (blk_grown (g := gb375) (o := .cells #[.int .i64 2, .int .i64 4, .int .i64 2, .int .i64 1, .int .i64 1, .int .i64 0, .int .i64 3] 23 (0, 0)) (by exact BK375.out) hg (Kd.R_ne HO419.out BK375.out (by decide))); have n1_ := Aside0.mk (Kd.N_mono (Kd.N_afterv (ok := (fun k_ => some k_ ≠ (.slice Ao46 y391.length co46 : Value).ownBlock ∧ some k_ ≠ (v395 : Value).ownBlock ∧ some k_ ≠ (.slice Ao62 y401.length co62 : Value).ownBlock ∧ some k_ ≠ (.slice Ao63 y410.length co63 : Value).ownBlock ∧ some k_ ≠ (v414 : Value).ownBlock ∧ k_ ≠ gb375)) (by exact Kd.N_mono HO384.out (fun _ hk => ⟨⟨hk.1.1.1.1.1.1.1.1.2, ⟨hk.1.1.1.1.1.1.1.2, ⟨hk.1.1.1.1.1.2, ⟨hk.1.1.2, ⟨hk.1.2, hk.1.1.1.1.1.1.1.1.1.1.1⟩⟩⟩⟩⟩, hk.2⟩)) hg (.inl rfl)) (fun _ h_ => h_.1)); have n2_ := Aside0.mk (Kd.N_mono (Kd.N_afterv (ok := (fun k_ => some k_ ≠ (.slice Ao45 y382.length co45 : Value).ownBlock ∧ some k_ ≠ (v395 : Value).ownBlock ∧ some k_ ≠ (.slice Ao62 y401.length co62 : Value).ownBlock ∧ some k_ ≠ (.slice Ao63 y410.length co63 : Value).ownBlock ∧ some k_ ≠ (v414 : Value).ownBlock ∧ k_ ≠ gb375)) (by exact Kd.N_mono HO393.out (fun _ hk => ⟨⟨hk.1.1.1.1.1.1.1.1.1, ⟨hk.1.1.1.1.1.1.1.2, ⟨hk.1.1.1.1.1.2, ⟨hk.1.1.2, ⟨hk.1.2, hk.1.1.1.1.1.1.1.1.2⟩⟩⟩⟩⟩, hk.2⟩)) hg (.inl rfl)) (fun _ h_ => h_.1)); have n3_ := Aside0.mk (Kd.N_mono (Kd.N_afterv (ok := (fun k_ => some k_ ≠ (.slice Ao45 y382.length co45 : Value).ownBlock ∧ some k_ ≠ (.slice Ao46 y391.length co46 : Value).ownBlock ∧ some k_ ≠ (.slice Ao62 y401.length co62 : Value).ownBlock ∧ some k_ ≠ (.slice Ao63 y410.length co63 : Value).ownBlock ∧ some k_ ≠ (v414 : Value).ownBlock ∧ k_ ≠ gb375)) (by exact Kd.N_mono HO396.out (fun _ hk => ⟨⟨hk.1.1.1.1.1.1.1.1, ⟨hk.1.1.1.1.1.1.1.2.1, ⟨hk.1.1.1.1.1.2, ⟨hk.1.1.2, ⟨hk.1.2, hk.1.1.1.1.1.1.1.2.2⟩⟩⟩⟩⟩, hk.2⟩)) hg (.inl rfl)) (fun _ h_ => h_.1)); have n4_ := Aside0.mk (Kd.N_mono (Kd.N_afterv (ok := (fun k_ => some k_ ≠ (.slice Ao45 y382.length co45 : Value).ownBlock ∧ some k_ ≠ (.slice Ao46 y391.length co46 : Value).ownBlock ∧ some k_ ≠ (v395 : Value).ownBlock ∧ some k_ ≠ (.slice Ao63 y410.length co63 : Value).ownBlock ∧ some k_ ≠ (v414 : Value).ownBlock ∧ k_ ≠ gb375)) (by exact Kd.N_mono HO403.out (fun _ hk => ⟨⟨hk.1.1.1.1.1.1, ⟨hk.1.1.1.1.1.2.1, ⟨hk.1.1.1.1.1.2.2.1, ⟨hk.1.1.2, ⟨hk.1.2, hk.1.1.1.1.1.2.2.2⟩⟩⟩⟩⟩, hk.2⟩)) hg (.inl rfl)) (fun _ h_ => h_.1)); have n5_ := Aside0.mk (Kd.N_mono (Kd.N_afterv (ok := (fun k_ => some k_ ≠ (.slice Ao45 y382.length co45 : Value).ownBlock ∧ some k_ ≠ (.slice Ao46 y391.length co46 : Value).ownBlock ∧ some k_ ≠ (v395 : Value).ownBlock ∧ some k_ ≠ (.slice Ao62 y401.length co62 : Value).ownBlock ∧ some k_ ≠ (v414 : Value).ownBlock ∧ k_ ≠ gb375)) (by exact Kd.N_mono HO412.out (fun _ hk => ⟨⟨hk.1.1.1, ⟨hk.1.1.2.1, ⟨hk.1.1.2.2.1, ⟨hk.1.1.2.2.2.1, ⟨hk.1.2, hk.1.1.2.2.2.2⟩⟩⟩⟩⟩, hk.2⟩)) hg (.inl rfl)) (fun _ h_ => h_.1)); have n6_ := Aside0.mk (Kd.N_mono (Kd.N_afterv (ok := (fun k_ => some k_ ≠ (.slice Ao45 y382.length co45 : Value).ownBlock ∧ some k_ ≠ (.slice Ao46 y391.length co46 : Value).ownBlock ∧ some k_ ≠ (v395 : Value).ownBlock ∧ some k_ ≠ (.slice Ao62 y401.length co62 : Value).ownBlock ∧ some k_ ≠ (.slice Ao63 y410.length co63 : Value).ownBlock ∧ k_ ≠ gb375)) (by exact HO415.out) hg (.inl rfl)) (fun _ h_ => h_.1)); have n7_ := Aside0.mk (hbm _ (by with_reducible exact HB.out)); clear BK375; clear HO384; clear HO393; clear HO396; clear HO403; clear HO412; clear HO415; clear HB; clear HO419; have BK375 := n0_; have HO384 := n1_; have HO393 := n2_; have HO396 := n3_; have HO403 := n4_; have HO412 := n5_; have HO415 := n6_; have HB := n7_; clear n0_ n1_ n2_ n3_ n4_ n5_ n6_ n7_; have HR420 := Aside0.mk hr68; have HC420 := Aside0.mk hcc68; clear hr68 hcc68 hg hbm) | ((with_reducible refine gate_callee (f := 15) rfl ?_); refine goesL_ (some 35) rfl rfl Try.func15 (by kernel_rfl) rfl #[.slice Ao67 y417.length co67] rfl (by (try simp only [List.map_toArray, List.map_cons, List.map_nil]); first | done | rfl | (simp only [List.length_drop, List.length_take]; rfl)) ?_; (with_reducible refine (page_Parse.calls k _ _ y417 t421 t422 _ ?side1 ?side2 A3.out).mono ?_); (case side1 => with_reducible exact (by repeat (first | (with_reducible exact HR420.out) | (with_reducible refine Kd.C_alloc ?_ _) | (with_reducible refine Kd.C_drewN ?_ _) | (with_reducible refine Kd.C_drew ?_) | exact HR420.out))); (case side2 => exact HC420.out); rintro e w70 ⟨v423, rfl, ho0, hb⟩; refine ⟨_, rfl, ?_⟩; have HO424 := Aside0.mk (Kd.N_lower (Kd.N_mono (ok' := fun k_ => some k_ ≠ (.slice Ao45 y382.length co45 : Value).ownBlock ∧ some k_ ≠ (.slice Ao46 y391.length co46 : Value).ownBlock ∧ some k_ ≠ (v395 : Value).ownBlock ∧ some k_ ≠ (.slice Ao62 y401.length co62 : Value).ownBlock ∧ some k_ ≠ (.slice Ao63 y410.length co63 : Value).ownBlock ∧ some k_ ≠ (v414 : Value).ownBlock ∧ k_ ≠ gb375) (Kd.R_N (Kd.R_bound ho0)) (fun k_ hk_ => ⟨(Kd.fresh' (Kd.N_lt (by exact HO384.out)) k_ hk_.2.1), (Kd.fresh' (Kd.N_lt (by exact HO393.out)) k_ hk_.2.1), (Kd.fresh' (Kd.N_lt (by exact HO396.out)) k_ hk_.2.1), (Kd.fresh' (Kd.N_lt (by exact HO403.out)) k_ hk_.2.1), (Kd.fresh' (Kd.N_lt (by exact HO412.out)) k_ hk_.2.1), (Kd.fresh' (Kd.N_lt (by exact HO415.out)) k_ hk_.2.1), (Kd.freshB (g := gb375) (o := .cells #[.int .i64 2, .int .i64 4, .int .i64 2, .int .i64 1, .int .i64 1, .int .i64 0, .int .i64 3] 23 (0, 0)) (by exact BK375.out) k_ hk_.2.1)⟩)) (below_size (by with_reducible exact HB.out))); replace HO384 := Aside0.mk (Kd.N_elder' (by exact HO384.out) (Kd.R_base ho0) hb); replace HO393 := Aside0.mk (Kd.N_elder' (by exact HO393.out) (Kd.R_base ho0) hb); replace HO396 := Aside0.mk (Kd.N_elder' (by exact HO396.out) (Kd.R_base ho0) hb); replace HO403 := Aside0.mk (Kd.N_elder' (by exact HO403.out) (Kd.R_base ho0) hb); replace HO412 := Aside0.mk (Kd.N_elder' (by exact HO412.out) (Kd.R_base ho0) hb); replace HO415 := Aside0.mk (Kd.N_elder' (by exact HO415.out) (Kd.R_base ho0) hb); replace BK375 := Aside0.mk (blk_below BK375.out hb); replace HR420 := Aside0.mk (Kd.C_below (by repeat (first | (with_reducible exact HR420.out) | (with_reducible refine Kd.C_alloc ?_ _) | (with_reducible refine Kd.C_drewN ?_ _) | (with_reducible refine Kd.C_drew ?_) | exact HR420.out)) hb); replace HB := Aside0.mk (below_step (by with_reducible exact HB.out) hb); clear hb ho0))
 replace HO384 := Aside0.mk (Kd.N_drew HO384.out)
 replace HO393 := Aside0.mk (Kd.N_drew HO393.out)
 replace HO396 := Aside0.mk (Kd.N_drew HO396.out)
 replace HO403 := Aside0.mk (Kd.N_drew HO403.out)
 replace HO412 := Aside0.mk (Kd.N_drew HO412.out)
 replace HO415 := Aside0.mk (Kd.N_drew HO415.out)
 replace HO424 := Aside0.mk (Kd.N_drew HO424.out)
 replace BK375 := Aside0.mk (blk_drew BK375.out)
 replace HR420 := Aside0.mk (Kd.C_drew HR420.out)
 replace HB := Aside0.mk (below_drew1 HB.out)
 obtain ⟨Ao72, co72, eo72⟩ := Kd.N_slice HO396.out
 (first | subst eo72 | (injection eo72 with f1_ f2_ f3_; have f4_ := f1_.symm; have f5_ := f3_.symm; clear f1_ f2_ f3_; subst f4_; subst f5_))
 have np73 : isNilP (.slice Ao72 t394.length co72) = ((t394.length : Int) == 0) := isNilP_C (Kd.N_reads' HO396.out).2.2
 have np73n : notNilP (.slice Ao72 t394.length co72) = ((t394.length : Int) != 0) := notNilP_C (Kd.N_reads' HO396.out).2.2
 refine start_ (n := 25) (S := fun w' => w'.cell? ⟨gb375, 0, none⟩ = some (.int .i64 2) ∧ w'.cell? ⟨gb375, 1, none⟩ = some (.int .i64 4) ∧ w'.cell? ⟨gb375, 2, none⟩ = some (.int .i64 2) ∧ w'.cell? ⟨gb375, 3, none⟩ = some (.int .i64 1) ∧ w'.cell? ⟨gb375, 4, none⟩ = some (.int .i64 1) ∧ w'.cell? ⟨gb375, 5, none⟩ = some (.int .i64 0) ∧ w'.cell? ⟨gb375, 6, none⟩ = some (.int .i64 3)) (ds := []) #[false, false, false, false, false, false, false, false, false, false, false, false, false, false, false, false, false, false, false, false, false, false, false, false, false] (by kernel_rfl) rfl rfl ⟨(blk_cell BK375.out 0).trans rfl, (blk_cell BK375.out 1).trans rfl, (blk_cell BK375.out 2).trans rfl, (blk_cell BK375.out 3).trans rfl, (blk_cell BK375.out 4).trans rfl, (blk_cell BK375.out 5).trans rfl, (blk_cell BK375.out 6).trans rfl⟩ (fun hHeld => ?_); refine with_tabW credenzalaw08_awake.tab5 credenzalaw08_awake.bits5 (fun HT_ HW_ => ?_)
 generalize w70.drew = w71 at HO384 HO393 HO396 HO403 HO412 HO415 HO424 BK375 HR420 HB hHeld ⊢
 refine pure_ (i := 0) (N := some 38) (v := ?_) (a' := ?_) #[true, false, false, false, false, false, false, false, false, false, false, false, false, false, false, false, false, false, false, false, false, false, false, false, false] rfl rfl (any_of HT_.out (by kernel_rfl)) (fun _ _ _ h => h) (Or.inl ⟨by rfl, ?_⟩) ?_ ?_
 rotate_left
 ·
  intro w'
  go_simp
  with_reducible rfl
 rotate_left
 ·
  simp only [Act.put, List.setIfInBounds_toArray, List.set_cons_zero, List.set_cons_succ, i64_w, i32_w, IntKind.wrap_u32]
  rfl
 refine pure_ (i := 1) (N := some 39) (v := ?_) (a' := ?_) #[true, true, false, false, false, false, false, false, false, false, false, false, false, false, false, false, false, false, false, false, false, false, false, false, false] rfl rfl (any_of HT_.out (by kernel_rfl)) (fun _ _ _ h => h) (Or.inl ⟨by rfl, ?_⟩) ?_ ?_
 rotate_left
 ·
  intro w'
  go_simp
  with_reducible rfl
 rotate_left
 ·
  simp only [Act.put, List.setIfInBounds_toArray, List.set_cons_zero, List.set_cons_succ, i64_w, i32_w, IntKind.wrap_u32]
  rfl
 refine pure_ (i := 2) (N := some 40) (v := ?_) (a' := ?_) #[true, true, true, false, false, false, false, false, false, false, false, false, false, false, false, false, false, false, false, false, false, false, false, false, false] rfl rfl (any_of HT_.out (by kernel_rfl)) (fun _ _ _ h => h) (Or.inl ⟨by rfl, ?_⟩) ?_ ?_
 rotate_left
 ·
  intro w'
  go_simp
  with_reducible rfl
 rotate_left
 ·
  simp only [Act.put, List.setIfInBounds_toArray, List.set_cons_zero, List.set_cons_succ, i64_w, i32_w, IntKind.wrap_u32]
  rfl
 refine pure_ (i := 3) (N := some 41) (v := ?_) (a' := ?_) #[true, true, true, true, false, false, false, false, false, false, false, false, false, false, false, false, false, false, false, false, false, false, false, false, false] rfl rfl (any_of HT_.out (by kernel_rfl)) (fun _ _ _ h => h) (Or.inl ⟨by rfl, ?_⟩) ?_ ?_
 rotate_left
 ·
  intro w'
  go_simp
  with_reducible rfl
 rotate_left
 ·
  simp only [Act.put, List.setIfInBounds_toArray, List.set_cons_zero, List.set_cons_succ, i64_w, i32_w, IntKind.wrap_u32]
  rfl
 refine pure_ (i := 4) (N := some 42) (v := ?_) (a' := ?_) #[true, true, true, true, true, false, false, false, false, false, false, false, false, false, false, false, false, false, false, false, false, false, false, false, false] rfl rfl (any_of HT_.out (by kernel_rfl)) (fun _ _ _ h => h) (Or.inl ⟨by rfl, ?_⟩) ?_ ?_
 rotate_left
 ·
  intro w'
  go_simp
  with_reducible rfl
 rotate_left
 ·
  simp only [Act.put, List.setIfInBounds_toArray, List.set_cons_zero, List.set_cons_succ, i64_w, i32_w, IntKind.wrap_u32]
  rfl
 refine pure_ (i := 5) (N := some 43) (v := ?_) (a' := ?_) #[true, true, true, true, true, true, false, false, false, false, false, false, false, false, false, false, false, false, false, false, false, false, false, false, false] rfl rfl (any_of HT_.out (by kernel_rfl)) (fun _ _ _ h => h) (Or.inl ⟨by rfl, ?_⟩) ?_ ?_
 rotate_left
 ·
  intro w'
  go_simp
  with_reducible rfl
 rotate_left
 ·
  simp only [Act.put, List.setIfInBounds_toArray, List.set_cons_zero, List.set_cons_succ, i64_w, i32_w, IntKind.wrap_u32]
  rfl
 refine pure_ (i := 6) (N := some 44) (v := ?_) (a' := ?_) #[true, true, true, true, true, true, true, false, false, false, false, false, false, false, false, false, false, false, false, false, false, false, false, false, false] rfl rfl (any_of HT_.out (by kernel_rfl)) (fun _ _ _ h => h) (Or.inl ⟨by rfl, ?_⟩) ?_ ?_
 rotate_left
 ·
  intro w'
  go_simp
  with_reducible rfl
 rotate_left
 ·
  simp only [Act.put, List.setIfInBounds_toArray, List.set_cons_zero, List.set_cons_succ, i64_w, i32_w, IntKind.wrap_u32]
  rfl
 refine pure_ (i := 7) (N := some 45) (v := ?_) (a' := ?_) #[true, true, true, true, true, true, true, true, false, false, false, false, false, false, false, false, false, false, false, false, false, false, false, false, false] rfl rfl (any_of HT_.out (by kernel_rfl)) (fun _ _ _ h => h) (Or.inl ⟨by rfl, ?_⟩) ?_ ?_
 rotate_left
 ·
  intro w'
  go_simp
  with_reducible rfl
 rotate_left
 ·
  simp only [Act.put, List.setIfInBounds_toArray, List.set_cons_zero, List.set_cons_succ, i64_w, i32_w, IntKind.wrap_u32]
  rfl
 refine pure_ (i := 8) (N := some 46) (v := ?_) (a' := ?_) #[true, true, true, true, true, true, true, true, true, false, false, false, false, false, false, false, false, false, false, false, false, false, false, false, false] rfl rfl (any_of HT_.out (by kernel_rfl)) (fun _ _ _ h => h) (Or.inl ⟨by rfl, ?_⟩) ?_ ?_
 rotate_left
 ·
  intro w'
  go_simp
  with_reducible rfl
 rotate_left
 ·
  simp only [Act.put, List.setIfInBounds_toArray, List.set_cons_zero, List.set_cons_succ, i64_w, i32_w, IntKind.wrap_u32]
  rfl
 refine pure_ (i := 9) (N := some 47) (v := ?_) (a' := ?_) #[true, true, true, true, true, true, true, true, true, true, false, false, false, false, false, false, false, false, false, false, false, false, false, false, false] rfl rfl (any_of HT_.out (by kernel_rfl)) (fun _ _ _ h => h) (Or.inl ⟨by rfl, ?_⟩) ?_ ?_
 rotate_left
 ·
  intro w'
  go_simp
  with_reducible rfl
 rotate_left
 ·
  simp only [Act.put, List.setIfInBounds_toArray, List.set_cons_zero, List.set_cons_succ, i64_w, i32_w, IntKind.wrap_u32]
  rfl
 refine pure_ (i := 10) (N := some 48) (v := ?_) (a' := ?_) #[true, true, true, true, true, true, true, true, true, true, true, false, false, false, false, false, false, false, false, false, false, false, false, false, false] rfl rfl (any_of HT_.out (by kernel_rfl)) (fun _ _ _ h => h) (Or.inl ⟨by rfl, ?_⟩) ?_ ?_
 rotate_left
 ·
  intro w'
  go_simp
  with_reducible rfl
 rotate_left
 ·
  simp only [Act.put, List.setIfInBounds_toArray, List.set_cons_zero, List.set_cons_succ, i64_w, i32_w, IntKind.wrap_u32]
  rfl
 refine pure_ (i := 11) (N := some 49) (v := ?_) (a' := ?_) #[true, true, true, true, true, true, true, true, true, true, true, true, false, false, false, false, false, false, false, false, false, false, false, false, false] rfl rfl (any_of HT_.out (by kernel_rfl)) (fun _ _ _ h => h) (Or.inl ⟨by rfl, ?_⟩) ?_ ?_
 rotate_left
 ·
  intro w'
  go_simp
  with_reducible rfl
 rotate_left
 ·
  simp only [Act.put, List.setIfInBounds_toArray, List.set_cons_zero, List.set_cons_succ, i64_w, i32_w, IntKind.wrap_u32]
  rfl
 refine pure_ (i := 12) (N := some 50) (v := ?_) (a' := ?_) #[true, true, true, true, true, true, true, true, true, true, true, true, true, false, false, false, false, false, false, false, false, false, false, false, false] rfl rfl (any_of HT_.out (by kernel_rfl)) (fun _ _ _ h => h) (Or.inl ⟨by rfl, ?_⟩) ?_ ?_
 rotate_left
 ·
  intro w'
  go_simp
  with_reducible rfl
 rotate_left
 ·
  simp only [Act.put, List.setIfInBounds_toArray, List.set_cons_zero, List.set_cons_succ, i64_w, i32_w, IntKind.wrap_u32]
  rfl
 refine pure_ (i := 13) (N := some 51) (v := ?_) (a' := ?_) #[true, true, true, true, true, true, true, true, true, true, true, true, true, true, false, false, false, false, false, false, false, false, false, false, false] rfl rfl (any_of HT_.out (by kernel_rfl)) (fun _ _ _ h => h) (Or.inl ⟨by rfl, ?_⟩) ?_ ?_
 rotate_left
 ·
  intro w'
  go_simp
  with_reducible rfl
 rotate_left
 ·
  simp only [Act.put, List.setIfInBounds_toArray, List.set_cons_zero, List.set_cons_succ, i64_w, i32_w, IntKind.wrap_u32]
  rfl
 refine pure_ (i := 14) (N := some 52) (v := ?_) (a' := ?_) #[true, true, true, true, true, true, true, true, true, true, true, true, true, true, true, false, false, false, false, false, false, false, false, false, false] rfl rfl (any_of HT_.out (by kernel_rfl)) (fun _ _ _ h => h) (Or.inl ⟨by rfl, ?_⟩) ?_ ?_
 rotate_left
 ·
  intro w'
  go_simp
  with_reducible rfl
 rotate_left
 ·
  simp only [Act.put, List.setIfInBounds_toArray, List.set_cons_zero, List.set_cons_succ, i64_w, i32_w, IntKind.wrap_u32]
  rfl
 refine pure_ (i := 15) (N := some 53) (v := ?_) (a' := ?_) #[true, true, true, true, true, true, true, true, true, true, true, true, true, true, true, true, false, false, false, false, false, false, false, false, false] rfl rfl (any_of HT_.out (by kernel_rfl)) (fun _ _ _ h => h) (Or.inl ⟨by rfl, ?_⟩) ?_ ?_
 rotate_left
 ·
  intro w'
  go_simp
  with_reducible rfl
 rotate_left
 ·
  simp only [Act.put, List.setIfInBounds_toArray, List.set_cons_zero, List.set_cons_succ, i64_w, i32_w, IntKind.wrap_u32]
  rfl
 refine take_ (i := 17) (N := some 55) (v := ?_) (a' := ?_) #[true, true, true, true, true, true, true, true, true, true, true, true, true, true, true, true, false, true, false, false, false, false, false, false, false] rfl rfl (take_ofW HT_.out HW_.out (by kernel_rfl)) (fun _ _ _ h => h) (Or.inl ⟨by rfl, ?_⟩) hHeld ?_ ?_
 rotate_left
 ·
  rintro w' ⟨s0, s1, s2, s3, s4, s5, s6⟩
  go_simp
  with_reducible rfl
 rotate_left
 ·
  simp only [Act.put, List.setIfInBounds_toArray, List.set_cons_zero, List.set_cons_succ, i64_w, i32_w, IntKind.wrap_u32]
  rfl
 refine one_ (i := 16) (N := some 54) #[true, true, true, true, true, true, true, true, true, true, true, true, true, true, true, true, true, true, false, false, false, false, false, false, false] rfl rfl (one_of HT_.out (by kernel_rfl)) (by decide) (fun K hK => ?_)
 refine goes_ Try.func32 (by kernel_rfl) rfl #[asPtr (.slice Ao72 t394.length co72)] (by rfl) rfl rfl (by (try simp only [List.map_toArray, List.map_cons, List.map_nil]); first | done | rfl | (simp only [List.length_drop, List.length_take]; rfl)) ?_
 with_reducible refine (page_Page_Head.calls _ _ t394 t425 t426 t427 t428 t429 t430 t431 _ ?side1 ?side2 A8.out).mono ?_
 (case side1 => with_reducible exact (Kd.N_reads' HO396.out).2.2)
 (case side2 => exact (Kd.N_reads' HO396.out).2.1)
 rintro e w74 ⟨rfl, hb⟩
 refine ⟨_, rfl, ?_⟩
 replace HO384 := Aside0.mk (Kd.N_below (by (with_reducible repeat (first | apply Kd.N_alloc | apply Kd.N_drewN | apply Kd.N_drew)); exact HO384.out) hb)
 replace HO393 := Aside0.mk (Kd.N_below (by (with_reducible repeat (first | apply Kd.N_alloc | apply Kd.N_drewN | apply Kd.N_drew)); exact HO393.out) hb)
 replace HO396 := Aside0.mk (Kd.N_below (by (with_reducible repeat (first | apply Kd.N_alloc | apply Kd.N_drewN | apply Kd.N_drew)); exact HO396.out) hb)
 replace HO403 := Aside0.mk (Kd.N_below (by (with_reducible repeat (first | apply Kd.N_alloc | apply Kd.N_drewN | apply Kd.N_drew)); exact HO403.out) hb)
 replace HO412 := Aside0.mk (Kd.N_below (by (with_reducible repeat (first | apply Kd.N_alloc | apply Kd.N_drewN | apply Kd.N_drew)); exact HO412.out) hb)
 replace HO415 := Aside0.mk (Kd.N_below (by (with_reducible repeat (first | apply Kd.N_alloc | apply Kd.N_drewN | apply Kd.N_drew)); exact HO415.out) hb)
 replace HO424 := Aside0.mk (Kd.N_below (by (with_reducible repeat (first | apply Kd.N_alloc | apply Kd.N_drewN | apply Kd.N_drew)); exact HO424.out) hb)
 replace BK375 := Aside0.mk (blk_below (g := gb375) (o := .cells #[.int .i64 2, .int .i64 4, .int .i64 2, .int .i64 1, .int .i64 1, .int .i64 0, .int .i64 3] 23 (0, 0)) (by (with_reducible repeat (first | refine blk_drewN ?_ _ | refine blk_drew ?_ | refine blk_alloc ?_ _)); exact BK375.out) hb)
 replace HR420 := Aside0.mk (Kd.C_below (by repeat (first | (with_reducible exact HR420.out) | (with_reducible refine Kd.C_alloc ?_ _) | (with_reducible refine Kd.C_drewN ?_ _) | (with_reducible refine Kd.C_drew ?_) | exact HR420.out)) hb)
 replace HB := Aside0.mk (below_step (by repeat (first | (with_reducible first | exact HB.out | apply below_alloc | apply pw_below_drewN | apply below_drew1 | refine below_set ?_ GE375.out) | exact HB.out)) hb)
 (try clear hb)
 (try clear hb2)
 (try clear hk)
 (try clear hi)
 refine hK.out _ _ ⟨(blk_cell BK375.out 0).trans rfl, (blk_cell BK375.out 1).trans rfl, (blk_cell BK375.out 2).trans rfl, (blk_cell BK375.out 3).trans rfl, (blk_cell BK375.out 4).trans rfl, (blk_cell BK375.out 5).trans rfl, (blk_cell BK375.out 6).trans rfl⟩ (fun hHeld => ?_)
 clear hK K
 refine norm_ (a' := ?_) ?_ ?_
 rotate_left
 ·
  show Act.put _ (some 54) _ = _
  simp only [Act.put, List.setIfInBounds_toArray, List.set_cons_zero, List.set_cons_succ, i64_w, i32_w, IntKind.wrap_u32]
  rfl
 refine pure_ (i := 18) (N := some 56) (v := ?_) (a' := ?_) #[true, true, true, true, true, true, true, true, true, true, true, true, true, true, true, true, true, true, true, false, false, false, false, false, false] rfl rfl (any_of HT_.out (by kernel_rfl)) (fun _ _ _ h => h) (Or.inl ⟨by rfl, ?_⟩) ?_ ?_
 rotate_left
 ·
  intro w'
  go_simp
  with_reducible rfl
 rotate_left
 ·
  simp only [Act.put, List.setIfInBounds_toArray, List.set_cons_zero, List.set_cons_succ, i64_w, i32_w, IntKind.wrap_u32]
  rfl
 refine pure_ (i := 19) (N := some 57) (v := ?_) (a' := ?_) #[true, true, true, true, true, true, true, true, true, true, true, true, true, true, true, true, true, true, true, true, false, false, false, false, false] rfl rfl (any_of HT_.out (by kernel_rfl)) (fun _ _ _ h => h) (Or.inl ⟨by rfl, ?_⟩) ?_ ?_
 rotate_left
 ·
  intro w'
  go_simp
  with_reducible rfl
 rotate_left
 ·
  simp only [Act.put, List.setIfInBounds_toArray, List.set_cons_zero, List.set_cons_succ, i64_w, i32_w, IntKind.wrap_u32]
  rfl
 refine pure_ (i := 20) (N := some 58) (v := ?_) (a' := ?_) #[true, true, true, true, true, true, true, true, true, true, true, true, true, true, true, true, true, true, true, true, true, false, false, false, false] rfl rfl (any_of HT_.out (by kernel_rfl)) (fun _ _ _ h => h) (Or.inl ⟨by rfl, ?_⟩) ?_ ?_
 rotate_left
 ·
  intro w'
  go_simp
  with_reducible rfl
 rotate_left
 ·
  simp only [Act.put, List.setIfInBounds_toArray, List.set_cons_zero, List.set_cons_succ, i64_w, i32_w, IntKind.wrap_u32]
  rfl
 refine take_ (i := 21) (N := some 59) (v := ?_) (a' := ?_) #[true, true, true, true, true, true, true, true, true, true, true, true, true, true, true, true, true, true, true, true, true, true, false, false, false] rfl rfl (take_ofW HT_.out HW_.out (by kernel_rfl)) (fun _ _ _ h => h) (Or.inl ⟨by rfl, ?_⟩) hHeld ?_ ?_
 rotate_left
 ·
  rintro w' ⟨s0, s1, s2, s3, s4, s5, s6⟩
  go_simp
  with_reducible rfl
 rotate_left
 ·
  simp only [Act.put, List.setIfInBounds_toArray, List.set_cons_zero, List.set_cons_succ, i64_w, i32_w, IntKind.wrap_u32]
  rfl
 refine one_ (i := 22) (N := some 60) #[true, true, true, true, true, true, true, true, true, true, true, true, true, true, true, true, true, true, true, true, true, true, true, false, false] rfl rfl (one_of HT_.out (by kernel_rfl)) (by decide) (fun K hK => ?_)
 refine goes_ Try.func26 (by kernel_rfl) rfl #[.agg #[.int .i64 2, .int .i64 4, .int .i64 2, .int .i64 1, .int .i64 1, .int .i64 0, .int .i64 3]] (by rfl) rfl rfl (by (try simp only [List.map_toArray, List.map_cons, List.map_nil]); first | done | rfl | (simp only [List.length_drop, List.length_take]; rfl)) ?_
 with_reducible refine (page_Size.calls 2 4 2 1 1 0 3 t432 _ A10.out).mono ?_
 rintro e w75 ⟨rfl, hb⟩
 refine ⟨_, rfl, ?_⟩
 replace HO384 := Aside0.mk (Kd.N_below (by (with_reducible repeat (first | apply Kd.N_alloc | apply Kd.N_drewN | apply Kd.N_drew)); exact HO384.out) hb)
 replace HO393 := Aside0.mk (Kd.N_below (by (with_reducible repeat (first | apply Kd.N_alloc | apply Kd.N_drewN | apply Kd.N_drew)); exact HO393.out) hb)
 replace HO396 := Aside0.mk (Kd.N_below (by (with_reducible repeat (first | apply Kd.N_alloc | apply Kd.N_drewN | apply Kd.N_drew)); exact HO396.out) hb)
 replace HO403 := Aside0.mk (Kd.N_below (by (with_reducible repeat (first | apply Kd.N_alloc | apply Kd.N_drewN | apply Kd.N_drew)); exact HO403.out) hb)
 replace HO412 := Aside0.mk (Kd.N_below (by (with_reducible repeat (first | apply Kd.N_alloc | apply Kd.N_drewN | apply Kd.N_drew)); exact HO412.out) hb)
 replace HO415 := Aside0.mk (Kd.N_below (by (with_reducible repeat (first | apply Kd.N_alloc | apply Kd.N_drewN | apply Kd.N_drew)); exact HO415.out) hb)
 replace HO424 := Aside0.mk (Kd.N_below (by (with_reducible repeat (first | apply Kd.N_alloc | apply Kd.N_drewN | apply Kd.N_drew)); exact HO424.out) hb)
 replace BK375 := Aside0.mk (blk_below (g := gb375) (o := .cells #[.int .i64 2, .int .i64 4, .int .i64 2, .int .i64 1, .int .i64 1, .int .i64 0, .int .i64 3] 23 (0, 0)) (by (with_reducible repeat (first | refine blk_drewN ?_ _ | refine blk_drew ?_ | refine blk_alloc ?_ _)); exact BK375.out) hb)
 replace HR420 := Aside0.mk (Kd.C_below (by repeat (first | (with_reducible exact HR420.out) | (with_reducible refine Kd.C_alloc ?_ _) | (with_reducible refine Kd.C_drewN ?_ _) | (with_reducible refine Kd.C_drew ?_) | exact HR420.out)) hb)
 replace HB := Aside0.mk (below_step (by repeat (first | (with_reducible first | exact HB.out | apply below_alloc | apply pw_below_drewN | apply below_drew1 | refine below_set ?_ GE375.out) | exact HB.out)) hb)
 (try clear hb)
 (try clear hb2)
 (try clear hk)
 (try clear hi)
 refine hK.out _ _ ⟨(blk_cell BK375.out 0).trans rfl, (blk_cell BK375.out 1).trans rfl, (blk_cell BK375.out 2).trans rfl, (blk_cell BK375.out 3).trans rfl, (blk_cell BK375.out 4).trans rfl, (blk_cell BK375.out 5).trans rfl, (blk_cell BK375.out 6).trans rfl⟩ (fun hHeld => ?_)
 clear hK K
 refine norm_ (a' := ?_) ?_ ?_
 rotate_left
 ·
  show Act.put _ (some 60) _ = _
  simp only [Act.put, List.setIfInBounds_toArray, List.set_cons_zero, List.set_cons_succ, i64_w, i32_w, IntKind.wrap_u32]
  rfl
 refine pure_ (i := 23) (N := some 61) (v := ?_) (a' := ?_) #[true, true, true, true, true, true, true, true, true, true, true, true, true, true, true, true, true, true, true, true, true, true, true, true, false] rfl rfl (any_of HT_.out (by kernel_rfl)) (fun _ _ _ h => h) (Or.inl ⟨by rfl, ?_⟩) ?_ ?_
 rotate_left
 ·
  intro w'
  go_simp
  with_reducible rfl
 rotate_left
 ·
  simp only [Act.put, List.setIfInBounds_toArray, List.set_cons_zero, List.set_cons_succ, i64_w, i32_w, IntKind.wrap_u32]
  rfl
 refine pure_ (i := 24) (N := some 62) (v := ?_) (a' := ?_) #[true, true, true, true, true, true, true, true, true, true, true, true, true, true, true, true, true, true, true, true, true, true, true, true, true] rfl rfl (any_of HT_.out (by kernel_rfl)) (fun _ _ _ h => h) (Or.inl ⟨by rfl, ?_⟩) ?_ ?_
 rotate_left
 ·
  intro w'
  go_simp
  with_reducible rfl
 rotate_left
 ·
  simp only [Act.put, List.setIfInBounds_toArray, List.set_cons_zero, List.set_cons_succ, i64_w, i32_w, IntKind.wrap_u32]
  rfl
 refine done_ (done_of HT_.out (by kernel_rfl)) ?_
 try go_wp2_with (first | ((with_reducible refine gate_callee (f := 14) rfl ?_); refine goesL_ (some 65) rfl rfl Try.func14 (by kernel_rfl) rfl #[asPtr (.slice Ao72 t394.length co72)] rfl (by (try simp only [List.map_toArray, List.map_cons, List.map_nil]); first | done | rfl | (simp only [List.length_drop, List.length_take]; rfl)) ?_; (with_reducible refine (page_Page_Bytes.calls k _ _ t394 t433 _ ?side1 ?side2 A12.out).mono ?_); (case side1 => with_reducible exact (Kd.N_reads' HO396.out).2.2); (case side2 => exact (Kd.N_reads' HO396.out).2.1); rintro e w76 ⟨v434, rfl, ho0, hb⟩; refine ⟨_, rfl, ?_⟩; replace HO384 := Aside0.mk (Kd.N_elder' (by exact HO384.out) (Kd.R_base ho0) hb); replace HO393 := Aside0.mk (Kd.N_elder' (by exact HO393.out) (Kd.R_base ho0) hb); replace HO396 := Aside0.mk (Kd.N_elder' (by exact HO396.out) (Kd.R_base ho0) hb); replace HO403 := Aside0.mk (Kd.N_elder' (by exact HO403.out) (Kd.R_base ho0) hb); replace HO412 := Aside0.mk (Kd.N_elder' (by exact HO412.out) (Kd.R_base ho0) hb); replace HO415 := Aside0.mk (Kd.N_elder' (by exact HO415.out) (Kd.R_base ho0) hb); replace HO424 := Aside0.mk (Kd.N_elder' (by exact HO424.out) (Kd.R_base ho0) hb); have HO435 := Aside0.mk (Kd.R_lower ho0 (below_size (by with_reducible exact HB.out))); replace BK375 := Aside0.mk (blk_below BK375.out hb); replace HR420 := Aside0.mk (Kd.C_below (by repeat (first | (with_reducible exact HR420.out) | (with_reducible refine Kd.C_alloc ?_ _) | (with_reducible refine Kd.C_drewN ?_ _) | (with_reducible refine Kd.C_drew ?_) | exact HR420.out)) hb); replace HB := Aside0.mk (below_step (by with_reducible exact HB.out) hb); clear hb ho0; obtain ⟨Ao77, co77, eo77⟩ := Kd.R_slice HO435.out; subst eo77) | ((with_reducible refine gate_callee (f := 15) rfl ?_); refine goesL_ (some 66) rfl rfl Try.func15 (by kernel_rfl) rfl #[.slice Ao77 t433.length co77] rfl (by (try simp only [List.map_toArray, List.map_cons, List.map_nil]); first | done | rfl | (simp only [List.length_drop, List.length_take]; rfl)) ?_; (with_reducible refine (page_Parse.calls k _ _ t433 t436 t437 _ ?side1 ?side2 A13.out).mono ?_); (case side1 => with_reducible exact (Kd.R_reads' HO435.out).2.2); (case side2 => exact (Kd.R_reads' HO435.out).2.1); rintro e w78 ⟨v438, rfl, ho0, hb⟩; refine ⟨_, rfl, ?_⟩; have HO439 := Aside0.mk (Kd.N_lower (Kd.N_mono (ok' := fun k_ => some k_ ≠ (.slice Ao45 y382.length co45 : Value).ownBlock ∧ some k_ ≠ (.slice Ao46 y391.length co46 : Value).ownBlock ∧ some k_ ≠ (.slice Ao72 t394.length co72 : Value).ownBlock ∧ some k_ ≠ (.slice Ao62 y401.length co62 : Value).ownBlock ∧ some k_ ≠ (.slice Ao63 y410.length co63 : Value).ownBlock ∧ some k_ ≠ (v414 : Value).ownBlock ∧ some k_ ≠ (v423 : Value).ownBlock ∧ some k_ ≠ (.slice Ao77 t433.length co77 : Value).ownBlock ∧ k_ ≠ gb375) (Kd.R_N (Kd.R_bound ho0)) (fun k_ hk_ => ⟨(Kd.fresh' (Kd.N_lt (by exact HO384.out)) k_ hk_.2.1), (Kd.fresh' (Kd.N_lt (by exact HO393.out)) k_ hk_.2.1), (Kd.fresh' (Kd.N_lt (by exact HO396.out)) k_ hk_.2.1), (Kd.fresh' (Kd.N_lt (by exact HO403.out)) k_ hk_.2.1), (Kd.fresh' (Kd.N_lt (by exact HO412.out)) k_ hk_.2.1), (Kd.fresh' (Kd.N_lt (by exact HO415.out)) k_ hk_.2.1), (Kd.fresh' (Kd.N_lt (by exact HO424.out)) k_ hk_.2.1), (Kd.fresh' (Kd.R_lt (by exact HO435.out)) k_ hk_.2.1), (Kd.freshB (g := gb375) (o := .cells #[.int .i64 2, .int .i64 4, .int .i64 2, .int .i64 1, .int .i64 1, .int .i64 0, .int .i64 3] 23 (0, 0)) (by exact BK375.out) k_ hk_.2.1)⟩)) (below_size (by with_reducible exact HB.out))); replace HO384 := Aside0.mk (Kd.N_elder' (by exact HO384.out) (Kd.R_base ho0) hb); replace HO393 := Aside0.mk (Kd.N_elder' (by exact HO393.out) (Kd.R_base ho0) hb); replace HO396 := Aside0.mk (Kd.N_elder' (by exact HO396.out) (Kd.R_base ho0) hb); replace HO403 := Aside0.mk (Kd.N_elder' (by exact HO403.out) (Kd.R_base ho0) hb); replace HO412 := Aside0.mk (Kd.N_elder' (by exact HO412.out) (Kd.R_base ho0) hb); replace HO415 := Aside0.mk (Kd.N_elder' (by exact HO415.out) (Kd.R_base ho0) hb); replace HO424 := Aside0.mk (Kd.N_elder' (by exact HO424.out) (Kd.R_base ho0) hb); replace HO435 := Aside0.mk (Kd.R_below (by exact HO435.out) hb); replace BK375 := Aside0.mk (blk_below BK375.out hb); replace HR420 := Aside0.mk (Kd.C_below (by repeat (first | (with_reducible exact HR420.out) | (with_reducible refine Kd.C_alloc ?_ _) | (with_reducible refine Kd.C_drewN ?_ _) | (with_reducible refine Kd.C_drew ?_) | exact HR420.out)) hb); replace HB := Aside0.mk (below_step (by with_reducible exact HB.out) hb); clear hb ho0; obtain ⟨Ao79, co79, eo79⟩ := Kd.N_slice HO439.out; subst eo79; have np80 : isNilP (.slice Ao79 t436.length co79) = ((t436.length : Int) == 0) := isNilP_C (Kd.N_reads' HO439.out).2.2; have np80n : notNilP (.slice Ao79 t436.length co79) = ((t436.length : Int) != 0) := notNilP_C (Kd.N_reads' HO439.out).2.2) | (go_at_call 18; (with_reducible refine (page_Page_Key.calls _ _ t436 1 0 t440 _ ?side1 ?side2 A16.out).mono ?_); (case side1 => with_reducible exact (Kd.N_reads' HO439.out).2.2); (case side2 => exact (Kd.N_reads' HO439.out).2.1); rintro e w81 ⟨rfl, hb⟩; replace HO384 := Aside0.mk (Kd.N_below (by exact HO384.out) hb); replace HO393 := Aside0.mk (Kd.N_below (by exact HO393.out) hb); replace HO396 := Aside0.mk (Kd.N_below (by exact HO396.out) hb); replace HO403 := Aside0.mk (Kd.N_below (by exact HO403.out) hb); replace HO412 := Aside0.mk (Kd.N_below (by exact HO412.out) hb); replace HO415 := Aside0.mk (Kd.N_below (by exact HO415.out) hb); replace HO424 := Aside0.mk (Kd.N_below (by exact HO424.out) hb); replace HO435 := Aside0.mk (Kd.R_below (by exact HO435.out) hb); replace HO439 := Aside0.mk (Kd.N_below (by exact HO439.out) hb); replace BK375 := Aside0.mk (blk_below BK375.out hb); replace HR420 := Aside0.mk (Kd.C_below (by repeat (first | (with_reducible exact HR420.out) | (with_reducible refine Kd.C_alloc ?_ _) | (with_reducible refine Kd.C_drewN ?_ _) | (with_reducible refine Kd.C_drew ?_) | exact HR420.out)) hb); replace HB := Aside0.mk (below_step (by with_reducible exact HB.out) hb); clear hb) | (go_at_call 19; (with_reducible refine (page_Page_Value.calls _ _ t436 0 0 t441 _ ?side1 ?side2 A18.out).mono ?_); (case side1 => with_reducible exact (Kd.N_reads' HO439.out).2.2); (case side2 => exact (Kd.N_reads' HO439.out).2.1); rintro e w82 ⟨rfl, hb⟩; replace HO384 := Aside0.mk (Kd.N_below (by exact HO384.out) hb); replace HO393 := Aside0.mk (Kd.N_below (by exact HO393.out) hb); replace HO396 := Aside0.mk (Kd.N_below (by exact HO396.out) hb); replace HO403 := Aside0.mk (Kd.N_below (by exact HO403.out) hb); replace HO412 := Aside0.mk (Kd.N_below (by exact HO412.out) hb); replace HO415 := Aside0.mk (Kd.N_below (by exact HO415.out) hb); replace HO424 := Aside0.mk (Kd.N_below (by exact HO424.out) hb); replace HO435 := Aside0.mk (Kd.R_below (by exact HO435.out) hb); replace HO439 := Aside0.mk (Kd.N_below (by exact HO439.out) hb); replace BK375 := Aside0.mk (blk_below BK375.out hb); replace HR420 := Aside0.mk (Kd.C_below (by repeat (first | (with_reducible exact HR420.out) | (with_reducible refine Kd.C_alloc ?_ _) | (with_reducible refine Kd.C_drewN ?_ _) | (with_reducible refine Kd.C_drew ?_) | exact HR420.out)) hb); replace HB := Aside0.mk (below_step (by with_reducible exact HB.out) hb); clear hb) | (go_at_call 18; (with_reducible refine (page_Page_Key.calls _ _ t436 2 0 t442 _ ?side1 ?side2 A20.out).mono ?_); (case side1 => with_reducible exact (Kd.N_reads' HO439.out).2.2); (case side2 => exact (Kd.N_reads' HO439.out).2.1); rintro e w83 ⟨rfl, hb⟩; replace HO384 := Aside0.mk (Kd.N_below (by exact HO384.out) hb); replace HO393 := Aside0.mk (Kd.N_below (by exact HO393.out) hb); replace HO396 := Aside0.mk (Kd.N_below (by exact HO396.out) hb); replace HO403 := Aside0.mk (Kd.N_below (by exact HO403.out) hb); replace HO412 := Aside0.mk (Kd.N_below (by exact HO412.out) hb); replace HO415 := Aside0.mk (Kd.N_below (by exact HO415.out) hb); replace HO424 := Aside0.mk (Kd.N_below (by exact HO424.out) hb); replace HO435 := Aside0.mk (Kd.R_below (by exact HO435.out) hb); replace HO439 := Aside0.mk (Kd.N_below (by exact HO439.out) hb); replace BK375 := Aside0.mk (blk_below BK375.out hb); replace HR420 := Aside0.mk (Kd.C_below (by repeat (first | (with_reducible exact HR420.out) | (with_reducible refine Kd.C_alloc ?_ _) | (with_reducible refine Kd.C_drewN ?_ _) | (with_reducible refine Kd.C_drew ?_) | exact HR420.out)) hb); replace HB := Aside0.mk (below_step (by with_reducible exact HB.out) hb); clear hb) | (go_at_call 29; (with_reducible refine (page_Page_Keys.calls k _ _ t436 t443 _ ?side1 ?side2 A22.out).mono ?_); (case side1 => with_reducible exact (Kd.N_reads' HO439.out).2.2); (case side2 => exact (Kd.N_reads' HO439.out).2.1); rintro e w84 ⟨v444, rfl, ho0, hb⟩; have HO445 := Aside0.mk (Kd.N_lower (Kd.N_mono (ok' := fun k_ => some k_ ≠ (.slice Ao45 y382.length co45 : Value).ownBlock ∧ some k_ ≠ (.slice Ao46 y391.length co46 : Value).ownBlock ∧ some k_ ≠ (.slice Ao72 t394.length co72 : Value).ownBlock ∧ some k_ ≠ (.slice Ao62 y401.length co62 : Value).ownBlock ∧ some k_ ≠ (.slice Ao63 y410.length co63 : Value).ownBlock ∧ some k_ ≠ (v414 : Value).ownBlock ∧ some k_ ≠ (v423 : Value).ownBlock ∧ some k_ ≠ (.slice Ao77 t433.length co77 : Value).ownBlock ∧ some k_ ≠ (.slice Ao79 t436.length co79 : Value).ownBlock ∧ k_ ≠ gb375) (Kd.S_N (Kd.S_bound ho0)) (fun k_ hk_ => ⟨(Kd.fresh' (Kd.N_lt (by exact HO384.out)) k_ hk_.2.1), (Kd.fresh' (Kd.N_lt (by exact HO393.out)) k_ hk_.2.1), (Kd.fresh' (Kd.N_lt (by exact HO396.out)) k_ hk_.2.1), (Kd.fresh' (Kd.N_lt (by exact HO403.out)) k_ hk_.2.1), (Kd.fresh' (Kd.N_lt (by exact HO412.out)) k_ hk_.2.1), (Kd.fresh' (Kd.N_lt (by exact HO415.out)) k_ hk_.2.1), (Kd.fresh' (Kd.N_lt (by exact HO424.out)) k_ hk_.2.1), (Kd.fresh' (Kd.R_lt (by exact HO435.out)) k_ hk_.2.1), (Kd.fresh' (Kd.N_lt (by exact HO439.out)) k_ hk_.2.1), (Kd.freshB (g := gb375) (o := .cells #[.int .i64 2, .int .i64 4, .int .i64 2, .int .i64 1, .int .i64 1, .int .i64 0, .int .i64 3] 23 (0, 0)) (by exact BK375.out) k_ hk_.2.1)⟩)) (below_size (by with_reducible exact HB.out))); replace HO384 := Aside0.mk (Kd.N_elder' (by exact HO384.out) (Kd.S_base ho0) hb); replace HO393 := Aside0.mk (Kd.N_elder' (by exact HO393.out) (Kd.S_base ho0) hb); replace HO396 := Aside0.mk (Kd.N_elder' (by exact HO396.out) (Kd.S_base ho0) hb); replace HO403 := Aside0.mk (Kd.N_elder' (by exact HO403.out) (Kd.S_base ho0) hb); replace HO412 := Aside0.mk (Kd.N_elder' (by exact HO412.out) (Kd.S_base ho0) hb); replace HO415 := Aside0.mk (Kd.N_elder' (by exact HO415.out) (Kd.S_base ho0) hb); replace HO424 := Aside0.mk (Kd.N_elder' (by exact HO424.out) (Kd.S_base ho0) hb); replace HO435 := Aside0.mk (Kd.R_below (by exact HO435.out) hb); replace HO439 := Aside0.mk (Kd.N_elder' (by exact HO439.out) (Kd.S_base ho0) hb); replace BK375 := Aside0.mk (blk_below BK375.out hb); replace HR420 := Aside0.mk (Kd.C_below (by repeat (first | (with_reducible exact HR420.out) | (with_reducible refine Kd.C_alloc ?_ _) | (with_reducible refine Kd.C_drewN ?_ _) | (with_reducible refine Kd.C_drew ?_) | exact HR420.out)) hb); replace HB := Aside0.mk (below_step (by with_reducible exact HB.out) hb); clear hb ho0; obtain ⟨Ao85, co85, eo85⟩ := Kd.N_slice HO445.out; subst eo85) | (go_at_call 14; (with_reducible refine (page_Page_Bytes.calls k _ _ t394 t446 _ ?side1 ?side2 A24.out).mono ?_); (case side1 => with_reducible exact (Kd.N_reads' HO396.out).2.2); (case side2 => exact (Kd.N_reads' HO396.out).2.1); rintro e w86 ⟨v447, rfl, ho0, hb⟩; replace HO384 := Aside0.mk (Kd.N_elder' (by exact HO384.out) (Kd.R_base ho0) hb); replace HO393 := Aside0.mk (Kd.N_elder' (by exact HO393.out) (Kd.R_base ho0) hb); replace HO396 := Aside0.mk (Kd.N_elder' (by exact HO396.out) (Kd.R_base ho0) hb); replace HO403 := Aside0.mk (Kd.N_elder' (by exact HO403.out) (Kd.R_base ho0) hb); replace HO412 := Aside0.mk (Kd.N_elder' (by exact HO412.out) (Kd.R_base ho0) hb); replace HO415 := Aside0.mk (Kd.N_elder' (by exact HO415.out) (Kd.R_base ho0) hb); replace HO424 := Aside0.mk (Kd.N_elder' (by exact HO424.out) (Kd.R_base ho0) hb); replace HO439 := Aside0.mk (Kd.N_elder' (by exact HO439.out) (Kd.R_base ho0) hb); replace HO445 := Aside0.mk (Kd.N_elder' (by exact HO445.out) (Kd.R_base ho0) hb); have HO448 := Aside0.mk (Kd.R_lower (Kd.R_new' ho0 (Kd.R_lt (by exact HO435.out))) (below_size (by with_reducible exact HB.out))); replace HO435 := Aside0.mk (Kd.R_elder' (by exact HO435.out) (Kd.R_base ho0) hb); replace BK375 := Aside0.mk (blk_below BK375.out hb); replace HR420 := Aside0.mk (Kd.C_below (by repeat (first | (with_reducible exact HR420.out) | (with_reducible refine Kd.C_alloc ?_ _) | (with_reducible refine Kd.C_drewN ?_ _) | (with_reducible refine Kd.C_drew ?_) | exact HR420.out)) hb); replace HB := Aside0.mk (below_step (by with_reducible exact HB.out) hb); clear hb ho0; obtain ⟨Ao87, co87, eo87⟩ := Kd.R_slice HO448.out; subst eo87; have hz88 := bx7 BK375.out) | (go_at_call 23; (with_reducible refine (page_Right.calls 2 4 2 1 1 0 3 t449 _ A26.out).mono ?_); rintro e w89 ⟨rfl, hb⟩; replace HO384 := Aside0.mk (Kd.N_below (by exact HO384.out) hb); replace HO393 := Aside0.mk (Kd.N_below (by exact HO393.out) hb); replace HO396 := Aside0.mk (Kd.N_below (by exact HO396.out) hb); replace HO403 := Aside0.mk (Kd.N_below (by exact HO403.out) hb); replace HO412 := Aside0.mk (Kd.N_below (by exact HO412.out) hb); replace HO415 := Aside0.mk (Kd.N_below (by exact HO415.out) hb); replace HO424 := Aside0.mk (Kd.N_below (by exact HO424.out) hb); replace HO435 := Aside0.mk (Kd.R_below (by exact HO435.out) hb); replace HO439 := Aside0.mk (Kd.N_below (by exact HO439.out) hb); replace HO445 := Aside0.mk (Kd.N_below (by exact HO445.out) hb); replace HO448 := Aside0.mk (Kd.R_below (by exact HO448.out) hb); replace BK375 := Aside0.mk (blk_below BK375.out hb); replace HR420 := Aside0.mk (Kd.C_below (by repeat (first | (with_reducible exact HR420.out) | (with_reducible refine Kd.C_alloc ?_ _) | (with_reducible refine Kd.C_drewN ?_ _) | (with_reducible refine Kd.C_drew ?_) | exact HR420.out)) hb); replace HB := Aside0.mk (below_step (by with_reducible exact HB.out) hb); clear hb))
 go_ret
 exact ⟨by first | rfl | (simp [errW_none, errW_some] <;> rfl) | (simp [*, errW_none, errW_some] <;> rfl), by with_reducible exact HB.out⟩

/-! ### page_unpack: function 43 -/
def page_unpack.l0 : Nat → Int → Int → List (S47) → List (S82) → Int → Int → Option ((List (S47)))
 | 0, _, _, _, _, _, _ => none
 | k + 1, x1, x2, x7, x11, x12, x13 => if x13 < x12 then (if 0 ≤ x13 then (if x13 < (x11.length : Int) then ((pack_Unpack.f k ((rd_T82 x11 x13).f1) x1 x2).bind fun bt453 => (if x7.length < 4398046511104 then (page_unpack.l0 k x1 x2 (x7 ++ [(⟨(rd_T82 x11 x13).f0.f0, (rd_T82 x11 x13).f0.f1, bt453.1⟩ : S47)]) x11 x12 (wrap64 (x13 + 1))) else (none))) else (none)) else (none)) else (some x7)
def page_unpack.f (k : Nat) (l0 : List (S82)) (a1 : Int) (a2 : Int) : Option ((List (S47))) := page_unpack.l0 k a1 a2 ([] : List (S47)) l0 (l0.length : Int) 0
theorem page_unpack.mono_l : ∀ k, (∀ y0 y1 y2 y3 y4 y5, LeO (page_unpack.l0 k y0 y1 y2 y3 y4 y5) (page_unpack.l0 (k + 1) y0 y1 y2 y3 y4 y5))
 | 0 => fun _ _ _ _ _ _ r h => by simp [page_unpack.l0] at h
 | k + 1 => by
  have ih0 := page_unpack.mono_l k
  ·
   intro y0 y1 y2 y3 y4 y5
   unfold page_unpack.l0
   repeat' first
   | (with_reducible exact ih0 _ _ _ _ _ _)
   | (with_reducible exact pack_Unpack.mono _ _ _ _)
   | (with_reducible exact LeO.refl _)
   | (with_reducible exact LeO.none _)
   | (with_reducible refine LeO.ite ?_ ?_)
   | (with_reducible refine LeO.bind ?_ (fun _ => ?_))
   | exact ih0 _ _ _ _ _ _
   | exact pack_Unpack.mono _ _ _ _
   | exact LeO.none _
   | refine LeO.ite ?_ ?_
   | refine LeO.bind ?_ (fun _ => ?_)
theorem page_unpack.mono : ∀ a0 a1 a2 k, LeO (page_unpack.f k a0 a1 a2) (page_unpack.f (k + 1) a0 a1 a2) := by
 intro a0 a1 a2 k
 have ih0 := page_unpack.mono_l k
 unfold page_unpack.f
 repeat' first
   | (with_reducible exact ih0 _ _ _ _ _ _)
   | (with_reducible exact pack_Unpack.mono _ _ _ _)
   | (with_reducible exact LeO.refl _)
   | (with_reducible exact LeO.none _)
   | (with_reducible refine LeO.ite ?_ ?_)
   | (with_reducible refine LeO.bind ?_ (fun _ => ?_))
   | exact ih0 _ _ _ _ _ _
   | exact pack_Unpack.mono _ _ _ _
   | exact LeO.none _
   | refine LeO.ite ?_ ?_
   | refine LeO.bind ?_ (fun _ => ?_)
set_option maxHeartbeats 8000000 in
set_option maxRecDepth 100000 in
theorem page_unpack.calls (k : Nat) (A0 : Option Addr) (c0 : Nat) (l0 : List (S82)) (a1 : Int) (a2 : Int) (r : List (S47)) (w : World) (hr0 : Kd.C k82 w A0 l0.length l0) (hc0 : l0.length ≤ c0) (h : page_unpack.f k l0 a1 a2 = some r) :
  Calls Try.prog 43 #[.slice A0 l0.length c0, .int .i64 a1, .int .i64 a2] w fun e w' => ∃ v0_ : Value, e = .returned (v0_) ∧ Kd.S k47 47 w' w.heap.size (fun _ => True) v0_ r ∧ Below w.heap.size w w' := by
 have hu82 := Try.underlying82
 have hu47 := Try.underlying47
 have HR0 := Aside0.mk hr0
 have HC0 := Aside0.mk hc0
 clear hr0 hc0
 have HB := Aside0.mk (Below.refl w.heap.size w)
 have H := h
 clear h
 unfold page_unpack.f at H
 have H' := Aside0.mk H
 clear H
 go_enter Try.func43, Try.ntmps43
 go_wp2
 go_loopg [7, 13] k (fun kq v7 v13 w' => ∃ (x7_1 : List (S47)) (x13_1 : Int), v13 = .int .i64 x13_1 ∧ Aside0 (page_unpack.l0 kq a1 a2 x7_1 l0 (l0.length : Int) x13_1 = some r) ∧ Aside0 (kq ≤ k) ∧ Aside0 (Kd.S k47 47 w' w.heap.size (fun _ => True) v7 x7_1) ∧ Aside0 (Below w.heap.size w w'))
 case atStart => exact ⟨(([] : List (S47))), (0), (by first | rfl | (simp; done) | (simp [*]; done)), H', ⟨Nat.le_refl _⟩, ⟨by first | exact Kd.S_nil _ _ _ _ _ | exact Kd.N_nil _ _ _ _ _ | exact Kd.V_nil _ _ _ _ _ | exact Kd.Q_nil _ _ _ _ _ | exact Kd.R_nil _ _ _ _ _⟩, ⟨by with_reducible exact HB.out⟩⟩
 case round =>
  clear H'
  try clear p2
  obtain ⟨x7_1, x13_1, rfl, HA, HK1, HO_7, HB⟩ := hrel
  cases gk with
  | zero => exact absurd HA.out (by simp [page_unpack.l0])
  | succ k1 =>
   have H := HA.out
   clear HA
   simp only [page_unpack.l0] at H
   by_cases c4 : x13_1 < (l0.length : Int)
   ·
    rw [if_pos c4] at H
    have c4b0 : decide (x13_1 < (l0.length : Int)) = true := decide_eq_true c4
    clear c4
    by_cases c5 : 0 ≤ x13_1
    case neg => (rw [if_neg c5] at H; exact absurd H (by simp))
    rw [if_pos c5] at H
    have c5b0 : decide (0 ≤ x13_1) = true := decide_eq_true c5
    clear c5
    by_cases c6 : x13_1 < (l0.length : Int)
    case neg => (rw [if_neg c6] at H; exact absurd H (by simp))
    rw [if_pos c6] at H
    have c6b0 : decide (x13_1 < (l0.length : Int)) = true := decide_eq_true c6
    clear c6
    replace H := Option.bind_eq_some_iff.mp H
    obtain ⟨⟨t453, t454⟩, A70, H⟩ := H
    try dsimp only at H
    have A7 := Aside0.mk A70
    clear A70
    by_cases c8 : x7_1.length < 4398046511104
    case neg => (rw [if_neg c8] at H; exact absurd H (by simp))
    rw [if_pos c8] at H
    have LMc8 := Aside0.mk c8
    clear c8
    obtain ⟨y457, hy457⟩ : ∃ y_ : List (S47), y_ = (x7_1 ++ [(⟨(rd_T82 l0 x13_1).f0.f0, (rd_T82 l0 x13_1).f0.f1, t453⟩ : S47)]) := ⟨_, rfl⟩
    replace H : (page_unpack.l0 k1 a1 a2 y457 l0 (l0.length : Int) (wrap64 (x13_1 + 1))) = some r := by rw [hy457]; exact H
    have Ny457 := Aside0.mk hy457
    clear hy457
    have H' := Aside0.mk H
    clear H
    have p450 : 0 ≤ (x13_1 : Int) := of_decide_eq_true (by first | (with_reducible assumption) | assumption)
    have q450 : x13_1 < (l0.length : Int) := of_decide_eq_true (by first | (with_reducible assumption) | assumption)
    obtain ⟨ad450, A450_2, c450_2, A450_3, c450_3, e450, hx450_0, hx450_1, hx450_2, hx450_3, hl450_2, hi450_2, hl450_3, hi450_3⟩ := at_T82 HR0.out x13_1 p450 q450
    cases e450
    replace hx450_0 := (HB.out.cell (World.block_lt_of_cell? w _ hx450_0)).trans hx450_0
    replace hx450_1 := (HB.out.cell (World.block_lt_of_cell? w _ hx450_1)).trans hx450_1
    replace hx450_2 := (HB.out.cell (World.block_lt_of_cell? w _ hx450_2)).trans hx450_2
    replace hx450_3 := (HB.out.cell (World.block_lt_of_cell? w _ hx450_3)).trans hx450_3
    have HR450_2 := Aside0.mk hi450_2
    have HC450_2 := Aside0.mk hl450_2
    clear hi450_2 hl450_2
    have HR450_3 := Aside0.mk hi450_3
    have HC450_3 := Aside0.mk hl450_3
    clear hi450_3 hl450_3
    replace p450 := eq_true p450
    replace q450 := eq_true q450
    go_wp2_with (first | ((with_reducible refine gate_dst (N := 9) rfl ?_); refine box_event ?hg (N := 9) ?hd (cs := #[.int .i32 0, .int .u32 0, .slice none 0 0, .slice none 0 0]) (t := 82) ?hr ?_; (case hd => rfl); (case hg => rfl); (case hr => first | (go_simp; done) | (go_simp; rfl)); intro gb451 hg w9 hbox hb; replace HO_7 := Aside0.mk (Kd.S_below (by exact HO_7.out) hb); have BK451 := Aside0.mk (hbox); have GW451 := Aside0.mk ((by rw [hg]; exact (below_size (by with_reducible exact HB.out)) : w.heap.size ≤ gb451)); have GE451 := Aside0.mk ((by rw [hg]; exact (below_size (by with_reducible exact HB.out)) : w.heap.size ≤ gb451)); replace HB := Aside0.mk (below_step (by with_reducible exact HB.out) hb); clear hb hbox hg; have hz10 := bx4 BK451.out) | ((with_reducible refine gate_dst (N := 10) rfl ?_); refine box_event ?hg (N := 10) ?hd (cs := #[.int .i32 0, .int .u32 0, .slice none 0 0]) (t := 47) ?hr ?_; (case hd => rfl); (case hg => rfl); (case hr => first | (go_simp; done) | (go_simp; rfl)); intro gb452 hg w11 hbox hb; replace HO_7 := Aside0.mk (Kd.S_below (Kd.S_elderB (by (with_reducible repeat (first | apply Kd.S_alloc | apply Kd.S_drewN | apply Kd.S_drew)); exact (Kd.S_mono (Kd.S_far (p := ⟨gb451, 3, none⟩) (Kd.S_far (p := ⟨gb451, 2, none⟩) (Kd.S_far (p := ⟨gb451, 1, none⟩) (Kd.S_far (p := ⟨gb451, 0, none⟩) (Kd.S_types HO_7.out BK451.out (by decide)) (fun _ hk => hk.2) (.int .i32 ((rd_T82 l0 x13_1).f0.f0))) (fun _ hk => hk.2) (.int .u32 ((rd_T82 l0 x13_1).f0.f1))) (fun _ hk => hk.2) (.slice A450_2 ((rd_T82 l0 x13_1).f0.f2).length c450_2)) (fun _ hk => hk.2) (.slice A450_3 ((rd_T82 l0 x13_1).f1).length c450_3)) (fun _ h_ => h_.1))) gb452 (Nat.le_of_eq hg.symm)) hb); have BK452 := Aside0.mk (hbox); have GW452 := Aside0.mk ((by rw [hg]; exact (below_size (by repeat (first | (with_reducible first | exact HB.out | apply below_alloc | apply pw_below_drewN | apply below_drew1 | refine below_set ?_ GE451.out) | exact HB.out))) : w.heap.size ≤ gb452)); have GE452 := Aside0.mk ((by rw [hg]; exact (below_size (by repeat (first | (with_reducible first | exact HB.out | apply below_alloc | apply pw_below_drewN | apply below_drew1 | refine below_set ?_ GE451.out) | exact HB.out))) : w.heap.size ≤ gb452)); replace HB := Aside0.mk (below_step (by repeat (first | (with_reducible first | exact HB.out | apply below_alloc | apply pw_below_drewN | apply below_drew1 | refine below_set ?_ GE451.out) | exact HB.out)) hb); have NB451_452 := Aside0.mk ((by rw [hg]; exact Nat.ne_of_lt (blk_lt (g := gb451) (o := .cells #[.int .i32 ((rd_T82 l0 x13_1).f0.f0), .int .u32 ((rd_T82 l0 x13_1).f0.f1), .slice A450_2 ((rd_T82 l0 x13_1).f0.f2).length c450_2, .slice A450_3 ((rd_T82 l0 x13_1).f1).length c450_3] 82 (0, 0)) (by (with_reducible repeat (first | refine blk_drewN ?_ _ | refine blk_drew ?_ | refine blk_alloc ?_ _)); refine blk_put (cs := #[.int .i32 ((rd_T82 l0 x13_1).f0.f0), .int .u32 ((rd_T82 l0 x13_1).f0.f1), .slice A450_2 ((rd_T82 l0 x13_1).f0.f2).length c450_2, .slice none 0 0]) ?_ 3 _ rfl; (with_reducible repeat (first | refine blk_drewN ?_ _ | refine blk_drew ?_ | refine blk_alloc ?_ _)); refine blk_put (cs := #[.int .i32 ((rd_T82 l0 x13_1).f0.f0), .int .u32 ((rd_T82 l0 x13_1).f0.f1), .slice none 0 0, .slice none 0 0]) ?_ 2 _ rfl; (with_reducible repeat (first | refine blk_drewN ?_ _ | refine blk_drew ?_ | refine blk_alloc ?_ _)); refine blk_put (cs := #[.int .i32 ((rd_T82 l0 x13_1).f0.f0), .int .u32 0, .slice none 0 0, .slice none 0 0]) ?_ 1 _ rfl; (with_reducible repeat (first | refine blk_drewN ?_ _ | refine blk_drew ?_ | refine blk_alloc ?_ _)); refine blk_put (cs := #[.int .i32 0, .int .u32 0, .slice none 0 0, .slice none 0 0]) ?_ 0 _ rfl; (with_reducible repeat (first | refine blk_drewN ?_ _ | refine blk_drew ?_ | refine blk_alloc ?_ _)); exact BK451.out)) : gb451 ≠ gb452)); have NB452_451 := Aside0.mk ((by rw [hg]; exact Nat.ne_of_gt (blk_lt (g := gb451) (o := .cells #[.int .i32 ((rd_T82 l0 x13_1).f0.f0), .int .u32 ((rd_T82 l0 x13_1).f0.f1), .slice A450_2 ((rd_T82 l0 x13_1).f0.f2).length c450_2, .slice A450_3 ((rd_T82 l0 x13_1).f1).length c450_3] 82 (0, 0)) (by (with_reducible repeat (first | refine blk_drewN ?_ _ | refine blk_drew ?_ | refine blk_alloc ?_ _)); refine blk_put (cs := #[.int .i32 ((rd_T82 l0 x13_1).f0.f0), .int .u32 ((rd_T82 l0 x13_1).f0.f1), .slice A450_2 ((rd_T82 l0 x13_1).f0.f2).length c450_2, .slice none 0 0]) ?_ 3 _ rfl; (with_reducible repeat (first | refine blk_drewN ?_ _ | refine blk_drew ?_ | refine blk_alloc ?_ _)); refine blk_put (cs := #[.int .i32 ((rd_T82 l0 x13_1).f0.f0), .int .u32 ((rd_T82 l0 x13_1).f0.f1), .slice none 0 0, .slice none 0 0]) ?_ 2 _ rfl; (with_reducible repeat (first | refine blk_drewN ?_ _ | refine blk_drew ?_ | refine blk_alloc ?_ _)); refine blk_put (cs := #[.int .i32 ((rd_T82 l0 x13_1).f0.f0), .int .u32 0, .slice none 0 0, .slice none 0 0]) ?_ 1 _ rfl; (with_reducible repeat (first | refine blk_drewN ?_ _ | refine blk_drew ?_ | refine blk_alloc ?_ _)); refine blk_put (cs := #[.int .i32 0, .int .u32 0, .slice none 0 0, .slice none 0 0]) ?_ 0 _ rfl; (with_reducible repeat (first | refine blk_drewN ?_ _ | refine blk_drew ?_ | refine blk_alloc ?_ _)); exact BK451.out)) : gb452 ≠ gb451)); replace BK451 := Aside0.mk (blk_below (g := gb451) (o := .cells #[.int .i32 ((rd_T82 l0 x13_1).f0.f0), .int .u32 ((rd_T82 l0 x13_1).f0.f1), .slice A450_2 ((rd_T82 l0 x13_1).f0.f2).length c450_2, .slice A450_3 ((rd_T82 l0 x13_1).f1).length c450_3] 82 (0, 0)) (by (with_reducible repeat (first | refine blk_drewN ?_ _ | refine blk_drew ?_ | refine blk_alloc ?_ _)); refine blk_put (cs := #[.int .i32 ((rd_T82 l0 x13_1).f0.f0), .int .u32 ((rd_T82 l0 x13_1).f0.f1), .slice A450_2 ((rd_T82 l0 x13_1).f0.f2).length c450_2, .slice none 0 0]) ?_ 3 _ rfl; (with_reducible repeat (first | refine blk_drewN ?_ _ | refine blk_drew ?_ | refine blk_alloc ?_ _)); refine blk_put (cs := #[.int .i32 ((rd_T82 l0 x13_1).f0.f0), .int .u32 ((rd_T82 l0 x13_1).f0.f1), .slice none 0 0, .slice none 0 0]) ?_ 2 _ rfl; (with_reducible repeat (first | refine blk_drewN ?_ _ | refine blk_drew ?_ | refine blk_alloc ?_ _)); refine blk_put (cs := #[.int .i32 ((rd_T82 l0 x13_1).f0.f0), .int .u32 0, .slice none 0 0, .slice none 0 0]) ?_ 1 _ rfl; (with_reducible repeat (first | refine blk_drewN ?_ _ | refine blk_drew ?_ | refine blk_alloc ?_ _)); refine blk_put (cs := #[.int .i32 0, .int .u32 0, .slice none 0 0, .slice none 0 0]) ?_ 0 _ rfl; (with_reducible repeat (first | refine blk_drewN ?_ _ | refine blk_drew ?_ | refine blk_alloc ?_ _)); exact BK451.out) hb); clear hb hbox hg; have hnb12 := NB452_451.out; have hnc12 := NB451_452.out; have hz13 := bx3 BK452.out; have hz14 := bx4 BK451.out) | ((with_reducible refine gate_callee (f := 75) rfl ?_); refine goesL_ (some 24) rfl rfl Try.func75 (by kernel_rfl) rfl #[.slice A450_3 ((rd_T82 l0 x13_1).f1).length c450_3, .int .i64 a1, .int .i64 a2] rfl (by (try simp only [List.map_toArray, List.map_cons, List.map_nil]); first | done | rfl | (simp only [List.length_drop, List.length_take]; rfl)) ?_; (with_reducible refine (pack_Unpack.calls k1 _ _ ((rd_T82 l0 x13_1).f1) a1 a2 t453 t454 _ ?side1 ?side2 A7.out).mono ?_); (case side1 => exact Kd.C_below HR450_3.out (by repeat (first | (with_reducible first | exact HB.out | apply below_alloc | apply pw_below_drewN | apply below_drew1 | refine below_set ?_ GE451.out | refine below_set ?_ GE452.out) | exact HB.out))); (case side2 => exact HC450_3.out); rintro e w15 ⟨v455, rfl, ho0, hb⟩; refine ⟨_, rfl, ?_⟩; replace HO_7 := Aside0.mk (Kd.S_elder' (by (with_reducible repeat (first | apply Kd.S_alloc | apply Kd.S_drewN | apply Kd.S_drew)); exact (Kd.S_mono (Kd.S_far (p := ⟨gb452, 2, none⟩) (Kd.S_far (p := ⟨gb452, 1, none⟩) (Kd.S_far (p := ⟨gb452, 0, none⟩) (Kd.S_mono HO_7.out (fun k_ hk => (⟨hk, hk.2⟩ : _ ∧ k_ ≠ gb452))) (fun _ hk => hk.2) (.int .i32 ((rd_T82 l0 x13_1).f0.f0))) (fun _ hk => hk.2) (.int .u32 ((rd_T82 l0 x13_1).f0.f1))) (fun _ hk => hk.2) (.slice A450_2 ((rd_T82 l0 x13_1).f0.f2).length c450_2)) (fun _ h_ => h_.1))) (Kd.R_base ho0) hb); have HO456 := Aside0.mk (Kd.R_lower ho0 (below_size (by repeat (first | (with_reducible first | exact HB.out | apply below_alloc | apply pw_below_drewN | apply below_drew1 | refine below_set ?_ GE451.out | refine below_set ?_ GE452.out) | exact HB.out)))); replace BK451 := Aside0.mk (blk_below (g := gb451) (o := .cells #[.int .i32 ((rd_T82 l0 x13_1).f0.f0), .int .u32 ((rd_T82 l0 x13_1).f0.f1), .slice A450_2 ((rd_T82 l0 x13_1).f0.f2).length c450_2, .slice A450_3 ((rd_T82 l0 x13_1).f1).length c450_3] 82 (0, 0)) (by (with_reducible repeat (first | refine blk_drewN ?_ _ | refine blk_drew ?_ | refine blk_alloc ?_ _)); refine blk_far ?_ NB451_452.out _; (with_reducible repeat (first | refine blk_drewN ?_ _ | refine blk_drew ?_ | refine blk_alloc ?_ _)); refine blk_far ?_ NB451_452.out _; (with_reducible repeat (first | refine blk_drewN ?_ _ | refine blk_drew ?_ | refine blk_alloc ?_ _)); refine blk_far ?_ NB451_452.out _; (with_reducible repeat (first | refine blk_drewN ?_ _ | refine blk_drew ?_ | refine blk_alloc ?_ _)); exact BK451.out) hb); replace BK452 := Aside0.mk (blk_below (g := gb452) (o := .cells #[.int .i32 ((rd_T82 l0 x13_1).f0.f0), .int .u32 ((rd_T82 l0 x13_1).f0.f1), .slice A450_2 ((rd_T82 l0 x13_1).f0.f2).length c450_2] 47 (0, 0)) (by (with_reducible repeat (first | refine blk_drewN ?_ _ | refine blk_drew ?_ | refine blk_alloc ?_ _)); refine blk_put (cs := #[.int .i32 ((rd_T82 l0 x13_1).f0.f0), .int .u32 ((rd_T82 l0 x13_1).f0.f1), .slice none 0 0]) ?_ 2 _ rfl; (with_reducible repeat (first | refine blk_drewN ?_ _ | refine blk_drew ?_ | refine blk_alloc ?_ _)); refine blk_put (cs := #[.int .i32 ((rd_T82 l0 x13_1).f0.f0), .int .u32 0, .slice none 0 0]) ?_ 1 _ rfl; (with_reducible repeat (first | refine blk_drewN ?_ _ | refine blk_drew ?_ | refine blk_alloc ?_ _)); refine blk_put (cs := #[.int .i32 0, .int .u32 0, .slice none 0 0]) ?_ 0 _ rfl; (with_reducible repeat (first | refine blk_drewN ?_ _ | refine blk_drew ?_ | refine blk_alloc ?_ _)); exact BK452.out) hb); replace HB := Aside0.mk (below_step (by repeat (first | (with_reducible first | exact HB.out | apply below_alloc | apply pw_below_drewN | apply below_drew1 | refine below_set ?_ GE451.out | refine below_set ?_ GE452.out) | exact HB.out)) hb); clear hb ho0; obtain ⟨Ao16, co16, eo16⟩ := Kd.R_slice HO456.out; subst eo16; have hz17 := bx3 BK452.out) | ((with_reducible refine gate_store (t := 45) (p := 27) rfl ?_); refine store_event (t := 45) (p := 27) (v := ?vo_w18) (w1 := (w15.setCell ⟨gb452, 2, none⟩ (.slice Ao16 t453.length co16))) ?hg ?ho ?hn ?hr ?_; (case ho => rfl); (case hg => rfl); (case hn => rfl); (case hr => first | (go_simp; done) | (go_simp; rfl)); intro w18 hw; have n0_ : Aside0 (Kd.S k47 47 w18 w.heap.size (fun k_ => some k_ ≠ (.slice Ao16 t453.length co16 : Value).ownBlock ∧ k_ ≠ gb452) u7 x7_1) := ⟨(by rw [hw]; exact (by (with_reducible repeat (first | apply Kd.S_alloc | apply Kd.S_drewN | apply Kd.S_drew)); exact Kd.S_mono (Kd.S_far (p := ⟨gb452, 2, none⟩) (Kd.S_mono HO_7.out (fun k_ hk => (⟨hk, hk.1.2⟩ : _ ∧ k_ ≠ gb452))) (fun _ hk => hk.2) (.slice Ao16 t453.length co16)) (fun _ hk => ⟨hk.1.2, hk.1.1.2⟩)))⟩; have n1_ : Aside0 (Kd.R (Kd.int .i64) 3 w18 w.heap.size (fun _ => True) (.slice Ao16 t453.length co16) t453) := ⟨(by rw [hw]; exact (by (with_reducible repeat (first | apply Kd.R_alloc | apply Kd.R_drewN | apply Kd.R_drew)); exact Kd.R_mono (Kd.R_far (p := ⟨gb452, 2, none⟩) (Kd.R_types HO456.out BK452.out (by decide)) (fun _ hk => hk.2) (.slice Ao16 t453.length co16)) (fun _ hk => trivial)))⟩; have n2_ : Aside0 (w18.heap[gb451]? = some (.cells #[.int .i32 ((rd_T82 l0 x13_1).f0.f0), .int .u32 ((rd_T82 l0 x13_1).f0.f1), .slice A450_2 ((rd_T82 l0 x13_1).f0.f2).length c450_2, .slice A450_3 ((rd_T82 l0 x13_1).f1).length c450_3] 82 (0, 0))) := ⟨(by rw [hw]; exact (by (with_reducible repeat (first | refine blk_drewN ?_ _ | refine blk_drew ?_ | refine blk_alloc ?_ _)); refine blk_far ?_ NB451_452.out _; (with_reducible repeat (first | refine blk_drewN ?_ _ | refine blk_drew ?_ | refine blk_alloc ?_ _)); exact BK451.out))⟩; have n3_ : Aside0 (w18.heap[gb452]? = some (.cells #[.int .i32 ((rd_T82 l0 x13_1).f0.f0), .int .u32 ((rd_T82 l0 x13_1).f0.f1), .slice Ao16 t453.length co16] 47 (0, 0))) := ⟨(by rw [hw]; exact (by (with_reducible repeat (first | refine blk_drewN ?_ _ | refine blk_drew ?_ | refine blk_alloc ?_ _)); refine blk_put (cs := #[.int .i32 ((rd_T82 l0 x13_1).f0.f0), .int .u32 ((rd_T82 l0 x13_1).f0.f1), .slice A450_2 ((rd_T82 l0 x13_1).f0.f2).length c450_2]) ?_ 2 _ rfl; (with_reducible repeat (first | refine blk_drewN ?_ _ | refine blk_drew ?_ | refine blk_alloc ?_ _)); exact BK452.out))⟩; have n4_ : Aside0 (Below w.heap.size w w18) := ⟨(by rw [hw]; exact (by repeat (first | (with_reducible first | exact HB.out | apply below_alloc | apply pw_below_drewN | apply below_drew1 | refine below_set ?_ GE451.out | refine below_set ?_ GE452.out) | exact HB.out)))⟩; clear hw; clear HO_7; clear HO456; clear BK451; clear BK452; clear HB; have HO_7 := n0_; have HO456 := n1_; have BK451 := n2_; have BK452 := n3_; have HB := n4_; clear n0_ n1_ n2_ n3_ n4_; have hz19 := bx3 BK452.out) | ((with_reducible refine gate_builtin (b := .append) (xs := #[.tmp 28, .tmp 30]) rfl ?_); at_builtin; refine Kd.S_append k47 (w0 := w) w.heap.size rfl (.tmp 28) (.tmp 30) 40 47 (.agg #[(.int .i32 0), (.int .u32 0), (.slice none 0 0)]) 32 rfl Try.underlying40 info47 rfl (by decide) (by omega) u7 x7_1 (⟨(rd_T82 l0 x13_1).f0.f0, (rd_T82 l0 x13_1).f0.f1, t453⟩ : S47) [.int .i32 ((rd_T82 l0 x13_1).f0.f0), .int .u32 ((rd_T82 l0 x13_1).f0.f1), .slice Ao16 t453.length co16] (fun k_ => k_ ≠ gb452) (fun k_ => some k_ = (.slice Ao16 t453.length co16 : Value).ownBlock) rfl rfl ?aP (fun k_ hk_ => ((Kd.R_mono (ok' := fun k_ => ((fun k_ => k_ ≠ gb452)) k_ ∧ some k_ ≠ (u7 : Value).ownBlock) (Kd.R_types (Kd.R_apart' (HO456.out) (Kd.S_typed HO_7.out) (by decide)) BK452.out (by decide)) (fun k_ hk => ⟨hk.2, hk.1.2⟩))).1 k_ hk_.symm) ?aF ?aO ?aB ?aS ?aL ?_; (case aP => exact k47_mkM _ _ _ (⟨(rd_T82 l0 x13_1).f0.f0, (rd_T82 l0 x13_1).f0.f1, t453⟩ : S47) (Kd.R_mono (Kd.R_tight rfl (Kd.R_mono (ok' := fun k_ => ((fun k_ => k_ ≠ gb452)) k_ ∧ some k_ ≠ (u7 : Value).ownBlock) (Kd.R_types (Kd.R_apart' (HO456.out) (Kd.S_typed HO_7.out) (by decide)) BK452.out (by decide)) (fun k_ hk => ⟨hk.2, hk.1.2⟩))) (fun _ h_ => h_))); (case aB => exact (by with_reducible exact HB.out)); (case aF => exact (fun k_ hk => Kd.freshB (g := gb452) (o := .cells #[.int .i32 ((rd_T82 l0 x13_1).f0.f0), .int .u32 ((rd_T82 l0 x13_1).f0.f1), .slice Ao16 t453.length co16] 47 (0, 0)) (by exact BK452.out) k_ hk)); (case aO => exact (by (with_reducible repeat (first | apply Kd.S_alloc | apply Kd.S_drewN | apply Kd.S_drew)); exact Kd.S_mono HO_7.out (fun k_ hk => ⟨hk.2, fun e_ => hk.1 e_⟩))); (case aS => exact (below_size (by with_reducible exact HB.out))); (case aL => have := LMc8.out; omega); intro v458 w20 ho hb hg hat; rw [← Ny457.out] at ho; have n0_ := Aside0.mk (blk_grown (g := gb451) (o := .cells #[.int .i32 ((rd_T82 l0 x13_1).f0.f0), .int .u32 ((rd_T82 l0 x13_1).f0.f1), .slice A450_2 ((rd_T82 l0 x13_1).f0.f2).length c450_2, .slice A450_3 ((rd_T82 l0 x13_1).f1).length c450_3] 82 (0, 0)) (by exact BK451.out) hg (Kd.S_ne HO_7.out BK451.out (by decide))); have n1_ := Aside0.mk (blk_grown (g := gb452) (o := .cells #[.int .i32 ((rd_T82 l0 x13_1).f0.f0), .int .u32 ((rd_T82 l0 x13_1).f0.f1), .slice Ao16 t453.length co16] 47 (0, 0)) (by exact BK452.out) hg (Kd.S_away HO_7.out (fun _ hk => hk.2))); have n2_ := Aside0.mk (hb); have n3_ := Aside0.mk (ho); clear BK451; clear BK452; clear HB; clear HO_7; clear HO456; have BK451 := n0_; have BK452 := n1_; have HB := n2_; have HO459 := n3_; clear n0_ n1_ n2_ n3_; clear ho hb hg hat))
    go_roundg k1
    case measure => have := HK1.out; omega
    case rel => exact ⟨(y457), (wrap64 (x13_1 + 1)), (by first | rfl | (simp; done) | (simp [*]; done)), H', ⟨by have := HK1.out; omega⟩, ⟨by exact Kd.S_mono HO459.out (fun _ hk => trivial)⟩, ⟨by with_reducible exact HB.out⟩⟩
   ·
    rw [if_neg c4] at H
    have c4b0 : decide (x13_1 < (l0.length : Int)) = false := decide_eq_false c4
    clear c4
    obtain rfl := Option.some.inj H
    go_wp2
    go_ret
    exact ⟨_, by first | rfl | (simp [errW_none, errW_some] <;> rfl) | (simp [*, errW_none, errW_some] <;> rfl), by exact HO_7.out, by with_reducible exact HB.out⟩

end Go.Proofs.Ytekenaclmplocaa.PPagePlaces
