-- Written by a program of this session (wip/tools/mkprint.py over the kit's print).
import Derived.Test.YtekenaclmplocaaPPagePlacesx0
import Derived.Test.YtekenaclmplocaaPPagePlacesx2
import Derived.Test.YtekenaclmplocaaPPagePlacesx4
import Derived.Test.YtekenaclmplocaaPPagePlacesx7
import Derived.Test.YtekenaclmplocaaPPagePlacesx8
import Derived.Test.YtekenaclmplocaaPPagePlacesx9
namespace Go.Proofs.Ytekenaclmplocaa.PPagePlaces
open Go.RowKit Go.Proofs.YtekenaclmplocaaW.PrintWords Go.Proofs.YtekenaclmplocaaW.PrintLast Go.Proofs.YtekenaclmplocaaW.PrintMore
attribute [local go_sem] max2_int min2_int max_two min_two max_three min_three max_four min_four   -- for this text's walks alone
set_option linter.unusedVariables false
set_option linter.unusedSimpArgs false

/-! ### page_Parse: function 15 -/
def page_Parse.j0 : Nat → List Int → Bool → Int → Int → Int → Int → Int → Int → Int → Option ((List (S75)) × Int)
 | 0, _, _, _, _, _, _, _, _, _ => none
 | k + 1, x304000, x304001, x317000, x317001, x317002, x317003, x317004, x317005, x317006 => (page_groups.f k x304000 x304001 x317003 x317002 x317000).bind fun bt323 => (if bt323.2.1 = 0 then ((page_groups.f k bt323.2.2.1 bt323.2.2.2 x317002 x317003 x317001).bind fun bt329 => (if bt329.2.1 = 0 then ((page_New.f k x317000 x317001 x317002 x317003 x317004 x317005 x317006 bt323.1 bt329.1).bind fun bt335 => (some (bt335.1, bt335.2))) else (some (([] : List (S75)), bt329.2.1)))) else (some (([] : List (S75)), bt323.2.1)))
def page_Parse.f (k : Nat) (l0 : List Int) : Option ((List (S75)) × Int) := (seal_Open.f k l0).bind fun bt297 => (if bt297.2 = 0 then ((seal_NewReader.f bt297.1).bind fun bt301 => ((seal_Reader_Num.f k bt301.1 bt301.2 1).bind fun bt304 => ((page_head.f k bt304.2.1 bt304.2.2).bind fun bt307 => ((seal_Reader_Short.f bt307.2.2.2.2.2.2.2.1 bt307.2.2.2.2.2.2.2.2).bind fun bt317 => (if bt317.1 = true then (some (([] : List (S75)), 16)) else (if bt304.1 = 75 then ((page_Right.f bt307.1 bt307.2.1 bt307.2.2.1 bt307.2.2.2.1 bt307.2.2.2.2.1 bt307.2.2.2.2.2.1 bt307.2.2.2.2.2.2.1).bind fun t320 => (if t320 = true then ((page_Size.f bt307.1 bt307.2.1 bt307.2.2.1 bt307.2.2.2.1 bt307.2.2.2.2.1 bt307.2.2.2.2.2.1 bt307.2.2.2.2.2.2.1).bind fun t321 => (if (l0.length : Int) < t321 then (some (([] : List (S75)), 16)) else ((page_Size.f bt307.1 bt307.2.1 bt307.2.2.1 bt307.2.2.2.1 bt307.2.2.2.2.1 bt307.2.2.2.2.2.1 bt307.2.2.2.2.2.2.1).bind fun t322 => (if (l0.length : Int) > t322 then (some (([] : List (S75)), 17)) else (page_Parse.j0 k bt317.2.1 bt317.2.2 bt307.1 bt307.2.1 bt307.2.2.1 bt307.2.2.2.1 bt307.2.2.2.2.1 bt307.2.2.2.2.2.1 bt307.2.2.2.2.2.2.1))))) else (some (([] : List (S75)), 11)))) else (some (([] : List (S75)), 10)))))))) else (some (([] : List (S75)), bt297.2)))
theorem page_Parse.mono_l : ∀ k, (∀ y0 y1 y2 y3 y4 y5 y6 y7 y8, LeO (page_Parse.j0 k y0 y1 y2 y3 y4 y5 y6 y7 y8) (page_Parse.j0 (k + 1) y0 y1 y2 y3 y4 y5 y6 y7 y8))
 | 0 => fun _ _ _ _ _ _ _ _ _ r h => by simp [page_Parse.j0] at h
 | k + 1 => by
  have ih0 := page_Parse.mono_l k
  ·
   intro y0 y1 y2 y3 y4 y5 y6 y7 y8
   unfold page_Parse.j0
   repeat' first
   | (with_reducible exact ih0 _ _ _ _ _ _ _ _ _)
   | (with_reducible exact page_New.mono _ _ _ _ _ _ _ _ _ _)
   | (with_reducible exact page_groups.mono _ _ _ _ _ _)
   | (with_reducible exact page_head.mono _ _ _)
   | (with_reducible exact seal_Open.mono _ _)
   | (with_reducible exact seal_Reader_Num.mono _ _ _ _)
   | (with_reducible exact LeO.refl _)
   | (with_reducible exact LeO.none _)
   | (with_reducible refine LeO.ite ?_ ?_)
   | (with_reducible refine LeO.bind ?_ (fun _ => ?_))
   | exact ih0 _ _ _ _ _ _ _ _ _
   | exact page_New.mono _ _ _ _ _ _ _ _ _ _
   | exact page_groups.mono _ _ _ _ _ _
   | exact page_head.mono _ _ _
   | exact seal_Open.mono _ _
   | exact seal_Reader_Num.mono _ _ _ _
   | exact LeO.none _
   | refine LeO.ite ?_ ?_
   | refine LeO.bind ?_ (fun _ => ?_)
theorem page_Parse.mono : ∀ a0 k, LeO (page_Parse.f k a0) (page_Parse.f (k + 1) a0) := by
 intro a0 k
 have ih0 := page_Parse.mono_l k
 unfold page_Parse.f
 repeat' first
   | (with_reducible exact ih0 _ _ _ _ _ _ _ _ _)
   | (with_reducible exact page_New.mono _ _ _ _ _ _ _ _ _ _)
   | (with_reducible exact page_groups.mono _ _ _ _ _ _)
   | (with_reducible exact page_head.mono _ _ _)
   | (with_reducible exact seal_Open.mono _ _)
   | (with_reducible exact seal_Reader_Num.mono _ _ _ _)
   | (with_reducible exact LeO.refl _)
   | (with_reducible exact LeO.none _)
   | (with_reducible refine LeO.ite ?_ ?_)
   | (with_reducible refine LeO.bind ?_ (fun _ => ?_))
   | exact ih0 _ _ _ _ _ _ _ _ _
   | exact page_New.mono _ _ _ _ _ _ _ _ _ _
   | exact page_groups.mono _ _ _ _ _ _
   | exact page_head.mono _ _ _
   | exact seal_Open.mono _ _
   | exact seal_Reader_Num.mono _ _ _ _
   | exact LeO.none _
   | refine LeO.ite ?_ ?_
   | refine LeO.bind ?_ (fun _ => ?_)
set_option maxHeartbeats 8000000 in
set_option maxRecDepth 100000 in
theorem page_Parse.calls (k : Nat) (A0 : Option Addr) (c0 : Nat) (l0 : List Int) (r1 : List (S75)) (r2 : Int) (w : World) (hr0 : Kd.C (Kd.int .u8) w A0 l0.length l0) (hc0 : l0.length ≤ c0) (h : page_Parse.f k l0 = some (r1, r2)) :
  Calls Try.prog 15 #[.slice A0 l0.length c0] w fun e w' => ∃ v0_ : Value, e = .returned (.tuple #[asPtr v0_, .int .i64 r2]) ∧ Kd.R k75 75 w' w.heap.size (fun _ => True) v0_ r1 ∧ Below w.heap.size w w' := by
 have hu23 := Try.underlying23
 have HR0 := Aside0.mk hr0
 have HC0 := Aside0.mk hc0
 clear hr0 hc0
 have HB := Aside0.mk (Below.refl w.heap.size w)
 have H := h
 clear h
 unfold page_Parse.f at H
 replace H := Option.bind_eq_some_iff.mp H
 obtain ⟨⟨t297, t298⟩, A20, H⟩ := H
 try dsimp only at H
 have A2 := Aside0.mk A20
 clear A20
 by_cases c3 : t298 = 0
 ·
  rw [if_pos c3] at H
  have c3b0 : (t298 == 0) = true := beq_iff_eq.mpr c3
  have c3b1 : (t298 != 0) = false := bne_eq_false_iff_eq.mpr c3
  clear c3
  replace H := Option.bind_eq_some_iff.mp H
  obtain ⟨⟨t301, t302⟩, A40, H⟩ := H
  try dsimp only at H
  have A4 := Aside0.mk A40
  clear A40
  replace H := Option.bind_eq_some_iff.mp H
  obtain ⟨⟨t304, t305, t306⟩, A50, H⟩ := H
  try dsimp only at H
  have A5 := Aside0.mk A50
  clear A50
  replace H := Option.bind_eq_some_iff.mp H
  obtain ⟨⟨t307, t308, t309, t310, t311, t312, t313, t314, t315⟩, A60, H⟩ := H
  try dsimp only at H
  have A6 := Aside0.mk A60
  clear A60
  have HC7 := Aside0.mk H
  clear H
  go_enter Try.func15, Try.ntmps15
  go_upto_block 0 with (first | ((with_reducible refine gate_callee (f := 37) rfl ?_); refine goesL_ (some 13) rfl rfl Try.func37 (by kernel_rfl) rfl #[.slice A0 l0.length c0] rfl (by (try simp only [List.map_toArray, List.map_cons, List.map_nil]); first | done | rfl | (simp only [List.length_drop, List.length_take]; rfl)) ?_; (with_reducible refine (seal_Open.calls k _ _ l0 t297 t298 _ ?side1 ?side2 A2.out).mono ?_); (case side1 => repeat (first | exact HR0.out | (with_reducible refine Kd.C_alloc ?_ _) | (with_reducible refine Kd.C_drewN ?_ _) | (with_reducible refine Kd.C_drew ?_))); (case side2 => exact HC0.out); rintro e w8 ⟨v299, rfl, ho0, hb⟩; refine ⟨_, rfl, ?_⟩; have n0_ := Aside0.mk (Kd.R_lower ho0 (below_size (by with_reducible exact HB.out))); have n1_ := Aside0.mk (below_step (by with_reducible exact HB.out) hb); clear HB; have HO300 := n0_; have HB := n1_; clear n0_ n1_; (try clear hb); (try clear hb2); (try clear hk); (try clear hi); (try clear ho0); obtain ⟨Ao9, co9, eo9⟩ := Kd.R_slice HO300.out; subst eo9) | ((with_reducible refine gate_callee (f := 38) rfl ?_); refine goesL_ (some 20) rfl rfl Try.func38 (by kernel_rfl) rfl #[.slice Ao9 t297.length co9] rfl (by (try simp only [List.map_toArray, List.map_cons, List.map_nil]); first | done | rfl | (simp only [List.length_drop, List.length_take]; rfl)) ?_; (with_reducible refine (seal_NewReader.calls _ _ t297 t301 t302 w _ ?side1 ?side2 ?side3 A4.out).mono ?_); (case side1 => with_reducible exact HB.out); (case side2 => repeat (first | exact (Kd.R_reads' HO300.out).2.2 | (with_reducible refine Kd.C_alloc ?_ _) | (with_reducible refine Kd.C_drewN ?_ _) | (with_reducible refine Kd.C_drew ?_))); (case side3 => exact (Kd.R_reads' HO300.out).2.1); rintro e w10 ⟨g303, rfl, hi, hb, hb2⟩; refine ⟨_, rfl, ?_⟩; have n0_ := Aside0.mk (Kd.R_below (by exact HO300.out) hb2); have n1_ := Aside0.mk (hb); have n2_ := Aside0.mk (hi); clear HO300; clear HB; have HO300 := n0_; have HB := n1_; have HI303 := n2_; clear n0_ n1_ n2_; (try clear hb); (try clear hb2); (try clear hk); (try clear hi)) | ((with_reducible refine gate_callee (f := 39) rfl ?_); refine goesL_ (some 22) rfl rfl Try.func39 (by kernel_rfl) rfl #[.pointer (some ⟨g303, 0, none⟩), .int .i64 1] rfl (by (try simp only [List.map_toArray, List.map_cons, List.map_nil]); first | done | rfl | (simp only [List.length_drop, List.length_take]; rfl)) ?_; (with_reducible refine (seal_Reader_Num.calls k g303 t301 t302 1 t304 t305 t306 w _ ?side1 ?side2 A5.out).mono ?_); (case side1 => with_reducible exact HI303.out); (case side2 => with_reducible exact HB.out); rintro e w11 ⟨rfl, hi, hb, hk⟩; refine ⟨_, rfl, ?_⟩; have n0_ := Aside0.mk (Kd.R_mono (Kd.R_keep (IsS122.apart (show IsS122 w _ g303 t301 t302 from by with_reducible exact HI303.out) (by exact HO300.out) (by decide)) hk (fun _ h => h.2)) (fun _ h => h.1)); have n1_ := Aside0.mk (hb); have n2_ := Aside0.mk (hi); clear HO300; clear HB; clear HI303; have HO300 := n0_; have HB := n1_; have HI303 := n2_; clear n0_ n1_ n2_; (try clear hb); (try clear hb2); (try clear hk); (try clear hi)) | ((with_reducible refine gate_callee (f := 40) rfl ?_); refine goesL_ (some 24) rfl rfl Try.func40 (by kernel_rfl) rfl #[.pointer (some ⟨g303, 0, none⟩)] rfl (by (try simp only [List.map_toArray, List.map_cons, List.map_nil]); first | done | rfl | (simp only [List.length_drop, List.length_take]; rfl)) ?_; (with_reducible refine (page_head.calls k g303 t305 t306 t307 t308 t309 t310 t311 t312 t313 t314 t315 w _ ?side1 ?side2 A6.out).mono ?_); (case side1 => with_reducible exact HI303.out); (case side2 => with_reducible exact HB.out); rintro e w12 ⟨rfl, hi, hb, hk⟩; refine ⟨_, rfl, ?_⟩; have n0_ := Aside0.mk (Kd.R_mono (Kd.R_keep (IsS122.apart (show IsS122 w _ g303 t305 t306 from by with_reducible exact HI303.out) (by exact HO300.out) (by decide)) hk (fun _ h => h.2)) (fun _ h => h.1)); have n1_ := Aside0.mk (hb); have n2_ := Aside0.mk (hi); clear HO300; clear HB; clear HI303; have HO300 := n0_; have HB := n1_; have HI303 := n2_; clear n0_ n1_ n2_; (try clear hb); (try clear hb2); (try clear hk); (try clear hi)) | ((with_reducible refine gate_dst (N := 8) rfl ?_); refine box_event ?hg (N := 8) ?hd (cs := #[.int .i64 0, .int .i64 0, .int .i64 0, .int .i64 0, .int .i64 0, .int .i64 0, .int .i64 0]) (t := 23) ?hr ?_; (case hd => rfl); (case hg => rfl); (case hr => first | (go_simp; done) | (go_simp; rfl)); intro gb316 hg w13 hbox hb; have n0_ := Aside0.mk (Kd.R_below (by exact HO300.out) hb); have n1_ := Aside0.mk (IsS122.below (by with_reducible exact HI303.out) hb); have n2_ := Aside0.mk (below_step (by with_reducible exact HB.out) hb); have n3_ := Aside0.mk (hbox); have n4_ := Aside0.mk ((by rw [hg]; exact (below_size (by with_reducible exact HB.out)) : w.heap.size ≤ gb316)); have n5_ := Aside0.mk ((by rw [hg]; exact (below_size (by with_reducible exact HB.out)) : w.heap.size ≤ gb316)); have n6_ := Aside0.mk ((by rw [hg]; exact (IsS122.lt (show IsS122 w _ g303 t314 t315 from by with_reducible exact HI303.out)) : g303 < gb316)); have n7_ := Aside0.mk ((by rw [hg]; exact Nat.ne_of_lt (IsS122.lt (show IsS122 w _ g303 t314 t315 from by with_reducible exact HI303.out)) : g303 ≠ gb316)); have n8_ := Aside0.mk ((by rw [hg]; exact Nat.ne_of_gt (IsS122.lt (show IsS122 w _ g303 t314 t315 from by with_reducible exact HI303.out)) : gb316 ≠ g303)); clear HO300; clear HI303; clear HB; have HO300 := n0_; have HI303 := n1_; have HB := n2_; have BK316 := n3_; have GW316 := n4_; have GE316 := n5_; have FB303_316 := n6_; have NB303_316 := n7_; have NB316_303 := n8_; clear n0_ n1_ n2_ n3_ n4_ n5_ n6_ n7_ n8_; clear hb hbox hg; have hnb14 := NB316_303.out; have hnc14 := NB303_316.out; have hz15 := bx7 BK316.out))
  (try simp only [Act.put, List.setIfInBounds_toArray, List.set_cons_zero, List.set_cons_succ])
  go_cut [] (fun wc => ∃ (kq : Nat) (x304000_6 : List Int) (x304001_6 : Bool), Aside0 (page_Parse.j0 kq x304000_6 x304001_6 t307 t308 t309 t310 t311 t312 t313 = some (r1, r2)) ∧ Aside0 (kq ≤ k) ∧ Aside0 (wc.heap[gb316]? = some (.cells #[.int .i64 t307, .int .i64 t308, .int .i64 t309, .int .i64 t310, .int .i64 t311, .int .i64 t312, .int .i64 t313] 23 (0, 0))) ∧ Aside0 (IsS122 w wc g303 x304000_6 x304001_6) ∧ Aside0 (Below w.heap.size w wc))
  case first =>
   have H := HC7.out
   clear HC7
   replace H := Option.bind_eq_some_iff.mp H
   obtain ⟨⟨t317, t318, t319⟩, A160, H⟩ := H
   try dsimp only at H
   have A16 := Aside0.mk A160
   clear A160
   by_cases c17 : t317 = true
   ·
    subst c17
    have H1 : (some (([] : List (S75)), 16)) = some (r1, r2) := by rw [if_pos rfl] at H; exact H
    clear H
    have H := H1
    clear H1
    simp only [Option.some.injEq, Prod.mk.injEq] at H
    obtain ⟨rfl, rfl⟩ := H
    go_wp2_with (first | ((with_reducible refine gate_callee (f := 41) rfl ?_); refine goesL_ (some 27) rfl rfl Try.func41 (by kernel_rfl) rfl #[.pointer (some ⟨g303, 0, none⟩)] rfl (by (try simp only [List.map_toArray, List.map_cons, List.map_nil]); first | done | rfl | (simp only [List.length_drop, List.length_take]; rfl)) ?_; (with_reducible refine (seal_Reader_Short.calls g303 t314 t315 true t318 t319 w _ ?side1 ?side2 A16.out).mono ?_); (case side1 => repeat (first | (with_reducible first | exact HI303.out | apply IsS122.alloc | apply IsS122.drewN | apply IsS122.drew | apply IsS122.set_1 | refine IsS122.far ?_ NB303_316.out FB303_316.out _) | exact HI303.out)); (case side2 => repeat (first | (with_reducible first | exact HB.out | apply below_alloc | apply pw_below_drewN | apply below_drew1 | refine below_set ?_ (IsS122.ge HI303.out) | refine below_set ?_ GE316.out) | exact HB.out)); rintro e w18 ⟨rfl, hi, hb, hk⟩; refine ⟨_, rfl, ?_⟩; replace HO300 := Aside0.mk (Kd.R_mono (Kd.R_keep (IsS122.apart (show IsS122 w _ g303 t314 t315 from by repeat (first | (with_reducible first | exact HI303.out | apply IsS122.alloc | apply IsS122.drewN | apply IsS122.drew | apply IsS122.set_1 | refine IsS122.far ?_ NB303_316.out FB303_316.out _) | exact HI303.out)) (by (with_reducible repeat (first | apply Kd.R_alloc | apply Kd.R_drewN | apply Kd.R_drew)); exact (Kd.R_mono (Kd.R_far (p := ⟨gb316, 6, none⟩) (Kd.R_far (p := ⟨gb316, 5, none⟩) (Kd.R_far (p := ⟨gb316, 4, none⟩) (Kd.R_far (p := ⟨gb316, 3, none⟩) (Kd.R_far (p := ⟨gb316, 2, none⟩) (Kd.R_far (p := ⟨gb316, 1, none⟩) (Kd.R_far (p := ⟨gb316, 0, none⟩) (Kd.R_types HO300.out BK316.out (by decide)) (fun _ hk => hk.2) (.int .i64 t307)) (fun _ hk => hk.2) (.int .i64 t308)) (fun _ hk => hk.2) (.int .i64 t309)) (fun _ hk => hk.2) (.int .i64 t310)) (fun _ hk => hk.2) (.int .i64 t311)) (fun _ hk => hk.2) (.int .i64 t312)) (fun _ hk => hk.2) (.int .i64 t313)) (fun _ h_ => h_.1))) (by decide)) hk (fun _ h => h.2)) (fun _ h => h.1)); replace BK316 := Aside0.mk (KeepBut.blk hk (g' := gb316) (o := .cells #[.int .i64 t307, .int .i64 t308, .int .i64 t309, .int .i64 t310, .int .i64 t311, .int .i64 t312, .int .i64 t313] 23 (0, 0)) (by (with_reducible repeat (first | refine blk_drewN ?_ _ | refine blk_drew ?_ | refine blk_alloc ?_ _)); refine blk_put (cs := #[.int .i64 t307, .int .i64 t308, .int .i64 t309, .int .i64 t310, .int .i64 t311, .int .i64 t312, .int .i64 0]) ?_ 6 _ rfl; (with_reducible repeat (first | refine blk_drewN ?_ _ | refine blk_drew ?_ | refine blk_alloc ?_ _)); refine blk_put (cs := #[.int .i64 t307, .int .i64 t308, .int .i64 t309, .int .i64 t310, .int .i64 t311, .int .i64 0, .int .i64 0]) ?_ 5 _ rfl; (with_reducible repeat (first | refine blk_drewN ?_ _ | refine blk_drew ?_ | refine blk_alloc ?_ _)); refine blk_put (cs := #[.int .i64 t307, .int .i64 t308, .int .i64 t309, .int .i64 t310, .int .i64 0, .int .i64 0, .int .i64 0]) ?_ 4 _ rfl; (with_reducible repeat (first | refine blk_drewN ?_ _ | refine blk_drew ?_ | refine blk_alloc ?_ _)); refine blk_put (cs := #[.int .i64 t307, .int .i64 t308, .int .i64 t309, .int .i64 0, .int .i64 0, .int .i64 0, .int .i64 0]) ?_ 3 _ rfl; (with_reducible repeat (first | refine blk_drewN ?_ _ | refine blk_drew ?_ | refine blk_alloc ?_ _)); refine blk_put (cs := #[.int .i64 t307, .int .i64 t308, .int .i64 0, .int .i64 0, .int .i64 0, .int .i64 0, .int .i64 0]) ?_ 2 _ rfl; (with_reducible repeat (first | refine blk_drewN ?_ _ | refine blk_drew ?_ | refine blk_alloc ?_ _)); refine blk_put (cs := #[.int .i64 t307, .int .i64 0, .int .i64 0, .int .i64 0, .int .i64 0, .int .i64 0, .int .i64 0]) ?_ 1 _ rfl; (with_reducible repeat (first | refine blk_drewN ?_ _ | refine blk_drew ?_ | refine blk_alloc ?_ _)); refine blk_put (cs := #[.int .i64 0, .int .i64 0, .int .i64 0, .int .i64 0, .int .i64 0, .int .i64 0, .int .i64 0]) ?_ 0 _ rfl; (with_reducible repeat (first | refine blk_drewN ?_ _ | refine blk_drew ?_ | refine blk_alloc ?_ _)); exact BK316.out) NB316_303.out (by simp)); replace HB := Aside0.mk (hb); replace HI303 := Aside0.mk (hi); clear hb hk hi))
    go_ret2
    exact ⟨(.slice none 0 0 : Value), by first | rfl | (simp [errW_none, errW_some] <;> rfl) | (simp [*, errW_none, errW_some] <;> rfl), by first | exact Kd.R_nil _ _ _ _ _ | exact Kd.N_nil _ _ _ _ _ | exact Kd.V_nil _ _ _ _ _ | exact Kd.Q_nil _ _ _ _ _ | exact Kd.S_nil _ _ _ _ _, by with_reducible exact HB.out⟩
   ·
    replace c17 := Bool.eq_false_iff.mpr c17
    subst c17
    have H1 : (if t304 = 75 then ((page_Right.f t307 t308 t309 t310 t311 t312 t313).bind fun t320 => (if t320 = true then ((page_Size.f t307 t308 t309 t310 t311 t312 t313).bind fun t321 => (if (l0.length : Int) < t321 then (some (([] : List (S75)), 16)) else ((page_Size.f t307 t308 t309 t310 t311 t312 t313).bind fun t322 => (if (l0.length : Int) > t322 then (some (([] : List (S75)), 17)) else (page_Parse.j0 k t318 t319 t307 t308 t309 t310 t311 t312 t313))))) else (some (([] : List (S75)), 11)))) else (some (([] : List (S75)), 10))) = some (r1, r2) := by rw [if_neg (show ¬ (false = true) by decide)] at H; exact H
    clear H
    have H := H1
    clear H1
    by_cases c19 : t304 = 75
    ·
     rw [if_pos c19] at H
     have c19b0 : (t304 == 75) = true := beq_iff_eq.mpr c19
     have c19b1 : (t304 != 75) = false := bne_eq_false_iff_eq.mpr c19
     clear c19
     (first | rw [c19b0] | (simp only [i64_w, i32_w]; rw [c19b0]) | skip)
     replace H := Option.bind_eq_some_iff.mp H
     obtain ⟨t320, A200, H⟩ := H
     have A20 := Aside0.mk A200
     clear A200
     by_cases c21 : t320 = true
     ·
      subst c21
      have H1 : ((page_Size.f t307 t308 t309 t310 t311 t312 t313).bind fun t321 => (if (l0.length : Int) < t321 then (some (([] : List (S75)), 16)) else ((page_Size.f t307 t308 t309 t310 t311 t312 t313).bind fun t322 => (if (l0.length : Int) > t322 then (some (([] : List (S75)), 17)) else (page_Parse.j0 k t318 t319 t307 t308 t309 t310 t311 t312 t313))))) = some (r1, r2) := by rw [if_pos rfl] at H; exact H
      clear H
      have H := H1
      clear H1
      replace H := Option.bind_eq_some_iff.mp H
      obtain ⟨t321, A220, H⟩ := H
      have A22 := Aside0.mk A220
      clear A220
      by_cases c23 : (l0.length : Int) < t321
      ·
       rw [if_pos c23] at H
       have c23b0 : decide ((l0.length : Int) < t321) = true := decide_eq_true c23
       clear c23
       simp only [Option.some.injEq, Prod.mk.injEq] at H
       obtain ⟨rfl, rfl⟩ := H
       go_wp2_with (first | ((with_reducible refine gate_callee (f := 41) rfl ?_); refine goesL_ (some 27) rfl rfl Try.func41 (by kernel_rfl) rfl #[.pointer (some ⟨g303, 0, none⟩)] rfl (by (try simp only [List.map_toArray, List.map_cons, List.map_nil]); first | done | rfl | (simp only [List.length_drop, List.length_take]; rfl)) ?_; (with_reducible refine (seal_Reader_Short.calls g303 t314 t315 false t318 t319 w _ ?side1 ?side2 A16.out).mono ?_); (case side1 => repeat (first | (with_reducible first | exact HI303.out | apply IsS122.alloc | apply IsS122.drewN | apply IsS122.drew | apply IsS122.set_1 | refine IsS122.far ?_ NB303_316.out FB303_316.out _) | exact HI303.out)); (case side2 => repeat (first | (with_reducible first | exact HB.out | apply below_alloc | apply pw_below_drewN | apply below_drew1 | refine below_set ?_ (IsS122.ge HI303.out) | refine below_set ?_ GE316.out) | exact HB.out)); rintro e w24 ⟨rfl, hi, hb, hk⟩; refine ⟨_, rfl, ?_⟩; replace HO300 := Aside0.mk (Kd.R_mono (Kd.R_keep (IsS122.apart (show IsS122 w _ g303 t314 t315 from by repeat (first | (with_reducible first | exact HI303.out | apply IsS122.alloc | apply IsS122.drewN | apply IsS122.drew | apply IsS122.set_1 | refine IsS122.far ?_ NB303_316.out FB303_316.out _) | exact HI303.out)) (by (with_reducible repeat (first | apply Kd.R_alloc | apply Kd.R_drewN | apply Kd.R_drew)); exact (Kd.R_mono (Kd.R_far (p := ⟨gb316, 6, none⟩) (Kd.R_far (p := ⟨gb316, 5, none⟩) (Kd.R_far (p := ⟨gb316, 4, none⟩) (Kd.R_far (p := ⟨gb316, 3, none⟩) (Kd.R_far (p := ⟨gb316, 2, none⟩) (Kd.R_far (p := ⟨gb316, 1, none⟩) (Kd.R_far (p := ⟨gb316, 0, none⟩) (Kd.R_types HO300.out BK316.out (by decide)) (fun _ hk => hk.2) (.int .i64 t307)) (fun _ hk => hk.2) (.int .i64 t308)) (fun _ hk => hk.2) (.int .i64 t309)) (fun _ hk => hk.2) (.int .i64 t310)) (fun _ hk => hk.2) (.int .i64 t311)) (fun _ hk => hk.2) (.int .i64 t312)) (fun _ hk => hk.2) (.int .i64 t313)) (fun _ h_ => h_.1))) (by decide)) hk (fun _ h => h.2)) (fun _ h => h.1)); replace BK316 := Aside0.mk (KeepBut.blk hk (g' := gb316) (o := .cells #[.int .i64 t307, .int .i64 t308, .int .i64 t309, .int .i64 t310, .int .i64 t311, .int .i64 t312, .int .i64 t313] 23 (0, 0)) (by (with_reducible repeat (first | refine blk_drewN ?_ _ | refine blk_drew ?_ | refine blk_alloc ?_ _)); refine blk_put (cs := #[.int .i64 t307, .int .i64 t308, .int .i64 t309, .int .i64 t310, .int .i64 t311, .int .i64 t312, .int .i64 0]) ?_ 6 _ rfl; (with_reducible repeat (first | refine blk_drewN ?_ _ | refine blk_drew ?_ | refine blk_alloc ?_ _)); refine blk_put (cs := #[.int .i64 t307, .int .i64 t308, .int .i64 t309, .int .i64 t310, .int .i64 t311, .int .i64 0, .int .i64 0]) ?_ 5 _ rfl; (with_reducible repeat (first | refine blk_drewN ?_ _ | refine blk_drew ?_ | refine blk_alloc ?_ _)); refine blk_put (cs := #[.int .i64 t307, .int .i64 t308, .int .i64 t309, .int .i64 t310, .int .i64 0, .int .i64 0, .int .i64 0]) ?_ 4 _ rfl; (with_reducible repeat (first | refine blk_drewN ?_ _ | refine blk_drew ?_ | refine blk_alloc ?_ _)); refine blk_put (cs := #[.int .i64 t307, .int .i64 t308, .int .i64 t309, .int .i64 0, .int .i64 0, .int .i64 0, .int .i64 0]) ?_ 3 _ rfl; (with_reducible repeat (first | refine blk_drewN ?_ _ | refine blk_drew ?_ | refine blk_alloc ?_ _)); refine blk_put (cs := #[.int .i64 t307, .int .i64 t308, .int .i64 0, .int .i64 0, .int .i64 0, .int .i64 0, .int .i64 0]) ?_ 2 _ rfl; (with_reducible repeat (first | refine blk_drewN ?_ _ | refine blk_drew ?_ | refine blk_alloc ?_ _)); refine blk_put (cs := #[.int .i64 t307, .int .i64 0, .int .i64 0, .int .i64 0, .int .i64 0, .int .i64 0, .int .i64 0]) ?_ 1 _ rfl; (with_reducible repeat (first | refine blk_drewN ?_ _ | refine blk_drew ?_ | refine blk_alloc ?_ _)); refine blk_put (cs := #[.int .i64 0, .int .i64 0, .int .i64 0, .int .i64 0, .int .i64 0, .int .i64 0, .int .i64 0]) ?_ 0 _ rfl; (with_reducible repeat (first | refine blk_drewN ?_ _ | refine blk_drew ?_ | refine blk_alloc ?_ _)); exact BK316.out) NB316_303.out (by simp)); replace HB := Aside0.mk (hb); replace HI303 := Aside0.mk (hi); clear hb hk hi; have hnb25 := NB316_303.out; have hnc25 := NB303_316.out; have hz26 := bx7 BK316.out) | ((with_reducible refine gate_callee (f := 23) rfl ?_); refine goesL_ (some 33) rfl rfl Try.func23 (by kernel_rfl) rfl #[.agg #[.int .i64 t307, .int .i64 t308, .int .i64 t309, .int .i64 t310, .int .i64 t311, .int .i64 t312, .int .i64 t313]] rfl (by (try simp only [List.map_toArray, List.map_cons, List.map_nil]); first | done | rfl | (simp only [List.length_drop, List.length_take]; rfl)) ?_; (with_reducible refine (page_Right.calls t307 t308 t309 t310 t311 t312 t313 true _ A20.out).mono ?_); rintro e w27 ⟨rfl, hb⟩; refine ⟨_, rfl, ?_⟩; replace HO300 := Aside0.mk (Kd.R_below (by exact HO300.out) hb); replace HI303 := Aside0.mk (IsS122.below (by with_reducible exact HI303.out) hb); replace BK316 := Aside0.mk (blk_below BK316.out hb); replace HB := Aside0.mk (below_step (by with_reducible exact HB.out) hb); clear hb; have hz28 := bx7 BK316.out) | ((with_reducible refine gate_callee (f := 26) rfl ?_); refine goesL_ (some 39) rfl rfl Try.func26 (by kernel_rfl) rfl #[.agg #[.int .i64 t307, .int .i64 t308, .int .i64 t309, .int .i64 t310, .int .i64 t311, .int .i64 t312, .int .i64 t313]] rfl (by (try simp only [List.map_toArray, List.map_cons, List.map_nil]); first | done | rfl | (simp only [List.length_drop, List.length_take]; rfl)) ?_; (with_reducible refine (page_Size.calls t307 t308 t309 t310 t311 t312 t313 t321 _ A22.out).mono ?_); rintro e w29 ⟨rfl, hb⟩; refine ⟨_, rfl, ?_⟩; replace HO300 := Aside0.mk (Kd.R_below (by exact HO300.out) hb); replace HI303 := Aside0.mk (IsS122.below (by with_reducible exact HI303.out) hb); replace BK316 := Aside0.mk (blk_below BK316.out hb); replace HB := Aside0.mk (below_step (by with_reducible exact HB.out) hb); clear hb))
       go_ret2
       exact ⟨(.slice none 0 0 : Value), by first | rfl | (simp [errW_none, errW_some] <;> rfl) | (simp [*, errW_none, errW_some] <;> rfl), by first | exact Kd.R_nil _ _ _ _ _ | exact Kd.N_nil _ _ _ _ _ | exact Kd.V_nil _ _ _ _ _ | exact Kd.Q_nil _ _ _ _ _ | exact Kd.S_nil _ _ _ _ _, by with_reducible exact HB.out⟩
      ·
       rw [if_neg c23] at H
       have c23b0 : decide ((l0.length : Int) < t321) = false := decide_eq_false c23
       clear c23
       replace H := Option.bind_eq_some_iff.mp H
       obtain ⟨t322, A300, H⟩ := H
       have A30 := Aside0.mk A300
       clear A300
       by_cases c31 : (l0.length : Int) > t322
       ·
        rw [if_pos c31] at H
        have c31b0 : decide (t322 < (l0.length : Int)) = true := decide_eq_true c31
        clear c31
        simp only [Option.some.injEq, Prod.mk.injEq] at H
        obtain ⟨rfl, rfl⟩ := H
        go_wp2_with (first | ((with_reducible refine gate_callee (f := 41) rfl ?_); refine goesL_ (some 27) rfl rfl Try.func41 (by kernel_rfl) rfl #[.pointer (some ⟨g303, 0, none⟩)] rfl (by (try simp only [List.map_toArray, List.map_cons, List.map_nil]); first | done | rfl | (simp only [List.length_drop, List.length_take]; rfl)) ?_; (with_reducible refine (seal_Reader_Short.calls g303 t314 t315 false t318 t319 w _ ?side1 ?side2 A16.out).mono ?_); (case side1 => repeat (first | (with_reducible first | exact HI303.out | apply IsS122.alloc | apply IsS122.drewN | apply IsS122.drew | apply IsS122.set_1 | refine IsS122.far ?_ NB303_316.out FB303_316.out _) | exact HI303.out)); (case side2 => repeat (first | (with_reducible first | exact HB.out | apply below_alloc | apply pw_below_drewN | apply below_drew1 | refine below_set ?_ (IsS122.ge HI303.out) | refine below_set ?_ GE316.out) | exact HB.out)); rintro e w32 ⟨rfl, hi, hb, hk⟩; refine ⟨_, rfl, ?_⟩; replace HO300 := Aside0.mk (Kd.R_mono (Kd.R_keep (IsS122.apart (show IsS122 w _ g303 t314 t315 from by repeat (first | (with_reducible first | exact HI303.out | apply IsS122.alloc | apply IsS122.drewN | apply IsS122.drew | apply IsS122.set_1 | refine IsS122.far ?_ NB303_316.out FB303_316.out _) | exact HI303.out)) (by (with_reducible repeat (first | apply Kd.R_alloc | apply Kd.R_drewN | apply Kd.R_drew)); exact (Kd.R_mono (Kd.R_far (p := ⟨gb316, 6, none⟩) (Kd.R_far (p := ⟨gb316, 5, none⟩) (Kd.R_far (p := ⟨gb316, 4, none⟩) (Kd.R_far (p := ⟨gb316, 3, none⟩) (Kd.R_far (p := ⟨gb316, 2, none⟩) (Kd.R_far (p := ⟨gb316, 1, none⟩) (Kd.R_far (p := ⟨gb316, 0, none⟩) (Kd.R_types HO300.out BK316.out (by decide)) (fun _ hk => hk.2) (.int .i64 t307)) (fun _ hk => hk.2) (.int .i64 t308)) (fun _ hk => hk.2) (.int .i64 t309)) (fun _ hk => hk.2) (.int .i64 t310)) (fun _ hk => hk.2) (.int .i64 t311)) (fun _ hk => hk.2) (.int .i64 t312)) (fun _ hk => hk.2) (.int .i64 t313)) (fun _ h_ => h_.1))) (by decide)) hk (fun _ h => h.2)) (fun _ h => h.1)); replace BK316 := Aside0.mk (KeepBut.blk hk (g' := gb316) (o := .cells #[.int .i64 t307, .int .i64 t308, .int .i64 t309, .int .i64 t310, .int .i64 t311, .int .i64 t312, .int .i64 t313] 23 (0, 0)) (by (with_reducible repeat (first | refine blk_drewN ?_ _ | refine blk_drew ?_ | refine blk_alloc ?_ _)); refine blk_put (cs := #[.int .i64 t307, .int .i64 t308, .int .i64 t309, .int .i64 t310, .int .i64 t311, .int .i64 t312, .int .i64 0]) ?_ 6 _ rfl; (with_reducible repeat (first | refine blk_drewN ?_ _ | refine blk_drew ?_ | refine blk_alloc ?_ _)); refine blk_put (cs := #[.int .i64 t307, .int .i64 t308, .int .i64 t309, .int .i64 t310, .int .i64 t311, .int .i64 0, .int .i64 0]) ?_ 5 _ rfl; (with_reducible repeat (first | refine blk_drewN ?_ _ | refine blk_drew ?_ | refine blk_alloc ?_ _)); refine blk_put (cs := #[.int .i64 t307, .int .i64 t308, .int .i64 t309, .int .i64 t310, .int .i64 0, .int .i64 0, .int .i64 0]) ?_ 4 _ rfl; (with_reducible repeat (first | refine blk_drewN ?_ _ | refine blk_drew ?_ | refine blk_alloc ?_ _)); refine blk_put (cs := #[.int .i64 t307, .int .i64 t308, .int .i64 t309, .int .i64 0, .int .i64 0, .int .i64 0, .int .i64 0]) ?_ 3 _ rfl; (with_reducible repeat (first | refine blk_drewN ?_ _ | refine blk_drew ?_ | refine blk_alloc ?_ _)); refine blk_put (cs := #[.int .i64 t307, .int .i64 t308, .int .i64 0, .int .i64 0, .int .i64 0, .int .i64 0, .int .i64 0]) ?_ 2 _ rfl; (with_reducible repeat (first | refine blk_drewN ?_ _ | refine blk_drew ?_ | refine blk_alloc ?_ _)); refine blk_put (cs := #[.int .i64 t307, .int .i64 0, .int .i64 0, .int .i64 0, .int .i64 0, .int .i64 0, .int .i64 0]) ?_ 1 _ rfl; (with_reducible repeat (first | refine blk_drewN ?_ _ | refine blk_drew ?_ | refine blk_alloc ?_ _)); refine blk_put (cs := #[.int .i64 0, .int .i64 0, .int .i64 0, .int .i64 0, .int .i64 0, .int .i64 0, .int .i64 0]) ?_ 0 _ rfl; (with_reducible repeat (first | refine blk_drewN ?_ _ | refine blk_drew ?_ | refine blk_alloc ?_ _)); exact BK316.out) NB316_303.out (by simp)); replace HB := Aside0.mk (hb); replace HI303 := Aside0.mk (hi); clear hb hk hi; have hnb33 := NB316_303.out; have hnc33 := NB303_316.out; have hz34 := bx7 BK316.out) | ((with_reducible refine gate_callee (f := 23) rfl ?_); refine goesL_ (some 33) rfl rfl Try.func23 (by kernel_rfl) rfl #[.agg #[.int .i64 t307, .int .i64 t308, .int .i64 t309, .int .i64 t310, .int .i64 t311, .int .i64 t312, .int .i64 t313]] rfl (by (try simp only [List.map_toArray, List.map_cons, List.map_nil]); first | done | rfl | (simp only [List.length_drop, List.length_take]; rfl)) ?_; (with_reducible refine (page_Right.calls t307 t308 t309 t310 t311 t312 t313 true _ A20.out).mono ?_); rintro e w35 ⟨rfl, hb⟩; refine ⟨_, rfl, ?_⟩; replace HO300 := Aside0.mk (Kd.R_below (by exact HO300.out) hb); replace HI303 := Aside0.mk (IsS122.below (by with_reducible exact HI303.out) hb); replace BK316 := Aside0.mk (blk_below BK316.out hb); replace HB := Aside0.mk (below_step (by with_reducible exact HB.out) hb); clear hb; have hz36 := bx7 BK316.out) | ((with_reducible refine gate_callee (f := 26) rfl ?_); refine goesL_ (some 39) rfl rfl Try.func26 (by kernel_rfl) rfl #[.agg #[.int .i64 t307, .int .i64 t308, .int .i64 t309, .int .i64 t310, .int .i64 t311, .int .i64 t312, .int .i64 t313]] rfl (by (try simp only [List.map_toArray, List.map_cons, List.map_nil]); first | done | rfl | (simp only [List.length_drop, List.length_take]; rfl)) ?_; (with_reducible refine (page_Size.calls t307 t308 t309 t310 t311 t312 t313 t321 _ A22.out).mono ?_); rintro e w37 ⟨rfl, hb⟩; refine ⟨_, rfl, ?_⟩; replace HO300 := Aside0.mk (Kd.R_below (by exact HO300.out) hb); replace HI303 := Aside0.mk (IsS122.below (by with_reducible exact HI303.out) hb); replace BK316 := Aside0.mk (blk_below BK316.out hb); replace HB := Aside0.mk (below_step (by with_reducible exact HB.out) hb); clear hb; have hz38 := bx7 BK316.out) | ((with_reducible refine gate_callee (f := 26) rfl ?_); refine goesL_ (some 45) rfl rfl Try.func26 (by kernel_rfl) rfl #[.agg #[.int .i64 t307, .int .i64 t308, .int .i64 t309, .int .i64 t310, .int .i64 t311, .int .i64 t312, .int .i64 t313]] rfl (by (try simp only [List.map_toArray, List.map_cons, List.map_nil]); first | done | rfl | (simp only [List.length_drop, List.length_take]; rfl)) ?_; (with_reducible refine (page_Size.calls t307 t308 t309 t310 t311 t312 t313 t322 _ A30.out).mono ?_); rintro e w39 ⟨rfl, hb⟩; refine ⟨_, rfl, ?_⟩; replace HO300 := Aside0.mk (Kd.R_below (by exact HO300.out) hb); replace HI303 := Aside0.mk (IsS122.below (by with_reducible exact HI303.out) hb); replace BK316 := Aside0.mk (blk_below BK316.out hb); replace HB := Aside0.mk (below_step (by with_reducible exact HB.out) hb); clear hb))
        go_ret2
        exact ⟨(.slice none 0 0 : Value), by first | rfl | (simp [errW_none, errW_some] <;> rfl) | (simp [*, errW_none, errW_some] <;> rfl), by first | exact Kd.R_nil _ _ _ _ _ | exact Kd.N_nil _ _ _ _ _ | exact Kd.V_nil _ _ _ _ _ | exact Kd.Q_nil _ _ _ _ _ | exact Kd.S_nil _ _ _ _ _, by with_reducible exact HB.out⟩
       ·
        rw [if_neg c31] at H
        have c31b0 : decide (t322 < (l0.length : Int)) = false := decide_eq_false c31
        clear c31
        have H' := Aside0.mk H
        clear H
        go_wp2_with (first | ((with_reducible refine gate_callee (f := 41) rfl ?_); refine goesL_ (some 27) rfl rfl Try.func41 (by kernel_rfl) rfl #[.pointer (some ⟨g303, 0, none⟩)] rfl (by (try simp only [List.map_toArray, List.map_cons, List.map_nil]); first | done | rfl | (simp only [List.length_drop, List.length_take]; rfl)) ?_; (with_reducible refine (seal_Reader_Short.calls g303 t314 t315 false t318 t319 w _ ?side1 ?side2 A16.out).mono ?_); (case side1 => repeat (first | (with_reducible first | exact HI303.out | apply IsS122.alloc | apply IsS122.drewN | apply IsS122.drew | apply IsS122.set_1 | refine IsS122.far ?_ NB303_316.out FB303_316.out _) | exact HI303.out)); (case side2 => repeat (first | (with_reducible first | exact HB.out | apply below_alloc | apply pw_below_drewN | apply below_drew1 | refine below_set ?_ (IsS122.ge HI303.out) | refine below_set ?_ GE316.out) | exact HB.out)); rintro e w40 ⟨rfl, hi, hb, hk⟩; refine ⟨_, rfl, ?_⟩; replace HO300 := Aside0.mk (Kd.R_mono (Kd.R_keep (IsS122.apart (show IsS122 w _ g303 t314 t315 from by repeat (first | (with_reducible first | exact HI303.out | apply IsS122.alloc | apply IsS122.drewN | apply IsS122.drew | apply IsS122.set_1 | refine IsS122.far ?_ NB303_316.out FB303_316.out _) | exact HI303.out)) (by (with_reducible repeat (first | apply Kd.R_alloc | apply Kd.R_drewN | apply Kd.R_drew)); exact (Kd.R_mono (Kd.R_far (p := ⟨gb316, 6, none⟩) (Kd.R_far (p := ⟨gb316, 5, none⟩) (Kd.R_far (p := ⟨gb316, 4, none⟩) (Kd.R_far (p := ⟨gb316, 3, none⟩) (Kd.R_far (p := ⟨gb316, 2, none⟩) (Kd.R_far (p := ⟨gb316, 1, none⟩) (Kd.R_far (p := ⟨gb316, 0, none⟩) (Kd.R_types HO300.out BK316.out (by decide)) (fun _ hk => hk.2) (.int .i64 t307)) (fun _ hk => hk.2) (.int .i64 t308)) (fun _ hk => hk.2) (.int .i64 t309)) (fun _ hk => hk.2) (.int .i64 t310)) (fun _ hk => hk.2) (.int .i64 t311)) (fun _ hk => hk.2) (.int .i64 t312)) (fun _ hk => hk.2) (.int .i64 t313)) (fun _ h_ => h_.1))) (by decide)) hk (fun _ h => h.2)) (fun _ h => h.1)); replace BK316 := Aside0.mk (KeepBut.blk hk (g' := gb316) (o := .cells #[.int .i64 t307, .int .i64 t308, .int .i64 t309, .int .i64 t310, .int .i64 t311, .int .i64 t312, .int .i64 t313] 23 (0, 0)) (by (with_reducible repeat (first | refine blk_drewN ?_ _ | refine blk_drew ?_ | refine blk_alloc ?_ _)); refine blk_put (cs := #[.int .i64 t307, .int .i64 t308, .int .i64 t309, .int .i64 t310, .int .i64 t311, .int .i64 t312, .int .i64 0]) ?_ 6 _ rfl; (with_reducible repeat (first | refine blk_drewN ?_ _ | refine blk_drew ?_ | refine blk_alloc ?_ _)); refine blk_put (cs := #[.int .i64 t307, .int .i64 t308, .int .i64 t309, .int .i64 t310, .int .i64 t311, .int .i64 0, .int .i64 0]) ?_ 5 _ rfl; (with_reducible repeat (first | refine blk_drewN ?_ _ | refine blk_drew ?_ | refine blk_alloc ?_ _)); refine blk_put (cs := #[.int .i64 t307, .int .i64 t308, .int .i64 t309, .int .i64 t310, .int .i64 0, .int .i64 0, .int .i64 0]) ?_ 4 _ rfl; (with_reducible repeat (first | refine blk_drewN ?_ _ | refine blk_drew ?_ | refine blk_alloc ?_ _)); refine blk_put (cs := #[.int .i64 t307, .int .i64 t308, .int .i64 t309, .int .i64 0, .int .i64 0, .int .i64 0, .int .i64 0]) ?_ 3 _ rfl; (with_reducible repeat (first | refine blk_drewN ?_ _ | refine blk_drew ?_ | refine blk_alloc ?_ _)); refine blk_put (cs := #[.int .i64 t307, .int .i64 t308, .int .i64 0, .int .i64 0, .int .i64 0, .int .i64 0, .int .i64 0]) ?_ 2 _ rfl; (with_reducible repeat (first | refine blk_drewN ?_ _ | refine blk_drew ?_ | refine blk_alloc ?_ _)); refine blk_put (cs := #[.int .i64 t307, .int .i64 0, .int .i64 0, .int .i64 0, .int .i64 0, .int .i64 0, .int .i64 0]) ?_ 1 _ rfl; (with_reducible repeat (first | refine blk_drewN ?_ _ | refine blk_drew ?_ | refine blk_alloc ?_ _)); refine blk_put (cs := #[.int .i64 0, .int .i64 0, .int .i64 0, .int .i64 0, .int .i64 0, .int .i64 0, .int .i64 0]) ?_ 0 _ rfl; (with_reducible repeat (first | refine blk_drewN ?_ _ | refine blk_drew ?_ | refine blk_alloc ?_ _)); exact BK316.out) NB316_303.out (by simp)); replace HB := Aside0.mk (hb); replace HI303 := Aside0.mk (hi); clear hb hk hi; have hnb41 := NB316_303.out; have hnc41 := NB303_316.out; have hz42 := bx7 BK316.out) | ((with_reducible refine gate_callee (f := 23) rfl ?_); refine goesL_ (some 33) rfl rfl Try.func23 (by kernel_rfl) rfl #[.agg #[.int .i64 t307, .int .i64 t308, .int .i64 t309, .int .i64 t310, .int .i64 t311, .int .i64 t312, .int .i64 t313]] rfl (by (try simp only [List.map_toArray, List.map_cons, List.map_nil]); first | done | rfl | (simp only [List.length_drop, List.length_take]; rfl)) ?_; (with_reducible refine (page_Right.calls t307 t308 t309 t310 t311 t312 t313 true _ A20.out).mono ?_); rintro e w43 ⟨rfl, hb⟩; refine ⟨_, rfl, ?_⟩; replace HO300 := Aside0.mk (Kd.R_below (by exact HO300.out) hb); replace HI303 := Aside0.mk (IsS122.below (by with_reducible exact HI303.out) hb); replace BK316 := Aside0.mk (blk_below BK316.out hb); replace HB := Aside0.mk (below_step (by with_reducible exact HB.out) hb); clear hb; have hz44 := bx7 BK316.out) | ((with_reducible refine gate_callee (f := 26) rfl ?_); refine goesL_ (some 39) rfl rfl Try.func26 (by kernel_rfl) rfl #[.agg #[.int .i64 t307, .int .i64 t308, .int .i64 t309, .int .i64 t310, .int .i64 t311, .int .i64 t312, .int .i64 t313]] rfl (by (try simp only [List.map_toArray, List.map_cons, List.map_nil]); first | done | rfl | (simp only [List.length_drop, List.length_take]; rfl)) ?_; (with_reducible refine (page_Size.calls t307 t308 t309 t310 t311 t312 t313 t321 _ A22.out).mono ?_); rintro e w45 ⟨rfl, hb⟩; refine ⟨_, rfl, ?_⟩; replace HO300 := Aside0.mk (Kd.R_below (by exact HO300.out) hb); replace HI303 := Aside0.mk (IsS122.below (by with_reducible exact HI303.out) hb); replace BK316 := Aside0.mk (blk_below BK316.out hb); replace HB := Aside0.mk (below_step (by with_reducible exact HB.out) hb); clear hb; have hz46 := bx7 BK316.out) | ((with_reducible refine gate_callee (f := 26) rfl ?_); refine goesL_ (some 45) rfl rfl Try.func26 (by kernel_rfl) rfl #[.agg #[.int .i64 t307, .int .i64 t308, .int .i64 t309, .int .i64 t310, .int .i64 t311, .int .i64 t312, .int .i64 t313]] rfl (by (try simp only [List.map_toArray, List.map_cons, List.map_nil]); first | done | rfl | (simp only [List.length_drop, List.length_take]; rfl)) ?_; (with_reducible refine (page_Size.calls t307 t308 t309 t310 t311 t312 t313 t322 _ A30.out).mono ?_); rintro e w47 ⟨rfl, hb⟩; refine ⟨_, rfl, ?_⟩; replace HO300 := Aside0.mk (Kd.R_below (by exact HO300.out) hb); replace HI303 := Aside0.mk (IsS122.below (by with_reducible exact HI303.out) hb); replace BK316 := Aside0.mk (blk_below BK316.out hb); replace HB := Aside0.mk (below_step (by with_reducible exact HB.out) hb); clear hb))
        go_meet
        case rel => exact ⟨_, (t318), (t319), H', ⟨by first | omega | exact Nat.le_refl _⟩, ⟨by exact BK316.out⟩, ⟨by with_reducible exact HI303.out⟩, ⟨by with_reducible exact HB.out⟩⟩
     ·
      replace c21 := Bool.eq_false_iff.mpr c21
      subst c21
      have H1 : (some (([] : List (S75)), 11)) = some (r1, r2) := by rw [if_neg (show ¬ (false = true) by decide)] at H; exact H
      clear H
      have H := H1
      clear H1
      simp only [Option.some.injEq, Prod.mk.injEq] at H
      obtain ⟨rfl, rfl⟩ := H
      go_wp2_with (first | ((with_reducible refine gate_callee (f := 41) rfl ?_); refine goesL_ (some 27) rfl rfl Try.func41 (by kernel_rfl) rfl #[.pointer (some ⟨g303, 0, none⟩)] rfl (by (try simp only [List.map_toArray, List.map_cons, List.map_nil]); first | done | rfl | (simp only [List.length_drop, List.length_take]; rfl)) ?_; (with_reducible refine (seal_Reader_Short.calls g303 t314 t315 false t318 t319 w _ ?side1 ?side2 A16.out).mono ?_); (case side1 => repeat (first | (with_reducible first | exact HI303.out | apply IsS122.alloc | apply IsS122.drewN | apply IsS122.drew | apply IsS122.set_1 | refine IsS122.far ?_ NB303_316.out FB303_316.out _) | exact HI303.out)); (case side2 => repeat (first | (with_reducible first | exact HB.out | apply below_alloc | apply pw_below_drewN | apply below_drew1 | refine below_set ?_ (IsS122.ge HI303.out) | refine below_set ?_ GE316.out) | exact HB.out)); rintro e w48 ⟨rfl, hi, hb, hk⟩; refine ⟨_, rfl, ?_⟩; replace HO300 := Aside0.mk (Kd.R_mono (Kd.R_keep (IsS122.apart (show IsS122 w _ g303 t314 t315 from by repeat (first | (with_reducible first | exact HI303.out | apply IsS122.alloc | apply IsS122.drewN | apply IsS122.drew | apply IsS122.set_1 | refine IsS122.far ?_ NB303_316.out FB303_316.out _) | exact HI303.out)) (by (with_reducible repeat (first | apply Kd.R_alloc | apply Kd.R_drewN | apply Kd.R_drew)); exact (Kd.R_mono (Kd.R_far (p := ⟨gb316, 6, none⟩) (Kd.R_far (p := ⟨gb316, 5, none⟩) (Kd.R_far (p := ⟨gb316, 4, none⟩) (Kd.R_far (p := ⟨gb316, 3, none⟩) (Kd.R_far (p := ⟨gb316, 2, none⟩) (Kd.R_far (p := ⟨gb316, 1, none⟩) (Kd.R_far (p := ⟨gb316, 0, none⟩) (Kd.R_types HO300.out BK316.out (by decide)) (fun _ hk => hk.2) (.int .i64 t307)) (fun _ hk => hk.2) (.int .i64 t308)) (fun _ hk => hk.2) (.int .i64 t309)) (fun _ hk => hk.2) (.int .i64 t310)) (fun _ hk => hk.2) (.int .i64 t311)) (fun _ hk => hk.2) (.int .i64 t312)) (fun _ hk => hk.2) (.int .i64 t313)) (fun _ h_ => h_.1))) (by decide)) hk (fun _ h => h.2)) (fun _ h => h.1)); replace BK316 := Aside0.mk (KeepBut.blk hk (g' := gb316) (o := .cells #[.int .i64 t307, .int .i64 t308, .int .i64 t309, .int .i64 t310, .int .i64 t311, .int .i64 t312, .int .i64 t313] 23 (0, 0)) (by (with_reducible repeat (first | refine blk_drewN ?_ _ | refine blk_drew ?_ | refine blk_alloc ?_ _)); refine blk_put (cs := #[.int .i64 t307, .int .i64 t308, .int .i64 t309, .int .i64 t310, .int .i64 t311, .int .i64 t312, .int .i64 0]) ?_ 6 _ rfl; (with_reducible repeat (first | refine blk_drewN ?_ _ | refine blk_drew ?_ | refine blk_alloc ?_ _)); refine blk_put (cs := #[.int .i64 t307, .int .i64 t308, .int .i64 t309, .int .i64 t310, .int .i64 t311, .int .i64 0, .int .i64 0]) ?_ 5 _ rfl; (with_reducible repeat (first | refine blk_drewN ?_ _ | refine blk_drew ?_ | refine blk_alloc ?_ _)); refine blk_put (cs := #[.int .i64 t307, .int .i64 t308, .int .i64 t309, .int .i64 t310, .int .i64 0, .int .i64 0, .int .i64 0]) ?_ 4 _ rfl; (with_reducible repeat (first | refine blk_drewN ?_ _ | refine blk_drew ?_ | refine blk_alloc ?_ _)); refine blk_put (cs := #[.int .i64 t307, .int .i64 t308, .int .i64 t309, .int .i64 0, .int .i64 0, .int .i64 0, .int .i64 0]) ?_ 3 _ rfl; (with_reducible repeat (first | refine blk_drewN ?_ _ | refine blk_drew ?_ | refine blk_alloc ?_ _)); refine blk_put (cs := #[.int .i64 t307, .int .i64 t308, .int .i64 0, .int .i64 0, .int .i64 0, .int .i64 0, .int .i64 0]) ?_ 2 _ rfl; (with_reducible repeat (first | refine blk_drewN ?_ _ | refine blk_drew ?_ | refine blk_alloc ?_ _)); refine blk_put (cs := #[.int .i64 t307, .int .i64 0, .int .i64 0, .int .i64 0, .int .i64 0, .int .i64 0, .int .i64 0]) ?_ 1 _ rfl; (with_reducible repeat (first | refine blk_drewN ?_ _ | refine blk_drew ?_ | refine blk_alloc ?_ _)); refine blk_put (cs := #[.int .i64 0, .int .i64 0, .int .i64 0, .int .i64 0, .int .i64 0, .int .i64 0, .int .i64 0]) ?_ 0 _ rfl; (with_reducible repeat (first | refine blk_drewN ?_ _ | refine blk_drew ?_ | refine blk_alloc ?_ _)); exact BK316.out) NB316_303.out (by simp)); replace HB := Aside0.mk (hb); replace HI303 := Aside0.mk (hi); clear hb hk hi; have hnb49 := NB316_303.out; have hnc49 := NB303_316.out; have hz50 := bx7 BK316.out) | ((with_reducible refine gate_callee (f := 23) rfl ?_); refine goesL_ (some 33) rfl rfl Try.func23 (by kernel_rfl) rfl #[.agg #[.int .i64 t307, .int .i64 t308, .int .i64 t309, .int .i64 t310, .int .i64 t311, .int .i64 t312, .int .i64 t313]] rfl (by (try simp only [List.map_toArray, List.map_cons, List.map_nil]); first | done | rfl | (simp only [List.length_drop, List.length_take]; rfl)) ?_; (with_reducible refine (page_Right.calls t307 t308 t309 t310 t311 t312 t313 false _ A20.out).mono ?_); rintro e w51 ⟨rfl, hb⟩; refine ⟨_, rfl, ?_⟩; replace HO300 := Aside0.mk (Kd.R_below (by exact HO300.out) hb); replace HI303 := Aside0.mk (IsS122.below (by with_reducible exact HI303.out) hb); replace BK316 := Aside0.mk (blk_below BK316.out hb); replace HB := Aside0.mk (below_step (by with_reducible exact HB.out) hb); clear hb))
      go_ret2
      exact ⟨(.slice none 0 0 : Value), by first | rfl | (simp [errW_none, errW_some] <;> rfl) | (simp [*, errW_none, errW_some] <;> rfl), by first | exact Kd.R_nil _ _ _ _ _ | exact Kd.N_nil _ _ _ _ _ | exact Kd.V_nil _ _ _ _ _ | exact Kd.Q_nil _ _ _ _ _ | exact Kd.S_nil _ _ _ _ _, by with_reducible exact HB.out⟩
    ·
     rw [if_neg c19] at H
     have c19b0 : (t304 == 75) = false := beq_eq_false_iff_ne.mpr c19
     have c19b1 : (t304 != 75) = true := bne_iff_ne.mpr c19
     (first | rw [c19b0] | (simp only [i64_w, i32_w]; rw [c19b0]) | skip)
     simp only [Option.some.injEq, Prod.mk.injEq] at H
     obtain ⟨rfl, rfl⟩ := H
     go_wp2_with (first | ((with_reducible refine gate_callee (f := 41) rfl ?_); refine goesL_ (some 27) rfl rfl Try.func41 (by kernel_rfl) rfl #[.pointer (some ⟨g303, 0, none⟩)] rfl (by (try simp only [List.map_toArray, List.map_cons, List.map_nil]); first | done | rfl | (simp only [List.length_drop, List.length_take]; rfl)) ?_; (with_reducible refine (seal_Reader_Short.calls g303 t314 t315 false t318 t319 w _ ?side1 ?side2 A16.out).mono ?_); (case side1 => repeat (first | (with_reducible first | exact HI303.out | apply IsS122.alloc | apply IsS122.drewN | apply IsS122.drew | apply IsS122.set_1 | refine IsS122.far ?_ NB303_316.out FB303_316.out _) | exact HI303.out)); (case side2 => repeat (first | (with_reducible first | exact HB.out | apply below_alloc | apply pw_below_drewN | apply below_drew1 | refine below_set ?_ (IsS122.ge HI303.out) | refine below_set ?_ GE316.out) | exact HB.out)); rintro e w52 ⟨rfl, hi, hb, hk⟩; refine ⟨_, rfl, ?_⟩; replace HO300 := Aside0.mk (Kd.R_mono (Kd.R_keep (IsS122.apart (show IsS122 w _ g303 t314 t315 from by repeat (first | (with_reducible first | exact HI303.out | apply IsS122.alloc | apply IsS122.drewN | apply IsS122.drew | apply IsS122.set_1 | refine IsS122.far ?_ NB303_316.out FB303_316.out _) | exact HI303.out)) (by (with_reducible repeat (first | apply Kd.R_alloc | apply Kd.R_drewN | apply Kd.R_drew)); exact (Kd.R_mono (Kd.R_far (p := ⟨gb316, 6, none⟩) (Kd.R_far (p := ⟨gb316, 5, none⟩) (Kd.R_far (p := ⟨gb316, 4, none⟩) (Kd.R_far (p := ⟨gb316, 3, none⟩) (Kd.R_far (p := ⟨gb316, 2, none⟩) (Kd.R_far (p := ⟨gb316, 1, none⟩) (Kd.R_far (p := ⟨gb316, 0, none⟩) (Kd.R_types HO300.out BK316.out (by decide)) (fun _ hk => hk.2) (.int .i64 t307)) (fun _ hk => hk.2) (.int .i64 t308)) (fun _ hk => hk.2) (.int .i64 t309)) (fun _ hk => hk.2) (.int .i64 t310)) (fun _ hk => hk.2) (.int .i64 t311)) (fun _ hk => hk.2) (.int .i64 t312)) (fun _ hk => hk.2) (.int .i64 t313)) (fun _ h_ => h_.1))) (by decide)) hk (fun _ h => h.2)) (fun _ h => h.1)); replace BK316 := Aside0.mk (KeepBut.blk hk (g' := gb316) (o := .cells #[.int .i64 t307, .int .i64 t308, .int .i64 t309, .int .i64 t310, .int .i64 t311, .int .i64 t312, .int .i64 t313] 23 (0, 0)) (by (with_reducible repeat (first | refine blk_drewN ?_ _ | refine blk_drew ?_ | refine blk_alloc ?_ _)); refine blk_put (cs := #[.int .i64 t307, .int .i64 t308, .int .i64 t309, .int .i64 t310, .int .i64 t311, .int .i64 t312, .int .i64 0]) ?_ 6 _ rfl; (with_reducible repeat (first | refine blk_drewN ?_ _ | refine blk_drew ?_ | refine blk_alloc ?_ _)); refine blk_put (cs := #[.int .i64 t307, .int .i64 t308, .int .i64 t309, .int .i64 t310, .int .i64 t311, .int .i64 0, .int .i64 0]) ?_ 5 _ rfl; (with_reducible repeat (first | refine blk_drewN ?_ _ | refine blk_drew ?_ | refine blk_alloc ?_ _)); refine blk_put (cs := #[.int .i64 t307, .int .i64 t308, .int .i64 t309, .int .i64 t310, .int .i64 0, .int .i64 0, .int .i64 0]) ?_ 4 _ rfl; (with_reducible repeat (first | refine blk_drewN ?_ _ | refine blk_drew ?_ | refine blk_alloc ?_ _)); refine blk_put (cs := #[.int .i64 t307, .int .i64 t308, .int .i64 t309, .int .i64 0, .int .i64 0, .int .i64 0, .int .i64 0]) ?_ 3 _ rfl; (with_reducible repeat (first | refine blk_drewN ?_ _ | refine blk_drew ?_ | refine blk_alloc ?_ _)); refine blk_put (cs := #[.int .i64 t307, .int .i64 t308, .int .i64 0, .int .i64 0, .int .i64 0, .int .i64 0, .int .i64 0]) ?_ 2 _ rfl; (with_reducible repeat (first | refine blk_drewN ?_ _ | refine blk_drew ?_ | refine blk_alloc ?_ _)); refine blk_put (cs := #[.int .i64 t307, .int .i64 0, .int .i64 0, .int .i64 0, .int .i64 0, .int .i64 0, .int .i64 0]) ?_ 1 _ rfl; (with_reducible repeat (first | refine blk_drewN ?_ _ | refine blk_drew ?_ | refine blk_alloc ?_ _)); refine blk_put (cs := #[.int .i64 0, .int .i64 0, .int .i64 0, .int .i64 0, .int .i64 0, .int .i64 0, .int .i64 0]) ?_ 0 _ rfl; (with_reducible repeat (first | refine blk_drewN ?_ _ | refine blk_drew ?_ | refine blk_alloc ?_ _)); exact BK316.out) NB316_303.out (by simp)); replace HB := Aside0.mk (hb); replace HI303 := Aside0.mk (hi); clear hb hk hi))
     go_ret2
     exact ⟨(.slice none 0 0 : Value), by first | rfl | (simp [errW_none, errW_some] <;> rfl) | (simp [*, errW_none, errW_some] <;> rfl), by first | exact Kd.R_nil _ _ _ _ _ | exact Kd.N_nil _ _ _ _ _ | exact Kd.V_nil _ _ _ _ _ | exact Kd.Q_nil _ _ _ _ _ | exact Kd.S_nil _ _ _ _ _, by with_reducible exact HB.out⟩
  case rest =>
   clear HC7
   try clear c1
   try clear c2
   try clear p2
   try clear c3
   try clear c3b0
   try clear c3b1
   try clear c4
   try clear c14
   try clear c15
   try clear c17
   try clear c19
   try clear c19b0
   try clear c19b1
   try clear c21
   try clear c23
   try clear c23b0
   try clear c25
   try clear c26
   try clear c31
   try clear c31b0
   try clear c33
   try clear c37
   try clear c38
   try clear c39
   try clear c40
   try clear c41
   try clear c49
   try clear hz15
   try clear hz26
   try clear hz28
   try clear hz34
   try clear hz36
   try clear hz38
   try clear hz42
   try clear hz44
   try clear hz46
   try clear hz50
   obtain ⟨kq, x304000_6, x304001_6, HA, HJ6, BK316, HI303, HB⟩ := hcut
   cases kq with
   | zero => exact absurd HA.out (by simp [page_Parse.j0])
   | succ kj6 =>
    have H := HA.out
    clear HA
    simp only [page_Parse.j0] at H
    replace H := Option.bind_eq_some_iff.mp H
    obtain ⟨⟨t323, t326, t327, t328⟩, A530, H⟩ := H
    try dsimp only at H
    have A53 := Aside0.mk A530
    clear A530
    by_cases c54 : t326 = 0
    ·
     rw [if_pos c54] at H
     have c54b0 : (t326 == 0) = true := beq_iff_eq.mpr c54
     have c54b1 : (t326 != 0) = false := bne_eq_false_iff_eq.mpr c54
     clear c54
     replace H := Option.bind_eq_some_iff.mp H
     obtain ⟨⟨t329, t332, t333, t334⟩, A550, H⟩ := H
     try dsimp only at H
     have A55 := Aside0.mk A550
     clear A550
     by_cases c56 : t332 = 0
     ·
      rw [if_pos c56] at H
      have c56b0 : (t332 == 0) = true := beq_iff_eq.mpr c56
      have c56b1 : (t332 != 0) = false := bne_eq_false_iff_eq.mpr c56
      clear c56
      replace H := Option.bind_eq_some_iff.mp H
      obtain ⟨⟨t335, t338⟩, A570, H⟩ := H
      try dsimp only at H
      have A57 := Aside0.mk A570
      clear A570
      simp only [Option.some.injEq, Prod.mk.injEq] at H
      obtain ⟨rfl, rfl⟩ := H
      have hnb58 := NB316_303.out
      have hnc58 := NB303_316.out
      have hz59 := bx7 BK316.out
      go_wp2_with (first | ((with_reducible refine gate_callee (f := 42) rfl ?_); refine goesL_ (some 55) rfl rfl Try.func42 (by kernel_rfl) rfl #[.pointer (some ⟨g303, 0, none⟩), .int .i64 t310, .int .i64 t309, .int .i64 t307] rfl (by (try simp only [List.map_toArray, List.map_cons, List.map_nil]); first | done | rfl | (simp only [List.length_drop, List.length_take]; rfl)) ?_; (with_reducible refine (page_groups.calls kj6 g303 x304000_6 x304001_6 t310 t309 t307 t323 t326 t327 t328 w _ ?side1 ?side2 A53.out).mono ?_); (case side1 => with_reducible exact HI303.out); (case side2 => with_reducible exact HB.out); rintro e w60 ⟨v324, rfl, ho0, hi, hb, hk⟩; refine ⟨_, rfl, ?_⟩; replace BK316 := Aside0.mk (KeepBut.blk hk (g' := gb316) (o := .cells #[.int .i64 t307, .int .i64 t308, .int .i64 t309, .int .i64 t310, .int .i64 t311, .int .i64 t312, .int .i64 t313] 23 (0, 0)) (by exact BK316.out) NB316_303.out (by simp)); have HO325 := Aside0.mk (Kd.S_lower ho0 (below_size (by with_reducible exact HB.out))); replace HB := Aside0.mk (hb); replace HI303 := Aside0.mk (hi); clear hb hk hi ho0; have hz61 := bx7 BK316.out) | ((with_reducible refine gate_callee (f := 42) rfl ?_); refine goesL_ (some 69) rfl rfl Try.func42 (by kernel_rfl) rfl #[.pointer (some ⟨g303, 0, none⟩), .int .i64 t309, .int .i64 t310, .int .i64 t308] rfl (by (try simp only [List.map_toArray, List.map_cons, List.map_nil]); first | done | rfl | (simp only [List.length_drop, List.length_take]; rfl)) ?_; (with_reducible refine (page_groups.calls kj6 g303 t327 t328 t309 t310 t308 t329 t332 t333 t334 w _ ?side1 ?side2 A55.out).mono ?_); (case side1 => with_reducible exact HI303.out); (case side2 => with_reducible exact HB.out); rintro e w62 ⟨v330, rfl, ho0, hi, hb, hk⟩; refine ⟨_, rfl, ?_⟩; replace BK316 := Aside0.mk (KeepBut.blk hk (g' := gb316) (o := .cells #[.int .i64 t307, .int .i64 t308, .int .i64 t309, .int .i64 t310, .int .i64 t311, .int .i64 t312, .int .i64 t313] 23 (0, 0)) (by exact BK316.out) NB316_303.out (by simp)); have HO331 := Aside0.mk (Kd.S_lower (Kd.S_new' ho0 (Kd.S_lt (by exact HO325.out))) (below_size (by with_reducible exact HB.out))); replace HO325 := Aside0.mk (Kd.S_mono (Kd.S_told (Kd.S_oldK (IsS122.apartS (show IsS122 w _ g303 t327 t328 from by with_reducible exact HI303.out) (by exact HO325.out) (by decide)) hk) (Kd.S_base ho0)) (fun _ h_ => h_.1)); replace HB := Aside0.mk (hb); replace HI303 := Aside0.mk (hi); clear hb hk hi ho0; have hz63 := bx7 BK316.out; obtain ⟨Ao64, co64, eo64⟩ := Kd.S_slice HO325.out; subst eo64; obtain ⟨Ao65, co65, eo65⟩ := Kd.S_slice HO331.out; subst eo65) | ((with_reducible refine gate_callee (f := 21) rfl ?_); refine goesL_ (some 78) rfl rfl Try.func21 (by kernel_rfl) rfl #[.agg #[.int .i64 t307, .int .i64 t308, .int .i64 t309, .int .i64 t310, .int .i64 t311, .int .i64 t312, .int .i64 t313], .slice Ao64 t323.length co64, .slice Ao65 t329.length co65] rfl (by (try simp only [List.map_toArray, List.map_cons, List.map_nil]); first | done | rfl | (simp only [List.length_drop, List.length_take]; rfl)) ?_; (with_reducible refine (page_New.calls kj6 t307 t308 t309 t310 t311 t312 t313 _ _ t323 _ _ t329 t335 t338 _ ?side1 ?side2 ?side3 ?side4 A57.out).mono ?_); (case side1 => repeat (first | exact (Kd.S_reads' HO325.out).2.2 | (with_reducible refine Kd.C_alloc ?_ _) | (with_reducible refine Kd.C_drewN ?_ _) | (with_reducible refine Kd.C_drew ?_))); (case side2 => exact (Kd.S_reads' HO325.out).2.1); (case side3 => repeat (first | exact (Kd.S_reads' HO331.out).2.2 | (with_reducible refine Kd.C_alloc ?_ _) | (with_reducible refine Kd.C_drewN ?_ _) | (with_reducible refine Kd.C_drew ?_))); (case side4 => exact (Kd.S_reads' HO331.out).2.1); rintro e w66 ⟨v336, rfl, ho0, hb⟩; refine ⟨_, rfl, ?_⟩; replace HO325 := Aside0.mk (Kd.S_below (by exact HO325.out) hb); replace HO331 := Aside0.mk (Kd.S_below (by exact HO331.out) hb); have HO337 := Aside0.mk (Kd.R_lower ho0 (below_size (by with_reducible exact HB.out))); replace BK316 := Aside0.mk (blk_below BK316.out hb); replace HI303 := Aside0.mk (IsS122.below (by with_reducible exact HI303.out) hb); replace HB := Aside0.mk (below_step (by with_reducible exact HB.out) hb); clear hb ho0))
      go_ret2
      exact ⟨_, by first | rfl | (simp [errW_none, errW_some] <;> rfl) | (simp [*, errW_none, errW_some] <;> rfl), by exact HO337.out, by with_reducible exact HB.out⟩
     ·
      rw [if_neg c56] at H
      have c56b0 : (t332 == 0) = false := beq_eq_false_iff_ne.mpr c56
      have c56b1 : (t332 != 0) = true := bne_iff_ne.mpr c56
      simp only [Option.some.injEq, Prod.mk.injEq] at H
      obtain ⟨rfl, rfl⟩ := H
      have hnb67 := NB316_303.out
      have hnc67 := NB303_316.out
      have hz68 := bx7 BK316.out
      go_wp2_with (first | ((with_reducible refine gate_callee (f := 42) rfl ?_); refine goesL_ (some 55) rfl rfl Try.func42 (by kernel_rfl) rfl #[.pointer (some ⟨g303, 0, none⟩), .int .i64 t310, .int .i64 t309, .int .i64 t307] rfl (by (try simp only [List.map_toArray, List.map_cons, List.map_nil]); first | done | rfl | (simp only [List.length_drop, List.length_take]; rfl)) ?_; (with_reducible refine (page_groups.calls kj6 g303 x304000_6 x304001_6 t310 t309 t307 t323 t326 t327 t328 w _ ?side1 ?side2 A53.out).mono ?_); (case side1 => with_reducible exact HI303.out); (case side2 => with_reducible exact HB.out); rintro e w69 ⟨v324, rfl, ho0, hi, hb, hk⟩; refine ⟨_, rfl, ?_⟩; replace BK316 := Aside0.mk (KeepBut.blk hk (g' := gb316) (o := .cells #[.int .i64 t307, .int .i64 t308, .int .i64 t309, .int .i64 t310, .int .i64 t311, .int .i64 t312, .int .i64 t313] 23 (0, 0)) (by exact BK316.out) NB316_303.out (by simp)); have HO325 := Aside0.mk (Kd.S_lower ho0 (below_size (by with_reducible exact HB.out))); replace HB := Aside0.mk (hb); replace HI303 := Aside0.mk (hi); clear hb hk hi ho0; have hz70 := bx7 BK316.out) | ((with_reducible refine gate_callee (f := 42) rfl ?_); refine goesL_ (some 69) rfl rfl Try.func42 (by kernel_rfl) rfl #[.pointer (some ⟨g303, 0, none⟩), .int .i64 t309, .int .i64 t310, .int .i64 t308] rfl (by (try simp only [List.map_toArray, List.map_cons, List.map_nil]); first | done | rfl | (simp only [List.length_drop, List.length_take]; rfl)) ?_; (with_reducible refine (page_groups.calls kj6 g303 t327 t328 t309 t310 t308 t329 t332 t333 t334 w _ ?side1 ?side2 A55.out).mono ?_); (case side1 => with_reducible exact HI303.out); (case side2 => with_reducible exact HB.out); rintro e w71 ⟨v330, rfl, ho0, hi, hb, hk⟩; refine ⟨_, rfl, ?_⟩; replace BK316 := Aside0.mk (KeepBut.blk hk (g' := gb316) (o := .cells #[.int .i64 t307, .int .i64 t308, .int .i64 t309, .int .i64 t310, .int .i64 t311, .int .i64 t312, .int .i64 t313] 23 (0, 0)) (by exact BK316.out) NB316_303.out (by simp)); have HO331 := Aside0.mk (Kd.S_lower (Kd.S_new' ho0 (Kd.S_lt (by exact HO325.out))) (below_size (by with_reducible exact HB.out))); replace HO325 := Aside0.mk (Kd.S_mono (Kd.S_told (Kd.S_oldK (IsS122.apartS (show IsS122 w _ g303 t327 t328 from by with_reducible exact HI303.out) (by exact HO325.out) (by decide)) hk) (Kd.S_base ho0)) (fun _ h_ => h_.1)); replace HB := Aside0.mk (hb); replace HI303 := Aside0.mk (hi); clear hb hk hi ho0))
      go_ret2
      exact ⟨(.slice none 0 0 : Value), by first | rfl | (simp [errW_none, errW_some] <;> rfl) | (simp [*, errW_none, errW_some] <;> rfl), by first | exact Kd.R_nil _ _ _ _ _ | exact Kd.N_nil _ _ _ _ _ | exact Kd.V_nil _ _ _ _ _ | exact Kd.Q_nil _ _ _ _ _ | exact Kd.S_nil _ _ _ _ _, by with_reducible exact HB.out⟩
    ·
     rw [if_neg c54] at H
     have c54b0 : (t326 == 0) = false := beq_eq_false_iff_ne.mpr c54
     have c54b1 : (t326 != 0) = true := bne_iff_ne.mpr c54
     simp only [Option.some.injEq, Prod.mk.injEq] at H
     obtain ⟨rfl, rfl⟩ := H
     have hnb72 := NB316_303.out
     have hnc72 := NB303_316.out
     have hz73 := bx7 BK316.out
     go_wp2_with (first | ((with_reducible refine gate_callee (f := 42) rfl ?_); refine goesL_ (some 55) rfl rfl Try.func42 (by kernel_rfl) rfl #[.pointer (some ⟨g303, 0, none⟩), .int .i64 t310, .int .i64 t309, .int .i64 t307] rfl (by (try simp only [List.map_toArray, List.map_cons, List.map_nil]); first | done | rfl | (simp only [List.length_drop, List.length_take]; rfl)) ?_; (with_reducible refine (page_groups.calls kj6 g303 x304000_6 x304001_6 t310 t309 t307 t323 t326 t327 t328 w _ ?side1 ?side2 A53.out).mono ?_); (case side1 => with_reducible exact HI303.out); (case side2 => with_reducible exact HB.out); rintro e w74 ⟨v324, rfl, ho0, hi, hb, hk⟩; refine ⟨_, rfl, ?_⟩; replace BK316 := Aside0.mk (KeepBut.blk hk (g' := gb316) (o := .cells #[.int .i64 t307, .int .i64 t308, .int .i64 t309, .int .i64 t310, .int .i64 t311, .int .i64 t312, .int .i64 t313] 23 (0, 0)) (by exact BK316.out) NB316_303.out (by simp)); have HO325 := Aside0.mk (Kd.S_lower ho0 (below_size (by with_reducible exact HB.out))); replace HB := Aside0.mk (hb); replace HI303 := Aside0.mk (hi); clear hb hk hi ho0))
     go_ret2
     exact ⟨(.slice none 0 0 : Value), by first | rfl | (simp [errW_none, errW_some] <;> rfl) | (simp [*, errW_none, errW_some] <;> rfl), by first | exact Kd.R_nil _ _ _ _ _ | exact Kd.N_nil _ _ _ _ _ | exact Kd.V_nil _ _ _ _ _ | exact Kd.Q_nil _ _ _ _ _ | exact Kd.S_nil _ _ _ _ _, by with_reducible exact HB.out⟩
 ·
  rw [if_neg c3] at H
  have c3b0 : (t298 == 0) = false := beq_eq_false_iff_ne.mpr c3
  have c3b1 : (t298 != 0) = true := bne_iff_ne.mpr c3
  simp only [Option.some.injEq, Prod.mk.injEq] at H
  obtain ⟨rfl, rfl⟩ := H
  go_enter Try.func15, Try.ntmps15
  go_wp2_with (first | ((with_reducible refine gate_callee (f := 37) rfl ?_); refine goesL_ (some 13) rfl rfl Try.func37 (by kernel_rfl) rfl #[.slice A0 l0.length c0] rfl (by (try simp only [List.map_toArray, List.map_cons, List.map_nil]); first | done | rfl | (simp only [List.length_drop, List.length_take]; rfl)) ?_; (with_reducible refine (seal_Open.calls k _ _ l0 t297 t298 _ ?side1 ?side2 A2.out).mono ?_); (case side1 => repeat (first | exact HR0.out | (with_reducible refine Kd.C_alloc ?_ _) | (with_reducible refine Kd.C_drewN ?_ _) | (with_reducible refine Kd.C_drew ?_))); (case side2 => exact HC0.out); rintro e w75 ⟨v299, rfl, ho0, hb⟩; refine ⟨_, rfl, ?_⟩; have HO300 := Aside0.mk (Kd.R_lower ho0 (below_size (by with_reducible exact HB.out))); replace HB := Aside0.mk (below_step (by with_reducible exact HB.out) hb); clear hb ho0))
  go_ret2
  exact ⟨(.slice none 0 0 : Value), by first | rfl | (simp [errW_none, errW_some] <;> rfl) | (simp [*, errW_none, errW_some] <;> rfl), by first | exact Kd.R_nil _ _ _ _ _ | exact Kd.N_nil _ _ _ _ _ | exact Kd.V_nil _ _ _ _ _ | exact Kd.Q_nil _ _ _ _ _ | exact Kd.S_nil _ _ _ _ _, by with_reducible exact HB.out⟩

/-! ### page_Page_there: function 44 -/
def page_Page_there.f (l0 : List (S75)) (a1 : Int) (a2 : Int) : Option (Bool) := if 0 < (l0.length : Int) then ((page_within.f a1 0 (wrap64 (((rd_T75 l0 0).f0.f2) - 1))).bind fun t340 => (if t340 = true then ((page_within.f a2 0 (wrap64 (((rd_T75 l0 0).f0.f3) - 1))).bind fun t342 => (some t342)) else (some false))) else (none)
set_option maxHeartbeats 8000000 in
set_option maxRecDepth 100000 in
theorem page_Page_there.calls (A0 : Option Addr) (c0 : Nat) (l0 : List (S75)) (a1 : Int) (a2 : Int) (r : Bool) (w : World) (hr0 : Kd.C k75 w A0 l0.length l0) (hc0 : l0.length ≤ c0) (h : page_Page_there.f l0 a1 a2 = some r) :
  Calls Try.prog 44 #[asPtr (.slice A0 l0.length c0), .int .i64 a1, .int .i64 a2] w fun e w' => e = .returned (.bool r) ∧ Drawn0 w w' := by
 have HR0 := Aside0.mk hr0
 have HC0 := Aside0.mk hc0
 clear hr0 hc0
 have H := h
 clear h
 unfold page_Page_there.f at H
 by_cases c4 : 0 < (l0.length : Int)
 case neg => (rw [if_neg c4] at H; exact absurd H (by simp))
 rw [if_pos c4] at H
 have c4b0 : decide (0 < (l0.length : Int)) = true := decide_eq_true c4
 have c4b1 : decide (0 < l0.length) = true := decide_eq_true (by omega)
 clear c4
 replace H := Option.bind_eq_some_iff.mp H
 obtain ⟨t340, A50, H⟩ := H
 have A5 := Aside0.mk A50
 clear A50
 by_cases c6 : t340 = true
 ·
  subst c6
  have H1 : ((page_within.f a2 0 (wrap64 (((rd_T75 l0 0).f0.f3) - 1))).bind fun t342 => (some t342)) = some r := by rw [if_pos rfl] at H; exact H
  clear H
  have H := H1
  clear H1
  replace H := Option.bind_eq_some_iff.mp H
  obtain ⟨t342, A70, H⟩ := H
  have A7 := Aside0.mk A70
  clear A70
  obtain rfl := Option.some.inj H
  have p339 : 0 ≤ (0 : Int) := (by omega)
  have q339 : 0 < (l0.length : Int) := of_decide_eq_true (by first | (with_reducible assumption) | assumption)
  obtain ⟨ad339, A339_7, c339_7, A339_8, c339_8, e339, _, _, hx339_2, _, _, _, _, _, _, _, _, _, _⟩ := at_T75 HR0.out 0 p339 q339
  cases e339
  have qi339 : (0 < l0.length) = True := eq_true (by omega)
  (try rw [show ((0 : Int)).toNat = 0 from rfl] at hx339_2)
  (try rw [show 0 * 9 = 0 from rfl] at hx339_2)
  (try rw [Addr.add_zero'] at hx339_2)
  replace p339 := eq_true p339
  replace q339 := eq_true q339
  have hP339 : asPtr (.slice (some ad339) l0.length c0) = .pointer (some ad339) := asPtr_some (of_decide_eq_true (by first | (with_reducible assumption) | assumption))
  go_enter Try.func44, Try.ntmps44
  go_wp2_with (first | ((with_reducible refine gate_callee (f := 49) rfl ?_); refine goesL_ (some 14) rfl rfl Try.func49 (by kernel_rfl) rfl #[.int .i64 a1, .int .i64 0, .int .i64 (wrap64 (((rd_T75 l0 0).f0.f2) - 1))] rfl (by (try simp only [List.map_toArray, List.map_cons, List.map_nil]); first | done | rfl | (simp only [List.length_drop, List.length_take]; rfl)) ?_; (with_reducible refine (page_within.calls a1 0 (wrap64 (((rd_T75 l0 0).f0.f2) - 1)) true _ A5.out).mono ?_); rintro e w' ⟨rfl, ⟨nd, rfl⟩⟩; refine ⟨_, rfl, ?_⟩; have p341 : 0 ≤ (0 : Int) := (by omega); have q341 : 0 < (l0.length : Int) := of_decide_eq_true (by first | (with_reducible assumption) | assumption); obtain ⟨ad341, A341_7, c341_7, A341_8, c341_8, e341, _, _, _, hx341_3, _, _, _, _, _, _, _, _, _⟩ := at_T75 HR0.out 0 p341 q341; obtain rfl : ad339 = ad341 := (by injection e341); have qi341 : (0 < l0.length) = True := eq_true (by omega); (try rw [show ((0 : Int)).toNat = 0 from rfl] at hx341_3); (try rw [show 0 * 9 = 0 from rfl] at hx341_3); (try rw [Addr.add_zero'] at hx341_3); replace p341 := eq_true p341; replace q341 := eq_true q341; have hP341 : asPtr (.slice (some ad339) l0.length c0) = .pointer (some ad339) := asPtr_some (of_decide_eq_true (by first | (with_reducible assumption) | assumption))) | (go_at_call 49; (with_reducible refine (page_within.calls a2 0 (wrap64 (((rd_T75 l0 0).f0.f3) - 1)) t342 _ A7.out).mono ?_); rintro e w' ⟨rfl, ⟨nd, rfl⟩⟩))
  go_ret
  exact ⟨by first | rfl | (simp; done) | (simp [*]; done), by repeat (first | exact Drawn0.refl _ | apply Drawn0.step)⟩
 ·
  replace c6 := Bool.eq_false_iff.mpr c6
  subst c6
  have H1 : (some false) = some r := by rw [if_neg (show ¬ (false = true) by decide)] at H; exact H
  clear H
  have H := H1
  clear H1
  obtain rfl := Option.some.inj H
  have p339 : 0 ≤ (0 : Int) := (by omega)
  have q339 : 0 < (l0.length : Int) := of_decide_eq_true (by first | (with_reducible assumption) | assumption)
  obtain ⟨ad339, A339_7, c339_7, A339_8, c339_8, e339, _, _, hx339_2, _, _, _, _, _, _, _, _, _, _⟩ := at_T75 HR0.out 0 p339 q339
  cases e339
  have qi339 : (0 < l0.length) = True := eq_true (by omega)
  (try rw [show ((0 : Int)).toNat = 0 from rfl] at hx339_2)
  (try rw [show 0 * 9 = 0 from rfl] at hx339_2)
  (try rw [Addr.add_zero'] at hx339_2)
  replace p339 := eq_true p339
  replace q339 := eq_true q339
  have hP339 : asPtr (.slice (some ad339) l0.length c0) = .pointer (some ad339) := asPtr_some (of_decide_eq_true (by first | (with_reducible assumption) | assumption))
  go_enter Try.func44, Try.ntmps44
  go_wp2_with (first | ((with_reducible refine gate_callee (f := 49) rfl ?_); refine goesL_ (some 14) rfl rfl Try.func49 (by kernel_rfl) rfl #[.int .i64 a1, .int .i64 0, .int .i64 (wrap64 (((rd_T75 l0 0).f0.f2) - 1))] rfl (by (try simp only [List.map_toArray, List.map_cons, List.map_nil]); first | done | rfl | (simp only [List.length_drop, List.length_take]; rfl)) ?_; (with_reducible refine (page_within.calls a1 0 (wrap64 (((rd_T75 l0 0).f0.f2) - 1)) false _ A5.out).mono ?_); rintro e w' ⟨rfl, ⟨nd, rfl⟩⟩; refine ⟨_, rfl, ?_⟩))
  go_ret
  exact ⟨by first | rfl | (simp; done) | (simp [*]; done), by repeat (first | exact Drawn0.refl _ | apply Drawn0.step)⟩

/-! ### fix_cut: function 108 -/
def fix_cut.f (a0 : Int) (a1 : Int) (a2 : Int) : Option (Int) := some (wrap32 (mn (mx a0 a1) a2))
set_option maxHeartbeats 8000000 in
set_option maxRecDepth 100000 in
theorem fix_cut.calls (a0 : Int) (a1 : Int) (a2 : Int) (r : Int) (w : World) (h : fix_cut.f a0 a1 a2 = some r) :
  Calls Try.prog 108 #[.int .i64 a0, .int .i64 a1, .int .i64 a2] w fun e w' => e = .returned (.int .i32 r) ∧ Below w.heap.size w w' := by
 have HB := Aside0.mk (Below.refl w.heap.size w)
 have H := h
 clear h
 unfold fix_cut.f at H
 obtain ⟨ji4, hji4⟩ : ∃ j_ : Int, (mx a0 a1) = j_ := ⟨_, rfl⟩
 replace H : (some (wrap32 (mn (ji4) a2))) = some r := by first | (rw [hji4] at H; exact H) | (simp only [hji4] at H ⊢; exact H)
 have hji4_ : (if a0 < a1 then a1 else a0) = ji4 := hji4
 obtain ⟨ji5, hji5⟩ : ∃ j_ : Int, (mn (ji4) a2) = j_ := ⟨_, rfl⟩
 replace H : (some (wrap32 (ji5))) = some r := by first | (rw [hji5] at H; exact H) | (simp only [hji5] at H ⊢; exact H)
 have hji5_ : (if a2 < (ji4) then a2 else (ji4)) = ji5 := hji5
 obtain rfl := Option.some.inj H
 go_enter Try.func108, Try.ntmps108
 go_wp2
 go_ret
 exact ⟨by first | rfl | (simp [errW_none, errW_some] <;> rfl) | (simp only [← hji4, ← hji5]; first | rfl | (simp [errW_none, errW_some] <;> rfl)) | (simp [*, errW_none, errW_some] <;> rfl), by with_reducible exact HB.out⟩

/-! ### fix_Wide: function 97 -/
def fix_Wide.f (a0 : Int) : Option (Int) := (fix_cut.f a0 (-2147483648) 2147483647).bind fun t343 => (some t343)
set_option maxHeartbeats 8000000 in
set_option maxRecDepth 100000 in
theorem fix_Wide.calls (a0 : Int) (r : Int) (w : World) (h : fix_Wide.f a0 = some r) :
  Calls Try.prog 97 #[.int .i64 a0] w fun e w' => e = .returned (.int .i32 r) ∧ Below w.heap.size w w' := by
 have HB := Aside0.mk (Below.refl w.heap.size w)
 have H := h
 clear h
 unfold fix_Wide.f at H
 replace H := Option.bind_eq_some_iff.mp H
 obtain ⟨t343, A20, H⟩ := H
 have A2 := Aside0.mk A20
 clear A20
 obtain rfl := Option.some.inj H
 go_enter Try.func97, Try.ntmps97
 go_wp2_with (first | ((with_reducible refine gate_callee (f := 108) rfl ?_); refine goesL_ (some 4) rfl rfl Try.func108 (by kernel_rfl) rfl #[.int .i64 a0, .int .i64 (-2147483648), .int .i64 2147483647] rfl (by (try simp only [List.map_toArray, List.map_cons, List.map_nil]); first | done | rfl | (simp only [List.length_drop, List.length_take]; rfl)) ?_; (with_reducible refine (fix_cut.calls a0 (-2147483648) 2147483647 t343 _ A2.out).mono ?_); rintro e w3 ⟨rfl, hb⟩; refine ⟨_, rfl, ?_⟩; replace HB := Aside0.mk (below_step (by with_reducible exact HB.out) hb); clear hb))
 go_ret
 exact ⟨by first | rfl | (simp [errW_none, errW_some] <;> rfl) | (simp [*, errW_none, errW_some] <;> rfl), by with_reducible exact HB.out⟩

/-! ### group_One: function 77 -/
def group_One.f (a0_0 : Int) (a0_1 : Int) (l0_2 : List Int) (a1 : Int) : Option (Int) := (fix_Wide.f (wrap64 ((wrap64 (a0_0)) + (wrap64 (a1 * (wrap64 (a0_1))))))).bind fun t345 => (some t345)
set_option maxHeartbeats 8000000 in
set_option maxRecDepth 100000 in
theorem group_One.calls (a0_0 : Int) (a0_1 : Int) (A0_2 : Option Addr) (c0_2 : Nat) (l0_2 : List Int) (a1 : Int) (r : Int) (w : World) (hr0_2 : Kd.C (Kd.int .i64) w A0_2 l0_2.length l0_2) (hc0_2 : l0_2.length ≤ c0_2) (h : group_One.f a0_0 a0_1 l0_2 a1 = some r) :
  Calls Try.prog 77 #[.agg #[.int .i32 a0_0, .int .u32 a0_1, .slice A0_2 l0_2.length c0_2], .int .i64 a1] w fun e w' => e = .returned (.int .i32 r) ∧ Below w.heap.size w w' := by
 have hu47 := Try.underlying47
 have HR0_2 := Aside0.mk hr0_2
 have HC0_2 := Aside0.mk hc0_2
 clear hr0_2 hc0_2
 have HB := Aside0.mk (Below.refl w.heap.size w)
 have H := h
 clear h
 unfold group_One.f at H
 replace H := Option.bind_eq_some_iff.mp H
 obtain ⟨t345, A30, H⟩ := H
 have A3 := Aside0.mk A30
 clear A30
 obtain rfl := Option.some.inj H
 go_enter Try.func77, Try.ntmps77
 go_wp2_with (first | ((with_reducible refine gate_dst (N := 2) rfl ?_); refine box_event ?hg (N := 2) ?hd (cs := #[.int .i32 a0_0, .int .u32 a0_1, .slice A0_2 l0_2.length c0_2]) (t := 47) ?hr ?_; (case hd => rfl); (case hg => rfl); (case hr => first | (go_simp; done) | (go_simp; rfl)); intro gb344 hg w4 hbox hb; have BK344 := Aside0.mk (hbox); have GW344 := Aside0.mk ((by rw [hg]; exact (below_size (by with_reducible exact HB.out)) : w.heap.size ≤ gb344)); have GE344 := Aside0.mk ((by rw [hg]; exact (below_size (by with_reducible exact HB.out)) : w.heap.size ≤ gb344)); replace HB := Aside0.mk (below_step (by with_reducible exact HB.out) hb); clear hb hbox hg; have hz5 := bx3 BK344.out) | ((with_reducible refine gate_callee (f := 97) rfl ?_); refine goesL_ (some 14) rfl rfl Try.func97 (by kernel_rfl) rfl #[.int .i64 (wrap64 ((wrap64 (a0_0)) + (wrap64 (a1 * (wrap64 (a0_1))))))] rfl (by (try simp only [List.map_toArray, List.map_cons, List.map_nil]); first | done | rfl | (simp only [List.length_drop, List.length_take]; rfl)) ?_; (with_reducible refine (fix_Wide.calls (wrap64 ((wrap64 (a0_0)) + (wrap64 (a1 * (wrap64 (a0_1)))))) t345 _ A3.out).mono ?_); rintro e w6 ⟨rfl, hb⟩; refine ⟨_, rfl, ?_⟩; replace BK344 := Aside0.mk (blk_below BK344.out hb); replace HB := Aside0.mk (below_step (by with_reducible exact HB.out) hb); clear hb))
 go_ret
 exact ⟨by first | rfl | (simp [errW_none, errW_some] <;> rfl) | (simp [*, errW_none, errW_some] <;> rfl), by with_reducible exact HB.out⟩

/-! ### page_packed_mean: function 45 -/
def page_packed_mean.f (a0_0 : Int) (a0_1 : Int) (l0_2 : List Int) (l0_3 : List Int) (a1 : Int) (a2 : Int) : Option (Int) := (pack_Lane.f l0_3 a1 a2).bind fun t347 => ((group_One.f a0_0 a0_1 l0_2 t347).bind fun t348 => (some t348))
def page_packed_mean.T1 : Bool × List (List Nat × List Nat) := (true, [([], []), ([0], [0]), ([], []), ([2], [2]), ([], []), ([], []), ([3, 4, 5], [3, 4, 5]), ([1, 6, 6], [1, 6]), ([7, 7, 0, 1, 2, 3, 4, 5, 6, 7], [7])])
def page_packed_mean.B1 : List Nat := [0, 1, 0, 4, 0, 0, 60, 127, 255]
theorem page_packed_mean.tab1 : rtab .any (opsOf Try.f45 1) = page_packed_mean.T1 := by kernel_rfl
theorem page_packed_mean.bits1 : waitsOk page_packed_mean.T1.2 page_packed_mean.B1 = true := by kernel_rfl
set_option maxHeartbeats 8000000 in
set_option maxRecDepth 100000 in
theorem page_packed_mean.calls (a0_0 : Int) (a0_1 : Int) (A0_2 : Option Addr) (c0_2 : Nat) (l0_2 : List Int) (A0_3 : Option Addr) (c0_3 : Nat) (l0_3 : List Int) (a1 : Int) (a2 : Int) (r : Int) (w : World) (hr0_2 : Kd.C (Kd.int .i64) w A0_2 l0_2.length l0_2) (hc0_2 : l0_2.length ≤ c0_2) (hr0_3 : Kd.C (Kd.int .u64) w A0_3 l0_3.length l0_3) (hc0_3 : l0_3.length ≤ c0_3) (h : page_packed_mean.f a0_0 a0_1 l0_2 l0_3 a1 a2 = some r) :
  Calls Try.prog 45 #[.agg #[.int .i32 a0_0, .int .u32 a0_1, .slice A0_2 l0_2.length c0_2, .slice A0_3 l0_3.length c0_3], .int .i64 a1, .int .i64 a2] w fun e w' => e = .returned (.int .i32 r) ∧ Below w.heap.size w w' := by
 have hu82 := Try.underlying82
 have hu47 := Try.underlying47
 have HR0_2 := Aside0.mk hr0_2
 have HC0_2 := Aside0.mk hc0_2
 clear hr0_2 hc0_2
 have HR0_3 := Aside0.mk hr0_3
 have HC0_3 := Aside0.mk hc0_3
 clear hr0_3 hc0_3
 have HB := Aside0.mk (Below.refl w.heap.size w)
 have H := h
 clear h
 unfold page_packed_mean.f at H
 replace H := Option.bind_eq_some_iff.mp H
 obtain ⟨t347, A40, H⟩ := H
 have A4 := Aside0.mk A40
 clear A40
 replace H := Option.bind_eq_some_iff.mp H
 obtain ⟨t348, A50, H⟩ := H
 have A5 := Aside0.mk A50
 clear A50
 obtain rfl := Option.some.inj H
 go_enter Try.func45, Try.ntmps45
 try go_wp2_with (first | ((with_reducible refine gate_dst (N := 3) rfl ?_); refine box_event ?hg (N := 3) ?hd (cs := #[.int .i32 a0_0, .int .u32 a0_1, .slice A0_2 l0_2.length c0_2, .slice A0_3 l0_3.length c0_3]) (t := 82) ?hr ?_; (case hd => rfl); (case hg => rfl); (case hr => first | (go_simp; done) | (go_simp; rfl)); intro gb346 hg w6 hbox hb; have BK346 := Aside0.mk (hbox); have GW346 := Aside0.mk ((by rw [hg]; exact (below_size (by with_reducible exact HB.out)) : w.heap.size ≤ gb346)); have GE346 := Aside0.mk ((by rw [hg]; exact (below_size (by with_reducible exact HB.out)) : w.heap.size ≤ gb346)); replace HB := Aside0.mk (below_step (by with_reducible exact HB.out) hb); clear hb hbox hg))
 replace BK346 := Aside0.mk (blk_drew BK346.out)
 replace HB := Aside0.mk (below_drew1 HB.out)
 refine start_ (n := 9) (S := fun w' => w'.cell? ⟨gb346, 0, none⟩ = some (.int .i32 a0_0) ∧ w'.cell? ⟨gb346, 1, none⟩ = some (.int .u32 a0_1) ∧ w'.cell? ⟨gb346, 2, none⟩ = some (.slice A0_2 l0_2.length c0_2) ∧ w'.cell? ⟨gb346, 3, none⟩ = some (.slice A0_3 l0_3.length c0_3)) (ds := []) #[false, false, false, false, false, false, false, false, false] (by kernel_rfl) rfl rfl ⟨(blk_cell BK346.out 0).trans rfl, (blk_cell BK346.out 1).trans rfl, (blk_cell BK346.out 2).trans rfl, (blk_cell BK346.out 3).trans rfl⟩ (fun hHeld => ?_); refine with_tabW page_packed_mean.tab1 page_packed_mean.bits1 (fun HT_ HW_ => ?_)
 generalize w6.drew = w7 at BK346 HB hHeld ⊢
 refine pure_ (i := 0) (N := some 7) (v := ?_) (a' := ?_) #[true, false, false, false, false, false, false, false, false] rfl rfl (any_of HT_.out (by kernel_rfl)) (fun _ _ _ h => h) (Or.inl ⟨by rfl, ?_⟩) ?_ ?_
 rotate_left
 ·
  intro w'
  go_simp
  with_reducible rfl
 rotate_left
 ·
  simp only [Act.put, List.setIfInBounds_toArray, List.set_cons_zero, List.set_cons_succ, i64_w, i32_w, IntKind.wrap_u32]
  rfl
 refine pure_ (i := 2) (N := some 9) (v := ?_) (a' := ?_) #[true, false, true, false, false, false, false, false, false] rfl rfl (any_of HT_.out (by kernel_rfl)) (fun _ _ _ h => h) (Or.inl ⟨by rfl, ?_⟩) ?_ ?_
 rotate_left
 ·
  intro w'
  go_simp
  with_reducible rfl
 rotate_left
 ·
  simp only [Act.put, List.setIfInBounds_toArray, List.set_cons_zero, List.set_cons_succ, i64_w, i32_w, IntKind.wrap_u32]
  rfl
 refine pure_ (i := 4) (N := some 11) (v := ?_) (a' := ?_) #[true, false, true, false, true, false, false, false, false] rfl rfl (any_of HT_.out (by kernel_rfl)) (fun _ _ _ h => h) (Or.inl ⟨by rfl, ?_⟩) ?_ ?_
 rotate_left
 ·
  intro w'
  go_simp
  with_reducible rfl
 rotate_left
 ·
  simp only [Act.put, List.setIfInBounds_toArray, List.set_cons_zero, List.set_cons_succ, i64_w, i32_w, IntKind.wrap_u32]
  rfl
 refine pure_ (i := 5) (N := some 12) (v := ?_) (a' := ?_) #[true, false, true, false, true, true, false, false, false] rfl rfl (any_of HT_.out (by kernel_rfl)) (fun _ _ _ h => h) (Or.inl ⟨by rfl, ?_⟩) ?_ ?_
 rotate_left
 ·
  intro w'
  go_simp
  with_reducible rfl
 rotate_left
 ·
  simp only [Act.put, List.setIfInBounds_toArray, List.set_cons_zero, List.set_cons_succ, i64_w, i32_w, IntKind.wrap_u32]
  rfl
 refine take_ (i := 1) (N := some 8) (v := ?_) (a' := ?_) #[true, true, true, false, true, true, false, false, false] rfl rfl (take_ofW HT_.out HW_.out (by kernel_rfl)) (fun _ _ _ h => h) (Or.inl ⟨by rfl, ?_⟩) hHeld ?_ ?_
 rotate_left
 ·
  rintro w' ⟨s0, s1, s2, s3⟩
  go_simp
  with_reducible rfl
 rotate_left
 ·
  simp only [Act.put, List.setIfInBounds_toArray, List.set_cons_zero, List.set_cons_succ, i64_w, i32_w, IntKind.wrap_u32]
  rfl
 refine take_ (i := 3) (N := some 10) (v := ?_) (a' := ?_) #[true, true, true, true, true, true, false, false, false] rfl rfl (take_ofW HT_.out HW_.out (by kernel_rfl)) (fun _ _ _ h => h) (Or.inl ⟨by rfl, ?_⟩) hHeld ?_ ?_
 rotate_left
 ·
  rintro w' ⟨s0, s1, s2, s3⟩
  go_simp
  with_reducible rfl
 rotate_left
 ·
  simp only [Act.put, List.setIfInBounds_toArray, List.set_cons_zero, List.set_cons_succ, i64_w, i32_w, IntKind.wrap_u32]
  rfl
 refine one_ (i := 6) (N := some 13) #[true, true, true, true, true, true, true, false, false] rfl rfl (one_of HT_.out (by kernel_rfl)) (by decide) (fun K hK => ?_)
 refine goes_ Try.func78 (by kernel_rfl) rfl #[.slice A0_3 l0_3.length c0_3, .int .i64 a1, .int .i64 a2] (by rfl) rfl rfl (by (try simp only [List.map_toArray, List.map_cons, List.map_nil]); first | done | rfl | (simp only [List.length_drop, List.length_take]; rfl)) ?_
 with_reducible refine (pack_Lane.calls _ _ l0_3 a1 a2 t347 _ ?side1 ?side2 A4.out).mono ?_
 (case side1 => with_reducible exact (Kd.C_below HR0_3.out HB.out))
 (case side2 => exact HC0_3.out)
 rintro e w' ⟨rfl, ⟨nd, rfl⟩⟩
 refine ⟨_, rfl, ?_⟩
 refine hK.out _ _ ⟨(blk_cell BK346.out 0).trans rfl, (blk_cell BK346.out 1).trans rfl, (blk_cell BK346.out 2).trans rfl, (blk_cell BK346.out 3).trans rfl⟩ (fun hHeld => ?_)
 clear hK K
 refine norm_ (a' := ?_) ?_ ?_
 rotate_left
 ·
  show Act.put _ (some 13) _ = _
  simp only [Act.put, List.setIfInBounds_toArray, List.set_cons_zero, List.set_cons_succ, i64_w, i32_w, IntKind.wrap_u32]
  rfl
 refine one_ (i := 7) (N := some 14) #[true, true, true, true, true, true, true, true, false] rfl rfl (one_of HT_.out (by kernel_rfl)) (by decide) (fun K hK => ?_)
 refine goes_ Try.func77 (by kernel_rfl) rfl #[.agg #[.int .i32 a0_0, .int .u32 a0_1, .slice A0_2 l0_2.length c0_2], .int .i64 t347] (by rfl) rfl rfl (by (try simp only [List.map_toArray, List.map_cons, List.map_nil]); first | done | rfl | (simp only [List.length_drop, List.length_take]; rfl)) ?_
 with_reducible refine (group_One.calls a0_0 a0_1 _ _ l0_2 t347 t348 _ ?side1 ?side2 A5.out).mono ?_
 (case side1 => repeat (first | exact (Kd.C_below HR0_2.out (by repeat (first | (with_reducible first | exact HB.out | apply below_alloc | apply pw_below_drewN | apply below_drew1 | refine below_set ?_ GE346.out) | exact HB.out))) | (with_reducible refine Kd.C_alloc ?_ _) | (with_reducible refine Kd.C_drewN ?_ _) | (with_reducible refine Kd.C_drew ?_)))
 (case side2 => exact HC0_2.out)
 rintro e w8 ⟨rfl, hb⟩
 refine ⟨_, rfl, ?_⟩
 replace BK346 := Aside0.mk (blk_below (g := gb346) (o := .cells #[.int .i32 a0_0, .int .u32 a0_1, .slice A0_2 l0_2.length c0_2, .slice A0_3 l0_3.length c0_3] 82 (0, 0)) (by (with_reducible repeat (first | refine blk_drewN ?_ _ | refine blk_drew ?_ | refine blk_alloc ?_ _)); exact BK346.out) hb)
 replace HB := Aside0.mk (below_step (by repeat (first | (with_reducible first | exact HB.out | apply below_alloc | apply pw_below_drewN | apply below_drew1 | refine below_set ?_ GE346.out) | exact HB.out)) hb)
 (try clear hb)
 (try clear hb2)
 (try clear hk)
 (try clear hi)
 refine hK.out _ _ ⟨(blk_cell BK346.out 0).trans rfl, (blk_cell BK346.out 1).trans rfl, (blk_cell BK346.out 2).trans rfl, (blk_cell BK346.out 3).trans rfl⟩ (fun hHeld => ?_)
 clear hK K
 refine norm_ (a' := ?_) ?_ ?_
 rotate_left
 ·
  show Act.put _ (some 14) _ = _
  simp only [Act.put, List.setIfInBounds_toArray, List.set_cons_zero, List.set_cons_succ, i64_w, i32_w, IntKind.wrap_u32]
  rfl
 refine pure_ (i := 8) (N := some 6) (v := ?_) (a' := ?_) #[true, true, true, true, true, true, true, true, true] rfl rfl (any_of HT_.out (by kernel_rfl)) (fun _ _ _ h => h) (Or.inl ⟨by rfl, ?_⟩) ?_ ?_
 rotate_left
 ·
  intro w'
  go_simp
  with_reducible rfl
 rotate_left
 ·
  simp only [Act.put, List.setIfInBounds_toArray, List.set_cons_zero, List.set_cons_succ, i64_w, i32_w, IntKind.wrap_u32]
  rfl
 refine done_ (done_of HT_.out (by kernel_rfl)) ?_
 try go_wp2
 go_ret
 exact ⟨by first | rfl | (simp [errW_none, errW_some] <;> rfl) | (simp [*, errW_none, errW_some] <;> rfl), by with_reducible exact HB.out⟩

end Go.Proofs.Ytekenaclmplocaa.PPagePlaces
