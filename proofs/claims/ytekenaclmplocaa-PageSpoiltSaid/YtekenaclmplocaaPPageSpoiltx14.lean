-- Written by a program of this session (wip/tools/mkprint.py over the kit's print).
import Derived.Test.YtekenaclmplocaaPPageSpoiltx0
import Derived.Test.YtekenaclmplocaaPPageSpoiltx2
import Derived.Test.YtekenaclmplocaaPPageSpoiltx6
import Derived.Test.YtekenaclmplocaaPPageSpoiltx7
import Derived.Test.YtekenaclmplocaaPPageSpoiltx10
import Derived.Test.YtekenaclmplocaaPPageSpoiltx13
namespace Go.Proofs.Ytekenaclmplocaa.PPageSpoilt
open Go.RowKit Go.Proofs.YtekenaclmplocaaW.PrintWords Go.Proofs.YtekenaclmplocaaW.PrintLast Go.Proofs.YtekenaclmplocaaW.PrintMore
attribute [local go_sem] max2_int min2_int max_two min_two max_three min_three max_four min_four   -- for this text's walks alone
set_option linter.unusedVariables false
set_option linter.unusedSimpArgs false

/-! ### credenzalaw08_PageSpoilt: function 3 -/
mutual
def credenzalaw08_PageSpoilt.j0 : Nat → Int → Int → Bool → Int → Int → Int → Int → Int → Int → Int → List (List Int) → List (List Int) → Option (Bool)
 | 0, _, _, _, _, _, _, _, _, _, _, _, _ => none
 | k + 1, x1, x2, x33, x451000, x451001, x451002, x451003, x451004, x451005, x451006, x451007, x451008 => if x33 = true then ((credenzalaw08_awake.f k).bind fun t461 => (some t461)) else ((page_Quantize.f k x451000 x451001 x451002 x451003 x451004 x451005 x451006 x451007 x451008).bind fun bt462 => (if bt462.2 = 0 then (credenzalaw08_PageSpoilt.j1 k x1 x2 bt462.1 ((bt462.1.length : Int) == 0)) else (credenzalaw08_PageSpoilt.j1 k x1 x2 bt462.1 true)))
def credenzalaw08_PageSpoilt.j1 : Nat → Int → Int → List (S75) → Bool → Option (Bool)
 | 0, _, _, _, _ => none
 | k + 1, x1, x2, x7, x50 => if x50 = true then (none) else ((page_Page_Bytes.f k x7).bind fun t466 => (if x1 < 0 then (credenzalaw08_PageSpoilt.j2 k x1 x2 x7 t466 true) else (credenzalaw08_PageSpoilt.j2 k x1 x2 x7 t466 (decide (x1 ≥ (t466.length : Int))))))
def credenzalaw08_PageSpoilt.j2 : Nat → Int → Int → List (S75) → List Int → Bool → Option (Bool)
 | 0, _, _, _, _, _ => none
 | k + 1, x1, x2, x7, x9, x60 => if x60 = true then ((credenzalaw08_awake.f k).bind fun t469 => (some t469)) else (if 0 ≤ x1 then (if x1 < (x9.length : Int) then ((page_Parse.f k (x9.set (x1 : Int).toNat x2)).bind fun bt472 => (if (rd x9 x1) = x2 then (if bt472.2 = 0 then (if (bt472.1.length : Int) = 0 then (none) else ((page_Page_Bytes.f k x7).bind fun t476 => (if (t476.length : Int) = (x9.length : Int) then ((credenzalaw08_awake.f k).bind fun t479 => (some t479)) else (none)))) else (none)) else (if bt472.2 = 22 then (if (bt472.1.length : Int) = 0 then ((page_Page_Bytes.f k x7).bind fun t480 => (if (t480.length : Int) = (x9.length : Int) then ((credenzalaw08_awake.f k).bind fun t483 => (some t483)) else (none))) else (none)) else (none)))) else (none)) else (none))
end
def credenzalaw08_PageSpoilt.f (k : Nat) (a0_0 : Int) (a0_1 : Int) (a0_2 : Int) (a0_3 : Int) (a0_4 : Int) (a0_5 : Int) (a0_6 : Int) (l0_7 : List (List Int)) (l0_8 : List (List Int)) (a1 : Int) (a2 : Int) : Option (Bool) := (credenzalaw08_head.f a0_0 a0_1 a0_2 a0_3 a0_4 a0_5 a0_6).bind fun bt451 => ((credenzaref08_Right.f bt451.1 bt451.2.1 bt451.2.2.1 bt451.2.2.2.1 bt451.2.2.2.2.1 bt451.2.2.2.2.2.1 bt451.2.2.2.2.2.2).bind fun t458 => (if t458 = true then ((credenzalaw08_shaped.f k a0_0 a0_1 a0_2 a0_3 a0_4 a0_5 a0_6 l0_7).bind fun t459 => (if t459 = true then ((credenzalaw08_shaped.f k a0_0 a0_1 a0_2 a0_3 a0_4 a0_5 a0_6 l0_8).bind fun t460 => (credenzalaw08_PageSpoilt.j0 k a1 a2 (!t460) a0_0 a0_1 a0_2 a0_3 a0_4 a0_5 a0_6 l0_7 l0_8)) else (credenzalaw08_PageSpoilt.j0 k a1 a2 true a0_0 a0_1 a0_2 a0_3 a0_4 a0_5 a0_6 l0_7 l0_8))) else (credenzalaw08_PageSpoilt.j0 k a1 a2 true a0_0 a0_1 a0_2 a0_3 a0_4 a0_5 a0_6 l0_7 l0_8)))
theorem credenzalaw08_PageSpoilt.mono_l : ∀ k, (∀ y0 y1 y2 y3 y4 y5 y6 y7 y8 y9 y10 y11, LeO (credenzalaw08_PageSpoilt.j0 k y0 y1 y2 y3 y4 y5 y6 y7 y8 y9 y10 y11) (credenzalaw08_PageSpoilt.j0 (k + 1) y0 y1 y2 y3 y4 y5 y6 y7 y8 y9 y10 y11)) ∧ (∀ y0 y1 y2 y3, LeO (credenzalaw08_PageSpoilt.j1 k y0 y1 y2 y3) (credenzalaw08_PageSpoilt.j1 (k + 1) y0 y1 y2 y3)) ∧ (∀ y0 y1 y2 y3 y4, LeO (credenzalaw08_PageSpoilt.j2 k y0 y1 y2 y3 y4) (credenzalaw08_PageSpoilt.j2 (k + 1) y0 y1 y2 y3 y4))
 | 0 => ⟨fun _ _ _ _ _ _ _ _ _ _ _ _ r h => by simp [credenzalaw08_PageSpoilt.j0] at h, fun _ _ _ _ r h => by simp [credenzalaw08_PageSpoilt.j1] at h, fun _ _ _ _ _ r h => by simp [credenzalaw08_PageSpoilt.j2] at h⟩
 | k + 1 => by
  obtain ⟨ih0, ih1, ih2⟩ := credenzalaw08_PageSpoilt.mono_l k
  refine ⟨?_, ?_, ?_⟩
  ·
   intro y0 y1 y2 y3 y4 y5 y6 y7 y8 y9 y10 y11
   unfold credenzalaw08_PageSpoilt.j0
   repeat' first
   | (with_reducible exact ih0 _ _ _ _ _ _ _ _ _ _ _ _)
   | (with_reducible exact ih1 _ _ _ _)
   | (with_reducible exact ih2 _ _ _ _ _)
   | (with_reducible exact credenzalaw08_awake.mono _)
   | (with_reducible exact credenzalaw08_shaped.mono _ _ _ _ _ _ _ _ _)
   | (with_reducible exact page_Page_Bytes.mono _ _)
   | (with_reducible exact page_Parse.mono _ _)
   | (with_reducible exact page_Quantize.mono _ _ _ _ _ _ _ _ _ _)
   | (with_reducible exact LeO.refl _)
   | (with_reducible exact LeO.none _)
   | (with_reducible refine LeO.ite ?_ ?_)
   | (with_reducible refine LeO.bind ?_ (fun _ => ?_))
   | exact ih0 _ _ _ _ _ _ _ _ _ _ _ _
   | exact ih1 _ _ _ _
   | exact ih2 _ _ _ _ _
   | exact credenzalaw08_awake.mono _
   | exact credenzalaw08_shaped.mono _ _ _ _ _ _ _ _ _
   | exact page_Page_Bytes.mono _ _
   | exact page_Parse.mono _ _
   | exact page_Quantize.mono _ _ _ _ _ _ _ _ _ _
   | exact LeO.none _
   | refine LeO.ite ?_ ?_
   | refine LeO.bind ?_ (fun _ => ?_)
  ·
   intro y0 y1 y2 y3
   unfold credenzalaw08_PageSpoilt.j1
   repeat' first
   | (with_reducible exact ih0 _ _ _ _ _ _ _ _ _ _ _ _)
   | (with_reducible exact ih1 _ _ _ _)
   | (with_reducible exact ih2 _ _ _ _ _)
   | (with_reducible exact credenzalaw08_awake.mono _)
   | (with_reducible exact credenzalaw08_shaped.mono _ _ _ _ _ _ _ _ _)
   | (with_reducible exact page_Page_Bytes.mono _ _)
   | (with_reducible exact page_Parse.mono _ _)
   | (with_reducible exact page_Quantize.mono _ _ _ _ _ _ _ _ _ _)
   | (with_reducible exact LeO.refl _)
   | (with_reducible exact LeO.none _)
   | (with_reducible refine LeO.ite ?_ ?_)
   | (with_reducible refine LeO.bind ?_ (fun _ => ?_))
   | exact ih0 _ _ _ _ _ _ _ _ _ _ _ _
   | exact ih1 _ _ _ _
   | exact ih2 _ _ _ _ _
   | exact credenzalaw08_awake.mono _
   | exact credenzalaw08_shaped.mono _ _ _ _ _ _ _ _ _
   | exact page_Page_Bytes.mono _ _
   | exact page_Parse.mono _ _
   | exact page_Quantize.mono _ _ _ _ _ _ _ _ _ _
   | exact LeO.none _
   | refine LeO.ite ?_ ?_
   | refine LeO.bind ?_ (fun _ => ?_)
  ·
   intro y0 y1 y2 y3 y4
   unfold credenzalaw08_PageSpoilt.j2
   repeat' first
   | (with_reducible exact ih0 _ _ _ _ _ _ _ _ _ _ _ _)
   | (with_reducible exact ih1 _ _ _ _)
   | (with_reducible exact ih2 _ _ _ _ _)
   | (with_reducible exact credenzalaw08_awake.mono _)
   | (with_reducible exact credenzalaw08_shaped.mono _ _ _ _ _ _ _ _ _)
   | (with_reducible exact page_Page_Bytes.mono _ _)
   | (with_reducible exact page_Parse.mono _ _)
   | (with_reducible exact page_Quantize.mono _ _ _ _ _ _ _ _ _ _)
   | (with_reducible exact LeO.refl _)
   | (with_reducible exact LeO.none _)
   | (with_reducible refine LeO.ite ?_ ?_)
   | (with_reducible refine LeO.bind ?_ (fun _ => ?_))
   | exact ih0 _ _ _ _ _ _ _ _ _ _ _ _
   | exact ih1 _ _ _ _
   | exact ih2 _ _ _ _ _
   | exact credenzalaw08_awake.mono _
   | exact credenzalaw08_shaped.mono _ _ _ _ _ _ _ _ _
   | exact page_Page_Bytes.mono _ _
   | exact page_Parse.mono _ _
   | exact page_Quantize.mono _ _ _ _ _ _ _ _ _ _
   | exact LeO.none _
   | refine LeO.ite ?_ ?_
   | refine LeO.bind ?_ (fun _ => ?_)
theorem credenzalaw08_PageSpoilt.mono : ∀ a0 a1 a2 a3 a4 a5 a6 a7 a8 a9 a10 k, LeO (credenzalaw08_PageSpoilt.f k a0 a1 a2 a3 a4 a5 a6 a7 a8 a9 a10) (credenzalaw08_PageSpoilt.f (k + 1) a0 a1 a2 a3 a4 a5 a6 a7 a8 a9 a10) := by
 intro a0 a1 a2 a3 a4 a5 a6 a7 a8 a9 a10 k
 obtain ⟨ih0, ih1, ih2⟩ := credenzalaw08_PageSpoilt.mono_l k
 unfold credenzalaw08_PageSpoilt.f
 repeat' first
   | (with_reducible exact ih0 _ _ _ _ _ _ _ _ _ _ _ _)
   | (with_reducible exact ih1 _ _ _ _)
   | (with_reducible exact ih2 _ _ _ _ _)
   | (with_reducible exact credenzalaw08_awake.mono _)
   | (with_reducible exact credenzalaw08_shaped.mono _ _ _ _ _ _ _ _ _)
   | (with_reducible exact page_Page_Bytes.mono _ _)
   | (with_reducible exact page_Parse.mono _ _)
   | (with_reducible exact page_Quantize.mono _ _ _ _ _ _ _ _ _ _)
   | (with_reducible exact LeO.refl _)
   | (with_reducible exact LeO.none _)
   | (with_reducible refine LeO.ite ?_ ?_)
   | (with_reducible refine LeO.bind ?_ (fun _ => ?_))
   | exact ih0 _ _ _ _ _ _ _ _ _ _ _ _
   | exact ih1 _ _ _ _
   | exact ih2 _ _ _ _ _
   | exact credenzalaw08_awake.mono _
   | exact credenzalaw08_shaped.mono _ _ _ _ _ _ _ _ _
   | exact page_Page_Bytes.mono _ _
   | exact page_Parse.mono _ _
   | exact page_Quantize.mono _ _ _ _ _ _ _ _ _ _
   | exact LeO.none _
   | refine LeO.ite ?_ ?_
   | refine LeO.bind ?_ (fun _ => ?_)
set_option maxHeartbeats 8000000 in
set_option maxRecDepth 100000 in
theorem credenzalaw08_PageSpoilt.calls (k : Nat) (a0_0 : Int) (a0_1 : Int) (a0_2 : Int) (a0_3 : Int) (a0_4 : Int) (a0_5 : Int) (a0_6 : Int) (A0_7 : Option Addr) (c0_7 : Nat) (l0_7 : List (List Int)) (A0_8 : Option Addr) (c0_8 : Nat) (l0_8 : List (List Int)) (a1 : Int) (a2 : Int) (r : Bool) (w : World) (hr0_7 : Kd.C (Kd.slice 21 (Kd.int .i32)) w A0_7 l0_7.length l0_7) (hc0_7 : l0_7.length ≤ c0_7) (hr0_8 : Kd.C (Kd.slice 21 (Kd.int .i32)) w A0_8 l0_8.length l0_8) (hc0_8 : l0_8.length ≤ c0_8) (h : credenzalaw08_PageSpoilt.f k a0_0 a0_1 a0_2 a0_3 a0_4 a0_5 a0_6 l0_7 l0_8 a1 a2 = some r) :
  Calls Try.prog 3 #[.agg #[.int .i64 a0_0, .int .i64 a0_1, .int .i64 a0_2, .int .i64 a0_3, .int .i64 a0_4, .int .i64 a0_5, .int .i64 a0_6, .slice A0_7 l0_7.length c0_7, .slice A0_8 l0_8.length c0_8], .int .i64 a1, .int .u8 a2] w fun e w' => e = .returned (.bool r) ∧ Below w.heap.size w w' := by
 have hu26 := Try.underlying26
 have hu23 := Try.underlying23
 have HR0_7 := Aside0.mk hr0_7
 have HC0_7 := Aside0.mk hc0_7
 clear hr0_7 hc0_7
 have HR0_8 := Aside0.mk hr0_8
 have HC0_8 := Aside0.mk hc0_8
 clear hr0_8 hc0_8
 have HB := Aside0.mk (Below.refl w.heap.size w)
 have H : ((credenzalaw08_head.f a0_0 a0_1 a0_2 a0_3 a0_4 a0_5 a0_6).bind fun bt451 => ((credenzaref08_Right.f bt451.1 bt451.2.1 bt451.2.2.1 bt451.2.2.2.1 bt451.2.2.2.2.1 bt451.2.2.2.2.2.1 bt451.2.2.2.2.2.2).bind fun t458 => (if t458 = true then ((credenzalaw08_shaped.f k a0_0 a0_1 a0_2 a0_3 a0_4 a0_5 a0_6 l0_7).bind fun t459 => (if t459 = true then ((credenzalaw08_shaped.f k a0_0 a0_1 a0_2 a0_3 a0_4 a0_5 a0_6 l0_8).bind fun t460 => (credenzalaw08_PageSpoilt.j0 k a1 a2 (!t460) a0_0 a0_1 a0_2 a0_3 a0_4 a0_5 a0_6 l0_7 l0_8)) else (credenzalaw08_PageSpoilt.j0 k a1 a2 true a0_0 a0_1 a0_2 a0_3 a0_4 a0_5 a0_6 l0_7 l0_8))) else (credenzalaw08_PageSpoilt.j0 k a1 a2 true a0_0 a0_1 a0_2 a0_3 a0_4 a0_5 a0_6 l0_7 l0_8)))) = some r := h
 clear h
 have HC4 := Aside0.mk H
 clear H
 go_enter Try.func3, Try.ntmps3
 go_upto_region 1 with (first | ((with_reducible refine gate_dst (N := 3) rfl ?_); (try (refine gate_guard (by rfl) ?_; dsimp only)); refine box_event ?hg (N := 3) ?hd (cs := #[.int .i64 a0_0, .int .i64 a0_1, .int .i64 a0_2, .int .i64 a0_3, .int .i64 a0_4, .int .i64 a0_5, .int .i64 a0_6, .slice A0_7 l0_7.length c0_7, .slice A0_8 l0_8.length c0_8]) (t := 26) ?hr ?_; (case hd => rfl); (case hg => rfl); (case hr => first | (go_simp; done) | (go_simp; rfl)); intro gb450 hg w5 hbox hb; have n0_ := Aside0.mk (below_step (by with_reducible exact HB.out) hb); have n1_ := Aside0.mk (hbox); have n2_ := Aside0.mk ((by rw [hg]; exact (below_size (by with_reducible exact HB.out)) : w.heap.size ≤ gb450)); have n3_ := Aside0.mk ((by rw [hg]; exact (below_size (by with_reducible exact HB.out)) : w.heap.size ≤ gb450)); clear HB; have HB := n0_; have BK450 := n1_; have GW450 := n2_; have GE450 := n3_; clear n0_ n1_ n2_ n3_; clear hb hbox hg))
 (try simp only [Act.put, List.setIfInBounds_toArray, List.set_cons_zero, List.set_cons_succ])
 go_cut [33] (fun v33 wc => ∃ (kq : Nat) (x33_3 : Bool), v33 = .bool x33_3 ∧ Aside0 (credenzalaw08_PageSpoilt.j0 kq a1 a2 x33_3 a0_0 a0_1 a0_2 a0_3 a0_4 a0_5 a0_6 l0_7 l0_8 = some r) ∧ Aside0 (kq ≤ k) ∧ Aside0 (wc.heap[gb450]? = some (.cells #[.int .i64 a0_0, .int .i64 a0_1, .int .i64 a0_2, .int .i64 a0_3, .int .i64 a0_4, .int .i64 a0_5, .int .i64 a0_6, (.slice A0_7 l0_7.length c0_7), (.slice A0_8 l0_8.length c0_8)] 26 (0, 0))) ∧ Aside0 (Below w.heap.size w wc))
 case first =>
  have H := HC4.out
  clear HC4
  replace H := Option.bind_eq_some_iff.mp H
  obtain ⟨⟨t451, t452, t453, t454, t455, t456, t457⟩, A60, H⟩ := H
  replace H : ((credenzaref08_Right.f t451 t452 t453 t454 t455 t456 t457).bind fun t458 => (if t458 = true then ((credenzalaw08_shaped.f k a0_0 a0_1 a0_2 a0_3 a0_4 a0_5 a0_6 l0_7).bind fun t459 => (if t459 = true then ((credenzalaw08_shaped.f k a0_0 a0_1 a0_2 a0_3 a0_4 a0_5 a0_6 l0_8).bind fun t460 => (credenzalaw08_PageSpoilt.j0 k a1 a2 (!t460) a0_0 a0_1 a0_2 a0_3 a0_4 a0_5 a0_6 l0_7 l0_8)) else (credenzalaw08_PageSpoilt.j0 k a1 a2 true a0_0 a0_1 a0_2 a0_3 a0_4 a0_5 a0_6 l0_7 l0_8))) else (credenzalaw08_PageSpoilt.j0 k a1 a2 true a0_0 a0_1 a0_2 a0_3 a0_4 a0_5 a0_6 l0_7 l0_8))) = some r := H
  have A6 := Aside0.mk A60
  clear A60
  replace H := Option.bind_eq_some_iff.mp H
  obtain ⟨t458, A70, H⟩ := H
  replace H : (if t458 = true then ((credenzalaw08_shaped.f k a0_0 a0_1 a0_2 a0_3 a0_4 a0_5 a0_6 l0_7).bind fun t459 => (if t459 = true then ((credenzalaw08_shaped.f k a0_0 a0_1 a0_2 a0_3 a0_4 a0_5 a0_6 l0_8).bind fun t460 => (credenzalaw08_PageSpoilt.j0 k a1 a2 (!t460) a0_0 a0_1 a0_2 a0_3 a0_4 a0_5 a0_6 l0_7 l0_8)) else (credenzalaw08_PageSpoilt.j0 k a1 a2 true a0_0 a0_1 a0_2 a0_3 a0_4 a0_5 a0_6 l0_7 l0_8))) else (credenzalaw08_PageSpoilt.j0 k a1 a2 true a0_0 a0_1 a0_2 a0_3 a0_4 a0_5 a0_6 l0_7 l0_8)) = some r := H
  have A7 := Aside0.mk A70
  clear A70
  by_cases c8 : t458 = true
  ·
   subst c8
   have H1 : ((credenzalaw08_shaped.f k a0_0 a0_1 a0_2 a0_3 a0_4 a0_5 a0_6 l0_7).bind fun t459 => (if t459 = true then ((credenzalaw08_shaped.f k a0_0 a0_1 a0_2 a0_3 a0_4 a0_5 a0_6 l0_8).bind fun t460 => (credenzalaw08_PageSpoilt.j0 k a1 a2 (!t460) a0_0 a0_1 a0_2 a0_3 a0_4 a0_5 a0_6 l0_7 l0_8)) else (credenzalaw08_PageSpoilt.j0 k a1 a2 true a0_0 a0_1 a0_2 a0_3 a0_4 a0_5 a0_6 l0_7 l0_8))) = some r := by rw [if_pos rfl] at H; exact H
   clear H
   have H := H1
   clear H1
   replace H := Option.bind_eq_some_iff.mp H
   obtain ⟨t459, A90, H⟩ := H
   replace H : (if t459 = true then ((credenzalaw08_shaped.f k a0_0 a0_1 a0_2 a0_3 a0_4 a0_5 a0_6 l0_8).bind fun t460 => (credenzalaw08_PageSpoilt.j0 k a1 a2 (!t460) a0_0 a0_1 a0_2 a0_3 a0_4 a0_5 a0_6 l0_7 l0_8)) else (credenzalaw08_PageSpoilt.j0 k a1 a2 true a0_0 a0_1 a0_2 a0_3 a0_4 a0_5 a0_6 l0_7 l0_8)) = some r := H
   have A9 := Aside0.mk A90
   clear A90
   by_cases c10 : t459 = true
   ·
    subst c10
    have H1 : ((credenzalaw08_shaped.f k a0_0 a0_1 a0_2 a0_3 a0_4 a0_5 a0_6 l0_8).bind fun t460 => (credenzalaw08_PageSpoilt.j0 k a1 a2 (!t460) a0_0 a0_1 a0_2 a0_3 a0_4 a0_5 a0_6 l0_7 l0_8)) = some r := by rw [if_pos rfl] at H; exact H
    clear H
    have H := H1
    clear H1
    replace H := Option.bind_eq_some_iff.mp H
    obtain ⟨t460, A110, H⟩ := H
    replace H : (credenzalaw08_PageSpoilt.j0 k a1 a2 (!t460) a0_0 a0_1 a0_2 a0_3 a0_4 a0_5 a0_6 l0_7 l0_8) = some r := H
    have A11 := Aside0.mk A110
    clear A110
    have H' := Aside0.mk H
    clear H
    have hz12 := bx9 BK450.out
    go_wp2_with (first | ((with_reducible refine gate_callee (f := 10) rfl ?_); refine goesL_ (some 15) rfl rfl Try.func10 (by kernel_rfl) rfl #[.agg #[.int .i64 a0_0, .int .i64 a0_1, .int .i64 a0_2, .int .i64 a0_3, .int .i64 a0_4, .int .i64 a0_5, .int .i64 a0_6]] rfl (by (try simp only [List.map_toArray, List.map_cons, List.map_nil]); first | done | rfl | (simp only [List.length_drop, List.length_take]; rfl)) ?_; (with_reducible refine (credenzalaw08_head.calls a0_0 a0_1 a0_2 a0_3 a0_4 a0_5 a0_6 t451 t452 t453 t454 t455 t456 t457 _ A6.out).mono ?_); rintro e w13 ⟨rfl, hb⟩; refine ⟨_, rfl, ?_⟩; replace BK450 := Aside0.mk (blk_below (g := gb450) (o := .cells #[.int .i64 a0_0, .int .i64 a0_1, .int .i64 a0_2, .int .i64 a0_3, .int .i64 a0_4, .int .i64 a0_5, .int .i64 a0_6, .slice A0_7 l0_7.length c0_7, .slice A0_8 l0_8.length c0_8] 26 (0, 0)) (by exact BK450.out) hb); replace HB := Aside0.mk (below_step (by with_reducible exact HB.out) hb); clear hb) | ((with_reducible refine gate_callee (f := 9) rfl ?_); refine goesL_ (some 16) rfl rfl Try.func9 (by kernel_rfl) rfl #[.agg #[.int .i64 t451, .int .i64 t452, .int .i64 t453, .int .i64 t454, .int .i64 t455, .int .i64 t456, .int .i64 t457]] rfl (by (try simp only [List.map_toArray, List.map_cons, List.map_nil]); first | done | rfl | (simp only [List.length_drop, List.length_take]; rfl)) ?_; (with_reducible refine (credenzaref08_Right.calls t451 t452 t453 t454 t455 t456 t457 true _ A7.out).mono ?_); rintro e w14 ⟨rfl, hb⟩; refine ⟨_, rfl, ?_⟩; replace BK450 := Aside0.mk (blk_below (g := gb450) (o := .cells #[.int .i64 a0_0, .int .i64 a0_1, .int .i64 a0_2, .int .i64 a0_3, .int .i64 a0_4, .int .i64 a0_5, .int .i64 a0_6, .slice A0_7 l0_7.length c0_7, .slice A0_8 l0_8.length c0_8] 26 (0, 0)) (by exact BK450.out) hb); replace HB := Aside0.mk (below_step (by with_reducible exact HB.out) hb); clear hb; have hz15 := bx9 BK450.out) | (go_at_call 11; (with_reducible refine (credenzalaw08_shaped.calls k a0_0 a0_1 a0_2 a0_3 a0_4 a0_5 a0_6 _ _ l0_7 true _ ?side1 ?side2 A9.out).mono ?_); (case side1 => with_reducible exact (Kd.C_below HR0_7.out HB.out)); (case side2 => exact HC0_7.out); rintro e w16 ⟨rfl, hb⟩; replace BK450 := Aside0.mk (blk_below (g := gb450) (o := .cells #[.int .i64 a0_0, .int .i64 a0_1, .int .i64 a0_2, .int .i64 a0_3, .int .i64 a0_4, .int .i64 a0_5, .int .i64 a0_6, .slice A0_7 l0_7.length c0_7, .slice A0_8 l0_8.length c0_8] 26 (0, 0)) (by exact BK450.out) hb); replace HB := Aside0.mk (below_step (by with_reducible exact HB.out) hb); clear hb; have hz17 := bx9 BK450.out) | (go_at_call 11; (with_reducible refine (credenzalaw08_shaped.calls k a0_0 a0_1 a0_2 a0_3 a0_4 a0_5 a0_6 _ _ l0_8 t460 _ ?side1 ?side2 A11.out).mono ?_); (case side1 => with_reducible exact (Kd.C_below HR0_8.out HB.out)); (case side2 => exact HC0_8.out); rintro e w18 ⟨rfl, hb⟩; replace BK450 := Aside0.mk (blk_below (g := gb450) (o := .cells #[.int .i64 a0_0, .int .i64 a0_1, .int .i64 a0_2, .int .i64 a0_3, .int .i64 a0_4, .int .i64 a0_5, .int .i64 a0_6, .slice A0_7 l0_7.length c0_7, .slice A0_8 l0_8.length c0_8] 26 (0, 0)) (by exact BK450.out) hb); replace HB := Aside0.mk (below_step (by with_reducible exact HB.out) hb); clear hb))
    go_meet
    case rel => exact ⟨_, (!t460), (by first | rfl | (simp; done) | (simp [*]; done)), H', ⟨by first | omega | exact Nat.le_refl _⟩, ⟨by exact BK450.out⟩, ⟨by with_reducible exact HB.out⟩⟩
   ·
    replace c10 := Bool.eq_false_iff.mpr c10
    subst c10
    have H1 : (credenzalaw08_PageSpoilt.j0 k a1 a2 true a0_0 a0_1 a0_2 a0_3 a0_4 a0_5 a0_6 l0_7 l0_8) = some r := by rw [if_neg (show ¬ (false = true) by decide)] at H; exact H
    clear H
    have H := H1
    clear H1
    have H' := Aside0.mk H
    clear H
    have hz19 := bx9 BK450.out
    go_wp2_with (first | ((with_reducible refine gate_callee (f := 10) rfl ?_); refine goesL_ (some 15) rfl rfl Try.func10 (by kernel_rfl) rfl #[.agg #[.int .i64 a0_0, .int .i64 a0_1, .int .i64 a0_2, .int .i64 a0_3, .int .i64 a0_4, .int .i64 a0_5, .int .i64 a0_6]] rfl (by (try simp only [List.map_toArray, List.map_cons, List.map_nil]); first | done | rfl | (simp only [List.length_drop, List.length_take]; rfl)) ?_; (with_reducible refine (credenzalaw08_head.calls a0_0 a0_1 a0_2 a0_3 a0_4 a0_5 a0_6 t451 t452 t453 t454 t455 t456 t457 _ A6.out).mono ?_); rintro e w20 ⟨rfl, hb⟩; refine ⟨_, rfl, ?_⟩; replace BK450 := Aside0.mk (blk_below (g := gb450) (o := .cells #[.int .i64 a0_0, .int .i64 a0_1, .int .i64 a0_2, .int .i64 a0_3, .int .i64 a0_4, .int .i64 a0_5, .int .i64 a0_6, .slice A0_7 l0_7.length c0_7, .slice A0_8 l0_8.length c0_8] 26 (0, 0)) (by exact BK450.out) hb); replace HB := Aside0.mk (below_step (by with_reducible exact HB.out) hb); clear hb) | ((with_reducible refine gate_callee (f := 9) rfl ?_); refine goesL_ (some 16) rfl rfl Try.func9 (by kernel_rfl) rfl #[.agg #[.int .i64 t451, .int .i64 t452, .int .i64 t453, .int .i64 t454, .int .i64 t455, .int .i64 t456, .int .i64 t457]] rfl (by (try simp only [List.map_toArray, List.map_cons, List.map_nil]); first | done | rfl | (simp only [List.length_drop, List.length_take]; rfl)) ?_; (with_reducible refine (credenzaref08_Right.calls t451 t452 t453 t454 t455 t456 t457 true _ A7.out).mono ?_); rintro e w21 ⟨rfl, hb⟩; refine ⟨_, rfl, ?_⟩; replace BK450 := Aside0.mk (blk_below (g := gb450) (o := .cells #[.int .i64 a0_0, .int .i64 a0_1, .int .i64 a0_2, .int .i64 a0_3, .int .i64 a0_4, .int .i64 a0_5, .int .i64 a0_6, .slice A0_7 l0_7.length c0_7, .slice A0_8 l0_8.length c0_8] 26 (0, 0)) (by exact BK450.out) hb); replace HB := Aside0.mk (below_step (by with_reducible exact HB.out) hb); clear hb; have hz22 := bx9 BK450.out) | (go_at_call 11; (with_reducible refine (credenzalaw08_shaped.calls k a0_0 a0_1 a0_2 a0_3 a0_4 a0_5 a0_6 _ _ l0_7 false _ ?side1 ?side2 A9.out).mono ?_); (case side1 => with_reducible exact (Kd.C_below HR0_7.out HB.out)); (case side2 => exact HC0_7.out); rintro e w23 ⟨rfl, hb⟩; replace BK450 := Aside0.mk (blk_below (g := gb450) (o := .cells #[.int .i64 a0_0, .int .i64 a0_1, .int .i64 a0_2, .int .i64 a0_3, .int .i64 a0_4, .int .i64 a0_5, .int .i64 a0_6, .slice A0_7 l0_7.length c0_7, .slice A0_8 l0_8.length c0_8] 26 (0, 0)) (by exact BK450.out) hb); replace HB := Aside0.mk (below_step (by with_reducible exact HB.out) hb); clear hb))
    go_meet
    case rel => exact ⟨_, (true), (by first | rfl | (simp; done) | (simp [*]; done)), H', ⟨by first | omega | exact Nat.le_refl _⟩, ⟨by exact BK450.out⟩, ⟨by with_reducible exact HB.out⟩⟩
  ·
   replace c8 := Bool.eq_false_iff.mpr c8
   subst c8
   have H1 : (credenzalaw08_PageSpoilt.j0 k a1 a2 true a0_0 a0_1 a0_2 a0_3 a0_4 a0_5 a0_6 l0_7 l0_8) = some r := by rw [if_neg (show ¬ (false = true) by decide)] at H; exact H
   clear H
   have H := H1
   clear H1
   have H' := Aside0.mk H
   clear H
   have hz24 := bx9 BK450.out
   go_wp2_with (first | ((with_reducible refine gate_callee (f := 10) rfl ?_); refine goesL_ (some 15) rfl rfl Try.func10 (by kernel_rfl) rfl #[.agg #[.int .i64 a0_0, .int .i64 a0_1, .int .i64 a0_2, .int .i64 a0_3, .int .i64 a0_4, .int .i64 a0_5, .int .i64 a0_6]] rfl (by (try simp only [List.map_toArray, List.map_cons, List.map_nil]); first | done | rfl | (simp only [List.length_drop, List.length_take]; rfl)) ?_; (with_reducible refine (credenzalaw08_head.calls a0_0 a0_1 a0_2 a0_3 a0_4 a0_5 a0_6 t451 t452 t453 t454 t455 t456 t457 _ A6.out).mono ?_); rintro e w25 ⟨rfl, hb⟩; refine ⟨_, rfl, ?_⟩; replace BK450 := Aside0.mk (blk_below (g := gb450) (o := .cells #[.int .i64 a0_0, .int .i64 a0_1, .int .i64 a0_2, .int .i64 a0_3, .int .i64 a0_4, .int .i64 a0_5, .int .i64 a0_6, .slice A0_7 l0_7.length c0_7, .slice A0_8 l0_8.length c0_8] 26 (0, 0)) (by exact BK450.out) hb); replace HB := Aside0.mk (below_step (by with_reducible exact HB.out) hb); clear hb) | ((with_reducible refine gate_callee (f := 9) rfl ?_); refine goesL_ (some 16) rfl rfl Try.func9 (by kernel_rfl) rfl #[.agg #[.int .i64 t451, .int .i64 t452, .int .i64 t453, .int .i64 t454, .int .i64 t455, .int .i64 t456, .int .i64 t457]] rfl (by (try simp only [List.map_toArray, List.map_cons, List.map_nil]); first | done | rfl | (simp only [List.length_drop, List.length_take]; rfl)) ?_; (with_reducible refine (credenzaref08_Right.calls t451 t452 t453 t454 t455 t456 t457 false _ A7.out).mono ?_); rintro e w26 ⟨rfl, hb⟩; refine ⟨_, rfl, ?_⟩; replace BK450 := Aside0.mk (blk_below (g := gb450) (o := .cells #[.int .i64 a0_0, .int .i64 a0_1, .int .i64 a0_2, .int .i64 a0_3, .int .i64 a0_4, .int .i64 a0_5, .int .i64 a0_6, .slice A0_7 l0_7.length c0_7, .slice A0_8 l0_8.length c0_8] 26 (0, 0)) (by exact BK450.out) hb); replace HB := Aside0.mk (below_step (by with_reducible exact HB.out) hb); clear hb))
   go_meet
   case rel => exact ⟨_, (true), (by first | rfl | (simp; done) | (simp [*]; done)), H', ⟨by first | omega | exact Nat.le_refl _⟩, ⟨by exact BK450.out⟩, ⟨by with_reducible exact HB.out⟩⟩
 case rest =>
  clear HC4
  try clear c1
  try clear p2
  try clear c3
  try clear c8
  try clear c9
  try clear c10
  try clear hz12
  try clear hz15
  try clear hz17
  try clear hz19
  try clear hz22
  try clear hz24
  obtain ⟨kq, x33_3, rfl, HA, HJ3, BK450, HB⟩ := hcut
  cases kq with
  | zero => exact absurd HA.out (by simp [credenzalaw08_PageSpoilt.j0])
  | succ kj3 =>
   have H := HA.out
   clear HA
   simp only [credenzalaw08_PageSpoilt.j0] at H
   by_cases c27 : x33_3 = true
   ·
    subst c27
    have H1 : ((credenzalaw08_awake.f kj3).bind fun t461 => (some t461)) = some r := by rw [if_pos rfl] at H; exact H
    clear H
    have H := H1
    clear H1
    replace H := Option.bind_eq_some_iff.mp H
    obtain ⟨t461, A280, H⟩ := H
    replace H : (some t461) = some r := H
    have A28 := Aside0.mk A280
    clear A280
    obtain rfl := Option.some.inj H
    go_wp2_with (first | ((with_reducible refine gate_callee (f := 12) rfl ?_); refine goesL_ (some 34) rfl rfl Try.func12 (by kernel_rfl) rfl #[] rfl (by (try simp only [List.map_toArray, List.map_cons, List.map_nil]); first | done | rfl | (simp only [List.length_drop, List.length_take]; rfl)) ?_; (with_reducible refine (credenzalaw08_awake.calls kj3  t461 _ A28.out).mono ?_); rintro e w29 ⟨rfl, hb⟩; refine ⟨_, rfl, ?_⟩; replace BK450 := Aside0.mk (blk_below (g := gb450) (o := .cells #[.int .i64 a0_0, .int .i64 a0_1, .int .i64 a0_2, .int .i64 a0_3, .int .i64 a0_4, .int .i64 a0_5, .int .i64 a0_6, .slice A0_7 l0_7.length c0_7, .slice A0_8 l0_8.length c0_8] 26 (0, 0)) (by exact BK450.out) hb); replace HB := Aside0.mk (below_step (by with_reducible exact HB.out) hb); clear hb))
    go_ret
    exact ⟨by first | rfl | (simp [errW_none, errW_some] <;> rfl) | (simp [*, errW_none, errW_some] <;> rfl), by with_reducible exact HB.out⟩
   ·
    replace c27 := Bool.eq_false_iff.mpr c27
    subst c27
    have H1 : ((page_Quantize.f kj3 a0_0 a0_1 a0_2 a0_3 a0_4 a0_5 a0_6 l0_7 l0_8).bind fun bt462 => (if bt462.2 = 0 then (credenzalaw08_PageSpoilt.j1 kj3 a1 a2 bt462.1 ((bt462.1.length : Int) == 0)) else (credenzalaw08_PageSpoilt.j1 kj3 a1 a2 bt462.1 true))) = some r := by rw [if_neg (show ¬ (false = true) by decide)] at H; exact H
    clear H
    have H := H1
    clear H1
    replace H := Option.bind_eq_some_iff.mp H
    obtain ⟨⟨t462, t465⟩, A300, H⟩ := H
    replace H : (if t465 = 0 then (credenzalaw08_PageSpoilt.j1 kj3 a1 a2 t462 ((t462.length : Int) == 0)) else (credenzalaw08_PageSpoilt.j1 kj3 a1 a2 t462 true)) = some r := H
    have A30 := Aside0.mk A300
    clear A300
    have HC31 := Aside0.mk H
    clear H
    have hz32 := bx9 BK450.out
    go_upto_region 4 with (first | ((with_reducible refine gate_callee (f := 13) rfl ?_); refine goesL_ (some 42) rfl rfl Try.func13 (by kernel_rfl) rfl #[.agg #[.int .i64 a0_0, .int .i64 a0_1, .int .i64 a0_2, .int .i64 a0_3, .int .i64 a0_4, .int .i64 a0_5, .int .i64 a0_6], .slice A0_7 l0_7.length c0_7, .slice A0_8 l0_8.length c0_8] rfl (by (try simp only [List.map_toArray, List.map_cons, List.map_nil]); first | done | rfl | (simp only [List.length_drop, List.length_take]; rfl)) ?_; (with_reducible refine (page_Quantize.calls kj3 a0_0 a0_1 a0_2 a0_3 a0_4 a0_5 a0_6 _ _ l0_7 _ _ l0_8 t462 t465 _ ?side1 ?side2 ?side3 ?side4 A30.out).mono ?_); (case side1 => with_reducible exact (Kd.C_below HR0_7.out HB.out)); (case side2 => exact HC0_7.out); (case side3 => with_reducible exact (Kd.C_below HR0_8.out HB.out)); (case side4 => exact HC0_8.out); rintro e w33 ⟨v463, rfl, ho0, hb⟩; refine ⟨_, rfl, ?_⟩; have n0_ := Aside0.mk (Kd.R_lower ho0 (below_size (by with_reducible exact HB.out))); have n1_ := Aside0.mk (blk_below (g := gb450) (o := .cells #[.int .i64 a0_0, .int .i64 a0_1, .int .i64 a0_2, .int .i64 a0_3, .int .i64 a0_4, .int .i64 a0_5, .int .i64 a0_6, .slice A0_7 l0_7.length c0_7, .slice A0_8 l0_8.length c0_8] 26 (0, 0)) (by exact BK450.out) hb); have n2_ := Aside0.mk (below_step (by with_reducible exact HB.out) hb); clear BK450; clear HB; have HO464 := n0_; have BK450 := n1_; have HB := n2_; clear n0_ n1_ n2_; (try clear hb); (try clear hb2); (try clear hk); (try clear hi); (try clear ho0)))
    (try simp only [Act.put, List.setIfInBounds_toArray, List.set_cons_zero, List.set_cons_succ])
    go_cut [50] (fun v50 wc => ∃ (kq : Nat) (x50_30 : Bool), v50 = .bool x50_30 ∧ Aside0 (credenzalaw08_PageSpoilt.j1 kq a1 a2 t462 x50_30 = some r) ∧ Aside0 (kq ≤ kj3) ∧ Aside0 (Kd.R k75 75 wc w.heap.size (fun _ => True) v463 t462) ∧ Aside0 (wc.heap[gb450]? = some (.cells #[.int .i64 a0_0, .int .i64 a0_1, .int .i64 a0_2, .int .i64 a0_3, .int .i64 a0_4, .int .i64 a0_5, .int .i64 a0_6, (.slice A0_7 l0_7.length c0_7), (.slice A0_8 l0_8.length c0_8)] 26 (0, 0))) ∧ Aside0 (Below w.heap.size w wc))
    case first =>
     have H := HC31.out
     clear HC31
     by_cases c34 : t465 = 0
     ·
      rw [if_pos c34] at H
      have c34b0 : (t465 == 0) = true := beq_iff_eq.mpr c34
      have c34b1 : (t465 != 0) = false := bne_eq_false_iff_eq.mpr c34
      clear c34
      (first | rw [c34b0] | (simp only [i64_w, i32_w]; rw [c34b0]) | skip)
      have H' := Aside0.mk H
      clear H
      obtain ⟨Ao35, co35, eo35⟩ := Kd.R_slice HO464.out
      subst eo35
      have np36 : isNilP (.slice Ao35 t462.length co35) = ((t462.length : Int) == 0) := isNilP_C (Kd.R_reads' HO464.out).2.2
      have np36n : notNilP (.slice Ao35 t462.length co35) = ((t462.length : Int) != 0) := notNilP_C (Kd.R_reads' HO464.out).2.2
      go_wp2
      go_meet
      case rel => exact ⟨_, (((t462.length : Int) == 0)), (by first | rfl | (simp; done) | (simp [*]; done)), H', ⟨by have := HJ3.out; first | omega | exact Nat.le_refl _⟩, ⟨by exact HO464.out⟩, ⟨by exact BK450.out⟩, ⟨by with_reducible exact HB.out⟩⟩
     ·
      rw [if_neg c34] at H
      have c34b0 : (t465 == 0) = false := beq_eq_false_iff_ne.mpr c34
      have c34b1 : (t465 != 0) = true := bne_iff_ne.mpr c34
      (first | rw [c34b0] | (simp only [i64_w, i32_w]; rw [c34b0]) | skip)
      have H' := Aside0.mk H
      clear H
      go_wp2
      go_meet
      case rel => exact ⟨_, (true), (by first | rfl | (simp; done) | (simp [*]; done)), H', ⟨by have := HJ3.out; first | omega | exact Nat.le_refl _⟩, ⟨by exact HO464.out⟩, ⟨by exact BK450.out⟩, ⟨by with_reducible exact HB.out⟩⟩
    case rest =>
     clear HC31
     try clear c1
     try clear c2
     try clear p2
     try clear c3
     try clear p3
     try clear c8
     try clear c9
     try clear c10
     try clear c12
     try clear c13
     try clear c27
     try clear c34
     try clear c34b0
     try clear c34b1
     try clear p36
     try clear hz12
     try clear hz15
     try clear hz17
     try clear hz19
     try clear hz22
     try clear hz24
     try clear hz32
     try clear p2
     obtain ⟨kq, x50_30, rfl, HA, HJ30, HO_7, BK450, HB⟩ := hcut
     cases kq with
     | zero => exact absurd HA.out (by simp [credenzalaw08_PageSpoilt.j1])
     | succ kj30 =>
      have H := HA.out
      clear HA
      simp only [credenzalaw08_PageSpoilt.j1] at H
      by_cases c37 : x50_30 = true
      ·
       subst c37
       have H1 : (none) = some r := by rw [if_pos rfl] at H; exact H
       clear H
       have H := H1
       clear H1
       exact absurd H (by simp)
      ·
       replace c37 := Bool.eq_false_iff.mpr c37
       subst c37
       have H1 : ((page_Page_Bytes.f kj30 t462).bind fun t466 => (if a1 < 0 then (credenzalaw08_PageSpoilt.j2 kj30 a1 a2 t462 t466 true) else (credenzalaw08_PageSpoilt.j2 kj30 a1 a2 t462 t466 (decide (a1 ≥ (t466.length : Int)))))) = some r := by rw [if_neg (show ¬ (false = true) by decide)] at H; exact H
       clear H
       have H := H1
       clear H1
       replace H := Option.bind_eq_some_iff.mp H
       obtain ⟨t466, A380, H⟩ := H
       replace H : (if a1 < 0 then (credenzalaw08_PageSpoilt.j2 kj30 a1 a2 t462 t466 true) else (credenzalaw08_PageSpoilt.j2 kj30 a1 a2 t462 t466 (decide (a1 ≥ (t466.length : Int))))) = some r := H
       have A38 := Aside0.mk A380
       clear A380
       have HC39 := Aside0.mk H
       clear H
       obtain ⟨Ao40, co40, eo40⟩ := Kd.R_slice HO_7.out
       subst eo40
       go_upto_region 7 with (first | ((with_reducible refine gate_callee (f := 14) rfl ?_); refine goesL_ (some 52) rfl rfl Try.func14 (by kernel_rfl) rfl #[asPtr (.slice Ao40 t462.length co40)] rfl (by (try simp only [List.map_toArray, List.map_cons, List.map_nil]); first | done | rfl | (simp only [List.length_drop, List.length_take]; rfl)) ?_; (with_reducible refine (page_Page_Bytes.calls kj30 _ _ t462 t466 _ ?side1 ?side2 A38.out).mono ?_); (case side1 => with_reducible exact (Kd.R_reads' HO_7.out).2.2); (case side2 => exact (Kd.R_reads' HO_7.out).2.1); rintro e w41 ⟨v467, rfl, ho0, hb⟩; refine ⟨_, rfl, ?_⟩; have n0_ := Aside0.mk (Kd.R_below (by exact HO_7.out) hb); have n1_ := Aside0.mk (Kd.R_lower ho0 (below_size (by with_reducible exact HB.out))); have n2_ := Aside0.mk (blk_below (g := gb450) (o := .cells #[.int .i64 a0_0, .int .i64 a0_1, .int .i64 a0_2, .int .i64 a0_3, .int .i64 a0_4, .int .i64 a0_5, .int .i64 a0_6, .slice A0_7 l0_7.length c0_7, .slice A0_8 l0_8.length c0_8] 26 (0, 0)) (by exact BK450.out) hb); have n3_ := Aside0.mk (below_step (by with_reducible exact HB.out) hb); clear HO_7; clear BK450; clear HB; have HO_7 := n0_; have HO468 := n1_; have BK450 := n2_; have HB := n3_; clear n0_ n1_ n2_ n3_; (try clear hb); (try clear hb2); (try clear hk); (try clear hi); (try clear ho0)))
       (try simp only [Act.put, List.setIfInBounds_toArray, List.set_cons_zero, List.set_cons_succ])
       go_cut [60] (fun v60 wc => ∃ (kq : Nat) (x60_38 : Bool), v60 = .bool x60_38 ∧ Aside0 (credenzalaw08_PageSpoilt.j2 kq a1 a2 t462 t466 x60_38 = some r) ∧ Aside0 (kq ≤ kj30) ∧ Aside0 (Kd.R k75 75 wc w.heap.size (fun _ => True) (.slice Ao40 t462.length co40) t462) ∧ Aside0 (Kd.R (Kd.int .u8) 5 wc w.heap.size (fun _ => True) v467 t466) ∧ Aside0 (wc.heap[gb450]? = some (.cells #[.int .i64 a0_0, .int .i64 a0_1, .int .i64 a0_2, .int .i64 a0_3, .int .i64 a0_4, .int .i64 a0_5, .int .i64 a0_6, (.slice A0_7 l0_7.length c0_7), (.slice A0_8 l0_8.length c0_8)] 26 (0, 0))) ∧ Aside0 (Below w.heap.size w wc))
       case first =>
        have H := HC39.out
        clear HC39
        by_cases c42 : a1 < 0
        ·
         rw [if_pos c42] at H
         have c42b0 : decide (a1 < 0) = true := decide_eq_true c42
         clear c42
         (first | rw [c42b0] | (simp only [i64_w, i32_w]; rw [c42b0]) | skip)
         have H' := Aside0.mk H
         clear H
         go_wp2
         go_meet
         case rel => exact ⟨_, (true), (by first | rfl | (simp; done) | (simp [*]; done)), H', ⟨by have := HJ3.out; have := HJ30.out; first | omega | exact Nat.le_refl _⟩, ⟨by exact HO_7.out⟩, ⟨by exact HO468.out⟩, ⟨by exact BK450.out⟩, ⟨by with_reducible exact HB.out⟩⟩
        ·
         rw [if_neg c42] at H
         have c42b0 : decide (a1 < 0) = false := decide_eq_false c42
         clear c42
         (first | rw [c42b0] | (simp only [i64_w, i32_w]; rw [c42b0]) | skip)
         have H' := Aside0.mk H
         clear H
         obtain ⟨Ao43, co43, eo43⟩ := Kd.R_slice HO468.out
         subst eo43
         go_wp2
         go_meet
         case rel => exact ⟨_, (decide (a1 ≥ (t466.length : Int))), (by first | rfl | (simp; done) | (simp [*]; done)), H', ⟨by have := HJ3.out; have := HJ30.out; first | omega | exact Nat.le_refl _⟩, ⟨by exact HO_7.out⟩, ⟨by exact HO468.out⟩, ⟨by exact BK450.out⟩, ⟨by with_reducible exact HB.out⟩⟩
       case rest =>
        clear HC39
        try clear c1
        try clear c2
        try clear p2
        try clear c3
        try clear p3
        try clear c4
        try clear c8
        try clear c9
        try clear c10
        try clear c12
        try clear c13
        try clear c14
        try clear c27
        try clear c34
        try clear c34b0
        try clear c34b1
        try clear p36
        try clear c37
        try clear c42
        try clear c42b0
        try clear hz12
        try clear hz15
        try clear hz17
        try clear hz19
        try clear hz22
        try clear hz24
        try clear hz32
        try clear p2
        try clear p3
        try clear p36
        obtain ⟨kq, x60_38, rfl, HA, HJ38, HO_7, HO_9, BK450, HB⟩ := hcut
        cases kq with
        | zero => exact absurd HA.out (by simp [credenzalaw08_PageSpoilt.j2])
        | succ kj38 =>
         have H := HA.out
         clear HA
         simp only [credenzalaw08_PageSpoilt.j2] at H
         by_cases c44 : x60_38 = true
         ·
          subst c44
          have H1 : ((credenzalaw08_awake.f kj38).bind fun t469 => (some t469)) = some r := by rw [if_pos rfl] at H; exact H
          clear H
          have H := H1
          clear H1
          replace H := Option.bind_eq_some_iff.mp H
          obtain ⟨t469, A450, H⟩ := H
          replace H : (some t469) = some r := H
          have A45 := Aside0.mk A450
          clear A450
          obtain rfl := Option.some.inj H
          go_wp2_with (first | ((with_reducible refine gate_callee (f := 12) rfl ?_); refine goesL_ (some 61) rfl rfl Try.func12 (by kernel_rfl) rfl #[] rfl (by (try simp only [List.map_toArray, List.map_cons, List.map_nil]); first | done | rfl | (simp only [List.length_drop, List.length_take]; rfl)) ?_; (with_reducible refine (credenzalaw08_awake.calls kj38  t469 _ A45.out).mono ?_); rintro e w46 ⟨rfl, hb⟩; refine ⟨_, rfl, ?_⟩; replace HO_7 := Aside0.mk (Kd.R_below (by exact HO_7.out) hb); replace HO_9 := Aside0.mk (Kd.R_below (by exact HO_9.out) hb); replace BK450 := Aside0.mk (blk_below (g := gb450) (o := .cells #[.int .i64 a0_0, .int .i64 a0_1, .int .i64 a0_2, .int .i64 a0_3, .int .i64 a0_4, .int .i64 a0_5, .int .i64 a0_6, .slice A0_7 l0_7.length c0_7, .slice A0_8 l0_8.length c0_8] 26 (0, 0)) (by exact BK450.out) hb); replace HB := Aside0.mk (below_step (by with_reducible exact HB.out) hb); clear hb))
          go_ret
          exact ⟨by first | rfl | (simp [errW_none, errW_some] <;> rfl) | (simp [*, errW_none, errW_some] <;> rfl), by with_reducible exact HB.out⟩
         ·
          replace c44 := Bool.eq_false_iff.mpr c44
          subst c44
          have H1 : (if 0 ≤ a1 then (if a1 < (t466.length : Int) then ((page_Parse.f kj38 (t466.set (a1 : Int).toNat a2)).bind fun bt472 => (if (rd t466 a1) = a2 then (if bt472.2 = 0 then (if (bt472.1.length : Int) = 0 then (none) else ((page_Page_Bytes.f kj38 t462).bind fun t476 => (if (t476.length : Int) = (t466.length : Int) then ((credenzalaw08_awake.f kj38).bind fun t479 => (some t479)) else (none)))) else (none)) else (if bt472.2 = 22 then (if (bt472.1.length : Int) = 0 then ((page_Page_Bytes.f kj38 t462).bind fun t480 => (if (t480.length : Int) = (t466.length : Int) then ((credenzalaw08_awake.f kj38).bind fun t483 => (some t483)) else (none))) else (none)) else (none)))) else (none)) else (none)) = some r := by rw [if_neg (show ¬ (false = true) by decide)] at H; exact H
          clear H
          have H := H1
          clear H1
          by_cases c47 : 0 ≤ a1
          case neg => (rw [if_neg c47] at H; exact absurd H (by simp))
          rw [if_pos c47] at H
          have c47b0 : decide (0 ≤ a1) = true := decide_eq_true c47
          clear c47
          by_cases c48 : a1 < (t466.length : Int)
          case neg => (rw [if_neg c48] at H; exact absurd H (by simp))
          rw [if_pos c48] at H
          have c48b0 : decide (a1 < (t466.length : Int)) = true := decide_eq_true c48
          clear c48
          obtain ⟨y471, hy471⟩ : ∃ y_ : List Int, y_ = (t466.set (a1 : Int).toNat a2) := ⟨_, rfl⟩
          replace H : ((page_Parse.f kj38 y471).bind fun bt472 => (if (rd t466 a1) = a2 then (if bt472.2 = 0 then (if (bt472.1.length : Int) = 0 then (none) else ((page_Page_Bytes.f kj38 t462).bind fun t476 => (if (t476.length : Int) = (t466.length : Int) then ((credenzalaw08_awake.f kj38).bind fun t479 => (some t479)) else (none)))) else (none)) else (if bt472.2 = 22 then (if (bt472.1.length : Int) = 0 then ((page_Page_Bytes.f kj38 t462).bind fun t480 => (if (t480.length : Int) = (t466.length : Int) then ((credenzalaw08_awake.f kj38).bind fun t483 => (some t483)) else (none))) else (none)) else (none)))) = some r := by first | (rw [hy471]; with_reducible exact H) | (have H2_ := (Option.bind_some _ _).symm.trans H; rw [hy471]; with_reducible exact H2_) | (have H2_ := (Option.bind_some _ _).symm.trans H; with_reducible exact H2_) | with_reducible exact H | (rw [hy471]; exact H) | exact H
          have Ny471 := Aside0.mk hy471
          clear hy471
          replace H := Option.bind_eq_some_iff.mp H
          obtain ⟨⟨t472, t473⟩, A500, H⟩ := H
          replace H : (if (rd t466 a1) = a2 then (if t473 = 0 then (if (t472.length : Int) = 0 then (none) else ((page_Page_Bytes.f kj38 t462).bind fun t476 => (if (t476.length : Int) = (t466.length : Int) then ((credenzalaw08_awake.f kj38).bind fun t479 => (some t479)) else (none)))) else (none)) else (if t473 = 22 then (if (t472.length : Int) = 0 then ((page_Page_Bytes.f kj38 t462).bind fun t480 => (if (t480.length : Int) = (t466.length : Int) then ((credenzalaw08_awake.f kj38).bind fun t483 => (some t483)) else (none))) else (none)) else (none))) = some r := H
          have A50 := Aside0.mk A500
          clear A500
          by_cases c51 : (rd t466 a1) = a2
          ·
           rw [if_pos c51] at H
           have c51b0 : ((rd t466 a1) == a2) = true := beq_iff_eq.mpr c51
           have c51b1 : ((rd t466 a1) != a2) = false := bne_eq_false_iff_eq.mpr c51
           clear c51
           by_cases c52 : t473 = 0
           case neg => (rw [if_neg c52] at H; exact absurd H (by simp))
           rw [if_pos c52] at H
           have c52b0 : (t473 == 0) = true := beq_iff_eq.mpr c52
           have c52b1 : (t473 != 0) = false := bne_eq_false_iff_eq.mpr c52
           clear c52
           by_cases c53 : (t472.length : Int) = 0
           case pos => (rw [if_pos c53] at H; exact absurd H (by simp))
           rw [if_neg c53] at H
           have c53b0 : ((t472.length : Int) == 0) = false := beq_eq_false_iff_ne.mpr c53
           have c53b1 : ((t472.length : Int) != 0) = true := bne_iff_ne.mpr c53
           have c53b2 : ¬ (t472 = []) := fun h_ => c53 (by rw [h_]; rfl)
           replace H := Option.bind_eq_some_iff.mp H
           obtain ⟨t476, A540, H⟩ := H
           replace H : (if (t476.length : Int) = (t466.length : Int) then ((credenzalaw08_awake.f kj38).bind fun t479 => (some t479)) else (none)) = some r := H
           have A54 := Aside0.mk A540
           clear A540
           by_cases c55 : (t476.length : Int) = (t466.length : Int)
           case neg => (rw [if_neg c55] at H; exact absurd H (by simp))
           rw [if_pos c55] at H
           have c55b0 : ((t476.length : Int) == (t466.length : Int)) = true := beq_iff_eq.mpr c55
           have c55b1 : ((t476.length : Int) != (t466.length : Int)) = false := bne_eq_false_iff_eq.mpr c55
           have c55b2 : (t476.length == t466.length) = true := by first | simpa using c55 | (simp at c55 ⊢; omega)
           clear c55
           replace H := Option.bind_eq_some_iff.mp H
           obtain ⟨t479, A560, H⟩ := H
           replace H : (some t479) = some r := H
           have A56 := Aside0.mk A560
           clear A560
           obtain rfl := Option.some.inj H
           obtain ⟨Ao57, co57, eo57⟩ := Kd.R_slice HO_9.out
           subst eo57
           have p470 : 0 ≤ (a1 : Int) := of_decide_eq_true (by first | (with_reducible assumption) | assumption)
           have q470 : a1 < (t466.length : Int) := of_decide_eq_true (by first | (with_reducible assumption) | assumption)
           obtain ⟨ad470, e470, hx470_0⟩ := Kd.at_int (Kd.R_reads' HO_9.out).2.2 a1 p470 q470
           cases e470
           replace p470 := eq_true p470
           replace q470 := eq_true q470
           have p49 : 0 ≤ (a1 : Int) := of_decide_eq_true (by first | (with_reducible assumption) | assumption)
           have q49 : (a1 : Int) < ((t466.length : Int) : Int) := of_decide_eq_true (by first | (with_reducible assumption) | assumption)
           obtain ⟨go49, co49, eo49, gb49, gl49, cl49, HG49⟩ := Kd.R_form HO_9.out (by omega)
           (first | cases eo49 | (injection eo49 with ea_ en_ ec_; (first | subst ea_ | (injection ea_ with ea_; subst ea_)); subst ec_; clear en_))
           have GB49 := Aside0.mk gb49
           have GG49 := Aside0.mk HG49
           clear gb49 gl49 HG49
           (first | simp only [add_plain] at hx470_0 | skip)
           obtain ⟨hx49_0, hf49_0⟩ := Kd.R_celln 0 HO_9.out (a1 : Int) p49 q49
           replace p49 := eq_true p49
           replace q49 := eq_true q49
           have HP58 := Kd.R_putg HO_9.out (a1 : Int) a2
           go_wp2_with (first | ((with_reducible refine gate_store (t := 5) (p := 69) rfl ?_); refine store_event (t := 5) (p := 69) (v := ?vo_w59) (w1 := (wc.setCell ⟨go49, (a1 : Int).toNat, none⟩ (.int .u8 a2))) ?hg ?ho ?hn ?hr ?_; (case ho => rfl); (case hg => rfl); (case hn => rfl); (case hr => first | (go_simp; done) | (go_simp; rfl)); intro w59 hw; have hg : wc.grownBy w59 (some go49) := (by rw [hw]; exact HP58.2); have hp_ : Kd.R (Kd.int .u8) 5 w59 w.heap.size (fun _ => True) (.slice (some ⟨go49, 0, none⟩) t466.length co57) y471 := (by rw [hw, Ny471.out]; exact HP58.1); clear HP58; replace HO_7 := Aside0.mk (Kd.R_over' (v := (.slice (some ⟨go49, 0, none⟩) t466.length co57)) (by exact HO_7.out) (Kd.R_typed HO_9.out) (by decide) hg); replace BK450 := Aside0.mk (blk_grown (g := gb450) (o := .cells #[.int .i64 a0_0, .int .i64 a0_1, .int .i64 a0_2, .int .i64 a0_3, .int .i64 a0_4, .int .i64 a0_5, .int .i64 a0_6, .slice A0_7 l0_7.length c0_7, .slice A0_8 l0_8.length c0_8] 26 (0, 0)) (by exact BK450.out) hg (Kd.R_ne HO_9.out BK450.out (by decide))); replace HO_9 := Aside0.mk (hp_); replace HB := Aside0.mk ((by rw [hw]; exact below_set (HB.out) GB49.out : Below w.heap.size w w59)); clear hg hw hp_) | ((with_reducible refine gate_callee (f := 15) rfl ?_); refine goesL_ (some 72) rfl rfl Try.func15 (by kernel_rfl) rfl #[.slice (some ⟨go49, 0, none⟩) y471.length co57] rfl (by (try simp only [List.map_toArray, List.map_cons, List.map_nil]); first | done | (rw [show y471.length = t466.length from (Kd.R_reads' HO_9.out).1.symm] <;> rfl) | rfl | (simp only [List.length_drop, List.length_take]; rfl)) ?_; (with_reducible refine (page_Parse.calls kj38 _ _ y471 t472 t473 _ ?side1 ?side2 A50.out).mono ?_); (case side1 => with_reducible exact (Kd.R_reads' HO_9.out).2.2); (case side2 => rw [show y471.length = t466.length from (Kd.R_reads' HO_9.out).1.symm]; exact (Kd.R_reads' HO_9.out).2.1); rintro e w60 ⟨v474, rfl, ho0, hb⟩; refine ⟨_, rfl, ?_⟩; replace HO_9 := Aside0.mk (Kd.R_below (by exact HO_9.out) hb); have HO475 := Aside0.mk (Kd.R_lower (Kd.R_new' ho0 (Kd.R_lt (by exact HO_7.out))) (below_size (by with_reducible exact HB.out))); replace HO_7 := Aside0.mk (Kd.R_elder' (by exact HO_7.out) (Kd.R_base ho0) hb); replace BK450 := Aside0.mk (blk_below (g := gb450) (o := .cells #[.int .i64 a0_0, .int .i64 a0_1, .int .i64 a0_2, .int .i64 a0_3, .int .i64 a0_4, .int .i64 a0_5, .int .i64 a0_6, .slice A0_7 l0_7.length c0_7, .slice A0_8 l0_8.length c0_8] 26 (0, 0)) (by exact BK450.out) hb); replace HB := Aside0.mk (below_step (by with_reducible exact HB.out) hb); clear hb ho0; obtain ⟨Ao61, co61, eo61⟩ := Kd.R_slice HO475.out; subst eo61; have np62 : isNilP (.slice Ao61 t472.length co61) = ((t472.length : Int) == 0) := isNilP_C (Kd.R_reads' HO475.out).2.2; have np62n : notNilP (.slice Ao61 t472.length co61) = ((t472.length : Int) != 0) := notNilP_C (Kd.R_reads' HO475.out).2.2) | (go_at_call 14; (with_reducible refine (page_Page_Bytes.calls kj38 _ _ t462 t476 _ ?side1 ?side2 A54.out).mono ?_); (case side1 => with_reducible exact (Kd.R_reads' HO_7.out).2.2); (case side2 => exact (Kd.R_reads' HO_7.out).2.1); rintro e w63 ⟨v477, rfl, ho0, hb⟩; replace HO_7 := Aside0.mk (Kd.R_below (by exact HO_7.out) hb); replace HO475 := Aside0.mk (Kd.R_below (by exact HO475.out) hb); have HO478 := Aside0.mk (Kd.R_lower (Kd.R_new' ho0 (Kd.R_lt (by exact HO_9.out))) (below_size (by with_reducible exact HB.out))); replace HO_9 := Aside0.mk (Kd.R_elder' (by exact HO_9.out) (Kd.R_base ho0) hb); replace BK450 := Aside0.mk (blk_below (g := gb450) (o := .cells #[.int .i64 a0_0, .int .i64 a0_1, .int .i64 a0_2, .int .i64 a0_3, .int .i64 a0_4, .int .i64 a0_5, .int .i64 a0_6, .slice A0_7 l0_7.length c0_7, .slice A0_8 l0_8.length c0_8] 26 (0, 0)) (by exact BK450.out) hb); replace HB := Aside0.mk (below_step (by with_reducible exact HB.out) hb); clear hb ho0; obtain ⟨Ao64, co64, eo64⟩ := Kd.R_slice HO478.out; subst eo64) | (go_at_call 12; (with_reducible refine (credenzalaw08_awake.calls kj38  t479 _ A56.out).mono ?_); rintro e w65 ⟨rfl, hb⟩; replace HO_7 := Aside0.mk (Kd.R_below (by exact HO_7.out) hb); replace HO_9 := Aside0.mk (Kd.R_below (by exact HO_9.out) hb); replace HO475 := Aside0.mk (Kd.R_below (by exact HO475.out) hb); replace HO478 := Aside0.mk (Kd.R_below (by exact HO478.out) hb); replace BK450 := Aside0.mk (blk_below (g := gb450) (o := .cells #[.int .i64 a0_0, .int .i64 a0_1, .int .i64 a0_2, .int .i64 a0_3, .int .i64 a0_4, .int .i64 a0_5, .int .i64 a0_6, .slice A0_7 l0_7.length c0_7, .slice A0_8 l0_8.length c0_8] 26 (0, 0)) (by exact BK450.out) hb); replace HB := Aside0.mk (below_step (by with_reducible exact HB.out) hb); clear hb))
           go_ret
           exact ⟨by first | rfl | (simp [errW_none, errW_some] <;> rfl) | (simp [*, errW_none, errW_some] <;> rfl), by with_reducible exact HB.out⟩
          ·
           rw [if_neg c51] at H
           have c51b0 : ((rd t466 a1) == a2) = false := beq_eq_false_iff_ne.mpr c51
           have c51b1 : ((rd t466 a1) != a2) = true := bne_iff_ne.mpr c51
           by_cases c66 : t473 = 22
           case neg => (rw [if_neg c66] at H; exact absurd H (by simp))
           rw [if_pos c66] at H
           have c66b0 : (t473 == 22) = true := beq_iff_eq.mpr c66
           have c66b1 : (t473 != 22) = false := bne_eq_false_iff_eq.mpr c66
           clear c66
           by_cases c67 : (t472.length : Int) = 0
           case neg => (rw [if_neg c67] at H; exact absurd H (by simp))
           rw [if_pos c67] at H
           have c67b0 : ((t472.length : Int) == 0) = true := beq_iff_eq.mpr c67
           have c67b1 : ((t472.length : Int) != 0) = false := bne_eq_false_iff_eq.mpr c67
           clear c67
           replace H := Option.bind_eq_some_iff.mp H
           obtain ⟨t480, A680, H⟩ := H
           replace H : (if (t480.length : Int) = (t466.length : Int) then ((credenzalaw08_awake.f kj38).bind fun t483 => (some t483)) else (none)) = some r := H
           have A68 := Aside0.mk A680
           clear A680
           by_cases c69 : (t480.length : Int) = (t466.length : Int)
           case neg => (rw [if_neg c69] at H; exact absurd H (by simp))
           rw [if_pos c69] at H
           have c69b0 : ((t480.length : Int) == (t466.length : Int)) = true := beq_iff_eq.mpr c69
           have c69b1 : ((t480.length : Int) != (t466.length : Int)) = false := bne_eq_false_iff_eq.mpr c69
           have c69b2 : (t480.length == t466.length) = true := by first | simpa using c69 | (simp at c69 ⊢; omega)
           clear c69
           replace H := Option.bind_eq_some_iff.mp H
           obtain ⟨t483, A700, H⟩ := H
           replace H : (some t483) = some r := H
           have A70 := Aside0.mk A700
           clear A700
           obtain rfl := Option.some.inj H
           obtain ⟨Ao71, co71, eo71⟩ := Kd.R_slice HO_9.out
           subst eo71
           have p470 : 0 ≤ (a1 : Int) := of_decide_eq_true (by first | (with_reducible assumption) | assumption)
           have q470 : a1 < (t466.length : Int) := of_decide_eq_true (by first | (with_reducible assumption) | assumption)
           obtain ⟨ad470, e470, hx470_0⟩ := Kd.at_int (Kd.R_reads' HO_9.out).2.2 a1 p470 q470
           cases e470
           replace p470 := eq_true p470
           replace q470 := eq_true q470
           have p49 : 0 ≤ (a1 : Int) := of_decide_eq_true (by first | (with_reducible assumption) | assumption)
           have q49 : (a1 : Int) < ((t466.length : Int) : Int) := of_decide_eq_true (by first | (with_reducible assumption) | assumption)
           obtain ⟨go49, co49, eo49, gb49, gl49, cl49, HG49⟩ := Kd.R_form HO_9.out (by omega)
           (first | cases eo49 | (injection eo49 with ea_ en_ ec_; (first | subst ea_ | (injection ea_ with ea_; subst ea_)); subst ec_; clear en_))
           have GB49 := Aside0.mk gb49
           have GG49 := Aside0.mk HG49
           clear gb49 gl49 HG49
           (first | simp only [add_plain] at hx470_0 | skip)
           obtain ⟨hx49_0, hf49_0⟩ := Kd.R_celln 0 HO_9.out (a1 : Int) p49 q49
           replace p49 := eq_true p49
           replace q49 := eq_true q49
           have HP72 := Kd.R_putg HO_9.out (a1 : Int) a2
           go_wp2_with (first | ((with_reducible refine gate_store (t := 5) (p := 69) rfl ?_); refine store_event (t := 5) (p := 69) (v := ?vo_w73) (w1 := (wc.setCell ⟨go49, (a1 : Int).toNat, none⟩ (.int .u8 a2))) ?hg ?ho ?hn ?hr ?_; (case ho => rfl); (case hg => rfl); (case hn => rfl); (case hr => first | (go_simp; done) | (go_simp; rfl)); intro w73 hw; have hg : wc.grownBy w73 (some go49) := (by rw [hw]; exact HP72.2); have hp_ : Kd.R (Kd.int .u8) 5 w73 w.heap.size (fun _ => True) (.slice (some ⟨go49, 0, none⟩) t466.length co71) y471 := (by rw [hw, Ny471.out]; exact HP72.1); clear HP72; replace HO_7 := Aside0.mk (Kd.R_over' (v := (.slice (some ⟨go49, 0, none⟩) t466.length co71)) (by exact HO_7.out) (Kd.R_typed HO_9.out) (by decide) hg); replace BK450 := Aside0.mk (blk_grown (g := gb450) (o := .cells #[.int .i64 a0_0, .int .i64 a0_1, .int .i64 a0_2, .int .i64 a0_3, .int .i64 a0_4, .int .i64 a0_5, .int .i64 a0_6, .slice A0_7 l0_7.length c0_7, .slice A0_8 l0_8.length c0_8] 26 (0, 0)) (by exact BK450.out) hg (Kd.R_ne HO_9.out BK450.out (by decide))); replace HO_9 := Aside0.mk (hp_); replace HB := Aside0.mk ((by rw [hw]; exact below_set (HB.out) GB49.out : Below w.heap.size w w73)); clear hg hw hp_) | ((with_reducible refine gate_callee (f := 15) rfl ?_); refine goesL_ (some 72) rfl rfl Try.func15 (by kernel_rfl) rfl #[.slice (some ⟨go49, 0, none⟩) y471.length co71] rfl (by (try simp only [List.map_toArray, List.map_cons, List.map_nil]); first | done | (rw [show y471.length = t466.length from (Kd.R_reads' HO_9.out).1.symm] <;> rfl) | rfl | (simp only [List.length_drop, List.length_take]; rfl)) ?_; (with_reducible refine (page_Parse.calls kj38 _ _ y471 t472 t473 _ ?side1 ?side2 A50.out).mono ?_); (case side1 => with_reducible exact (Kd.R_reads' HO_9.out).2.2); (case side2 => rw [show y471.length = t466.length from (Kd.R_reads' HO_9.out).1.symm]; exact (Kd.R_reads' HO_9.out).2.1); rintro e w74 ⟨v474, rfl, ho0, hb⟩; refine ⟨_, rfl, ?_⟩; replace HO_9 := Aside0.mk (Kd.R_below (by exact HO_9.out) hb); have HO475 := Aside0.mk (Kd.R_lower (Kd.R_new' ho0 (Kd.R_lt (by exact HO_7.out))) (below_size (by with_reducible exact HB.out))); replace HO_7 := Aside0.mk (Kd.R_elder' (by exact HO_7.out) (Kd.R_base ho0) hb); replace BK450 := Aside0.mk (blk_below (g := gb450) (o := .cells #[.int .i64 a0_0, .int .i64 a0_1, .int .i64 a0_2, .int .i64 a0_3, .int .i64 a0_4, .int .i64 a0_5, .int .i64 a0_6, .slice A0_7 l0_7.length c0_7, .slice A0_8 l0_8.length c0_8] 26 (0, 0)) (by exact BK450.out) hb); replace HB := Aside0.mk (below_step (by with_reducible exact HB.out) hb); clear hb ho0; obtain ⟨Ao75, co75, eo75⟩ := Kd.R_slice HO475.out; subst eo75; have np76 : isNilP (.slice Ao75 t472.length co75) = ((t472.length : Int) == 0) := isNilP_C (Kd.R_reads' HO475.out).2.2; have np76n : notNilP (.slice Ao75 t472.length co75) = ((t472.length : Int) != 0) := notNilP_C (Kd.R_reads' HO475.out).2.2) | (go_at_call 14; (with_reducible refine (page_Page_Bytes.calls kj38 _ _ t462 t480 _ ?side1 ?side2 A68.out).mono ?_); (case side1 => with_reducible exact (Kd.R_reads' HO_7.out).2.2); (case side2 => exact (Kd.R_reads' HO_7.out).2.1); rintro e w77 ⟨v481, rfl, ho0, hb⟩; replace HO_7 := Aside0.mk (Kd.R_below (by exact HO_7.out) hb); replace HO475 := Aside0.mk (Kd.R_below (by exact HO475.out) hb); have HO482 := Aside0.mk (Kd.R_lower (Kd.R_new' ho0 (Kd.R_lt (by exact HO_9.out))) (below_size (by with_reducible exact HB.out))); replace HO_9 := Aside0.mk (Kd.R_elder' (by exact HO_9.out) (Kd.R_base ho0) hb); replace BK450 := Aside0.mk (blk_below (g := gb450) (o := .cells #[.int .i64 a0_0, .int .i64 a0_1, .int .i64 a0_2, .int .i64 a0_3, .int .i64 a0_4, .int .i64 a0_5, .int .i64 a0_6, .slice A0_7 l0_7.length c0_7, .slice A0_8 l0_8.length c0_8] 26 (0, 0)) (by exact BK450.out) hb); replace HB := Aside0.mk (below_step (by with_reducible exact HB.out) hb); clear hb ho0; obtain ⟨Ao78, co78, eo78⟩ := Kd.R_slice HO482.out; subst eo78) | (go_at_call 12; (with_reducible refine (credenzalaw08_awake.calls kj38  t483 _ A70.out).mono ?_); rintro e w79 ⟨rfl, hb⟩; replace HO_7 := Aside0.mk (Kd.R_below (by exact HO_7.out) hb); replace HO_9 := Aside0.mk (Kd.R_below (by exact HO_9.out) hb); replace HO475 := Aside0.mk (Kd.R_below (by exact HO475.out) hb); replace HO482 := Aside0.mk (Kd.R_below (by exact HO482.out) hb); replace BK450 := Aside0.mk (blk_below (g := gb450) (o := .cells #[.int .i64 a0_0, .int .i64 a0_1, .int .i64 a0_2, .int .i64 a0_3, .int .i64 a0_4, .int .i64 a0_5, .int .i64 a0_6, .slice A0_7 l0_7.length c0_7, .slice A0_8 l0_8.length c0_8] 26 (0, 0)) (by exact BK450.out) hb); replace HB := Aside0.mk (below_step (by with_reducible exact HB.out) hb); clear hb))
           go_ret
           exact ⟨by first | rfl | (simp [errW_none, errW_some] <;> rfl) | (simp [*, errW_none, errW_some] <;> rfl), by with_reducible exact HB.out⟩

/-- THE ONE PURE STATEMENT of credenzalaw08_PageSpoilt: yours. -/
def credenzalaw08_PageSpoilt.Pure : Prop := ∀ (a0_0 : Int) (a0_1 : Int) (a0_2 : Int) (a0_3 : Int) (a0_4 : Int) (a0_5 : Int) (a0_6 : Int) (l0_7 : List (List Int)) (l0_8 : List (List Int)) (a1 : Int) (a2 : Int), (Lit.int .i64 a0_0).wf = true → (Lit.int .i64 a0_1).wf = true → (Lit.int .i64 a0_2).wf = true → (Lit.int .i64 a0_3).wf = true → (Lit.int .i64 a0_4).wf = true → (Lit.int .i64 a0_5).wf = true → (Lit.int .i64 a0_6).wf = true → l0_7.length ≤ maxLen → (∀ z ∈ l0_7, (z.length ≤ maxLen ∧ ∀ z1 ∈ z, (Lit.int .i32 z1).wf = true)) → l0_8.length ≤ maxLen → (∀ z ∈ l0_8, (z.length ≤ maxLen ∧ ∀ z1 ∈ z, (Lit.int .i32 z1).wf = true)) → (Lit.int .i64 a1).wf = true → (Lit.int .u8 a2).wf = true → ∃ k, credenzalaw08_PageSpoilt.f k a0_0 a0_1 a0_2 a0_3 a0_4 a0_5 a0_6 l0_7 l0_8 a1 a2 = some true
theorem credenzalaw08_PageSpoilt.walk (P : credenzalaw08_PageSpoilt.Pure) (a0_0 : Int) (a0_1 : Int) (a0_2 : Int) (a0_3 : Int) (a0_4 : Int) (a0_5 : Int) (a0_6 : Int) (A0_7 : Option Addr) (c0_7 : Nat) (l0_7 : List (List Int)) (A0_8 : Option Addr) (c0_8 : Nat) (l0_8 : List (List Int)) (a1 : Int) (a2 : Int) (w : World) (w0_0 : (Lit.int .i64 a0_0).wf = true) (w0_1 : (Lit.int .i64 a0_1).wf = true) (w0_2 : (Lit.int .i64 a0_2).wf = true) (w0_3 : (Lit.int .i64 a0_3).wf = true) (w0_4 : (Lit.int .i64 a0_4).wf = true) (w0_5 : (Lit.int .i64 a0_5).wf = true) (w0_6 : (Lit.int .i64 a0_6).wf = true) (hr0_7 : Kd.C (Kd.slice 21 (Kd.int .i32)) w A0_7 l0_7.length l0_7) (hc0_7 : l0_7.length ≤ c0_7) (hm0_7 : l0_7.length ≤ maxLen) (hq0_7 : ∀ z ∈ l0_7, (z.length ≤ maxLen ∧ ∀ z1 ∈ z, (Lit.int .i32 z1).wf = true)) (hr0_8 : Kd.C (Kd.slice 21 (Kd.int .i32)) w A0_8 l0_8.length l0_8) (hc0_8 : l0_8.length ≤ c0_8) (hm0_8 : l0_8.length ≤ maxLen) (hq0_8 : ∀ z ∈ l0_8, (z.length ≤ maxLen ∧ ∀ z1 ∈ z, (Lit.int .i32 z1).wf = true)) (w1 : (Lit.int .i64 a1).wf = true) (w2 : (Lit.int .u8 a2).wf = true) :
  Calls Try.prog 3 #[.agg #[.int .i64 a0_0, .int .i64 a0_1, .int .i64 a0_2, .int .i64 a0_3, .int .i64 a0_4, .int .i64 a0_5, .int .i64 a0_6, .slice A0_7 l0_7.length c0_7, .slice A0_8 l0_8.length c0_8], .int .i64 a1, .int .u8 a2] w fun e w' => e = .returned (.bool true) ∧ Below w.heap.size w w' := by
 obtain ⟨k, h⟩ := P a0_0 a0_1 a0_2 a0_3 a0_4 a0_5 a0_6 l0_7 l0_8 a1 a2 w0_0 w0_1 w0_2 w0_3 w0_4 w0_5 w0_6 hm0_7 hq0_7 hm0_8 hq0_8 w1 w2
 refine (credenzalaw08_PageSpoilt.calls k a0_0 a0_1 a0_2 a0_3 a0_4 a0_5 a0_6 _ _ l0_7 _ _ l0_8 a1 a2 true w hr0_7 hc0_7 hr0_8 hc0_8 h).mono ?_
 rintro e w' ⟨rfl, hd⟩
 exact ⟨rfl, hd⟩

end Go.Proofs.Ytekenaclmplocaa.PPageSpoilt
