-- Written by a program of this session (wip/tools/mkprint.py over the kit's print).
import Derived.Test.YtekenaclmplocaaPPagePlacesx0
import Derived.Test.YtekenaclmplocaaPPagePlacesx2
import Derived.Test.YtekenaclmplocaaPPagePlacesx3
import Derived.Test.YtekenaclmplocaaPPagePlacesx6
namespace Go.Proofs.Ytekenaclmplocaa.PPagePlaces
open Go.RowKit Go.Proofs.YtekenaclmplocaaW.PrintWords Go.Proofs.YtekenaclmplocaaW.PrintLast Go.Proofs.YtekenaclmplocaaW.PrintMore
attribute [local go_sem] max2_int min2_int max_two min_two max_three min_three max_four min_four   -- for this text's walks alone
set_option linter.unusedVariables false
set_option linter.unusedSimpArgs false

/-! ### seal_Close: function 36 -/
def seal_Close.f (k : Nat) (l0 : List Int) : Option (List Int) := (seal_Sum.f k l0).bind fun t205 => ((seal_Put.f k l0 (IntKind.u64.wrap (t205)) 4).bind fun t206 => (some t206))
theorem seal_Close.mono : ∀ a0 k, LeO (seal_Close.f k a0) (seal_Close.f (k + 1) a0) := by
 intro a0 k
 unfold seal_Close.f
 repeat' first
   | (with_reducible exact seal_Put.mono _ _ _ _)
   | (with_reducible exact seal_Sum.mono _ _)
   | (with_reducible exact LeO.refl _)
   | (with_reducible exact LeO.none _)
   | (with_reducible refine LeO.ite ?_ ?_)
   | (with_reducible refine LeO.bind ?_ (fun _ => ?_))
   | exact seal_Put.mono _ _ _ _
   | exact seal_Sum.mono _ _
   | exact LeO.none _
   | refine LeO.ite ?_ ?_
   | refine LeO.bind ?_ (fun _ => ?_)
set_option maxHeartbeats 8000000 in
set_option maxRecDepth 100000 in
theorem seal_Close.calls (k : Nat) (A0 : Option Addr) (c0 : Nat) (l0 : List Int) (r : List Int) (w : World) (hr0 : Kd.C (Kd.int .u8) w A0 l0.length l0) (hc0 : l0.length ≤ c0) (h : seal_Close.f k l0 = some r) :
  Calls Try.prog 36 #[.slice A0 l0.length c0] w fun e w' => ∃ v0_ : Value, e = .returned (v0_) ∧ Kd.R (Kd.int .u8) 5 w' w.heap.size (fun _ => True) v0_ r ∧ Below w.heap.size w w' := by
 have HR0 := Aside0.mk hr0
 have HC0 := Aside0.mk hc0
 clear hr0 hc0
 have HB := Aside0.mk (Below.refl w.heap.size w)
 have H := h
 clear h
 unfold seal_Close.f at H
 replace H := Option.bind_eq_some_iff.mp H
 obtain ⟨t205, A20, H⟩ := H
 have A2 := Aside0.mk A20
 clear A20
 replace H := Option.bind_eq_some_iff.mp H
 obtain ⟨t206, A30, H⟩ := H
 have A3 := Aside0.mk A30
 clear A30
 obtain rfl := Option.some.inj H
 go_enter Try.func36, Try.ntmps36
 go_wp2_with (first | ((with_reducible refine gate_callee (f := 70) rfl ?_); refine goesL_ (some 5) rfl rfl Try.func70 (by kernel_rfl) rfl #[.slice A0 l0.length c0] rfl (by (try simp only [List.map_toArray, List.map_cons, List.map_nil]); first | done | rfl | (simp only [List.length_drop, List.length_take]; rfl)) ?_; (with_reducible refine (seal_Sum.calls k _ _ l0 t205 _ ?side1 ?side2 A2.out).mono ?_); (case side1 => repeat (first | exact HR0.out | (with_reducible refine Kd.C_alloc ?_ _) | (with_reducible refine Kd.C_drewN ?_ _) | (with_reducible refine Kd.C_drew ?_))); (case side2 => exact HC0.out); rintro e w' ⟨rfl, ⟨nd, rfl⟩⟩; refine ⟨_, rfl, ?_⟩) | ((with_reducible refine gate_callee (f := 35) rfl ?_); refine goesL_ (some 7) rfl rfl Try.func35 (by kernel_rfl) rfl #[.slice A0 l0.length c0, .int .u64 (IntKind.u64.wrap (t205)), .int .i64 4] rfl (by (try simp only [List.map_toArray, List.map_cons, List.map_nil]); first | done | rfl | (simp only [List.length_drop, List.length_take]; rfl)) ?_; (with_reducible refine (seal_Put.calls k _ _ l0 (IntKind.u64.wrap (t205)) 4 t206 _ ?side1 ?side2 A3.out).mono ?_); (case side1 => repeat (first | exact HR0.out | (with_reducible refine Kd.C_alloc ?_ _) | (with_reducible refine Kd.C_drewN ?_ _) | (with_reducible refine Kd.C_drew ?_))); (case side2 => exact HC0.out); rintro e w4 ⟨v207, rfl, ho0, hb⟩; refine ⟨_, rfl, ?_⟩; have HO208 := Aside0.mk (Kd.R_lower ho0 (below_size (by repeat (first | (with_reducible first | exact HB.out | apply below_alloc | apply pw_below_drewN | apply below_drew1) | exact HB.out)))); replace HB := Aside0.mk (below_step (by repeat (first | (with_reducible first | exact HB.out | apply below_alloc | apply pw_below_drewN | apply below_drew1) | exact HB.out)) hb); clear hb ho0))
 go_ret
 exact ⟨_, by first | rfl | (simp [errW_none, errW_some] <;> rfl) | (simp [*, errW_none, errW_some] <;> rfl), by exact HO208.out, by with_reducible exact HB.out⟩

/-! ### page_Page_Bytes: function 14 -/
mutual
def page_Page_Bytes.l0 : Nat → List (S75) → List Int → Int → Int → Int → Int → Int → Int → Int → Int → Int → Int → Int → Int → Int → Int → Option (List Int)
 | 0, _, _, _, _, _, _, _, _, _, _, _, _, _, _, _, _ => none
 | k + 1, x0, x4, x31, x211000, x211001, x211002, x211003, x211004, x211005, x211006, x215000, x215001, x215002, x215003, x215004, x215005 => if x31 < 6 then (if 0 ≤ x31 then (if x4.length < 140737488355328 then (page_Page_Bytes.l0 k x0 (x4 ++ [((rd [x215000, x215001, x215002, x215003, x215004, x215005] x31)) % 256]) (wrap64 (x31 + 1)) x211000 x211001 x211002 x211003 x211004 x211005 x211006 x215000 x215001 x215002 x215003 x215004 x215005) else (none)) else (none)) else ((seal_Put.f k x4 (IntKind.u64.wrap (x211006)) 2).bind fun t219 => (if 0 < (x0.length : Int) then (page_Page_Bytes.l1 k t219 0 ((rd_T75 x0 0).f1) ((rd_T75 x0 0).f2)) else (none)))
def page_Page_Bytes.l1 : Nat → List Int → Int → List (S82) → List (S82) → Option (List Int)
 | 0, _, _, _, _ => none
 | k + 1, x4, x54, x225000, x225001 => if x54 < 2 then (if 0 ≤ x54 then (page_Page_Bytes.l2 k x4 x54 (sel2 x225000 x225001 x54) ((sel2 x225000 x225001 x54).length : Int) 0 x225000 x225001) else (none)) else ((seal_Close.f k x4).bind fun t225 => (some t225))
def page_Page_Bytes.l2 : Nat → List Int → Int → List (S82) → Int → Int → List (S82) → List (S82) → Option (List Int)
 | 0, _, _, _, _, _, _, _ => none
 | k + 1, x4, x54, x57, x58, x59, x225000, x225001 => if x59 < x58 then (if 0 ≤ x59 then (if x59 < (x57.length : Int) then ((seal_Put.f k x4 (((rd_T82 x57 x59).f0.f0) % 4294967296) 4).bind fun t231 => ((seal_Put.f k t231 (IntKind.u64.wrap ((rd_T82 x57 x59).f0.f1)) 4).bind fun t234 => (page_Page_Bytes.l3 k t234 x54 x57 x58 x59 ((rd_T82 x57 x59).f1) (((rd_T82 x57 x59).f1).length : Int) 0 x225000 x225001))) else (none)) else (none)) else (page_Page_Bytes.l1 k x4 (wrap64 (x54 + 1)) x225000 x225001)
def page_Page_Bytes.l3 : Nat → List Int → Int → List (S82) → Int → Int → List Int → Int → Int → List (S82) → List (S82) → Option (List Int)
 | 0, _, _, _, _, _, _, _, _, _, _ => none
 | k + 1, x4, x54, x57, x58, x59, x77, x78, x79, x225000, x225001 => if x79 < x78 then (if 0 ≤ x79 then (if x79 < (x77.length : Int) then ((seal_Put.f k x4 (rd x77 x79) 8).bind fun t238 => (page_Page_Bytes.l3 k t238 x54 x57 x58 x59 x77 x78 (wrap64 (x79 + 1)) x225000 x225001)) else (none)) else (none)) else (page_Page_Bytes.l2 k x4 x54 x57 x58 (wrap64 (x59 + 1)) x225000 x225001)
end
def page_Page_Bytes.f (k : Nat) (l0 : List (S75)) : Option (List Int) := if 0 < (l0.length : Int) then (page_Page_Bytes.l0 k l0 (([75] : List Int)) 0 ((rd_T75 l0 0).f0.f0) ((rd_T75 l0 0).f0.f1) ((rd_T75 l0 0).f0.f2) ((rd_T75 l0 0).f0.f3) ((rd_T75 l0 0).f0.f4) ((rd_T75 l0 0).f0.f5) ((rd_T75 l0 0).f0.f6) ((rd_T75 l0 0).f0.f0) ((rd_T75 l0 0).f0.f1) ((rd_T75 l0 0).f0.f2) ((rd_T75 l0 0).f0.f3) ((rd_T75 l0 0).f0.f4) ((rd_T75 l0 0).f0.f5)) else (none)
theorem page_Page_Bytes.mono_l : ∀ k, (∀ y0 y1 y2 y3 y4 y5 y6 y7 y8 y9 y10 y11 y12 y13 y14 y15, LeO (page_Page_Bytes.l0 k y0 y1 y2 y3 y4 y5 y6 y7 y8 y9 y10 y11 y12 y13 y14 y15) (page_Page_Bytes.l0 (k + 1) y0 y1 y2 y3 y4 y5 y6 y7 y8 y9 y10 y11 y12 y13 y14 y15)) ∧ (∀ y0 y1 y2 y3, LeO (page_Page_Bytes.l1 k y0 y1 y2 y3) (page_Page_Bytes.l1 (k + 1) y0 y1 y2 y3)) ∧ (∀ y0 y1 y2 y3 y4 y5 y6, LeO (page_Page_Bytes.l2 k y0 y1 y2 y3 y4 y5 y6) (page_Page_Bytes.l2 (k + 1) y0 y1 y2 y3 y4 y5 y6)) ∧ (∀ y0 y1 y2 y3 y4 y5 y6 y7 y8 y9, LeO (page_Page_Bytes.l3 k y0 y1 y2 y3 y4 y5 y6 y7 y8 y9) (page_Page_Bytes.l3 (k + 1) y0 y1 y2 y3 y4 y5 y6 y7 y8 y9))
 | 0 => ⟨fun _ _ _ _ _ _ _ _ _ _ _ _ _ _ _ _ r h => by simp [page_Page_Bytes.l0] at h, fun _ _ _ _ r h => by simp [page_Page_Bytes.l1] at h, fun _ _ _ _ _ _ _ r h => by simp [page_Page_Bytes.l2] at h, fun _ _ _ _ _ _ _ _ _ _ r h => by simp [page_Page_Bytes.l3] at h⟩
 | k + 1 => by
  obtain ⟨ih0, ih1, ih2, ih3⟩ := page_Page_Bytes.mono_l k
  refine ⟨?_, ?_, ?_, ?_⟩
  ·
   intro y0 y1 y2 y3 y4 y5 y6 y7 y8 y9 y10 y11 y12 y13 y14 y15
   unfold page_Page_Bytes.l0
   repeat' first
   | (with_reducible exact ih0 _ _ _ _ _ _ _ _ _ _ _ _ _ _ _ _)
   | (with_reducible exact ih1 _ _ _ _)
   | (with_reducible exact ih2 _ _ _ _ _ _ _)
   | (with_reducible exact ih3 _ _ _ _ _ _ _ _ _ _)
   | (with_reducible exact seal_Close.mono _ _)
   | (with_reducible exact seal_Put.mono _ _ _ _)
   | (with_reducible exact LeO.refl _)
   | (with_reducible exact LeO.none _)
   | (with_reducible refine LeO.ite ?_ ?_)
   | (with_reducible refine LeO.bind ?_ (fun _ => ?_))
   | exact ih0 _ _ _ _ _ _ _ _ _ _ _ _ _ _ _ _
   | exact ih1 _ _ _ _
   | exact ih2 _ _ _ _ _ _ _
   | exact ih3 _ _ _ _ _ _ _ _ _ _
   | exact seal_Close.mono _ _
   | exact seal_Put.mono _ _ _ _
   | exact LeO.none _
   | refine LeO.ite ?_ ?_
   | refine LeO.bind ?_ (fun _ => ?_)
  ·
   intro y0 y1 y2 y3
   unfold page_Page_Bytes.l1
   repeat' first
   | (with_reducible exact ih0 _ _ _ _ _ _ _ _ _ _ _ _ _ _ _ _)
   | (with_reducible exact ih1 _ _ _ _)
   | (with_reducible exact ih2 _ _ _ _ _ _ _)
   | (with_reducible exact ih3 _ _ _ _ _ _ _ _ _ _)
   | (with_reducible exact seal_Close.mono _ _)
   | (with_reducible exact seal_Put.mono _ _ _ _)
   | (with_reducible exact LeO.refl _)
   | (with_reducible exact LeO.none _)
   | (with_reducible refine LeO.ite ?_ ?_)
   | (with_reducible refine LeO.bind ?_ (fun _ => ?_))
   | exact ih0 _ _ _ _ _ _ _ _ _ _ _ _ _ _ _ _
   | exact ih1 _ _ _ _
   | exact ih2 _ _ _ _ _ _ _
   | exact ih3 _ _ _ _ _ _ _ _ _ _
   | exact seal_Close.mono _ _
   | exact seal_Put.mono _ _ _ _
   | exact LeO.none _
   | refine LeO.ite ?_ ?_
   | refine LeO.bind ?_ (fun _ => ?_)
  ·
   intro y0 y1 y2 y3 y4 y5 y6
   unfold page_Page_Bytes.l2
   repeat' first
   | (with_reducible exact ih0 _ _ _ _ _ _ _ _ _ _ _ _ _ _ _ _)
   | (with_reducible exact ih1 _ _ _ _)
   | (with_reducible exact ih2 _ _ _ _ _ _ _)
   | (with_reducible exact ih3 _ _ _ _ _ _ _ _ _ _)
   | (with_reducible exact seal_Close.mono _ _)
   | (with_reducible exact seal_Put.mono _ _ _ _)
   | (with_reducible exact LeO.refl _)
   | (with_reducible exact LeO.none _)
   | (with_reducible refine LeO.ite ?_ ?_)
   | (with_reducible refine LeO.bind ?_ (fun _ => ?_))
   | exact ih0 _ _ _ _ _ _ _ _ _ _ _ _ _ _ _ _
   | exact ih1 _ _ _ _
   | exact ih2 _ _ _ _ _ _ _
   | exact ih3 _ _ _ _ _ _ _ _ _ _
   | exact seal_Close.mono _ _
   | exact seal_Put.mono _ _ _ _
   | exact LeO.none _
   | refine LeO.ite ?_ ?_
   | refine LeO.bind ?_ (fun _ => ?_)
  ·
   intro y0 y1 y2 y3 y4 y5 y6 y7 y8 y9
   unfold page_Page_Bytes.l3
   repeat' first
   | (with_reducible exact ih0 _ _ _ _ _ _ _ _ _ _ _ _ _ _ _ _)
   | (with_reducible exact ih1 _ _ _ _)
   | (with_reducible exact ih2 _ _ _ _ _ _ _)
   | (with_reducible exact ih3 _ _ _ _ _ _ _ _ _ _)
   | (with_reducible exact seal_Close.mono _ _)
   | (with_reducible exact seal_Put.mono _ _ _ _)
   | (with_reducible exact LeO.refl _)
   | (with_reducible exact LeO.none _)
   | (with_reducible refine LeO.ite ?_ ?_)
   | (with_reducible refine LeO.bind ?_ (fun _ => ?_))
   | exact ih0 _ _ _ _ _ _ _ _ _ _ _ _ _ _ _ _
   | exact ih1 _ _ _ _
   | exact ih2 _ _ _ _ _ _ _
   | exact ih3 _ _ _ _ _ _ _ _ _ _
   | exact seal_Close.mono _ _
   | exact seal_Put.mono _ _ _ _
   | exact LeO.none _
   | refine LeO.ite ?_ ?_
   | refine LeO.bind ?_ (fun _ => ?_)
theorem page_Page_Bytes.mono : ∀ a0 k, LeO (page_Page_Bytes.f k a0) (page_Page_Bytes.f (k + 1) a0) := by
 intro a0 k
 obtain ⟨ih0, ih1, ih2, ih3⟩ := page_Page_Bytes.mono_l k
 unfold page_Page_Bytes.f
 repeat' first
   | (with_reducible exact ih0 _ _ _ _ _ _ _ _ _ _ _ _ _ _ _ _)
   | (with_reducible exact ih1 _ _ _ _)
   | (with_reducible exact ih2 _ _ _ _ _ _ _)
   | (with_reducible exact ih3 _ _ _ _ _ _ _ _ _ _)
   | (with_reducible exact seal_Close.mono _ _)
   | (with_reducible exact seal_Put.mono _ _ _ _)
   | (with_reducible exact LeO.refl _)
   | (with_reducible exact LeO.none _)
   | (with_reducible refine LeO.ite ?_ ?_)
   | (with_reducible refine LeO.bind ?_ (fun _ => ?_))
   | exact ih0 _ _ _ _ _ _ _ _ _ _ _ _ _ _ _ _
   | exact ih1 _ _ _ _
   | exact ih2 _ _ _ _ _ _ _
   | exact ih3 _ _ _ _ _ _ _ _ _ _
   | exact seal_Close.mono _ _
   | exact seal_Put.mono _ _ _ _
   | exact LeO.none _
   | refine LeO.ite ?_ ?_
   | refine LeO.bind ?_ (fun _ => ?_)
set_option maxHeartbeats 8000000 in
set_option maxRecDepth 100000 in
theorem page_Page_Bytes.calls (k : Nat) (A0 : Option Addr) (c0 : Nat) (l0 : List (S75)) (r : List Int) (w : World) (hr0 : Kd.C k75 w A0 l0.length l0) (hc0 : l0.length ≤ c0) (h : page_Page_Bytes.f k l0 = some r) :
  Calls Try.prog 14 #[asPtr (.slice A0 l0.length c0)] w fun e w' => ∃ v0_ : Value, e = .returned (v0_) ∧ Kd.R (Kd.int .u8) 5 w' w.heap.size (fun _ => True) v0_ r ∧ Below w.heap.size w w' := by
 have hu23 := Try.underlying23
 have hu76 := Try.underlying76
 have hu79 := Try.underlying79
 have hu82 := Try.underlying82
 have HR0 := Aside0.mk hr0
 have HC0 := Aside0.mk hc0
 clear hr0 hc0
 have HB := Aside0.mk (Below.refl w.heap.size w)
 have H := h
 clear h
 unfold page_Page_Bytes.f at H
 by_cases c2 : 0 < (l0.length : Int)
 case neg => (rw [if_neg c2] at H; exact absurd H (by simp))
 rw [if_pos c2] at H
 have c2b0 : decide (0 < (l0.length : Int)) = true := decide_eq_true c2
 have c2b1 : decide (0 < l0.length) = true := decide_eq_true (by omega)
 clear c2
 obtain ⟨y211, hy211⟩ : ∃ y_ : List Int, y_ = (([75] : List Int)) := ⟨_, rfl⟩
 replace H : (page_Page_Bytes.l0 k l0 y211 0 ((rd_T75 l0 0).f0.f0) ((rd_T75 l0 0).f0.f1) ((rd_T75 l0 0).f0.f2) ((rd_T75 l0 0).f0.f3) ((rd_T75 l0 0).f0.f4) ((rd_T75 l0 0).f0.f5) ((rd_T75 l0 0).f0.f6) ((rd_T75 l0 0).f0.f0) ((rd_T75 l0 0).f0.f1) ((rd_T75 l0 0).f0.f2) ((rd_T75 l0 0).f0.f3) ((rd_T75 l0 0).f0.f4) ((rd_T75 l0 0).f0.f5)) = some r := by rw [hy211]; exact H
 have Ny211 := Aside0.mk hy211
 clear hy211
 have H' := Aside0.mk H
 clear H
 have p209 : 0 ≤ (0 : Int) := (by omega)
 have q209 : 0 < (l0.length : Int) := of_decide_eq_true (by first | (with_reducible assumption) | assumption)
 obtain ⟨ad209, A209_7, c209_7, A209_8, c209_8, e209, hx209_0, hx209_1, hx209_2, hx209_3, hx209_4, hx209_5, hx209_6, _, _, _, _, _, _⟩ := at_T75 HR0.out 0 p209 q209
 cases e209
 have qi209 : (0 < l0.length) = True := eq_true (by omega)
 (try rw [show ((0 : Int)).toNat = 0 from rfl] at hx209_0)
 (try rw [show 0 * 9 = 0 from rfl] at hx209_0)
 (try rw [Addr.add_zero'] at hx209_0)
 (try rw [show ((0 : Int)).toNat = 0 from rfl] at hx209_1)
 (try rw [show 0 * 9 = 0 from rfl] at hx209_1)
 (try rw [Addr.add_zero'] at hx209_1)
 (try rw [show ((0 : Int)).toNat = 0 from rfl] at hx209_2)
 (try rw [show 0 * 9 = 0 from rfl] at hx209_2)
 (try rw [Addr.add_zero'] at hx209_2)
 (try rw [show ((0 : Int)).toNat = 0 from rfl] at hx209_3)
 (try rw [show 0 * 9 = 0 from rfl] at hx209_3)
 (try rw [Addr.add_zero'] at hx209_3)
 (try rw [show ((0 : Int)).toNat = 0 from rfl] at hx209_4)
 (try rw [show 0 * 9 = 0 from rfl] at hx209_4)
 (try rw [Addr.add_zero'] at hx209_4)
 (try rw [show ((0 : Int)).toNat = 0 from rfl] at hx209_5)
 (try rw [show 0 * 9 = 0 from rfl] at hx209_5)
 (try rw [Addr.add_zero'] at hx209_5)
 (try rw [show ((0 : Int)).toNat = 0 from rfl] at hx209_6)
 (try rw [show 0 * 9 = 0 from rfl] at hx209_6)
 (try rw [Addr.add_zero'] at hx209_6)
 replace p209 := eq_true p209
 replace q209 := eq_true q209
 have hP209 : asPtr (.slice (some ad209) l0.length c0) = .pointer (some ad209) := asPtr_some (of_decide_eq_true (by first | (with_reducible assumption) | assumption))
 go_enter Try.func14, Try.ntmps14
 go_wp2_with (first | ((with_reducible refine gate_dst (N := 3) rfl ?_); refine box_event ?hg (N := 3) ?hd (cs := #[.int .i64 0, .int .i64 0, .int .i64 0, .int .i64 0, .int .i64 0, .int .i64 0, .int .i64 0]) (t := 23) ?hr ?_; (case hd => rfl); (case hg => rfl); (case hr => first | (go_simp; done) | (go_simp; rfl)); intro gb210 hg w3 hbox hb; have BK210 := Aside0.mk (hbox); have GW210 := Aside0.mk ((by rw [hg]; exact (below_size (by repeat (first | (with_reducible first | exact HB.out | apply below_alloc | apply pw_below_drewN | apply below_drew1) | exact HB.out))) : w.heap.size ≤ gb210)); have GE210 := Aside0.mk ((by rw [hg]; exact (below_size (by repeat (first | (with_reducible first | exact HB.out | apply below_alloc | apply pw_below_drewN | apply below_drew1) | exact HB.out))) : w.heap.size ≤ gb210)); replace HB := Aside0.mk (below_step (by repeat (first | (with_reducible first | exact HB.out | apply below_alloc | apply pw_below_drewN | apply below_drew1) | exact HB.out)) hb); clear hb hbox hg; have hz4 := bx7 BK210.out) | ((with_reducible refine gate_dst (N := 17) rfl ?_); refine Kd.R_lit (Kd.int .u8) _ 5 ?hg (N := 17) ?hd (xs := ([75] : List Int)) (inner := [.int .u8 75]) (ok := fun _ => True) (okp := fun _ => True) ?hr ?hp (fun _ hk => hk) trivial (Below.refl _ _) (Nat.le_refl _) (by simp) ?_; (case hd => rfl); (case hg => rfl); (case hr => first | (go_simp; done) | (go_simp; rfl)); (case hp => exact (Reps.one (show Kd.M (Kd.int .u8) _ _ _ 75 [.int .u8 75] from rfl) (Reps.none _ _))); intro v212 w5 ho6 hb hg_ hnew_; clear hg_ hnew_; (first | rw [← Ny211.out] at ho6 | (simp only [Int.reduceToNat] at ho6; rw [← Ny211.out] at ho6)); have HO213 := Aside0.mk (Kd.R_lower ho6 (below_size (by repeat (first | (with_reducible first | exact HB.out | apply below_alloc | apply pw_below_drewN | apply below_drew1 | refine below_set ?_ GE210.out) | exact HB.out)))); replace BK210 := Aside0.mk (blk_below (g := gb210) (o := .cells #[.int .i64 ((rd_T75 l0 0).f0.f0), .int .i64 ((rd_T75 l0 0).f0.f1), .int .i64 ((rd_T75 l0 0).f0.f2), .int .i64 ((rd_T75 l0 0).f0.f3), .int .i64 ((rd_T75 l0 0).f0.f4), .int .i64 ((rd_T75 l0 0).f0.f5), .int .i64 ((rd_T75 l0 0).f0.f6)] 23 (0, 0)) (by (with_reducible repeat (first | refine blk_drewN ?_ _ | refine blk_drew ?_ | refine blk_alloc ?_ _)); refine blk_put (cs := #[.int .i64 ((rd_T75 l0 0).f0.f0), .int .i64 ((rd_T75 l0 0).f0.f1), .int .i64 ((rd_T75 l0 0).f0.f2), .int .i64 ((rd_T75 l0 0).f0.f3), .int .i64 ((rd_T75 l0 0).f0.f4), .int .i64 ((rd_T75 l0 0).f0.f5), .int .i64 0]) ?_ 6 _ rfl; (with_reducible repeat (first | refine blk_drewN ?_ _ | refine blk_drew ?_ | refine blk_alloc ?_ _)); refine blk_put (cs := #[.int .i64 ((rd_T75 l0 0).f0.f0), .int .i64 ((rd_T75 l0 0).f0.f1), .int .i64 ((rd_T75 l0 0).f0.f2), .int .i64 ((rd_T75 l0 0).f0.f3), .int .i64 ((rd_T75 l0 0).f0.f4), .int .i64 0, .int .i64 0]) ?_ 5 _ rfl; (with_reducible repeat (first | refine blk_drewN ?_ _ | refine blk_drew ?_ | refine blk_alloc ?_ _)); refine blk_put (cs := #[.int .i64 ((rd_T75 l0 0).f0.f0), .int .i64 ((rd_T75 l0 0).f0.f1), .int .i64 ((rd_T75 l0 0).f0.f2), .int .i64 ((rd_T75 l0 0).f0.f3), .int .i64 0, .int .i64 0, .int .i64 0]) ?_ 4 _ rfl; (with_reducible repeat (first | refine blk_drewN ?_ _ | refine blk_drew ?_ | refine blk_alloc ?_ _)); refine blk_put (cs := #[.int .i64 ((rd_T75 l0 0).f0.f0), .int .i64 ((rd_T75 l0 0).f0.f1), .int .i64 ((rd_T75 l0 0).f0.f2), .int .i64 0, .int .i64 0, .int .i64 0, .int .i64 0]) ?_ 3 _ rfl; (with_reducible repeat (first | refine blk_drewN ?_ _ | refine blk_drew ?_ | refine blk_alloc ?_ _)); refine blk_put (cs := #[.int .i64 ((rd_T75 l0 0).f0.f0), .int .i64 ((rd_T75 l0 0).f0.f1), .int .i64 0, .int .i64 0, .int .i64 0, .int .i64 0, .int .i64 0]) ?_ 2 _ rfl; (with_reducible repeat (first | refine blk_drewN ?_ _ | refine blk_drew ?_ | refine blk_alloc ?_ _)); refine blk_put (cs := #[.int .i64 ((rd_T75 l0 0).f0.f0), .int .i64 0, .int .i64 0, .int .i64 0, .int .i64 0, .int .i64 0, .int .i64 0]) ?_ 1 _ rfl; (with_reducible repeat (first | refine blk_drewN ?_ _ | refine blk_drew ?_ | refine blk_alloc ?_ _)); refine blk_put (cs := #[.int .i64 0, .int .i64 0, .int .i64 0, .int .i64 0, .int .i64 0, .int .i64 0, .int .i64 0]) ?_ 0 _ rfl; (with_reducible repeat (first | refine blk_drewN ?_ _ | refine blk_drew ?_ | refine blk_alloc ?_ _)); exact BK210.out) hb); replace HB := Aside0.mk (below_step (by repeat (first | (with_reducible first | exact HB.out | apply below_alloc | apply pw_below_drewN | apply below_drew1 | refine below_set ?_ GE210.out) | exact HB.out)) hb); clear hb ho6; have hz7 := bx7 BK210.out))
 repeat (go_quiet (first | ((with_reducible refine gate_dst (N := 3) rfl ?_); refine box_event ?hg (N := 3) ?hd (cs := #[.int .i64 0, .int .i64 0, .int .i64 0, .int .i64 0, .int .i64 0, .int .i64 0, .int .i64 0]) (t := 23) ?hr ?_; (case hd => rfl); (case hg => rfl); (case hr => first | (go_simp; done) | (go_simp; rfl)); intro gb210 hg w3 hbox hb; have n0_ := Aside0.mk (below_step (by repeat (first | (with_reducible first | exact HB.out | apply below_alloc | apply pw_below_drewN | apply below_drew1) | exact HB.out)) hb); have n1_ := Aside0.mk (hbox); have n2_ := Aside0.mk ((by rw [hg]; exact (below_size (by repeat (first | (with_reducible first | exact HB.out | apply below_alloc | apply pw_below_drewN | apply below_drew1) | exact HB.out))) : w.heap.size ≤ gb210)); have n3_ := Aside0.mk ((by rw [hg]; exact (below_size (by repeat (first | (with_reducible first | exact HB.out | apply below_alloc | apply pw_below_drewN | apply below_drew1) | exact HB.out))) : w.heap.size ≤ gb210)); clear HB; have HB := n0_; have BK210 := n1_; have GW210 := n2_; have GE210 := n3_; clear n0_ n1_ n2_ n3_; clear hb hbox hg; have hz4 := bx7 BK210.out) | ((with_reducible refine gate_dst (N := 17) rfl ?_); refine Kd.R_lit (Kd.int .u8) _ 5 ?hg (N := 17) ?hd (xs := ([75] : List Int)) (inner := [.int .u8 75]) (ok := fun _ => True) (okp := fun _ => True) ?hr ?hp (fun _ hk => hk) trivial (Below.refl _ _) (Nat.le_refl _) (by simp) ?_; (case hd => rfl); (case hg => rfl); (case hr => first | (go_simp; done) | (go_simp; rfl)); (case hp => exact (Reps.one (show Kd.M (Kd.int .u8) _ _ _ 75 [.int .u8 75] from rfl) (Reps.none _ _))); intro v212 w5 ho6 hb hg_ hnew_; clear hg_ hnew_; (first | rw [← Ny211.out] at ho6 | (simp only [Int.reduceToNat] at ho6; rw [← Ny211.out] at ho6)); have n0_ := Aside0.mk (Kd.R_lower ho6 (below_size (by repeat (first | (with_reducible first | exact HB.out | apply below_alloc | apply pw_below_drewN | apply below_drew1 | refine below_set ?_ GE210.out) | exact HB.out)))); have n1_ := Aside0.mk (blk_below (g := gb210) (o := .cells #[.int .i64 ((rd_T75 l0 0).f0.f0), .int .i64 ((rd_T75 l0 0).f0.f1), .int .i64 ((rd_T75 l0 0).f0.f2), .int .i64 ((rd_T75 l0 0).f0.f3), .int .i64 ((rd_T75 l0 0).f0.f4), .int .i64 ((rd_T75 l0 0).f0.f5), .int .i64 ((rd_T75 l0 0).f0.f6)] 23 (0, 0)) (by (with_reducible repeat (first | refine blk_drewN ?_ _ | refine blk_drew ?_ | refine blk_alloc ?_ _)); refine blk_put (cs := #[.int .i64 ((rd_T75 l0 0).f0.f0), .int .i64 ((rd_T75 l0 0).f0.f1), .int .i64 ((rd_T75 l0 0).f0.f2), .int .i64 ((rd_T75 l0 0).f0.f3), .int .i64 ((rd_T75 l0 0).f0.f4), .int .i64 ((rd_T75 l0 0).f0.f5), .int .i64 0]) ?_ 6 _ rfl; (with_reducible repeat (first | refine blk_drewN ?_ _ | refine blk_drew ?_ | refine blk_alloc ?_ _)); refine blk_put (cs := #[.int .i64 ((rd_T75 l0 0).f0.f0), .int .i64 ((rd_T75 l0 0).f0.f1), .int .i64 ((rd_T75 l0 0).f0.f2), .int .i64 ((rd_T75 l0 0).f0.f3), .int .i64 ((rd_T75 l0 0).f0.f4), .int .i64 0, .int .i64 0]) ?_ 5 _ rfl; (with_reducible repeat (first | refine blk_drewN ?_ _ | refine blk_drew ?_ | refine blk_alloc ?_ _)); refine blk_put (cs := #[.int .i64 ((rd_T75 l0 0).f0.f0), .int .i64 ((rd_T75 l0 0).f0.f1), .int .i64 ((rd_T75 l0 0).f0.f2), .int .i64 ((rd_T75 l0 0).f0.f3), .int .i64 0, .int .i64 0, .int .i64 0]) ?_ 4 _ rfl; (with_reducible repeat (first | refine blk_drewN ?_ _ | refine blk_drew ?_ | refine blk_alloc ?_ _)); refine blk_put (cs := #[.int .i64 ((rd_T75 l0 0).f0.f0), .int .i64 ((rd_T75 l0 0).f0.f1), .int .i64 ((rd_T75 l0 0).f0.f2), .int .i64 0, .int .i64 0, .int .i64 0, .int .i64 0]) ?_ 3 _ rfl; (with_reducible repeat (first | refine blk_drewN ?_ _ | refine blk_drew ?_ | refine blk_alloc ?_ _)); refine blk_put (cs := #[.int .i64 ((rd_T75 l0 0).f0.f0), .int .i64 ((rd_T75 l0 0).f0.f1), .int .i64 0, .int .i64 0, .int .i64 0, .int .i64 0, .int .i64 0]) ?_ 2 _ rfl; (with_reducible repeat (first | refine blk_drewN ?_ _ | refine blk_drew ?_ | refine blk_alloc ?_ _)); refine blk_put (cs := #[.int .i64 ((rd_T75 l0 0).f0.f0), .int .i64 0, .int .i64 0, .int .i64 0, .int .i64 0, .int .i64 0, .int .i64 0]) ?_ 1 _ rfl; (with_reducible repeat (first | refine blk_drewN ?_ _ | refine blk_drew ?_ | refine blk_alloc ?_ _)); refine blk_put (cs := #[.int .i64 0, .int .i64 0, .int .i64 0, .int .i64 0, .int .i64 0, .int .i64 0, .int .i64 0]) ?_ 0 _ rfl; (with_reducible repeat (first | refine blk_drewN ?_ _ | refine blk_drew ?_ | refine blk_alloc ?_ _)); exact BK210.out) hb); have n2_ := Aside0.mk (below_step (by repeat (first | (with_reducible first | exact HB.out | apply below_alloc | apply pw_below_drewN | apply below_drew1 | refine below_set ?_ GE210.out) | exact HB.out)) hb); clear BK210; clear HB; have HO213 := n0_; have BK210 := n1_; have HB := n2_; clear n0_ n1_ n2_; clear hb ho6; have hz7 := bx7 BK210.out)); try go_wp2_with (first | ((with_reducible refine gate_dst (N := 3) rfl ?_); refine box_event ?hg (N := 3) ?hd (cs := #[.int .i64 0, .int .i64 0, .int .i64 0, .int .i64 0, .int .i64 0, .int .i64 0, .int .i64 0]) (t := 23) ?hr ?_; (case hd => rfl); (case hg => rfl); (case hr => first | (go_simp; done) | (go_simp; rfl)); intro gb210 hg w3 hbox hb; have BK210 := Aside0.mk (hbox); have GW210 := Aside0.mk ((by rw [hg]; exact (below_size (by repeat (first | (with_reducible first | exact HB.out | apply below_alloc | apply pw_below_drewN | apply below_drew1) | exact HB.out))) : w.heap.size ≤ gb210)); have GE210 := Aside0.mk ((by rw [hg]; exact (below_size (by repeat (first | (with_reducible first | exact HB.out | apply below_alloc | apply pw_below_drewN | apply below_drew1) | exact HB.out))) : w.heap.size ≤ gb210)); replace HB := Aside0.mk (below_step (by repeat (first | (with_reducible first | exact HB.out | apply below_alloc | apply pw_below_drewN | apply below_drew1) | exact HB.out)) hb); clear hb hbox hg; have hz4 := bx7 BK210.out) | ((with_reducible refine gate_dst (N := 17) rfl ?_); refine Kd.R_lit (Kd.int .u8) _ 5 ?hg (N := 17) ?hd (xs := ([75] : List Int)) (inner := [.int .u8 75]) (ok := fun _ => True) (okp := fun _ => True) ?hr ?hp (fun _ hk => hk) trivial (Below.refl _ _) (Nat.le_refl _) (by simp) ?_; (case hd => rfl); (case hg => rfl); (case hr => first | (go_simp; done) | (go_simp; rfl)); (case hp => exact (Reps.one (show Kd.M (Kd.int .u8) _ _ _ 75 [.int .u8 75] from rfl) (Reps.none _ _))); intro v212 w5 ho6 hb hg_ hnew_; clear hg_ hnew_; (first | rw [← Ny211.out] at ho6 | (simp only [Int.reduceToNat] at ho6; rw [← Ny211.out] at ho6)); have HO213 := Aside0.mk (Kd.R_lower ho6 (below_size (by repeat (first | (with_reducible first | exact HB.out | apply below_alloc | apply pw_below_drewN | apply below_drew1 | refine below_set ?_ GE210.out) | exact HB.out)))); replace BK210 := Aside0.mk (blk_below (g := gb210) (o := .cells #[.int .i64 ((rd_T75 l0 0).f0.f0), .int .i64 ((rd_T75 l0 0).f0.f1), .int .i64 ((rd_T75 l0 0).f0.f2), .int .i64 ((rd_T75 l0 0).f0.f3), .int .i64 ((rd_T75 l0 0).f0.f4), .int .i64 ((rd_T75 l0 0).f0.f5), .int .i64 ((rd_T75 l0 0).f0.f6)] 23 (0, 0)) (by (with_reducible repeat (first | refine blk_drewN ?_ _ | refine blk_drew ?_ | refine blk_alloc ?_ _)); refine blk_put (cs := #[.int .i64 ((rd_T75 l0 0).f0.f0), .int .i64 ((rd_T75 l0 0).f0.f1), .int .i64 ((rd_T75 l0 0).f0.f2), .int .i64 ((rd_T75 l0 0).f0.f3), .int .i64 ((rd_T75 l0 0).f0.f4), .int .i64 ((rd_T75 l0 0).f0.f5), .int .i64 0]) ?_ 6 _ rfl; (with_reducible repeat (first | refine blk_drewN ?_ _ | refine blk_drew ?_ | refine blk_alloc ?_ _)); refine blk_put (cs := #[.int .i64 ((rd_T75 l0 0).f0.f0), .int .i64 ((rd_T75 l0 0).f0.f1), .int .i64 ((rd_T75 l0 0).f0.f2), .int .i64 ((rd_T75 l0 0).f0.f3), .int .i64 ((rd_T75 l0 0).f0.f4), .int .i64 0, .int .i64 0]) ?_ 5 _ rfl; (with_reducible repeat (first | refine blk_drewN ?_ _ | refine blk_drew ?_ | refine blk_alloc ?_ _)); refine blk_put (cs := #[.int .i64 ((rd_T75 l0 0).f0.f0), .int .i64 ((rd_T75 l0 0).f0.f1), .int .i64 ((rd_T75 l0 0).f0.f2), .int .i64 ((rd_T75 l0 0).f0.f3), .int .i64 0, .int .i64 0, .int .i64 0]) ?_ 4 _ rfl; (with_reducible repeat (first | refine blk_drewN ?_ _ | refine blk_drew ?_ | refine blk_alloc ?_ _)); refine blk_put (cs := #[.int .i64 ((rd_T75 l0 0).f0.f0), .int .i64 ((rd_T75 l0 0).f0.f1), .int .i64 ((rd_T75 l0 0).f0.f2), .int .i64 0, .int .i64 0, .int .i64 0, .int .i64 0]) ?_ 3 _ rfl; (with_reducible repeat (first | refine blk_drewN ?_ _ | refine blk_drew ?_ | refine blk_alloc ?_ _)); refine blk_put (cs := #[.int .i64 ((rd_T75 l0 0).f0.f0), .int .i64 ((rd_T75 l0 0).f0.f1), .int .i64 0, .int .i64 0, .int .i64 0, .int .i64 0, .int .i64 0]) ?_ 2 _ rfl; (with_reducible repeat (first | refine blk_drewN ?_ _ | refine blk_drew ?_ | refine blk_alloc ?_ _)); refine blk_put (cs := #[.int .i64 ((rd_T75 l0 0).f0.f0), .int .i64 0, .int .i64 0, .int .i64 0, .int .i64 0, .int .i64 0, .int .i64 0]) ?_ 1 _ rfl; (with_reducible repeat (first | refine blk_drewN ?_ _ | refine blk_drew ?_ | refine blk_alloc ?_ _)); refine blk_put (cs := #[.int .i64 0, .int .i64 0, .int .i64 0, .int .i64 0, .int .i64 0, .int .i64 0, .int .i64 0]) ?_ 0 _ rfl; (with_reducible repeat (first | refine blk_drewN ?_ _ | refine blk_drew ?_ | refine blk_alloc ?_ _)); exact BK210.out) hb); replace HB := Aside0.mk (below_step (by repeat (first | (with_reducible first | exact HB.out | apply below_alloc | apply pw_below_drewN | apply below_drew1 | refine below_set ?_ GE210.out) | exact HB.out)) hb); clear hb ho6; have hz7 := bx7 BK210.out)))
 go_loopg [4, 31] k (fun kq v4 v31 w' => ∃ (x4_1 : List Int) (x31_1 : Int), v31 = .int .i64 x31_1 ∧ Aside0 (page_Page_Bytes.l0 kq l0 x4_1 x31_1 ((rd_T75 l0 0).f0.f0) ((rd_T75 l0 0).f0.f1) ((rd_T75 l0 0).f0.f2) ((rd_T75 l0 0).f0.f3) ((rd_T75 l0 0).f0.f4) ((rd_T75 l0 0).f0.f5) ((rd_T75 l0 0).f0.f6) ((rd_T75 l0 0).f0.f0) ((rd_T75 l0 0).f0.f1) ((rd_T75 l0 0).f0.f2) ((rd_T75 l0 0).f0.f3) ((rd_T75 l0 0).f0.f4) ((rd_T75 l0 0).f0.f5) = some r) ∧ Aside0 (kq ≤ k) ∧ Aside0 (Kd.R (Kd.int .u8) 5 w' w.heap.size (fun _ => True) v4 x4_1) ∧ Aside0 (w'.heap[gb210]? = some (.cells #[.int .i64 ((rd_T75 l0 0).f0.f0), .int .i64 ((rd_T75 l0 0).f0.f1), .int .i64 ((rd_T75 l0 0).f0.f2), .int .i64 ((rd_T75 l0 0).f0.f3), .int .i64 ((rd_T75 l0 0).f0.f4), .int .i64 ((rd_T75 l0 0).f0.f5), .int .i64 ((rd_T75 l0 0).f0.f6)] 23 (0, 0))) ∧ Aside0 (Below w.heap.size w w'))
 case atStart => exact ⟨(y211), (0), (by first | rfl | (simp; done) | (simp [*]; done)), H', ⟨Nat.le_refl _⟩, ⟨by (with_reducible repeat (first | apply Kd.R_alloc | apply Kd.R_drewN | apply Kd.R_drew)); exact HO213.out⟩, ⟨by (with_reducible repeat (first | refine blk_drewN ?_ _ | refine blk_drew ?_ | refine blk_alloc ?_ _)); exact BK210.out⟩, ⟨by repeat (first | (with_reducible first | exact HB.out | apply below_alloc | apply pw_below_drewN | apply below_drew1 | refine below_set ?_ GE210.out) | exact HB.out)⟩⟩
 case round =>
  clear H'
  try clear c1
  try clear c2
  try clear c2b0
  try clear c2b1
  try clear p2
  try clear q2
  try clear hx2
  try clear qi2
  try clear hz4
  try clear hz7
  try clear hx209_0
  try clear hx209_1
  try clear hx209_2
  try clear hx209_3
  try clear hx209_4
  try clear hx209_5
  try clear hx209_6
  try clear p209
  try clear q209
  obtain ⟨x4_1, x31_1, rfl, HA, HK1, HO_4, BK210, HB⟩ := hrel
  cases gk with
  | zero => exact absurd HA.out (by simp [page_Page_Bytes.l0])
  | succ k1 =>
   have H := HA.out
   clear HA
   simp only [page_Page_Bytes.l0] at H
   by_cases c8 : x31_1 < 6
   ·
    rw [if_pos c8] at H
    have c8b0 : decide (x31_1 < 6) = true := decide_eq_true c8
    clear c8
    by_cases c9 : 0 ≤ x31_1
    case neg => (rw [if_neg c9] at H; exact absurd H (by simp))
    rw [if_pos c9] at H
    have c9b0 : decide (0 ≤ x31_1) = true := decide_eq_true c9
    clear c9
    by_cases c10 : x4_1.length < 140737488355328
    case neg => (rw [if_neg c10] at H; exact absurd H (by simp))
    rw [if_pos c10] at H
    have LMc10 := Aside0.mk c10
    clear c10
    obtain ⟨y216, hy216⟩ : ∃ y_ : List Int, y_ = (x4_1 ++ [((rd [((rd_T75 l0 0).f0.f0), ((rd_T75 l0 0).f0.f1), ((rd_T75 l0 0).f0.f2), ((rd_T75 l0 0).f0.f3), ((rd_T75 l0 0).f0.f4), ((rd_T75 l0 0).f0.f5)] x31_1)) % 256]) := ⟨_, rfl⟩
    replace H : (page_Page_Bytes.l0 k1 l0 y216 (wrap64 (x31_1 + 1)) ((rd_T75 l0 0).f0.f0) ((rd_T75 l0 0).f0.f1) ((rd_T75 l0 0).f0.f2) ((rd_T75 l0 0).f0.f3) ((rd_T75 l0 0).f0.f4) ((rd_T75 l0 0).f0.f5) ((rd_T75 l0 0).f0.f6) ((rd_T75 l0 0).f0.f0) ((rd_T75 l0 0).f0.f1) ((rd_T75 l0 0).f0.f2) ((rd_T75 l0 0).f0.f3) ((rd_T75 l0 0).f0.f4) ((rd_T75 l0 0).f0.f5)) = some r := by rw [hy216]; exact H
    have Ny216 := Aside0.mk hy216
    clear hy216
    have H' := Aside0.mk H
    clear H
    have hxv215 := fun W => run_index_arr (P := Try.prog) 76 3 6 Try.underlying76 (by kernel_rfl) (by kernel_rfl) #[.int .i64 ((rd_T75 l0 0).f0.f0), .int .i64 ((rd_T75 l0 0).f0.f1), .int .i64 ((rd_T75 l0 0).f0.f2), .int .i64 ((rd_T75 l0 0).f0.f3), .int .i64 ((rd_T75 l0 0).f0.f4), .int .i64 ((rd_T75 l0 0).f0.f5)] x31_1 (.int .i64 (rd [((rd_T75 l0 0).f0.f0), ((rd_T75 l0 0).f0.f1), ((rd_T75 l0 0).f0.f2), ((rd_T75 l0 0).f0.f3), ((rd_T75 l0 0).f0.f4), ((rd_T75 l0 0).f0.f5)] x31_1)) W (of_decide_eq_true (by first | (with_reducible assumption) | assumption)) (of_decide_eq_true (by first | (with_reducible assumption) | assumption)) (arr_ints .i64 [((rd_T75 l0 0).f0.f0), ((rd_T75 l0 0).f0.f1), ((rd_T75 l0 0).f0.f2), ((rd_T75 l0 0).f0.f3), ((rd_T75 l0 0).f0.f4), ((rd_T75 l0 0).f0.f5)] x31_1 (of_decide_eq_true (by first | (with_reducible assumption) | assumption)) (by have b_ : x31_1 < 6 := (of_decide_eq_true (by first | (with_reducible assumption) | assumption)); have a_ : 0 ≤ x31_1 := (of_decide_eq_true (by first | (with_reducible assumption) | assumption)); simp only [List.length_cons, List.length_nil]; omega))
    go_wp2_with (first | ((with_reducible refine gate_builtin (b := .append) (xs := #[.tmp 34, .tmp 37]) rfl ?_); at_builtin; refine Kd.R_append (Kd.int .u8) (w0 := w) w.heap.size rfl (.tmp 34) (.tmp 37) 36 5 (.int .u8 0) 1 rfl Try.underlying36 info5 rfl (by decide) (by omega) u4 x4_1 (((rd [((rd_T75 l0 0).f0.f0), ((rd_T75 l0 0).f0.f1), ((rd_T75 l0 0).f0.f2), ((rd_T75 l0 0).f0.f3), ((rd_T75 l0 0).f0.f4), ((rd_T75 l0 0).f0.f5)] x31_1)) % 256) [.int .u8 (((rd [((rd_T75 l0 0).f0.f0), ((rd_T75 l0 0).f0.f1), ((rd_T75 l0 0).f0.f2), ((rd_T75 l0 0).f0.f3), ((rd_T75 l0 0).f0.f4), ((rd_T75 l0 0).f0.f5)] x31_1)) % 256)] (fun _ => True) (fun _ => False) rfl rfl ?aP (fun _ hk => hk.elim) ?aF ?aO ?aB ?aS ?aL ?_; (case aP => exact rfl); (case aB => exact (by repeat (first | (with_reducible first | exact HB.out | apply below_alloc | apply pw_below_drewN | apply below_drew1 | refine below_set ?_ GE210.out) | exact HB.out))); (case aF => exact (fun _ _ => trivial)); (case aO => exact (by (with_reducible repeat (first | apply Kd.R_alloc | apply Kd.R_drewN | apply Kd.R_drew)); exact HO_4.out)); (case aS => exact (below_size (by repeat (first | (with_reducible first | exact HB.out | apply below_alloc | apply pw_below_drewN | apply below_drew1 | refine below_set ?_ GE210.out) | exact HB.out)))); (case aL => have := LMc10.out; omega); intro v217 w11 ho hb hg hat; rw [← Ny216.out] at ho; have n0_ := Aside0.mk (blk_grown (g := gb210) (o := .cells #[.int .i64 ((rd_T75 l0 0).f0.f0), .int .i64 ((rd_T75 l0 0).f0.f1), .int .i64 ((rd_T75 l0 0).f0.f2), .int .i64 ((rd_T75 l0 0).f0.f3), .int .i64 ((rd_T75 l0 0).f0.f4), .int .i64 ((rd_T75 l0 0).f0.f5), .int .i64 ((rd_T75 l0 0).f0.f6)] 23 (0, 0)) (by (with_reducible repeat (first | refine blk_drewN ?_ _ | refine blk_drew ?_ | refine blk_alloc ?_ _)); exact BK210.out) hg (Kd.R_ne HO_4.out BK210.out (by decide))); have n1_ := Aside0.mk (hb); have n2_ := Aside0.mk (ho); clear BK210; clear HB; clear HO_4; have BK210 := n0_; have HB := n1_; have HO218 := n2_; clear n0_ n1_ n2_; clear ho hb hg hat))
    repeat (go_quiet (first | ((with_reducible refine gate_builtin (b := .append) (xs := #[.tmp 34, .tmp 37]) rfl ?_); at_builtin; refine Kd.R_append (Kd.int .u8) (w0 := w) w.heap.size rfl (.tmp 34) (.tmp 37) 36 5 (.int .u8 0) 1 rfl Try.underlying36 info5 rfl (by decide) (by omega) u4 x4_1 (((rd [((rd_T75 l0 0).f0.f0), ((rd_T75 l0 0).f0.f1), ((rd_T75 l0 0).f0.f2), ((rd_T75 l0 0).f0.f3), ((rd_T75 l0 0).f0.f4), ((rd_T75 l0 0).f0.f5)] x31_1)) % 256) [.int .u8 (((rd [((rd_T75 l0 0).f0.f0), ((rd_T75 l0 0).f0.f1), ((rd_T75 l0 0).f0.f2), ((rd_T75 l0 0).f0.f3), ((rd_T75 l0 0).f0.f4), ((rd_T75 l0 0).f0.f5)] x31_1)) % 256)] (fun _ => True) (fun _ => False) rfl rfl ?aP (fun _ hk => hk.elim) ?aF ?aO ?aB ?aS ?aL ?_; (case aP => exact rfl); (case aB => exact (by repeat (first | (with_reducible first | exact HB.out | apply below_alloc | apply pw_below_drewN | apply below_drew1 | refine below_set ?_ GE210.out) | exact HB.out))); (case aF => exact (fun _ _ => trivial)); (case aO => exact (by (with_reducible repeat (first | apply Kd.R_alloc | apply Kd.R_drewN | apply Kd.R_drew)); exact HO_4.out)); (case aS => exact (below_size (by repeat (first | (with_reducible first | exact HB.out | apply below_alloc | apply pw_below_drewN | apply below_drew1 | refine below_set ?_ GE210.out) | exact HB.out)))); (case aL => have := LMc10.out; omega); intro v217 w11 ho hb hg hat; rw [← Ny216.out] at ho; have n0_ := Aside0.mk (blk_grown (g := gb210) (o := .cells #[.int .i64 ((rd_T75 l0 0).f0.f0), .int .i64 ((rd_T75 l0 0).f0.f1), .int .i64 ((rd_T75 l0 0).f0.f2), .int .i64 ((rd_T75 l0 0).f0.f3), .int .i64 ((rd_T75 l0 0).f0.f4), .int .i64 ((rd_T75 l0 0).f0.f5), .int .i64 ((rd_T75 l0 0).f0.f6)] 23 (0, 0)) (by (with_reducible repeat (first | refine blk_drewN ?_ _ | refine blk_drew ?_ | refine blk_alloc ?_ _)); exact BK210.out) hg (Kd.R_ne HO_4.out BK210.out (by decide))); have n1_ := Aside0.mk (hb); have n2_ := Aside0.mk (ho); clear BK210; clear HB; clear HO_4; have BK210 := n0_; have HB := n1_; have HO218 := n2_; clear n0_ n1_ n2_; clear ho hb hg hat)); try go_wp2_with (first | ((with_reducible refine gate_builtin (b := .append) (xs := #[.tmp 34, .tmp 37]) rfl ?_); at_builtin; refine Kd.R_append (Kd.int .u8) (w0 := w) w.heap.size rfl (.tmp 34) (.tmp 37) 36 5 (.int .u8 0) 1 rfl Try.underlying36 info5 rfl (by decide) (by omega) u4 x4_1 (((rd [((rd_T75 l0 0).f0.f0), ((rd_T75 l0 0).f0.f1), ((rd_T75 l0 0).f0.f2), ((rd_T75 l0 0).f0.f3), ((rd_T75 l0 0).f0.f4), ((rd_T75 l0 0).f0.f5)] x31_1)) % 256) [.int .u8 (((rd [((rd_T75 l0 0).f0.f0), ((rd_T75 l0 0).f0.f1), ((rd_T75 l0 0).f0.f2), ((rd_T75 l0 0).f0.f3), ((rd_T75 l0 0).f0.f4), ((rd_T75 l0 0).f0.f5)] x31_1)) % 256)] (fun _ => True) (fun _ => False) rfl rfl ?aP (fun _ hk => hk.elim) ?aF ?aO ?aB ?aS ?aL ?_; (case aP => exact rfl); (case aB => exact (by repeat (first | (with_reducible first | exact HB.out | apply below_alloc | apply pw_below_drewN | apply below_drew1 | refine below_set ?_ GE210.out) | exact HB.out))); (case aF => exact (fun _ _ => trivial)); (case aO => exact (by (with_reducible repeat (first | apply Kd.R_alloc | apply Kd.R_drewN | apply Kd.R_drew)); exact HO_4.out)); (case aS => exact (below_size (by repeat (first | (with_reducible first | exact HB.out | apply below_alloc | apply pw_below_drewN | apply below_drew1 | refine below_set ?_ GE210.out) | exact HB.out)))); (case aL => have := LMc10.out; omega); intro v217 w11 ho hb hg hat; rw [← Ny216.out] at ho; have n0_ := Aside0.mk (blk_grown (g := gb210) (o := .cells #[.int .i64 ((rd_T75 l0 0).f0.f0), .int .i64 ((rd_T75 l0 0).f0.f1), .int .i64 ((rd_T75 l0 0).f0.f2), .int .i64 ((rd_T75 l0 0).f0.f3), .int .i64 ((rd_T75 l0 0).f0.f4), .int .i64 ((rd_T75 l0 0).f0.f5), .int .i64 ((rd_T75 l0 0).f0.f6)] 23 (0, 0)) (by (with_reducible repeat (first | refine blk_drewN ?_ _ | refine blk_drew ?_ | refine blk_alloc ?_ _)); exact BK210.out) hg (Kd.R_ne HO_4.out BK210.out (by decide))); have n1_ := Aside0.mk (hb); have n2_ := Aside0.mk (ho); clear BK210; clear HB; clear HO_4; have BK210 := n0_; have HB := n1_; have HO218 := n2_; clear n0_ n1_ n2_; clear ho hb hg hat)))
    go_roundg k1
    case measure => have := HK1.out; omega
    case rel => exact ⟨(y216), (wrap64 (x31_1 + 1)), (by first | rfl | (simp; done) | (simp [*]; done)), H', ⟨by have := HK1.out; omega⟩, ⟨by (with_reducible repeat (first | apply Kd.R_alloc | apply Kd.R_drewN | apply Kd.R_drew)); exact HO218.out⟩, ⟨by (with_reducible repeat (first | refine blk_drewN ?_ _ | refine blk_drew ?_ | refine blk_alloc ?_ _)); exact BK210.out⟩, ⟨by repeat (first | (with_reducible first | exact HB.out | apply below_alloc | apply pw_below_drewN | apply below_drew1 | refine below_set ?_ GE210.out) | exact HB.out)⟩⟩
   ·
    rw [if_neg c8] at H
    have c8b0 : decide (x31_1 < 6) = false := decide_eq_false c8
    clear c8
    replace H := Option.bind_eq_some_iff.mp H
    obtain ⟨t219, A120, H⟩ := H
    have A12 := Aside0.mk A120
    clear A120
    by_cases c13 : 0 < (l0.length : Int)
    case neg => (rw [if_neg c13] at H; exact absurd H (by simp))
    rw [if_pos c13] at H
    have c13b0 : decide (0 < (l0.length : Int)) = true := decide_eq_true c13
    have c13b1 : decide (0 < l0.length) = true := decide_eq_true (by omega)
    clear c13
    have H' := Aside0.mk H
    clear H
    have hz14 := bx7 BK210.out
    obtain ⟨Ao15, co15, eo15⟩ := Kd.R_slice HO_4.out
    subst eo15
    go_wp2_with (first | (go_at_call 35; (with_reducible refine (seal_Put.calls k1 _ _ x4_1 (IntKind.u64.wrap (((rd_T75 l0 0).f0.f6))) 2 t219 _ ?side1 ?side2 A12.out).mono ?_); (case side1 => repeat (first | exact (Kd.R_reads' HO_4.out).2.2 | (with_reducible refine Kd.C_alloc ?_ _) | (with_reducible refine Kd.C_drewN ?_ _) | (with_reducible refine Kd.C_drew ?_))); (case side2 => exact (Kd.R_reads' HO_4.out).2.1); rintro e w16 ⟨v220, rfl, ho0, hb⟩; have HO221 := Aside0.mk (Kd.R_lower (Kd.R_new' ho0 (Kd.R_lt (by (with_reducible repeat (first | apply Kd.R_alloc | apply Kd.R_drewN | apply Kd.R_drew)); exact HO_4.out))) (below_size (by repeat (first | (with_reducible first | exact HB.out | apply below_alloc | apply pw_below_drewN | apply below_drew1 | refine below_set ?_ GE210.out) | exact HB.out)))); replace HO_4 := Aside0.mk (Kd.R_elder' (by (with_reducible repeat (first | apply Kd.R_alloc | apply Kd.R_drewN | apply Kd.R_drew)); exact HO_4.out) (Kd.R_base ho0) hb); replace BK210 := Aside0.mk (blk_below (g := gb210) (o := .cells #[.int .i64 ((rd_T75 l0 0).f0.f0), .int .i64 ((rd_T75 l0 0).f0.f1), .int .i64 ((rd_T75 l0 0).f0.f2), .int .i64 ((rd_T75 l0 0).f0.f3), .int .i64 ((rd_T75 l0 0).f0.f4), .int .i64 ((rd_T75 l0 0).f0.f5), .int .i64 ((rd_T75 l0 0).f0.f6)] 23 (0, 0)) (by (with_reducible repeat (first | refine blk_drewN ?_ _ | refine blk_drew ?_ | refine blk_alloc ?_ _)); exact BK210.out) hb); replace HB := Aside0.mk (below_step (by repeat (first | (with_reducible first | exact HB.out | apply below_alloc | apply pw_below_drewN | apply below_drew1 | refine below_set ?_ GE210.out) | exact HB.out)) hb); clear hb ho0; have p222 : 0 ≤ (0 : Int) := (by omega); have q222 : 0 < (l0.length : Int) := of_decide_eq_true (by first | (with_reducible assumption) | assumption); obtain ⟨ad222, A222_7, c222_7, A222_8, c222_8, e222, _, _, _, _, _, _, _, hx222_7, _, hl222_7, hi222_7, _, _⟩ := at_T75 HR0.out 0 p222 q222; obtain rfl : ad209 = ad222 := (by injection e222); have qi222 : (0 < l0.length) = True := eq_true (by omega); (try rw [show ((0 : Int)).toNat = 0 from rfl] at hx222_7); (try rw [show 0 * 9 = 0 from rfl] at hx222_7); (try rw [Addr.add_zero'] at hx222_7); replace hx222_7 := (HB.out.cell (World.block_lt_of_cell? w _ hx222_7)).trans hx222_7; have HR222_7 := Aside0.mk hi222_7; have HC222_7 := Aside0.mk hl222_7; clear hi222_7 hl222_7; replace p222 := eq_true p222; replace q222 := eq_true q222; have hP222 : asPtr (.slice (some ad209) l0.length c0) = .pointer (some ad209) := asPtr_some (of_decide_eq_true (by first | (with_reducible assumption) | assumption)); have p223 : 0 ≤ (0 : Int) := (by omega); have q223 : 0 < (l0.length : Int) := of_decide_eq_true (by first | (with_reducible assumption) | assumption); obtain ⟨ad223, A223_7, c223_7, A223_8, c223_8, e223, _, _, _, _, _, _, _, _, hx223_8, _, _, hl223_8, hi223_8⟩ := at_T75 HR0.out 0 p223 q223; obtain rfl : ad209 = ad223 := (by injection e223); have qi223 : (0 < l0.length) = True := eq_true (by omega); (try rw [show ((0 : Int)).toNat = 0 from rfl] at hx223_8); (try rw [show 0 * 9 = 0 from rfl] at hx223_8); (try rw [Addr.add_zero'] at hx223_8); replace hx223_8 := (HB.out.cell (World.block_lt_of_cell? w _ hx223_8)).trans hx223_8; have HR223_8 := Aside0.mk hi223_8; have HC223_8 := Aside0.mk hl223_8; clear hi223_8 hl223_8; replace p223 := eq_true p223; replace q223 := eq_true q223; have hP223 : asPtr (.slice (some ad209) l0.length c0) = .pointer (some ad209) := asPtr_some (of_decide_eq_true (by first | (with_reducible assumption) | assumption))))
    repeat (go_quiet (first | (go_at_call 35; (with_reducible refine (seal_Put.calls k1 _ _ x4_1 (IntKind.u64.wrap (((rd_T75 l0 0).f0.f6))) 2 t219 _ ?side1 ?side2 A12.out).mono ?_); (case side1 => repeat (first | exact (Kd.R_reads' HO_4.out).2.2 | (with_reducible refine Kd.C_alloc ?_ _) | (with_reducible refine Kd.C_drewN ?_ _) | (with_reducible refine Kd.C_drew ?_))); (case side2 => exact (Kd.R_reads' HO_4.out).2.1); rintro e w16 ⟨v220, rfl, ho0, hb⟩; have n0_ := Aside0.mk (Kd.R_elder' (by (with_reducible repeat (first | apply Kd.R_alloc | apply Kd.R_drewN | apply Kd.R_drew)); exact HO_4.out) (Kd.R_base ho0) hb); have n1_ := Aside0.mk (Kd.R_lower (Kd.R_new' ho0 (Kd.R_lt (by (with_reducible repeat (first | apply Kd.R_alloc | apply Kd.R_drewN | apply Kd.R_drew)); exact HO_4.out))) (below_size (by repeat (first | (with_reducible first | exact HB.out | apply below_alloc | apply pw_below_drewN | apply below_drew1 | refine below_set ?_ GE210.out) | exact HB.out)))); have n2_ := Aside0.mk (blk_below (g := gb210) (o := .cells #[.int .i64 ((rd_T75 l0 0).f0.f0), .int .i64 ((rd_T75 l0 0).f0.f1), .int .i64 ((rd_T75 l0 0).f0.f2), .int .i64 ((rd_T75 l0 0).f0.f3), .int .i64 ((rd_T75 l0 0).f0.f4), .int .i64 ((rd_T75 l0 0).f0.f5), .int .i64 ((rd_T75 l0 0).f0.f6)] 23 (0, 0)) (by (with_reducible repeat (first | refine blk_drewN ?_ _ | refine blk_drew ?_ | refine blk_alloc ?_ _)); exact BK210.out) hb); have n3_ := Aside0.mk (below_step (by repeat (first | (with_reducible first | exact HB.out | apply below_alloc | apply pw_below_drewN | apply below_drew1 | refine below_set ?_ GE210.out) | exact HB.out)) hb); clear HO_4; clear BK210; clear HB; have HO_4 := n0_; have HO221 := n1_; have BK210 := n2_; have HB := n3_; clear n0_ n1_ n2_ n3_; (try clear hb); (try clear hb2); (try clear hk); (try clear hi); (try clear ho0); have p222 : 0 ≤ (0 : Int) := (by omega); have q222 : 0 < (l0.length : Int) := of_decide_eq_true (by first | (with_reducible assumption) | assumption); obtain ⟨ad222, A222_7, c222_7, A222_8, c222_8, e222, _, _, _, _, _, _, _, hx222_7, _, hl222_7, hi222_7, _, _⟩ := at_T75 HR0.out 0 p222 q222; obtain rfl : ad209 = ad222 := (by injection e222); have qi222 : (0 < l0.length) = True := eq_true (by omega); (try rw [show ((0 : Int)).toNat = 0 from rfl] at hx222_7); (try rw [show 0 * 9 = 0 from rfl] at hx222_7); (try rw [Addr.add_zero'] at hx222_7); replace hx222_7 := (HB.out.cell (World.block_lt_of_cell? w _ hx222_7)).trans hx222_7; have HR222_7 := Aside0.mk hi222_7; have HC222_7 := Aside0.mk hl222_7; clear hi222_7 hl222_7; replace p222 := eq_true p222; replace q222 := eq_true q222; have hP222 : asPtr (.slice (some ad209) l0.length c0) = .pointer (some ad209) := asPtr_some (of_decide_eq_true (by first | (with_reducible assumption) | assumption)); have p223 : 0 ≤ (0 : Int) := (by omega); have q223 : 0 < (l0.length : Int) := of_decide_eq_true (by first | (with_reducible assumption) | assumption); obtain ⟨ad223, A223_7, c223_7, A223_8, c223_8, e223, _, _, _, _, _, _, _, _, hx223_8, _, _, hl223_8, hi223_8⟩ := at_T75 HR0.out 0 p223 q223; obtain rfl : ad209 = ad223 := (by injection e223); have qi223 : (0 < l0.length) = True := eq_true (by omega); (try rw [show ((0 : Int)).toNat = 0 from rfl] at hx223_8); (try rw [show 0 * 9 = 0 from rfl] at hx223_8); (try rw [Addr.add_zero'] at hx223_8); replace hx223_8 := (HB.out.cell (World.block_lt_of_cell? w _ hx223_8)).trans hx223_8; have HR223_8 := Aside0.mk hi223_8; have HC223_8 := Aside0.mk hl223_8; clear hi223_8 hl223_8; replace p223 := eq_true p223; replace q223 := eq_true q223; have hP223 : asPtr (.slice (some ad209) l0.length c0) = .pointer (some ad209) := asPtr_some (of_decide_eq_true (by first | (with_reducible assumption) | assumption)))); try go_wp2_with (first | (go_at_call 35; (with_reducible refine (seal_Put.calls k1 _ _ x4_1 (IntKind.u64.wrap (((rd_T75 l0 0).f0.f6))) 2 t219 _ ?side1 ?side2 A12.out).mono ?_); (case side1 => repeat (first | exact (Kd.R_reads' HO_4.out).2.2 | (with_reducible refine Kd.C_alloc ?_ _) | (with_reducible refine Kd.C_drewN ?_ _) | (with_reducible refine Kd.C_drew ?_))); (case side2 => exact (Kd.R_reads' HO_4.out).2.1); rintro e w16 ⟨v220, rfl, ho0, hb⟩; have HO221 := Aside0.mk (Kd.R_lower (Kd.R_new' ho0 (Kd.R_lt (by (with_reducible repeat (first | apply Kd.R_alloc | apply Kd.R_drewN | apply Kd.R_drew)); exact HO_4.out))) (below_size (by repeat (first | (with_reducible first | exact HB.out | apply below_alloc | apply pw_below_drewN | apply below_drew1 | refine below_set ?_ GE210.out) | exact HB.out)))); replace HO_4 := Aside0.mk (Kd.R_elder' (by (with_reducible repeat (first | apply Kd.R_alloc | apply Kd.R_drewN | apply Kd.R_drew)); exact HO_4.out) (Kd.R_base ho0) hb); replace BK210 := Aside0.mk (blk_below (g := gb210) (o := .cells #[.int .i64 ((rd_T75 l0 0).f0.f0), .int .i64 ((rd_T75 l0 0).f0.f1), .int .i64 ((rd_T75 l0 0).f0.f2), .int .i64 ((rd_T75 l0 0).f0.f3), .int .i64 ((rd_T75 l0 0).f0.f4), .int .i64 ((rd_T75 l0 0).f0.f5), .int .i64 ((rd_T75 l0 0).f0.f6)] 23 (0, 0)) (by (with_reducible repeat (first | refine blk_drewN ?_ _ | refine blk_drew ?_ | refine blk_alloc ?_ _)); exact BK210.out) hb); replace HB := Aside0.mk (below_step (by repeat (first | (with_reducible first | exact HB.out | apply below_alloc | apply pw_below_drewN | apply below_drew1 | refine below_set ?_ GE210.out) | exact HB.out)) hb); clear hb ho0; have p222 : 0 ≤ (0 : Int) := (by omega); have q222 : 0 < (l0.length : Int) := of_decide_eq_true (by first | (with_reducible assumption) | assumption); obtain ⟨ad222, A222_7, c222_7, A222_8, c222_8, e222, _, _, _, _, _, _, _, hx222_7, _, hl222_7, hi222_7, _, _⟩ := at_T75 HR0.out 0 p222 q222; obtain rfl : ad209 = ad222 := (by injection e222); have qi222 : (0 < l0.length) = True := eq_true (by omega); (try rw [show ((0 : Int)).toNat = 0 from rfl] at hx222_7); (try rw [show 0 * 9 = 0 from rfl] at hx222_7); (try rw [Addr.add_zero'] at hx222_7); replace hx222_7 := (HB.out.cell (World.block_lt_of_cell? w _ hx222_7)).trans hx222_7; have HR222_7 := Aside0.mk hi222_7; have HC222_7 := Aside0.mk hl222_7; clear hi222_7 hl222_7; replace p222 := eq_true p222; replace q222 := eq_true q222; have hP222 : asPtr (.slice (some ad209) l0.length c0) = .pointer (some ad209) := asPtr_some (of_decide_eq_true (by first | (with_reducible assumption) | assumption)); have p223 : 0 ≤ (0 : Int) := (by omega); have q223 : 0 < (l0.length : Int) := of_decide_eq_true (by first | (with_reducible assumption) | assumption); obtain ⟨ad223, A223_7, c223_7, A223_8, c223_8, e223, _, _, _, _, _, _, _, _, hx223_8, _, _, hl223_8, hi223_8⟩ := at_T75 HR0.out 0 p223 q223; obtain rfl : ad209 = ad223 := (by injection e223); have qi223 : (0 < l0.length) = True := eq_true (by omega); (try rw [show ((0 : Int)).toNat = 0 from rfl] at hx223_8); (try rw [show 0 * 9 = 0 from rfl] at hx223_8); (try rw [Addr.add_zero'] at hx223_8); replace hx223_8 := (HB.out.cell (World.block_lt_of_cell? w _ hx223_8)).trans hx223_8; have HR223_8 := Aside0.mk hi223_8; have HC223_8 := Aside0.mk hl223_8; clear hi223_8 hl223_8; replace p223 := eq_true p223; replace q223 := eq_true q223; have hP223 : asPtr (.slice (some ad209) l0.length c0) = .pointer (some ad209) := asPtr_some (of_decide_eq_true (by first | (with_reducible assumption) | assumption)))))
    go_loopg [4, 54] k1 (fun kq v4 v54 w' => ∃ (x4_2 : List Int) (x54_2 : Int), v54 = .int .i64 x54_2 ∧ Aside0 (page_Page_Bytes.l1 kq x4_2 x54_2 ((rd_T75 l0 0).f1) ((rd_T75 l0 0).f2) = some r) ∧ Aside0 (kq ≤ k1) ∧ Aside0 (Kd.R (Kd.int .u8) 5 w' w.heap.size (fun _ => True) v4 x4_2) ∧ Aside0 (w'.heap[gb210]? = some (.cells #[.int .i64 ((rd_T75 l0 0).f0.f0), .int .i64 ((rd_T75 l0 0).f0.f1), .int .i64 ((rd_T75 l0 0).f0.f2), .int .i64 ((rd_T75 l0 0).f0.f3), .int .i64 ((rd_T75 l0 0).f0.f4), .int .i64 ((rd_T75 l0 0).f0.f5), .int .i64 ((rd_T75 l0 0).f0.f6)] 23 (0, 0))) ∧ Aside0 (Below w.heap.size w w'))
    case atStart => exact ⟨(t219), (0), (by first | rfl | (simp; done) | (simp [*]; done)), H', ⟨Nat.le_refl _⟩, ⟨by (with_reducible repeat (first | apply Kd.R_alloc | apply Kd.R_drewN | apply Kd.R_drew)); exact Kd.R_mono HO221.out (fun _ hk => trivial)⟩, ⟨by (with_reducible repeat (first | refine blk_drewN ?_ _ | refine blk_drew ?_ | refine blk_alloc ?_ _)); exact BK210.out⟩, ⟨by repeat (first | (with_reducible first | exact HB.out | apply below_alloc | apply pw_below_drewN | apply below_drew1 | refine below_set ?_ GE210.out) | exact HB.out)⟩⟩
    case round =>
     clear H'
     try clear c1
     try clear c2
     try clear c2b0
     try clear c2b1
     try clear p2
     try clear q2
     try clear hx2
     try clear qi2
     try clear p6
     try clear c8
     try clear c8b0
     try clear c9
     try clear c9b0
     try clear c10
     try clear c13
     try clear c13b0
     try clear c13b1
     try clear c14
     try clear hz14
     try clear hz4
     try clear hz7
     try clear hx209_0
     try clear hx209_1
     try clear hx209_2
     try clear hx209_3
     try clear hx209_4
     try clear hx209_5
     try clear hx209_6
     try clear hx222_7
     try clear hx223_8
     try clear p2
     try clear p209
     try clear p222
     try clear p223
     try clear q2
     try clear q209
     try clear q222
     try clear q223
     obtain ⟨x4_2, x54_2, rfl, HA, HK2, HO_4, BK210, HB⟩ := hrel
     cases gk with
     | zero => exact absurd HA.out (by simp [page_Page_Bytes.l1])
     | succ k2 =>
      have H := HA.out
      clear HA
      simp only [page_Page_Bytes.l1] at H
      by_cases c17 : x54_2 < 2
      ·
       rw [if_pos c17] at H
       have c17b0 : decide (x54_2 < 2) = true := decide_eq_true c17
       clear c17
       by_cases c18 : 0 ≤ x54_2
       case neg => (rw [if_neg c18] at H; exact absurd H (by simp))
       rw [if_pos c18] at H
       have c18b0 : decide (0 ≤ x54_2) = true := decide_eq_true c18
       clear c18
       have H' := Aside0.mk H
       clear H
       obtain ⟨Ax228, cx228, hxi228, hxr228, hxc228⟩ := arr_rows2 (of_decide_eq_true (by first | (with_reducible assumption) | assumption)) (of_decide_eq_true (by first | (with_reducible assumption) | assumption)) HR222_7.out HC222_7.out HR223_8.out HC223_8.out
       have HRx228 := Aside0.mk hxr228; have HCx228 := Aside0.mk hxc228; clear hxr228 hxc228
       have hxv228 := fun W => run_index_arr (P := Try.prog) 79 73 2 Try.underlying79 (by kernel_rfl) (by kernel_rfl) #[.slice A222_7 ((rd_T75 l0 0).f1).length c222_7, .slice A223_8 ((rd_T75 l0 0).f2).length c223_8] x54_2 _ W (of_decide_eq_true (by first | (with_reducible assumption) | assumption)) (of_decide_eq_true (by first | (with_reducible assumption) | assumption)) hxi228
       clear hxi228
       go_wp2
       repeat (go_quiet (fail); try go_wp2)
       go_loopg [4, 59] k2 (fun kq v4 v59 w' => ∃ (x4_3 : List Int) (x59_3 : Int), v59 = .int .i64 x59_3 ∧ Aside0 (page_Page_Bytes.l2 kq x4_3 x54_2 (sel2 ((rd_T75 l0 0).f1) ((rd_T75 l0 0).f2) x54_2) ((sel2 ((rd_T75 l0 0).f1) ((rd_T75 l0 0).f2) x54_2).length : Int) x59_3 ((rd_T75 l0 0).f1) ((rd_T75 l0 0).f2) = some r) ∧ Aside0 (kq ≤ k2) ∧ Aside0 (Kd.R (Kd.int .u8) 5 w' w.heap.size (fun _ => True) v4 x4_3) ∧ Aside0 (w'.heap[gb210]? = some (.cells #[.int .i64 ((rd_T75 l0 0).f0.f0), .int .i64 ((rd_T75 l0 0).f0.f1), .int .i64 ((rd_T75 l0 0).f0.f2), .int .i64 ((rd_T75 l0 0).f0.f3), .int .i64 ((rd_T75 l0 0).f0.f4), .int .i64 ((rd_T75 l0 0).f0.f5), .int .i64 ((rd_T75 l0 0).f0.f6)] 23 (0, 0))) ∧ Aside0 (Below w.heap.size w w'))
       case atStart => exact ⟨(x4_2), (0), (by first | rfl | (simp; done) | (simp [*]; done)), H', ⟨Nat.le_refl _⟩, ⟨by (with_reducible repeat (first | apply Kd.R_alloc | apply Kd.R_drewN | apply Kd.R_drew)); exact HO_4.out⟩, ⟨by (with_reducible repeat (first | refine blk_drewN ?_ _ | refine blk_drew ?_ | refine blk_alloc ?_ _)); exact BK210.out⟩, ⟨by repeat (first | (with_reducible first | exact HB.out | apply below_alloc | apply pw_below_drewN | apply below_drew1 | refine below_set ?_ GE210.out) | exact HB.out)⟩⟩
       case round =>
        clear H'
        try clear c1
        try clear c2
        try clear c2b0
        try clear c2b1
        try clear p2
        try clear q2
        try clear hx2
        try clear qi2
        try clear p6
        try clear c8
        try clear c8b0
        try clear c9
        try clear c9b0
        try clear c10
        try clear c13
        try clear c13b0
        try clear c13b1
        try clear c14
        try clear c17
        try clear c17b0
        try clear c18
        try clear c18b0
        try clear hz14
        try clear hz4
        try clear hz7
        try clear hx209_0
        try clear hx209_1
        try clear hx209_2
        try clear hx209_3
        try clear hx209_4
        try clear hx209_5
        try clear hx209_6
        try clear hx222_7
        try clear hx223_8
        try clear p2
        try clear p209
        try clear p222
        try clear p223
        try clear p6
        try clear q2
        try clear q209
        try clear q222
        try clear q223
        obtain ⟨x4_3, x59_3, rfl, HA, HK3, HO_4, BK210, HB⟩ := hrel
        cases gk with
        | zero => exact absurd HA.out (by simp [page_Page_Bytes.l2])
        | succ k3 =>
         have H := HA.out
         clear HA
         simp only [page_Page_Bytes.l2] at H
         by_cases c19 : x59_3 < ((sel2 ((rd_T75 l0 0).f1) ((rd_T75 l0 0).f2) x54_2).length : Int)
         ·
          rw [if_pos c19] at H
          have c19b0 : decide (x59_3 < ((sel2 ((rd_T75 l0 0).f1) ((rd_T75 l0 0).f2) x54_2).length : Int)) = true := decide_eq_true c19
          clear c19
          by_cases c20 : 0 ≤ x59_3
          case neg => (rw [if_neg c20] at H; exact absurd H (by simp))
          rw [if_pos c20] at H
          have c20b0 : decide (0 ≤ x59_3) = true := decide_eq_true c20
          clear c20
          by_cases c21 : x59_3 < ((sel2 ((rd_T75 l0 0).f1) ((rd_T75 l0 0).f2) x54_2).length : Int)
          case neg => (rw [if_neg c21] at H; exact absurd H (by simp))
          rw [if_pos c21] at H
          have c21b0 : decide (x59_3 < ((sel2 ((rd_T75 l0 0).f1) ((rd_T75 l0 0).f2) x54_2).length : Int)) = true := decide_eq_true c21
          clear c21
          replace H := Option.bind_eq_some_iff.mp H
          obtain ⟨t231, A220, H⟩ := H
          have A22 := Aside0.mk A220
          clear A220
          replace H := Option.bind_eq_some_iff.mp H
          obtain ⟨t234, A230, H⟩ := H
          have A23 := Aside0.mk A230
          clear A230
          have H' := Aside0.mk H
          clear H
          have p229 : 0 ≤ (x59_3 : Int) := of_decide_eq_true (by first | (with_reducible assumption) | assumption)
          have q229 : x59_3 < ((sel2 ((rd_T75 l0 0).f1) ((rd_T75 l0 0).f2) x54_2).length : Int) := of_decide_eq_true (by first | (with_reducible assumption) | assumption)
          obtain ⟨ad229, A229_2, c229_2, A229_3, c229_3, e229, hx229_0, hx229_1, hx229_2, hx229_3, hl229_2, hi229_2, hl229_3, hi229_3⟩ := at_T82 HRx228.out x59_3 p229 q229
          cases e229
          replace hx229_0 := (HB.out.cell (World.block_lt_of_cell? w _ hx229_0)).trans hx229_0
          replace hx229_1 := (HB.out.cell (World.block_lt_of_cell? w _ hx229_1)).trans hx229_1
          replace hx229_2 := (HB.out.cell (World.block_lt_of_cell? w _ hx229_2)).trans hx229_2
          replace hx229_3 := (HB.out.cell (World.block_lt_of_cell? w _ hx229_3)).trans hx229_3
          have HR229_2 := Aside0.mk hi229_2
          have HC229_2 := Aside0.mk hl229_2
          clear hi229_2 hl229_2
          have HR229_3 := Aside0.mk hi229_3
          have HC229_3 := Aside0.mk hl229_3
          clear hi229_3 hl229_3
          replace p229 := eq_true p229
          replace q229 := eq_true q229
          go_wp2_with (first | ((with_reducible refine gate_dst (N := 10) rfl ?_); refine box_event ?hg (N := 10) ?hd (cs := #[.int .i32 0, .int .u32 0, .slice none 0 0, .slice none 0 0]) (t := 82) ?hr ?_; (case hd => rfl); (case hg => rfl); (case hr => first | (go_simp; done) | (go_simp; rfl)); intro gb230 hg w24 hbox hb; replace HO_4 := Aside0.mk (Kd.R_below (by (with_reducible repeat (first | apply Kd.R_alloc | apply Kd.R_drewN | apply Kd.R_drew)); exact HO_4.out) hb); have BK230 := Aside0.mk (hbox); have GW230 := Aside0.mk ((by rw [hg]; exact (below_size (by repeat (first | (with_reducible first | exact HB.out | apply below_alloc | apply pw_below_drewN | apply below_drew1 | refine below_set ?_ GE210.out) | exact HB.out))) : w.heap.size ≤ gb230)); have GE230 := Aside0.mk ((by rw [hg]; exact (below_size (by repeat (first | (with_reducible first | exact HB.out | apply below_alloc | apply pw_below_drewN | apply below_drew1 | refine below_set ?_ GE210.out) | exact HB.out))) : w.heap.size ≤ gb230)); replace HB := Aside0.mk (below_step (by repeat (first | (with_reducible first | exact HB.out | apply below_alloc | apply pw_below_drewN | apply below_drew1 | refine below_set ?_ GE210.out) | exact HB.out)) hb); have NB210_230 := Aside0.mk ((by rw [hg]; exact Nat.ne_of_lt (blk_lt (g := gb210) (o := .cells #[.int .i64 ((rd_T75 l0 0).f0.f0), .int .i64 ((rd_T75 l0 0).f0.f1), .int .i64 ((rd_T75 l0 0).f0.f2), .int .i64 ((rd_T75 l0 0).f0.f3), .int .i64 ((rd_T75 l0 0).f0.f4), .int .i64 ((rd_T75 l0 0).f0.f5), .int .i64 ((rd_T75 l0 0).f0.f6)] 23 (0, 0)) (by (with_reducible repeat (first | refine blk_drewN ?_ _ | refine blk_drew ?_ | refine blk_alloc ?_ _)); exact BK210.out)) : gb210 ≠ gb230)); have NB230_210 := Aside0.mk ((by rw [hg]; exact Nat.ne_of_gt (blk_lt (g := gb210) (o := .cells #[.int .i64 ((rd_T75 l0 0).f0.f0), .int .i64 ((rd_T75 l0 0).f0.f1), .int .i64 ((rd_T75 l0 0).f0.f2), .int .i64 ((rd_T75 l0 0).f0.f3), .int .i64 ((rd_T75 l0 0).f0.f4), .int .i64 ((rd_T75 l0 0).f0.f5), .int .i64 ((rd_T75 l0 0).f0.f6)] 23 (0, 0)) (by (with_reducible repeat (first | refine blk_drewN ?_ _ | refine blk_drew ?_ | refine blk_alloc ?_ _)); exact BK210.out)) : gb230 ≠ gb210)); replace BK210 := Aside0.mk (blk_below (g := gb210) (o := .cells #[.int .i64 ((rd_T75 l0 0).f0.f0), .int .i64 ((rd_T75 l0 0).f0.f1), .int .i64 ((rd_T75 l0 0).f0.f2), .int .i64 ((rd_T75 l0 0).f0.f3), .int .i64 ((rd_T75 l0 0).f0.f4), .int .i64 ((rd_T75 l0 0).f0.f5), .int .i64 ((rd_T75 l0 0).f0.f6)] 23 (0, 0)) (by (with_reducible repeat (first | refine blk_drewN ?_ _ | refine blk_drew ?_ | refine blk_alloc ?_ _)); exact BK210.out) hb); clear hb hbox hg; have hnb25 := NB230_210.out; have hnc25 := NB210_230.out; have hz26 := bx4 BK230.out; obtain ⟨Ao27, co27, eo27⟩ := Kd.R_slice HO_4.out; subst eo27) | (go_at_call 35; (with_reducible refine (seal_Put.calls k3 _ _ x4_3 (((rd_T82 (sel2 ((rd_T75 l0 0).f1) ((rd_T75 l0 0).f2) x54_2) x59_3).f0.f0) % 4294967296) 4 t231 _ ?side1 ?side2 A22.out).mono ?_); (case side1 => refine (Kd.R_reads' (e := 5) (base := w.heap.size) (ok := fun k_ => True) (n := x4_3.length) (c := co27) ?_).2.2; exact (by (with_reducible repeat (first | apply Kd.R_alloc | apply Kd.R_drewN | apply Kd.R_drew)); exact (Kd.R_mono (Kd.R_far (p := ⟨gb230, 3, none⟩) (Kd.R_far (p := ⟨gb230, 2, none⟩) (Kd.R_far (p := ⟨gb230, 1, none⟩) (Kd.R_far (p := ⟨gb230, 0, none⟩) (Kd.R_types HO_4.out BK230.out (by decide)) (fun _ hk => hk.2) (.int .i32 ((rd_T82 (sel2 ((rd_T75 l0 0).f1) ((rd_T75 l0 0).f2) x54_2) x59_3).f0.f0))) (fun _ hk => hk.2) (.int .u32 ((rd_T82 (sel2 ((rd_T75 l0 0).f1) ((rd_T75 l0 0).f2) x54_2) x59_3).f0.f1))) (fun _ hk => hk.2) (.slice A229_2 ((rd_T82 (sel2 ((rd_T75 l0 0).f1) ((rd_T75 l0 0).f2) x54_2) x59_3).f0.f2).length c229_2)) (fun _ hk => hk.2) (.slice A229_3 ((rd_T82 (sel2 ((rd_T75 l0 0).f1) ((rd_T75 l0 0).f2) x54_2) x59_3).f1).length c229_3)) (fun _ h_ => h_.1)))); (case side2 => exact (Kd.R_reads' HO_4.out).2.1); rintro e w28 ⟨v232, rfl, ho0, hb⟩; have HO233 := Aside0.mk (Kd.R_lower (Kd.R_new' ho0 (Kd.R_lt (by (with_reducible repeat (first | apply Kd.R_alloc | apply Kd.R_drewN | apply Kd.R_drew)); exact (Kd.R_mono (Kd.R_far (p := ⟨gb230, 3, none⟩) (Kd.R_far (p := ⟨gb230, 2, none⟩) (Kd.R_far (p := ⟨gb230, 1, none⟩) (Kd.R_far (p := ⟨gb230, 0, none⟩) (Kd.R_types HO_4.out BK230.out (by decide)) (fun _ hk => hk.2) (.int .i32 ((rd_T82 (sel2 ((rd_T75 l0 0).f1) ((rd_T75 l0 0).f2) x54_2) x59_3).f0.f0))) (fun _ hk => hk.2) (.int .u32 ((rd_T82 (sel2 ((rd_T75 l0 0).f1) ((rd_T75 l0 0).f2) x54_2) x59_3).f0.f1))) (fun _ hk => hk.2) (.slice A229_2 ((rd_T82 (sel2 ((rd_T75 l0 0).f1) ((rd_T75 l0 0).f2) x54_2) x59_3).f0.f2).length c229_2)) (fun _ hk => hk.2) (.slice A229_3 ((rd_T82 (sel2 ((rd_T75 l0 0).f1) ((rd_T75 l0 0).f2) x54_2) x59_3).f1).length c229_3)) (fun _ h_ => h_.1))))) (below_size (by repeat (first | (with_reducible first | exact HB.out | apply below_alloc | apply pw_below_drewN | apply below_drew1 | refine below_set ?_ GE210.out | refine below_set ?_ GE230.out) | exact HB.out)))); replace HO_4 := Aside0.mk (Kd.R_elder' (by (with_reducible repeat (first | apply Kd.R_alloc | apply Kd.R_drewN | apply Kd.R_drew)); exact (Kd.R_mono (Kd.R_far (p := ⟨gb230, 3, none⟩) (Kd.R_far (p := ⟨gb230, 2, none⟩) (Kd.R_far (p := ⟨gb230, 1, none⟩) (Kd.R_far (p := ⟨gb230, 0, none⟩) (Kd.R_types HO_4.out BK230.out (by decide)) (fun _ hk => hk.2) (.int .i32 ((rd_T82 (sel2 ((rd_T75 l0 0).f1) ((rd_T75 l0 0).f2) x54_2) x59_3).f0.f0))) (fun _ hk => hk.2) (.int .u32 ((rd_T82 (sel2 ((rd_T75 l0 0).f1) ((rd_T75 l0 0).f2) x54_2) x59_3).f0.f1))) (fun _ hk => hk.2) (.slice A229_2 ((rd_T82 (sel2 ((rd_T75 l0 0).f1) ((rd_T75 l0 0).f2) x54_2) x59_3).f0.f2).length c229_2)) (fun _ hk => hk.2) (.slice A229_3 ((rd_T82 (sel2 ((rd_T75 l0 0).f1) ((rd_T75 l0 0).f2) x54_2) x59_3).f1).length c229_3)) (fun _ h_ => h_.1))) (Kd.R_base ho0) hb); replace BK210 := Aside0.mk (blk_below (g := gb210) (o := .cells #[.int .i64 ((rd_T75 l0 0).f0.f0), .int .i64 ((rd_T75 l0 0).f0.f1), .int .i64 ((rd_T75 l0 0).f0.f2), .int .i64 ((rd_T75 l0 0).f0.f3), .int .i64 ((rd_T75 l0 0).f0.f4), .int .i64 ((rd_T75 l0 0).f0.f5), .int .i64 ((rd_T75 l0 0).f0.f6)] 23 (0, 0)) (by (with_reducible repeat (first | refine blk_drewN ?_ _ | refine blk_drew ?_ | refine blk_alloc ?_ _)); refine blk_far ?_ NB210_230.out _; (with_reducible repeat (first | refine blk_drewN ?_ _ | refine blk_drew ?_ | refine blk_alloc ?_ _)); refine blk_far ?_ NB210_230.out _; (with_reducible repeat (first | refine blk_drewN ?_ _ | refine blk_drew ?_ | refine blk_alloc ?_ _)); refine blk_far ?_ NB210_230.out _; (with_reducible repeat (first | refine blk_drewN ?_ _ | refine blk_drew ?_ | refine blk_alloc ?_ _)); refine blk_far ?_ NB210_230.out _; (with_reducible repeat (first | refine blk_drewN ?_ _ | refine blk_drew ?_ | refine blk_alloc ?_ _)); exact BK210.out) hb); replace BK230 := Aside0.mk (blk_below (g := gb230) (o := .cells #[.int .i32 ((rd_T82 (sel2 ((rd_T75 l0 0).f1) ((rd_T75 l0 0).f2) x54_2) x59_3).f0.f0), .int .u32 ((rd_T82 (sel2 ((rd_T75 l0 0).f1) ((rd_T75 l0 0).f2) x54_2) x59_3).f0.f1), .slice A229_2 ((rd_T82 (sel2 ((rd_T75 l0 0).f1) ((rd_T75 l0 0).f2) x54_2) x59_3).f0.f2).length c229_2, .slice A229_3 ((rd_T82 (sel2 ((rd_T75 l0 0).f1) ((rd_T75 l0 0).f2) x54_2) x59_3).f1).length c229_3] 82 (0, 0)) (by (with_reducible repeat (first | refine blk_drewN ?_ _ | refine blk_drew ?_ | refine blk_alloc ?_ _)); refine blk_put (cs := #[.int .i32 ((rd_T82 (sel2 ((rd_T75 l0 0).f1) ((rd_T75 l0 0).f2) x54_2) x59_3).f0.f0), .int .u32 ((rd_T82 (sel2 ((rd_T75 l0 0).f1) ((rd_T75 l0 0).f2) x54_2) x59_3).f0.f1), .slice A229_2 ((rd_T82 (sel2 ((rd_T75 l0 0).f1) ((rd_T75 l0 0).f2) x54_2) x59_3).f0.f2).length c229_2, .slice none 0 0]) ?_ 3 _ rfl; (with_reducible repeat (first | refine blk_drewN ?_ _ | refine blk_drew ?_ | refine blk_alloc ?_ _)); refine blk_put (cs := #[.int .i32 ((rd_T82 (sel2 ((rd_T75 l0 0).f1) ((rd_T75 l0 0).f2) x54_2) x59_3).f0.f0), .int .u32 ((rd_T82 (sel2 ((rd_T75 l0 0).f1) ((rd_T75 l0 0).f2) x54_2) x59_3).f0.f1), .slice none 0 0, .slice none 0 0]) ?_ 2 _ rfl; (with_reducible repeat (first | refine blk_drewN ?_ _ | refine blk_drew ?_ | refine blk_alloc ?_ _)); refine blk_put (cs := #[.int .i32 ((rd_T82 (sel2 ((rd_T75 l0 0).f1) ((rd_T75 l0 0).f2) x54_2) x59_3).f0.f0), .int .u32 0, .slice none 0 0, .slice none 0 0]) ?_ 1 _ rfl; (with_reducible repeat (first | refine blk_drewN ?_ _ | refine blk_drew ?_ | refine blk_alloc ?_ _)); refine blk_put (cs := #[.int .i32 0, .int .u32 0, .slice none 0 0, .slice none 0 0]) ?_ 0 _ rfl; (with_reducible repeat (first | refine blk_drewN ?_ _ | refine blk_drew ?_ | refine blk_alloc ?_ _)); exact BK230.out) hb); replace HB := Aside0.mk (below_step (by repeat (first | (with_reducible first | exact HB.out | apply below_alloc | apply pw_below_drewN | apply below_drew1 | refine below_set ?_ GE210.out | refine below_set ?_ GE230.out) | exact HB.out)) hb); clear hb ho0; have hz29 := bx4 BK230.out; obtain ⟨Ao30, co30, eo30⟩ := Kd.R_slice HO233.out; subst eo30) | (go_at_call 35; (with_reducible refine (seal_Put.calls k3 _ _ t231 (IntKind.u64.wrap ((rd_T82 (sel2 ((rd_T75 l0 0).f1) ((rd_T75 l0 0).f2) x54_2) x59_3).f0.f1)) 4 t234 _ ?side1 ?side2 A23.out).mono ?_); (case side1 => repeat (first | exact (Kd.R_reads' HO233.out).2.2 | (with_reducible refine Kd.C_alloc ?_ _) | (with_reducible refine Kd.C_drewN ?_ _) | (with_reducible refine Kd.C_drew ?_))); (case side2 => exact (Kd.R_reads' HO233.out).2.1); rintro e w31 ⟨v235, rfl, ho0, hb⟩; have HO236 := Aside0.mk (Kd.R_lower (Kd.R_new' (Kd.R_new' ho0 (Kd.R_lt (by (with_reducible repeat (first | apply Kd.R_alloc | apply Kd.R_drewN | apply Kd.R_drew)); exact HO_4.out))) (Kd.R_lt (by (with_reducible repeat (first | apply Kd.R_alloc | apply Kd.R_drewN | apply Kd.R_drew)); exact HO233.out))) (below_size (by repeat (first | (with_reducible first | exact HB.out | apply below_alloc | apply pw_below_drewN | apply below_drew1 | refine below_set ?_ GE210.out | refine below_set ?_ GE230.out) | exact HB.out)))); replace HO_4 := Aside0.mk (Kd.R_elder' (by (with_reducible repeat (first | apply Kd.R_alloc | apply Kd.R_drewN | apply Kd.R_drew)); exact HO_4.out) (Kd.R_base ho0) hb); replace HO233 := Aside0.mk (Kd.R_elder' (by (with_reducible repeat (first | apply Kd.R_alloc | apply Kd.R_drewN | apply Kd.R_drew)); exact HO233.out) (Kd.R_base ho0) hb); replace BK210 := Aside0.mk (blk_below (g := gb210) (o := .cells #[.int .i64 ((rd_T75 l0 0).f0.f0), .int .i64 ((rd_T75 l0 0).f0.f1), .int .i64 ((rd_T75 l0 0).f0.f2), .int .i64 ((rd_T75 l0 0).f0.f3), .int .i64 ((rd_T75 l0 0).f0.f4), .int .i64 ((rd_T75 l0 0).f0.f5), .int .i64 ((rd_T75 l0 0).f0.f6)] 23 (0, 0)) (by (with_reducible repeat (first | refine blk_drewN ?_ _ | refine blk_drew ?_ | refine blk_alloc ?_ _)); exact BK210.out) hb); replace BK230 := Aside0.mk (blk_below (g := gb230) (o := .cells #[.int .i32 ((rd_T82 (sel2 ((rd_T75 l0 0).f1) ((rd_T75 l0 0).f2) x54_2) x59_3).f0.f0), .int .u32 ((rd_T82 (sel2 ((rd_T75 l0 0).f1) ((rd_T75 l0 0).f2) x54_2) x59_3).f0.f1), .slice A229_2 ((rd_T82 (sel2 ((rd_T75 l0 0).f1) ((rd_T75 l0 0).f2) x54_2) x59_3).f0.f2).length c229_2, .slice A229_3 ((rd_T82 (sel2 ((rd_T75 l0 0).f1) ((rd_T75 l0 0).f2) x54_2) x59_3).f1).length c229_3] 82 (0, 0)) (by (with_reducible repeat (first | refine blk_drewN ?_ _ | refine blk_drew ?_ | refine blk_alloc ?_ _)); exact BK230.out) hb); replace HB := Aside0.mk (below_step (by repeat (first | (with_reducible first | exact HB.out | apply below_alloc | apply pw_below_drewN | apply below_drew1 | refine below_set ?_ GE210.out | refine below_set ?_ GE230.out) | exact HB.out)) hb); clear hb ho0; have hz32 := bx4 BK230.out))
          repeat (go_quiet (first | ((with_reducible refine gate_dst (N := 10) rfl ?_); refine box_event ?hg (N := 10) ?hd (cs := #[.int .i32 0, .int .u32 0, .slice none 0 0, .slice none 0 0]) (t := 82) ?hr ?_; (case hd => rfl); (case hg => rfl); (case hr => first | (go_simp; done) | (go_simp; rfl)); intro gb230 hg w24 hbox hb; have n0_ := Aside0.mk (Kd.R_below (by (with_reducible repeat (first | apply Kd.R_alloc | apply Kd.R_drewN | apply Kd.R_drew)); exact HO_4.out) hb); have n1_ := Aside0.mk (blk_below (g := gb210) (o := .cells #[.int .i64 ((rd_T75 l0 0).f0.f0), .int .i64 ((rd_T75 l0 0).f0.f1), .int .i64 ((rd_T75 l0 0).f0.f2), .int .i64 ((rd_T75 l0 0).f0.f3), .int .i64 ((rd_T75 l0 0).f0.f4), .int .i64 ((rd_T75 l0 0).f0.f5), .int .i64 ((rd_T75 l0 0).f0.f6)] 23 (0, 0)) (by (with_reducible repeat (first | refine blk_drewN ?_ _ | refine blk_drew ?_ | refine blk_alloc ?_ _)); exact BK210.out) hb); have n2_ := Aside0.mk (below_step (by repeat (first | (with_reducible first | exact HB.out | apply below_alloc | apply pw_below_drewN | apply below_drew1 | refine below_set ?_ GE210.out) | exact HB.out)) hb); have n3_ := Aside0.mk (hbox); have n4_ := Aside0.mk ((by rw [hg]; exact (below_size (by repeat (first | (with_reducible first | exact HB.out | apply below_alloc | apply pw_below_drewN | apply below_drew1 | refine below_set ?_ GE210.out) | exact HB.out))) : w.heap.size ≤ gb230)); have n5_ := Aside0.mk ((by rw [hg]; exact (below_size (by repeat (first | (with_reducible first | exact HB.out | apply below_alloc | apply pw_below_drewN | apply below_drew1 | refine below_set ?_ GE210.out) | exact HB.out))) : w.heap.size ≤ gb230)); have n6_ := Aside0.mk ((by rw [hg]; exact Nat.ne_of_lt (blk_lt (g := gb210) (o := .cells #[.int .i64 ((rd_T75 l0 0).f0.f0), .int .i64 ((rd_T75 l0 0).f0.f1), .int .i64 ((rd_T75 l0 0).f0.f2), .int .i64 ((rd_T75 l0 0).f0.f3), .int .i64 ((rd_T75 l0 0).f0.f4), .int .i64 ((rd_T75 l0 0).f0.f5), .int .i64 ((rd_T75 l0 0).f0.f6)] 23 (0, 0)) (by (with_reducible repeat (first | refine blk_drewN ?_ _ | refine blk_drew ?_ | refine blk_alloc ?_ _)); exact BK210.out)) : gb210 ≠ gb230)); have n7_ := Aside0.mk ((by rw [hg]; exact Nat.ne_of_gt (blk_lt (g := gb210) (o := .cells #[.int .i64 ((rd_T75 l0 0).f0.f0), .int .i64 ((rd_T75 l0 0).f0.f1), .int .i64 ((rd_T75 l0 0).f0.f2), .int .i64 ((rd_T75 l0 0).f0.f3), .int .i64 ((rd_T75 l0 0).f0.f4), .int .i64 ((rd_T75 l0 0).f0.f5), .int .i64 ((rd_T75 l0 0).f0.f6)] 23 (0, 0)) (by (with_reducible repeat (first | refine blk_drewN ?_ _ | refine blk_drew ?_ | refine blk_alloc ?_ _)); exact BK210.out)) : gb230 ≠ gb210)); clear HO_4; clear BK210; clear HB; have HO_4 := n0_; have BK210 := n1_; have HB := n2_; have BK230 := n3_; have GW230 := n4_; have GE230 := n5_; have NB210_230 := n6_; have NB230_210 := n7_; clear n0_ n1_ n2_ n3_ n4_ n5_ n6_ n7_; clear hb hbox hg; have hnb25 := NB230_210.out; have hnc25 := NB210_230.out; have hz26 := bx4 BK230.out; obtain ⟨Ao27, co27, eo27⟩ := Kd.R_slice HO_4.out; subst eo27) | (go_at_call 35; (with_reducible refine (seal_Put.calls k3 _ _ x4_3 (((rd_T82 (sel2 ((rd_T75 l0 0).f1) ((rd_T75 l0 0).f2) x54_2) x59_3).f0.f0) % 4294967296) 4 t231 _ ?side1 ?side2 A22.out).mono ?_); (case side1 => refine (Kd.R_reads' (e := 5) (base := w.heap.size) (ok := fun k_ => True) (n := x4_3.length) (c := co27) ?_).2.2; exact (by (with_reducible repeat (first | apply Kd.R_alloc | apply Kd.R_drewN | apply Kd.R_drew)); exact (Kd.R_mono (Kd.R_far (p := ⟨gb230, 3, none⟩) (Kd.R_far (p := ⟨gb230, 2, none⟩) (Kd.R_far (p := ⟨gb230, 1, none⟩) (Kd.R_far (p := ⟨gb230, 0, none⟩) (Kd.R_types HO_4.out BK230.out (by decide)) (fun _ hk => hk.2) (.int .i32 ((rd_T82 (sel2 ((rd_T75 l0 0).f1) ((rd_T75 l0 0).f2) x54_2) x59_3).f0.f0))) (fun _ hk => hk.2) (.int .u32 ((rd_T82 (sel2 ((rd_T75 l0 0).f1) ((rd_T75 l0 0).f2) x54_2) x59_3).f0.f1))) (fun _ hk => hk.2) (.slice A229_2 ((rd_T82 (sel2 ((rd_T75 l0 0).f1) ((rd_T75 l0 0).f2) x54_2) x59_3).f0.f2).length c229_2)) (fun _ hk => hk.2) (.slice A229_3 ((rd_T82 (sel2 ((rd_T75 l0 0).f1) ((rd_T75 l0 0).f2) x54_2) x59_3).f1).length c229_3)) (fun _ h_ => h_.1)))); (case side2 => exact (Kd.R_reads' HO_4.out).2.1); rintro e w28 ⟨v232, rfl, ho0, hb⟩; have n0_ := Aside0.mk (Kd.R_elder' (by (with_reducible repeat (first | apply Kd.R_alloc | apply Kd.R_drewN | apply Kd.R_drew)); exact (Kd.R_mono (Kd.R_far (p := ⟨gb230, 3, none⟩) (Kd.R_far (p := ⟨gb230, 2, none⟩) (Kd.R_far (p := ⟨gb230, 1, none⟩) (Kd.R_far (p := ⟨gb230, 0, none⟩) (Kd.R_types HO_4.out BK230.out (by decide)) (fun _ hk => hk.2) (.int .i32 ((rd_T82 (sel2 ((rd_T75 l0 0).f1) ((rd_T75 l0 0).f2) x54_2) x59_3).f0.f0))) (fun _ hk => hk.2) (.int .u32 ((rd_T82 (sel2 ((rd_T75 l0 0).f1) ((rd_T75 l0 0).f2) x54_2) x59_3).f0.f1))) (fun _ hk => hk.2) (.slice A229_2 ((rd_T82 (sel2 ((rd_T75 l0 0).f1) ((rd_T75 l0 0).f2) x54_2) x59_3).f0.f2).length c229_2)) (fun _ hk => hk.2) (.slice A229_3 ((rd_T82 (sel2 ((rd_T75 l0 0).f1) ((rd_T75 l0 0).f2) x54_2) x59_3).f1).length c229_3)) (fun _ h_ => h_.1))) (Kd.R_base ho0) hb); have n1_ := Aside0.mk (Kd.R_lower (Kd.R_new' ho0 (Kd.R_lt (by (with_reducible repeat (first | apply Kd.R_alloc | apply Kd.R_drewN | apply Kd.R_drew)); exact (Kd.R_mono (Kd.R_far (p := ⟨gb230, 3, none⟩) (Kd.R_far (p := ⟨gb230, 2, none⟩) (Kd.R_far (p := ⟨gb230, 1, none⟩) (Kd.R_far (p := ⟨gb230, 0, none⟩) (Kd.R_types HO_4.out BK230.out (by decide)) (fun _ hk => hk.2) (.int .i32 ((rd_T82 (sel2 ((rd_T75 l0 0).f1) ((rd_T75 l0 0).f2) x54_2) x59_3).f0.f0))) (fun _ hk => hk.2) (.int .u32 ((rd_T82 (sel2 ((rd_T75 l0 0).f1) ((rd_T75 l0 0).f2) x54_2) x59_3).f0.f1))) (fun _ hk => hk.2) (.slice A229_2 ((rd_T82 (sel2 ((rd_T75 l0 0).f1) ((rd_T75 l0 0).f2) x54_2) x59_3).f0.f2).length c229_2)) (fun _ hk => hk.2) (.slice A229_3 ((rd_T82 (sel2 ((rd_T75 l0 0).f1) ((rd_T75 l0 0).f2) x54_2) x59_3).f1).length c229_3)) (fun _ h_ => h_.1))))) (below_size (by repeat (first | (with_reducible first | exact HB.out | apply below_alloc | apply pw_below_drewN | apply below_drew1 | refine below_set ?_ GE210.out | refine below_set ?_ GE230.out) | exact HB.out)))); have n2_ := Aside0.mk (blk_below (g := gb210) (o := .cells #[.int .i64 ((rd_T75 l0 0).f0.f0), .int .i64 ((rd_T75 l0 0).f0.f1), .int .i64 ((rd_T75 l0 0).f0.f2), .int .i64 ((rd_T75 l0 0).f0.f3), .int .i64 ((rd_T75 l0 0).f0.f4), .int .i64 ((rd_T75 l0 0).f0.f5), .int .i64 ((rd_T75 l0 0).f0.f6)] 23 (0, 0)) (by (with_reducible repeat (first | refine blk_drewN ?_ _ | refine blk_drew ?_ | refine blk_alloc ?_ _)); refine blk_far ?_ NB210_230.out _; (with_reducible repeat (first | refine blk_drewN ?_ _ | refine blk_drew ?_ | refine blk_alloc ?_ _)); refine blk_far ?_ NB210_230.out _; (with_reducible repeat (first | refine blk_drewN ?_ _ | refine blk_drew ?_ | refine blk_alloc ?_ _)); refine blk_far ?_ NB210_230.out _; (with_reducible repeat (first | refine blk_drewN ?_ _ | refine blk_drew ?_ | refine blk_alloc ?_ _)); refine blk_far ?_ NB210_230.out _; (with_reducible repeat (first | refine blk_drewN ?_ _ | refine blk_drew ?_ | refine blk_alloc ?_ _)); exact BK210.out) hb); have n3_ := Aside0.mk (blk_below (g := gb230) (o := .cells #[.int .i32 ((rd_T82 (sel2 ((rd_T75 l0 0).f1) ((rd_T75 l0 0).f2) x54_2) x59_3).f0.f0), .int .u32 ((rd_T82 (sel2 ((rd_T75 l0 0).f1) ((rd_T75 l0 0).f2) x54_2) x59_3).f0.f1), .slice A229_2 ((rd_T82 (sel2 ((rd_T75 l0 0).f1) ((rd_T75 l0 0).f2) x54_2) x59_3).f0.f2).length c229_2, .slice A229_3 ((rd_T82 (sel2 ((rd_T75 l0 0).f1) ((rd_T75 l0 0).f2) x54_2) x59_3).f1).length c229_3] 82 (0, 0)) (by (with_reducible repeat (first | refine blk_drewN ?_ _ | refine blk_drew ?_ | refine blk_alloc ?_ _)); refine blk_put (cs := #[.int .i32 ((rd_T82 (sel2 ((rd_T75 l0 0).f1) ((rd_T75 l0 0).f2) x54_2) x59_3).f0.f0), .int .u32 ((rd_T82 (sel2 ((rd_T75 l0 0).f1) ((rd_T75 l0 0).f2) x54_2) x59_3).f0.f1), .slice A229_2 ((rd_T82 (sel2 ((rd_T75 l0 0).f1) ((rd_T75 l0 0).f2) x54_2) x59_3).f0.f2).length c229_2, .slice none 0 0]) ?_ 3 _ rfl; (with_reducible repeat (first | refine blk_drewN ?_ _ | refine blk_drew ?_ | refine blk_alloc ?_ _)); refine blk_put (cs := #[.int .i32 ((rd_T82 (sel2 ((rd_T75 l0 0).f1) ((rd_T75 l0 0).f2) x54_2) x59_3).f0.f0), .int .u32 ((rd_T82 (sel2 ((rd_T75 l0 0).f1) ((rd_T75 l0 0).f2) x54_2) x59_3).f0.f1), .slice none 0 0, .slice none 0 0]) ?_ 2 _ rfl; (with_reducible repeat (first | refine blk_drewN ?_ _ | refine blk_drew ?_ | refine blk_alloc ?_ _)); refine blk_put (cs := #[.int .i32 ((rd_T82 (sel2 ((rd_T75 l0 0).f1) ((rd_T75 l0 0).f2) x54_2) x59_3).f0.f0), .int .u32 0, .slice none 0 0, .slice none 0 0]) ?_ 1 _ rfl; (with_reducible repeat (first | refine blk_drewN ?_ _ | refine blk_drew ?_ | refine blk_alloc ?_ _)); refine blk_put (cs := #[.int .i32 0, .int .u32 0, .slice none 0 0, .slice none 0 0]) ?_ 0 _ rfl; (with_reducible repeat (first | refine blk_drewN ?_ _ | refine blk_drew ?_ | refine blk_alloc ?_ _)); exact BK230.out) hb); have n4_ := Aside0.mk (below_step (by repeat (first | (with_reducible first | exact HB.out | apply below_alloc | apply pw_below_drewN | apply below_drew1 | refine below_set ?_ GE210.out | refine below_set ?_ GE230.out) | exact HB.out)) hb); clear HO_4; clear BK210; clear BK230; clear HB; have HO_4 := n0_; have HO233 := n1_; have BK210 := n2_; have BK230 := n3_; have HB := n4_; clear n0_ n1_ n2_ n3_ n4_; (try clear hb); (try clear hb2); (try clear hk); (try clear hi); (try clear ho0); have hz29 := bx4 BK230.out; obtain ⟨Ao30, co30, eo30⟩ := Kd.R_slice HO233.out; subst eo30) | (go_at_call 35; (with_reducible refine (seal_Put.calls k3 _ _ t231 (IntKind.u64.wrap ((rd_T82 (sel2 ((rd_T75 l0 0).f1) ((rd_T75 l0 0).f2) x54_2) x59_3).f0.f1)) 4 t234 _ ?side1 ?side2 A23.out).mono ?_); (case side1 => repeat (first | exact (Kd.R_reads' HO233.out).2.2 | (with_reducible refine Kd.C_alloc ?_ _) | (with_reducible refine Kd.C_drewN ?_ _) | (with_reducible refine Kd.C_drew ?_))); (case side2 => exact (Kd.R_reads' HO233.out).2.1); rintro e w31 ⟨v235, rfl, ho0, hb⟩; have n0_ := Aside0.mk (Kd.R_elder' (by (with_reducible repeat (first | apply Kd.R_alloc | apply Kd.R_drewN | apply Kd.R_drew)); exact HO_4.out) (Kd.R_base ho0) hb); have n1_ := Aside0.mk (Kd.R_elder' (by (with_reducible repeat (first | apply Kd.R_alloc | apply Kd.R_drewN | apply Kd.R_drew)); exact HO233.out) (Kd.R_base ho0) hb); have n2_ := Aside0.mk (Kd.R_lower (Kd.R_new' (Kd.R_new' ho0 (Kd.R_lt (by (with_reducible repeat (first | apply Kd.R_alloc | apply Kd.R_drewN | apply Kd.R_drew)); exact HO_4.out))) (Kd.R_lt (by (with_reducible repeat (first | apply Kd.R_alloc | apply Kd.R_drewN | apply Kd.R_drew)); exact HO233.out))) (below_size (by repeat (first | (with_reducible first | exact HB.out | apply below_alloc | apply pw_below_drewN | apply below_drew1 | refine below_set ?_ GE210.out | refine below_set ?_ GE230.out) | exact HB.out)))); have n3_ := Aside0.mk (blk_below (g := gb210) (o := .cells #[.int .i64 ((rd_T75 l0 0).f0.f0), .int .i64 ((rd_T75 l0 0).f0.f1), .int .i64 ((rd_T75 l0 0).f0.f2), .int .i64 ((rd_T75 l0 0).f0.f3), .int .i64 ((rd_T75 l0 0).f0.f4), .int .i64 ((rd_T75 l0 0).f0.f5), .int .i64 ((rd_T75 l0 0).f0.f6)] 23 (0, 0)) (by (with_reducible repeat (first | refine blk_drewN ?_ _ | refine blk_drew ?_ | refine blk_alloc ?_ _)); exact BK210.out) hb); have n4_ := Aside0.mk (blk_below (g := gb230) (o := .cells #[.int .i32 ((rd_T82 (sel2 ((rd_T75 l0 0).f1) ((rd_T75 l0 0).f2) x54_2) x59_3).f0.f0), .int .u32 ((rd_T82 (sel2 ((rd_T75 l0 0).f1) ((rd_T75 l0 0).f2) x54_2) x59_3).f0.f1), .slice A229_2 ((rd_T82 (sel2 ((rd_T75 l0 0).f1) ((rd_T75 l0 0).f2) x54_2) x59_3).f0.f2).length c229_2, .slice A229_3 ((rd_T82 (sel2 ((rd_T75 l0 0).f1) ((rd_T75 l0 0).f2) x54_2) x59_3).f1).length c229_3] 82 (0, 0)) (by (with_reducible repeat (first | refine blk_drewN ?_ _ | refine blk_drew ?_ | refine blk_alloc ?_ _)); exact BK230.out) hb); have n5_ := Aside0.mk (below_step (by repeat (first | (with_reducible first | exact HB.out | apply below_alloc | apply pw_below_drewN | apply below_drew1 | refine below_set ?_ GE210.out | refine below_set ?_ GE230.out) | exact HB.out)) hb); clear HO_4; clear HO233; clear BK210; clear BK230; clear HB; have HO_4 := n0_; have HO233 := n1_; have HO236 := n2_; have BK210 := n3_; have BK230 := n4_; have HB := n5_; clear n0_ n1_ n2_ n3_ n4_ n5_; (try clear hb); (try clear hb2); (try clear hk); (try clear hi); (try clear ho0); have hz32 := bx4 BK230.out)); try go_wp2_with (first | ((with_reducible refine gate_dst (N := 10) rfl ?_); refine box_event ?hg (N := 10) ?hd (cs := #[.int .i32 0, .int .u32 0, .slice none 0 0, .slice none 0 0]) (t := 82) ?hr ?_; (case hd => rfl); (case hg => rfl); (case hr => first | (go_simp; done) | (go_simp; rfl)); intro gb230 hg w24 hbox hb; replace HO_4 := Aside0.mk (Kd.R_below (by (with_reducible repeat (first | apply Kd.R_alloc | apply Kd.R_drewN | apply Kd.R_drew)); exact HO_4.out) hb); have BK230 := Aside0.mk (hbox); have GW230 := Aside0.mk ((by rw [hg]; exact (below_size (by repeat (first | (with_reducible first | exact HB.out | apply below_alloc | apply pw_below_drewN | apply below_drew1 | refine below_set ?_ GE210.out) | exact HB.out))) : w.heap.size ≤ gb230)); have GE230 := Aside0.mk ((by rw [hg]; exact (below_size (by repeat (first | (with_reducible first | exact HB.out | apply below_alloc | apply pw_below_drewN | apply below_drew1 | refine below_set ?_ GE210.out) | exact HB.out))) : w.heap.size ≤ gb230)); replace HB := Aside0.mk (below_step (by repeat (first | (with_reducible first | exact HB.out | apply below_alloc | apply pw_below_drewN | apply below_drew1 | refine below_set ?_ GE210.out) | exact HB.out)) hb); have NB210_230 := Aside0.mk ((by rw [hg]; exact Nat.ne_of_lt (blk_lt (g := gb210) (o := .cells #[.int .i64 ((rd_T75 l0 0).f0.f0), .int .i64 ((rd_T75 l0 0).f0.f1), .int .i64 ((rd_T75 l0 0).f0.f2), .int .i64 ((rd_T75 l0 0).f0.f3), .int .i64 ((rd_T75 l0 0).f0.f4), .int .i64 ((rd_T75 l0 0).f0.f5), .int .i64 ((rd_T75 l0 0).f0.f6)] 23 (0, 0)) (by (with_reducible repeat (first | refine blk_drewN ?_ _ | refine blk_drew ?_ | refine blk_alloc ?_ _)); exact BK210.out)) : gb210 ≠ gb230)); have NB230_210 := Aside0.mk ((by rw [hg]; exact Nat.ne_of_gt (blk_lt (g := gb210) (o := .cells #[.int .i64 ((rd_T75 l0 0).f0.f0), .int .i64 ((rd_T75 l0 0).f0.f1), .int .i64 ((rd_T75 l0 0).f0.f2), .int .i64 ((rd_T75 l0 0).f0.f3), .int .i64 ((rd_T75 l0 0).f0.f4), .int .i64 ((rd_T75 l0 0).f0.f5), .int .i64 ((rd_T75 l0 0).f0.f6)] 23 (0, 0)) (by (with_reducible repeat (first | refine blk_drewN ?_ _ | refine blk_drew ?_ | refine blk_alloc ?_ _)); exact BK210.out)) : gb230 ≠ gb210)); replace BK210 := Aside0.mk (blk_below (g := gb210) (o := .cells #[.int .i64 ((rd_T75 l0 0).f0.f0), .int .i64 ((rd_T75 l0 0).f0.f1), .int .i64 ((rd_T75 l0 0).f0.f2), .int .i64 ((rd_T75 l0 0).f0.f3), .int .i64 ((rd_T75 l0 0).f0.f4), .int .i64 ((rd_T75 l0 0).f0.f5), .int .i64 ((rd_T75 l0 0).f0.f6)] 23 (0, 0)) (by (with_reducible repeat (first | refine blk_drewN ?_ _ | refine blk_drew ?_ | refine blk_alloc ?_ _)); exact BK210.out) hb); clear hb hbox hg; have hnb25 := NB230_210.out; have hnc25 := NB210_230.out; have hz26 := bx4 BK230.out; obtain ⟨Ao27, co27, eo27⟩ := Kd.R_slice HO_4.out; subst eo27) | (go_at_call 35; (with_reducible refine (seal_Put.calls k3 _ _ x4_3 (((rd_T82 (sel2 ((rd_T75 l0 0).f1) ((rd_T75 l0 0).f2) x54_2) x59_3).f0.f0) % 4294967296) 4 t231 _ ?side1 ?side2 A22.out).mono ?_); (case side1 => refine (Kd.R_reads' (e := 5) (base := w.heap.size) (ok := fun k_ => True) (n := x4_3.length) (c := co27) ?_).2.2; exact (by (with_reducible repeat (first | apply Kd.R_alloc | apply Kd.R_drewN | apply Kd.R_drew)); exact (Kd.R_mono (Kd.R_far (p := ⟨gb230, 3, none⟩) (Kd.R_far (p := ⟨gb230, 2, none⟩) (Kd.R_far (p := ⟨gb230, 1, none⟩) (Kd.R_far (p := ⟨gb230, 0, none⟩) (Kd.R_types HO_4.out BK230.out (by decide)) (fun _ hk => hk.2) (.int .i32 ((rd_T82 (sel2 ((rd_T75 l0 0).f1) ((rd_T75 l0 0).f2) x54_2) x59_3).f0.f0))) (fun _ hk => hk.2) (.int .u32 ((rd_T82 (sel2 ((rd_T75 l0 0).f1) ((rd_T75 l0 0).f2) x54_2) x59_3).f0.f1))) (fun _ hk => hk.2) (.slice A229_2 ((rd_T82 (sel2 ((rd_T75 l0 0).f1) ((rd_T75 l0 0).f2) x54_2) x59_3).f0.f2).length c229_2)) (fun _ hk => hk.2) (.slice A229_3 ((rd_T82 (sel2 ((rd_T75 l0 0).f1) ((rd_T75 l0 0).f2) x54_2) x59_3).f1).length c229_3)) (fun _ h_ => h_.1)))); (case side2 => exact (Kd.R_reads' HO_4.out).2.1); rintro e w28 ⟨v232, rfl, ho0, hb⟩; have HO233 := Aside0.mk (Kd.R_lower (Kd.R_new' ho0 (Kd.R_lt (by (with_reducible repeat (first | apply Kd.R_alloc | apply Kd.R_drewN | apply Kd.R_drew)); exact (Kd.R_mono (Kd.R_far (p := ⟨gb230, 3, none⟩) (Kd.R_far (p := ⟨gb230, 2, none⟩) (Kd.R_far (p := ⟨gb230, 1, none⟩) (Kd.R_far (p := ⟨gb230, 0, none⟩) (Kd.R_types HO_4.out BK230.out (by decide)) (fun _ hk => hk.2) (.int .i32 ((rd_T82 (sel2 ((rd_T75 l0 0).f1) ((rd_T75 l0 0).f2) x54_2) x59_3).f0.f0))) (fun _ hk => hk.2) (.int .u32 ((rd_T82 (sel2 ((rd_T75 l0 0).f1) ((rd_T75 l0 0).f2) x54_2) x59_3).f0.f1))) (fun _ hk => hk.2) (.slice A229_2 ((rd_T82 (sel2 ((rd_T75 l0 0).f1) ((rd_T75 l0 0).f2) x54_2) x59_3).f0.f2).length c229_2)) (fun _ hk => hk.2) (.slice A229_3 ((rd_T82 (sel2 ((rd_T75 l0 0).f1) ((rd_T75 l0 0).f2) x54_2) x59_3).f1).length c229_3)) (fun _ h_ => h_.1))))) (below_size (by repeat (first | (with_reducible first | exact HB.out | apply below_alloc | apply pw_below_drewN | apply below_drew1 | refine below_set ?_ GE210.out | refine below_set ?_ GE230.out) | exact HB.out)))); replace HO_4 := Aside0.mk (Kd.R_elder' (by (with_reducible repeat (first | apply Kd.R_alloc | apply Kd.R_drewN | apply Kd.R_drew)); exact (Kd.R_mono (Kd.R_far (p := ⟨gb230, 3, none⟩) (Kd.R_far (p := ⟨gb230, 2, none⟩) (Kd.R_far (p := ⟨gb230, 1, none⟩) (Kd.R_far (p := ⟨gb230, 0, none⟩) (Kd.R_types HO_4.out BK230.out (by decide)) (fun _ hk => hk.2) (.int .i32 ((rd_T82 (sel2 ((rd_T75 l0 0).f1) ((rd_T75 l0 0).f2) x54_2) x59_3).f0.f0))) (fun _ hk => hk.2) (.int .u32 ((rd_T82 (sel2 ((rd_T75 l0 0).f1) ((rd_T75 l0 0).f2) x54_2) x59_3).f0.f1))) (fun _ hk => hk.2) (.slice A229_2 ((rd_T82 (sel2 ((rd_T75 l0 0).f1) ((rd_T75 l0 0).f2) x54_2) x59_3).f0.f2).length c229_2)) (fun _ hk => hk.2) (.slice A229_3 ((rd_T82 (sel2 ((rd_T75 l0 0).f1) ((rd_T75 l0 0).f2) x54_2) x59_3).f1).length c229_3)) (fun _ h_ => h_.1))) (Kd.R_base ho0) hb); replace BK210 := Aside0.mk (blk_below (g := gb210) (o := .cells #[.int .i64 ((rd_T75 l0 0).f0.f0), .int .i64 ((rd_T75 l0 0).f0.f1), .int .i64 ((rd_T75 l0 0).f0.f2), .int .i64 ((rd_T75 l0 0).f0.f3), .int .i64 ((rd_T75 l0 0).f0.f4), .int .i64 ((rd_T75 l0 0).f0.f5), .int .i64 ((rd_T75 l0 0).f0.f6)] 23 (0, 0)) (by (with_reducible repeat (first | refine blk_drewN ?_ _ | refine blk_drew ?_ | refine blk_alloc ?_ _)); refine blk_far ?_ NB210_230.out _; (with_reducible repeat (first | refine blk_drewN ?_ _ | refine blk_drew ?_ | refine blk_alloc ?_ _)); refine blk_far ?_ NB210_230.out _; (with_reducible repeat (first | refine blk_drewN ?_ _ | refine blk_drew ?_ | refine blk_alloc ?_ _)); refine blk_far ?_ NB210_230.out _; (with_reducible repeat (first | refine blk_drewN ?_ _ | refine blk_drew ?_ | refine blk_alloc ?_ _)); refine blk_far ?_ NB210_230.out _; (with_reducible repeat (first | refine blk_drewN ?_ _ | refine blk_drew ?_ | refine blk_alloc ?_ _)); exact BK210.out) hb); replace BK230 := Aside0.mk (blk_below (g := gb230) (o := .cells #[.int .i32 ((rd_T82 (sel2 ((rd_T75 l0 0).f1) ((rd_T75 l0 0).f2) x54_2) x59_3).f0.f0), .int .u32 ((rd_T82 (sel2 ((rd_T75 l0 0).f1) ((rd_T75 l0 0).f2) x54_2) x59_3).f0.f1), .slice A229_2 ((rd_T82 (sel2 ((rd_T75 l0 0).f1) ((rd_T75 l0 0).f2) x54_2) x59_3).f0.f2).length c229_2, .slice A229_3 ((rd_T82 (sel2 ((rd_T75 l0 0).f1) ((rd_T75 l0 0).f2) x54_2) x59_3).f1).length c229_3] 82 (0, 0)) (by (with_reducible repeat (first | refine blk_drewN ?_ _ | refine blk_drew ?_ | refine blk_alloc ?_ _)); refine blk_put (cs := #[.int .i32 ((rd_T82 (sel2 ((rd_T75 l0 0).f1) ((rd_T75 l0 0).f2) x54_2) x59_3).f0.f0), .int .u32 ((rd_T82 (sel2 ((rd_T75 l0 0).f1) ((rd_T75 l0 0).f2) x54_2) x59_3).f0.f1), .slice A229_2 ((rd_T82 (sel2 ((rd_T75 l0 0).f1) ((rd_T75 l0 0).f2) x54_2) x59_3).f0.f2).length c229_2, .slice none 0 0]) ?_ 3 _ rfl; (with_reducible repeat (first | refine blk_drewN ?_ _ | refine blk_drew ?_ | refine blk_alloc ?_ _)); refine blk_put (cs := #[.int .i32 ((rd_T82 (sel2 ((rd_T75 l0 0).f1) ((rd_T75 l0 0).f2) x54_2) x59_3).f0.f0), .int .u32 ((rd_T82 (sel2 ((rd_T75 l0 0).f1) ((rd_T75 l0 0).f2) x54_2) x59_3).f0.f1), .slice none 0 0, .slice none 0 0]) ?_ 2 _ rfl; (with_reducible repeat (first | refine blk_drewN ?_ _ | refine blk_drew ?_ | refine blk_alloc ?_ _)); refine blk_put (cs := #[.int .i32 ((rd_T82 (sel2 ((rd_T75 l0 0).f1) ((rd_T75 l0 0).f2) x54_2) x59_3).f0.f0), .int .u32 0, .slice none 0 0, .slice none 0 0]) ?_ 1 _ rfl; (with_reducible repeat (first | refine blk_drewN ?_ _ | refine blk_drew ?_ | refine blk_alloc ?_ _)); refine blk_put (cs := #[.int .i32 0, .int .u32 0, .slice none 0 0, .slice none 0 0]) ?_ 0 _ rfl; (with_reducible repeat (first | refine blk_drewN ?_ _ | refine blk_drew ?_ | refine blk_alloc ?_ _)); exact BK230.out) hb); replace HB := Aside0.mk (below_step (by repeat (first | (with_reducible first | exact HB.out | apply below_alloc | apply pw_below_drewN | apply below_drew1 | refine below_set ?_ GE210.out | refine below_set ?_ GE230.out) | exact HB.out)) hb); clear hb ho0; have hz29 := bx4 BK230.out; obtain ⟨Ao30, co30, eo30⟩ := Kd.R_slice HO233.out; subst eo30) | (go_at_call 35; (with_reducible refine (seal_Put.calls k3 _ _ t231 (IntKind.u64.wrap ((rd_T82 (sel2 ((rd_T75 l0 0).f1) ((rd_T75 l0 0).f2) x54_2) x59_3).f0.f1)) 4 t234 _ ?side1 ?side2 A23.out).mono ?_); (case side1 => repeat (first | exact (Kd.R_reads' HO233.out).2.2 | (with_reducible refine Kd.C_alloc ?_ _) | (with_reducible refine Kd.C_drewN ?_ _) | (with_reducible refine Kd.C_drew ?_))); (case side2 => exact (Kd.R_reads' HO233.out).2.1); rintro e w31 ⟨v235, rfl, ho0, hb⟩; have HO236 := Aside0.mk (Kd.R_lower (Kd.R_new' (Kd.R_new' ho0 (Kd.R_lt (by (with_reducible repeat (first | apply Kd.R_alloc | apply Kd.R_drewN | apply Kd.R_drew)); exact HO_4.out))) (Kd.R_lt (by (with_reducible repeat (first | apply Kd.R_alloc | apply Kd.R_drewN | apply Kd.R_drew)); exact HO233.out))) (below_size (by repeat (first | (with_reducible first | exact HB.out | apply below_alloc | apply pw_below_drewN | apply below_drew1 | refine below_set ?_ GE210.out | refine below_set ?_ GE230.out) | exact HB.out)))); replace HO_4 := Aside0.mk (Kd.R_elder' (by (with_reducible repeat (first | apply Kd.R_alloc | apply Kd.R_drewN | apply Kd.R_drew)); exact HO_4.out) (Kd.R_base ho0) hb); replace HO233 := Aside0.mk (Kd.R_elder' (by (with_reducible repeat (first | apply Kd.R_alloc | apply Kd.R_drewN | apply Kd.R_drew)); exact HO233.out) (Kd.R_base ho0) hb); replace BK210 := Aside0.mk (blk_below (g := gb210) (o := .cells #[.int .i64 ((rd_T75 l0 0).f0.f0), .int .i64 ((rd_T75 l0 0).f0.f1), .int .i64 ((rd_T75 l0 0).f0.f2), .int .i64 ((rd_T75 l0 0).f0.f3), .int .i64 ((rd_T75 l0 0).f0.f4), .int .i64 ((rd_T75 l0 0).f0.f5), .int .i64 ((rd_T75 l0 0).f0.f6)] 23 (0, 0)) (by (with_reducible repeat (first | refine blk_drewN ?_ _ | refine blk_drew ?_ | refine blk_alloc ?_ _)); exact BK210.out) hb); replace BK230 := Aside0.mk (blk_below (g := gb230) (o := .cells #[.int .i32 ((rd_T82 (sel2 ((rd_T75 l0 0).f1) ((rd_T75 l0 0).f2) x54_2) x59_3).f0.f0), .int .u32 ((rd_T82 (sel2 ((rd_T75 l0 0).f1) ((rd_T75 l0 0).f2) x54_2) x59_3).f0.f1), .slice A229_2 ((rd_T82 (sel2 ((rd_T75 l0 0).f1) ((rd_T75 l0 0).f2) x54_2) x59_3).f0.f2).length c229_2, .slice A229_3 ((rd_T82 (sel2 ((rd_T75 l0 0).f1) ((rd_T75 l0 0).f2) x54_2) x59_3).f1).length c229_3] 82 (0, 0)) (by (with_reducible repeat (first | refine blk_drewN ?_ _ | refine blk_drew ?_ | refine blk_alloc ?_ _)); exact BK230.out) hb); replace HB := Aside0.mk (below_step (by repeat (first | (with_reducible first | exact HB.out | apply below_alloc | apply pw_below_drewN | apply below_drew1 | refine below_set ?_ GE210.out | refine below_set ?_ GE230.out) | exact HB.out)) hb); clear hb ho0; have hz32 := bx4 BK230.out)))
          go_loopg [4, 79] k3 (fun kq v4 v79 w' => ∃ (x4_4 : List Int) (x79_4 : Int), v79 = .int .i64 x79_4 ∧ Aside0 (page_Page_Bytes.l3 kq x4_4 x54_2 (sel2 ((rd_T75 l0 0).f1) ((rd_T75 l0 0).f2) x54_2) ((sel2 ((rd_T75 l0 0).f1) ((rd_T75 l0 0).f2) x54_2).length : Int) x59_3 ((rd_T82 (sel2 ((rd_T75 l0 0).f1) ((rd_T75 l0 0).f2) x54_2) x59_3).f1) (((rd_T82 (sel2 ((rd_T75 l0 0).f1) ((rd_T75 l0 0).f2) x54_2) x59_3).f1).length : Int) x79_4 ((rd_T75 l0 0).f1) ((rd_T75 l0 0).f2) = some r) ∧ Aside0 (kq ≤ k3) ∧ Aside0 (Kd.R (Kd.int .u8) 5 w' w.heap.size (fun _ => True) v4 x4_4) ∧ Aside0 (w'.heap[gb210]? = some (.cells #[.int .i64 ((rd_T75 l0 0).f0.f0), .int .i64 ((rd_T75 l0 0).f0.f1), .int .i64 ((rd_T75 l0 0).f0.f2), .int .i64 ((rd_T75 l0 0).f0.f3), .int .i64 ((rd_T75 l0 0).f0.f4), .int .i64 ((rd_T75 l0 0).f0.f5), .int .i64 ((rd_T75 l0 0).f0.f6)] 23 (0, 0))) ∧ Aside0 (w'.heap[gb230]? = some (.cells #[.int .i32 ((rd_T82 (sel2 ((rd_T75 l0 0).f1) ((rd_T75 l0 0).f2) x54_2) x59_3).f0.f0), .int .u32 ((rd_T82 (sel2 ((rd_T75 l0 0).f1) ((rd_T75 l0 0).f2) x54_2) x59_3).f0.f1), (.slice A229_2 ((rd_T82 (sel2 ((rd_T75 l0 0).f1) ((rd_T75 l0 0).f2) x54_2) x59_3).f0.f2).length c229_2), (.slice A229_3 ((rd_T82 (sel2 ((rd_T75 l0 0).f1) ((rd_T75 l0 0).f2) x54_2) x59_3).f1).length c229_3)] 82 (0, 0))) ∧ Aside0 (Below w.heap.size w w'))
          case atStart => exact ⟨(t234), (0), (by first | rfl | (simp; done) | (simp [*]; done)), H', ⟨Nat.le_refl _⟩, ⟨by (with_reducible repeat (first | apply Kd.R_alloc | apply Kd.R_drewN | apply Kd.R_drew)); exact Kd.R_mono HO236.out (fun _ hk => trivial)⟩, ⟨by (with_reducible repeat (first | refine blk_drewN ?_ _ | refine blk_drew ?_ | refine blk_alloc ?_ _)); exact BK210.out⟩, ⟨by (with_reducible repeat (first | refine blk_drewN ?_ _ | refine blk_drew ?_ | refine blk_alloc ?_ _)); exact BK230.out⟩, ⟨by repeat (first | (with_reducible first | exact HB.out | apply below_alloc | apply pw_below_drewN | apply below_drew1 | refine below_set ?_ GE210.out | refine below_set ?_ GE230.out) | exact HB.out)⟩⟩
          case round =>
           clear H'
           try clear c1
           try clear c2
           try clear c2b0
           try clear c2b1
           try clear p2
           try clear q2
           try clear hx2
           try clear qi2
           try clear p6
           try clear c8
           try clear c8b0
           try clear c9
           try clear c9b0
           try clear c10
           try clear c13
           try clear c13b0
           try clear c13b1
           try clear c14
           try clear c17
           try clear c17b0
           try clear c18
           try clear c18b0
           try clear c19
           try clear c19b0
           try clear c20
           try clear c20b0
           try clear p20
           try clear q20
           try clear hx20
           try clear qi20
           try clear c21
           try clear c21b0
           try clear c22
           try clear p22
           try clear q22
           try clear hx22
           try clear qi22
           try clear c25
           try clear hz14
           try clear hz26
           try clear hz29
           try clear hz32
           try clear hz4
           try clear hz7
           try clear hx209_0
           try clear hx209_1
           try clear hx209_2
           try clear hx209_3
           try clear hx209_4
           try clear hx209_5
           try clear hx209_6
           try clear hx222_7
           try clear hx223_8
           try clear hx229_0
           try clear hx229_1
           try clear hx229_2
           try clear hx229_3
           try clear p2
           try clear p209
           try clear p222
           try clear p223
           try clear p229
           try clear p6
           try clear q2
           try clear q209
           try clear q222
           try clear q223
           try clear q229
           obtain ⟨x4_4, x79_4, rfl, HA, HK4, HO_4, BK210, BK230, HB⟩ := hrel
           cases gk with
           | zero => exact absurd HA.out (by simp [page_Page_Bytes.l3])
           | succ k4 =>
            have H := HA.out
            clear HA
            simp only [page_Page_Bytes.l3] at H
            by_cases c33 : x79_4 < (((rd_T82 (sel2 ((rd_T75 l0 0).f1) ((rd_T75 l0 0).f2) x54_2) x59_3).f1).length : Int)
            ·
             rw [if_pos c33] at H
             have c33b0 : decide (x79_4 < (((rd_T82 (sel2 ((rd_T75 l0 0).f1) ((rd_T75 l0 0).f2) x54_2) x59_3).f1).length : Int)) = true := decide_eq_true c33
             clear c33
             by_cases c34 : 0 ≤ x79_4
             case neg => (rw [if_neg c34] at H; exact absurd H (by simp))
             rw [if_pos c34] at H
             have c34b0 : decide (0 ≤ x79_4) = true := decide_eq_true c34
             clear c34
             by_cases c35 : x79_4 < (((rd_T82 (sel2 ((rd_T75 l0 0).f1) ((rd_T75 l0 0).f2) x54_2) x59_3).f1).length : Int)
             case neg => (rw [if_neg c35] at H; exact absurd H (by simp))
             rw [if_pos c35] at H
             have c35b0 : decide (x79_4 < (((rd_T82 (sel2 ((rd_T75 l0 0).f1) ((rd_T75 l0 0).f2) x54_2) x59_3).f1).length : Int)) = true := decide_eq_true c35
             clear c35
             replace H := Option.bind_eq_some_iff.mp H
             obtain ⟨t238, A360, H⟩ := H
             have A36 := Aside0.mk A360
             clear A360
             have H' := Aside0.mk H
             clear H
             have p237 : 0 ≤ (x79_4 : Int) := of_decide_eq_true (by first | (with_reducible assumption) | assumption)
             have q237 : x79_4 < (((rd_T82 (sel2 ((rd_T75 l0 0).f1) ((rd_T75 l0 0).f2) x54_2) x59_3).f1).length : Int) := of_decide_eq_true (by first | (with_reducible assumption) | assumption)
             obtain ⟨ad237, e237, hx237_0⟩ := Kd.at_int HR229_3.out x79_4 p237 q237
             cases e237
             replace hx237_0 := (HB.out.cell (World.block_lt_of_cell? w _ hx237_0)).trans hx237_0
             replace p237 := eq_true p237
             replace q237 := eq_true q237
             obtain ⟨Ao37, co37, eo37⟩ := Kd.R_slice HO_4.out
             subst eo37
             go_wp2_with (first | (go_at_call 35; (with_reducible refine (seal_Put.calls k4 _ _ x4_4 (rd ((rd_T82 (sel2 ((rd_T75 l0 0).f1) ((rd_T75 l0 0).f2) x54_2) x59_3).f1) x79_4) 8 t238 _ ?side1 ?side2 A36.out).mono ?_); (case side1 => repeat (first | exact (Kd.R_reads' HO_4.out).2.2 | (with_reducible refine Kd.C_alloc ?_ _) | (with_reducible refine Kd.C_drewN ?_ _) | (with_reducible refine Kd.C_drew ?_))); (case side2 => exact (Kd.R_reads' HO_4.out).2.1); rintro e w38 ⟨v239, rfl, ho0, hb⟩; have HO240 := Aside0.mk (Kd.R_lower (Kd.R_new' ho0 (Kd.R_lt (by (with_reducible repeat (first | apply Kd.R_alloc | apply Kd.R_drewN | apply Kd.R_drew)); exact HO_4.out))) (below_size (by repeat (first | (with_reducible first | exact HB.out | apply below_alloc | apply pw_below_drewN | apply below_drew1 | refine below_set ?_ GE210.out | refine below_set ?_ GE230.out) | exact HB.out)))); replace HO_4 := Aside0.mk (Kd.R_elder' (by (with_reducible repeat (first | apply Kd.R_alloc | apply Kd.R_drewN | apply Kd.R_drew)); exact HO_4.out) (Kd.R_base ho0) hb); replace BK210 := Aside0.mk (blk_below (g := gb210) (o := .cells #[.int .i64 ((rd_T75 l0 0).f0.f0), .int .i64 ((rd_T75 l0 0).f0.f1), .int .i64 ((rd_T75 l0 0).f0.f2), .int .i64 ((rd_T75 l0 0).f0.f3), .int .i64 ((rd_T75 l0 0).f0.f4), .int .i64 ((rd_T75 l0 0).f0.f5), .int .i64 ((rd_T75 l0 0).f0.f6)] 23 (0, 0)) (by (with_reducible repeat (first | refine blk_drewN ?_ _ | refine blk_drew ?_ | refine blk_alloc ?_ _)); exact BK210.out) hb); replace BK230 := Aside0.mk (blk_below (g := gb230) (o := .cells #[.int .i32 ((rd_T82 (sel2 ((rd_T75 l0 0).f1) ((rd_T75 l0 0).f2) x54_2) x59_3).f0.f0), .int .u32 ((rd_T82 (sel2 ((rd_T75 l0 0).f1) ((rd_T75 l0 0).f2) x54_2) x59_3).f0.f1), .slice A229_2 ((rd_T82 (sel2 ((rd_T75 l0 0).f1) ((rd_T75 l0 0).f2) x54_2) x59_3).f0.f2).length c229_2, .slice (some ad237) ((rd_T82 (sel2 ((rd_T75 l0 0).f1) ((rd_T75 l0 0).f2) x54_2) x59_3).f1).length c229_3] 82 (0, 0)) (by (with_reducible repeat (first | refine blk_drewN ?_ _ | refine blk_drew ?_ | refine blk_alloc ?_ _)); exact BK230.out) hb); replace HB := Aside0.mk (below_step (by repeat (first | (with_reducible first | exact HB.out | apply below_alloc | apply pw_below_drewN | apply below_drew1 | refine below_set ?_ GE210.out | refine below_set ?_ GE230.out) | exact HB.out)) hb); clear hb ho0))
             repeat (go_quiet (first | (go_at_call 35; (with_reducible refine (seal_Put.calls k4 _ _ x4_4 (rd ((rd_T82 (sel2 ((rd_T75 l0 0).f1) ((rd_T75 l0 0).f2) x54_2) x59_3).f1) x79_4) 8 t238 _ ?side1 ?side2 A36.out).mono ?_); (case side1 => repeat (first | exact (Kd.R_reads' HO_4.out).2.2 | (with_reducible refine Kd.C_alloc ?_ _) | (with_reducible refine Kd.C_drewN ?_ _) | (with_reducible refine Kd.C_drew ?_))); (case side2 => exact (Kd.R_reads' HO_4.out).2.1); rintro e w38 ⟨v239, rfl, ho0, hb⟩; have n0_ := Aside0.mk (Kd.R_elder' (by (with_reducible repeat (first | apply Kd.R_alloc | apply Kd.R_drewN | apply Kd.R_drew)); exact HO_4.out) (Kd.R_base ho0) hb); have n1_ := Aside0.mk (Kd.R_lower (Kd.R_new' ho0 (Kd.R_lt (by (with_reducible repeat (first | apply Kd.R_alloc | apply Kd.R_drewN | apply Kd.R_drew)); exact HO_4.out))) (below_size (by repeat (first | (with_reducible first | exact HB.out | apply below_alloc | apply pw_below_drewN | apply below_drew1 | refine below_set ?_ GE210.out | refine below_set ?_ GE230.out) | exact HB.out)))); have n2_ := Aside0.mk (blk_below (g := gb210) (o := .cells #[.int .i64 ((rd_T75 l0 0).f0.f0), .int .i64 ((rd_T75 l0 0).f0.f1), .int .i64 ((rd_T75 l0 0).f0.f2), .int .i64 ((rd_T75 l0 0).f0.f3), .int .i64 ((rd_T75 l0 0).f0.f4), .int .i64 ((rd_T75 l0 0).f0.f5), .int .i64 ((rd_T75 l0 0).f0.f6)] 23 (0, 0)) (by (with_reducible repeat (first | refine blk_drewN ?_ _ | refine blk_drew ?_ | refine blk_alloc ?_ _)); exact BK210.out) hb); have n3_ := Aside0.mk (blk_below (g := gb230) (o := .cells #[.int .i32 ((rd_T82 (sel2 ((rd_T75 l0 0).f1) ((rd_T75 l0 0).f2) x54_2) x59_3).f0.f0), .int .u32 ((rd_T82 (sel2 ((rd_T75 l0 0).f1) ((rd_T75 l0 0).f2) x54_2) x59_3).f0.f1), .slice A229_2 ((rd_T82 (sel2 ((rd_T75 l0 0).f1) ((rd_T75 l0 0).f2) x54_2) x59_3).f0.f2).length c229_2, .slice (some ad237) ((rd_T82 (sel2 ((rd_T75 l0 0).f1) ((rd_T75 l0 0).f2) x54_2) x59_3).f1).length c229_3] 82 (0, 0)) (by (with_reducible repeat (first | refine blk_drewN ?_ _ | refine blk_drew ?_ | refine blk_alloc ?_ _)); exact BK230.out) hb); have n4_ := Aside0.mk (below_step (by repeat (first | (with_reducible first | exact HB.out | apply below_alloc | apply pw_below_drewN | apply below_drew1 | refine below_set ?_ GE210.out | refine below_set ?_ GE230.out) | exact HB.out)) hb); clear HO_4; clear BK210; clear BK230; clear HB; have HO_4 := n0_; have HO240 := n1_; have BK210 := n2_; have BK230 := n3_; have HB := n4_; clear n0_ n1_ n2_ n3_ n4_; (try clear hb); (try clear hb2); (try clear hk); (try clear hi); (try clear ho0))); try go_wp2_with (first | (go_at_call 35; (with_reducible refine (seal_Put.calls k4 _ _ x4_4 (rd ((rd_T82 (sel2 ((rd_T75 l0 0).f1) ((rd_T75 l0 0).f2) x54_2) x59_3).f1) x79_4) 8 t238 _ ?side1 ?side2 A36.out).mono ?_); (case side1 => repeat (first | exact (Kd.R_reads' HO_4.out).2.2 | (with_reducible refine Kd.C_alloc ?_ _) | (with_reducible refine Kd.C_drewN ?_ _) | (with_reducible refine Kd.C_drew ?_))); (case side2 => exact (Kd.R_reads' HO_4.out).2.1); rintro e w38 ⟨v239, rfl, ho0, hb⟩; have HO240 := Aside0.mk (Kd.R_lower (Kd.R_new' ho0 (Kd.R_lt (by (with_reducible repeat (first | apply Kd.R_alloc | apply Kd.R_drewN | apply Kd.R_drew)); exact HO_4.out))) (below_size (by repeat (first | (with_reducible first | exact HB.out | apply below_alloc | apply pw_below_drewN | apply below_drew1 | refine below_set ?_ GE210.out | refine below_set ?_ GE230.out) | exact HB.out)))); replace HO_4 := Aside0.mk (Kd.R_elder' (by (with_reducible repeat (first | apply Kd.R_alloc | apply Kd.R_drewN | apply Kd.R_drew)); exact HO_4.out) (Kd.R_base ho0) hb); replace BK210 := Aside0.mk (blk_below (g := gb210) (o := .cells #[.int .i64 ((rd_T75 l0 0).f0.f0), .int .i64 ((rd_T75 l0 0).f0.f1), .int .i64 ((rd_T75 l0 0).f0.f2), .int .i64 ((rd_T75 l0 0).f0.f3), .int .i64 ((rd_T75 l0 0).f0.f4), .int .i64 ((rd_T75 l0 0).f0.f5), .int .i64 ((rd_T75 l0 0).f0.f6)] 23 (0, 0)) (by (with_reducible repeat (first | refine blk_drewN ?_ _ | refine blk_drew ?_ | refine blk_alloc ?_ _)); exact BK210.out) hb); replace BK230 := Aside0.mk (blk_below (g := gb230) (o := .cells #[.int .i32 ((rd_T82 (sel2 ((rd_T75 l0 0).f1) ((rd_T75 l0 0).f2) x54_2) x59_3).f0.f0), .int .u32 ((rd_T82 (sel2 ((rd_T75 l0 0).f1) ((rd_T75 l0 0).f2) x54_2) x59_3).f0.f1), .slice A229_2 ((rd_T82 (sel2 ((rd_T75 l0 0).f1) ((rd_T75 l0 0).f2) x54_2) x59_3).f0.f2).length c229_2, .slice (some ad237) ((rd_T82 (sel2 ((rd_T75 l0 0).f1) ((rd_T75 l0 0).f2) x54_2) x59_3).f1).length c229_3] 82 (0, 0)) (by (with_reducible repeat (first | refine blk_drewN ?_ _ | refine blk_drew ?_ | refine blk_alloc ?_ _)); exact BK230.out) hb); replace HB := Aside0.mk (below_step (by repeat (first | (with_reducible first | exact HB.out | apply below_alloc | apply pw_below_drewN | apply below_drew1 | refine below_set ?_ GE210.out | refine below_set ?_ GE230.out) | exact HB.out)) hb); clear hb; (try clear ho0))))
             go_roundg k4
             case measure => have := HK1.out; have := HK2.out; have := HK3.out; have := HK4.out; omega
             case rel => exact ⟨(t238), (wrap64 (x79_4 + 1)), (by first | rfl | (simp; done) | (simp [*]; done)), H', ⟨by have := HK1.out; have := HK2.out; have := HK3.out; have := HK4.out; omega⟩, ⟨by (with_reducible repeat (first | apply Kd.R_alloc | apply Kd.R_drewN | apply Kd.R_drew)); exact Kd.R_mono HO240.out (fun _ hk => trivial)⟩, ⟨by (with_reducible repeat (first | refine blk_drewN ?_ _ | refine blk_drew ?_ | refine blk_alloc ?_ _)); exact BK210.out⟩, ⟨by (with_reducible repeat (first | refine blk_drewN ?_ _ | refine blk_drew ?_ | refine blk_alloc ?_ _)); exact BK230.out⟩, ⟨by repeat (first | (with_reducible first | exact HB.out | apply below_alloc | apply pw_below_drewN | apply below_drew1 | refine below_set ?_ GE210.out | refine below_set ?_ GE230.out) | exact HB.out)⟩⟩
            ·
             rw [if_neg c33] at H
             have c33b0 : decide (x79_4 < (((rd_T82 (sel2 ((rd_T75 l0 0).f1) ((rd_T75 l0 0).f2) x54_2) x59_3).f1).length : Int)) = false := decide_eq_false c33
             clear c33
             have H' := Aside0.mk H
             clear H
             go_wp2
             repeat (go_quiet (fail); try go_wp2)
             go_roundg k4
             case measure => have := HK1.out; have := HK2.out; have := HK3.out; have := HK4.out; omega
             case rel => exact ⟨(x4_4), (wrap64 (x59_3 + 1)), (by first | rfl | (simp; done) | (simp [*]; done)), H', ⟨by have := HK1.out; have := HK2.out; have := HK3.out; have := HK4.out; omega⟩, ⟨by (with_reducible repeat (first | apply Kd.R_alloc | apply Kd.R_drewN | apply Kd.R_drew)); exact HO_4.out⟩, ⟨by (with_reducible repeat (first | refine blk_drewN ?_ _ | refine blk_drew ?_ | refine blk_alloc ?_ _)); exact BK210.out⟩, ⟨by repeat (first | (with_reducible first | exact HB.out | apply below_alloc | apply pw_below_drewN | apply below_drew1 | refine below_set ?_ GE210.out | refine below_set ?_ GE230.out) | exact HB.out)⟩⟩
         ·
          rw [if_neg c19] at H
          have c19b0 : decide (x59_3 < ((sel2 ((rd_T75 l0 0).f1) ((rd_T75 l0 0).f2) x54_2).length : Int)) = false := decide_eq_false c19
          clear c19
          have H' := Aside0.mk H
          clear H
          go_wp2
          repeat (go_quiet (fail); try go_wp2)
          go_roundg k3
          case measure => have := HK1.out; have := HK2.out; have := HK3.out; omega
          case rel => exact ⟨(x4_3), (wrap64 (x54_2 + 1)), (by first | rfl | (simp; done) | (simp [*]; done)), H', ⟨by have := HK1.out; have := HK2.out; have := HK3.out; omega⟩, ⟨by (with_reducible repeat (first | apply Kd.R_alloc | apply Kd.R_drewN | apply Kd.R_drew)); exact HO_4.out⟩, ⟨by (with_reducible repeat (first | refine blk_drewN ?_ _ | refine blk_drew ?_ | refine blk_alloc ?_ _)); exact BK210.out⟩, ⟨by repeat (first | (with_reducible first | exact HB.out | apply below_alloc | apply pw_below_drewN | apply below_drew1 | refine below_set ?_ GE210.out) | exact HB.out)⟩⟩
      ·
       rw [if_neg c17] at H
       have c17b0 : decide (x54_2 < 2) = false := decide_eq_false c17
       clear c17
       replace H := Option.bind_eq_some_iff.mp H
       obtain ⟨t225, A390, H⟩ := H
       have A39 := Aside0.mk A390
       clear A390
       obtain rfl := Option.some.inj H
       obtain ⟨Ao40, co40, eo40⟩ := Kd.R_slice HO_4.out
       subst eo40
       go_wp2_with (first | (go_at_call 36; (with_reducible refine (seal_Close.calls k2 _ _ x4_2 t225 _ ?side1 ?side2 A39.out).mono ?_); (case side1 => repeat (first | exact (Kd.R_reads' HO_4.out).2.2 | (with_reducible refine Kd.C_alloc ?_ _) | (with_reducible refine Kd.C_drewN ?_ _) | (with_reducible refine Kd.C_drew ?_))); (case side2 => exact (Kd.R_reads' HO_4.out).2.1); rintro e w41 ⟨v226, rfl, ho0, hb⟩; have HO227 := Aside0.mk (Kd.R_lower (Kd.R_new' ho0 (Kd.R_lt (by (with_reducible repeat (first | apply Kd.R_alloc | apply Kd.R_drewN | apply Kd.R_drew)); exact HO_4.out))) (below_size (by repeat (first | (with_reducible first | exact HB.out | apply below_alloc | apply pw_below_drewN | apply below_drew1 | refine below_set ?_ GE210.out) | exact HB.out)))); replace HO_4 := Aside0.mk (Kd.R_elder' (by (with_reducible repeat (first | apply Kd.R_alloc | apply Kd.R_drewN | apply Kd.R_drew)); exact HO_4.out) (Kd.R_base ho0) hb); replace BK210 := Aside0.mk (blk_below (g := gb210) (o := .cells #[.int .i64 ((rd_T75 l0 0).f0.f0), .int .i64 ((rd_T75 l0 0).f0.f1), .int .i64 ((rd_T75 l0 0).f0.f2), .int .i64 ((rd_T75 l0 0).f0.f3), .int .i64 ((rd_T75 l0 0).f0.f4), .int .i64 ((rd_T75 l0 0).f0.f5), .int .i64 ((rd_T75 l0 0).f0.f6)] 23 (0, 0)) (by (with_reducible repeat (first | refine blk_drewN ?_ _ | refine blk_drew ?_ | refine blk_alloc ?_ _)); exact BK210.out) hb); replace HB := Aside0.mk (below_step (by repeat (first | (with_reducible first | exact HB.out | apply below_alloc | apply pw_below_drewN | apply below_drew1 | refine below_set ?_ GE210.out) | exact HB.out)) hb); clear hb ho0))
       repeat (go_quiet (first | (go_at_call 36; (with_reducible refine (seal_Close.calls k2 _ _ x4_2 t225 _ ?side1 ?side2 A39.out).mono ?_); (case side1 => repeat (first | exact (Kd.R_reads' HO_4.out).2.2 | (with_reducible refine Kd.C_alloc ?_ _) | (with_reducible refine Kd.C_drewN ?_ _) | (with_reducible refine Kd.C_drew ?_))); (case side2 => exact (Kd.R_reads' HO_4.out).2.1); rintro e w41 ⟨v226, rfl, ho0, hb⟩; have n0_ := Aside0.mk (Kd.R_elder' (by (with_reducible repeat (first | apply Kd.R_alloc | apply Kd.R_drewN | apply Kd.R_drew)); exact HO_4.out) (Kd.R_base ho0) hb); have n1_ := Aside0.mk (Kd.R_lower (Kd.R_new' ho0 (Kd.R_lt (by (with_reducible repeat (first | apply Kd.R_alloc | apply Kd.R_drewN | apply Kd.R_drew)); exact HO_4.out))) (below_size (by repeat (first | (with_reducible first | exact HB.out | apply below_alloc | apply pw_below_drewN | apply below_drew1 | refine below_set ?_ GE210.out) | exact HB.out)))); have n2_ := Aside0.mk (blk_below (g := gb210) (o := .cells #[.int .i64 ((rd_T75 l0 0).f0.f0), .int .i64 ((rd_T75 l0 0).f0.f1), .int .i64 ((rd_T75 l0 0).f0.f2), .int .i64 ((rd_T75 l0 0).f0.f3), .int .i64 ((rd_T75 l0 0).f0.f4), .int .i64 ((rd_T75 l0 0).f0.f5), .int .i64 ((rd_T75 l0 0).f0.f6)] 23 (0, 0)) (by (with_reducible repeat (first | refine blk_drewN ?_ _ | refine blk_drew ?_ | refine blk_alloc ?_ _)); exact BK210.out) hb); have n3_ := Aside0.mk (below_step (by repeat (first | (with_reducible first | exact HB.out | apply below_alloc | apply pw_below_drewN | apply below_drew1 | refine below_set ?_ GE210.out) | exact HB.out)) hb); clear HO_4; clear BK210; clear HB; have HO_4 := n0_; have HO227 := n1_; have BK210 := n2_; have HB := n3_; clear n0_ n1_ n2_ n3_; (try clear hb); (try clear hb2); (try clear hk); (try clear hi); (try clear ho0))); try go_wp2_with (first | (go_at_call 36; (with_reducible refine (seal_Close.calls k2 _ _ x4_2 t225 _ ?side1 ?side2 A39.out).mono ?_); (case side1 => repeat (first | exact (Kd.R_reads' HO_4.out).2.2 | (with_reducible refine Kd.C_alloc ?_ _) | (with_reducible refine Kd.C_drewN ?_ _) | (with_reducible refine Kd.C_drew ?_))); (case side2 => exact (Kd.R_reads' HO_4.out).2.1); rintro e w41 ⟨v226, rfl, ho0, hb⟩; have HO227 := Aside0.mk (Kd.R_lower (Kd.R_new' ho0 (Kd.R_lt (by (with_reducible repeat (first | apply Kd.R_alloc | apply Kd.R_drewN | apply Kd.R_drew)); exact HO_4.out))) (below_size (by repeat (first | (with_reducible first | exact HB.out | apply below_alloc | apply pw_below_drewN | apply below_drew1 | refine below_set ?_ GE210.out) | exact HB.out)))); replace HO_4 := Aside0.mk (Kd.R_elder' (by (with_reducible repeat (first | apply Kd.R_alloc | apply Kd.R_drewN | apply Kd.R_drew)); exact HO_4.out) (Kd.R_base ho0) hb); replace BK210 := Aside0.mk (blk_below (g := gb210) (o := .cells #[.int .i64 ((rd_T75 l0 0).f0.f0), .int .i64 ((rd_T75 l0 0).f0.f1), .int .i64 ((rd_T75 l0 0).f0.f2), .int .i64 ((rd_T75 l0 0).f0.f3), .int .i64 ((rd_T75 l0 0).f0.f4), .int .i64 ((rd_T75 l0 0).f0.f5), .int .i64 ((rd_T75 l0 0).f0.f6)] 23 (0, 0)) (by (with_reducible repeat (first | refine blk_drewN ?_ _ | refine blk_drew ?_ | refine blk_alloc ?_ _)); exact BK210.out) hb); replace HB := Aside0.mk (below_step (by repeat (first | (with_reducible first | exact HB.out | apply below_alloc | apply pw_below_drewN | apply below_drew1 | refine below_set ?_ GE210.out) | exact HB.out)) hb); clear hb; (try clear ho0))))
       go_ret
       exact ⟨_, by first | rfl | (simp [errW_none, errW_some] <;> rfl) | (simp [*, errW_none, errW_some] <;> rfl), by (with_reducible repeat (first | apply Kd.R_alloc | apply Kd.R_drewN | apply Kd.R_drew)); exact Kd.R_mono HO227.out (fun _ hk => trivial), by repeat (first | (with_reducible first | exact HB.out | apply below_alloc | apply pw_below_drewN | apply below_drew1 | refine below_set ?_ GE210.out) | exact HB.out)⟩

/-! ### page_Size: function 26 -/
def page_Size.f (a0_0 : Int) (a0_1 : Int) (a0_2 : Int) (a0_3 : Int) (a0_4 : Int) (a0_5 : Int) (a0_6 : Int) : Option (Int) := (page_Right.f a0_0 a0_1 a0_2 a0_3 a0_4 a0_5 a0_6).bind fun t242 => (if t242 = true then ((pack_Words.f a0_2 a0_0).bind fun t243 => ((pack_Words.f a0_3 a0_1).bind fun t244 => (some (wrap64 ((wrap64 ((wrap64 (9 + (wrap64 (a0_3 * (wrap64 (8 + (wrap64 (8 * t243)))))))) + (wrap64 (a0_2 * (wrap64 (8 + (wrap64 (8 * t244)))))))) + 4))))) else (some 0))
set_option maxHeartbeats 8000000 in
set_option maxRecDepth 100000 in
theorem page_Size.calls (a0_0 : Int) (a0_1 : Int) (a0_2 : Int) (a0_3 : Int) (a0_4 : Int) (a0_5 : Int) (a0_6 : Int) (r : Int) (w : World) (h : page_Size.f a0_0 a0_1 a0_2 a0_3 a0_4 a0_5 a0_6 = some r) :
  Calls Try.prog 26 #[.agg #[.int .i64 a0_0, .int .i64 a0_1, .int .i64 a0_2, .int .i64 a0_3, .int .i64 a0_4, .int .i64 a0_5, .int .i64 a0_6]] w fun e w' => e = .returned (.int .i64 r) ∧ Below w.heap.size w w' := by
 have hu23 := Try.underlying23
 have HB := Aside0.mk (Below.refl w.heap.size w)
 have H := h
 clear h
 unfold page_Size.f at H
 replace H := Option.bind_eq_some_iff.mp H
 obtain ⟨t242, A20, H⟩ := H
 have A2 := Aside0.mk A20
 clear A20
 by_cases c3 : t242 = true
 ·
  subst c3
  have H1 : ((pack_Words.f a0_2 a0_0).bind fun t243 => ((pack_Words.f a0_3 a0_1).bind fun t244 => (some (wrap64 ((wrap64 ((wrap64 (9 + (wrap64 (a0_3 * (wrap64 (8 + (wrap64 (8 * t243)))))))) + (wrap64 (a0_2 * (wrap64 (8 + (wrap64 (8 * t244)))))))) + 4))))) = some r := by rw [if_pos rfl] at H; exact H
  clear H
  have H := H1
  clear H1
  replace H := Option.bind_eq_some_iff.mp H
  obtain ⟨t243, A40, H⟩ := H
  have A4 := Aside0.mk A40
  clear A40
  replace H := Option.bind_eq_some_iff.mp H
  obtain ⟨t244, A50, H⟩ := H
  have A5 := Aside0.mk A50
  clear A50
  obtain rfl := Option.some.inj H
  go_enter Try.func26, Try.ntmps26
  go_wp2_with (first | ((with_reducible refine gate_dst (N := 1) rfl ?_); refine box_event ?hg (N := 1) ?hd (cs := #[.int .i64 a0_0, .int .i64 a0_1, .int .i64 a0_2, .int .i64 a0_3, .int .i64 a0_4, .int .i64 a0_5, .int .i64 a0_6]) (t := 23) ?hr ?_; (case hd => rfl); (case hg => rfl); (case hr => first | (go_simp; done) | (go_simp; rfl)); intro gb241 hg w6 hbox hb; have BK241 := Aside0.mk (hbox); have GW241 := Aside0.mk ((by rw [hg]; exact (below_size (by with_reducible exact HB.out)) : w.heap.size ≤ gb241)); have GE241 := Aside0.mk ((by rw [hg]; exact (below_size (by with_reducible exact HB.out)) : w.heap.size ≤ gb241)); replace HB := Aside0.mk (below_step (by with_reducible exact HB.out) hb); clear hb hbox hg; have hz7 := bx7 BK241.out) | ((with_reducible refine gate_callee (f := 23) rfl ?_); refine goesL_ (some 6) rfl rfl Try.func23 (by kernel_rfl) rfl #[.agg #[.int .i64 a0_0, .int .i64 a0_1, .int .i64 a0_2, .int .i64 a0_3, .int .i64 a0_4, .int .i64 a0_5, .int .i64 a0_6]] rfl (by (try simp only [List.map_toArray, List.map_cons, List.map_nil]); first | done | rfl | (simp only [List.length_drop, List.length_take]; rfl)) ?_; (with_reducible refine (page_Right.calls a0_0 a0_1 a0_2 a0_3 a0_4 a0_5 a0_6 true _ A2.out).mono ?_); rintro e w8 ⟨rfl, hb⟩; refine ⟨_, rfl, ?_⟩; replace BK241 := Aside0.mk (blk_below BK241.out hb); replace HB := Aside0.mk (below_step (by with_reducible exact HB.out) hb); clear hb; have hz9 := bx7 BK241.out) | ((with_reducible refine gate_callee (f := 57) rfl ?_); refine goesL_ (some 12) rfl rfl Try.func57 (by kernel_rfl) rfl #[.int .i64 a0_2, .int .i64 a0_0] rfl (by (try simp only [List.map_toArray, List.map_cons, List.map_nil]); first | done | rfl | (simp only [List.length_drop, List.length_take]; rfl)) ?_; (with_reducible refine (pack_Words.calls a0_2 a0_0 t243 _ A4.out).mono ?_); rintro e w' ⟨rfl, ⟨nd, rfl⟩⟩; refine ⟨_, rfl, ?_⟩) | ((with_reducible refine gate_callee (f := 57) rfl ?_); refine goesL_ (some 19) rfl rfl Try.func57 (by kernel_rfl) rfl #[.int .i64 a0_3, .int .i64 a0_1] rfl (by (try simp only [List.map_toArray, List.map_cons, List.map_nil]); first | done | rfl | (simp only [List.length_drop, List.length_take]; rfl)) ?_; (with_reducible refine (pack_Words.calls a0_3 a0_1 t244 _ A5.out).mono ?_); rintro e w' ⟨rfl, ⟨nd, rfl⟩⟩; refine ⟨_, rfl, ?_⟩))
  go_ret
  exact ⟨by first | rfl | (simp [errW_none, errW_some] <;> rfl) | (simp [*, errW_none, errW_some] <;> rfl), by repeat (first | (with_reducible first | exact HB.out | apply below_alloc | apply pw_below_drewN | apply below_drew1 | refine below_set ?_ GE241.out) | exact HB.out)⟩
 ·
  replace c3 := Bool.eq_false_iff.mpr c3
  subst c3
  have H1 : (some 0) = some r := by rw [if_neg (show ¬ (false = true) by decide)] at H; exact H
  clear H
  have H := H1
  clear H1
  obtain rfl := Option.some.inj H
  go_enter Try.func26, Try.ntmps26
  go_wp2_with (first | ((with_reducible refine gate_dst (N := 1) rfl ?_); refine box_event ?hg (N := 1) ?hd (cs := #[.int .i64 a0_0, .int .i64 a0_1, .int .i64 a0_2, .int .i64 a0_3, .int .i64 a0_4, .int .i64 a0_5, .int .i64 a0_6]) (t := 23) ?hr ?_; (case hd => rfl); (case hg => rfl); (case hr => first | (go_simp; done) | (go_simp; rfl)); intro gb241 hg w10 hbox hb; have BK241 := Aside0.mk (hbox); have GW241 := Aside0.mk ((by rw [hg]; exact (below_size (by with_reducible exact HB.out)) : w.heap.size ≤ gb241)); have GE241 := Aside0.mk ((by rw [hg]; exact (below_size (by with_reducible exact HB.out)) : w.heap.size ≤ gb241)); replace HB := Aside0.mk (below_step (by with_reducible exact HB.out) hb); clear hb hbox hg; have hz11 := bx7 BK241.out) | ((with_reducible refine gate_callee (f := 23) rfl ?_); refine goesL_ (some 6) rfl rfl Try.func23 (by kernel_rfl) rfl #[.agg #[.int .i64 a0_0, .int .i64 a0_1, .int .i64 a0_2, .int .i64 a0_3, .int .i64 a0_4, .int .i64 a0_5, .int .i64 a0_6]] rfl (by (try simp only [List.map_toArray, List.map_cons, List.map_nil]); first | done | rfl | (simp only [List.length_drop, List.length_take]; rfl)) ?_; (with_reducible refine (page_Right.calls a0_0 a0_1 a0_2 a0_3 a0_4 a0_5 a0_6 false _ A2.out).mono ?_); rintro e w12 ⟨rfl, hb⟩; refine ⟨_, rfl, ?_⟩; replace BK241 := Aside0.mk (blk_below BK241.out hb); replace HB := Aside0.mk (below_step (by with_reducible exact HB.out) hb); clear hb))
  go_ret
  exact ⟨by first | rfl | (simp [errW_none, errW_some] <;> rfl) | (simp [*, errW_none, errW_some] <;> rfl), by with_reducible exact HB.out⟩

/-! ### bytes_Equal: function 71 -/
def bytes_Equal.f (l0 : List Int) (l1 : List Int) : Option (Bool) := some ((strOfNums l0).toList == (strOfNums l1).toList)
set_option maxHeartbeats 8000000 in
set_option maxRecDepth 100000 in
theorem bytes_Equal.calls (A0 : Option Addr) (c0 : Nat) (l0 : List Int) (A1 : Option Addr) (c1 : Nat) (l1 : List Int) (r : Bool) (w : World) (hr0 : Kd.C (Kd.int .u8) w A0 l0.length l0) (hc0 : l0.length ≤ c0) (hr1 : Kd.C (Kd.int .u8) w A1 l1.length l1) (hc1 : l1.length ≤ c1) (h : bytes_Equal.f l0 l1 = some r) :
  Calls Try.prog 71 #[.slice A0 l0.length c0, .slice A1 l1.length c1] w fun e w' => e = .returned (.bool r) ∧ Drawn0 w w' := by
 have HR0 := Aside0.mk hr0
 have HC0 := Aside0.mk hc0
 clear hr0 hc0
 have HR1 := Aside0.mk hr1
 have HC1 := Aside0.mk hc1
 clear hr1 hc1
 have H := h
 clear h
 unfold bytes_Equal.f at H
 obtain rfl := Option.some.inj H
 have hcv3 := Kd.C_string (P := Try.prog) (A := A0) (c := c0) Try.underlying36 Try.underlying5 Try.underlying9 HR0.out
 have hcv4 := Kd.C_string (P := Try.prog) (A := A1) (c := c1) Try.underlying36 Try.underlying5 Try.underlying9 HR1.out
 go_enter Try.func71, Try.ntmps71
 go_wp2
 go_ret
 exact ⟨by first | rfl | (simp; done) | (simp [*]; done), by repeat (first | exact Drawn0.refl _ | apply Drawn0.step)⟩

end Go.Proofs.Ytekenaclmplocaa.PPagePlaces
