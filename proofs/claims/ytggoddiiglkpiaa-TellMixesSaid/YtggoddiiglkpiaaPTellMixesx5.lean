-- Written by a program of this session (wip/tools/mkprint.py over the kit's print).
import Derived.Test.YtggoddiiglkpiaaPTellMixesx0
import Derived.Test.YtggoddiiglkpiaaPTellMixesx3
import Derived.Test.YtggoddiiglkpiaaPTellMixesx4
namespace Go.Proofs.Ytggoddiiglkpiaa.PTellMixes
open Go.RowKit Go.Proofs.YtggoddiiglkpiaaW.PrintWords Go.Proofs.YtggoddiiglkpiaaW.PrintLast Go.Proofs.YtggoddiiglkpiaaW.PrintMore
attribute [local go_sem] max2_int min2_int max_two min_two max_three min_three max_four min_four   -- for this text's walks alone
set_option linter.unusedVariables false
set_option linter.unusedSimpArgs false

/-! ### credenzalaw23_TellMixes: function 12 -/
mutual
def credenzalaw23_TellMixes.j0 : Nat → List (S49) → List (S49) → List Bool → Bool → Option (Bool)
  | 0, _, _, _, _ => none
  | k + 1, x0, x1, x2, x30 => if x30 = true then ((credenzalaw23_awake.f k).bind fun t205 => (some t205)) else (credenzalaw23_TellMixes.l0 k x1 x2 ([] : List (S49)) x0 (x0.length : Int) 0)
def credenzalaw23_TellMixes.l0 : Nat → List (S49) → List Bool → List (S49) → List (S49) → Int → Int → Option (Bool)
  | 0, _, _, _, _, _, _ => none
  | k + 1, x1, x2, x7, x32, x33, x34 => if x34 < x33 then (if 0 ≤ x34 then (if x34 < (x32.length : Int) then (if x7.length < 3518437208883 then (credenzalaw23_TellMixes.l0 k x1 x2 (x7 ++ [(⟨(rd_T49 x32 x34).f0, Go.bits .andNot .u32 ((rd_T49 x32 x34).f1) 1, (rd_T49 x32 x34).f2, (rd_T49 x32 x34).f3, (rd_T49 x32 x34).f4⟩ : S49)]) x32 x33 (wrap64 (x34 + 1))) else (none)) else (none)) else (none)) else (credenzalaw23_TellMixes.l1 k x2 x7 ([] : List (S49)) x1 (x1.length : Int) 0)
def credenzalaw23_TellMixes.l1 : Nat → List Bool → List (S49) → List (S49) → List (S49) → Int → Int → Option (Bool)
  | 0, _, _, _, _, _, _ => none
  | k + 1, x2, x7, x8, x47, x48, x49 => if x49 < x48 then (if 0 ≤ x49 then (if x49 < (x47.length : Int) then (if x8.length < 3518437208883 then (credenzalaw23_TellMixes.l1 k x2 x7 (x8 ++ [(⟨(rd_T49 x47 x49).f0, Go.bits .or .u32 ((rd_T49 x47 x49).f1) 1, (rd_T49 x47 x49).f2, (rd_T49 x47 x49).f3, (rd_T49 x47 x49).f4⟩ : S49)]) x47 x48 (wrap64 (x49 + 1))) else (none)) else (none)) else (none)) else (credenzalaw23_TellMixes.l2 k x7 x8 ([] : List (S49)) 0 0 x2 (x2.length : Int) 0)
def credenzalaw23_TellMixes.l2 : Nat → List (S49) → List (S49) → List (S49) → Int → Int → List Bool → Int → Int → Option (Bool)
  | 0, _, _, _, _, _, _, _, _ => none
  | k + 1, x7, x8, x9, x14, x15, x62, x63, x64 => if x64 < x63 then (if 0 ≤ x64 then (if x64 < (x62.length : Int) then (if rdOf false x62 x64 = true then (credenzalaw23_TellMixes.j4 k x7 x8 x9 x14 x15 x62 x63 x64 (decide (x14 < (x7.length : Int)))) else (credenzalaw23_TellMixes.j4 k x7 x8 x9 x14 x15 x62 x63 x64 false)) else (none)) else (none)) else (if 0 ≤ x14 then (if x14 ≤ (x7.length : Int) then ((some (x7.drop (x14 : Int).toNat : List (S49))).bind fun y225 => (if x9.length + y225.length < 3518437208883 then ((some (x9 ++ y225 : List (S49))).bind fun y229 => (if 0 ≤ x15 then (if x15 ≤ (x8.length : Int) then ((some (x8.drop (x15 : Int).toNat : List (S49))).bind fun y232 => (if y229.length + y232.length < 3518437208883 then ((tell_Ordered.f (y229 ++ y232)).bind fun t239 => ((tell_Ordered.f x7).bind fun t240 => (if t240 = true then ((tell_Ordered.f x8).bind fun t241 => (if (t239 == t241) = true then ((credenzalaw23_awake.f k).bind fun t242 => (some t242)) else (some false))) else (if (t239 == false) = true then ((credenzalaw23_awake.f k).bind fun t243 => (some t243)) else (some false))))) else (none))) else (none)) else (none))) else (none))) else (none)) else (none))
def credenzalaw23_TellMixes.j4 : Nat → List (S49) → List (S49) → List (S49) → Int → Int → List Bool → Int → Int → Bool → Option (Bool)
  | 0, _, _, _, _, _, _, _, _, _ => none
  | k + 1, x7, x8, x9, x14, x15, x62, x63, x64, x74 => if x74 = true then (if 0 ≤ x14 then (if x14 < (x7.length : Int) then (if x9.length < 3518437208883 then (credenzalaw23_TellMixes.l2 k x7 x8 (x9 ++ [(⟨(rd_T49 x7 x14).f0, (rd_T49 x7 x14).f1, (rd_T49 x7 x14).f2, (rd_T49 x7 x14).f3, (rd_T49 x7 x14).f4⟩ : S49)]) (wrap64 (x14 + 1)) x15 x62 x63 (wrap64 (x64 + 1))) else (none)) else (none)) else (none)) else (if x15 < (x8.length : Int) then (if 0 ≤ x15 then (if x9.length < 3518437208883 then (credenzalaw23_TellMixes.l2 k x7 x8 (x9 ++ [(⟨(rd_T49 x8 x15).f0, (rd_T49 x8 x15).f1, (rd_T49 x8 x15).f2, (rd_T49 x8 x15).f3, (rd_T49 x8 x15).f4⟩ : S49)]) x14 (wrap64 (x15 + 1)) x62 x63 (wrap64 (x64 + 1))) else (none)) else (none)) else (credenzalaw23_TellMixes.l2 k x7 x8 x9 x14 x15 x62 x63 (wrap64 (x64 + 1))))
end
def credenzalaw23_TellMixes.f (k : Nat) (l0 : List (S49)) (l1 : List (S49)) (l2 : List Bool) : Option (Bool) := if (l0.length : Int) > 20 then (credenzalaw23_TellMixes.j0 k l0 l1 l2 true) else (if (l1.length : Int) > 20 then (credenzalaw23_TellMixes.j0 k l0 l1 l2 true) else (credenzalaw23_TellMixes.j0 k l0 l1 l2 (decide ((l2.length : Int) > 60))))
theorem credenzalaw23_TellMixes.mono_l : ∀ k, (∀ y0 y1 y2 y3, LeO (credenzalaw23_TellMixes.j0 k y0 y1 y2 y3) (credenzalaw23_TellMixes.j0 (k + 1) y0 y1 y2 y3)) ∧ (∀ y0 y1 y2 y3 y4 y5, LeO (credenzalaw23_TellMixes.l0 k y0 y1 y2 y3 y4 y5) (credenzalaw23_TellMixes.l0 (k + 1) y0 y1 y2 y3 y4 y5)) ∧ (∀ y0 y1 y2 y3 y4 y5, LeO (credenzalaw23_TellMixes.l1 k y0 y1 y2 y3 y4 y5) (credenzalaw23_TellMixes.l1 (k + 1) y0 y1 y2 y3 y4 y5)) ∧ (∀ y0 y1 y2 y3 y4 y5 y6 y7, LeO (credenzalaw23_TellMixes.l2 k y0 y1 y2 y3 y4 y5 y6 y7) (credenzalaw23_TellMixes.l2 (k + 1) y0 y1 y2 y3 y4 y5 y6 y7)) ∧ (∀ y0 y1 y2 y3 y4 y5 y6 y7 y8, LeO (credenzalaw23_TellMixes.j4 k y0 y1 y2 y3 y4 y5 y6 y7 y8) (credenzalaw23_TellMixes.j4 (k + 1) y0 y1 y2 y3 y4 y5 y6 y7 y8))
  | 0 => ⟨fun _ _ _ _ r h => by simp [credenzalaw23_TellMixes.j0] at h, fun _ _ _ _ _ _ r h => by simp [credenzalaw23_TellMixes.l0] at h, fun _ _ _ _ _ _ r h => by simp [credenzalaw23_TellMixes.l1] at h, fun _ _ _ _ _ _ _ _ r h => by simp [credenzalaw23_TellMixes.l2] at h, fun _ _ _ _ _ _ _ _ _ r h => by simp [credenzalaw23_TellMixes.j4] at h⟩
  | k + 1 => by
    obtain ⟨ih0, ih1, ih2, ih3, ih4⟩ := credenzalaw23_TellMixes.mono_l k
    refine ⟨?_, ?_, ?_, ?_, ?_⟩
    · intro y0 y1 y2 y3
      unfold credenzalaw23_TellMixes.j0
      repeat' first
      | (with_reducible exact ih0 _ _ _ _)
      | (with_reducible exact ih1 _ _ _ _ _ _)
      | (with_reducible exact ih2 _ _ _ _ _ _)
      | (with_reducible exact ih3 _ _ _ _ _ _ _ _)
      | (with_reducible exact ih4 _ _ _ _ _ _ _ _ _)
      | (with_reducible exact credenzalaw23_awake.mono _)
      | (with_reducible exact LeO.refl _)
      | (with_reducible exact LeO.none _)
      | (with_reducible refine LeO.ite ?_ ?_)
      | (with_reducible refine LeO.bind ?_ (fun _ => ?_))
      | exact ih0 _ _ _ _
      | exact ih1 _ _ _ _ _ _
      | exact ih2 _ _ _ _ _ _
      | exact ih3 _ _ _ _ _ _ _ _
      | exact ih4 _ _ _ _ _ _ _ _ _
      | exact credenzalaw23_awake.mono _
      | exact LeO.none _
      | refine LeO.ite ?_ ?_
      | refine LeO.bind ?_ (fun _ => ?_)
    · intro y0 y1 y2 y3 y4 y5
      unfold credenzalaw23_TellMixes.l0
      repeat' first
      | (with_reducible exact ih0 _ _ _ _)
      | (with_reducible exact ih1 _ _ _ _ _ _)
      | (with_reducible exact ih2 _ _ _ _ _ _)
      | (with_reducible exact ih3 _ _ _ _ _ _ _ _)
      | (with_reducible exact ih4 _ _ _ _ _ _ _ _ _)
      | (with_reducible exact credenzalaw23_awake.mono _)
      | (with_reducible exact LeO.refl _)
      | (with_reducible exact LeO.none _)
      | (with_reducible refine LeO.ite ?_ ?_)
      | (with_reducible refine LeO.bind ?_ (fun _ => ?_))
      | exact ih0 _ _ _ _
      | exact ih1 _ _ _ _ _ _
      | exact ih2 _ _ _ _ _ _
      | exact ih3 _ _ _ _ _ _ _ _
      | exact ih4 _ _ _ _ _ _ _ _ _
      | exact credenzalaw23_awake.mono _
      | exact LeO.none _
      | refine LeO.ite ?_ ?_
      | refine LeO.bind ?_ (fun _ => ?_)
    · intro y0 y1 y2 y3 y4 y5
      unfold credenzalaw23_TellMixes.l1
      repeat' first
      | (with_reducible exact ih0 _ _ _ _)
      | (with_reducible exact ih1 _ _ _ _ _ _)
      | (with_reducible exact ih2 _ _ _ _ _ _)
      | (with_reducible exact ih3 _ _ _ _ _ _ _ _)
      | (with_reducible exact ih4 _ _ _ _ _ _ _ _ _)
      | (with_reducible exact credenzalaw23_awake.mono _)
      | (with_reducible exact LeO.refl _)
      | (with_reducible exact LeO.none _)
      | (with_reducible refine LeO.ite ?_ ?_)
      | (with_reducible refine LeO.bind ?_ (fun _ => ?_))
      | exact ih0 _ _ _ _
      | exact ih1 _ _ _ _ _ _
      | exact ih2 _ _ _ _ _ _
      | exact ih3 _ _ _ _ _ _ _ _
      | exact ih4 _ _ _ _ _ _ _ _ _
      | exact credenzalaw23_awake.mono _
      | exact LeO.none _
      | refine LeO.ite ?_ ?_
      | refine LeO.bind ?_ (fun _ => ?_)
    · intro y0 y1 y2 y3 y4 y5 y6 y7
      unfold credenzalaw23_TellMixes.l2
      repeat' first
      | (with_reducible exact ih0 _ _ _ _)
      | (with_reducible exact ih1 _ _ _ _ _ _)
      | (with_reducible exact ih2 _ _ _ _ _ _)
      | (with_reducible exact ih3 _ _ _ _ _ _ _ _)
      | (with_reducible exact ih4 _ _ _ _ _ _ _ _ _)
      | (with_reducible exact credenzalaw23_awake.mono _)
      | (with_reducible exact LeO.refl _)
      | (with_reducible exact LeO.none _)
      | (with_reducible refine LeO.ite ?_ ?_)
      | (with_reducible refine LeO.bind ?_ (fun _ => ?_))
      | exact ih0 _ _ _ _
      | exact ih1 _ _ _ _ _ _
      | exact ih2 _ _ _ _ _ _
      | exact ih3 _ _ _ _ _ _ _ _
      | exact ih4 _ _ _ _ _ _ _ _ _
      | exact credenzalaw23_awake.mono _
      | exact LeO.none _
      | refine LeO.ite ?_ ?_
      | refine LeO.bind ?_ (fun _ => ?_)
    · intro y0 y1 y2 y3 y4 y5 y6 y7 y8
      unfold credenzalaw23_TellMixes.j4
      repeat' first
      | (with_reducible exact ih0 _ _ _ _)
      | (with_reducible exact ih1 _ _ _ _ _ _)
      | (with_reducible exact ih2 _ _ _ _ _ _)
      | (with_reducible exact ih3 _ _ _ _ _ _ _ _)
      | (with_reducible exact ih4 _ _ _ _ _ _ _ _ _)
      | (with_reducible exact credenzalaw23_awake.mono _)
      | (with_reducible exact LeO.refl _)
      | (with_reducible exact LeO.none _)
      | (with_reducible refine LeO.ite ?_ ?_)
      | (with_reducible refine LeO.bind ?_ (fun _ => ?_))
      | exact ih0 _ _ _ _
      | exact ih1 _ _ _ _ _ _
      | exact ih2 _ _ _ _ _ _
      | exact ih3 _ _ _ _ _ _ _ _
      | exact ih4 _ _ _ _ _ _ _ _ _
      | exact credenzalaw23_awake.mono _
      | exact LeO.none _
      | refine LeO.ite ?_ ?_
      | refine LeO.bind ?_ (fun _ => ?_)
theorem credenzalaw23_TellMixes.mono : ∀ a0 a1 a2 k, LeO (credenzalaw23_TellMixes.f k a0 a1 a2) (credenzalaw23_TellMixes.f (k + 1) a0 a1 a2) := by
  intro a0 a1 a2 k
  obtain ⟨ih0, ih1, ih2, ih3, ih4⟩ := credenzalaw23_TellMixes.mono_l k
  unfold credenzalaw23_TellMixes.f
  repeat' first
      | (with_reducible exact ih0 _ _ _ _)
      | (with_reducible exact ih1 _ _ _ _ _ _)
      | (with_reducible exact ih2 _ _ _ _ _ _)
      | (with_reducible exact ih3 _ _ _ _ _ _ _ _)
      | (with_reducible exact ih4 _ _ _ _ _ _ _ _ _)
      | (with_reducible exact credenzalaw23_awake.mono _)
      | (with_reducible exact LeO.refl _)
      | (with_reducible exact LeO.none _)
      | (with_reducible refine LeO.ite ?_ ?_)
      | (with_reducible refine LeO.bind ?_ (fun _ => ?_))
      | exact ih0 _ _ _ _
      | exact ih1 _ _ _ _ _ _
      | exact ih2 _ _ _ _ _ _
      | exact ih3 _ _ _ _ _ _ _ _
      | exact ih4 _ _ _ _ _ _ _ _ _
      | exact credenzalaw23_awake.mono _
      | exact LeO.none _
      | refine LeO.ite ?_ ?_
      | refine LeO.bind ?_ (fun _ => ?_)
def credenzalaw23_TellMixes.T27 : Bool × List (List Nat × List Nat) := (true, [([], []), ([], []), ([], []), ([1, 2], [1, 2]), ([0, 3], [0, 3]), ([], []), ([], []), ([5, 6], [5, 6]), ([4, 7, 4], [4, 7]), ([8, 8, 0, 1, 2, 3, 4, 5, 6, 7, 8], [0, 8])])
def credenzalaw23_TellMixes.B27 : List Nat := [0, 0, 0, 6, 15, 0, 0, 96, 255, 511]
theorem credenzalaw23_TellMixes.tab27 : rtab .any (opsOf Try.f12 27) = credenzalaw23_TellMixes.T27 := by kernel_rfl
theorem credenzalaw23_TellMixes.bits27 : waitsOk credenzalaw23_TellMixes.T27.2 credenzalaw23_TellMixes.B27 = true := by kernel_rfl
set_option maxHeartbeats 8000000 in
set_option maxRecDepth 100000 in
theorem credenzalaw23_TellMixes.calls (k : Nat) (A0 : Option Addr) (c0 : Nat) (l0 : List (S49)) (A1 : Option Addr) (c1 : Nat) (l1 : List (S49)) (A2 : Option Addr) (c2 : Nat) (l2 : List Bool) (r : Bool) (w : World) (hr0 : Kd.C k49 w A0 l0.length l0) (hc0 : l0.length ≤ c0) (hr1 : Kd.C k49 w A1 l1.length l1) (hc1 : l1.length ≤ c1) (hr2 : Kd.C Kd.bool w A2 l2.length l2) (hc2 : l2.length ≤ c2) (h : credenzalaw23_TellMixes.f k l0 l1 l2 = some r) :
    Calls Try.prog 12 #[.slice A0 l0.length c0, .slice A1 l1.length c1, .slice A2 l2.length c2] w fun e w' => e = .returned (.bool r) ∧ Below w.heap.size w w' := by
  have hu49 := Try.underlying49
  have HR0 := Aside0.mk hr0
  have HC0 := Aside0.mk hc0
  clear hr0 hc0
  have HR1 := Aside0.mk hr1
  have HC1 := Aside0.mk hc1
  clear hr1 hc1
  have HR2 := Aside0.mk hr2
  have HC2 := Aside0.mk hc2
  clear hr2 hc2
  have HB := Aside0.mk (Below.refl w.heap.size w)
  have H : (if (l0.length : Int) > 20 then (credenzalaw23_TellMixes.j0 k l0 l1 l2 true) else (if (l1.length : Int) > 20 then (credenzalaw23_TellMixes.j0 k l0 l1 l2 true) else (credenzalaw23_TellMixes.j0 k l0 l1 l2 (decide ((l2.length : Int) > 60))))) = some r := h
  clear h
  have HC4 := Aside0.mk H
  clear H
  go_enter Try.func12, Try.ntmps12
  go_upto_region 1 with (fail)
  go_cut [30] (fun v30 wc => ∃ (kq : Nat) (x30_3 : Bool), v30 = .bool x30_3 ∧ Aside0 (credenzalaw23_TellMixes.j0 kq l0 l1 l2 x30_3 = some r) ∧ Aside0 (kq ≤ k) ∧ Aside0 (Below w.heap.size w wc))
  case first =>
    have H := HC4.out
    clear HC4
    by_cases c5 : (l0.length : Int) > 20
    · rw [if_pos c5] at H
      have c5b0 : decide (20 < (l0.length : Int)) = true := decide_eq_true c5
      have c5b1 : decide (20 < l0.length) = true := decide_eq_true (by omega)
      clear c5
      (first | rw [c5b0] | (simp only [i64_w, i32_w]; rw [c5b0]) | skip)
      have H' := Aside0.mk H
      clear H
      go_wp2
      go_meet
      case rel => exact ⟨_, (true), (by first | rfl | (simp; done) | (simp [*]; done)), H', ⟨by first | omega | exact Nat.le_refl _⟩, ⟨by repeat (first | (with_reducible first | exact HB.out | apply below_alloc | apply pw_below_drewN | apply below_drew1) | exact HB.out)⟩⟩
    · rw [if_neg c5] at H
      have c5b0 : decide (20 < (l0.length : Int)) = false := decide_eq_false c5
      have c5b1 : decide (20 < l0.length) = false := decide_eq_false (by omega)
      clear c5
      (first | rw [c5b0] | (simp only [i64_w, i32_w]; rw [c5b0]) | skip)
      by_cases c6 : (l1.length : Int) > 20
      · rw [if_pos c6] at H
        have c6b0 : decide (20 < (l1.length : Int)) = true := decide_eq_true c6
        have c6b1 : decide (20 < l1.length) = true := decide_eq_true (by omega)
        clear c6
        have H' := Aside0.mk H
        clear H
        go_wp2
        go_meet
        case rel => exact ⟨_, (true), (by first | rfl | (simp; done) | (simp [*]; done)), H', ⟨by first | omega | exact Nat.le_refl _⟩, ⟨by repeat (first | (with_reducible first | exact HB.out | apply below_alloc | apply pw_below_drewN | apply below_drew1) | exact HB.out)⟩⟩
      · rw [if_neg c6] at H
        have c6b0 : decide (20 < (l1.length : Int)) = false := decide_eq_false c6
        have c6b1 : decide (20 < l1.length) = false := decide_eq_false (by omega)
        clear c6
        have H' := Aside0.mk H
        clear H
        go_wp2
        go_meet
        case rel => exact ⟨_, (decide ((l2.length : Int) > 60)), (by first | rfl | (simp; done) | (simp [*]; done)), H', ⟨by first | omega | exact Nat.le_refl _⟩, ⟨by repeat (first | (with_reducible first | exact HB.out | apply below_alloc | apply pw_below_drewN | apply below_drew1) | exact HB.out)⟩⟩
  case rest =>
    clear HC4
    try clear c1
    try clear c2
    try clear p2
    try clear c5
    try clear c5b0
    try clear c5b1
    try clear c6
    try clear c6b0
    try clear c6b1
    obtain ⟨kq, x30_3, rfl, HA, HJ3, HB⟩ := hcut
    cases kq with
    | zero => exact absurd HA.out (by simp [credenzalaw23_TellMixes.j0])
    | succ kj3 =>
      have H := HA.out
      clear HA
      simp only [credenzalaw23_TellMixes.j0] at H
      by_cases c7 : x30_3 = true
      · subst c7
        have H1 : ((credenzalaw23_awake.f kj3).bind fun t205 => (some t205)) = some r := by rw [if_pos rfl] at H; exact H
        clear H
        have H := H1
        clear H1
        replace H := Option.bind_eq_some_iff.mp H
        obtain ⟨t205, A80, H⟩ := H
        replace H : (some t205) = some r := H
        have A8 := Aside0.mk A80
        clear A80
        obtain rfl := Option.some.inj H
        go_wp2_with (first | ((with_reducible refine gate_callee (f := 32) rfl ?_); refine goesL_ (some 31) rfl rfl Try.func32 (by kernel_rfl) rfl #[] rfl (by (try simp only [List.map_toArray, List.map_cons, List.map_nil]); first | done | rfl | (simp only [List.length_drop, List.length_take]; rfl)) ?_; (with_reducible refine (credenzalaw23_awake.calls kj3  t205 _ A8.out).mono ?_); rintro e w9 ⟨rfl, hb⟩; refine ⟨_, rfl, ?_⟩; have n0_ := Aside0.mk (below_step (by repeat (first | (with_reducible first | exact HB.out | apply below_alloc | apply pw_below_drewN | apply below_drew1) | exact HB.out)) hb); clear HB; have HB := n0_; clear n0_; (try clear hb); (try clear hb2); (try clear hk); (try clear hi)))
        go_ret
        exact ⟨by first | rfl | (simp [errW_none, errW_some] <;> rfl) | (simp [*, errW_none, errW_some] <;> rfl), by repeat (first | (with_reducible first | exact HB.out | apply below_alloc | apply pw_below_drewN | apply below_drew1) | exact HB.out)⟩
      · replace c7 := Bool.eq_false_iff.mpr c7
        subst c7
        have H1 : (credenzalaw23_TellMixes.l0 kj3 l1 l2 ([] : List (S49)) l0 (l0.length : Int) 0) = some r := by rw [if_neg (show ¬ (false = true) by decide)] at H; exact H
        clear H
        have H := H1
        clear H1
        have H' := Aside0.mk H
        clear H
        go_wp2
        go_loopg [7, 34] kj3 (fun kq v7 v34 w' => ∃ (x7_2 : List (S49)) (x34_2 : Int), v34 = .int .i64 x34_2 ∧ Aside0 (credenzalaw23_TellMixes.l0 kq l1 l2 x7_2 l0 (l0.length : Int) x34_2 = some r) ∧ Aside0 (kq ≤ kj3) ∧ Aside0 (Kd.R k49 49 w' w.heap.size (fun _ => True) v7 x7_2) ∧ Aside0 (Below w.heap.size w w'))
        case atStart => exact ⟨(([] : List (S49))), (0), (by first | rfl | (simp; done) | (simp [*]; done)), H', ⟨Nat.le_refl _⟩, ⟨by first | exact Kd.R_nil _ _ _ _ _ | exact Kd.N_nil _ _ _ _ _ | exact Kd.V_nil _ _ _ _ _ | exact Kd.Q_nil _ _ _ _ _ | exact Kd.S_nil _ _ _ _ _⟩, ⟨by repeat (first | (with_reducible first | exact HB.out | apply below_alloc | apply pw_below_drewN | apply below_drew1) | exact HB.out)⟩⟩
        case round =>
          clear H'
          try clear c1
          try clear c2
          try clear p2
          try clear c3
          try clear c5
          try clear c5b0
          try clear c5b1
          try clear c6
          try clear c6b0
          try clear c6b1
          try clear c7
          try clear p2
          obtain ⟨x7_2, x34_2, rfl, HA, HK2, HO_7, HB⟩ := hrel
          cases gk with
          | zero => exact absurd HA.out (by simp [credenzalaw23_TellMixes.l0])
          | succ k2 =>
            have H := HA.out
            clear HA
            simp only [credenzalaw23_TellMixes.l0] at H
            by_cases c10 : x34_2 < (l0.length : Int)
            · rw [if_pos c10] at H
              have c10b0 : decide (x34_2 < (l0.length : Int)) = true := decide_eq_true c10
              clear c10
              by_cases c11 : 0 ≤ x34_2
              · rw [if_pos c11] at H
                have c11b0 : decide (0 ≤ x34_2) = true := decide_eq_true c11
                clear c11
                by_cases c12 : x34_2 < (l0.length : Int)
                · rw [if_pos c12] at H
                  have c12b0 : decide (x34_2 < (l0.length : Int)) = true := decide_eq_true c12
                  clear c12
                  by_cases c13 : x7_2.length < 3518437208883
                  · rw [if_pos c13] at H
                    have LMc13 := Aside0.mk c13
                    clear c13
                    obtain ⟨y208, hy208⟩ : ∃ y_ : List (S49), y_ = (x7_2 ++ [(⟨(rd_T49 l0 x34_2).f0, Go.bits .andNot .u32 ((rd_T49 l0 x34_2).f1) 1, (rd_T49 l0 x34_2).f2, (rd_T49 l0 x34_2).f3, (rd_T49 l0 x34_2).f4⟩ : S49)]) := ⟨_, rfl⟩
                    replace H : (credenzalaw23_TellMixes.l0 k2 l1 l2 y208 l0 (l0.length : Int) (wrap64 (x34_2 + 1))) = some r := by first | (rw [hy208]; with_reducible exact H) | (have H2_ := (Option.bind_some _ _).symm.trans H; rw [hy208]; with_reducible exact H2_) | (have H2_ := (Option.bind_some _ _).symm.trans H; with_reducible exact H2_) | with_reducible exact H | (rw [hy208]; exact H) | exact H
                    have Ny208 := Aside0.mk hy208
                    clear hy208
                    have H' := Aside0.mk H
                    clear H
                    have p206 : 0 ≤ (x34_2 : Int) := of_decide_eq_true (by first | (with_reducible assumption) | assumption)
                    have q206 : x34_2 < (l0.length : Int) := of_decide_eq_true (by first | (with_reducible assumption) | assumption)
                    obtain ⟨ad206, e206, hx206_0, hx206_1, hx206_2, hx206_3, hx206_4⟩ := at_T49 HR0.out x34_2 p206 q206
                    cases e206
                    replace hx206_0 := (HB.out.cell (World.block_lt_of_cell? w _ hx206_0)).trans hx206_0
                    replace hx206_1 := (HB.out.cell (World.block_lt_of_cell? w _ hx206_1)).trans hx206_1
                    replace hx206_2 := (HB.out.cell (World.block_lt_of_cell? w _ hx206_2)).trans hx206_2
                    replace hx206_3 := (HB.out.cell (World.block_lt_of_cell? w _ hx206_3)).trans hx206_3
                    replace hx206_4 := (HB.out.cell (World.block_lt_of_cell? w _ hx206_4)).trans hx206_4
                    replace p206 := eq_true p206
                    replace q206 := eq_true q206
                    go_wp2_with (first | ((with_reducible refine gate_dst (N := 11) rfl ?_); (try (refine gate_guard (by rfl) ?_; dsimp only)); refine box_event ?hg (N := 11) ?hd (cs := #[.int .i64 0, .int .u32 0, .int .i64 0, .int .i64 0, .int .i64 0]) (t := 49) ?hr ?_; (case hd => rfl); (case hg => rfl); (case hr => first | (go_simp; done) | (go_simp; rfl)); intro gb207 hg w14 hbox hb; have n0_ := Aside0.mk (Kd.R_below (Kd.R_elderB (by (with_reducible repeat (first | apply Kd.R_alloc | apply Kd.R_drewN | apply Kd.R_drew)); exact HO_7.out) gb207 (Nat.le_of_eq hg.symm)) hb); have n1_ := Aside0.mk (below_step (by repeat (first | (with_reducible first | exact HB.out | apply below_alloc | apply pw_below_drewN | apply below_drew1) | exact HB.out)) hb); have n2_ := Aside0.mk (hbox); have n3_ := Aside0.mk ((by rw [hg]; exact (below_size (by repeat (first | (with_reducible first | exact HB.out | apply below_alloc | apply pw_below_drewN | apply below_drew1) | exact HB.out))) : w.heap.size ≤ gb207)); have n4_ := Aside0.mk ((by rw [hg]; exact (below_size (by repeat (first | (with_reducible first | exact HB.out | apply below_alloc | apply pw_below_drewN | apply below_drew1) | exact HB.out))) : w.heap.size ≤ gb207)); clear HO_7; clear HB; have HO_7 := n0_; have HB := n1_; have BK207 := n2_; have GW207 := n3_; have GE207 := n4_; clear n0_ n1_ n2_ n3_ n4_; clear hb hbox hg; have hrr15 := fun (a b c d e f : Value) => blk_put (blk_put (blk_put (blk_put (blk_put (blk_put BK207.out 0 a rfl) 1 b rfl) 2 c rfl) 3 d rfl) 4 e rfl) 1 f (show _ = #[a, f, c, d, e] from rfl); have hr15_0 := fun (a b c d e f : Value) => (blk_cell (hrr15 a b c d e f) 0).trans (show _ = some a from rfl); have hr15_1 := fun (a b c d e f : Value) => (blk_cell (hrr15 a b c d e f) 1).trans (show _ = some f from rfl); have hr15_2 := fun (a b c d e f : Value) => (blk_cell (hrr15 a b c d e f) 2).trans (show _ = some c from rfl); have hr15_3 := fun (a b c d e f : Value) => (blk_cell (hrr15 a b c d e f) 3).trans (show _ = some d from rfl); have hr15_4 := fun (a b c d e f : Value) => (blk_cell (hrr15 a b c d e f) 4).trans (show _ = some e from rfl); clear hrr15; have hcz15_0 : w14.cell? ⟨gb207, 0, none⟩ = some (.int .i64 0) := (blk_cell BK207.out 0).trans rfl; have hcz15_1 : w14.cell? ⟨gb207, 1, none⟩ = some (.int .u32 0) := (blk_cell BK207.out 1).trans rfl; have hcz15_2 : w14.cell? ⟨gb207, 2, none⟩ = some (.int .i64 0) := (blk_cell BK207.out 2).trans rfl; have hcz15_3 : w14.cell? ⟨gb207, 3, none⟩ = some (.int .i64 0) := (blk_cell BK207.out 3).trans rfl; have hcz15_4 : w14.cell? ⟨gb207, 4, none⟩ = some (.int .i64 0) := (blk_cell BK207.out 4).trans rfl; have hfz15_0 := blk_frozen BK207.out 0; have hfz15_1 := blk_frozen BK207.out 1; have hfz15_2 := blk_frozen BK207.out 2; have hfz15_3 := blk_frozen BK207.out 3; have hfz15_4 := blk_frozen BK207.out 4) | ((with_reducible refine gate_builtin (b := .append) (xs := #[.tmp 42, .tmp 44]) rfl ?_); (try (refine gate_guard (by rfl) ?_; dsimp only)); at_builtin; refine Kd.R_append k49 (w0 := w) w.heap.size rfl (.tmp 42) (.tmp 44) 65 49 (.agg #[(.int .i64 0), (.int .u32 0), (.int .i64 0), (.int .i64 0), (.int .i64 0)]) 40 rfl Try.underlying65 info49 rfl (by decide) (by omega) u7 x7_2 (⟨(rd_T49 l0 x34_2).f0, Go.bits .andNot .u32 ((rd_T49 l0 x34_2).f1) 1, (rd_T49 l0 x34_2).f2, (rd_T49 l0 x34_2).f3, (rd_T49 l0 x34_2).f4⟩ : S49) [.int .i64 ((rd_T49 l0 x34_2).f0), .int .u32 (Go.bits .andNot .u32 ((rd_T49 l0 x34_2).f1) 1), .int .i64 ((rd_T49 l0 x34_2).f2), .int .i64 ((rd_T49 l0 x34_2).f3), .int .i64 ((rd_T49 l0 x34_2).f4)] (fun k_ => k_ ≠ gb207) (fun _ => False) rfl (by first | (go_simp; done) | (go_simp; rfl)) ?aP (fun _ hk => hk.elim) ?aF ?aO ?aB ?aS ?aL ?_; (case aP => exact k49_mkM _ _ _ (⟨(rd_T49 l0 x34_2).f0, Go.bits .andNot .u32 ((rd_T49 l0 x34_2).f1) 1, (rd_T49 l0 x34_2).f2, (rd_T49 l0 x34_2).f3, (rd_T49 l0 x34_2).f4⟩ : S49)); (case aB => exact (by repeat (first | (with_reducible first | exact HB.out | apply below_alloc | apply pw_below_drewN | apply below_drew1 | refine below_set ?_ GE207.out) | exact HB.out))); (case aF => exact (fun k_ hk => Kd.freshB (g := gb207) (o := .cells #[.int .i64 ((rd_T49 l0 x34_2).f0), .int .u32 (Go.bits .andNot .u32 ((rd_T49 l0 x34_2).f1) 1), .int .i64 ((rd_T49 l0 x34_2).f2), .int .i64 ((rd_T49 l0 x34_2).f3), .int .i64 ((rd_T49 l0 x34_2).f4)] 49 (0, 0)) (by (with_reducible repeat (first | refine blk_drewN ?_ _ | refine blk_drew ?_ | refine blk_alloc ?_ _)); refine blk_put (cs := #[.int .i64 ((rd_T49 l0 x34_2).f0), .int .u32 ((rd_T49 l0 x34_2).f1), .int .i64 ((rd_T49 l0 x34_2).f2), .int .i64 ((rd_T49 l0 x34_2).f3), .int .i64 ((rd_T49 l0 x34_2).f4)]) ?_ 1 _ rfl; (with_reducible repeat (first | refine blk_drewN ?_ _ | refine blk_drew ?_ | refine blk_alloc ?_ _)); refine blk_put (cs := #[.int .i64 ((rd_T49 l0 x34_2).f0), .int .u32 ((rd_T49 l0 x34_2).f1), .int .i64 ((rd_T49 l0 x34_2).f2), .int .i64 ((rd_T49 l0 x34_2).f3), .int .i64 0]) ?_ 4 _ rfl; (with_reducible repeat (first | refine blk_drewN ?_ _ | refine blk_drew ?_ | refine blk_alloc ?_ _)); refine blk_put (cs := #[.int .i64 ((rd_T49 l0 x34_2).f0), .int .u32 ((rd_T49 l0 x34_2).f1), .int .i64 ((rd_T49 l0 x34_2).f2), .int .i64 0, .int .i64 0]) ?_ 3 _ rfl; (with_reducible repeat (first | refine blk_drewN ?_ _ | refine blk_drew ?_ | refine blk_alloc ?_ _)); refine blk_put (cs := #[.int .i64 ((rd_T49 l0 x34_2).f0), .int .u32 ((rd_T49 l0 x34_2).f1), .int .i64 0, .int .i64 0, .int .i64 0]) ?_ 2 _ rfl; (with_reducible repeat (first | refine blk_drewN ?_ _ | refine blk_drew ?_ | refine blk_alloc ?_ _)); refine blk_put (cs := #[.int .i64 ((rd_T49 l0 x34_2).f0), .int .u32 0, .int .i64 0, .int .i64 0, .int .i64 0]) ?_ 1 _ rfl; (with_reducible repeat (first | refine blk_drewN ?_ _ | refine blk_drew ?_ | refine blk_alloc ?_ _)); refine blk_put (cs := #[.int .i64 0, .int .u32 0, .int .i64 0, .int .i64 0, .int .i64 0]) ?_ 0 _ rfl; (with_reducible repeat (first | refine blk_drewN ?_ _ | refine blk_drew ?_ | refine blk_alloc ?_ _)); exact BK207.out) k_ hk)); (case aO => exact (by (with_reducible repeat (first | apply Kd.R_alloc | apply Kd.R_drewN | apply Kd.R_drew)); exact Kd.R_mono (Kd.R_far (p := ⟨gb207, 1, none⟩) (Kd.R_far (p := ⟨gb207, 4, none⟩) (Kd.R_far (p := ⟨gb207, 3, none⟩) (Kd.R_far (p := ⟨gb207, 2, none⟩) (Kd.R_far (p := ⟨gb207, 1, none⟩) (Kd.R_far (p := ⟨gb207, 0, none⟩) (Kd.R_mono HO_7.out (fun k_ hk => (⟨hk, hk.2⟩ : _ ∧ k_ ≠ gb207))) (fun _ hk => hk.2) (.int .i64 ((rd_T49 l0 x34_2).f0))) (fun _ hk => hk.2) (.int .u32 ((rd_T49 l0 x34_2).f1))) (fun _ hk => hk.2) (.int .i64 ((rd_T49 l0 x34_2).f2))) (fun _ hk => hk.2) (.int .i64 ((rd_T49 l0 x34_2).f3))) (fun _ hk => hk.2) (.int .i64 ((rd_T49 l0 x34_2).f4))) (fun _ hk => hk.2) (.int .u32 (Go.bits .andNot .u32 ((rd_T49 l0 x34_2).f1) 1))) (fun _ hk => hk.1.2))); (case aS => exact (below_size (by repeat (first | (with_reducible first | exact HB.out | apply below_alloc | apply pw_below_drewN | apply below_drew1 | refine below_set ?_ GE207.out) | exact HB.out)))); (case aL => have := LMc13.out; omega); intro v209 w16 ho hb hg hat; rw [← Ny208.out] at ho; have n0_ := Aside0.mk (blk_grown (g := gb207) (o := .cells #[.int .i64 ((rd_T49 l0 x34_2).f0), .int .u32 (Go.bits .andNot .u32 ((rd_T49 l0 x34_2).f1) 1), .int .i64 ((rd_T49 l0 x34_2).f2), .int .i64 ((rd_T49 l0 x34_2).f3), .int .i64 ((rd_T49 l0 x34_2).f4)] 49 (0, 0)) (by (with_reducible repeat (first | refine blk_drewN ?_ _ | refine blk_drew ?_ | refine blk_alloc ?_ _)); refine blk_put (cs := #[.int .i64 ((rd_T49 l0 x34_2).f0), .int .u32 ((rd_T49 l0 x34_2).f1), .int .i64 ((rd_T49 l0 x34_2).f2), .int .i64 ((rd_T49 l0 x34_2).f3), .int .i64 ((rd_T49 l0 x34_2).f4)]) ?_ 1 _ rfl; (with_reducible repeat (first | refine blk_drewN ?_ _ | refine blk_drew ?_ | refine blk_alloc ?_ _)); refine blk_put (cs := #[.int .i64 ((rd_T49 l0 x34_2).f0), .int .u32 ((rd_T49 l0 x34_2).f1), .int .i64 ((rd_T49 l0 x34_2).f2), .int .i64 ((rd_T49 l0 x34_2).f3), .int .i64 0]) ?_ 4 _ rfl; (with_reducible repeat (first | refine blk_drewN ?_ _ | refine blk_drew ?_ | refine blk_alloc ?_ _)); refine blk_put (cs := #[.int .i64 ((rd_T49 l0 x34_2).f0), .int .u32 ((rd_T49 l0 x34_2).f1), .int .i64 ((rd_T49 l0 x34_2).f2), .int .i64 0, .int .i64 0]) ?_ 3 _ rfl; (with_reducible repeat (first | refine blk_drewN ?_ _ | refine blk_drew ?_ | refine blk_alloc ?_ _)); refine blk_put (cs := #[.int .i64 ((rd_T49 l0 x34_2).f0), .int .u32 ((rd_T49 l0 x34_2).f1), .int .i64 0, .int .i64 0, .int .i64 0]) ?_ 2 _ rfl; (with_reducible repeat (first | refine blk_drewN ?_ _ | refine blk_drew ?_ | refine blk_alloc ?_ _)); refine blk_put (cs := #[.int .i64 ((rd_T49 l0 x34_2).f0), .int .u32 0, .int .i64 0, .int .i64 0, .int .i64 0]) ?_ 1 _ rfl; (with_reducible repeat (first | refine blk_drewN ?_ _ | refine blk_drew ?_ | refine blk_alloc ?_ _)); refine blk_put (cs := #[.int .i64 0, .int .u32 0, .int .i64 0, .int .i64 0, .int .i64 0]) ?_ 0 _ rfl; (with_reducible repeat (first | refine blk_drewN ?_ _ | refine blk_drew ?_ | refine blk_alloc ?_ _)); exact BK207.out) hg (Kd.R_away HO_7.out (fun _ hk => hk.2))); have n1_ := Aside0.mk (hb); have n2_ := Aside0.mk (ho); clear BK207; clear HB; clear HO_7; have BK207 := n0_; have HB := n1_; have HO210 := n2_; clear n0_ n1_ n2_; clear ho hb hg hat))
                    go_roundg k2
                    case measure => have := HJ3.out; have := HK2.out; omega
                    case rel => exact ⟨(y208), (wrap64 (x34_2 + 1)), (by first | rfl | (simp; done) | (simp [*]; done)), H', ⟨by have := HJ3.out; have := HK2.out; omega⟩, ⟨by (with_reducible repeat (first | apply Kd.R_alloc | apply Kd.R_drewN | apply Kd.R_drew)); exact Kd.R_mono HO210.out (fun _ hk => trivial)⟩, ⟨by repeat (first | (with_reducible first | exact HB.out | apply below_alloc | apply pw_below_drewN | apply below_drew1 | refine below_set ?_ GE207.out) | exact HB.out)⟩⟩
                  · rw [if_neg c13] at H
                    exact absurd H (by simp)
                · rw [if_neg c12] at H
                  exact absurd H (by simp)
              · rw [if_neg c11] at H
                exact absurd H (by simp)
            · rw [if_neg c10] at H
              have c10b0 : decide (x34_2 < (l0.length : Int)) = false := decide_eq_false c10
              clear c10
              have H' := Aside0.mk H
              clear H
              go_wp2
              go_loopg [8, 49] k2 (fun kq v8 v49 w' => ∃ (x8_3 : List (S49)) (x49_3 : Int), v49 = .int .i64 x49_3 ∧ Aside0 (credenzalaw23_TellMixes.l1 kq l2 x7_2 x8_3 l1 (l1.length : Int) x49_3 = some r) ∧ Aside0 (kq ≤ k2) ∧ Aside0 (Kd.R k49 49 w' w.heap.size (fun k_ => some k_ ≠ (v8 : Value).ownBlock) u7 x7_2) ∧ Aside0 (Kd.R k49 49 w' w.heap.size (fun k_ => some k_ ≠ (u7 : Value).ownBlock) v8 x8_3) ∧ Aside0 (Below w.heap.size w w'))
              case atStart => exact ⟨(([] : List (S49))), (0), (by first | rfl | (simp; done) | (simp [*]; done)), H', ⟨Nat.le_refl _⟩, ⟨by (with_reducible repeat (first | apply Kd.R_alloc | apply Kd.R_drewN | apply Kd.R_drew)); exact Kd.R_mono HO_7.out (fun _ hk => (by simp [Value.ownBlock]))⟩, ⟨by first | exact Kd.R_nil _ _ _ _ _ | exact Kd.N_nil _ _ _ _ _ | exact Kd.V_nil _ _ _ _ _ | exact Kd.Q_nil _ _ _ _ _ | exact Kd.S_nil _ _ _ _ _⟩, ⟨by repeat (first | (with_reducible first | exact HB.out | apply below_alloc | apply pw_below_drewN | apply below_drew1) | exact HB.out)⟩⟩
              case round =>
                clear H'
                try clear c1
                try clear c2
                try clear p2
                try clear q2
                try clear hx2
                try clear c3
                try clear c5
                try clear c5b0
                try clear c5b1
                try clear c6
                try clear c6b0
                try clear c6b1
                try clear p6
                try clear c7
                try clear c10
                try clear c10b0
                try clear c11
                try clear c11b0
                try clear c12
                try clear c12b0
                try clear c13
                try clear hcz15_0
                try clear hcz15_1
                try clear hcz15_2
                try clear hcz15_3
                try clear hcz15_4
                try clear hfz15_0
                try clear hfz15_1
                try clear hfz15_2
                try clear hfz15_3
                try clear hfz15_4
                try clear hx206_0
                try clear hx206_1
                try clear hx206_2
                try clear hx206_3
                try clear hx206_4
                try clear p2
                try clear p206
                try clear q206
                obtain ⟨x8_3, x49_3, rfl, HA, HK3, HO_7, HO_8, HB⟩ := hrel
                cases gk with
                | zero => exact absurd HA.out (by simp [credenzalaw23_TellMixes.l1])
                | succ k3 =>
                  have H := HA.out
                  clear HA
                  simp only [credenzalaw23_TellMixes.l1] at H
                  by_cases c17 : x49_3 < (l1.length : Int)
                  · rw [if_pos c17] at H
                    have c17b0 : decide (x49_3 < (l1.length : Int)) = true := decide_eq_true c17
                    clear c17
                    by_cases c18 : 0 ≤ x49_3
                    · rw [if_pos c18] at H
                      have c18b0 : decide (0 ≤ x49_3) = true := decide_eq_true c18
                      clear c18
                      by_cases c19 : x49_3 < (l1.length : Int)
                      · rw [if_pos c19] at H
                        have c19b0 : decide (x49_3 < (l1.length : Int)) = true := decide_eq_true c19
                        clear c19
                        by_cases c20 : x8_3.length < 3518437208883
                        · rw [if_pos c20] at H
                          have LMc20 := Aside0.mk c20
                          clear c20
                          obtain ⟨y213, hy213⟩ : ∃ y_ : List (S49), y_ = (x8_3 ++ [(⟨(rd_T49 l1 x49_3).f0, Go.bits .or .u32 ((rd_T49 l1 x49_3).f1) 1, (rd_T49 l1 x49_3).f2, (rd_T49 l1 x49_3).f3, (rd_T49 l1 x49_3).f4⟩ : S49)]) := ⟨_, rfl⟩
                          replace H : (credenzalaw23_TellMixes.l1 k3 l2 x7_2 y213 l1 (l1.length : Int) (wrap64 (x49_3 + 1))) = some r := by first | (rw [hy213]; with_reducible exact H) | (have H2_ := (Option.bind_some _ _).symm.trans H; rw [hy213]; with_reducible exact H2_) | (have H2_ := (Option.bind_some _ _).symm.trans H; with_reducible exact H2_) | with_reducible exact H | (rw [hy213]; exact H) | exact H
                          have Ny213 := Aside0.mk hy213
                          clear hy213
                          have H' := Aside0.mk H
                          clear H
                          have p211 : 0 ≤ (x49_3 : Int) := of_decide_eq_true (by first | (with_reducible assumption) | assumption)
                          have q211 : x49_3 < (l1.length : Int) := of_decide_eq_true (by first | (with_reducible assumption) | assumption)
                          obtain ⟨ad211, e211, hx211_0, hx211_1, hx211_2, hx211_3, hx211_4⟩ := at_T49 HR1.out x49_3 p211 q211
                          cases e211
                          replace hx211_0 := (HB.out.cell (World.block_lt_of_cell? w _ hx211_0)).trans hx211_0
                          replace hx211_1 := (HB.out.cell (World.block_lt_of_cell? w _ hx211_1)).trans hx211_1
                          replace hx211_2 := (HB.out.cell (World.block_lt_of_cell? w _ hx211_2)).trans hx211_2
                          replace hx211_3 := (HB.out.cell (World.block_lt_of_cell? w _ hx211_3)).trans hx211_3
                          replace hx211_4 := (HB.out.cell (World.block_lt_of_cell? w _ hx211_4)).trans hx211_4
                          replace p211 := eq_true p211
                          replace q211 := eq_true q211
                          go_wp2_with (first | ((with_reducible refine gate_dst (N := 13) rfl ?_); (try (refine gate_guard (by rfl) ?_; dsimp only)); refine box_event ?hg (N := 13) ?hd (cs := #[.int .i64 0, .int .u32 0, .int .i64 0, .int .i64 0, .int .i64 0]) (t := 49) ?hr ?_; (case hd => rfl); (case hg => rfl); (case hr => first | (go_simp; done) | (go_simp; rfl)); intro gb212 hg w21 hbox hb; have n0_ := Aside0.mk (Kd.R_below (Kd.R_elderB (by (with_reducible repeat (first | apply Kd.R_alloc | apply Kd.R_drewN | apply Kd.R_drew)); exact HO_7.out) gb212 (Nat.le_of_eq hg.symm)) hb); have n1_ := Aside0.mk (Kd.R_below (Kd.R_elderB (by (with_reducible repeat (first | apply Kd.R_alloc | apply Kd.R_drewN | apply Kd.R_drew)); exact HO_8.out) gb212 (Nat.le_of_eq hg.symm)) hb); have n2_ := Aside0.mk (below_step (by repeat (first | (with_reducible first | exact HB.out | apply below_alloc | apply pw_below_drewN | apply below_drew1) | exact HB.out)) hb); have n3_ := Aside0.mk (hbox); have n4_ := Aside0.mk ((by rw [hg]; exact (below_size (by repeat (first | (with_reducible first | exact HB.out | apply below_alloc | apply pw_below_drewN | apply below_drew1) | exact HB.out))) : w.heap.size ≤ gb212)); have n5_ := Aside0.mk ((by rw [hg]; exact (below_size (by repeat (first | (with_reducible first | exact HB.out | apply below_alloc | apply pw_below_drewN | apply below_drew1) | exact HB.out))) : w.heap.size ≤ gb212)); clear HO_7; clear HO_8; clear HB; have HO_7 := n0_; have HO_8 := n1_; have HB := n2_; have BK212 := n3_; have GW212 := n4_; have GE212 := n5_; clear n0_ n1_ n2_ n3_ n4_ n5_; clear hb hbox hg; have hrr22 := fun (a b c d e f : Value) => blk_put (blk_put (blk_put (blk_put (blk_put (blk_put BK212.out 0 a rfl) 1 b rfl) 2 c rfl) 3 d rfl) 4 e rfl) 1 f (show _ = #[a, f, c, d, e] from rfl); have hr22_0 := fun (a b c d e f : Value) => (blk_cell (hrr22 a b c d e f) 0).trans (show _ = some a from rfl); have hr22_1 := fun (a b c d e f : Value) => (blk_cell (hrr22 a b c d e f) 1).trans (show _ = some f from rfl); have hr22_2 := fun (a b c d e f : Value) => (blk_cell (hrr22 a b c d e f) 2).trans (show _ = some c from rfl); have hr22_3 := fun (a b c d e f : Value) => (blk_cell (hrr22 a b c d e f) 3).trans (show _ = some d from rfl); have hr22_4 := fun (a b c d e f : Value) => (blk_cell (hrr22 a b c d e f) 4).trans (show _ = some e from rfl); clear hrr22; have hcz22_0 : w21.cell? ⟨gb212, 0, none⟩ = some (.int .i64 0) := (blk_cell BK212.out 0).trans rfl; have hcz22_1 : w21.cell? ⟨gb212, 1, none⟩ = some (.int .u32 0) := (blk_cell BK212.out 1).trans rfl; have hcz22_2 : w21.cell? ⟨gb212, 2, none⟩ = some (.int .i64 0) := (blk_cell BK212.out 2).trans rfl; have hcz22_3 : w21.cell? ⟨gb212, 3, none⟩ = some (.int .i64 0) := (blk_cell BK212.out 3).trans rfl; have hcz22_4 : w21.cell? ⟨gb212, 4, none⟩ = some (.int .i64 0) := (blk_cell BK212.out 4).trans rfl; have hfz22_0 := blk_frozen BK212.out 0; have hfz22_1 := blk_frozen BK212.out 1; have hfz22_2 := blk_frozen BK212.out 2; have hfz22_3 := blk_frozen BK212.out 3; have hfz22_4 := blk_frozen BK212.out 4) | ((with_reducible refine gate_builtin (b := .append) (xs := #[.tmp 57, .tmp 59]) rfl ?_); (try (refine gate_guard (by rfl) ?_; dsimp only)); at_builtin; refine Kd.R_append k49 (w0 := w) w.heap.size rfl (.tmp 57) (.tmp 59) 65 49 (.agg #[(.int .i64 0), (.int .u32 0), (.int .i64 0), (.int .i64 0), (.int .i64 0)]) 40 rfl Try.underlying65 info49 rfl (by decide) (by omega) u8 x8_3 (⟨(rd_T49 l1 x49_3).f0, Go.bits .or .u32 ((rd_T49 l1 x49_3).f1) 1, (rd_T49 l1 x49_3).f2, (rd_T49 l1 x49_3).f3, (rd_T49 l1 x49_3).f4⟩ : S49) [.int .i64 ((rd_T49 l1 x49_3).f0), .int .u32 (Go.bits .or .u32 ((rd_T49 l1 x49_3).f1) 1), .int .i64 ((rd_T49 l1 x49_3).f2), .int .i64 ((rd_T49 l1 x49_3).f3), .int .i64 ((rd_T49 l1 x49_3).f4)] (fun k_ => some k_ ≠ (u7 : Value).ownBlock ∧ k_ ≠ gb212) (fun _ => False) rfl (by first | (go_simp; done) | (go_simp; rfl)) ?aP (fun _ hk => hk.elim) ?aF ?aO ?aB ?aS ?aL ?_; (case aP => exact k49_mkM _ _ _ (⟨(rd_T49 l1 x49_3).f0, Go.bits .or .u32 ((rd_T49 l1 x49_3).f1) 1, (rd_T49 l1 x49_3).f2, (rd_T49 l1 x49_3).f3, (rd_T49 l1 x49_3).f4⟩ : S49)); (case aB => exact (by repeat (first | (with_reducible first | exact HB.out | apply below_alloc | apply pw_below_drewN | apply below_drew1 | refine below_set ?_ GE212.out) | exact HB.out))); (case aF => exact (fun k_ hk => ⟨Kd.fresh' (Kd.R_lt (by (with_reducible repeat (first | apply Kd.R_alloc | apply Kd.R_drewN | apply Kd.R_drew)); exact (Kd.R_mono (Kd.R_far (p := ⟨gb212, 1, none⟩) (Kd.R_far (p := ⟨gb212, 4, none⟩) (Kd.R_far (p := ⟨gb212, 3, none⟩) (Kd.R_far (p := ⟨gb212, 2, none⟩) (Kd.R_far (p := ⟨gb212, 1, none⟩) (Kd.R_far (p := ⟨gb212, 0, none⟩) (Kd.R_mono HO_7.out (fun k_ hk => (⟨hk, hk.2⟩ : _ ∧ k_ ≠ gb212))) (fun _ hk => hk.2) (.int .i64 ((rd_T49 l1 x49_3).f0))) (fun _ hk => hk.2) (.int .u32 ((rd_T49 l1 x49_3).f1))) (fun _ hk => hk.2) (.int .i64 ((rd_T49 l1 x49_3).f2))) (fun _ hk => hk.2) (.int .i64 ((rd_T49 l1 x49_3).f3))) (fun _ hk => hk.2) (.int .i64 ((rd_T49 l1 x49_3).f4))) (fun _ hk => hk.2) (.int .u32 (Go.bits .or .u32 ((rd_T49 l1 x49_3).f1) 1))) (fun _ h_ => h_.1)))) k_ hk, Kd.freshB (g := gb212) (o := .cells #[.int .i64 ((rd_T49 l1 x49_3).f0), .int .u32 (Go.bits .or .u32 ((rd_T49 l1 x49_3).f1) 1), .int .i64 ((rd_T49 l1 x49_3).f2), .int .i64 ((rd_T49 l1 x49_3).f3), .int .i64 ((rd_T49 l1 x49_3).f4)] 49 (0, 0)) (by (with_reducible repeat (first | refine blk_drewN ?_ _ | refine blk_drew ?_ | refine blk_alloc ?_ _)); refine blk_put (cs := #[.int .i64 ((rd_T49 l1 x49_3).f0), .int .u32 ((rd_T49 l1 x49_3).f1), .int .i64 ((rd_T49 l1 x49_3).f2), .int .i64 ((rd_T49 l1 x49_3).f3), .int .i64 ((rd_T49 l1 x49_3).f4)]) ?_ 1 _ rfl; (with_reducible repeat (first | refine blk_drewN ?_ _ | refine blk_drew ?_ | refine blk_alloc ?_ _)); refine blk_put (cs := #[.int .i64 ((rd_T49 l1 x49_3).f0), .int .u32 ((rd_T49 l1 x49_3).f1), .int .i64 ((rd_T49 l1 x49_3).f2), .int .i64 ((rd_T49 l1 x49_3).f3), .int .i64 0]) ?_ 4 _ rfl; (with_reducible repeat (first | refine blk_drewN ?_ _ | refine blk_drew ?_ | refine blk_alloc ?_ _)); refine blk_put (cs := #[.int .i64 ((rd_T49 l1 x49_3).f0), .int .u32 ((rd_T49 l1 x49_3).f1), .int .i64 ((rd_T49 l1 x49_3).f2), .int .i64 0, .int .i64 0]) ?_ 3 _ rfl; (with_reducible repeat (first | refine blk_drewN ?_ _ | refine blk_drew ?_ | refine blk_alloc ?_ _)); refine blk_put (cs := #[.int .i64 ((rd_T49 l1 x49_3).f0), .int .u32 ((rd_T49 l1 x49_3).f1), .int .i64 0, .int .i64 0, .int .i64 0]) ?_ 2 _ rfl; (with_reducible repeat (first | refine blk_drewN ?_ _ | refine blk_drew ?_ | refine blk_alloc ?_ _)); refine blk_put (cs := #[.int .i64 ((rd_T49 l1 x49_3).f0), .int .u32 0, .int .i64 0, .int .i64 0, .int .i64 0]) ?_ 1 _ rfl; (with_reducible repeat (first | refine blk_drewN ?_ _ | refine blk_drew ?_ | refine blk_alloc ?_ _)); refine blk_put (cs := #[.int .i64 0, .int .u32 0, .int .i64 0, .int .i64 0, .int .i64 0]) ?_ 0 _ rfl; (with_reducible repeat (first | refine blk_drewN ?_ _ | refine blk_drew ?_ | refine blk_alloc ?_ _)); exact BK212.out) k_ hk⟩)); (case aO => exact (by (with_reducible repeat (first | apply Kd.R_alloc | apply Kd.R_drewN | apply Kd.R_drew)); exact Kd.R_mono (Kd.R_far (p := ⟨gb212, 1, none⟩) (Kd.R_far (p := ⟨gb212, 4, none⟩) (Kd.R_far (p := ⟨gb212, 3, none⟩) (Kd.R_far (p := ⟨gb212, 2, none⟩) (Kd.R_far (p := ⟨gb212, 1, none⟩) (Kd.R_far (p := ⟨gb212, 0, none⟩) (Kd.R_mono HO_8.out (fun k_ hk => (⟨hk, hk.2⟩ : _ ∧ k_ ≠ gb212))) (fun _ hk => hk.2) (.int .i64 ((rd_T49 l1 x49_3).f0))) (fun _ hk => hk.2) (.int .u32 ((rd_T49 l1 x49_3).f1))) (fun _ hk => hk.2) (.int .i64 ((rd_T49 l1 x49_3).f2))) (fun _ hk => hk.2) (.int .i64 ((rd_T49 l1 x49_3).f3))) (fun _ hk => hk.2) (.int .i64 ((rd_T49 l1 x49_3).f4))) (fun _ hk => hk.2) (.int .u32 (Go.bits .or .u32 ((rd_T49 l1 x49_3).f1) 1))) (fun _ hk => ⟨hk.1.1, hk.1.2⟩))); (case aS => exact (below_size (by repeat (first | (with_reducible first | exact HB.out | apply below_alloc | apply pw_below_drewN | apply below_drew1 | refine below_set ?_ GE212.out) | exact HB.out)))); (case aL => have := LMc20.out; omega); intro v214 w23 ho hb hg hat; rw [← Ny213.out] at ho; have n0_ := Aside0.mk (Kd.R_after (ok := (fun k_ => k_ ≠ gb212)) (by (with_reducible repeat (first | apply Kd.R_alloc | apply Kd.R_drewN | apply Kd.R_drew)); exact Kd.R_mono (Kd.R_far (p := ⟨gb212, 1, none⟩) (Kd.R_far (p := ⟨gb212, 4, none⟩) (Kd.R_far (p := ⟨gb212, 3, none⟩) (Kd.R_far (p := ⟨gb212, 2, none⟩) (Kd.R_far (p := ⟨gb212, 1, none⟩) (Kd.R_far (p := ⟨gb212, 0, none⟩) (Kd.R_mono HO_7.out (fun k_ hk => (⟨hk, hk.2⟩ : _ ∧ k_ ≠ gb212))) (fun _ hk => hk.2) (.int .i64 ((rd_T49 l1 x49_3).f0))) (fun _ hk => hk.2) (.int .u32 ((rd_T49 l1 x49_3).f1))) (fun _ hk => hk.2) (.int .i64 ((rd_T49 l1 x49_3).f2))) (fun _ hk => hk.2) (.int .i64 ((rd_T49 l1 x49_3).f3))) (fun _ hk => hk.2) (.int .i64 ((rd_T49 l1 x49_3).f4))) (fun _ hk => hk.2) (.int .u32 (Go.bits .or .u32 ((rd_T49 l1 x49_3).f1) 1))) (fun _ hk => ⟨hk.1.2, hk.1.1⟩)) hg hat); have n1_ := Aside0.mk (blk_grown (g := gb212) (o := .cells #[.int .i64 ((rd_T49 l1 x49_3).f0), .int .u32 (Go.bits .or .u32 ((rd_T49 l1 x49_3).f1) 1), .int .i64 ((rd_T49 l1 x49_3).f2), .int .i64 ((rd_T49 l1 x49_3).f3), .int .i64 ((rd_T49 l1 x49_3).f4)] 49 (0, 0)) (by (with_reducible repeat (first | refine blk_drewN ?_ _ | refine blk_drew ?_ | refine blk_alloc ?_ _)); refine blk_put (cs := #[.int .i64 ((rd_T49 l1 x49_3).f0), .int .u32 ((rd_T49 l1 x49_3).f1), .int .i64 ((rd_T49 l1 x49_3).f2), .int .i64 ((rd_T49 l1 x49_3).f3), .int .i64 ((rd_T49 l1 x49_3).f4)]) ?_ 1 _ rfl; (with_reducible repeat (first | refine blk_drewN ?_ _ | refine blk_drew ?_ | refine blk_alloc ?_ _)); refine blk_put (cs := #[.int .i64 ((rd_T49 l1 x49_3).f0), .int .u32 ((rd_T49 l1 x49_3).f1), .int .i64 ((rd_T49 l1 x49_3).f2), .int .i64 ((rd_T49 l1 x49_3).f3), .int .i64 0]) ?_ 4 _ rfl; (with_reducible repeat (first | refine blk_drewN ?_ _ | refine blk_drew ?_ | refine blk_alloc ?_ _)); refine blk_put (cs := #[.int .i64 ((rd_T49 l1 x49_3).f0), .int .u32 ((rd_T49 l1 x49_3).f1), .int .i64 ((rd_T49 l1 x49_3).f2), .int .i64 0, .int .i64 0]) ?_ 3 _ rfl; (with_reducible repeat (first | refine blk_drewN ?_ _ | refine blk_drew ?_ | refine blk_alloc ?_ _)); refine blk_put (cs := #[.int .i64 ((rd_T49 l1 x49_3).f0), .int .u32 ((rd_T49 l1 x49_3).f1), .int .i64 0, .int .i64 0, .int .i64 0]) ?_ 2 _ rfl; (with_reducible repeat (first | refine blk_drewN ?_ _ | refine blk_drew ?_ | refine blk_alloc ?_ _)); refine blk_put (cs := #[.int .i64 ((rd_T49 l1 x49_3).f0), .int .u32 0, .int .i64 0, .int .i64 0, .int .i64 0]) ?_ 1 _ rfl; (with_reducible repeat (first | refine blk_drewN ?_ _ | refine blk_drew ?_ | refine blk_alloc ?_ _)); refine blk_put (cs := #[.int .i64 0, .int .u32 0, .int .i64 0, .int .i64 0, .int .i64 0]) ?_ 0 _ rfl; (with_reducible repeat (first | refine blk_drewN ?_ _ | refine blk_drew ?_ | refine blk_alloc ?_ _)); exact BK212.out) hg (Kd.R_away HO_8.out (fun _ hk => hk.2))); have n2_ := Aside0.mk (hb); have n3_ := Aside0.mk (ho); clear HO_7; clear BK212; clear HB; clear HO_8; have HO_7 := n0_; have BK212 := n1_; have HB := n2_; have HO215 := n3_; clear n0_ n1_ n2_ n3_; clear ho hb hg hat))
                          go_roundg k3
                          case measure => have := HJ3.out; have := HK2.out; have := HK3.out; omega
                          case rel => exact ⟨(y213), (wrap64 (x49_3 + 1)), (by first | rfl | (simp; done) | (simp [*]; done)), H', ⟨by have := HJ3.out; have := HK2.out; have := HK3.out; omega⟩, ⟨by (with_reducible repeat (first | apply Kd.R_alloc | apply Kd.R_drewN | apply Kd.R_drew)); exact Kd.R_mono HO_7.out (fun _ hk => hk.2)⟩, ⟨by (with_reducible repeat (first | apply Kd.R_alloc | apply Kd.R_drewN | apply Kd.R_drew)); exact Kd.R_mono HO215.out (fun _ hk => hk.1)⟩, ⟨by repeat (first | (with_reducible first | exact HB.out | apply below_alloc | apply pw_below_drewN | apply below_drew1 | refine below_set ?_ GE212.out) | exact HB.out)⟩⟩
                        · rw [if_neg c20] at H
                          exact absurd H (by simp)
                      · rw [if_neg c19] at H
                        exact absurd H (by simp)
                    · rw [if_neg c18] at H
                      exact absurd H (by simp)
                  · rw [if_neg c17] at H
                    have c17b0 : decide (x49_3 < (l1.length : Int)) = false := decide_eq_false c17
                    clear c17
                    have H' := Aside0.mk H
                    clear H
                    go_wp2
                    go_loopg [9, 14, 15, 64] k3 (fun kq v9 v14 v15 v64 w' => ∃ (x9_4 : List (S49)) (x14_4 : Int) (x15_4 : Int) (x64_4 : Int), v14 = .int .i64 x14_4 ∧ v15 = .int .i64 x15_4 ∧ v64 = .int .i64 x64_4 ∧ Aside0 (credenzalaw23_TellMixes.l2 kq x7_2 x8_3 x9_4 x14_4 x15_4 l2 (l2.length : Int) x64_4 = some r) ∧ Aside0 (kq ≤ k3) ∧ Aside0 (Kd.R k49 49 w' w.heap.size (fun k_ => some k_ ≠ (u8 : Value).ownBlock ∧ some k_ ≠ (v9 : Value).ownBlock) u7 x7_2) ∧ Aside0 (Kd.R k49 49 w' w.heap.size (fun k_ => some k_ ≠ (u7 : Value).ownBlock ∧ some k_ ≠ (v9 : Value).ownBlock) u8 x8_3) ∧ Aside0 (Kd.R k49 49 w' w.heap.size (fun k_ => some k_ ≠ (u7 : Value).ownBlock ∧ some k_ ≠ (u8 : Value).ownBlock) v9 x9_4) ∧ Aside0 (Below w.heap.size w w'))
                    case atStart => exact ⟨(([] : List (S49))), (0), (0), (0), (by first | rfl | (simp; done) | (simp [*]; done)), (by first | rfl | (simp; done) | (simp [*]; done)), (by first | rfl | (simp; done) | (simp [*]; done)), H', ⟨Nat.le_refl _⟩, ⟨by (with_reducible repeat (first | apply Kd.R_alloc | apply Kd.R_drewN | apply Kd.R_drew)); exact Kd.R_mono HO_7.out (fun _ hk => ⟨hk, (by simp [Value.ownBlock])⟩)⟩, ⟨by (with_reducible repeat (first | apply Kd.R_alloc | apply Kd.R_drewN | apply Kd.R_drew)); exact Kd.R_mono HO_8.out (fun _ hk => ⟨hk, (by simp [Value.ownBlock])⟩)⟩, ⟨by first | exact Kd.R_nil _ _ _ _ _ | exact Kd.N_nil _ _ _ _ _ | exact Kd.V_nil _ _ _ _ _ | exact Kd.Q_nil _ _ _ _ _ | exact Kd.S_nil _ _ _ _ _⟩, ⟨by repeat (first | (with_reducible first | exact HB.out | apply below_alloc | apply pw_below_drewN | apply below_drew1) | exact HB.out)⟩⟩
                    case round =>
                      clear H'
                      try clear c1
                      try clear c2
                      try clear p2
                      try clear q2
                      try clear hx2
                      try clear c3
                      try clear c5
                      try clear c5b0
                      try clear c5b1
                      try clear c6
                      try clear c6b0
                      try clear c6b1
                      try clear p6
                      try clear c7
                      try clear c10
                      try clear c10b0
                      try clear c11
                      try clear c11b0
                      try clear c12
                      try clear c12b0
                      try clear c13
                      try clear c17
                      try clear c17b0
                      try clear c18
                      try clear c18b0
                      try clear c19
                      try clear c19b0
                      try clear c20
                      try clear p20
                      try clear q20
                      try clear hx20
                      try clear p21
                      try clear q21
                      try clear hx21
                      try clear hcz15_0
                      try clear hcz15_1
                      try clear hcz15_2
                      try clear hcz15_3
                      try clear hcz15_4
                      try clear hcz22_0
                      try clear hcz22_1
                      try clear hcz22_2
                      try clear hcz22_3
                      try clear hcz22_4
                      try clear hfz15_0
                      try clear hfz15_1
                      try clear hfz15_2
                      try clear hfz15_3
                      try clear hfz15_4
                      try clear hfz22_0
                      try clear hfz22_1
                      try clear hfz22_2
                      try clear hfz22_3
                      try clear hfz22_4
                      try clear hx206_0
                      try clear hx206_1
                      try clear hx206_2
                      try clear hx206_3
                      try clear hx206_4
                      try clear hx211_0
                      try clear hx211_1
                      try clear hx211_2
                      try clear hx211_3
                      try clear hx211_4
                      try clear p2
                      try clear p206
                      try clear p211
                      try clear p6
                      try clear q2
                      try clear q206
                      try clear q211
                      obtain ⟨x9_4, x14_4, x15_4, x64_4, rfl, rfl, rfl, HA, HK4, HO_7, HO_8, HO_9, HB⟩ := hrel
                      cases gk with
                      | zero => exact absurd HA.out (by simp [credenzalaw23_TellMixes.l2])
                      | succ k4 =>
                        have H := HA.out
                        clear HA
                        simp only [credenzalaw23_TellMixes.l2] at H
                        by_cases c24 : x64_4 < (l2.length : Int)
                        · rw [if_pos c24] at H
                          have c24b0 : decide (x64_4 < (l2.length : Int)) = true := decide_eq_true c24
                          clear c24
                          by_cases c25 : 0 ≤ x64_4
                          · rw [if_pos c25] at H
                            have c25b0 : decide (0 ≤ x64_4) = true := decide_eq_true c25
                            clear c25
                            by_cases c26 : x64_4 < (l2.length : Int)
                            · rw [if_pos c26] at H
                              have c26b0 : decide (x64_4 < (l2.length : Int)) = true := decide_eq_true c26
                              clear c26
                              have HC27 := Aside0.mk H
                              clear H
                              have p216 : 0 ≤ (x64_4 : Int) := of_decide_eq_true (by first | (with_reducible assumption) | assumption)
                              have q216 : x64_4 < (l2.length : Int) := of_decide_eq_true (by first | (with_reducible assumption) | assumption)
                              obtain ⟨ad216, e216, hx216_0⟩ := Kd.at_bool HR2.out x64_4 p216 q216
                              cases e216
                              replace hx216_0 := (HB.out.cell (World.block_lt_of_cell? w _ hx216_0)).trans hx216_0
                              replace p216 := eq_true p216
                              replace q216 := eq_true q216
                              obtain ⟨bq28, hbq28⟩ : ∃ b_ : Bool, b_ = (rdOf false l2 x64_4) := ⟨_, rfl⟩
                              rw [← hbq28] at hx216_0
                              have Nbq28 := Aside0.mk hbq28
                              clear hbq28
                              go_upto_region 20 with (fail)
                              go_cut [74] (fun v74 wc => ∃ (kq : Nat) (x74_26 : Bool), v74 = .bool x74_26 ∧ Aside0 (credenzalaw23_TellMixes.j4 kq x7_2 x8_3 x9_4 x14_4 x15_4 l2 (l2.length : Int) x64_4 x74_26 = some r) ∧ Aside0 (kq ≤ k4) ∧ Aside0 (Kd.R k49 49 wc w.heap.size (fun k_ => some k_ ≠ (u8 : Value).ownBlock ∧ some k_ ≠ (u9 : Value).ownBlock) u7 x7_2) ∧ Aside0 (Kd.R k49 49 wc w.heap.size (fun k_ => some k_ ≠ (u7 : Value).ownBlock ∧ some k_ ≠ (u9 : Value).ownBlock) u8 x8_3) ∧ Aside0 (Kd.R k49 49 wc w.heap.size (fun k_ => some k_ ≠ (u7 : Value).ownBlock ∧ some k_ ≠ (u8 : Value).ownBlock) u9 x9_4) ∧ Aside0 (Below w.heap.size w wc))
                              case first =>
                                have H := HC27.out
                                clear HC27
                                replace H : (if bq28 = true then (credenzalaw23_TellMixes.j4 k4 x7_2 x8_3 x9_4 x14_4 x15_4 l2 (l2.length : Int) x64_4 (decide (x14_4 < (x7_2.length : Int)))) else (credenzalaw23_TellMixes.j4 k4 x7_2 x8_3 x9_4 x14_4 x15_4 l2 (l2.length : Int) x64_4 false)) = some r := by rw [← Nbq28.out] at H; exact H
                                (try rw [← Nbq28.out])
                                by_cases c29 : bq28 = true
                                · subst c29
                                  have H1 : (credenzalaw23_TellMixes.j4 k4 x7_2 x8_3 x9_4 x14_4 x15_4 l2 (l2.length : Int) x64_4 (decide (x14_4 < (x7_2.length : Int)))) = some r := by rw [if_pos rfl] at H; exact H
                                  clear H
                                  have H := H1
                                  clear H1
                                  have H' := Aside0.mk H
                                  clear H
                                  obtain ⟨Ao30, co30, eo30⟩ := Kd.R_slice HO_7.out
                                  subst eo30
                                  go_wp2
                                  go_meet
                                  case rel => exact ⟨_, (decide (x14_4 < (x7_2.length : Int))), (by first | rfl | (simp; done) | (simp [*]; done)), H', ⟨by have := HJ3.out; have := HK2.out; have := HK3.out; have := HK4.out; first | omega | exact Nat.le_refl _⟩, ⟨by (with_reducible repeat (first | apply Kd.R_alloc | apply Kd.R_drewN | apply Kd.R_drew)); exact HO_7.out⟩, ⟨by (with_reducible repeat (first | apply Kd.R_alloc | apply Kd.R_drewN | apply Kd.R_drew)); exact HO_8.out⟩, ⟨by (with_reducible repeat (first | apply Kd.R_alloc | apply Kd.R_drewN | apply Kd.R_drew)); exact HO_9.out⟩, ⟨by repeat (first | (with_reducible first | exact HB.out | apply below_alloc | apply pw_below_drewN | apply below_drew1) | exact HB.out)⟩⟩
                                · replace c29 := Bool.eq_false_iff.mpr c29
                                  subst c29
                                  have H1 : (credenzalaw23_TellMixes.j4 k4 x7_2 x8_3 x9_4 x14_4 x15_4 l2 (l2.length : Int) x64_4 false) = some r := by rw [if_neg (show ¬ (false = true) by decide)] at H; exact H
                                  clear H
                                  have H := H1
                                  clear H1
                                  have H' := Aside0.mk H
                                  clear H
                                  go_wp2
                                  go_meet
                                  case rel => exact ⟨_, (false), (by first | rfl | (simp; done) | (simp [*]; done)), H', ⟨by have := HJ3.out; have := HK2.out; have := HK3.out; have := HK4.out; first | omega | exact Nat.le_refl _⟩, ⟨by (with_reducible repeat (first | apply Kd.R_alloc | apply Kd.R_drewN | apply Kd.R_drew)); exact HO_7.out⟩, ⟨by (with_reducible repeat (first | apply Kd.R_alloc | apply Kd.R_drewN | apply Kd.R_drew)); exact HO_8.out⟩, ⟨by (with_reducible repeat (first | apply Kd.R_alloc | apply Kd.R_drewN | apply Kd.R_drew)); exact HO_9.out⟩, ⟨by repeat (first | (with_reducible first | exact HB.out | apply below_alloc | apply pw_below_drewN | apply below_drew1) | exact HB.out)⟩⟩
                              case rest =>
                                clear HC27
                                try clear c1
                                try clear c2
                                try clear p2
                                try clear q2
                                try clear hx2
                                try clear c3
                                try clear c5
                                try clear c5b0
                                try clear c5b1
                                try clear c6
                                try clear c6b0
                                try clear c6b1
                                try clear p6
                                try clear c7
                                try clear c10
                                try clear c10b0
                                try clear c11
                                try clear c11b0
                                try clear c12
                                try clear c12b0
                                try clear c13
                                try clear c17
                                try clear c17b0
                                try clear c18
                                try clear c18b0
                                try clear c19
                                try clear c19b0
                                try clear c20
                                try clear p20
                                try clear q20
                                try clear hx20
                                try clear p21
                                try clear q21
                                try clear hx21
                                try clear c24
                                try clear c24b0
                                try clear c25
                                try clear c25b0
                                try clear c26
                                try clear c26b0
                                try clear q28
                                try clear c29
                                try clear hcz15_0
                                try clear hcz15_1
                                try clear hcz15_2
                                try clear hcz15_3
                                try clear hcz15_4
                                try clear hcz22_0
                                try clear hcz22_1
                                try clear hcz22_2
                                try clear hcz22_3
                                try clear hcz22_4
                                try clear hfz15_0
                                try clear hfz15_1
                                try clear hfz15_2
                                try clear hfz15_3
                                try clear hfz15_4
                                try clear hfz22_0
                                try clear hfz22_1
                                try clear hfz22_2
                                try clear hfz22_3
                                try clear hfz22_4
                                try clear hx206_0
                                try clear hx206_1
                                try clear hx206_2
                                try clear hx206_3
                                try clear hx206_4
                                try clear hx211_0
                                try clear hx211_1
                                try clear hx211_2
                                try clear hx211_3
                                try clear hx211_4
                                try clear hx216_0
                                try clear p2
                                try clear p20
                                try clear p206
                                try clear p21
                                try clear p211
                                try clear p216
                                try clear p6
                                try clear q2
                                try clear q20
                                try clear q206
                                try clear q21
                                try clear q211
                                try clear q216
                                obtain ⟨kq, x74_26, rfl, HA, HJ26, HO_7, HO_8, HO_9, HB⟩ := hcut
                                cases kq with
                                | zero => exact absurd HA.out (by simp [credenzalaw23_TellMixes.j4])
                                | succ kj26 =>
                                  have H := HA.out
                                  clear HA
                                  simp only [credenzalaw23_TellMixes.j4] at H
                                  by_cases c31 : x74_26 = true
                                  · subst c31
                                    have H1 : (if 0 ≤ x14_4 then (if x14_4 < (x7_2.length : Int) then (if x9_4.length < 3518437208883 then (credenzalaw23_TellMixes.l2 kj26 x7_2 x8_3 (x9_4 ++ [(⟨(rd_T49 x7_2 x14_4).f0, (rd_T49 x7_2 x14_4).f1, (rd_T49 x7_2 x14_4).f2, (rd_T49 x7_2 x14_4).f3, (rd_T49 x7_2 x14_4).f4⟩ : S49)]) (wrap64 (x14_4 + 1)) x15_4 l2 (l2.length : Int) (wrap64 (x64_4 + 1))) else (none)) else (none)) else (none)) = some r := by rw [if_pos rfl] at H; exact H
                                    clear H
                                    have H := H1
                                    clear H1
                                    by_cases c32 : 0 ≤ x14_4
                                    · rw [if_pos c32] at H
                                      have c32b0 : decide (0 ≤ x14_4) = true := decide_eq_true c32
                                      clear c32
                                      by_cases c33 : x14_4 < (x7_2.length : Int)
                                      · rw [if_pos c33] at H
                                        have c33b0 : decide (x14_4 < (x7_2.length : Int)) = true := decide_eq_true c33
                                        clear c33
                                        by_cases c34 : x9_4.length < 3518437208883
                                        · rw [if_pos c34] at H
                                          have LMc34 := Aside0.mk c34
                                          clear c34
                                          obtain ⟨y218, hy218⟩ : ∃ y_ : List (S49), y_ = (x9_4 ++ [(⟨(rd_T49 x7_2 x14_4).f0, (rd_T49 x7_2 x14_4).f1, (rd_T49 x7_2 x14_4).f2, (rd_T49 x7_2 x14_4).f3, (rd_T49 x7_2 x14_4).f4⟩ : S49)]) := ⟨_, rfl⟩
                                          replace H : (credenzalaw23_TellMixes.l2 kj26 x7_2 x8_3 y218 (wrap64 (x14_4 + 1)) x15_4 l2 (l2.length : Int) (wrap64 (x64_4 + 1))) = some r := by first | (rw [hy218]; with_reducible exact H) | (have H2_ := (Option.bind_some _ _).symm.trans H; rw [hy218]; with_reducible exact H2_) | (have H2_ := (Option.bind_some _ _).symm.trans H; with_reducible exact H2_) | with_reducible exact H | (rw [hy218]; exact H) | exact H
                                          have Ny218 := Aside0.mk hy218
                                          clear hy218
                                          have H' := Aside0.mk H
                                          clear H
                                          obtain ⟨Ao35, co35, eo35⟩ := Kd.R_slice HO_7.out
                                          subst eo35
                                          have p217 : 0 ≤ (x14_4 : Int) := of_decide_eq_true (by first | (with_reducible assumption) | assumption)
                                          have q217 : x14_4 < (x7_2.length : Int) := of_decide_eq_true (by first | (with_reducible assumption) | assumption)
                                          obtain ⟨ad217, e217, hx217_0, hx217_1, hx217_2, hx217_3, hx217_4⟩ := at_T49 (Kd.R_reads' HO_7.out).2.2 x14_4 p217 q217
                                          cases e217
                                          replace p217 := eq_true p217
                                          replace q217 := eq_true q217
                                          go_wp2_with (first | ((with_reducible refine gate_builtin (b := .append) (xs := #[.tmp 75, .tmp 80]) rfl ?_); (try (refine gate_guard (by rfl) ?_; dsimp only)); at_builtin; refine Kd.R_append k49 (w0 := w) w.heap.size rfl (.tmp 75) (.tmp 80) 65 49 (.agg #[(.int .i64 0), (.int .u32 0), (.int .i64 0), (.int .i64 0), (.int .i64 0)]) 40 rfl Try.underlying65 info49 rfl (by decide) (by omega) u9 x9_4 (⟨(rd_T49 x7_2 x14_4).f0, (rd_T49 x7_2 x14_4).f1, (rd_T49 x7_2 x14_4).f2, (rd_T49 x7_2 x14_4).f3, (rd_T49 x7_2 x14_4).f4⟩ : S49) [.int .i64 ((rd_T49 x7_2 x14_4).f0), .int .u32 ((rd_T49 x7_2 x14_4).f1), .int .i64 ((rd_T49 x7_2 x14_4).f2), .int .i64 ((rd_T49 x7_2 x14_4).f3), .int .i64 ((rd_T49 x7_2 x14_4).f4)] (fun k_ => some k_ ≠ (.slice (some ad217) x7_2.length co35 : Value).ownBlock ∧ some k_ ≠ (u8 : Value).ownBlock) (fun _ => False) rfl rfl ?aP (fun _ hk => hk.elim) ?aF ?aO ?aB ?aS ?aL ?_; (case aP => exact k49_mkM _ _ _ (⟨(rd_T49 x7_2 x14_4).f0, (rd_T49 x7_2 x14_4).f1, (rd_T49 x7_2 x14_4).f2, (rd_T49 x7_2 x14_4).f3, (rd_T49 x7_2 x14_4).f4⟩ : S49)); (case aB => exact (by repeat (first | (with_reducible first | exact HB.out | apply below_alloc | apply pw_below_drewN | apply below_drew1) | exact HB.out))); (case aF => exact (fun k_ hk => ⟨Kd.fresh' (Kd.R_lt (by (with_reducible repeat (first | apply Kd.R_alloc | apply Kd.R_drewN | apply Kd.R_drew)); exact HO_7.out)) k_ hk, Kd.fresh' (Kd.R_lt (by (with_reducible repeat (first | apply Kd.R_alloc | apply Kd.R_drewN | apply Kd.R_drew)); exact HO_8.out)) k_ hk⟩)); (case aO => exact (by (with_reducible repeat (first | apply Kd.R_alloc | apply Kd.R_drewN | apply Kd.R_drew)); exact HO_9.out)); (case aS => exact (below_size (by repeat (first | (with_reducible first | exact HB.out | apply below_alloc | apply pw_below_drewN | apply below_drew1) | exact HB.out)))); (case aL => have := LMc34.out; omega); intro v219 w36 ho hb hg hat; rw [← Ny218.out] at ho; have n0_ := Aside0.mk (Kd.R_after (ok := (fun k_ => some k_ ≠ (u8 : Value).ownBlock)) (by (with_reducible repeat (first | apply Kd.R_alloc | apply Kd.R_drewN | apply Kd.R_drew)); exact HO_7.out) hg hat); have n1_ := Aside0.mk (Kd.R_after (ok := (fun k_ => some k_ ≠ (.slice (some ad217) x7_2.length co35 : Value).ownBlock)) (by (with_reducible repeat (first | apply Kd.R_alloc | apply Kd.R_drewN | apply Kd.R_drew)); exact HO_8.out) hg hat); have n2_ := Aside0.mk (hb); have n3_ := Aside0.mk (ho); clear HO_7; clear HO_8; clear HB; clear HO_9; have HO_7 := n0_; have HO_8 := n1_; have HB := n2_; have HO220 := n3_; clear n0_ n1_ n2_ n3_; clear ho hb hg hat))
                                          go_roundg kj26
                                          case measure => have := HJ3.out; have := HK2.out; have := HK3.out; have := HK4.out; have := HJ26.out; omega
                                          case rel => exact ⟨(y218), (wrap64 (x14_4 + 1)), (x15_4), (wrap64 (x64_4 + 1)), (by first | rfl | (simp; done) | (simp [*]; done)), (by first | rfl | (simp; done) | (simp [*]; done)), (by first | rfl | (simp; done) | (simp [*]; done)), H', ⟨by have := HJ3.out; have := HK2.out; have := HK3.out; have := HK4.out; have := HJ26.out; omega⟩, ⟨by (with_reducible repeat (first | apply Kd.R_alloc | apply Kd.R_drewN | apply Kd.R_drew)); exact HO_7.out⟩, ⟨by (with_reducible repeat (first | apply Kd.R_alloc | apply Kd.R_drewN | apply Kd.R_drew)); exact HO_8.out⟩, ⟨by (with_reducible repeat (first | apply Kd.R_alloc | apply Kd.R_drewN | apply Kd.R_drew)); exact HO220.out⟩, ⟨by repeat (first | (with_reducible first | exact HB.out | apply below_alloc | apply pw_below_drewN | apply below_drew1) | exact HB.out)⟩⟩
                                        · rw [if_neg c34] at H
                                          exact absurd H (by simp)
                                      · rw [if_neg c33] at H
                                        exact absurd H (by simp)
                                    · rw [if_neg c32] at H
                                      exact absurd H (by simp)
                                  · replace c31 := Bool.eq_false_iff.mpr c31
                                    subst c31
                                    have H1 : (if x15_4 < (x8_3.length : Int) then (if 0 ≤ x15_4 then (if x9_4.length < 3518437208883 then (credenzalaw23_TellMixes.l2 kj26 x7_2 x8_3 (x9_4 ++ [(⟨(rd_T49 x8_3 x15_4).f0, (rd_T49 x8_3 x15_4).f1, (rd_T49 x8_3 x15_4).f2, (rd_T49 x8_3 x15_4).f3, (rd_T49 x8_3 x15_4).f4⟩ : S49)]) x14_4 (wrap64 (x15_4 + 1)) l2 (l2.length : Int) (wrap64 (x64_4 + 1))) else (none)) else (none)) else (credenzalaw23_TellMixes.l2 kj26 x7_2 x8_3 x9_4 x14_4 x15_4 l2 (l2.length : Int) (wrap64 (x64_4 + 1)))) = some r := by rw [if_neg (show ¬ (false = true) by decide)] at H; exact H
                                    clear H
                                    have H := H1
                                    clear H1
                                    by_cases c37 : x15_4 < (x8_3.length : Int)
                                    · rw [if_pos c37] at H
                                      have c37b0 : decide (x15_4 < (x8_3.length : Int)) = true := decide_eq_true c37
                                      clear c37
                                      by_cases c38 : 0 ≤ x15_4
                                      · rw [if_pos c38] at H
                                        have c38b0 : decide (0 ≤ x15_4) = true := decide_eq_true c38
                                        clear c38
                                        by_cases c39 : x9_4.length < 3518437208883
                                        · rw [if_pos c39] at H
                                          have LMc39 := Aside0.mk c39
                                          clear c39
                                          obtain ⟨y222, hy222⟩ : ∃ y_ : List (S49), y_ = (x9_4 ++ [(⟨(rd_T49 x8_3 x15_4).f0, (rd_T49 x8_3 x15_4).f1, (rd_T49 x8_3 x15_4).f2, (rd_T49 x8_3 x15_4).f3, (rd_T49 x8_3 x15_4).f4⟩ : S49)]) := ⟨_, rfl⟩
                                          replace H : (credenzalaw23_TellMixes.l2 kj26 x7_2 x8_3 y222 x14_4 (wrap64 (x15_4 + 1)) l2 (l2.length : Int) (wrap64 (x64_4 + 1))) = some r := by first | (rw [hy222]; with_reducible exact H) | (have H2_ := (Option.bind_some _ _).symm.trans H; rw [hy222]; with_reducible exact H2_) | (have H2_ := (Option.bind_some _ _).symm.trans H; with_reducible exact H2_) | with_reducible exact H | (rw [hy222]; exact H) | exact H
                                          have Ny222 := Aside0.mk hy222
                                          clear hy222
                                          have H' := Aside0.mk H
                                          clear H
                                          obtain ⟨Ao40, co40, eo40⟩ := Kd.R_slice HO_8.out
                                          subst eo40
                                          have p221 : 0 ≤ (x15_4 : Int) := of_decide_eq_true (by first | (with_reducible assumption) | assumption)
                                          have q221 : x15_4 < (x8_3.length : Int) := of_decide_eq_true (by first | (with_reducible assumption) | assumption)
                                          obtain ⟨ad221, e221, hx221_0, hx221_1, hx221_2, hx221_3, hx221_4⟩ := at_T49 (Kd.R_reads' HO_8.out).2.2 x15_4 p221 q221
                                          cases e221
                                          replace p221 := eq_true p221
                                          replace q221 := eq_true q221
                                          go_wp2_with (first | ((with_reducible refine gate_builtin (b := .append) (xs := #[.tmp 88, .tmp 93]) rfl ?_); (try (refine gate_guard (by rfl) ?_; dsimp only)); at_builtin; refine Kd.R_append k49 (w0 := w) w.heap.size rfl (.tmp 88) (.tmp 93) 65 49 (.agg #[(.int .i64 0), (.int .u32 0), (.int .i64 0), (.int .i64 0), (.int .i64 0)]) 40 rfl Try.underlying65 info49 rfl (by decide) (by omega) u9 x9_4 (⟨(rd_T49 x8_3 x15_4).f0, (rd_T49 x8_3 x15_4).f1, (rd_T49 x8_3 x15_4).f2, (rd_T49 x8_3 x15_4).f3, (rd_T49 x8_3 x15_4).f4⟩ : S49) [.int .i64 ((rd_T49 x8_3 x15_4).f0), .int .u32 ((rd_T49 x8_3 x15_4).f1), .int .i64 ((rd_T49 x8_3 x15_4).f2), .int .i64 ((rd_T49 x8_3 x15_4).f3), .int .i64 ((rd_T49 x8_3 x15_4).f4)] (fun k_ => some k_ ≠ (u7 : Value).ownBlock ∧ some k_ ≠ (.slice (some ad221) x8_3.length co40 : Value).ownBlock) (fun _ => False) rfl rfl ?aP (fun _ hk => hk.elim) ?aF ?aO ?aB ?aS ?aL ?_; (case aP => exact k49_mkM _ _ _ (⟨(rd_T49 x8_3 x15_4).f0, (rd_T49 x8_3 x15_4).f1, (rd_T49 x8_3 x15_4).f2, (rd_T49 x8_3 x15_4).f3, (rd_T49 x8_3 x15_4).f4⟩ : S49)); (case aB => exact (by repeat (first | (with_reducible first | exact HB.out | apply below_alloc | apply pw_below_drewN | apply below_drew1) | exact HB.out))); (case aF => exact (fun k_ hk => ⟨Kd.fresh' (Kd.R_lt (by (with_reducible repeat (first | apply Kd.R_alloc | apply Kd.R_drewN | apply Kd.R_drew)); exact HO_7.out)) k_ hk, Kd.fresh' (Kd.R_lt (by (with_reducible repeat (first | apply Kd.R_alloc | apply Kd.R_drewN | apply Kd.R_drew)); exact HO_8.out)) k_ hk⟩)); (case aO => exact (by (with_reducible repeat (first | apply Kd.R_alloc | apply Kd.R_drewN | apply Kd.R_drew)); exact HO_9.out)); (case aS => exact (below_size (by repeat (first | (with_reducible first | exact HB.out | apply below_alloc | apply pw_below_drewN | apply below_drew1) | exact HB.out)))); (case aL => have := LMc39.out; omega); intro v223 w41 ho hb hg hat; rw [← Ny222.out] at ho; have n0_ := Aside0.mk (Kd.R_after (ok := (fun k_ => some k_ ≠ (.slice (some ad221) x8_3.length co40 : Value).ownBlock)) (by (with_reducible repeat (first | apply Kd.R_alloc | apply Kd.R_drewN | apply Kd.R_drew)); exact HO_7.out) hg hat); have n1_ := Aside0.mk (Kd.R_after (ok := (fun k_ => some k_ ≠ (u7 : Value).ownBlock)) (by (with_reducible repeat (first | apply Kd.R_alloc | apply Kd.R_drewN | apply Kd.R_drew)); exact HO_8.out) hg hat); have n2_ := Aside0.mk (hb); have n3_ := Aside0.mk (ho); clear HO_7; clear HO_8; clear HB; clear HO_9; have HO_7 := n0_; have HO_8 := n1_; have HB := n2_; have HO224 := n3_; clear n0_ n1_ n2_ n3_; clear ho hb hg hat))
                                          go_roundg kj26
                                          case measure => have := HJ3.out; have := HK2.out; have := HK3.out; have := HK4.out; have := HJ26.out; omega
                                          case rel => exact ⟨(y222), (x14_4), (wrap64 (x15_4 + 1)), (wrap64 (x64_4 + 1)), (by first | rfl | (simp; done) | (simp [*]; done)), (by first | rfl | (simp; done) | (simp [*]; done)), (by first | rfl | (simp; done) | (simp [*]; done)), H', ⟨by have := HJ3.out; have := HK2.out; have := HK3.out; have := HK4.out; have := HJ26.out; omega⟩, ⟨by (with_reducible repeat (first | apply Kd.R_alloc | apply Kd.R_drewN | apply Kd.R_drew)); exact HO_7.out⟩, ⟨by (with_reducible repeat (first | apply Kd.R_alloc | apply Kd.R_drewN | apply Kd.R_drew)); exact HO_8.out⟩, ⟨by (with_reducible repeat (first | apply Kd.R_alloc | apply Kd.R_drewN | apply Kd.R_drew)); exact HO224.out⟩, ⟨by repeat (first | (with_reducible first | exact HB.out | apply below_alloc | apply pw_below_drewN | apply below_drew1) | exact HB.out)⟩⟩
                                        · rw [if_neg c39] at H
                                          exact absurd H (by simp)
                                      · rw [if_neg c38] at H
                                        exact absurd H (by simp)
                                    · rw [if_neg c37] at H
                                      have c37b0 : decide (x15_4 < (x8_3.length : Int)) = false := decide_eq_false c37
                                      clear c37
                                      have H' := Aside0.mk H
                                      clear H
                                      obtain ⟨Ao42, co42, eo42⟩ := Kd.R_slice HO_8.out
                                      subst eo42
                                      go_wp2
                                      go_roundg kj26
                                      case measure => have := HJ3.out; have := HK2.out; have := HK3.out; have := HK4.out; have := HJ26.out; omega
                                      case rel => exact ⟨(x9_4), (x14_4), (x15_4), (wrap64 (x64_4 + 1)), (by first | rfl | (simp; done) | (simp [*]; done)), (by first | rfl | (simp; done) | (simp [*]; done)), (by first | rfl | (simp; done) | (simp [*]; done)), H', ⟨by have := HJ3.out; have := HK2.out; have := HK3.out; have := HK4.out; have := HJ26.out; omega⟩, ⟨by (with_reducible repeat (first | apply Kd.R_alloc | apply Kd.R_drewN | apply Kd.R_drew)); exact HO_7.out⟩, ⟨by (with_reducible repeat (first | apply Kd.R_alloc | apply Kd.R_drewN | apply Kd.R_drew)); exact HO_8.out⟩, ⟨by (with_reducible repeat (first | apply Kd.R_alloc | apply Kd.R_drewN | apply Kd.R_drew)); exact HO_9.out⟩, ⟨by repeat (first | (with_reducible first | exact HB.out | apply below_alloc | apply pw_below_drewN | apply below_drew1) | exact HB.out)⟩⟩
                            · rw [if_neg c26] at H
                              exact absurd H (by simp)
                          · rw [if_neg c25] at H
                            exact absurd H (by simp)
                        · rw [if_neg c24] at H
                          have c24b0 : decide (x64_4 < (l2.length : Int)) = false := decide_eq_false c24
                          clear c24
                          by_cases c43 : 0 ≤ x14_4
                          · rw [if_pos c43] at H
                            have c43b0 := eq_true c43
                            have c43b1 : decide (0 ≤ x14_4) = true := decide_eq_true c43
                            clear c43
                            by_cases c44 : x14_4 ≤ (x7_2.length : Int)
                            · rw [if_pos c44] at H
                              have c44b0 := eq_true c44
                              have c44b1 : decide (x14_4 ≤ (x7_2.length : Int)) = true := decide_eq_true c44
                              clear c44
                              obtain ⟨y225, hy225⟩ : ∃ y_ : List (S49), y_ = (x7_2.drop (x14_4 : Int).toNat) := ⟨_, rfl⟩
                              replace H : (if x9_4.length + y225.length < 3518437208883 then ((some (x9_4 ++ y225 : List (S49))).bind fun y229 => (if 0 ≤ x15_4 then (if x15_4 ≤ (x8_3.length : Int) then ((some (x8_3.drop (x15_4 : Int).toNat : List (S49))).bind fun y232 => (if y229.length + y232.length < 3518437208883 then ((tell_Ordered.f (y229 ++ y232)).bind fun t239 => ((tell_Ordered.f x7_2).bind fun t240 => (if t240 = true then ((tell_Ordered.f x8_3).bind fun t241 => (if (t239 == t241) = true then ((credenzalaw23_awake.f k4).bind fun t242 => (some t242)) else (some false))) else (if (t239 == false) = true then ((credenzalaw23_awake.f k4).bind fun t243 => (some t243)) else (some false))))) else (none))) else (none)) else (none))) else (none)) = some r := by first | (rw [hy225]; with_reducible exact H) | (have H2_ := (Option.bind_some _ _).symm.trans H; rw [hy225]; with_reducible exact H2_) | (have H2_ := (Option.bind_some _ _).symm.trans H; with_reducible exact H2_) | with_reducible exact H | (rw [hy225]; exact H) | exact H
                              have Ny225 := Aside0.mk hy225
                              clear hy225
                              by_cases c45 : x9_4.length + y225.length < 3518437208883
                              · rw [if_pos c45] at H
                                have LMc45 := Aside0.mk c45
                                clear c45
                                obtain ⟨y229, hy229⟩ : ∃ y_ : List (S49), y_ = (x9_4 ++ y225) := ⟨_, rfl⟩
                                replace H : (if 0 ≤ x15_4 then (if x15_4 ≤ (x8_3.length : Int) then ((some (x8_3.drop (x15_4 : Int).toNat : List (S49))).bind fun y232 => (if y229.length + y232.length < 3518437208883 then ((tell_Ordered.f (y229 ++ y232)).bind fun t239 => ((tell_Ordered.f x7_2).bind fun t240 => (if t240 = true then ((tell_Ordered.f x8_3).bind fun t241 => (if (t239 == t241) = true then ((credenzalaw23_awake.f k4).bind fun t242 => (some t242)) else (some false))) else (if (t239 == false) = true then ((credenzalaw23_awake.f k4).bind fun t243 => (some t243)) else (some false))))) else (none))) else (none)) else (none)) = some r := by first | (rw [hy229]; with_reducible exact H) | (have H2_ := (Option.bind_some _ _).symm.trans H; rw [hy229]; with_reducible exact H2_) | (have H2_ := (Option.bind_some _ _).symm.trans H; with_reducible exact H2_) | with_reducible exact H | (rw [hy229]; exact H) | exact H
                                have Ny229 := Aside0.mk hy229
                                clear hy229
                                by_cases c46 : 0 ≤ x15_4
                                · rw [if_pos c46] at H
                                  have c46b0 := eq_true c46
                                  have c46b1 : decide (0 ≤ x15_4) = true := decide_eq_true c46
                                  clear c46
                                  by_cases c47 : x15_4 ≤ (x8_3.length : Int)
                                  · rw [if_pos c47] at H
                                    have c47b0 := eq_true c47
                                    have c47b1 : decide (x15_4 ≤ (x8_3.length : Int)) = true := decide_eq_true c47
                                    clear c47
                                    obtain ⟨y232, hy232⟩ : ∃ y_ : List (S49), y_ = (x8_3.drop (x15_4 : Int).toNat) := ⟨_, rfl⟩
                                    replace H : (if y229.length + y232.length < 3518437208883 then ((tell_Ordered.f (y229 ++ y232)).bind fun t239 => ((tell_Ordered.f x7_2).bind fun t240 => (if t240 = true then ((tell_Ordered.f x8_3).bind fun t241 => (if (t239 == t241) = true then ((credenzalaw23_awake.f k4).bind fun t242 => (some t242)) else (some false))) else (if (t239 == false) = true then ((credenzalaw23_awake.f k4).bind fun t243 => (some t243)) else (some false))))) else (none)) = some r := by first | (rw [hy232]; with_reducible exact H) | (have H2_ := (Option.bind_some _ _).symm.trans H; rw [hy232]; with_reducible exact H2_) | (have H2_ := (Option.bind_some _ _).symm.trans H; with_reducible exact H2_) | with_reducible exact H | (rw [hy232]; exact H) | exact H
                                    have Ny232 := Aside0.mk hy232
                                    clear hy232
                                    by_cases c48 : y229.length + y232.length < 3518437208883
                                    · rw [if_pos c48] at H
                                      have LMc48 := Aside0.mk c48
                                      clear c48
                                      obtain ⟨y236, hy236⟩ : ∃ y_ : List (S49), y_ = (y229 ++ y232) := ⟨_, rfl⟩
                                      replace H : ((tell_Ordered.f y236).bind fun t239 => ((tell_Ordered.f x7_2).bind fun t240 => (if t240 = true then ((tell_Ordered.f x8_3).bind fun t241 => (if (t239 == t241) = true then ((credenzalaw23_awake.f k4).bind fun t242 => (some t242)) else (some false))) else (if (t239 == false) = true then ((credenzalaw23_awake.f k4).bind fun t243 => (some t243)) else (some false))))) = some r := by first | (rw [hy236]; with_reducible exact H) | (have H2_ := (Option.bind_some _ _).symm.trans H; rw [hy236]; with_reducible exact H2_) | (have H2_ := (Option.bind_some _ _).symm.trans H; with_reducible exact H2_) | with_reducible exact H | (rw [hy236]; exact H) | exact H
                                      have Ny236 := Aside0.mk hy236
                                      clear hy236
                                      replace H := Option.bind_eq_some_iff.mp H
                                      obtain ⟨t239, A490, H⟩ := H
                                      replace H : ((tell_Ordered.f x7_2).bind fun t240 => (if t240 = true then ((tell_Ordered.f x8_3).bind fun t241 => (if (t239 == t241) = true then ((credenzalaw23_awake.f k4).bind fun t242 => (some t242)) else (some false))) else (if (t239 == false) = true then ((credenzalaw23_awake.f k4).bind fun t243 => (some t243)) else (some false)))) = some r := H
                                      have A49 := Aside0.mk A490
                                      clear A490
                                      replace H := Option.bind_eq_some_iff.mp H
                                      obtain ⟨t240, A500, H⟩ := H
                                      replace H : (if t240 = true then ((tell_Ordered.f x8_3).bind fun t241 => (if (t239 == t241) = true then ((credenzalaw23_awake.f k4).bind fun t242 => (some t242)) else (some false))) else (if (t239 == false) = true then ((credenzalaw23_awake.f k4).bind fun t243 => (some t243)) else (some false))) = some r := H
                                      have A50 := Aside0.mk A500
                                      clear A500
                                      by_cases c51 : t240 = true
                                      · subst c51
                                        have H1 : ((tell_Ordered.f x8_3).bind fun t241 => (if (t239 == t241) = true then ((credenzalaw23_awake.f k4).bind fun t242 => (some t242)) else (some false))) = some r := by rw [if_pos rfl] at H; exact H
                                        clear H
                                        have H := H1
                                        clear H1
                                        replace H := Option.bind_eq_some_iff.mp H
                                        obtain ⟨t241, A520, H⟩ := H
                                        replace H : (if (t239 == t241) = true then ((credenzalaw23_awake.f k4).bind fun t242 => (some t242)) else (some false)) = some r := H
                                        have A52 := Aside0.mk A520
                                        clear A520
                                        by_cases c53 : (t239 == t241) = true
                                        · rw [if_pos c53] at H
                                          have c53b0 : (t239 == t241) = true := c53
                                          (try (have c53b1 : decide (t239 = t241) = true := by simpa using c53))
                                          (try (have c53b2 : (t239 == t241) = true := by simpa using c53))
                                          clear c53
                                          replace H := Option.bind_eq_some_iff.mp H
                                          obtain ⟨t242, A540, H⟩ := H
                                          replace H : (some t242) = some r := H
                                          have A54 := Aside0.mk A540
                                          clear A540
                                          obtain rfl := Option.some.inj H
                                          try go_wp2
                                          have n0_ := Aside0.mk (Kd.R_drew HO_7.out)
                                          have n1_ := Aside0.mk (Kd.R_drew HO_8.out)
                                          have n2_ := Aside0.mk (Kd.R_drew HO_9.out)
                                          have n3_ := Aside0.mk (below_drew1 HB.out)
                                          clear HO_7
                                          clear HO_8
                                          clear HO_9
                                          clear HB
                                          have HO_7 := n0_
                                          have HO_8 := n1_
                                          have HO_9 := n2_
                                          have HB := n3_
                                          clear n0_ n1_ n2_ n3_
                                          obtain ⟨Ao57, co57, eo57⟩ := Kd.R_slice HO_7.out
                                          (first | subst eo57 | (injection eo57 with f1_ f2_ f3_; have f4_ := f1_.symm; have f5_ := f3_.symm; clear f1_ f2_ f3_; subst f4_; subst f5_))
                                          have q56 : (x14_4 : Int) ≤ ((x7_2.length : Int) : Int) := of_decide_eq_true (by first | (with_reducible assumption) | assumption)
                                          obtain ⟨i056, hi056, _, hsz56, _⟩ := info_parts info49
                                          have hroom56 : x7_2.length ≤ co57 := (Kd.R_reads' HO_7.out).2.1
                                          have hC56 : Kd.C k49 _ Ao57 x7_2.length x7_2 := (Kd.R_reads' HO_7.out).2.2
                                          have q056 : (0 : Int) ≤ (x14_4 : Int) := of_decide_eq_true (by first | (with_reducible assumption) | assumption)
                                          have hcut56 := cut_from (P := Try.prog) 65 49 .i64 Try.underlying65 hi056 5 hsz56 Ao57 x7_2.length co57 x14_4 q056 q56
                                          have hr56 := Kd.C_drop (m := (x14_4 : Int).toNat) (c := co57) hC56 (by omega) hroom56
                                          obtain ⟨A56, hA56⟩ : ∃ A1, A1 = (if co57 = (x14_4 : Int).toNat then Ao57 else (Ao57 : Option Addr).map (·.add ((x14_4 : Int).toNat * 5))) := ⟨_, rfl⟩
                                          obtain ⟨c56, hc56⟩ : ∃ c1, c1 = co57 - (x14_4 : Int).toNat := ⟨_, rfl⟩
                                          have hy56 : y225.length = x7_2.length - (x14_4 : Int).toNat := (by rw [Ny225.out, List.length_drop] <;> omega)
                                          rw [show (x7_2).drop (x14_4 : Int).toNat = y225 from Ny225.out.symm] at hr56
                                          replace hr56 : Kd.C k49 _ A56 y225.length y225 := (by rw [hA56]; exact hr56)
                                          rw [← hy56, ← hA56, ← hc56] at hcut56
                                          have HR228 := Aside0.mk hr56
                                          have HC228 := Aside0.mk (show y225.length ≤ c56 from by rw [hy56, hc56]; exact Nat.sub_le_sub_right hroom56 _)
                                          clear hr56 hC56 hroom56 hi056 hsz56 hc56
                                          have KY56 := Aside0.mk hy56
                                          have KA56 := Aside0.mk hA56
                                          clear hy56 hA56
                                          have KL56 := Aside0.mk (show (x14_4 : Int).toNat ≤ x7_2.length from by omega)
                                          replace q56 := eq_true q56
                                          obtain ⟨Ao59, co59, eo59⟩ := Kd.R_slice HO_8.out
                                          (first | subst eo59 | (injection eo59 with f1_ f2_ f3_; have f4_ := f1_.symm; have f5_ := f3_.symm; clear f1_ f2_ f3_; subst f4_; subst f5_))
                                          have q58 : (x15_4 : Int) ≤ ((x8_3.length : Int) : Int) := of_decide_eq_true (by first | (with_reducible assumption) | assumption)
                                          obtain ⟨i058, hi058, _, hsz58, _⟩ := info_parts info49
                                          have hroom58 : x8_3.length ≤ co59 := (Kd.R_reads' HO_8.out).2.1
                                          have hC58 : Kd.C k49 _ Ao59 x8_3.length x8_3 := (Kd.R_reads' HO_8.out).2.2
                                          have q058 : (0 : Int) ≤ (x15_4 : Int) := of_decide_eq_true (by first | (with_reducible assumption) | assumption)
                                          have hcut58 := cut_from (P := Try.prog) 65 49 .i64 Try.underlying65 hi058 5 hsz58 Ao59 x8_3.length co59 x15_4 q058 q58
                                          have hr58 := Kd.C_drop (m := (x15_4 : Int).toNat) (c := co59) hC58 (by omega) hroom58
                                          obtain ⟨A58, hA58⟩ : ∃ A1, A1 = (if co59 = (x15_4 : Int).toNat then Ao59 else (Ao59 : Option Addr).map (·.add ((x15_4 : Int).toNat * 5))) := ⟨_, rfl⟩
                                          obtain ⟨c58, hc58⟩ : ∃ c1, c1 = co59 - (x15_4 : Int).toNat := ⟨_, rfl⟩
                                          have hy58 : y232.length = x8_3.length - (x15_4 : Int).toNat := (by rw [Ny232.out, List.length_drop] <;> omega)
                                          rw [show (x8_3).drop (x15_4 : Int).toNat = y232 from Ny232.out.symm] at hr58
                                          replace hr58 : Kd.C k49 _ A58 y232.length y232 := (by rw [hA58]; exact hr58)
                                          rw [← hy58, ← hA58, ← hc58] at hcut58
                                          have HR235 := Aside0.mk hr58
                                          have HC235 := Aside0.mk (show y232.length ≤ c58 from by rw [hy58, hc58]; exact Nat.sub_le_sub_right hroom58 _)
                                          clear hr58 hC58 hroom58 hi058 hsz58 hc58
                                          have KY58 := Aside0.mk hy58
                                          have KA58 := Aside0.mk hA58
                                          clear hy58 hA58
                                          have KL58 := Aside0.mk (show (x15_4 : Int).toNat ≤ x8_3.length from by omega)
                                          replace q58 := eq_true q58
                                          refine start_ (n := 10) (S := fun w' => True) (ds := []) #[false, false, false, false, false, false, false, false, false, false] (by kernel_rfl) rfl rfl trivial (fun hHeld => ?_); refine with_tabW credenzalaw23_TellMixes.tab27 credenzalaw23_TellMixes.bits27 (fun HT_ HW_ => ?_)
                                          generalize wr.drew = w55 at HO_7 HO_8 HO_9 HB HR228 HR235 hHeld ⊢
                                          refine pure_ (i := 0) (N := some 98) (v := ?_) (a' := ?_) #[true, false, false, false, false, false, false, false, false, false] rfl rfl (any_of HT_.out (by kernel_rfl)) (fun _ _ _ h => h) (Or.inl ⟨by rfl, ?_⟩) ?_ ?_
                                          rotate_left
                                          · intro w'
                                            go_simp
                                            with_reducible rfl
                                          rotate_left
                                          · simp only [Act.put, List.setIfInBounds_toArray, List.set_cons_zero, List.set_cons_succ, i64_w, i32_w, IntKind.wrap_u32]
                                            rfl
                                          refine pure_ (i := 1) (N := some 99) (v := ?_) (a' := ?_) #[true, true, false, false, false, false, false, false, false, false] rfl rfl (any_of HT_.out (by kernel_rfl)) (fun _ _ _ h => h) (Or.inl ⟨by rfl, ?_⟩) ?_ ?_
                                          rotate_left
                                          · intro w'
                                            go_simp
                                            with_reducible rfl
                                          rotate_left
                                          · simp only [Act.put, List.setIfInBounds_toArray, List.set_cons_zero, List.set_cons_succ, i64_w, i32_w, IntKind.wrap_u32]
                                            rfl
                                          refine pure_ (i := 2) (N := some 100) (v := ?_) (a' := ?_) #[true, true, true, false, false, false, false, false, false, false] rfl rfl (any_of HT_.out (by kernel_rfl)) (fun _ _ _ h => h) (Or.inl ⟨by rfl, ?_⟩) ?_ ?_
                                          rotate_left
                                          · intro w'
                                            go_simp
                                            with_reducible rfl
                                          rotate_left
                                          · simp only [Act.put, List.setIfInBounds_toArray, List.set_cons_zero, List.set_cons_succ, i64_w, i32_w, IntKind.wrap_u32]
                                            rfl
                                          refine pure_ (i := 3) (N := some 101) (v := ?_) (a' := ?_) #[true, true, true, true, false, false, false, false, false, false] rfl rfl (any_of HT_.out (by kernel_rfl)) (fun _ _ _ h => h) (Or.inl ⟨by rfl, ?_⟩) ?_ ?_
                                          rotate_left
                                          · intro w'
                                            go_simp
                                            with_reducible rfl
                                          rotate_left
                                          · simp only [Act.put, List.setIfInBounds_toArray, List.set_cons_zero, List.set_cons_succ, i64_w, i32_w, IntKind.wrap_u32]
                                            rfl
                                          refine pure_ (i := 5) (N := some 103) (v := ?_) (a' := ?_) #[true, true, true, true, false, true, false, false, false, false] rfl rfl (any_of HT_.out (by kernel_rfl)) (fun _ _ _ h => h) (Or.inl ⟨by rfl, ?_⟩) ?_ ?_
                                          rotate_left
                                          · intro w'
                                            go_simp
                                            with_reducible rfl
                                          rotate_left
                                          · simp only [Act.put, List.setIfInBounds_toArray, List.set_cons_zero, List.set_cons_succ, i64_w, i32_w, IntKind.wrap_u32]
                                            rfl
                                          refine pure_ (i := 6) (N := some 104) (v := ?_) (a' := ?_) #[true, true, true, true, false, true, true, false, false, false] rfl rfl (any_of HT_.out (by kernel_rfl)) (fun _ _ _ h => h) (Or.inl ⟨by rfl, ?_⟩) ?_ ?_
                                          rotate_left
                                          · intro w'
                                            go_simp
                                            with_reducible rfl
                                          rotate_left
                                          · simp only [Act.put, List.setIfInBounds_toArray, List.set_cons_zero, List.set_cons_succ, i64_w, i32_w, IntKind.wrap_u32]
                                            rfl
                                          refine pure_ (i := 7) (N := some 105) (v := ?_) (a' := ?_) #[true, true, true, true, false, true, true, true, false, false] rfl rfl (any_of HT_.out (by kernel_rfl)) (fun _ _ _ h => h) (Or.inl ⟨by rfl, ?_⟩) ?_ ?_
                                          rotate_left
                                          · intro w'
                                            go_simp
                                            with_reducible rfl
                                          rotate_left
                                          · simp only [Act.put, List.setIfInBounds_toArray, List.set_cons_zero, List.set_cons_succ, i64_w, i32_w, IntKind.wrap_u32]
                                            rfl
                                          refine one_ (i := 4) (N := some 102) #[true, true, true, true, true, true, true, true, false, false] rfl rfl (one_of HT_.out (by kernel_rfl)) (by decide) (fun K hK => ?_)
                                          refine Kd.R_append_rows_step k49 (w0 := w) w.heap.size (by rfl) (.tmp 98) (.tmp 101) 65 49 (.agg #[(.int .i64 0), (.int .u32 0), (.int .i64 0), (.int .i64 0), (.int .i64 0)]) 40 rfl Try.underlying65 info49 rfl (by decide) (by omega) u9 x9_4 y225 _ _ _ (fun k_ => some k_ ≠ (.slice Ao57 x7_2.length co57 : Value).ownBlock ∧ some k_ ≠ (.slice Ao59 x8_3.length co59 : Value).ownBlock) (fun _ => False) rfl rfl ?aO ?aR (fun _ _ h => h) (fun _ h => h.elim) ?aF ?aB ?aS ?aL ?_
                                          (case aR => repeat (first | exact (by repeat (first | (with_reducible exact HR228.out) | (with_reducible refine Kd.C_alloc ?_ _) | (with_reducible refine Kd.C_drewN ?_ _) | (with_reducible refine Kd.C_drew ?_) | exact HR228.out)) | (with_reducible refine Kd.C_alloc ?_ _) | (with_reducible refine Kd.C_drewN ?_ _) | (with_reducible refine Kd.C_drew ?_)))
                                          (case aB => exact (by repeat (first | (with_reducible first | exact HB.out | apply below_alloc | apply pw_below_drewN | apply below_drew1) | exact HB.out)))
                                          (case aF => exact (fun k_ hk => ⟨Kd.fresh' (Kd.R_lt (by (with_reducible repeat (first | apply Kd.R_alloc | apply Kd.R_drewN | apply Kd.R_drew)); exact HO_7.out)) k_ hk, Kd.fresh' (Kd.R_lt (by (with_reducible repeat (first | apply Kd.R_alloc | apply Kd.R_drewN | apply Kd.R_drew)); exact HO_8.out)) k_ hk⟩))
                                          (case aO => exact (by (with_reducible repeat (first | apply Kd.R_alloc | apply Kd.R_drewN | apply Kd.R_drew)); exact HO_9.out))
                                          (case aS => exact (below_size (by repeat (first | (with_reducible first | exact HB.out | apply below_alloc | apply pw_below_drewN | apply below_drew1) | exact HB.out))))
                                          (case aL => have := LMc45.out; omega)
                                          intro v230 w60 ho hb hg hat
                                          rw [← Ny229.out] at ho
                                          have n0_ := Aside0.mk (Kd.R_after (ok := (fun k_ => some k_ ≠ (.slice Ao59 x8_3.length co59 : Value).ownBlock)) (by (with_reducible repeat (first | apply Kd.R_alloc | apply Kd.R_drewN | apply Kd.R_drew)); exact HO_7.out) hg hat)
                                          have n1_ := Aside0.mk (Kd.R_after (ok := (fun k_ => some k_ ≠ (.slice Ao57 x7_2.length co57 : Value).ownBlock)) (by (with_reducible repeat (first | apply Kd.R_alloc | apply Kd.R_drewN | apply Kd.R_drew)); exact HO_8.out) hg hat)
                                          have n2_ := Aside0.mk (hb)
                                          have n3_ := Aside0.mk ((show Kd.C k49 w60 A56 y225.length y225 from by rw [Ny225.out, KA56.out]; exact Kd.C_drop (m := (x14_4 : Int).toNat) (c := co57) ((Kd.R_reads' (Kd.R_after (ok := (fun k_ => some k_ ≠ (.slice Ao59 x8_3.length co59 : Value).ownBlock)) (by (with_reducible repeat (first | apply Kd.R_alloc | apply Kd.R_drewN | apply Kd.R_drew)); exact HO_7.out) hg hat)).2.2) KL56.out ((Kd.R_reads' (Kd.R_after (ok := (fun k_ => some k_ ≠ (.slice Ao59 x8_3.length co59 : Value).ownBlock)) (by (with_reducible repeat (first | apply Kd.R_alloc | apply Kd.R_drewN | apply Kd.R_drew)); exact HO_7.out) hg hat)).2.1)))
                                          have n4_ := Aside0.mk ((show Kd.C k49 w60 A58 y232.length y232 from by rw [Ny232.out, KA58.out]; exact Kd.C_drop (m := (x15_4 : Int).toNat) (c := co59) ((Kd.R_reads' (Kd.R_after (ok := (fun k_ => some k_ ≠ (.slice Ao57 x7_2.length co57 : Value).ownBlock)) (by (with_reducible repeat (first | apply Kd.R_alloc | apply Kd.R_drewN | apply Kd.R_drew)); exact HO_8.out) hg hat)).2.2) KL58.out ((Kd.R_reads' (Kd.R_after (ok := (fun k_ => some k_ ≠ (.slice Ao57 x7_2.length co57 : Value).ownBlock)) (by (with_reducible repeat (first | apply Kd.R_alloc | apply Kd.R_drewN | apply Kd.R_drew)); exact HO_8.out) hg hat)).2.1)))
                                          have n5_ := Aside0.mk (ho)
                                          clear HO_7
                                          clear HO_8
                                          clear HB
                                          clear HR228
                                          clear HR235
                                          clear HO_9
                                          have HO_7 := n0_
                                          have HO_8 := n1_
                                          have HB := n2_
                                          have HR228 := n3_
                                          have HR235 := n4_
                                          have HO231 := n5_
                                          clear n0_ n1_ n2_ n3_ n4_ n5_
                                          clear ho hb hg hat
                                          refine hK.out _ _ trivial (fun hHeld => ?_)
                                          clear hK K
                                          refine norm_ (a' := ?_) ?_ ?_
                                          rotate_left
                                          · show Act.put _ (some 102) _ = _
                                            simp only [Act.put, List.setIfInBounds_toArray, List.set_cons_zero, List.set_cons_succ, i64_w, i32_w, IntKind.wrap_u32]
                                            rfl
                                          refine one_ (i := 8) (N := some 106) #[true, true, true, true, true, true, true, true, true, false] rfl rfl (one_of HT_.out (by kernel_rfl)) (by decide) (fun K hK => ?_)
                                          refine Kd.R_append_rows_step k49 (w0 := w) w.heap.size (by rfl) (.tmp 102) (.tmp 105) 65 49 (.agg #[(.int .i64 0), (.int .u32 0), (.int .i64 0), (.int .i64 0), (.int .i64 0)]) 40 rfl Try.underlying65 info49 rfl (by decide) (by omega) v230 y229 y232 _ _ _ (fun k_ => some k_ ≠ (.slice Ao57 x7_2.length co57 : Value).ownBlock ∧ some k_ ≠ (.slice Ao59 x8_3.length co59 : Value).ownBlock) (fun _ => False) rfl rfl ?aO ?aR (fun _ _ h => h) (fun _ h => h.elim) ?aF ?aB ?aS ?aL ?_
                                          (case aR => repeat (first | exact (by repeat (first | (with_reducible exact HR235.out) | (with_reducible refine Kd.C_alloc ?_ _) | (with_reducible refine Kd.C_drewN ?_ _) | (with_reducible refine Kd.C_drew ?_) | exact HR235.out)) | (with_reducible refine Kd.C_alloc ?_ _) | (with_reducible refine Kd.C_drewN ?_ _) | (with_reducible refine Kd.C_drew ?_)))
                                          (case aB => exact (by repeat (first | (with_reducible first | exact HB.out | apply below_alloc | apply pw_below_drewN | apply below_drew1) | exact HB.out)))
                                          (case aF => exact (fun k_ hk => ⟨Kd.fresh' (Kd.R_lt (by (with_reducible repeat (first | apply Kd.R_alloc | apply Kd.R_drewN | apply Kd.R_drew)); exact HO_7.out)) k_ hk, Kd.fresh' (Kd.R_lt (by (with_reducible repeat (first | apply Kd.R_alloc | apply Kd.R_drewN | apply Kd.R_drew)); exact HO_8.out)) k_ hk⟩))
                                          (case aO => exact (by (with_reducible repeat (first | apply Kd.R_alloc | apply Kd.R_drewN | apply Kd.R_drew)); exact HO231.out))
                                          (case aS => exact (below_size (by repeat (first | (with_reducible first | exact HB.out | apply below_alloc | apply pw_below_drewN | apply below_drew1) | exact HB.out))))
                                          (case aL => have := LMc48.out; omega)
                                          intro v237 w61 ho hb hg hat
                                          rw [← Ny236.out] at ho
                                          have n0_ := Aside0.mk (Kd.R_after (ok := (fun k_ => some k_ ≠ (.slice Ao59 x8_3.length co59 : Value).ownBlock)) (by (with_reducible repeat (first | apply Kd.R_alloc | apply Kd.R_drewN | apply Kd.R_drew)); exact HO_7.out) hg hat)
                                          have n1_ := Aside0.mk (Kd.R_after (ok := (fun k_ => some k_ ≠ (.slice Ao57 x7_2.length co57 : Value).ownBlock)) (by (with_reducible repeat (first | apply Kd.R_alloc | apply Kd.R_drewN | apply Kd.R_drew)); exact HO_8.out) hg hat)
                                          have n2_ := Aside0.mk (hb)
                                          have n3_ := Aside0.mk ((show Kd.C k49 w61 A56 y225.length y225 from by rw [Ny225.out, KA56.out]; exact Kd.C_drop (m := (x14_4 : Int).toNat) (c := co57) ((Kd.R_reads' (Kd.R_after (ok := (fun k_ => some k_ ≠ (.slice Ao59 x8_3.length co59 : Value).ownBlock)) (by (with_reducible repeat (first | apply Kd.R_alloc | apply Kd.R_drewN | apply Kd.R_drew)); exact HO_7.out) hg hat)).2.2) KL56.out ((Kd.R_reads' (Kd.R_after (ok := (fun k_ => some k_ ≠ (.slice Ao59 x8_3.length co59 : Value).ownBlock)) (by (with_reducible repeat (first | apply Kd.R_alloc | apply Kd.R_drewN | apply Kd.R_drew)); exact HO_7.out) hg hat)).2.1)))
                                          have n4_ := Aside0.mk ((show Kd.C k49 w61 A58 y232.length y232 from by rw [Ny232.out, KA58.out]; exact Kd.C_drop (m := (x15_4 : Int).toNat) (c := co59) ((Kd.R_reads' (Kd.R_after (ok := (fun k_ => some k_ ≠ (.slice Ao57 x7_2.length co57 : Value).ownBlock)) (by (with_reducible repeat (first | apply Kd.R_alloc | apply Kd.R_drewN | apply Kd.R_drew)); exact HO_8.out) hg hat)).2.2) KL58.out ((Kd.R_reads' (Kd.R_after (ok := (fun k_ => some k_ ≠ (.slice Ao57 x7_2.length co57 : Value).ownBlock)) (by (with_reducible repeat (first | apply Kd.R_alloc | apply Kd.R_drewN | apply Kd.R_drew)); exact HO_8.out) hg hat)).2.1)))
                                          have n5_ := Aside0.mk (ho)
                                          clear HO_7
                                          clear HO_8
                                          clear HB
                                          clear HR228
                                          clear HR235
                                          clear HO231
                                          have HO_7 := n0_
                                          have HO_8 := n1_
                                          have HB := n2_
                                          have HR228 := n3_
                                          have HR235 := n4_
                                          have HO238 := n5_
                                          clear n0_ n1_ n2_ n3_ n4_ n5_
                                          clear ho hb hg hat
                                          refine hK.out _ _ trivial (fun hHeld => ?_)
                                          clear hK K
                                          refine norm_ (a' := ?_) ?_ ?_
                                          rotate_left
                                          · show Act.put _ (some 106) _ = _
                                            simp only [Act.put, List.setIfInBounds_toArray, List.set_cons_zero, List.set_cons_succ, i64_w, i32_w, IntKind.wrap_u32]
                                            rfl
                                          refine pure_ (i := 9) (N := some 9) (v := ?_) (a' := ?_) #[true, true, true, true, true, true, true, true, true, true] rfl rfl (any_of HT_.out (by kernel_rfl)) (fun _ _ _ h => h) (Or.inl ⟨by rfl, ?_⟩) ?_ ?_
                                          rotate_left
                                          · intro w'
                                            go_simp
                                            with_reducible rfl
                                          rotate_left
                                          · simp only [Act.put, List.setIfInBounds_toArray, List.set_cons_zero, List.set_cons_succ, i64_w, i32_w, IntKind.wrap_u32]
                                            rfl
                                          refine done_ (done_of HT_.out (by kernel_rfl)) ?_
                                          obtain ⟨Ao62, co62, eo62⟩ := Kd.R_slice HO238.out
                                          subst eo62
                                          try go_wp2_with (first | ((with_reducible refine gate_callee (f := 36) rfl ?_); refine goesL_ (some 108) rfl rfl Try.func36 (by kernel_rfl) rfl #[.slice Ao62 y236.length co62] rfl (by (try simp only [List.map_toArray, List.map_cons, List.map_nil]); first | done | rfl | (simp only [List.length_drop, List.length_take]; rfl)) ?_; (with_reducible refine (tell_Ordered.calls _ _ y236 t239 _ ?side1 ?side2 A49.out).mono ?_); (case side1 => repeat (first | exact (Kd.R_reads' HO238.out).2.2 | (with_reducible refine Kd.C_alloc ?_ _) | (with_reducible refine Kd.C_drewN ?_ _) | (with_reducible refine Kd.C_drew ?_))); (case side2 => exact (Kd.R_reads' HO238.out).2.1); rintro e w63 ⟨rfl, hb⟩; refine ⟨_, rfl, ?_⟩; have n0_ := Aside0.mk (Kd.R_below (by (with_reducible repeat (first | apply Kd.R_alloc | apply Kd.R_drewN | apply Kd.R_drew)); exact HO_7.out) hb); have n1_ := Aside0.mk (Kd.R_below (by (with_reducible repeat (first | apply Kd.R_alloc | apply Kd.R_drewN | apply Kd.R_drew)); exact HO_8.out) hb); have n2_ := Aside0.mk (Kd.R_below (by (with_reducible repeat (first | apply Kd.R_alloc | apply Kd.R_drewN | apply Kd.R_drew)); exact HO238.out) hb); have n3_ := Aside0.mk (Kd.C_below (by repeat (first | (with_reducible exact HR228.out) | (with_reducible refine Kd.C_alloc ?_ _) | (with_reducible refine Kd.C_drewN ?_ _) | (with_reducible refine Kd.C_drew ?_) | exact HR228.out)) hb); have n4_ := Aside0.mk (Kd.C_below (by repeat (first | (with_reducible exact HR235.out) | (with_reducible refine Kd.C_alloc ?_ _) | (with_reducible refine Kd.C_drewN ?_ _) | (with_reducible refine Kd.C_drew ?_) | exact HR235.out)) hb); have n5_ := Aside0.mk (below_step (by repeat (first | (with_reducible first | exact HB.out | apply below_alloc | apply pw_below_drewN | apply below_drew1) | exact HB.out)) hb); clear HO_7; clear HO_8; clear HO238; clear HR228; clear HR235; clear HB; have HO_7 := n0_; have HO_8 := n1_; have HO238 := n2_; have HR228 := n3_; have HR235 := n4_; have HB := n5_; clear n0_ n1_ n2_ n3_ n4_ n5_; (try clear hb); (try clear hb2); (try clear hk); (try clear hi)) | ((with_reducible refine gate_callee (f := 36) rfl ?_); refine goesL_ (some 110) rfl rfl Try.func36 (by kernel_rfl) rfl #[.slice Ao57 x7_2.length co57] rfl (by (try simp only [List.map_toArray, List.map_cons, List.map_nil]); first | done | rfl | (simp only [List.length_drop, List.length_take]; rfl)) ?_; (with_reducible refine (tell_Ordered.calls _ _ x7_2 true _ ?side1 ?side2 A50.out).mono ?_); (case side1 => repeat (first | exact (Kd.R_reads' HO_7.out).2.2 | (with_reducible refine Kd.C_alloc ?_ _) | (with_reducible refine Kd.C_drewN ?_ _) | (with_reducible refine Kd.C_drew ?_))); (case side2 => exact (Kd.R_reads' HO_7.out).2.1); rintro e w64 ⟨rfl, hb⟩; refine ⟨_, rfl, ?_⟩; have n0_ := Aside0.mk (Kd.R_below (by (with_reducible repeat (first | apply Kd.R_alloc | apply Kd.R_drewN | apply Kd.R_drew)); exact HO_7.out) hb); have n1_ := Aside0.mk (Kd.R_below (by (with_reducible repeat (first | apply Kd.R_alloc | apply Kd.R_drewN | apply Kd.R_drew)); exact HO_8.out) hb); have n2_ := Aside0.mk (Kd.R_below (by (with_reducible repeat (first | apply Kd.R_alloc | apply Kd.R_drewN | apply Kd.R_drew)); exact HO238.out) hb); have n3_ := Aside0.mk (Kd.C_below (by repeat (first | (with_reducible exact HR228.out) | (with_reducible refine Kd.C_alloc ?_ _) | (with_reducible refine Kd.C_drewN ?_ _) | (with_reducible refine Kd.C_drew ?_) | exact HR228.out)) hb); have n4_ := Aside0.mk (Kd.C_below (by repeat (first | (with_reducible exact HR235.out) | (with_reducible refine Kd.C_alloc ?_ _) | (with_reducible refine Kd.C_drewN ?_ _) | (with_reducible refine Kd.C_drew ?_) | exact HR235.out)) hb); have n5_ := Aside0.mk (below_step (by repeat (first | (with_reducible first | exact HB.out | apply below_alloc | apply pw_below_drewN | apply below_drew1) | exact HB.out)) hb); clear HO_7; clear HO_8; clear HO238; clear HR228; clear HR235; clear HB; have HO_7 := n0_; have HO_8 := n1_; have HO238 := n2_; have HR228 := n3_; have HR235 := n4_; have HB := n5_; clear n0_ n1_ n2_ n3_ n4_ n5_; (try clear hb); (try clear hb2); (try clear hk); (try clear hi)) | (go_at_call 36; (with_reducible refine (tell_Ordered.calls _ _ x8_3 t241 _ ?side1 ?side2 A52.out).mono ?_); (case side1 => repeat (first | exact (Kd.R_reads' HO_8.out).2.2 | (with_reducible refine Kd.C_alloc ?_ _) | (with_reducible refine Kd.C_drewN ?_ _) | (with_reducible refine Kd.C_drew ?_))); (case side2 => exact (Kd.R_reads' HO_8.out).2.1); rintro e w65 ⟨rfl, hb⟩; have n0_ := Aside0.mk (Kd.R_below (by (with_reducible repeat (first | apply Kd.R_alloc | apply Kd.R_drewN | apply Kd.R_drew)); exact HO_7.out) hb); have n1_ := Aside0.mk (Kd.R_below (by (with_reducible repeat (first | apply Kd.R_alloc | apply Kd.R_drewN | apply Kd.R_drew)); exact HO_8.out) hb); have n2_ := Aside0.mk (Kd.R_below (by (with_reducible repeat (first | apply Kd.R_alloc | apply Kd.R_drewN | apply Kd.R_drew)); exact HO238.out) hb); have n3_ := Aside0.mk (Kd.C_below (by repeat (first | (with_reducible exact HR228.out) | (with_reducible refine Kd.C_alloc ?_ _) | (with_reducible refine Kd.C_drewN ?_ _) | (with_reducible refine Kd.C_drew ?_) | exact HR228.out)) hb); have n4_ := Aside0.mk (Kd.C_below (by repeat (first | (with_reducible exact HR235.out) | (with_reducible refine Kd.C_alloc ?_ _) | (with_reducible refine Kd.C_drewN ?_ _) | (with_reducible refine Kd.C_drew ?_) | exact HR235.out)) hb); have n5_ := Aside0.mk (below_step (by repeat (first | (with_reducible first | exact HB.out | apply below_alloc | apply pw_below_drewN | apply below_drew1) | exact HB.out)) hb); clear HO_7; clear HO_8; clear HO238; clear HR228; clear HR235; clear HB; have HO_7 := n0_; have HO_8 := n1_; have HO238 := n2_; have HR228 := n3_; have HR235 := n4_; have HB := n5_; clear n0_ n1_ n2_ n3_ n4_ n5_; (try clear hb); (try clear hb2); (try clear hk); (try clear hi)) | (go_at_call 32; (with_reducible refine (credenzalaw23_awake.calls k4  t242 _ A54.out).mono ?_); rintro e w66 ⟨rfl, hb⟩; have n0_ := Aside0.mk (Kd.R_below (by (with_reducible repeat (first | apply Kd.R_alloc | apply Kd.R_drewN | apply Kd.R_drew)); exact HO_7.out) hb); have n1_ := Aside0.mk (Kd.R_below (by (with_reducible repeat (first | apply Kd.R_alloc | apply Kd.R_drewN | apply Kd.R_drew)); exact HO_8.out) hb); have n2_ := Aside0.mk (Kd.R_below (by (with_reducible repeat (first | apply Kd.R_alloc | apply Kd.R_drewN | apply Kd.R_drew)); exact HO238.out) hb); have n3_ := Aside0.mk (Kd.C_below (by repeat (first | (with_reducible exact HR228.out) | (with_reducible refine Kd.C_alloc ?_ _) | (with_reducible refine Kd.C_drewN ?_ _) | (with_reducible refine Kd.C_drew ?_) | exact HR228.out)) hb); have n4_ := Aside0.mk (Kd.C_below (by repeat (first | (with_reducible exact HR235.out) | (with_reducible refine Kd.C_alloc ?_ _) | (with_reducible refine Kd.C_drewN ?_ _) | (with_reducible refine Kd.C_drew ?_) | exact HR235.out)) hb); have n5_ := Aside0.mk (below_step (by repeat (first | (with_reducible first | exact HB.out | apply below_alloc | apply pw_below_drewN | apply below_drew1) | exact HB.out)) hb); clear HO_7; clear HO_8; clear HO238; clear HR228; clear HR235; clear HB; have HO_7 := n0_; have HO_8 := n1_; have HO238 := n2_; have HR228 := n3_; have HR235 := n4_; have HB := n5_; clear n0_ n1_ n2_ n3_ n4_ n5_; (try clear hb); (try clear hb2); (try clear hk); (try clear hi)))
                                          go_ret
                                          exact ⟨by first | rfl | (simp [errW_none, errW_some] <;> rfl) | (simp [*, errW_none, errW_some] <;> rfl), by repeat (first | (with_reducible first | exact HB.out | apply below_alloc | apply pw_below_drewN | apply below_drew1) | exact HB.out)⟩
                                        · rw [if_neg c53] at H
                                          have c53b0 : (t239 == t241) = false := by simpa using c53
                                          (try (have c53b1 : decide (t239 = t241) = false := by simpa using c53))
                                          (try (have c53b2 : (t239 == t241) = false := by simpa using c53))
                                          (try (have c53b3 : ¬ (t239 = t241) := by simpa using c53))
                                          clear c53
                                          obtain rfl := Option.some.inj H
                                          try go_wp2
                                          have n0_ := Aside0.mk (Kd.R_drew HO_7.out)
                                          have n1_ := Aside0.mk (Kd.R_drew HO_8.out)
                                          have n2_ := Aside0.mk (Kd.R_drew HO_9.out)
                                          have n3_ := Aside0.mk (below_drew1 HB.out)
                                          clear HO_7
                                          clear HO_8
                                          clear HO_9
                                          clear HB
                                          have HO_7 := n0_
                                          have HO_8 := n1_
                                          have HO_9 := n2_
                                          have HB := n3_
                                          clear n0_ n1_ n2_ n3_
                                          obtain ⟨Ao69, co69, eo69⟩ := Kd.R_slice HO_7.out
                                          (first | subst eo69 | (injection eo69 with f1_ f2_ f3_; have f4_ := f1_.symm; have f5_ := f3_.symm; clear f1_ f2_ f3_; subst f4_; subst f5_))
                                          have q68 : (x14_4 : Int) ≤ ((x7_2.length : Int) : Int) := of_decide_eq_true (by first | (with_reducible assumption) | assumption)
                                          obtain ⟨i068, hi068, _, hsz68, _⟩ := info_parts info49
                                          have hroom68 : x7_2.length ≤ co69 := (Kd.R_reads' HO_7.out).2.1
                                          have hC68 : Kd.C k49 _ Ao69 x7_2.length x7_2 := (Kd.R_reads' HO_7.out).2.2
                                          have q068 : (0 : Int) ≤ (x14_4 : Int) := of_decide_eq_true (by first | (with_reducible assumption) | assumption)
                                          have hcut68 := cut_from (P := Try.prog) 65 49 .i64 Try.underlying65 hi068 5 hsz68 Ao69 x7_2.length co69 x14_4 q068 q68
                                          have hr68 := Kd.C_drop (m := (x14_4 : Int).toNat) (c := co69) hC68 (by omega) hroom68
                                          obtain ⟨A68, hA68⟩ : ∃ A1, A1 = (if co69 = (x14_4 : Int).toNat then Ao69 else (Ao69 : Option Addr).map (·.add ((x14_4 : Int).toNat * 5))) := ⟨_, rfl⟩
                                          obtain ⟨c68, hc68⟩ : ∃ c1, c1 = co69 - (x14_4 : Int).toNat := ⟨_, rfl⟩
                                          have hy68 : y225.length = x7_2.length - (x14_4 : Int).toNat := (by rw [Ny225.out, List.length_drop] <;> omega)
                                          rw [show (x7_2).drop (x14_4 : Int).toNat = y225 from Ny225.out.symm] at hr68
                                          replace hr68 : Kd.C k49 _ A68 y225.length y225 := (by rw [hA68]; exact hr68)
                                          rw [← hy68, ← hA68, ← hc68] at hcut68
                                          have HR228 := Aside0.mk hr68
                                          have HC228 := Aside0.mk (show y225.length ≤ c68 from by rw [hy68, hc68]; exact Nat.sub_le_sub_right hroom68 _)
                                          clear hr68 hC68 hroom68 hi068 hsz68 hc68
                                          have KY68 := Aside0.mk hy68
                                          have KA68 := Aside0.mk hA68
                                          clear hy68 hA68
                                          have KL68 := Aside0.mk (show (x14_4 : Int).toNat ≤ x7_2.length from by omega)
                                          replace q68 := eq_true q68
                                          obtain ⟨Ao71, co71, eo71⟩ := Kd.R_slice HO_8.out
                                          (first | subst eo71 | (injection eo71 with f1_ f2_ f3_; have f4_ := f1_.symm; have f5_ := f3_.symm; clear f1_ f2_ f3_; subst f4_; subst f5_))
                                          have q70 : (x15_4 : Int) ≤ ((x8_3.length : Int) : Int) := of_decide_eq_true (by first | (with_reducible assumption) | assumption)
                                          obtain ⟨i070, hi070, _, hsz70, _⟩ := info_parts info49
                                          have hroom70 : x8_3.length ≤ co71 := (Kd.R_reads' HO_8.out).2.1
                                          have hC70 : Kd.C k49 _ Ao71 x8_3.length x8_3 := (Kd.R_reads' HO_8.out).2.2
                                          have q070 : (0 : Int) ≤ (x15_4 : Int) := of_decide_eq_true (by first | (with_reducible assumption) | assumption)
                                          have hcut70 := cut_from (P := Try.prog) 65 49 .i64 Try.underlying65 hi070 5 hsz70 Ao71 x8_3.length co71 x15_4 q070 q70
                                          have hr70 := Kd.C_drop (m := (x15_4 : Int).toNat) (c := co71) hC70 (by omega) hroom70
                                          obtain ⟨A70, hA70⟩ : ∃ A1, A1 = (if co71 = (x15_4 : Int).toNat then Ao71 else (Ao71 : Option Addr).map (·.add ((x15_4 : Int).toNat * 5))) := ⟨_, rfl⟩
                                          obtain ⟨c70, hc70⟩ : ∃ c1, c1 = co71 - (x15_4 : Int).toNat := ⟨_, rfl⟩
                                          have hy70 : y232.length = x8_3.length - (x15_4 : Int).toNat := (by rw [Ny232.out, List.length_drop] <;> omega)
                                          rw [show (x8_3).drop (x15_4 : Int).toNat = y232 from Ny232.out.symm] at hr70
                                          replace hr70 : Kd.C k49 _ A70 y232.length y232 := (by rw [hA70]; exact hr70)
                                          rw [← hy70, ← hA70, ← hc70] at hcut70
                                          have HR235 := Aside0.mk hr70
                                          have HC235 := Aside0.mk (show y232.length ≤ c70 from by rw [hy70, hc70]; exact Nat.sub_le_sub_right hroom70 _)
                                          clear hr70 hC70 hroom70 hi070 hsz70 hc70
                                          have KY70 := Aside0.mk hy70
                                          have KA70 := Aside0.mk hA70
                                          clear hy70 hA70
                                          have KL70 := Aside0.mk (show (x15_4 : Int).toNat ≤ x8_3.length from by omega)
                                          replace q70 := eq_true q70
                                          refine start_ (n := 10) (S := fun w' => True) (ds := []) #[false, false, false, false, false, false, false, false, false, false] (by kernel_rfl) rfl rfl trivial (fun hHeld => ?_); refine with_tabW credenzalaw23_TellMixes.tab27 credenzalaw23_TellMixes.bits27 (fun HT_ HW_ => ?_)
                                          generalize wr.drew = w67 at HO_7 HO_8 HO_9 HB HR228 HR235 hHeld ⊢
                                          refine pure_ (i := 0) (N := some 98) (v := ?_) (a' := ?_) #[true, false, false, false, false, false, false, false, false, false] rfl rfl (any_of HT_.out (by kernel_rfl)) (fun _ _ _ h => h) (Or.inl ⟨by rfl, ?_⟩) ?_ ?_
                                          rotate_left
                                          · intro w'
                                            go_simp
                                            with_reducible rfl
                                          rotate_left
                                          · simp only [Act.put, List.setIfInBounds_toArray, List.set_cons_zero, List.set_cons_succ, i64_w, i32_w, IntKind.wrap_u32]
                                            rfl
                                          refine pure_ (i := 1) (N := some 99) (v := ?_) (a' := ?_) #[true, true, false, false, false, false, false, false, false, false] rfl rfl (any_of HT_.out (by kernel_rfl)) (fun _ _ _ h => h) (Or.inl ⟨by rfl, ?_⟩) ?_ ?_
                                          rotate_left
                                          · intro w'
                                            go_simp
                                            with_reducible rfl
                                          rotate_left
                                          · simp only [Act.put, List.setIfInBounds_toArray, List.set_cons_zero, List.set_cons_succ, i64_w, i32_w, IntKind.wrap_u32]
                                            rfl
                                          refine pure_ (i := 2) (N := some 100) (v := ?_) (a' := ?_) #[true, true, true, false, false, false, false, false, false, false] rfl rfl (any_of HT_.out (by kernel_rfl)) (fun _ _ _ h => h) (Or.inl ⟨by rfl, ?_⟩) ?_ ?_
                                          rotate_left
                                          · intro w'
                                            go_simp
                                            with_reducible rfl
                                          rotate_left
                                          · simp only [Act.put, List.setIfInBounds_toArray, List.set_cons_zero, List.set_cons_succ, i64_w, i32_w, IntKind.wrap_u32]
                                            rfl
                                          refine pure_ (i := 3) (N := some 101) (v := ?_) (a' := ?_) #[true, true, true, true, false, false, false, false, false, false] rfl rfl (any_of HT_.out (by kernel_rfl)) (fun _ _ _ h => h) (Or.inl ⟨by rfl, ?_⟩) ?_ ?_
                                          rotate_left
                                          · intro w'
                                            go_simp
                                            with_reducible rfl
                                          rotate_left
                                          · simp only [Act.put, List.setIfInBounds_toArray, List.set_cons_zero, List.set_cons_succ, i64_w, i32_w, IntKind.wrap_u32]
                                            rfl
                                          refine pure_ (i := 5) (N := some 103) (v := ?_) (a' := ?_) #[true, true, true, true, false, true, false, false, false, false] rfl rfl (any_of HT_.out (by kernel_rfl)) (fun _ _ _ h => h) (Or.inl ⟨by rfl, ?_⟩) ?_ ?_
                                          rotate_left
                                          · intro w'
                                            go_simp
                                            with_reducible rfl
                                          rotate_left
                                          · simp only [Act.put, List.setIfInBounds_toArray, List.set_cons_zero, List.set_cons_succ, i64_w, i32_w, IntKind.wrap_u32]
                                            rfl
                                          refine pure_ (i := 6) (N := some 104) (v := ?_) (a' := ?_) #[true, true, true, true, false, true, true, false, false, false] rfl rfl (any_of HT_.out (by kernel_rfl)) (fun _ _ _ h => h) (Or.inl ⟨by rfl, ?_⟩) ?_ ?_
                                          rotate_left
                                          · intro w'
                                            go_simp
                                            with_reducible rfl
                                          rotate_left
                                          · simp only [Act.put, List.setIfInBounds_toArray, List.set_cons_zero, List.set_cons_succ, i64_w, i32_w, IntKind.wrap_u32]
                                            rfl
                                          refine pure_ (i := 7) (N := some 105) (v := ?_) (a' := ?_) #[true, true, true, true, false, true, true, true, false, false] rfl rfl (any_of HT_.out (by kernel_rfl)) (fun _ _ _ h => h) (Or.inl ⟨by rfl, ?_⟩) ?_ ?_
                                          rotate_left
                                          · intro w'
                                            go_simp
                                            with_reducible rfl
                                          rotate_left
                                          · simp only [Act.put, List.setIfInBounds_toArray, List.set_cons_zero, List.set_cons_succ, i64_w, i32_w, IntKind.wrap_u32]
                                            rfl
                                          refine one_ (i := 4) (N := some 102) #[true, true, true, true, true, true, true, true, false, false] rfl rfl (one_of HT_.out (by kernel_rfl)) (by decide) (fun K hK => ?_)
                                          refine Kd.R_append_rows_step k49 (w0 := w) w.heap.size (by rfl) (.tmp 98) (.tmp 101) 65 49 (.agg #[(.int .i64 0), (.int .u32 0), (.int .i64 0), (.int .i64 0), (.int .i64 0)]) 40 rfl Try.underlying65 info49 rfl (by decide) (by omega) u9 x9_4 y225 _ _ _ (fun k_ => some k_ ≠ (.slice Ao69 x7_2.length co69 : Value).ownBlock ∧ some k_ ≠ (.slice Ao71 x8_3.length co71 : Value).ownBlock) (fun _ => False) rfl rfl ?aO ?aR (fun _ _ h => h) (fun _ h => h.elim) ?aF ?aB ?aS ?aL ?_
                                          (case aR => repeat (first | exact (by repeat (first | (with_reducible exact HR228.out) | (with_reducible refine Kd.C_alloc ?_ _) | (with_reducible refine Kd.C_drewN ?_ _) | (with_reducible refine Kd.C_drew ?_) | exact HR228.out)) | (with_reducible refine Kd.C_alloc ?_ _) | (with_reducible refine Kd.C_drewN ?_ _) | (with_reducible refine Kd.C_drew ?_)))
                                          (case aB => exact (by repeat (first | (with_reducible first | exact HB.out | apply below_alloc | apply pw_below_drewN | apply below_drew1) | exact HB.out)))
                                          (case aF => exact (fun k_ hk => ⟨Kd.fresh' (Kd.R_lt (by (with_reducible repeat (first | apply Kd.R_alloc | apply Kd.R_drewN | apply Kd.R_drew)); exact HO_7.out)) k_ hk, Kd.fresh' (Kd.R_lt (by (with_reducible repeat (first | apply Kd.R_alloc | apply Kd.R_drewN | apply Kd.R_drew)); exact HO_8.out)) k_ hk⟩))
                                          (case aO => exact (by (with_reducible repeat (first | apply Kd.R_alloc | apply Kd.R_drewN | apply Kd.R_drew)); exact HO_9.out))
                                          (case aS => exact (below_size (by repeat (first | (with_reducible first | exact HB.out | apply below_alloc | apply pw_below_drewN | apply below_drew1) | exact HB.out))))
                                          (case aL => have := LMc45.out; omega)
                                          intro v230 w72 ho hb hg hat
                                          rw [← Ny229.out] at ho
                                          have n0_ := Aside0.mk (Kd.R_after (ok := (fun k_ => some k_ ≠ (.slice Ao71 x8_3.length co71 : Value).ownBlock)) (by (with_reducible repeat (first | apply Kd.R_alloc | apply Kd.R_drewN | apply Kd.R_drew)); exact HO_7.out) hg hat)
                                          have n1_ := Aside0.mk (Kd.R_after (ok := (fun k_ => some k_ ≠ (.slice Ao69 x7_2.length co69 : Value).ownBlock)) (by (with_reducible repeat (first | apply Kd.R_alloc | apply Kd.R_drewN | apply Kd.R_drew)); exact HO_8.out) hg hat)
                                          have n2_ := Aside0.mk (hb)
                                          have n3_ := Aside0.mk ((show Kd.C k49 w72 A68 y225.length y225 from by rw [Ny225.out, KA68.out]; exact Kd.C_drop (m := (x14_4 : Int).toNat) (c := co69) ((Kd.R_reads' (Kd.R_after (ok := (fun k_ => some k_ ≠ (.slice Ao71 x8_3.length co71 : Value).ownBlock)) (by (with_reducible repeat (first | apply Kd.R_alloc | apply Kd.R_drewN | apply Kd.R_drew)); exact HO_7.out) hg hat)).2.2) KL68.out ((Kd.R_reads' (Kd.R_after (ok := (fun k_ => some k_ ≠ (.slice Ao71 x8_3.length co71 : Value).ownBlock)) (by (with_reducible repeat (first | apply Kd.R_alloc | apply Kd.R_drewN | apply Kd.R_drew)); exact HO_7.out) hg hat)).2.1)))
                                          have n4_ := Aside0.mk ((show Kd.C k49 w72 A70 y232.length y232 from by rw [Ny232.out, KA70.out]; exact Kd.C_drop (m := (x15_4 : Int).toNat) (c := co71) ((Kd.R_reads' (Kd.R_after (ok := (fun k_ => some k_ ≠ (.slice Ao69 x7_2.length co69 : Value).ownBlock)) (by (with_reducible repeat (first | apply Kd.R_alloc | apply Kd.R_drewN | apply Kd.R_drew)); exact HO_8.out) hg hat)).2.2) KL70.out ((Kd.R_reads' (Kd.R_after (ok := (fun k_ => some k_ ≠ (.slice Ao69 x7_2.length co69 : Value).ownBlock)) (by (with_reducible repeat (first | apply Kd.R_alloc | apply Kd.R_drewN | apply Kd.R_drew)); exact HO_8.out) hg hat)).2.1)))
                                          have n5_ := Aside0.mk (ho)
                                          clear HO_7
                                          clear HO_8
                                          clear HB
                                          clear HR228
                                          clear HR235
                                          clear HO_9
                                          have HO_7 := n0_
                                          have HO_8 := n1_
                                          have HB := n2_
                                          have HR228 := n3_
                                          have HR235 := n4_
                                          have HO231 := n5_
                                          clear n0_ n1_ n2_ n3_ n4_ n5_
                                          clear ho hb hg hat
                                          refine hK.out _ _ trivial (fun hHeld => ?_)
                                          clear hK K
                                          refine norm_ (a' := ?_) ?_ ?_
                                          rotate_left
                                          · show Act.put _ (some 102) _ = _
                                            simp only [Act.put, List.setIfInBounds_toArray, List.set_cons_zero, List.set_cons_succ, i64_w, i32_w, IntKind.wrap_u32]
                                            rfl
                                          refine one_ (i := 8) (N := some 106) #[true, true, true, true, true, true, true, true, true, false] rfl rfl (one_of HT_.out (by kernel_rfl)) (by decide) (fun K hK => ?_)
                                          refine Kd.R_append_rows_step k49 (w0 := w) w.heap.size (by rfl) (.tmp 102) (.tmp 105) 65 49 (.agg #[(.int .i64 0), (.int .u32 0), (.int .i64 0), (.int .i64 0), (.int .i64 0)]) 40 rfl Try.underlying65 info49 rfl (by decide) (by omega) v230 y229 y232 _ _ _ (fun k_ => some k_ ≠ (.slice Ao69 x7_2.length co69 : Value).ownBlock ∧ some k_ ≠ (.slice Ao71 x8_3.length co71 : Value).ownBlock) (fun _ => False) rfl rfl ?aO ?aR (fun _ _ h => h) (fun _ h => h.elim) ?aF ?aB ?aS ?aL ?_
                                          (case aR => repeat (first | exact (by repeat (first | (with_reducible exact HR235.out) | (with_reducible refine Kd.C_alloc ?_ _) | (with_reducible refine Kd.C_drewN ?_ _) | (with_reducible refine Kd.C_drew ?_) | exact HR235.out)) | (with_reducible refine Kd.C_alloc ?_ _) | (with_reducible refine Kd.C_drewN ?_ _) | (with_reducible refine Kd.C_drew ?_)))
                                          (case aB => exact (by repeat (first | (with_reducible first | exact HB.out | apply below_alloc | apply pw_below_drewN | apply below_drew1) | exact HB.out)))
                                          (case aF => exact (fun k_ hk => ⟨Kd.fresh' (Kd.R_lt (by (with_reducible repeat (first | apply Kd.R_alloc | apply Kd.R_drewN | apply Kd.R_drew)); exact HO_7.out)) k_ hk, Kd.fresh' (Kd.R_lt (by (with_reducible repeat (first | apply Kd.R_alloc | apply Kd.R_drewN | apply Kd.R_drew)); exact HO_8.out)) k_ hk⟩))
                                          (case aO => exact (by (with_reducible repeat (first | apply Kd.R_alloc | apply Kd.R_drewN | apply Kd.R_drew)); exact HO231.out))
                                          (case aS => exact (below_size (by repeat (first | (with_reducible first | exact HB.out | apply below_alloc | apply pw_below_drewN | apply below_drew1) | exact HB.out))))
                                          (case aL => have := LMc48.out; omega)
                                          intro v237 w73 ho hb hg hat
                                          rw [← Ny236.out] at ho
                                          have n0_ := Aside0.mk (Kd.R_after (ok := (fun k_ => some k_ ≠ (.slice Ao71 x8_3.length co71 : Value).ownBlock)) (by (with_reducible repeat (first | apply Kd.R_alloc | apply Kd.R_drewN | apply Kd.R_drew)); exact HO_7.out) hg hat)
                                          have n1_ := Aside0.mk (Kd.R_after (ok := (fun k_ => some k_ ≠ (.slice Ao69 x7_2.length co69 : Value).ownBlock)) (by (with_reducible repeat (first | apply Kd.R_alloc | apply Kd.R_drewN | apply Kd.R_drew)); exact HO_8.out) hg hat)
                                          have n2_ := Aside0.mk (hb)
                                          have n3_ := Aside0.mk ((show Kd.C k49 w73 A68 y225.length y225 from by rw [Ny225.out, KA68.out]; exact Kd.C_drop (m := (x14_4 : Int).toNat) (c := co69) ((Kd.R_reads' (Kd.R_after (ok := (fun k_ => some k_ ≠ (.slice Ao71 x8_3.length co71 : Value).ownBlock)) (by (with_reducible repeat (first | apply Kd.R_alloc | apply Kd.R_drewN | apply Kd.R_drew)); exact HO_7.out) hg hat)).2.2) KL68.out ((Kd.R_reads' (Kd.R_after (ok := (fun k_ => some k_ ≠ (.slice Ao71 x8_3.length co71 : Value).ownBlock)) (by (with_reducible repeat (first | apply Kd.R_alloc | apply Kd.R_drewN | apply Kd.R_drew)); exact HO_7.out) hg hat)).2.1)))
                                          have n4_ := Aside0.mk ((show Kd.C k49 w73 A70 y232.length y232 from by rw [Ny232.out, KA70.out]; exact Kd.C_drop (m := (x15_4 : Int).toNat) (c := co71) ((Kd.R_reads' (Kd.R_after (ok := (fun k_ => some k_ ≠ (.slice Ao69 x7_2.length co69 : Value).ownBlock)) (by (with_reducible repeat (first | apply Kd.R_alloc | apply Kd.R_drewN | apply Kd.R_drew)); exact HO_8.out) hg hat)).2.2) KL70.out ((Kd.R_reads' (Kd.R_after (ok := (fun k_ => some k_ ≠ (.slice Ao69 x7_2.length co69 : Value).ownBlock)) (by (with_reducible repeat (first | apply Kd.R_alloc | apply Kd.R_drewN | apply Kd.R_drew)); exact HO_8.out) hg hat)).2.1)))
                                          have n5_ := Aside0.mk (ho)
                                          clear HO_7
                                          clear HO_8
                                          clear HB
                                          clear HR228
                                          clear HR235
                                          clear HO231
                                          have HO_7 := n0_
                                          have HO_8 := n1_
                                          have HB := n2_
                                          have HR228 := n3_
                                          have HR235 := n4_
                                          have HO238 := n5_
                                          clear n0_ n1_ n2_ n3_ n4_ n5_
                                          clear ho hb hg hat
                                          refine hK.out _ _ trivial (fun hHeld => ?_)
                                          clear hK K
                                          refine norm_ (a' := ?_) ?_ ?_
                                          rotate_left
                                          · show Act.put _ (some 106) _ = _
                                            simp only [Act.put, List.setIfInBounds_toArray, List.set_cons_zero, List.set_cons_succ, i64_w, i32_w, IntKind.wrap_u32]
                                            rfl
                                          refine pure_ (i := 9) (N := some 9) (v := ?_) (a' := ?_) #[true, true, true, true, true, true, true, true, true, true] rfl rfl (any_of HT_.out (by kernel_rfl)) (fun _ _ _ h => h) (Or.inl ⟨by rfl, ?_⟩) ?_ ?_
                                          rotate_left
                                          · intro w'
                                            go_simp
                                            with_reducible rfl
                                          rotate_left
                                          · simp only [Act.put, List.setIfInBounds_toArray, List.set_cons_zero, List.set_cons_succ, i64_w, i32_w, IntKind.wrap_u32]
                                            rfl
                                          refine done_ (done_of HT_.out (by kernel_rfl)) ?_
                                          obtain ⟨Ao74, co74, eo74⟩ := Kd.R_slice HO238.out
                                          subst eo74
                                          try go_wp2_with (first | ((with_reducible refine gate_callee (f := 36) rfl ?_); refine goesL_ (some 108) rfl rfl Try.func36 (by kernel_rfl) rfl #[.slice Ao74 y236.length co74] rfl (by (try simp only [List.map_toArray, List.map_cons, List.map_nil]); first | done | rfl | (simp only [List.length_drop, List.length_take]; rfl)) ?_; (with_reducible refine (tell_Ordered.calls _ _ y236 t239 _ ?side1 ?side2 A49.out).mono ?_); (case side1 => repeat (first | exact (Kd.R_reads' HO238.out).2.2 | (with_reducible refine Kd.C_alloc ?_ _) | (with_reducible refine Kd.C_drewN ?_ _) | (with_reducible refine Kd.C_drew ?_))); (case side2 => exact (Kd.R_reads' HO238.out).2.1); rintro e w75 ⟨rfl, hb⟩; refine ⟨_, rfl, ?_⟩; have n0_ := Aside0.mk (Kd.R_below (by (with_reducible repeat (first | apply Kd.R_alloc | apply Kd.R_drewN | apply Kd.R_drew)); exact HO_7.out) hb); have n1_ := Aside0.mk (Kd.R_below (by (with_reducible repeat (first | apply Kd.R_alloc | apply Kd.R_drewN | apply Kd.R_drew)); exact HO_8.out) hb); have n2_ := Aside0.mk (Kd.R_below (by (with_reducible repeat (first | apply Kd.R_alloc | apply Kd.R_drewN | apply Kd.R_drew)); exact HO238.out) hb); have n3_ := Aside0.mk (Kd.C_below (by repeat (first | (with_reducible exact HR228.out) | (with_reducible refine Kd.C_alloc ?_ _) | (with_reducible refine Kd.C_drewN ?_ _) | (with_reducible refine Kd.C_drew ?_) | exact HR228.out)) hb); have n4_ := Aside0.mk (Kd.C_below (by repeat (first | (with_reducible exact HR235.out) | (with_reducible refine Kd.C_alloc ?_ _) | (with_reducible refine Kd.C_drewN ?_ _) | (with_reducible refine Kd.C_drew ?_) | exact HR235.out)) hb); have n5_ := Aside0.mk (below_step (by repeat (first | (with_reducible first | exact HB.out | apply below_alloc | apply pw_below_drewN | apply below_drew1) | exact HB.out)) hb); clear HO_7; clear HO_8; clear HO238; clear HR228; clear HR235; clear HB; have HO_7 := n0_; have HO_8 := n1_; have HO238 := n2_; have HR228 := n3_; have HR235 := n4_; have HB := n5_; clear n0_ n1_ n2_ n3_ n4_ n5_; (try clear hb); (try clear hb2); (try clear hk); (try clear hi)) | ((with_reducible refine gate_callee (f := 36) rfl ?_); refine goesL_ (some 110) rfl rfl Try.func36 (by kernel_rfl) rfl #[.slice Ao69 x7_2.length co69] rfl (by (try simp only [List.map_toArray, List.map_cons, List.map_nil]); first | done | rfl | (simp only [List.length_drop, List.length_take]; rfl)) ?_; (with_reducible refine (tell_Ordered.calls _ _ x7_2 true _ ?side1 ?side2 A50.out).mono ?_); (case side1 => repeat (first | exact (Kd.R_reads' HO_7.out).2.2 | (with_reducible refine Kd.C_alloc ?_ _) | (with_reducible refine Kd.C_drewN ?_ _) | (with_reducible refine Kd.C_drew ?_))); (case side2 => exact (Kd.R_reads' HO_7.out).2.1); rintro e w76 ⟨rfl, hb⟩; refine ⟨_, rfl, ?_⟩; have n0_ := Aside0.mk (Kd.R_below (by (with_reducible repeat (first | apply Kd.R_alloc | apply Kd.R_drewN | apply Kd.R_drew)); exact HO_7.out) hb); have n1_ := Aside0.mk (Kd.R_below (by (with_reducible repeat (first | apply Kd.R_alloc | apply Kd.R_drewN | apply Kd.R_drew)); exact HO_8.out) hb); have n2_ := Aside0.mk (Kd.R_below (by (with_reducible repeat (first | apply Kd.R_alloc | apply Kd.R_drewN | apply Kd.R_drew)); exact HO238.out) hb); have n3_ := Aside0.mk (Kd.C_below (by repeat (first | (with_reducible exact HR228.out) | (with_reducible refine Kd.C_alloc ?_ _) | (with_reducible refine Kd.C_drewN ?_ _) | (with_reducible refine Kd.C_drew ?_) | exact HR228.out)) hb); have n4_ := Aside0.mk (Kd.C_below (by repeat (first | (with_reducible exact HR235.out) | (with_reducible refine Kd.C_alloc ?_ _) | (with_reducible refine Kd.C_drewN ?_ _) | (with_reducible refine Kd.C_drew ?_) | exact HR235.out)) hb); have n5_ := Aside0.mk (below_step (by repeat (first | (with_reducible first | exact HB.out | apply below_alloc | apply pw_below_drewN | apply below_drew1) | exact HB.out)) hb); clear HO_7; clear HO_8; clear HO238; clear HR228; clear HR235; clear HB; have HO_7 := n0_; have HO_8 := n1_; have HO238 := n2_; have HR228 := n3_; have HR235 := n4_; have HB := n5_; clear n0_ n1_ n2_ n3_ n4_ n5_; (try clear hb); (try clear hb2); (try clear hk); (try clear hi)) | (go_at_call 36; (with_reducible refine (tell_Ordered.calls _ _ x8_3 t241 _ ?side1 ?side2 A52.out).mono ?_); (case side1 => repeat (first | exact (Kd.R_reads' HO_8.out).2.2 | (with_reducible refine Kd.C_alloc ?_ _) | (with_reducible refine Kd.C_drewN ?_ _) | (with_reducible refine Kd.C_drew ?_))); (case side2 => exact (Kd.R_reads' HO_8.out).2.1); rintro e w77 ⟨rfl, hb⟩; have n0_ := Aside0.mk (Kd.R_below (by (with_reducible repeat (first | apply Kd.R_alloc | apply Kd.R_drewN | apply Kd.R_drew)); exact HO_7.out) hb); have n1_ := Aside0.mk (Kd.R_below (by (with_reducible repeat (first | apply Kd.R_alloc | apply Kd.R_drewN | apply Kd.R_drew)); exact HO_8.out) hb); have n2_ := Aside0.mk (Kd.R_below (by (with_reducible repeat (first | apply Kd.R_alloc | apply Kd.R_drewN | apply Kd.R_drew)); exact HO238.out) hb); have n3_ := Aside0.mk (Kd.C_below (by repeat (first | (with_reducible exact HR228.out) | (with_reducible refine Kd.C_alloc ?_ _) | (with_reducible refine Kd.C_drewN ?_ _) | (with_reducible refine Kd.C_drew ?_) | exact HR228.out)) hb); have n4_ := Aside0.mk (Kd.C_below (by repeat (first | (with_reducible exact HR235.out) | (with_reducible refine Kd.C_alloc ?_ _) | (with_reducible refine Kd.C_drewN ?_ _) | (with_reducible refine Kd.C_drew ?_) | exact HR235.out)) hb); have n5_ := Aside0.mk (below_step (by repeat (first | (with_reducible first | exact HB.out | apply below_alloc | apply pw_below_drewN | apply below_drew1) | exact HB.out)) hb); clear HO_7; clear HO_8; clear HO238; clear HR228; clear HR235; clear HB; have HO_7 := n0_; have HO_8 := n1_; have HO238 := n2_; have HR228 := n3_; have HR235 := n4_; have HB := n5_; clear n0_ n1_ n2_ n3_ n4_ n5_; (try clear hb); (try clear hb2); (try clear hk); (try clear hi)))
                                          go_ret
                                          exact ⟨by first | rfl | (simp [errW_none, errW_some] <;> rfl) | (simp [*, errW_none, errW_some] <;> rfl), by repeat (first | (with_reducible first | exact HB.out | apply below_alloc | apply pw_below_drewN | apply below_drew1) | exact HB.out)⟩
                                      · replace c51 := Bool.eq_false_iff.mpr c51
                                        subst c51
                                        have H1 : (if (t239 == false) = true then ((credenzalaw23_awake.f k4).bind fun t243 => (some t243)) else (some false)) = some r := by rw [if_neg (show ¬ (false = true) by decide)] at H; exact H
                                        clear H
                                        have H := H1
                                        clear H1
                                        by_cases c78 : (t239 == false) = true
                                        · rw [if_pos c78] at H
                                          have c78b0 : (t239 == false) = true := c78
                                          (try (have c78b1 : decide (t239 = false) = true := by simpa using c78))
                                          (try (have c78b2 : (t239 == false) = true := by simpa using c78))
                                          clear c78
                                          replace H := Option.bind_eq_some_iff.mp H
                                          obtain ⟨t243, A790, H⟩ := H
                                          replace H : (some t243) = some r := H
                                          have A79 := Aside0.mk A790
                                          clear A790
                                          obtain rfl := Option.some.inj H
                                          try go_wp2
                                          have n0_ := Aside0.mk (Kd.R_drew HO_7.out)
                                          have n1_ := Aside0.mk (Kd.R_drew HO_8.out)
                                          have n2_ := Aside0.mk (Kd.R_drew HO_9.out)
                                          have n3_ := Aside0.mk (below_drew1 HB.out)
                                          clear HO_7
                                          clear HO_8
                                          clear HO_9
                                          clear HB
                                          have HO_7 := n0_
                                          have HO_8 := n1_
                                          have HO_9 := n2_
                                          have HB := n3_
                                          clear n0_ n1_ n2_ n3_
                                          obtain ⟨Ao82, co82, eo82⟩ := Kd.R_slice HO_7.out
                                          (first | subst eo82 | (injection eo82 with f1_ f2_ f3_; have f4_ := f1_.symm; have f5_ := f3_.symm; clear f1_ f2_ f3_; subst f4_; subst f5_))
                                          have q81 : (x14_4 : Int) ≤ ((x7_2.length : Int) : Int) := of_decide_eq_true (by first | (with_reducible assumption) | assumption)
                                          obtain ⟨i081, hi081, _, hsz81, _⟩ := info_parts info49
                                          have hroom81 : x7_2.length ≤ co82 := (Kd.R_reads' HO_7.out).2.1
                                          have hC81 : Kd.C k49 _ Ao82 x7_2.length x7_2 := (Kd.R_reads' HO_7.out).2.2
                                          have q081 : (0 : Int) ≤ (x14_4 : Int) := of_decide_eq_true (by first | (with_reducible assumption) | assumption)
                                          have hcut81 := cut_from (P := Try.prog) 65 49 .i64 Try.underlying65 hi081 5 hsz81 Ao82 x7_2.length co82 x14_4 q081 q81
                                          have hr81 := Kd.C_drop (m := (x14_4 : Int).toNat) (c := co82) hC81 (by omega) hroom81
                                          obtain ⟨A81, hA81⟩ : ∃ A1, A1 = (if co82 = (x14_4 : Int).toNat then Ao82 else (Ao82 : Option Addr).map (·.add ((x14_4 : Int).toNat * 5))) := ⟨_, rfl⟩
                                          obtain ⟨c81, hc81⟩ : ∃ c1, c1 = co82 - (x14_4 : Int).toNat := ⟨_, rfl⟩
                                          have hy81 : y225.length = x7_2.length - (x14_4 : Int).toNat := (by rw [Ny225.out, List.length_drop] <;> omega)
                                          rw [show (x7_2).drop (x14_4 : Int).toNat = y225 from Ny225.out.symm] at hr81
                                          replace hr81 : Kd.C k49 _ A81 y225.length y225 := (by rw [hA81]; exact hr81)
                                          rw [← hy81, ← hA81, ← hc81] at hcut81
                                          have HR228 := Aside0.mk hr81
                                          have HC228 := Aside0.mk (show y225.length ≤ c81 from by rw [hy81, hc81]; exact Nat.sub_le_sub_right hroom81 _)
                                          clear hr81 hC81 hroom81 hi081 hsz81 hc81
                                          have KY81 := Aside0.mk hy81
                                          have KA81 := Aside0.mk hA81
                                          clear hy81 hA81
                                          have KL81 := Aside0.mk (show (x14_4 : Int).toNat ≤ x7_2.length from by omega)
                                          replace q81 := eq_true q81
                                          obtain ⟨Ao84, co84, eo84⟩ := Kd.R_slice HO_8.out
                                          (first | subst eo84 | (injection eo84 with f1_ f2_ f3_; have f4_ := f1_.symm; have f5_ := f3_.symm; clear f1_ f2_ f3_; subst f4_; subst f5_))
                                          have q83 : (x15_4 : Int) ≤ ((x8_3.length : Int) : Int) := of_decide_eq_true (by first | (with_reducible assumption) | assumption)
                                          obtain ⟨i083, hi083, _, hsz83, _⟩ := info_parts info49
                                          have hroom83 : x8_3.length ≤ co84 := (Kd.R_reads' HO_8.out).2.1
                                          have hC83 : Kd.C k49 _ Ao84 x8_3.length x8_3 := (Kd.R_reads' HO_8.out).2.2
                                          have q083 : (0 : Int) ≤ (x15_4 : Int) := of_decide_eq_true (by first | (with_reducible assumption) | assumption)
                                          have hcut83 := cut_from (P := Try.prog) 65 49 .i64 Try.underlying65 hi083 5 hsz83 Ao84 x8_3.length co84 x15_4 q083 q83
                                          have hr83 := Kd.C_drop (m := (x15_4 : Int).toNat) (c := co84) hC83 (by omega) hroom83
                                          obtain ⟨A83, hA83⟩ : ∃ A1, A1 = (if co84 = (x15_4 : Int).toNat then Ao84 else (Ao84 : Option Addr).map (·.add ((x15_4 : Int).toNat * 5))) := ⟨_, rfl⟩
                                          obtain ⟨c83, hc83⟩ : ∃ c1, c1 = co84 - (x15_4 : Int).toNat := ⟨_, rfl⟩
                                          have hy83 : y232.length = x8_3.length - (x15_4 : Int).toNat := (by rw [Ny232.out, List.length_drop] <;> omega)
                                          rw [show (x8_3).drop (x15_4 : Int).toNat = y232 from Ny232.out.symm] at hr83
                                          replace hr83 : Kd.C k49 _ A83 y232.length y232 := (by rw [hA83]; exact hr83)
                                          rw [← hy83, ← hA83, ← hc83] at hcut83
                                          have HR235 := Aside0.mk hr83
                                          have HC235 := Aside0.mk (show y232.length ≤ c83 from by rw [hy83, hc83]; exact Nat.sub_le_sub_right hroom83 _)
                                          clear hr83 hC83 hroom83 hi083 hsz83 hc83
                                          have KY83 := Aside0.mk hy83
                                          have KA83 := Aside0.mk hA83
                                          clear hy83 hA83
                                          have KL83 := Aside0.mk (show (x15_4 : Int).toNat ≤ x8_3.length from by omega)
                                          replace q83 := eq_true q83
                                          refine start_ (n := 10) (S := fun w' => True) (ds := []) #[false, false, false, false, false, false, false, false, false, false] (by kernel_rfl) rfl rfl trivial (fun hHeld => ?_); refine with_tabW credenzalaw23_TellMixes.tab27 credenzalaw23_TellMixes.bits27 (fun HT_ HW_ => ?_)
                                          generalize wr.drew = w80 at HO_7 HO_8 HO_9 HB HR228 HR235 hHeld ⊢
                                          refine pure_ (i := 0) (N := some 98) (v := ?_) (a' := ?_) #[true, false, false, false, false, false, false, false, false, false] rfl rfl (any_of HT_.out (by kernel_rfl)) (fun _ _ _ h => h) (Or.inl ⟨by rfl, ?_⟩) ?_ ?_
                                          rotate_left
                                          · intro w'
                                            go_simp
                                            with_reducible rfl
                                          rotate_left
                                          · simp only [Act.put, List.setIfInBounds_toArray, List.set_cons_zero, List.set_cons_succ, i64_w, i32_w, IntKind.wrap_u32]
                                            rfl
                                          refine pure_ (i := 1) (N := some 99) (v := ?_) (a' := ?_) #[true, true, false, false, false, false, false, false, false, false] rfl rfl (any_of HT_.out (by kernel_rfl)) (fun _ _ _ h => h) (Or.inl ⟨by rfl, ?_⟩) ?_ ?_
                                          rotate_left
                                          · intro w'
                                            go_simp
                                            with_reducible rfl
                                          rotate_left
                                          · simp only [Act.put, List.setIfInBounds_toArray, List.set_cons_zero, List.set_cons_succ, i64_w, i32_w, IntKind.wrap_u32]
                                            rfl
                                          refine pure_ (i := 2) (N := some 100) (v := ?_) (a' := ?_) #[true, true, true, false, false, false, false, false, false, false] rfl rfl (any_of HT_.out (by kernel_rfl)) (fun _ _ _ h => h) (Or.inl ⟨by rfl, ?_⟩) ?_ ?_
                                          rotate_left
                                          · intro w'
                                            go_simp
                                            with_reducible rfl
                                          rotate_left
                                          · simp only [Act.put, List.setIfInBounds_toArray, List.set_cons_zero, List.set_cons_succ, i64_w, i32_w, IntKind.wrap_u32]
                                            rfl
                                          refine pure_ (i := 3) (N := some 101) (v := ?_) (a' := ?_) #[true, true, true, true, false, false, false, false, false, false] rfl rfl (any_of HT_.out (by kernel_rfl)) (fun _ _ _ h => h) (Or.inl ⟨by rfl, ?_⟩) ?_ ?_
                                          rotate_left
                                          · intro w'
                                            go_simp
                                            with_reducible rfl
                                          rotate_left
                                          · simp only [Act.put, List.setIfInBounds_toArray, List.set_cons_zero, List.set_cons_succ, i64_w, i32_w, IntKind.wrap_u32]
                                            rfl
                                          refine pure_ (i := 5) (N := some 103) (v := ?_) (a' := ?_) #[true, true, true, true, false, true, false, false, false, false] rfl rfl (any_of HT_.out (by kernel_rfl)) (fun _ _ _ h => h) (Or.inl ⟨by rfl, ?_⟩) ?_ ?_
                                          rotate_left
                                          · intro w'
                                            go_simp
                                            with_reducible rfl
                                          rotate_left
                                          · simp only [Act.put, List.setIfInBounds_toArray, List.set_cons_zero, List.set_cons_succ, i64_w, i32_w, IntKind.wrap_u32]
                                            rfl
                                          refine pure_ (i := 6) (N := some 104) (v := ?_) (a' := ?_) #[true, true, true, true, false, true, true, false, false, false] rfl rfl (any_of HT_.out (by kernel_rfl)) (fun _ _ _ h => h) (Or.inl ⟨by rfl, ?_⟩) ?_ ?_
                                          rotate_left
                                          · intro w'
                                            go_simp
                                            with_reducible rfl
                                          rotate_left
                                          · simp only [Act.put, List.setIfInBounds_toArray, List.set_cons_zero, List.set_cons_succ, i64_w, i32_w, IntKind.wrap_u32]
                                            rfl
                                          refine pure_ (i := 7) (N := some 105) (v := ?_) (a' := ?_) #[true, true, true, true, false, true, true, true, false, false] rfl rfl (any_of HT_.out (by kernel_rfl)) (fun _ _ _ h => h) (Or.inl ⟨by rfl, ?_⟩) ?_ ?_
                                          rotate_left
                                          · intro w'
                                            go_simp
                                            with_reducible rfl
                                          rotate_left
                                          · simp only [Act.put, List.setIfInBounds_toArray, List.set_cons_zero, List.set_cons_succ, i64_w, i32_w, IntKind.wrap_u32]
                                            rfl
                                          refine one_ (i := 4) (N := some 102) #[true, true, true, true, true, true, true, true, false, false] rfl rfl (one_of HT_.out (by kernel_rfl)) (by decide) (fun K hK => ?_)
                                          refine Kd.R_append_rows_step k49 (w0 := w) w.heap.size (by rfl) (.tmp 98) (.tmp 101) 65 49 (.agg #[(.int .i64 0), (.int .u32 0), (.int .i64 0), (.int .i64 0), (.int .i64 0)]) 40 rfl Try.underlying65 info49 rfl (by decide) (by omega) u9 x9_4 y225 _ _ _ (fun k_ => some k_ ≠ (.slice Ao82 x7_2.length co82 : Value).ownBlock ∧ some k_ ≠ (.slice Ao84 x8_3.length co84 : Value).ownBlock) (fun _ => False) rfl rfl ?aO ?aR (fun _ _ h => h) (fun _ h => h.elim) ?aF ?aB ?aS ?aL ?_
                                          (case aR => repeat (first | exact (by repeat (first | (with_reducible exact HR228.out) | (with_reducible refine Kd.C_alloc ?_ _) | (with_reducible refine Kd.C_drewN ?_ _) | (with_reducible refine Kd.C_drew ?_) | exact HR228.out)) | (with_reducible refine Kd.C_alloc ?_ _) | (with_reducible refine Kd.C_drewN ?_ _) | (with_reducible refine Kd.C_drew ?_)))
                                          (case aB => exact (by repeat (first | (with_reducible first | exact HB.out | apply below_alloc | apply pw_below_drewN | apply below_drew1) | exact HB.out)))
                                          (case aF => exact (fun k_ hk => ⟨Kd.fresh' (Kd.R_lt (by (with_reducible repeat (first | apply Kd.R_alloc | apply Kd.R_drewN | apply Kd.R_drew)); exact HO_7.out)) k_ hk, Kd.fresh' (Kd.R_lt (by (with_reducible repeat (first | apply Kd.R_alloc | apply Kd.R_drewN | apply Kd.R_drew)); exact HO_8.out)) k_ hk⟩))
                                          (case aO => exact (by (with_reducible repeat (first | apply Kd.R_alloc | apply Kd.R_drewN | apply Kd.R_drew)); exact HO_9.out))
                                          (case aS => exact (below_size (by repeat (first | (with_reducible first | exact HB.out | apply below_alloc | apply pw_below_drewN | apply below_drew1) | exact HB.out))))
                                          (case aL => have := LMc45.out; omega)
                                          intro v230 w85 ho hb hg hat
                                          rw [← Ny229.out] at ho
                                          have n0_ := Aside0.mk (Kd.R_after (ok := (fun k_ => some k_ ≠ (.slice Ao84 x8_3.length co84 : Value).ownBlock)) (by (with_reducible repeat (first | apply Kd.R_alloc | apply Kd.R_drewN | apply Kd.R_drew)); exact HO_7.out) hg hat)
                                          have n1_ := Aside0.mk (Kd.R_after (ok := (fun k_ => some k_ ≠ (.slice Ao82 x7_2.length co82 : Value).ownBlock)) (by (with_reducible repeat (first | apply Kd.R_alloc | apply Kd.R_drewN | apply Kd.R_drew)); exact HO_8.out) hg hat)
                                          have n2_ := Aside0.mk (hb)
                                          have n3_ := Aside0.mk ((show Kd.C k49 w85 A81 y225.length y225 from by rw [Ny225.out, KA81.out]; exact Kd.C_drop (m := (x14_4 : Int).toNat) (c := co82) ((Kd.R_reads' (Kd.R_after (ok := (fun k_ => some k_ ≠ (.slice Ao84 x8_3.length co84 : Value).ownBlock)) (by (with_reducible repeat (first | apply Kd.R_alloc | apply Kd.R_drewN | apply Kd.R_drew)); exact HO_7.out) hg hat)).2.2) KL81.out ((Kd.R_reads' (Kd.R_after (ok := (fun k_ => some k_ ≠ (.slice Ao84 x8_3.length co84 : Value).ownBlock)) (by (with_reducible repeat (first | apply Kd.R_alloc | apply Kd.R_drewN | apply Kd.R_drew)); exact HO_7.out) hg hat)).2.1)))
                                          have n4_ := Aside0.mk ((show Kd.C k49 w85 A83 y232.length y232 from by rw [Ny232.out, KA83.out]; exact Kd.C_drop (m := (x15_4 : Int).toNat) (c := co84) ((Kd.R_reads' (Kd.R_after (ok := (fun k_ => some k_ ≠ (.slice Ao82 x7_2.length co82 : Value).ownBlock)) (by (with_reducible repeat (first | apply Kd.R_alloc | apply Kd.R_drewN | apply Kd.R_drew)); exact HO_8.out) hg hat)).2.2) KL83.out ((Kd.R_reads' (Kd.R_after (ok := (fun k_ => some k_ ≠ (.slice Ao82 x7_2.length co82 : Value).ownBlock)) (by (with_reducible repeat (first | apply Kd.R_alloc | apply Kd.R_drewN | apply Kd.R_drew)); exact HO_8.out) hg hat)).2.1)))
                                          have n5_ := Aside0.mk (ho)
                                          clear HO_7
                                          clear HO_8
                                          clear HB
                                          clear HR228
                                          clear HR235
                                          clear HO_9
                                          have HO_7 := n0_
                                          have HO_8 := n1_
                                          have HB := n2_
                                          have HR228 := n3_
                                          have HR235 := n4_
                                          have HO231 := n5_
                                          clear n0_ n1_ n2_ n3_ n4_ n5_
                                          clear ho hb hg hat
                                          refine hK.out _ _ trivial (fun hHeld => ?_)
                                          clear hK K
                                          refine norm_ (a' := ?_) ?_ ?_
                                          rotate_left
                                          · show Act.put _ (some 102) _ = _
                                            simp only [Act.put, List.setIfInBounds_toArray, List.set_cons_zero, List.set_cons_succ, i64_w, i32_w, IntKind.wrap_u32]
                                            rfl
                                          refine one_ (i := 8) (N := some 106) #[true, true, true, true, true, true, true, true, true, false] rfl rfl (one_of HT_.out (by kernel_rfl)) (by decide) (fun K hK => ?_)
                                          refine Kd.R_append_rows_step k49 (w0 := w) w.heap.size (by rfl) (.tmp 102) (.tmp 105) 65 49 (.agg #[(.int .i64 0), (.int .u32 0), (.int .i64 0), (.int .i64 0), (.int .i64 0)]) 40 rfl Try.underlying65 info49 rfl (by decide) (by omega) v230 y229 y232 _ _ _ (fun k_ => some k_ ≠ (.slice Ao82 x7_2.length co82 : Value).ownBlock ∧ some k_ ≠ (.slice Ao84 x8_3.length co84 : Value).ownBlock) (fun _ => False) rfl rfl ?aO ?aR (fun _ _ h => h) (fun _ h => h.elim) ?aF ?aB ?aS ?aL ?_
                                          (case aR => repeat (first | exact (by repeat (first | (with_reducible exact HR235.out) | (with_reducible refine Kd.C_alloc ?_ _) | (with_reducible refine Kd.C_drewN ?_ _) | (with_reducible refine Kd.C_drew ?_) | exact HR235.out)) | (with_reducible refine Kd.C_alloc ?_ _) | (with_reducible refine Kd.C_drewN ?_ _) | (with_reducible refine Kd.C_drew ?_)))
                                          (case aB => exact (by repeat (first | (with_reducible first | exact HB.out | apply below_alloc | apply pw_below_drewN | apply below_drew1) | exact HB.out)))
                                          (case aF => exact (fun k_ hk => ⟨Kd.fresh' (Kd.R_lt (by (with_reducible repeat (first | apply Kd.R_alloc | apply Kd.R_drewN | apply Kd.R_drew)); exact HO_7.out)) k_ hk, Kd.fresh' (Kd.R_lt (by (with_reducible repeat (first | apply Kd.R_alloc | apply Kd.R_drewN | apply Kd.R_drew)); exact HO_8.out)) k_ hk⟩))
                                          (case aO => exact (by (with_reducible repeat (first | apply Kd.R_alloc | apply Kd.R_drewN | apply Kd.R_drew)); exact HO231.out))
                                          (case aS => exact (below_size (by repeat (first | (with_reducible first | exact HB.out | apply below_alloc | apply pw_below_drewN | apply below_drew1) | exact HB.out))))
                                          (case aL => have := LMc48.out; omega)
                                          intro v237 w86 ho hb hg hat
                                          rw [← Ny236.out] at ho
                                          have n0_ := Aside0.mk (Kd.R_after (ok := (fun k_ => some k_ ≠ (.slice Ao84 x8_3.length co84 : Value).ownBlock)) (by (with_reducible repeat (first | apply Kd.R_alloc | apply Kd.R_drewN | apply Kd.R_drew)); exact HO_7.out) hg hat)
                                          have n1_ := Aside0.mk (Kd.R_after (ok := (fun k_ => some k_ ≠ (.slice Ao82 x7_2.length co82 : Value).ownBlock)) (by (with_reducible repeat (first | apply Kd.R_alloc | apply Kd.R_drewN | apply Kd.R_drew)); exact HO_8.out) hg hat)
                                          have n2_ := Aside0.mk (hb)
                                          have n3_ := Aside0.mk ((show Kd.C k49 w86 A81 y225.length y225 from by rw [Ny225.out, KA81.out]; exact Kd.C_drop (m := (x14_4 : Int).toNat) (c := co82) ((Kd.R_reads' (Kd.R_after (ok := (fun k_ => some k_ ≠ (.slice Ao84 x8_3.length co84 : Value).ownBlock)) (by (with_reducible repeat (first | apply Kd.R_alloc | apply Kd.R_drewN | apply Kd.R_drew)); exact HO_7.out) hg hat)).2.2) KL81.out ((Kd.R_reads' (Kd.R_after (ok := (fun k_ => some k_ ≠ (.slice Ao84 x8_3.length co84 : Value).ownBlock)) (by (with_reducible repeat (first | apply Kd.R_alloc | apply Kd.R_drewN | apply Kd.R_drew)); exact HO_7.out) hg hat)).2.1)))
                                          have n4_ := Aside0.mk ((show Kd.C k49 w86 A83 y232.length y232 from by rw [Ny232.out, KA83.out]; exact Kd.C_drop (m := (x15_4 : Int).toNat) (c := co84) ((Kd.R_reads' (Kd.R_after (ok := (fun k_ => some k_ ≠ (.slice Ao82 x7_2.length co82 : Value).ownBlock)) (by (with_reducible repeat (first | apply Kd.R_alloc | apply Kd.R_drewN | apply Kd.R_drew)); exact HO_8.out) hg hat)).2.2) KL83.out ((Kd.R_reads' (Kd.R_after (ok := (fun k_ => some k_ ≠ (.slice Ao82 x7_2.length co82 : Value).ownBlock)) (by (with_reducible repeat (first | apply Kd.R_alloc | apply Kd.R_drewN | apply Kd.R_drew)); exact HO_8.out) hg hat)).2.1)))
                                          have n5_ := Aside0.mk (ho)
                                          clear HO_7
                                          clear HO_8
                                          clear HB
                                          clear HR228
                                          clear HR235
                                          clear HO231
                                          have HO_7 := n0_
                                          have HO_8 := n1_
                                          have HB := n2_
                                          have HR228 := n3_
                                          have HR235 := n4_
                                          have HO238 := n5_
                                          clear n0_ n1_ n2_ n3_ n4_ n5_
                                          clear ho hb hg hat
                                          refine hK.out _ _ trivial (fun hHeld => ?_)
                                          clear hK K
                                          refine norm_ (a' := ?_) ?_ ?_
                                          rotate_left
                                          · show Act.put _ (some 106) _ = _
                                            simp only [Act.put, List.setIfInBounds_toArray, List.set_cons_zero, List.set_cons_succ, i64_w, i32_w, IntKind.wrap_u32]
                                            rfl
                                          refine pure_ (i := 9) (N := some 9) (v := ?_) (a' := ?_) #[true, true, true, true, true, true, true, true, true, true] rfl rfl (any_of HT_.out (by kernel_rfl)) (fun _ _ _ h => h) (Or.inl ⟨by rfl, ?_⟩) ?_ ?_
                                          rotate_left
                                          · intro w'
                                            go_simp
                                            with_reducible rfl
                                          rotate_left
                                          · simp only [Act.put, List.setIfInBounds_toArray, List.set_cons_zero, List.set_cons_succ, i64_w, i32_w, IntKind.wrap_u32]
                                            rfl
                                          refine done_ (done_of HT_.out (by kernel_rfl)) ?_
                                          obtain ⟨Ao87, co87, eo87⟩ := Kd.R_slice HO238.out
                                          subst eo87
                                          try go_wp2_with (first | ((with_reducible refine gate_callee (f := 36) rfl ?_); refine goesL_ (some 108) rfl rfl Try.func36 (by kernel_rfl) rfl #[.slice Ao87 y236.length co87] rfl (by (try simp only [List.map_toArray, List.map_cons, List.map_nil]); first | done | rfl | (simp only [List.length_drop, List.length_take]; rfl)) ?_; (with_reducible refine (tell_Ordered.calls _ _ y236 t239 _ ?side1 ?side2 A49.out).mono ?_); (case side1 => repeat (first | exact (Kd.R_reads' HO238.out).2.2 | (with_reducible refine Kd.C_alloc ?_ _) | (with_reducible refine Kd.C_drewN ?_ _) | (with_reducible refine Kd.C_drew ?_))); (case side2 => exact (Kd.R_reads' HO238.out).2.1); rintro e w88 ⟨rfl, hb⟩; refine ⟨_, rfl, ?_⟩; have n0_ := Aside0.mk (Kd.R_below (by (with_reducible repeat (first | apply Kd.R_alloc | apply Kd.R_drewN | apply Kd.R_drew)); exact HO_7.out) hb); have n1_ := Aside0.mk (Kd.R_below (by (with_reducible repeat (first | apply Kd.R_alloc | apply Kd.R_drewN | apply Kd.R_drew)); exact HO_8.out) hb); have n2_ := Aside0.mk (Kd.R_below (by (with_reducible repeat (first | apply Kd.R_alloc | apply Kd.R_drewN | apply Kd.R_drew)); exact HO238.out) hb); have n3_ := Aside0.mk (Kd.C_below (by repeat (first | (with_reducible exact HR228.out) | (with_reducible refine Kd.C_alloc ?_ _) | (with_reducible refine Kd.C_drewN ?_ _) | (with_reducible refine Kd.C_drew ?_) | exact HR228.out)) hb); have n4_ := Aside0.mk (Kd.C_below (by repeat (first | (with_reducible exact HR235.out) | (with_reducible refine Kd.C_alloc ?_ _) | (with_reducible refine Kd.C_drewN ?_ _) | (with_reducible refine Kd.C_drew ?_) | exact HR235.out)) hb); have n5_ := Aside0.mk (below_step (by repeat (first | (with_reducible first | exact HB.out | apply below_alloc | apply pw_below_drewN | apply below_drew1) | exact HB.out)) hb); clear HO_7; clear HO_8; clear HO238; clear HR228; clear HR235; clear HB; have HO_7 := n0_; have HO_8 := n1_; have HO238 := n2_; have HR228 := n3_; have HR235 := n4_; have HB := n5_; clear n0_ n1_ n2_ n3_ n4_ n5_; (try clear hb); (try clear hb2); (try clear hk); (try clear hi)) | ((with_reducible refine gate_callee (f := 36) rfl ?_); refine goesL_ (some 110) rfl rfl Try.func36 (by kernel_rfl) rfl #[.slice Ao82 x7_2.length co82] rfl (by (try simp only [List.map_toArray, List.map_cons, List.map_nil]); first | done | rfl | (simp only [List.length_drop, List.length_take]; rfl)) ?_; (with_reducible refine (tell_Ordered.calls _ _ x7_2 false _ ?side1 ?side2 A50.out).mono ?_); (case side1 => repeat (first | exact (Kd.R_reads' HO_7.out).2.2 | (with_reducible refine Kd.C_alloc ?_ _) | (with_reducible refine Kd.C_drewN ?_ _) | (with_reducible refine Kd.C_drew ?_))); (case side2 => exact (Kd.R_reads' HO_7.out).2.1); rintro e w89 ⟨rfl, hb⟩; refine ⟨_, rfl, ?_⟩; have n0_ := Aside0.mk (Kd.R_below (by (with_reducible repeat (first | apply Kd.R_alloc | apply Kd.R_drewN | apply Kd.R_drew)); exact HO_7.out) hb); have n1_ := Aside0.mk (Kd.R_below (by (with_reducible repeat (first | apply Kd.R_alloc | apply Kd.R_drewN | apply Kd.R_drew)); exact HO_8.out) hb); have n2_ := Aside0.mk (Kd.R_below (by (with_reducible repeat (first | apply Kd.R_alloc | apply Kd.R_drewN | apply Kd.R_drew)); exact HO238.out) hb); have n3_ := Aside0.mk (Kd.C_below (by repeat (first | (with_reducible exact HR228.out) | (with_reducible refine Kd.C_alloc ?_ _) | (with_reducible refine Kd.C_drewN ?_ _) | (with_reducible refine Kd.C_drew ?_) | exact HR228.out)) hb); have n4_ := Aside0.mk (Kd.C_below (by repeat (first | (with_reducible exact HR235.out) | (with_reducible refine Kd.C_alloc ?_ _) | (with_reducible refine Kd.C_drewN ?_ _) | (with_reducible refine Kd.C_drew ?_) | exact HR235.out)) hb); have n5_ := Aside0.mk (below_step (by repeat (first | (with_reducible first | exact HB.out | apply below_alloc | apply pw_below_drewN | apply below_drew1) | exact HB.out)) hb); clear HO_7; clear HO_8; clear HO238; clear HR228; clear HR235; clear HB; have HO_7 := n0_; have HO_8 := n1_; have HO238 := n2_; have HR228 := n3_; have HR235 := n4_; have HB := n5_; clear n0_ n1_ n2_ n3_ n4_ n5_; (try clear hb); (try clear hb2); (try clear hk); (try clear hi)) | (go_at_call 32; (with_reducible refine (credenzalaw23_awake.calls k4  t243 _ A79.out).mono ?_); rintro e w90 ⟨rfl, hb⟩; have n0_ := Aside0.mk (Kd.R_below (by (with_reducible repeat (first | apply Kd.R_alloc | apply Kd.R_drewN | apply Kd.R_drew)); exact HO_7.out) hb); have n1_ := Aside0.mk (Kd.R_below (by (with_reducible repeat (first | apply Kd.R_alloc | apply Kd.R_drewN | apply Kd.R_drew)); exact HO_8.out) hb); have n2_ := Aside0.mk (Kd.R_below (by (with_reducible repeat (first | apply Kd.R_alloc | apply Kd.R_drewN | apply Kd.R_drew)); exact HO238.out) hb); have n3_ := Aside0.mk (Kd.C_below (by repeat (first | (with_reducible exact HR228.out) | (with_reducible refine Kd.C_alloc ?_ _) | (with_reducible refine Kd.C_drewN ?_ _) | (with_reducible refine Kd.C_drew ?_) | exact HR228.out)) hb); have n4_ := Aside0.mk (Kd.C_below (by repeat (first | (with_reducible exact HR235.out) | (with_reducible refine Kd.C_alloc ?_ _) | (with_reducible refine Kd.C_drewN ?_ _) | (with_reducible refine Kd.C_drew ?_) | exact HR235.out)) hb); have n5_ := Aside0.mk (below_step (by repeat (first | (with_reducible first | exact HB.out | apply below_alloc | apply pw_below_drewN | apply below_drew1) | exact HB.out)) hb); clear HO_7; clear HO_8; clear HO238; clear HR228; clear HR235; clear HB; have HO_7 := n0_; have HO_8 := n1_; have HO238 := n2_; have HR228 := n3_; have HR235 := n4_; have HB := n5_; clear n0_ n1_ n2_ n3_ n4_ n5_; (try clear hb); (try clear hb2); (try clear hk); (try clear hi)))
                                          go_ret
                                          exact ⟨by first | rfl | (simp [errW_none, errW_some] <;> rfl) | (simp [*, errW_none, errW_some] <;> rfl), by repeat (first | (with_reducible first | exact HB.out | apply below_alloc | apply pw_below_drewN | apply below_drew1) | exact HB.out)⟩
                                        · rw [if_neg c78] at H
                                          have c78b0 : (t239 == false) = false := by simpa using c78
                                          (try (have c78b1 : decide (t239 = false) = false := by simpa using c78))
                                          (try (have c78b2 : (t239 == false) = false := by simpa using c78))
                                          (try (have c78b3 : ¬ (t239 = false) := by simpa using c78))
                                          clear c78
                                          obtain rfl := Option.some.inj H
                                          try go_wp2
                                          have n0_ := Aside0.mk (Kd.R_drew HO_7.out)
                                          have n1_ := Aside0.mk (Kd.R_drew HO_8.out)
                                          have n2_ := Aside0.mk (Kd.R_drew HO_9.out)
                                          have n3_ := Aside0.mk (below_drew1 HB.out)
                                          clear HO_7
                                          clear HO_8
                                          clear HO_9
                                          clear HB
                                          have HO_7 := n0_
                                          have HO_8 := n1_
                                          have HO_9 := n2_
                                          have HB := n3_
                                          clear n0_ n1_ n2_ n3_
                                          obtain ⟨Ao93, co93, eo93⟩ := Kd.R_slice HO_7.out
                                          (first | subst eo93 | (injection eo93 with f1_ f2_ f3_; have f4_ := f1_.symm; have f5_ := f3_.symm; clear f1_ f2_ f3_; subst f4_; subst f5_))
                                          have q92 : (x14_4 : Int) ≤ ((x7_2.length : Int) : Int) := of_decide_eq_true (by first | (with_reducible assumption) | assumption)
                                          obtain ⟨i092, hi092, _, hsz92, _⟩ := info_parts info49
                                          have hroom92 : x7_2.length ≤ co93 := (Kd.R_reads' HO_7.out).2.1
                                          have hC92 : Kd.C k49 _ Ao93 x7_2.length x7_2 := (Kd.R_reads' HO_7.out).2.2
                                          have q092 : (0 : Int) ≤ (x14_4 : Int) := of_decide_eq_true (by first | (with_reducible assumption) | assumption)
                                          have hcut92 := cut_from (P := Try.prog) 65 49 .i64 Try.underlying65 hi092 5 hsz92 Ao93 x7_2.length co93 x14_4 q092 q92
                                          have hr92 := Kd.C_drop (m := (x14_4 : Int).toNat) (c := co93) hC92 (by omega) hroom92
                                          obtain ⟨A92, hA92⟩ : ∃ A1, A1 = (if co93 = (x14_4 : Int).toNat then Ao93 else (Ao93 : Option Addr).map (·.add ((x14_4 : Int).toNat * 5))) := ⟨_, rfl⟩
                                          obtain ⟨c92, hc92⟩ : ∃ c1, c1 = co93 - (x14_4 : Int).toNat := ⟨_, rfl⟩
                                          have hy92 : y225.length = x7_2.length - (x14_4 : Int).toNat := (by rw [Ny225.out, List.length_drop] <;> omega)
                                          rw [show (x7_2).drop (x14_4 : Int).toNat = y225 from Ny225.out.symm] at hr92
                                          replace hr92 : Kd.C k49 _ A92 y225.length y225 := (by rw [hA92]; exact hr92)
                                          rw [← hy92, ← hA92, ← hc92] at hcut92
                                          have HR228 := Aside0.mk hr92
                                          have HC228 := Aside0.mk (show y225.length ≤ c92 from by rw [hy92, hc92]; exact Nat.sub_le_sub_right hroom92 _)
                                          clear hr92 hC92 hroom92 hi092 hsz92 hc92
                                          have KY92 := Aside0.mk hy92
                                          have KA92 := Aside0.mk hA92
                                          clear hy92 hA92
                                          have KL92 := Aside0.mk (show (x14_4 : Int).toNat ≤ x7_2.length from by omega)
                                          replace q92 := eq_true q92
                                          obtain ⟨Ao95, co95, eo95⟩ := Kd.R_slice HO_8.out
                                          (first | subst eo95 | (injection eo95 with f1_ f2_ f3_; have f4_ := f1_.symm; have f5_ := f3_.symm; clear f1_ f2_ f3_; subst f4_; subst f5_))
                                          have q94 : (x15_4 : Int) ≤ ((x8_3.length : Int) : Int) := of_decide_eq_true (by first | (with_reducible assumption) | assumption)
                                          obtain ⟨i094, hi094, _, hsz94, _⟩ := info_parts info49
                                          have hroom94 : x8_3.length ≤ co95 := (Kd.R_reads' HO_8.out).2.1
                                          have hC94 : Kd.C k49 _ Ao95 x8_3.length x8_3 := (Kd.R_reads' HO_8.out).2.2
                                          have q094 : (0 : Int) ≤ (x15_4 : Int) := of_decide_eq_true (by first | (with_reducible assumption) | assumption)
                                          have hcut94 := cut_from (P := Try.prog) 65 49 .i64 Try.underlying65 hi094 5 hsz94 Ao95 x8_3.length co95 x15_4 q094 q94
                                          have hr94 := Kd.C_drop (m := (x15_4 : Int).toNat) (c := co95) hC94 (by omega) hroom94
                                          obtain ⟨A94, hA94⟩ : ∃ A1, A1 = (if co95 = (x15_4 : Int).toNat then Ao95 else (Ao95 : Option Addr).map (·.add ((x15_4 : Int).toNat * 5))) := ⟨_, rfl⟩
                                          obtain ⟨c94, hc94⟩ : ∃ c1, c1 = co95 - (x15_4 : Int).toNat := ⟨_, rfl⟩
                                          have hy94 : y232.length = x8_3.length - (x15_4 : Int).toNat := (by rw [Ny232.out, List.length_drop] <;> omega)
                                          rw [show (x8_3).drop (x15_4 : Int).toNat = y232 from Ny232.out.symm] at hr94
                                          replace hr94 : Kd.C k49 _ A94 y232.length y232 := (by rw [hA94]; exact hr94)
                                          rw [← hy94, ← hA94, ← hc94] at hcut94
                                          have HR235 := Aside0.mk hr94
                                          have HC235 := Aside0.mk (show y232.length ≤ c94 from by rw [hy94, hc94]; exact Nat.sub_le_sub_right hroom94 _)
                                          clear hr94 hC94 hroom94 hi094 hsz94 hc94
                                          have KY94 := Aside0.mk hy94
                                          have KA94 := Aside0.mk hA94
                                          clear hy94 hA94
                                          have KL94 := Aside0.mk (show (x15_4 : Int).toNat ≤ x8_3.length from by omega)
                                          replace q94 := eq_true q94
                                          refine start_ (n := 10) (S := fun w' => True) (ds := []) #[false, false, false, false, false, false, false, false, false, false] (by kernel_rfl) rfl rfl trivial (fun hHeld => ?_); refine with_tabW credenzalaw23_TellMixes.tab27 credenzalaw23_TellMixes.bits27 (fun HT_ HW_ => ?_)
                                          generalize wr.drew = w91 at HO_7 HO_8 HO_9 HB HR228 HR235 hHeld ⊢
                                          refine pure_ (i := 0) (N := some 98) (v := ?_) (a' := ?_) #[true, false, false, false, false, false, false, false, false, false] rfl rfl (any_of HT_.out (by kernel_rfl)) (fun _ _ _ h => h) (Or.inl ⟨by rfl, ?_⟩) ?_ ?_
                                          rotate_left
                                          · intro w'
                                            go_simp
                                            with_reducible rfl
                                          rotate_left
                                          · simp only [Act.put, List.setIfInBounds_toArray, List.set_cons_zero, List.set_cons_succ, i64_w, i32_w, IntKind.wrap_u32]
                                            rfl
                                          refine pure_ (i := 1) (N := some 99) (v := ?_) (a' := ?_) #[true, true, false, false, false, false, false, false, false, false] rfl rfl (any_of HT_.out (by kernel_rfl)) (fun _ _ _ h => h) (Or.inl ⟨by rfl, ?_⟩) ?_ ?_
                                          rotate_left
                                          · intro w'
                                            go_simp
                                            with_reducible rfl
                                          rotate_left
                                          · simp only [Act.put, List.setIfInBounds_toArray, List.set_cons_zero, List.set_cons_succ, i64_w, i32_w, IntKind.wrap_u32]
                                            rfl
                                          refine pure_ (i := 2) (N := some 100) (v := ?_) (a' := ?_) #[true, true, true, false, false, false, false, false, false, false] rfl rfl (any_of HT_.out (by kernel_rfl)) (fun _ _ _ h => h) (Or.inl ⟨by rfl, ?_⟩) ?_ ?_
                                          rotate_left
                                          · intro w'
                                            go_simp
                                            with_reducible rfl
                                          rotate_left
                                          · simp only [Act.put, List.setIfInBounds_toArray, List.set_cons_zero, List.set_cons_succ, i64_w, i32_w, IntKind.wrap_u32]
                                            rfl
                                          refine pure_ (i := 3) (N := some 101) (v := ?_) (a' := ?_) #[true, true, true, true, false, false, false, false, false, false] rfl rfl (any_of HT_.out (by kernel_rfl)) (fun _ _ _ h => h) (Or.inl ⟨by rfl, ?_⟩) ?_ ?_
                                          rotate_left
                                          · intro w'
                                            go_simp
                                            with_reducible rfl
                                          rotate_left
                                          · simp only [Act.put, List.setIfInBounds_toArray, List.set_cons_zero, List.set_cons_succ, i64_w, i32_w, IntKind.wrap_u32]
                                            rfl
                                          refine pure_ (i := 5) (N := some 103) (v := ?_) (a' := ?_) #[true, true, true, true, false, true, false, false, false, false] rfl rfl (any_of HT_.out (by kernel_rfl)) (fun _ _ _ h => h) (Or.inl ⟨by rfl, ?_⟩) ?_ ?_
                                          rotate_left
                                          · intro w'
                                            go_simp
                                            with_reducible rfl
                                          rotate_left
                                          · simp only [Act.put, List.setIfInBounds_toArray, List.set_cons_zero, List.set_cons_succ, i64_w, i32_w, IntKind.wrap_u32]
                                            rfl
                                          refine pure_ (i := 6) (N := some 104) (v := ?_) (a' := ?_) #[true, true, true, true, false, true, true, false, false, false] rfl rfl (any_of HT_.out (by kernel_rfl)) (fun _ _ _ h => h) (Or.inl ⟨by rfl, ?_⟩) ?_ ?_
                                          rotate_left
                                          · intro w'
                                            go_simp
                                            with_reducible rfl
                                          rotate_left
                                          · simp only [Act.put, List.setIfInBounds_toArray, List.set_cons_zero, List.set_cons_succ, i64_w, i32_w, IntKind.wrap_u32]
                                            rfl
                                          refine pure_ (i := 7) (N := some 105) (v := ?_) (a' := ?_) #[true, true, true, true, false, true, true, true, false, false] rfl rfl (any_of HT_.out (by kernel_rfl)) (fun _ _ _ h => h) (Or.inl ⟨by rfl, ?_⟩) ?_ ?_
                                          rotate_left
                                          · intro w'
                                            go_simp
                                            with_reducible rfl
                                          rotate_left
                                          · simp only [Act.put, List.setIfInBounds_toArray, List.set_cons_zero, List.set_cons_succ, i64_w, i32_w, IntKind.wrap_u32]
                                            rfl
                                          refine one_ (i := 4) (N := some 102) #[true, true, true, true, true, true, true, true, false, false] rfl rfl (one_of HT_.out (by kernel_rfl)) (by decide) (fun K hK => ?_)
                                          refine Kd.R_append_rows_step k49 (w0 := w) w.heap.size (by rfl) (.tmp 98) (.tmp 101) 65 49 (.agg #[(.int .i64 0), (.int .u32 0), (.int .i64 0), (.int .i64 0), (.int .i64 0)]) 40 rfl Try.underlying65 info49 rfl (by decide) (by omega) u9 x9_4 y225 _ _ _ (fun k_ => some k_ ≠ (.slice Ao93 x7_2.length co93 : Value).ownBlock ∧ some k_ ≠ (.slice Ao95 x8_3.length co95 : Value).ownBlock) (fun _ => False) rfl rfl ?aO ?aR (fun _ _ h => h) (fun _ h => h.elim) ?aF ?aB ?aS ?aL ?_
                                          (case aR => repeat (first | exact (by repeat (first | (with_reducible exact HR228.out) | (with_reducible refine Kd.C_alloc ?_ _) | (with_reducible refine Kd.C_drewN ?_ _) | (with_reducible refine Kd.C_drew ?_) | exact HR228.out)) | (with_reducible refine Kd.C_alloc ?_ _) | (with_reducible refine Kd.C_drewN ?_ _) | (with_reducible refine Kd.C_drew ?_)))
                                          (case aB => exact (by repeat (first | (with_reducible first | exact HB.out | apply below_alloc | apply pw_below_drewN | apply below_drew1) | exact HB.out)))
                                          (case aF => exact (fun k_ hk => ⟨Kd.fresh' (Kd.R_lt (by (with_reducible repeat (first | apply Kd.R_alloc | apply Kd.R_drewN | apply Kd.R_drew)); exact HO_7.out)) k_ hk, Kd.fresh' (Kd.R_lt (by (with_reducible repeat (first | apply Kd.R_alloc | apply Kd.R_drewN | apply Kd.R_drew)); exact HO_8.out)) k_ hk⟩))
                                          (case aO => exact (by (with_reducible repeat (first | apply Kd.R_alloc | apply Kd.R_drewN | apply Kd.R_drew)); exact HO_9.out))
                                          (case aS => exact (below_size (by repeat (first | (with_reducible first | exact HB.out | apply below_alloc | apply pw_below_drewN | apply below_drew1) | exact HB.out))))
                                          (case aL => have := LMc45.out; omega)
                                          intro v230 w96 ho hb hg hat
                                          rw [← Ny229.out] at ho
                                          have n0_ := Aside0.mk (Kd.R_after (ok := (fun k_ => some k_ ≠ (.slice Ao95 x8_3.length co95 : Value).ownBlock)) (by (with_reducible repeat (first | apply Kd.R_alloc | apply Kd.R_drewN | apply Kd.R_drew)); exact HO_7.out) hg hat)
                                          have n1_ := Aside0.mk (Kd.R_after (ok := (fun k_ => some k_ ≠ (.slice Ao93 x7_2.length co93 : Value).ownBlock)) (by (with_reducible repeat (first | apply Kd.R_alloc | apply Kd.R_drewN | apply Kd.R_drew)); exact HO_8.out) hg hat)
                                          have n2_ := Aside0.mk (hb)
                                          have n3_ := Aside0.mk ((show Kd.C k49 w96 A92 y225.length y225 from by rw [Ny225.out, KA92.out]; exact Kd.C_drop (m := (x14_4 : Int).toNat) (c := co93) ((Kd.R_reads' (Kd.R_after (ok := (fun k_ => some k_ ≠ (.slice Ao95 x8_3.length co95 : Value).ownBlock)) (by (with_reducible repeat (first | apply Kd.R_alloc | apply Kd.R_drewN | apply Kd.R_drew)); exact HO_7.out) hg hat)).2.2) KL92.out ((Kd.R_reads' (Kd.R_after (ok := (fun k_ => some k_ ≠ (.slice Ao95 x8_3.length co95 : Value).ownBlock)) (by (with_reducible repeat (first | apply Kd.R_alloc | apply Kd.R_drewN | apply Kd.R_drew)); exact HO_7.out) hg hat)).2.1)))
                                          have n4_ := Aside0.mk ((show Kd.C k49 w96 A94 y232.length y232 from by rw [Ny232.out, KA94.out]; exact Kd.C_drop (m := (x15_4 : Int).toNat) (c := co95) ((Kd.R_reads' (Kd.R_after (ok := (fun k_ => some k_ ≠ (.slice Ao93 x7_2.length co93 : Value).ownBlock)) (by (with_reducible repeat (first | apply Kd.R_alloc | apply Kd.R_drewN | apply Kd.R_drew)); exact HO_8.out) hg hat)).2.2) KL94.out ((Kd.R_reads' (Kd.R_after (ok := (fun k_ => some k_ ≠ (.slice Ao93 x7_2.length co93 : Value).ownBlock)) (by (with_reducible repeat (first | apply Kd.R_alloc | apply Kd.R_drewN | apply Kd.R_drew)); exact HO_8.out) hg hat)).2.1)))
                                          have n5_ := Aside0.mk (ho)
                                          clear HO_7
                                          clear HO_8
                                          clear HB
                                          clear HR228
                                          clear HR235
                                          clear HO_9
                                          have HO_7 := n0_
                                          have HO_8 := n1_
                                          have HB := n2_
                                          have HR228 := n3_
                                          have HR235 := n4_
                                          have HO231 := n5_
                                          clear n0_ n1_ n2_ n3_ n4_ n5_
                                          clear ho hb hg hat
                                          refine hK.out _ _ trivial (fun hHeld => ?_)
                                          clear hK K
                                          refine norm_ (a' := ?_) ?_ ?_
                                          rotate_left
                                          · show Act.put _ (some 102) _ = _
                                            simp only [Act.put, List.setIfInBounds_toArray, List.set_cons_zero, List.set_cons_succ, i64_w, i32_w, IntKind.wrap_u32]
                                            rfl
                                          refine one_ (i := 8) (N := some 106) #[true, true, true, true, true, true, true, true, true, false] rfl rfl (one_of HT_.out (by kernel_rfl)) (by decide) (fun K hK => ?_)
                                          refine Kd.R_append_rows_step k49 (w0 := w) w.heap.size (by rfl) (.tmp 102) (.tmp 105) 65 49 (.agg #[(.int .i64 0), (.int .u32 0), (.int .i64 0), (.int .i64 0), (.int .i64 0)]) 40 rfl Try.underlying65 info49 rfl (by decide) (by omega) v230 y229 y232 _ _ _ (fun k_ => some k_ ≠ (.slice Ao93 x7_2.length co93 : Value).ownBlock ∧ some k_ ≠ (.slice Ao95 x8_3.length co95 : Value).ownBlock) (fun _ => False) rfl rfl ?aO ?aR (fun _ _ h => h) (fun _ h => h.elim) ?aF ?aB ?aS ?aL ?_
                                          (case aR => repeat (first | exact (by repeat (first | (with_reducible exact HR235.out) | (with_reducible refine Kd.C_alloc ?_ _) | (with_reducible refine Kd.C_drewN ?_ _) | (with_reducible refine Kd.C_drew ?_) | exact HR235.out)) | (with_reducible refine Kd.C_alloc ?_ _) | (with_reducible refine Kd.C_drewN ?_ _) | (with_reducible refine Kd.C_drew ?_)))
                                          (case aB => exact (by repeat (first | (with_reducible first | exact HB.out | apply below_alloc | apply pw_below_drewN | apply below_drew1) | exact HB.out)))
                                          (case aF => exact (fun k_ hk => ⟨Kd.fresh' (Kd.R_lt (by (with_reducible repeat (first | apply Kd.R_alloc | apply Kd.R_drewN | apply Kd.R_drew)); exact HO_7.out)) k_ hk, Kd.fresh' (Kd.R_lt (by (with_reducible repeat (first | apply Kd.R_alloc | apply Kd.R_drewN | apply Kd.R_drew)); exact HO_8.out)) k_ hk⟩))
                                          (case aO => exact (by (with_reducible repeat (first | apply Kd.R_alloc | apply Kd.R_drewN | apply Kd.R_drew)); exact HO231.out))
                                          (case aS => exact (below_size (by repeat (first | (with_reducible first | exact HB.out | apply below_alloc | apply pw_below_drewN | apply below_drew1) | exact HB.out))))
                                          (case aL => have := LMc48.out; omega)
                                          intro v237 w97 ho hb hg hat
                                          rw [← Ny236.out] at ho
                                          have n0_ := Aside0.mk (Kd.R_after (ok := (fun k_ => some k_ ≠ (.slice Ao95 x8_3.length co95 : Value).ownBlock)) (by (with_reducible repeat (first | apply Kd.R_alloc | apply Kd.R_drewN | apply Kd.R_drew)); exact HO_7.out) hg hat)
                                          have n1_ := Aside0.mk (Kd.R_after (ok := (fun k_ => some k_ ≠ (.slice Ao93 x7_2.length co93 : Value).ownBlock)) (by (with_reducible repeat (first | apply Kd.R_alloc | apply Kd.R_drewN | apply Kd.R_drew)); exact HO_8.out) hg hat)
                                          have n2_ := Aside0.mk (hb)
                                          have n3_ := Aside0.mk ((show Kd.C k49 w97 A92 y225.length y225 from by rw [Ny225.out, KA92.out]; exact Kd.C_drop (m := (x14_4 : Int).toNat) (c := co93) ((Kd.R_reads' (Kd.R_after (ok := (fun k_ => some k_ ≠ (.slice Ao95 x8_3.length co95 : Value).ownBlock)) (by (with_reducible repeat (first | apply Kd.R_alloc | apply Kd.R_drewN | apply Kd.R_drew)); exact HO_7.out) hg hat)).2.2) KL92.out ((Kd.R_reads' (Kd.R_after (ok := (fun k_ => some k_ ≠ (.slice Ao95 x8_3.length co95 : Value).ownBlock)) (by (with_reducible repeat (first | apply Kd.R_alloc | apply Kd.R_drewN | apply Kd.R_drew)); exact HO_7.out) hg hat)).2.1)))
                                          have n4_ := Aside0.mk ((show Kd.C k49 w97 A94 y232.length y232 from by rw [Ny232.out, KA94.out]; exact Kd.C_drop (m := (x15_4 : Int).toNat) (c := co95) ((Kd.R_reads' (Kd.R_after (ok := (fun k_ => some k_ ≠ (.slice Ao93 x7_2.length co93 : Value).ownBlock)) (by (with_reducible repeat (first | apply Kd.R_alloc | apply Kd.R_drewN | apply Kd.R_drew)); exact HO_8.out) hg hat)).2.2) KL94.out ((Kd.R_reads' (Kd.R_after (ok := (fun k_ => some k_ ≠ (.slice Ao93 x7_2.length co93 : Value).ownBlock)) (by (with_reducible repeat (first | apply Kd.R_alloc | apply Kd.R_drewN | apply Kd.R_drew)); exact HO_8.out) hg hat)).2.1)))
                                          have n5_ := Aside0.mk (ho)
                                          clear HO_7
                                          clear HO_8
                                          clear HB
                                          clear HR228
                                          clear HR235
                                          clear HO231
                                          have HO_7 := n0_
                                          have HO_8 := n1_
                                          have HB := n2_
                                          have HR228 := n3_
                                          have HR235 := n4_
                                          have HO238 := n5_
                                          clear n0_ n1_ n2_ n3_ n4_ n5_
                                          clear ho hb hg hat
                                          refine hK.out _ _ trivial (fun hHeld => ?_)
                                          clear hK K
                                          refine norm_ (a' := ?_) ?_ ?_
                                          rotate_left
                                          · show Act.put _ (some 106) _ = _
                                            simp only [Act.put, List.setIfInBounds_toArray, List.set_cons_zero, List.set_cons_succ, i64_w, i32_w, IntKind.wrap_u32]
                                            rfl
                                          refine pure_ (i := 9) (N := some 9) (v := ?_) (a' := ?_) #[true, true, true, true, true, true, true, true, true, true] rfl rfl (any_of HT_.out (by kernel_rfl)) (fun _ _ _ h => h) (Or.inl ⟨by rfl, ?_⟩) ?_ ?_
                                          rotate_left
                                          · intro w'
                                            go_simp
                                            with_reducible rfl
                                          rotate_left
                                          · simp only [Act.put, List.setIfInBounds_toArray, List.set_cons_zero, List.set_cons_succ, i64_w, i32_w, IntKind.wrap_u32]
                                            rfl
                                          refine done_ (done_of HT_.out (by kernel_rfl)) ?_
                                          obtain ⟨Ao98, co98, eo98⟩ := Kd.R_slice HO238.out
                                          subst eo98
                                          try go_wp2_with (first | ((with_reducible refine gate_callee (f := 36) rfl ?_); refine goesL_ (some 108) rfl rfl Try.func36 (by kernel_rfl) rfl #[.slice Ao98 y236.length co98] rfl (by (try simp only [List.map_toArray, List.map_cons, List.map_nil]); first | done | rfl | (simp only [List.length_drop, List.length_take]; rfl)) ?_; (with_reducible refine (tell_Ordered.calls _ _ y236 t239 _ ?side1 ?side2 A49.out).mono ?_); (case side1 => repeat (first | exact (Kd.R_reads' HO238.out).2.2 | (with_reducible refine Kd.C_alloc ?_ _) | (with_reducible refine Kd.C_drewN ?_ _) | (with_reducible refine Kd.C_drew ?_))); (case side2 => exact (Kd.R_reads' HO238.out).2.1); rintro e w99 ⟨rfl, hb⟩; refine ⟨_, rfl, ?_⟩; have n0_ := Aside0.mk (Kd.R_below (by (with_reducible repeat (first | apply Kd.R_alloc | apply Kd.R_drewN | apply Kd.R_drew)); exact HO_7.out) hb); have n1_ := Aside0.mk (Kd.R_below (by (with_reducible repeat (first | apply Kd.R_alloc | apply Kd.R_drewN | apply Kd.R_drew)); exact HO_8.out) hb); have n2_ := Aside0.mk (Kd.R_below (by (with_reducible repeat (first | apply Kd.R_alloc | apply Kd.R_drewN | apply Kd.R_drew)); exact HO238.out) hb); have n3_ := Aside0.mk (Kd.C_below (by repeat (first | (with_reducible exact HR228.out) | (with_reducible refine Kd.C_alloc ?_ _) | (with_reducible refine Kd.C_drewN ?_ _) | (with_reducible refine Kd.C_drew ?_) | exact HR228.out)) hb); have n4_ := Aside0.mk (Kd.C_below (by repeat (first | (with_reducible exact HR235.out) | (with_reducible refine Kd.C_alloc ?_ _) | (with_reducible refine Kd.C_drewN ?_ _) | (with_reducible refine Kd.C_drew ?_) | exact HR235.out)) hb); have n5_ := Aside0.mk (below_step (by repeat (first | (with_reducible first | exact HB.out | apply below_alloc | apply pw_below_drewN | apply below_drew1) | exact HB.out)) hb); clear HO_7; clear HO_8; clear HO238; clear HR228; clear HR235; clear HB; have HO_7 := n0_; have HO_8 := n1_; have HO238 := n2_; have HR228 := n3_; have HR235 := n4_; have HB := n5_; clear n0_ n1_ n2_ n3_ n4_ n5_; (try clear hb); (try clear hb2); (try clear hk); (try clear hi)) | ((with_reducible refine gate_callee (f := 36) rfl ?_); refine goesL_ (some 110) rfl rfl Try.func36 (by kernel_rfl) rfl #[.slice Ao93 x7_2.length co93] rfl (by (try simp only [List.map_toArray, List.map_cons, List.map_nil]); first | done | rfl | (simp only [List.length_drop, List.length_take]; rfl)) ?_; (with_reducible refine (tell_Ordered.calls _ _ x7_2 false _ ?side1 ?side2 A50.out).mono ?_); (case side1 => repeat (first | exact (Kd.R_reads' HO_7.out).2.2 | (with_reducible refine Kd.C_alloc ?_ _) | (with_reducible refine Kd.C_drewN ?_ _) | (with_reducible refine Kd.C_drew ?_))); (case side2 => exact (Kd.R_reads' HO_7.out).2.1); rintro e w100 ⟨rfl, hb⟩; refine ⟨_, rfl, ?_⟩; have n0_ := Aside0.mk (Kd.R_below (by (with_reducible repeat (first | apply Kd.R_alloc | apply Kd.R_drewN | apply Kd.R_drew)); exact HO_7.out) hb); have n1_ := Aside0.mk (Kd.R_below (by (with_reducible repeat (first | apply Kd.R_alloc | apply Kd.R_drewN | apply Kd.R_drew)); exact HO_8.out) hb); have n2_ := Aside0.mk (Kd.R_below (by (with_reducible repeat (first | apply Kd.R_alloc | apply Kd.R_drewN | apply Kd.R_drew)); exact HO238.out) hb); have n3_ := Aside0.mk (Kd.C_below (by repeat (first | (with_reducible exact HR228.out) | (with_reducible refine Kd.C_alloc ?_ _) | (with_reducible refine Kd.C_drewN ?_ _) | (with_reducible refine Kd.C_drew ?_) | exact HR228.out)) hb); have n4_ := Aside0.mk (Kd.C_below (by repeat (first | (with_reducible exact HR235.out) | (with_reducible refine Kd.C_alloc ?_ _) | (with_reducible refine Kd.C_drewN ?_ _) | (with_reducible refine Kd.C_drew ?_) | exact HR235.out)) hb); have n5_ := Aside0.mk (below_step (by repeat (first | (with_reducible first | exact HB.out | apply below_alloc | apply pw_below_drewN | apply below_drew1) | exact HB.out)) hb); clear HO_7; clear HO_8; clear HO238; clear HR228; clear HR235; clear HB; have HO_7 := n0_; have HO_8 := n1_; have HO238 := n2_; have HR228 := n3_; have HR235 := n4_; have HB := n5_; clear n0_ n1_ n2_ n3_ n4_ n5_; (try clear hb); (try clear hb2); (try clear hk); (try clear hi)))
                                          go_ret
                                          exact ⟨by first | rfl | (simp [errW_none, errW_some] <;> rfl) | (simp [*, errW_none, errW_some] <;> rfl), by repeat (first | (with_reducible first | exact HB.out | apply below_alloc | apply pw_below_drewN | apply below_drew1) | exact HB.out)⟩
                                    · rw [if_neg c48] at H
                                      exact absurd H (by simp)
                                  · rw [if_neg c47] at H
                                    exact absurd H (by simp)
                                · rw [if_neg c46] at H
                                  exact absurd H (by simp)
                              · rw [if_neg c45] at H
                                exact absurd H (by simp)
                            · rw [if_neg c44] at H
                              exact absurd H (by simp)
                          · rw [if_neg c43] at H
                            exact absurd H (by simp)

/-- THE ONE PURE STATEMENT of credenzalaw23_TellMixes: yours. -/
def credenzalaw23_TellMixes.Pure : Prop := ∀ (l0 : List (S49)) (l1 : List (S49)) (l2 : List Bool), l0.length ≤ maxLen → (∀ z ∈ l0, ((Lit.int .i64 z.f0).wf = true ∧ (Lit.int .u32 z.f1).wf = true ∧ (Lit.int .i64 z.f2).wf = true ∧ (Lit.int .i64 z.f3).wf = true ∧ (Lit.int .i64 z.f4).wf = true)) → l1.length ≤ maxLen → (∀ z ∈ l1, ((Lit.int .i64 z.f0).wf = true ∧ (Lit.int .u32 z.f1).wf = true ∧ (Lit.int .i64 z.f2).wf = true ∧ (Lit.int .i64 z.f3).wf = true ∧ (Lit.int .i64 z.f4).wf = true)) → l2.length ≤ maxLen → (∀ z ∈ l2, True) → ∃ k, credenzalaw23_TellMixes.f k l0 l1 l2 = some true
theorem credenzalaw23_TellMixes.walk (P : credenzalaw23_TellMixes.Pure) (a0 : Option Addr) (c0 : Nat) (l0 : List (S49)) (a1 : Option Addr) (c1 : Nat) (l1 : List (S49)) (a2 : Option Addr) (c2 : Nat) (l2 : List Bool) (w : World) (hr0 : Kd.C k49 w a0 l0.length l0) (hc0 : l0.length ≤ c0) (hm0 : l0.length ≤ maxLen) (hq0 : ∀ z ∈ l0, ((Lit.int .i64 z.f0).wf = true ∧ (Lit.int .u32 z.f1).wf = true ∧ (Lit.int .i64 z.f2).wf = true ∧ (Lit.int .i64 z.f3).wf = true ∧ (Lit.int .i64 z.f4).wf = true)) (hr1 : Kd.C k49 w a1 l1.length l1) (hc1 : l1.length ≤ c1) (hm1 : l1.length ≤ maxLen) (hq1 : ∀ z ∈ l1, ((Lit.int .i64 z.f0).wf = true ∧ (Lit.int .u32 z.f1).wf = true ∧ (Lit.int .i64 z.f2).wf = true ∧ (Lit.int .i64 z.f3).wf = true ∧ (Lit.int .i64 z.f4).wf = true)) (hr2 : Kd.C Kd.bool w a2 l2.length l2) (hc2 : l2.length ≤ c2) (hm2 : l2.length ≤ maxLen) (hq2 : ∀ z ∈ l2, True) :
    Calls Try.prog 12 #[.slice a0 l0.length c0, .slice a1 l1.length c1, .slice a2 l2.length c2] w fun e w' => e = .returned (.bool true) ∧ Below w.heap.size w w' := by
  obtain ⟨k, h⟩ := P l0 l1 l2 hm0 hq0 hm1 hq1 hm2 hq2
  refine (credenzalaw23_TellMixes.calls k _ _ l0 _ _ l1 _ _ l2 true w hr0 hc0 hr1 hc1 hr2 hc2 h).mono ?_
  rintro e w' ⟨rfl, hd⟩
  exact ⟨rfl, hd⟩

end Go.Proofs.Ytggoddiiglkpiaa.PTellMixes
