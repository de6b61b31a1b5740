-- Written by a program of this session (wip/tools/mkprint.py over the kit's print).
import Derived.Test.YtggoddiiglkpiaaPTellEndsx0
import Derived.Test.YtggoddiiglkpiaaPTellEndsx3
import Derived.Test.YtggoddiiglkpiaaPTellEndsx4
namespace Go.Proofs.Ytggoddiiglkpiaa.PTellEnds
open Go.RowKit Go.Proofs.YtggoddiiglkpiaaW.PrintWords Go.Proofs.YtggoddiiglkpiaaW.PrintLast Go.Proofs.YtggoddiiglkpiaaW.PrintMore
attribute [local go_sem] max2_int min2_int max_two min_two max_three min_three max_four min_four   -- for this text's walks alone
set_option linter.unusedVariables false
set_option linter.unusedSimpArgs false

/-! ### credenzalaw23_TellEnds: function 13 -/
mutual
def credenzalaw23_TellEnds.j0 : Nat → List (S49) → Int → Bool → Option (Bool)
  | 0, _, _, _ => none
  | k + 1, x0, x1, x16 => if x16 = true then ((credenzalaw23_awake.f k).bind fun t206 => (some t206)) else (credenzalaw23_TellEnds.l0 k x0 x1 0 0 x0 (x0.length : Int) 0)
def credenzalaw23_TellEnds.l0 : Nat → List (S49) → Int → Int → Int → List (S49) → Int → Int → Option (Bool)
  | 0, _, _, _, _, _, _, _ => none
  | k + 1, x0, x1, x5, x6, x18, x19, x20 => if x20 < x19 then (if 0 ≤ x20 then (if x20 < (x18.length : Int) then (if ((rd_T49 x18 x20).f1) = x1 then (credenzalaw23_TellEnds.j2 k x0 x1 x5 x6 x18 x19 x20 (((rd_T49 x18 x20).f0) == 5) ((rd_T49 x18 x20).f0) ((rd_T49 x18 x20).f1) ((rd_T49 x18 x20).f2) ((rd_T49 x18 x20).f3) ((rd_T49 x18 x20).f4)) else (credenzalaw23_TellEnds.j2 k x0 x1 x5 x6 x18 x19 x20 true ((rd_T49 x18 x20).f0) ((rd_T49 x18 x20).f1) ((rd_T49 x18 x20).f2) ((rd_T49 x18 x20).f3) ((rd_T49 x18 x20).f4))) else (none)) else (none)) else ((tell_Last.f k x0 x1).bind fun t207 => (if t207 = x5 then ((credenzalaw23_awake.f k).bind fun t208 => (some t208)) else (some false)))
def credenzalaw23_TellEnds.j2 : Nat → List (S49) → Int → Int → Int → List (S49) → Int → Int → Bool → Int → Int → Int → Int → Int → Option (Bool)
  | 0, _, _, _, _, _, _, _, _, _, _, _, _, _ => none
  | k + 1, x0, x1, x5, x6, x18, x19, x20, x32, x211000, x211001, x211002, x211003, x211004 => if x32 = true then (credenzalaw23_TellEnds.l0 k x0 x1 x5 x6 x18 x19 (wrap64 (x20 + 1))) else (if x5 = 0 then (credenzalaw23_TellEnds.j3 k x0 x1 x5 x6 x18 x19 x20 (x211002 != x6) x211000 x211001 x211002 x211003 x211004) else (credenzalaw23_TellEnds.j3 k x0 x1 x5 x6 x18 x19 x20 true x211000 x211001 x211002 x211003 x211004))
def credenzalaw23_TellEnds.j3 : Nat → List (S49) → Int → Int → Int → List (S49) → Int → Int → Bool → Int → Int → Int → Int → Int → Option (Bool)
  | 0, _, _, _, _, _, _, _, _, _, _, _, _, _ => none
  | k + 1, x0, x1, x5, x6, x18, x19, x20, x40, x211000, x211001, x211002, x211003, x211004 => if x40 = true then (some false) else (if x211000 = 1 then (credenzalaw23_TellEnds.l0 k x0 x1 x5 (wrap64 (x6 + 1)) x18 x19 (wrap64 (x20 + 1))) else (credenzalaw23_TellEnds.l0 k x0 x1 x211000 x6 x18 x19 (wrap64 (x20 + 1))))
end
def credenzalaw23_TellEnds.f (k : Nat) (l0 : List (S49)) (a1 : Int) : Option (Bool) := if (l0.length : Int) > 60 then (credenzalaw23_TellEnds.j0 k l0 a1 true) else ((tell_Ordered.f l0).bind fun t205 => (credenzalaw23_TellEnds.j0 k l0 a1 (!t205)))
theorem credenzalaw23_TellEnds.mono_l : ∀ k, (∀ y0 y1 y2, LeO (credenzalaw23_TellEnds.j0 k y0 y1 y2) (credenzalaw23_TellEnds.j0 (k + 1) y0 y1 y2)) ∧ (∀ y0 y1 y2 y3 y4 y5 y6, LeO (credenzalaw23_TellEnds.l0 k y0 y1 y2 y3 y4 y5 y6) (credenzalaw23_TellEnds.l0 (k + 1) y0 y1 y2 y3 y4 y5 y6)) ∧ (∀ y0 y1 y2 y3 y4 y5 y6 y7 y8 y9 y10 y11 y12, LeO (credenzalaw23_TellEnds.j2 k y0 y1 y2 y3 y4 y5 y6 y7 y8 y9 y10 y11 y12) (credenzalaw23_TellEnds.j2 (k + 1) y0 y1 y2 y3 y4 y5 y6 y7 y8 y9 y10 y11 y12)) ∧ (∀ y0 y1 y2 y3 y4 y5 y6 y7 y8 y9 y10 y11 y12, LeO (credenzalaw23_TellEnds.j3 k y0 y1 y2 y3 y4 y5 y6 y7 y8 y9 y10 y11 y12) (credenzalaw23_TellEnds.j3 (k + 1) y0 y1 y2 y3 y4 y5 y6 y7 y8 y9 y10 y11 y12))
  | 0 => ⟨fun _ _ _ r h => by simp [credenzalaw23_TellEnds.j0] at h, fun _ _ _ _ _ _ _ r h => by simp [credenzalaw23_TellEnds.l0] at h, fun _ _ _ _ _ _ _ _ _ _ _ _ _ r h => by simp [credenzalaw23_TellEnds.j2] at h, fun _ _ _ _ _ _ _ _ _ _ _ _ _ r h => by simp [credenzalaw23_TellEnds.j3] at h⟩
  | k + 1 => by
    obtain ⟨ih0, ih1, ih2, ih3⟩ := credenzalaw23_TellEnds.mono_l k
    refine ⟨?_, ?_, ?_, ?_⟩
    · intro y0 y1 y2
      unfold credenzalaw23_TellEnds.j0
      repeat' first
      | (with_reducible exact ih0 _ _ _)
      | (with_reducible exact ih1 _ _ _ _ _ _ _)
      | (with_reducible exact ih2 _ _ _ _ _ _ _ _ _ _ _ _ _)
      | (with_reducible exact ih3 _ _ _ _ _ _ _ _ _ _ _ _ _)
      | (with_reducible exact credenzalaw23_awake.mono _)
      | (with_reducible exact tell_Last.mono _ _ _)
      | (with_reducible exact LeO.refl _)
      | (with_reducible exact LeO.none _)
      | (with_reducible refine LeO.ite ?_ ?_)
      | (with_reducible refine LeO.bind ?_ (fun _ => ?_))
      | exact ih0 _ _ _
      | exact ih1 _ _ _ _ _ _ _
      | exact ih2 _ _ _ _ _ _ _ _ _ _ _ _ _
      | exact ih3 _ _ _ _ _ _ _ _ _ _ _ _ _
      | exact credenzalaw23_awake.mono _
      | exact tell_Last.mono _ _ _
      | exact LeO.none _
      | refine LeO.ite ?_ ?_
      | refine LeO.bind ?_ (fun _ => ?_)
    · intro y0 y1 y2 y3 y4 y5 y6
      unfold credenzalaw23_TellEnds.l0
      repeat' first
      | (with_reducible exact ih0 _ _ _)
      | (with_reducible exact ih1 _ _ _ _ _ _ _)
      | (with_reducible exact ih2 _ _ _ _ _ _ _ _ _ _ _ _ _)
      | (with_reducible exact ih3 _ _ _ _ _ _ _ _ _ _ _ _ _)
      | (with_reducible exact credenzalaw23_awake.mono _)
      | (with_reducible exact tell_Last.mono _ _ _)
      | (with_reducible exact LeO.refl _)
      | (with_reducible exact LeO.none _)
      | (with_reducible refine LeO.ite ?_ ?_)
      | (with_reducible refine LeO.bind ?_ (fun _ => ?_))
      | exact ih0 _ _ _
      | exact ih1 _ _ _ _ _ _ _
      | exact ih2 _ _ _ _ _ _ _ _ _ _ _ _ _
      | exact ih3 _ _ _ _ _ _ _ _ _ _ _ _ _
      | exact credenzalaw23_awake.mono _
      | exact tell_Last.mono _ _ _
      | exact LeO.none _
      | refine LeO.ite ?_ ?_
      | refine LeO.bind ?_ (fun _ => ?_)
    · intro y0 y1 y2 y3 y4 y5 y6 y7 y8 y9 y10 y11 y12
      unfold credenzalaw23_TellEnds.j2
      repeat' first
      | (with_reducible exact ih0 _ _ _)
      | (with_reducible exact ih1 _ _ _ _ _ _ _)
      | (with_reducible exact ih2 _ _ _ _ _ _ _ _ _ _ _ _ _)
      | (with_reducible exact ih3 _ _ _ _ _ _ _ _ _ _ _ _ _)
      | (with_reducible exact credenzalaw23_awake.mono _)
      | (with_reducible exact tell_Last.mono _ _ _)
      | (with_reducible exact LeO.refl _)
      | (with_reducible exact LeO.none _)
      | (with_reducible refine LeO.ite ?_ ?_)
      | (with_reducible refine LeO.bind ?_ (fun _ => ?_))
      | exact ih0 _ _ _
      | exact ih1 _ _ _ _ _ _ _
      | exact ih2 _ _ _ _ _ _ _ _ _ _ _ _ _
      | exact ih3 _ _ _ _ _ _ _ _ _ _ _ _ _
      | exact credenzalaw23_awake.mono _
      | exact tell_Last.mono _ _ _
      | exact LeO.none _
      | refine LeO.ite ?_ ?_
      | refine LeO.bind ?_ (fun _ => ?_)
    · intro y0 y1 y2 y3 y4 y5 y6 y7 y8 y9 y10 y11 y12
      unfold credenzalaw23_TellEnds.j3
      repeat' first
      | (with_reducible exact ih0 _ _ _)
      | (with_reducible exact ih1 _ _ _ _ _ _ _)
      | (with_reducible exact ih2 _ _ _ _ _ _ _ _ _ _ _ _ _)
      | (with_reducible exact ih3 _ _ _ _ _ _ _ _ _ _ _ _ _)
      | (with_reducible exact credenzalaw23_awake.mono _)
      | (with_reducible exact tell_Last.mono _ _ _)
      | (with_reducible exact LeO.refl _)
      | (with_reducible exact LeO.none _)
      | (with_reducible refine LeO.ite ?_ ?_)
      | (with_reducible refine LeO.bind ?_ (fun _ => ?_))
      | exact ih0 _ _ _
      | exact ih1 _ _ _ _ _ _ _
      | exact ih2 _ _ _ _ _ _ _ _ _ _ _ _ _
      | exact ih3 _ _ _ _ _ _ _ _ _ _ _ _ _
      | exact credenzalaw23_awake.mono _
      | exact tell_Last.mono _ _ _
      | exact LeO.none _
      | refine LeO.ite ?_ ?_
      | refine LeO.bind ?_ (fun _ => ?_)
theorem credenzalaw23_TellEnds.mono : ∀ a0 a1 k, LeO (credenzalaw23_TellEnds.f k a0 a1) (credenzalaw23_TellEnds.f (k + 1) a0 a1) := by
  intro a0 a1 k
  obtain ⟨ih0, ih1, ih2, ih3⟩ := credenzalaw23_TellEnds.mono_l k
  unfold credenzalaw23_TellEnds.f
  repeat' first
      | (with_reducible exact ih0 _ _ _)
      | (with_reducible exact ih1 _ _ _ _ _ _ _)
      | (with_reducible exact ih2 _ _ _ _ _ _ _ _ _ _ _ _ _)
      | (with_reducible exact ih3 _ _ _ _ _ _ _ _ _ _ _ _ _)
      | (with_reducible exact credenzalaw23_awake.mono _)
      | (with_reducible exact tell_Last.mono _ _ _)
      | (with_reducible exact LeO.refl _)
      | (with_reducible exact LeO.none _)
      | (with_reducible refine LeO.ite ?_ ?_)
      | (with_reducible refine LeO.bind ?_ (fun _ => ?_))
      | exact ih0 _ _ _
      | exact ih1 _ _ _ _ _ _ _
      | exact ih2 _ _ _ _ _ _ _ _ _ _ _ _ _
      | exact ih3 _ _ _ _ _ _ _ _ _ _ _ _ _
      | exact credenzalaw23_awake.mono _
      | exact tell_Last.mono _ _ _
      | exact LeO.none _
      | refine LeO.ite ?_ ?_
      | refine LeO.bind ?_ (fun _ => ?_)
set_option maxHeartbeats 8000000 in
set_option maxRecDepth 100000 in
theorem credenzalaw23_TellEnds.calls (k : Nat) (A0 : Option Addr) (c0 : Nat) (l0 : List (S49)) (a1 : Int) (r : Bool) (w : World) (hr0 : Kd.C k49 w A0 l0.length l0) (hc0 : l0.length ≤ c0) (h : credenzalaw23_TellEnds.f k l0 a1 = some r) :
    Calls Try.prog 13 #[.slice A0 l0.length c0, .int .u32 a1] w fun e w' => e = .returned (.bool r) ∧ Below w.heap.size w w' := by
  have hu49 := Try.underlying49
  have HR0 := Aside0.mk hr0
  have HC0 := Aside0.mk hc0
  clear hr0 hc0
  have HB := Aside0.mk (Below.refl w.heap.size w)
  have H : (if (l0.length : Int) > 60 then (credenzalaw23_TellEnds.j0 k l0 a1 true) else ((tell_Ordered.f l0).bind fun t205 => (credenzalaw23_TellEnds.j0 k l0 a1 (!t205)))) = some r := h
  clear h
  have HC3 := Aside0.mk H
  clear H
  go_enter Try.func13, Try.ntmps13
  go_upto_region 1 with (fail)
  go_cut [16] (fun v16 wc => ∃ (kq : Nat) (x16_2 : Bool), v16 = .bool x16_2 ∧ Aside0 (credenzalaw23_TellEnds.j0 kq l0 a1 x16_2 = some r) ∧ Aside0 (kq ≤ k) ∧ Aside0 (Below w.heap.size w wc))
  case first =>
    have H := HC3.out
    clear HC3
    by_cases c4 : (l0.length : Int) > 60
    · rw [if_pos c4] at H
      have c4b0 : decide (60 < (l0.length : Int)) = true := decide_eq_true c4
      have c4b1 : decide (60 < l0.length) = true := decide_eq_true (by omega)
      clear c4
      (first | rw [c4b0] | (simp only [i64_w, i32_w]; rw [c4b0]) | skip)
      have H' := Aside0.mk H
      clear H
      go_wp2
      go_meet
      case rel => exact ⟨_, (true), (by first | rfl | (simp; done) | (simp [*]; done)), H', ⟨by first | omega | exact Nat.le_refl _⟩, ⟨by repeat (first | (with_reducible first | exact HB.out | apply below_alloc | apply pw_below_drewN | apply below_drew1) | exact HB.out)⟩⟩
    · rw [if_neg c4] at H
      have c4b0 : decide (60 < (l0.length : Int)) = false := decide_eq_false c4
      have c4b1 : decide (60 < l0.length) = false := decide_eq_false (by omega)
      clear c4
      (first | rw [c4b0] | (simp only [i64_w, i32_w]; rw [c4b0]) | skip)
      replace H := Option.bind_eq_some_iff.mp H
      obtain ⟨t205, A50, H⟩ := H
      replace H : (credenzalaw23_TellEnds.j0 k l0 a1 (!t205)) = some r := H
      have A5 := Aside0.mk A50
      clear A50
      have H' := Aside0.mk H
      clear H
      go_wp2_with (first | (go_at_call 36; (with_reducible refine (tell_Ordered.calls _ _ l0 t205 _ ?side1 ?side2 A5.out).mono ?_); (case side1 => repeat (first | exact (Kd.C_below HR0.out HB.out) | (with_reducible refine Kd.C_alloc ?_ _) | (with_reducible refine Kd.C_drewN ?_ _) | (with_reducible refine Kd.C_drew ?_))); (case side2 => exact HC0.out); rintro e w6 ⟨rfl, hb⟩; have n0_ := Aside0.mk (below_step (by repeat (first | (with_reducible first | exact HB.out | apply below_alloc | apply pw_below_drewN | apply below_drew1) | exact HB.out)) hb); clear HB; have HB := n0_; clear n0_; (try clear hb); (try clear hb2); (try clear hk); (try clear hi)))
      go_meet
      case rel => exact ⟨_, (!t205), (by first | rfl | (simp; done) | (simp [*]; done)), H', ⟨by first | omega | exact Nat.le_refl _⟩, ⟨by repeat (first | (with_reducible first | exact HB.out | apply below_alloc | apply pw_below_drewN | apply below_drew1) | exact HB.out)⟩⟩
  case rest =>
    clear HC3
    try clear c1
    try clear p2
    try clear c4
    try clear c4b0
    try clear c4b1
    obtain ⟨kq, x16_2, rfl, HA, HJ2, HB⟩ := hcut
    cases kq with
    | zero => exact absurd HA.out (by simp [credenzalaw23_TellEnds.j0])
    | succ kj2 =>
      have H := HA.out
      clear HA
      simp only [credenzalaw23_TellEnds.j0] at H
      by_cases c7 : x16_2 = true
      · subst c7
        have H1 : ((credenzalaw23_awake.f kj2).bind fun t206 => (some t206)) = some r := by rw [if_pos rfl] at H; exact H
        clear H
        have H := H1
        clear H1
        replace H := Option.bind_eq_some_iff.mp H
        obtain ⟨t206, A80, H⟩ := H
        replace H : (some t206) = some r := H
        have A8 := Aside0.mk A80
        clear A80
        obtain rfl := Option.some.inj H
        go_wp2_with (first | ((with_reducible refine gate_callee (f := 32) rfl ?_); refine goesL_ (some 17) rfl rfl Try.func32 (by kernel_rfl) rfl #[] rfl (by (try simp only [List.map_toArray, List.map_cons, List.map_nil]); first | done | rfl | (simp only [List.length_drop, List.length_take]; rfl)) ?_; (with_reducible refine (credenzalaw23_awake.calls kj2  t206 _ A8.out).mono ?_); rintro e w9 ⟨rfl, hb⟩; refine ⟨_, rfl, ?_⟩; have n0_ := Aside0.mk (below_step (by repeat (first | (with_reducible first | exact HB.out | apply below_alloc | apply pw_below_drewN | apply below_drew1) | exact HB.out)) hb); clear HB; have HB := n0_; clear n0_; (try clear hb); (try clear hb2); (try clear hk); (try clear hi)))
        go_ret
        exact ⟨by first | rfl | (simp [errW_none, errW_some] <;> rfl) | (simp [*, errW_none, errW_some] <;> rfl), by repeat (first | (with_reducible first | exact HB.out | apply below_alloc | apply pw_below_drewN | apply below_drew1) | exact HB.out)⟩
      · replace c7 := Bool.eq_false_iff.mpr c7
        subst c7
        have H1 : (credenzalaw23_TellEnds.l0 kj2 l0 a1 0 0 l0 (l0.length : Int) 0) = some r := by rw [if_neg (show ¬ (false = true) by decide)] at H; exact H
        clear H
        have H := H1
        clear H1
        have H' := Aside0.mk H
        clear H
        go_wp2
        go_loopg [5, 6, 20] kj2 (fun kq v5 v6 v20 w' => ∃ (x5_2 : Int) (x6_2 : Int) (x20_2 : Int), v5 = .int .i64 x5_2 ∧ v6 = .int .i64 x6_2 ∧ v20 = .int .i64 x20_2 ∧ Aside0 (credenzalaw23_TellEnds.l0 kq l0 a1 x5_2 x6_2 l0 (l0.length : Int) x20_2 = some r) ∧ Aside0 (kq ≤ kj2) ∧ Aside0 (Below w.heap.size w w'))
        case atStart => exact ⟨(0), (0), (0), (by first | rfl | (simp; done) | (simp [*]; done)), (by first | rfl | (simp; done) | (simp [*]; done)), (by first | rfl | (simp; done) | (simp [*]; done)), H', ⟨Nat.le_refl _⟩, ⟨by repeat (first | (with_reducible first | exact HB.out | apply below_alloc | apply pw_below_drewN | apply below_drew1) | exact HB.out)⟩⟩
        case round =>
          clear H'
          try clear c1
          try clear p2
          try clear c3
          try clear c4
          try clear c4b0
          try clear c4b1
          try clear c7
          try clear p2
          obtain ⟨x5_2, x6_2, x20_2, rfl, rfl, rfl, HA, HK2, HB⟩ := hrel
          cases gk with
          | zero => exact absurd HA.out (by simp [credenzalaw23_TellEnds.l0])
          | succ k2 =>
            have H := HA.out
            clear HA
            simp only [credenzalaw23_TellEnds.l0] at H
            by_cases c10 : x20_2 < (l0.length : Int)
            · rw [if_pos c10] at H
              have c10b0 : decide (x20_2 < (l0.length : Int)) = true := decide_eq_true c10
              clear c10
              by_cases c11 : 0 ≤ x20_2
              · rw [if_pos c11] at H
                have c11b0 : decide (0 ≤ x20_2) = true := decide_eq_true c11
                clear c11
                by_cases c12 : x20_2 < (l0.length : Int)
                · rw [if_pos c12] at H
                  have c12b0 : decide (x20_2 < (l0.length : Int)) = true := decide_eq_true c12
                  clear c12
                  have HC13 := Aside0.mk H
                  clear H
                  have p209 : 0 ≤ (x20_2 : Int) := of_decide_eq_true (by first | (with_reducible assumption) | assumption)
                  have q209 : x20_2 < (l0.length : Int) := of_decide_eq_true (by first | (with_reducible assumption) | assumption)
                  obtain ⟨ad209, e209, hx209_0, hx209_1, hx209_2, hx209_3, hx209_4⟩ := at_T49 HR0.out x20_2 p209 q209
                  cases e209
                  replace hx209_0 := (HB.out.cell (World.block_lt_of_cell? w _ hx209_0)).trans hx209_0
                  replace hx209_1 := (HB.out.cell (World.block_lt_of_cell? w _ hx209_1)).trans hx209_1
                  replace hx209_2 := (HB.out.cell (World.block_lt_of_cell? w _ hx209_2)).trans hx209_2
                  replace hx209_3 := (HB.out.cell (World.block_lt_of_cell? w _ hx209_3)).trans hx209_3
                  replace hx209_4 := (HB.out.cell (World.block_lt_of_cell? w _ hx209_4)).trans hx209_4
                  replace p209 := eq_true p209
                  replace q209 := eq_true q209
                  go_upto_region 7 with (first | ((with_reducible refine gate_dst (N := 8) rfl ?_); refine box_event ?hg (N := 8) ?hd (cs := #[.int .i64 0, .int .u32 0, .int .i64 0, .int .i64 0, .int .i64 0]) (t := 49) ?hr ?_; (case hd => rfl); (case hg => rfl); (case hr => first | (go_simp; done) | (go_simp; rfl)); intro gb210 hg w14 hbox hb; have n0_ := Aside0.mk (below_step (by repeat (first | (with_reducible first | exact HB.out | apply below_alloc | apply pw_below_drewN | apply below_drew1) | exact HB.out)) hb); have n1_ := Aside0.mk (hbox); have n2_ := Aside0.mk ((by rw [hg]; exact (below_size (by repeat (first | (with_reducible first | exact HB.out | apply below_alloc | apply pw_below_drewN | apply below_drew1) | exact HB.out))) : w.heap.size ≤ gb210)); have n3_ := Aside0.mk ((by rw [hg]; exact (below_size (by repeat (first | (with_reducible first | exact HB.out | apply below_alloc | apply pw_below_drewN | apply below_drew1) | exact HB.out))) : w.heap.size ≤ gb210)); clear HB; have HB := n0_; have BK210 := n1_; have GW210 := n2_; have GE210 := n3_; clear n0_ n1_ n2_ n3_; clear hb hbox hg; have hcz15_0 : w14.cell? ⟨gb210, 0, none⟩ = some (.int .i64 0) := (blk_cell BK210.out 0).trans rfl; have hcz15_1 : w14.cell? ⟨gb210, 1, none⟩ = some (.int .u32 0) := (blk_cell BK210.out 1).trans rfl; have hcz15_2 : w14.cell? ⟨gb210, 2, none⟩ = some (.int .i64 0) := (blk_cell BK210.out 2).trans rfl; have hcz15_3 : w14.cell? ⟨gb210, 3, none⟩ = some (.int .i64 0) := (blk_cell BK210.out 3).trans rfl; have hcz15_4 : w14.cell? ⟨gb210, 4, none⟩ = some (.int .i64 0) := (blk_cell BK210.out 4).trans rfl; have hfz15_0 := blk_frozen BK210.out 0; have hfz15_1 := blk_frozen BK210.out 1; have hfz15_2 := blk_frozen BK210.out 2; have hfz15_3 := blk_frozen BK210.out 3; have hfz15_4 := blk_frozen BK210.out 4))
                  (try simp only [Act.put, List.setIfInBounds_toArray, List.set_cons_zero, List.set_cons_succ])
                  go_cut [32] (fun v32 wc => ∃ (kq : Nat) (x32_12 : Bool), v32 = .bool x32_12 ∧ Aside0 (credenzalaw23_TellEnds.j2 kq l0 a1 x5_2 x6_2 l0 (l0.length : Int) x20_2 x32_12 ((rd_T49 l0 x20_2).f0) ((rd_T49 l0 x20_2).f1) ((rd_T49 l0 x20_2).f2) ((rd_T49 l0 x20_2).f3) ((rd_T49 l0 x20_2).f4) = some r) ∧ Aside0 (kq ≤ k2) ∧ Aside0 (wc.heap[gb210]? = some (.cells #[.int .i64 ((rd_T49 l0 x20_2).f0), .int .u32 ((rd_T49 l0 x20_2).f1), .int .i64 ((rd_T49 l0 x20_2).f2), .int .i64 ((rd_T49 l0 x20_2).f3), .int .i64 ((rd_T49 l0 x20_2).f4)] 49 (0, 0))) ∧ Aside0 (Below w.heap.size w wc))
                  case first =>
                    have H := HC13.out
                    clear HC13
                    by_cases c16 : ((rd_T49 l0 x20_2).f1) = a1
                    · rw [if_pos c16] at H
                      have c16b0 : (((rd_T49 l0 x20_2).f1) == a1) = true := beq_iff_eq.mpr c16
                      have c16b1 : (((rd_T49 l0 x20_2).f1) != a1) = false := bne_eq_false_iff_eq.mpr c16
                      clear c16
                      (first | rw [c16b0] | (simp only [i64_w, i32_w]; rw [c16b0]) | skip)
                      have H' := Aside0.mk H
                      clear H
                      have hcz17_0 : w14.cell? ⟨gb210, 0, none⟩ = some (.int .i64 0) := (blk_cell BK210.out 0).trans rfl
                      have hcz17_1 : w14.cell? ⟨gb210, 1, none⟩ = some (.int .u32 0) := (blk_cell BK210.out 1).trans rfl
                      have hcz17_2 : w14.cell? ⟨gb210, 2, none⟩ = some (.int .i64 0) := (blk_cell BK210.out 2).trans rfl
                      have hcz17_3 : w14.cell? ⟨gb210, 3, none⟩ = some (.int .i64 0) := (blk_cell BK210.out 3).trans rfl
                      have hcz17_4 : w14.cell? ⟨gb210, 4, none⟩ = some (.int .i64 0) := (blk_cell BK210.out 4).trans rfl
                      have hfz17_0 := blk_frozen BK210.out 0
                      have hfz17_1 := blk_frozen BK210.out 1
                      have hfz17_2 := blk_frozen BK210.out 2
                      have hfz17_3 := blk_frozen BK210.out 3
                      have hfz17_4 := blk_frozen BK210.out 4
                      go_wp2
                      go_meet
                      case rel => exact ⟨_, ((((rd_T49 l0 x20_2).f0) == 5)), (by first | rfl | (simp; done) | (simp [*]; done)), H', ⟨by have := HJ2.out; have := HK2.out; first | omega | exact Nat.le_refl _⟩, ⟨by (with_reducible repeat (first | refine blk_drewN ?_ _ | refine blk_drew ?_ | refine blk_alloc ?_ _)); refine blk_put (cs := #[.int .i64 ((rd_T49 l0 x20_2).f0), .int .u32 ((rd_T49 l0 x20_2).f1), .int .i64 ((rd_T49 l0 x20_2).f2), .int .i64 ((rd_T49 l0 x20_2).f3), .int .i64 0]) ?_ 4 _ rfl; (with_reducible repeat (first | refine blk_drewN ?_ _ | refine blk_drew ?_ | refine blk_alloc ?_ _)); refine blk_put (cs := #[.int .i64 ((rd_T49 l0 x20_2).f0), .int .u32 ((rd_T49 l0 x20_2).f1), .int .i64 ((rd_T49 l0 x20_2).f2), .int .i64 0, .int .i64 0]) ?_ 3 _ rfl; (with_reducible repeat (first | refine blk_drewN ?_ _ | refine blk_drew ?_ | refine blk_alloc ?_ _)); refine blk_put (cs := #[.int .i64 ((rd_T49 l0 x20_2).f0), .int .u32 ((rd_T49 l0 x20_2).f1), .int .i64 0, .int .i64 0, .int .i64 0]) ?_ 2 _ rfl; (with_reducible repeat (first | refine blk_drewN ?_ _ | refine blk_drew ?_ | refine blk_alloc ?_ _)); refine blk_put (cs := #[.int .i64 ((rd_T49 l0 x20_2).f0), .int .u32 0, .int .i64 0, .int .i64 0, .int .i64 0]) ?_ 1 _ rfl; (with_reducible repeat (first | refine blk_drewN ?_ _ | refine blk_drew ?_ | refine blk_alloc ?_ _)); refine blk_put (cs := #[.int .i64 0, .int .u32 0, .int .i64 0, .int .i64 0, .int .i64 0]) ?_ 0 _ rfl; (with_reducible repeat (first | refine blk_drewN ?_ _ | refine blk_drew ?_ | refine blk_alloc ?_ _)); exact BK210.out⟩, ⟨by repeat (first | (with_reducible first | exact HB.out | apply below_alloc | apply pw_below_drewN | apply below_drew1 | refine below_set ?_ GE210.out) | exact HB.out)⟩⟩
                    · rw [if_neg c16] at H
                      have c16b0 : (((rd_T49 l0 x20_2).f1) == a1) = false := beq_eq_false_iff_ne.mpr c16
                      have c16b1 : (((rd_T49 l0 x20_2).f1) != a1) = true := bne_iff_ne.mpr c16
                      (first | rw [c16b0] | (simp only [i64_w, i32_w]; rw [c16b0]) | skip)
                      have H' := Aside0.mk H
                      clear H
                      have hcz18_0 : w14.cell? ⟨gb210, 0, none⟩ = some (.int .i64 0) := (blk_cell BK210.out 0).trans rfl
                      have hcz18_1 : w14.cell? ⟨gb210, 1, none⟩ = some (.int .u32 0) := (blk_cell BK210.out 1).trans rfl
                      have hcz18_2 : w14.cell? ⟨gb210, 2, none⟩ = some (.int .i64 0) := (blk_cell BK210.out 2).trans rfl
                      have hcz18_3 : w14.cell? ⟨gb210, 3, none⟩ = some (.int .i64 0) := (blk_cell BK210.out 3).trans rfl
                      have hcz18_4 : w14.cell? ⟨gb210, 4, none⟩ = some (.int .i64 0) := (blk_cell BK210.out 4).trans rfl
                      have hfz18_0 := blk_frozen BK210.out 0
                      have hfz18_1 := blk_frozen BK210.out 1
                      have hfz18_2 := blk_frozen BK210.out 2
                      have hfz18_3 := blk_frozen BK210.out 3
                      have hfz18_4 := blk_frozen BK210.out 4
                      go_wp2
                      go_meet
                      case rel => exact ⟨_, (true), (by first | rfl | (simp; done) | (simp [*]; done)), H', ⟨by have := HJ2.out; have := HK2.out; first | omega | exact Nat.le_refl _⟩, ⟨by (with_reducible repeat (first | refine blk_drewN ?_ _ | refine blk_drew ?_ | refine blk_alloc ?_ _)); refine blk_put (cs := #[.int .i64 ((rd_T49 l0 x20_2).f0), .int .u32 ((rd_T49 l0 x20_2).f1), .int .i64 ((rd_T49 l0 x20_2).f2), .int .i64 ((rd_T49 l0 x20_2).f3), .int .i64 0]) ?_ 4 _ rfl; (with_reducible repeat (first | refine blk_drewN ?_ _ | refine blk_drew ?_ | refine blk_alloc ?_ _)); refine blk_put (cs := #[.int .i64 ((rd_T49 l0 x20_2).f0), .int .u32 ((rd_T49 l0 x20_2).f1), .int .i64 ((rd_T49 l0 x20_2).f2), .int .i64 0, .int .i64 0]) ?_ 3 _ rfl; (with_reducible repeat (first | refine blk_drewN ?_ _ | refine blk_drew ?_ | refine blk_alloc ?_ _)); refine blk_put (cs := #[.int .i64 ((rd_T49 l0 x20_2).f0), .int .u32 ((rd_T49 l0 x20_2).f1), .int .i64 0, .int .i64 0, .int .i64 0]) ?_ 2 _ rfl; (with_reducible repeat (first | refine blk_drewN ?_ _ | refine blk_drew ?_ | refine blk_alloc ?_ _)); refine blk_put (cs := #[.int .i64 ((rd_T49 l0 x20_2).f0), .int .u32 0, .int .i64 0, .int .i64 0, .int .i64 0]) ?_ 1 _ rfl; (with_reducible repeat (first | refine blk_drewN ?_ _ | refine blk_drew ?_ | refine blk_alloc ?_ _)); refine blk_put (cs := #[.int .i64 0, .int .u32 0, .int .i64 0, .int .i64 0, .int .i64 0]) ?_ 0 _ rfl; (with_reducible repeat (first | refine blk_drewN ?_ _ | refine blk_drew ?_ | refine blk_alloc ?_ _)); exact BK210.out⟩, ⟨by repeat (first | (with_reducible first | exact HB.out | apply below_alloc | apply pw_below_drewN | apply below_drew1 | refine below_set ?_ GE210.out) | exact HB.out)⟩⟩
                  case rest =>
                    clear HC13
                    try clear c1
                    try clear p2
                    try clear q2
                    try clear hx2
                    try clear c3
                    try clear c4
                    try clear c4b0
                    try clear c4b1
                    try clear c7
                    try clear c10
                    try clear c10b0
                    try clear c11
                    try clear c11b0
                    try clear c12
                    try clear c12b0
                    try clear c13
                    try clear c16
                    try clear c16b0
                    try clear c16b1
                    try clear hcz15_0
                    try clear hcz15_1
                    try clear hcz15_2
                    try clear hcz15_3
                    try clear hcz15_4
                    try clear hcz17_0
                    try clear hcz17_1
                    try clear hcz17_2
                    try clear hcz17_3
                    try clear hcz17_4
                    try clear hcz18_0
                    try clear hcz18_1
                    try clear hcz18_2
                    try clear hcz18_3
                    try clear hcz18_4
                    try clear hfz15_0
                    try clear hfz15_1
                    try clear hfz15_2
                    try clear hfz15_3
                    try clear hfz15_4
                    try clear hfz17_0
                    try clear hfz17_1
                    try clear hfz17_2
                    try clear hfz17_3
                    try clear hfz17_4
                    try clear hfz18_0
                    try clear hfz18_1
                    try clear hfz18_2
                    try clear hfz18_3
                    try clear hfz18_4
                    try clear hx209_0
                    try clear hx209_1
                    try clear hx209_2
                    try clear hx209_3
                    try clear hx209_4
                    try clear p2
                    try clear p209
                    try clear q209
                    obtain ⟨kq, x32_12, rfl, HA, HJ12, BK210, HB⟩ := hcut
                    cases kq with
                    | zero => exact absurd HA.out (by simp [credenzalaw23_TellEnds.j2])
                    | succ kj12 =>
                      have H := HA.out
                      clear HA
                      simp only [credenzalaw23_TellEnds.j2] at H
                      by_cases c19 : x32_12 = true
                      · subst c19
                        have H1 : (credenzalaw23_TellEnds.l0 kj12 l0 a1 x5_2 x6_2 l0 (l0.length : Int) (wrap64 (x20_2 + 1))) = some r := by rw [if_pos rfl] at H; exact H
                        clear H
                        have H := H1
                        clear H1
                        have H' := Aside0.mk H
                        clear H
                        go_wp2
                        go_roundg kj12
                        case measure => have := HJ2.out; have := HK2.out; have := HJ12.out; omega
                        case rel => exact ⟨(x5_2), (x6_2), (wrap64 (x20_2 + 1)), (by first | rfl | (simp; done) | (simp [*]; done)), (by first | rfl | (simp; done) | (simp [*]; done)), (by first | rfl | (simp; done) | (simp [*]; done)), H', ⟨by have := HJ2.out; have := HK2.out; have := HJ12.out; omega⟩, ⟨by repeat (first | (with_reducible first | exact HB.out | apply below_alloc | apply pw_below_drewN | apply below_drew1 | refine below_set ?_ GE210.out) | exact HB.out)⟩⟩
                      · replace c19 := Bool.eq_false_iff.mpr c19
                        subst c19
                        have H1 : (if x5_2 = 0 then (credenzalaw23_TellEnds.j3 kj12 l0 a1 x5_2 x6_2 l0 (l0.length : Int) x20_2 (((rd_T49 l0 x20_2).f2) != x6_2) ((rd_T49 l0 x20_2).f0) ((rd_T49 l0 x20_2).f1) ((rd_T49 l0 x20_2).f2) ((rd_T49 l0 x20_2).f3) ((rd_T49 l0 x20_2).f4)) else (credenzalaw23_TellEnds.j3 kj12 l0 a1 x5_2 x6_2 l0 (l0.length : Int) x20_2 true ((rd_T49 l0 x20_2).f0) ((rd_T49 l0 x20_2).f1) ((rd_T49 l0 x20_2).f2) ((rd_T49 l0 x20_2).f3) ((rd_T49 l0 x20_2).f4))) = some r := by rw [if_neg (show ¬ (false = true) by decide)] at H; exact H
                        clear H
                        have H := H1
                        clear H1
                        have HC20 := Aside0.mk H
                        clear H
                        go_upto_region 8 with (fail)
                        go_cut [40] (fun v40 wc => ∃ (kq : Nat) (x40_19 : Bool), v40 = .bool x40_19 ∧ Aside0 (credenzalaw23_TellEnds.j3 kq l0 a1 x5_2 x6_2 l0 (l0.length : Int) x20_2 x40_19 ((rd_T49 l0 x20_2).f0) ((rd_T49 l0 x20_2).f1) ((rd_T49 l0 x20_2).f2) ((rd_T49 l0 x20_2).f3) ((rd_T49 l0 x20_2).f4) = some r) ∧ Aside0 (kq ≤ kj12) ∧ Aside0 (wc.heap[gb210]? = some (.cells #[.int .i64 ((rd_T49 l0 x20_2).f0), .int .u32 ((rd_T49 l0 x20_2).f1), .int .i64 ((rd_T49 l0 x20_2).f2), .int .i64 ((rd_T49 l0 x20_2).f3), .int .i64 ((rd_T49 l0 x20_2).f4)] 49 (0, 0))) ∧ Aside0 (Below w.heap.size w wc))
                        case first =>
                          have H := HC20.out
                          clear HC20
                          by_cases c21 : x5_2 = 0
                          · rw [if_pos c21] at H
                            have c21b0 : (x5_2 == 0) = true := beq_iff_eq.mpr c21
                            have c21b1 : (x5_2 != 0) = false := bne_eq_false_iff_eq.mpr c21
                            clear c21
                            (first | rw [c21b0] | (simp only [i64_w, i32_w]; rw [c21b0]) | skip)
                            have H' := Aside0.mk H
                            clear H
                            have hcz22_0 : wc.cell? ⟨gb210, 0, none⟩ = some (.int .i64 ((rd_T49 l0 x20_2).f0)) := (blk_cell BK210.out 0).trans rfl
                            have hcz22_1 : wc.cell? ⟨gb210, 1, none⟩ = some (.int .u32 ((rd_T49 l0 x20_2).f1)) := (blk_cell BK210.out 1).trans rfl
                            have hcz22_2 : wc.cell? ⟨gb210, 2, none⟩ = some (.int .i64 ((rd_T49 l0 x20_2).f2)) := (blk_cell BK210.out 2).trans rfl
                            have hcz22_3 : wc.cell? ⟨gb210, 3, none⟩ = some (.int .i64 ((rd_T49 l0 x20_2).f3)) := (blk_cell BK210.out 3).trans rfl
                            have hcz22_4 : wc.cell? ⟨gb210, 4, none⟩ = some (.int .i64 ((rd_T49 l0 x20_2).f4)) := (blk_cell BK210.out 4).trans rfl
                            have hfz22_0 := blk_frozen BK210.out 0
                            have hfz22_1 := blk_frozen BK210.out 1
                            have hfz22_2 := blk_frozen BK210.out 2
                            have hfz22_3 := blk_frozen BK210.out 3
                            have hfz22_4 := blk_frozen BK210.out 4
                            go_wp2
                            go_meet
                            case rel => exact ⟨_, ((((rd_T49 l0 x20_2).f2) != x6_2)), (by first | rfl | (simp; done) | (simp [*]; done)), H', ⟨by have := HJ2.out; have := HK2.out; have := HJ12.out; first | omega | exact Nat.le_refl _⟩, ⟨by (with_reducible repeat (first | refine blk_drewN ?_ _ | refine blk_drew ?_ | refine blk_alloc ?_ _)); exact BK210.out⟩, ⟨by repeat (first | (with_reducible first | exact HB.out | apply below_alloc | apply pw_below_drewN | apply below_drew1 | refine below_set ?_ GE210.out) | exact HB.out)⟩⟩
                          · rw [if_neg c21] at H
                            have c21b0 : (x5_2 == 0) = false := beq_eq_false_iff_ne.mpr c21
                            have c21b1 : (x5_2 != 0) = true := bne_iff_ne.mpr c21
                            (first | rw [c21b0] | (simp only [i64_w, i32_w]; rw [c21b0]) | skip)
                            have H' := Aside0.mk H
                            clear H
                            go_wp2
                            go_meet
                            case rel => exact ⟨_, (true), (by first | rfl | (simp; done) | (simp [*]; done)), H', ⟨by have := HJ2.out; have := HK2.out; have := HJ12.out; first | omega | exact Nat.le_refl _⟩, ⟨by (with_reducible repeat (first | refine blk_drewN ?_ _ | refine blk_drew ?_ | refine blk_alloc ?_ _)); exact BK210.out⟩, ⟨by repeat (first | (with_reducible first | exact HB.out | apply below_alloc | apply pw_below_drewN | apply below_drew1 | refine below_set ?_ GE210.out) | exact HB.out)⟩⟩
                        case rest =>
                          clear HC20
                          try clear c1
                          try clear c2
                          try clear p2
                          try clear q2
                          try clear hx2
                          try clear c3
                          try clear c4
                          try clear c4b0
                          try clear c4b1
                          try clear p6
                          try clear c7
                          try clear c10
                          try clear c10b0
                          try clear c11
                          try clear c11b0
                          try clear c12
                          try clear c12b0
                          try clear c13
                          try clear c16
                          try clear c16b0
                          try clear c16b1
                          try clear c19
                          try clear p20
                          try clear q20
                          try clear hx20
                          try clear c21
                          try clear c21b0
                          try clear c21b1
                          try clear hcz15_0
                          try clear hcz15_1
                          try clear hcz15_2
                          try clear hcz15_3
                          try clear hcz15_4
                          try clear hcz17_0
                          try clear hcz17_1
                          try clear hcz17_2
                          try clear hcz17_3
                          try clear hcz17_4
                          try clear hcz18_0
                          try clear hcz18_1
                          try clear hcz18_2
                          try clear hcz18_3
                          try clear hcz18_4
                          try clear hcz22_0
                          try clear hcz22_1
                          try clear hcz22_2
                          try clear hcz22_3
                          try clear hcz22_4
                          try clear hfz15_0
                          try clear hfz15_1
                          try clear hfz15_2
                          try clear hfz15_3
                          try clear hfz15_4
                          try clear hfz17_0
                          try clear hfz17_1
                          try clear hfz17_2
                          try clear hfz17_3
                          try clear hfz17_4
                          try clear hfz18_0
                          try clear hfz18_1
                          try clear hfz18_2
                          try clear hfz18_3
                          try clear hfz18_4
                          try clear hfz22_0
                          try clear hfz22_1
                          try clear hfz22_2
                          try clear hfz22_3
                          try clear hfz22_4
                          try clear hx209_0
                          try clear hx209_1
                          try clear hx209_2
                          try clear hx209_3
                          try clear hx209_4
                          try clear p2
                          try clear p209
                          try clear q2
                          try clear q209
                          obtain ⟨kq, x40_19, rfl, HA, HJ19, BK210, HB⟩ := hcut
                          cases kq with
                          | zero => exact absurd HA.out (by simp [credenzalaw23_TellEnds.j3])
                          | succ kj19 =>
                            have H := HA.out
                            clear HA
                            simp only [credenzalaw23_TellEnds.j3] at H
                            by_cases c23 : x40_19 = true
                            · subst c23
                              have H1 : (some false) = some r := by rw [if_pos rfl] at H; exact H
                              clear H
                              have H := H1
                              clear H1
                              obtain rfl := Option.some.inj H
                              go_wp2
                              go_ret
                              exact ⟨by first | rfl | (simp [errW_none, errW_some] <;> rfl) | (simp [*, errW_none, errW_some] <;> rfl), by repeat (first | (with_reducible first | exact HB.out | apply below_alloc | apply pw_below_drewN | apply below_drew1 | refine below_set ?_ GE210.out) | exact HB.out)⟩
                            · replace c23 := Bool.eq_false_iff.mpr c23
                              subst c23
                              have H1 : (if ((rd_T49 l0 x20_2).f0) = 1 then (credenzalaw23_TellEnds.l0 kj19 l0 a1 x5_2 (wrap64 (x6_2 + 1)) l0 (l0.length : Int) (wrap64 (x20_2 + 1))) else (credenzalaw23_TellEnds.l0 kj19 l0 a1 ((rd_T49 l0 x20_2).f0) x6_2 l0 (l0.length : Int) (wrap64 (x20_2 + 1)))) = some r := by rw [if_neg (show ¬ (false = true) by decide)] at H; exact H
                              clear H
                              have H := H1
                              clear H1
                              by_cases c24 : ((rd_T49 l0 x20_2).f0) = 1
                              · rw [if_pos c24] at H
                                have c24b0 : (((rd_T49 l0 x20_2).f0) == 1) = true := beq_iff_eq.mpr c24
                                have c24b1 : (((rd_T49 l0 x20_2).f0) != 1) = false := bne_eq_false_iff_eq.mpr c24
                                clear c24
                                have H' := Aside0.mk H
                                clear H
                                have hcz25_0 : wc.cell? ⟨gb210, 0, none⟩ = some (.int .i64 ((rd_T49 l0 x20_2).f0)) := (blk_cell BK210.out 0).trans rfl
                                have hcz25_1 : wc.cell? ⟨gb210, 1, none⟩ = some (.int .u32 ((rd_T49 l0 x20_2).f1)) := (blk_cell BK210.out 1).trans rfl
                                have hcz25_2 : wc.cell? ⟨gb210, 2, none⟩ = some (.int .i64 ((rd_T49 l0 x20_2).f2)) := (blk_cell BK210.out 2).trans rfl
                                have hcz25_3 : wc.cell? ⟨gb210, 3, none⟩ = some (.int .i64 ((rd_T49 l0 x20_2).f3)) := (blk_cell BK210.out 3).trans rfl
                                have hcz25_4 : wc.cell? ⟨gb210, 4, none⟩ = some (.int .i64 ((rd_T49 l0 x20_2).f4)) := (blk_cell BK210.out 4).trans rfl
                                have hfz25_0 := blk_frozen BK210.out 0
                                have hfz25_1 := blk_frozen BK210.out 1
                                have hfz25_2 := blk_frozen BK210.out 2
                                have hfz25_3 := blk_frozen BK210.out 3
                                have hfz25_4 := blk_frozen BK210.out 4
                                go_wp2
                                go_roundg kj19
                                case measure => have := HJ2.out; have := HK2.out; have := HJ12.out; have := HJ19.out; omega
                                case rel => exact ⟨(x5_2), (wrap64 (x6_2 + 1)), (wrap64 (x20_2 + 1)), (by first | rfl | (simp; done) | (simp [*]; done)), (by first | rfl | (simp; done) | (simp [*]; done)), (by first | rfl | (simp; done) | (simp [*]; done)), H', ⟨by have := HJ2.out; have := HK2.out; have := HJ12.out; have := HJ19.out; omega⟩, ⟨by repeat (first | (with_reducible first | exact HB.out | apply below_alloc | apply pw_below_drewN | apply below_drew1 | refine below_set ?_ GE210.out) | exact HB.out)⟩⟩
                              · rw [if_neg c24] at H
                                have c24b0 : (((rd_T49 l0 x20_2).f0) == 1) = false := beq_eq_false_iff_ne.mpr c24
                                have c24b1 : (((rd_T49 l0 x20_2).f0) != 1) = true := bne_iff_ne.mpr c24
                                have H' := Aside0.mk H
                                clear H
                                have hcz26_0 : wc.cell? ⟨gb210, 0, none⟩ = some (.int .i64 ((rd_T49 l0 x20_2).f0)) := (blk_cell BK210.out 0).trans rfl
                                have hcz26_1 : wc.cell? ⟨gb210, 1, none⟩ = some (.int .u32 ((rd_T49 l0 x20_2).f1)) := (blk_cell BK210.out 1).trans rfl
                                have hcz26_2 : wc.cell? ⟨gb210, 2, none⟩ = some (.int .i64 ((rd_T49 l0 x20_2).f2)) := (blk_cell BK210.out 2).trans rfl
                                have hcz26_3 : wc.cell? ⟨gb210, 3, none⟩ = some (.int .i64 ((rd_T49 l0 x20_2).f3)) := (blk_cell BK210.out 3).trans rfl
                                have hcz26_4 : wc.cell? ⟨gb210, 4, none⟩ = some (.int .i64 ((rd_T49 l0 x20_2).f4)) := (blk_cell BK210.out 4).trans rfl
                                have hfz26_0 := blk_frozen BK210.out 0
                                have hfz26_1 := blk_frozen BK210.out 1
                                have hfz26_2 := blk_frozen BK210.out 2
                                have hfz26_3 := blk_frozen BK210.out 3
                                have hfz26_4 := blk_frozen BK210.out 4
                                go_wp2
                                go_roundg kj19
                                case measure => have := HJ2.out; have := HK2.out; have := HJ12.out; have := HJ19.out; omega
                                case rel => exact ⟨(((rd_T49 l0 x20_2).f0)), (x6_2), (wrap64 (x20_2 + 1)), (by first | rfl | (simp; done) | (simp [*]; done)), (by first | rfl | (simp; done) | (simp [*]; done)), (by first | rfl | (simp; done) | (simp [*]; done)), H', ⟨by have := HJ2.out; have := HK2.out; have := HJ12.out; have := HJ19.out; omega⟩, ⟨by repeat (first | (with_reducible first | exact HB.out | apply below_alloc | apply pw_below_drewN | apply below_drew1 | refine below_set ?_ GE210.out) | exact HB.out)⟩⟩
                · rw [if_neg c12] at H
                  exact absurd H (by simp)
              · rw [if_neg c11] at H
                exact absurd H (by simp)
            · rw [if_neg c10] at H
              have c10b0 : decide (x20_2 < (l0.length : Int)) = false := decide_eq_false c10
              clear c10
              replace H := Option.bind_eq_some_iff.mp H
              obtain ⟨t207, A270, H⟩ := H
              replace H : (if t207 = x5_2 then ((credenzalaw23_awake.f k2).bind fun t208 => (some t208)) else (some false)) = some r := H
              have A27 := Aside0.mk A270
              clear A270
              by_cases c28 : t207 = x5_2
              · rw [if_pos c28] at H
                have c28b0 : (t207 == x5_2) = true := beq_iff_eq.mpr c28
                have c28b1 : (t207 != x5_2) = false := bne_eq_false_iff_eq.mpr c28
                clear c28
                replace H := Option.bind_eq_some_iff.mp H
                obtain ⟨t208, A290, H⟩ := H
                replace H : (some t208) = some r := H
                have A29 := Aside0.mk A290
                clear A290
                obtain rfl := Option.some.inj H
                go_wp2_with (first | ((with_reducible refine gate_callee (f := 39) rfl ?_); refine goesL_ (some 51) rfl rfl Try.func39 (by kernel_rfl) rfl #[.slice A0 l0.length c0, .int .u32 a1] rfl (by (try simp only [List.map_toArray, List.map_cons, List.map_nil]); first | done | rfl | (simp only [List.length_drop, List.length_take]; rfl)) ?_; (with_reducible refine (tell_Last.calls k2 _ _ l0 a1 t207 _ ?side1 ?side2 A27.out).mono ?_); (case side1 => repeat (first | exact (Kd.C_below HR0.out HB.out) | (with_reducible refine Kd.C_alloc ?_ _) | (with_reducible refine Kd.C_drewN ?_ _) | (with_reducible refine Kd.C_drew ?_))); (case side2 => exact HC0.out); rintro e w30 ⟨rfl, hb⟩; refine ⟨_, rfl, ?_⟩; have n0_ := Aside0.mk (below_step (by repeat (first | (with_reducible first | exact HB.out | apply below_alloc | apply pw_below_drewN | apply below_drew1) | exact HB.out)) hb); clear HB; have HB := n0_; clear n0_; (try clear hb); (try clear hb2); (try clear hk); (try clear hi)) | (go_at_call 32; (with_reducible refine (credenzalaw23_awake.calls k2  t208 _ A29.out).mono ?_); rintro e w31 ⟨rfl, hb⟩; have n0_ := Aside0.mk (below_step (by repeat (first | (with_reducible first | exact HB.out | apply below_alloc | apply pw_below_drewN | apply below_drew1) | exact HB.out)) hb); clear HB; have HB := n0_; clear n0_; (try clear hb); (try clear hb2); (try clear hk); (try clear hi)))
                go_ret
                exact ⟨by first | rfl | (simp [errW_none, errW_some] <;> rfl) | (simp [*, errW_none, errW_some] <;> rfl), by repeat (first | (with_reducible first | exact HB.out | apply below_alloc | apply pw_below_drewN | apply below_drew1) | exact HB.out)⟩
              · rw [if_neg c28] at H
                have c28b0 : (t207 == x5_2) = false := beq_eq_false_iff_ne.mpr c28
                have c28b1 : (t207 != x5_2) = true := bne_iff_ne.mpr c28
                obtain rfl := Option.some.inj H
                go_wp2_with (first | ((with_reducible refine gate_callee (f := 39) rfl ?_); refine goesL_ (some 51) rfl rfl Try.func39 (by kernel_rfl) rfl #[.slice A0 l0.length c0, .int .u32 a1] rfl (by (try simp only [List.map_toArray, List.map_cons, List.map_nil]); first | done | rfl | (simp only [List.length_drop, List.length_take]; rfl)) ?_; (with_reducible refine (tell_Last.calls k2 _ _ l0 a1 t207 _ ?side1 ?side2 A27.out).mono ?_); (case side1 => repeat (first | exact (Kd.C_below HR0.out HB.out) | (with_reducible refine Kd.C_alloc ?_ _) | (with_reducible refine Kd.C_drewN ?_ _) | (with_reducible refine Kd.C_drew ?_))); (case side2 => exact HC0.out); rintro e w32 ⟨rfl, hb⟩; refine ⟨_, rfl, ?_⟩; have n0_ := Aside0.mk (below_step (by repeat (first | (with_reducible first | exact HB.out | apply below_alloc | apply pw_below_drewN | apply below_drew1) | exact HB.out)) hb); clear HB; have HB := n0_; clear n0_; (try clear hb); (try clear hb2); (try clear hk); (try clear hi)))
                go_ret
                exact ⟨by first | rfl | (simp [errW_none, errW_some] <;> rfl) | (simp [*, errW_none, errW_some] <;> rfl), by repeat (first | (with_reducible first | exact HB.out | apply below_alloc | apply pw_below_drewN | apply below_drew1) | exact HB.out)⟩

/-- THE ONE PURE STATEMENT of credenzalaw23_TellEnds: yours. -/
def credenzalaw23_TellEnds.Pure : Prop := ∀ (l0 : List (S49)) (a1 : Int), l0.length ≤ maxLen → (∀ z ∈ l0, ((Lit.int .i64 z.f0).wf = true ∧ (Lit.int .u32 z.f1).wf = true ∧ (Lit.int .i64 z.f2).wf = true ∧ (Lit.int .i64 z.f3).wf = true ∧ (Lit.int .i64 z.f4).wf = true)) → (Lit.int .u32 a1).wf = true → ∃ k, credenzalaw23_TellEnds.f k l0 a1 = some true
theorem credenzalaw23_TellEnds.walk (P : credenzalaw23_TellEnds.Pure) (a0 : Option Addr) (c0 : Nat) (l0 : List (S49)) (a1 : Int) (w : World) (hr0 : Kd.C k49 w a0 l0.length l0) (hc0 : l0.length ≤ c0) (hm0 : l0.length ≤ maxLen) (hq0 : ∀ z ∈ l0, ((Lit.int .i64 z.f0).wf = true ∧ (Lit.int .u32 z.f1).wf = true ∧ (Lit.int .i64 z.f2).wf = true ∧ (Lit.int .i64 z.f3).wf = true ∧ (Lit.int .i64 z.f4).wf = true)) (w1 : (Lit.int .u32 a1).wf = true) :
    Calls Try.prog 13 #[.slice a0 l0.length c0, .int .u32 a1] w fun e w' => e = .returned (.bool true) ∧ Below w.heap.size w w' := by
  obtain ⟨k, h⟩ := P l0 a1 hm0 hq0 w1
  refine (credenzalaw23_TellEnds.calls k _ _ l0 a1 true w hr0 hc0 h).mono ?_
  rintro e w' ⟨rfl, hd⟩
  exact ⟨rfl, hd⟩

end Go.Proofs.Ytggoddiiglkpiaa.PTellEnds
