-- Written by a program of this session (wip/tools/mkprint.py over the kit's print).
import Derived.Test.YtekenaclmplocaaPPageNewx0
import Derived.Test.YtekenaclmplocaaPPageNewx3
namespace Go.Proofs.Ytekenaclmplocaa.PPageNew
open Go.RowKit Go.Proofs.YtekenaclmplocaaW.PrintWords Go.Proofs.YtekenaclmplocaaW.PrintLast Go.Proofs.YtekenaclmplocaaW.PrintMore
attribute [local go_sem] max2_int min2_int max_two min_two max_three min_three max_four min_four
set_option linter.unusedVariables false
set_option maxHeartbeats 8000000
set_option maxRecDepth 100000
set_option linter.unusedSimpArgs false

def F50.l0 : Nat → List (S98) → Int → Int → Int → Option (Bool)
 | 0, _, _, _, _ => none
 | k + 1, x0, x1, x2, x7 => if x7 < (x0.length : Int) then (if 0 ≤ x7 then (if (((rd_T98 x0 x7).f2).length : Int) = x2 then (F50.l0 k x0 x1 x2 (wrap64 (x7 + 1))) else (some false)) else (none)) else (some ((x0.length : Int) == x1))
def F50.f (k : Nat) (l0 : List (S98)) (a1 : Int) (a2 : Int) : Option (Bool) := F50.l0 k l0 a1 a2 0
theorem F50.mono_l : ∀ k, (∀ y0 y1 y2 y3, LeO (F50.l0 k y0 y1 y2 y3) (F50.l0 (k + 1) y0 y1 y2 y3))
 | 0 => fun _ _ _ _ r h => by simp [F50.l0] at h
 | k + 1 => by
  have ih0 := F50.mono_l k
  ·
   intro y0 y1 y2 y3; unfold F50.l0
   repeat' with_reducible first | exact ih0 _ _ _ _ | exact LeO.refl _ | exact LeO.none _ | refine LeO.ite ?_ ?_ | refine LeO.bind ?_ (fun _ => ?_)
theorem F50.mono : ∀ a0 a1 a2 k, LeO (F50.f k a0 a1 a2) (F50.f (k + 1) a0 a1 a2) := by
 intro a0 a1 a2 k; have ih0 := F50.mono_l k; unfold F50.f
 repeat' with_reducible first | exact ih0 _ _ _ _ | exact LeO.refl _ | exact LeO.none _ | refine LeO.ite ?_ ?_ | refine LeO.bind ?_ (fun _ => ?_)
theorem F50.calls (k : Nat) (A0 : Option Addr) (c0 : Nat) (l0 : List (S98)) (a1 : Int) (a2 : Int) (r : Bool) (w : World) (hr0 : Kd.C k98 w A0 l0.length l0) (hc0 : l0.length ≤ c0) (h : F50.f k l0 a1 a2 = some r) :
  Calls Try.prog 50 #[.slice A0 l0.length c0, .int .i64 a1, .int .i64 a2] w fun e w' => e = .returned (.bool r) ∧ Drawn0 w w' := by
 have HR0 := aM hr0; have HC0 := aM hc0; clear hr0 hc0; have H := h; clear h; unfold F50.f at H; have H' := aM H; clear H
 go_enter Try.func50, Try.ntmps50
 go_wp2
 go_loopg [7] k (fun kq v7 w' => ∃ (x7_1 : Int), v7 = .int .i64 x7_1 ∧ Aside0 (F50.l0 kq l0 a1 a2 x7_1 = some r) ∧ Aside0 (kq ≤ k) ∧ Drawn0 w w')
 case atStart => exact ⟨(0), rfl, H', ⟨Nat.le_refl _⟩, dR⟩
 case round =>
  clear H'; (try clear p2); obtain ⟨x7_1, rfl, HA, HK1, ⟨m1, rfl⟩⟩ := hrel
  cases gk with
  | zero => exact absurd HA.out (by simp [F50.l0])
  | succ k1 =>
   have H := HA.out; clear HA; simp only [F50.l0] at H
   by_cases c4 : x7_1 < (l0.length : Int)
   ·
    rw [if_pos c4] at H; have c4b0 : decide (x7_1 < (l0.length : Int)) = true := dT c4; clear c4; obtain ⟨c5, H⟩ := ifp H; have c5b0 : decide (0 ≤ x7_1) = true := dT c5; clear c5
    by_cases c6 : (((rd_T98 l0 x7_1).f2).length : Int) = a2
    ·
     rw [if_pos c6] at H; have c6b0 : ((((rd_T98 l0 x7_1).f2).length : Int) == a2) = true := beq_iff_eq.mpr c6; have c6b1 : ((((rd_T98 l0 x7_1).f2).length : Int) != a2) = false := bne_eq_false_iff_eq.mpr c6; clear c6; have H' := aM H; clear H; have p453 : 0 ≤ (x7_1 : Int) := oD; have q453 : x7_1 < (l0.length : Int) := oD; obtain ⟨ad453, A453_2, c453_2, e453, hx453_0, hx453_1, hx453_2, hl453_2, hi453_2⟩ := at_T98 HR0.out x7_1 p453 q453
     cases e453
     have HR453_2 := aM hi453_2; have HC453_2 := aM hl453_2; clear hi453_2 hl453_2; replace p453 := eq_true p453; replace q453 := eq_true q453
     go_wp2
     go_roundg k1
     case measure => have := HK1.out; omega
     case rel => exact ⟨(wrap64 (x7_1 + 1)), rfl, H', ⟨by have := HK1.out; omega⟩, dR⟩
    ·
     rw [if_neg c6] at H; have c6b0 : ((((rd_T98 l0 x7_1).f2).length : Int) == a2) = false := beq_eq_false_iff_ne.mpr c6; have c6b1 : ((((rd_T98 l0 x7_1).f2).length : Int) != a2) = true := bne_iff_ne.mpr c6; obtain rfl := oI H; have p453 : 0 ≤ (x7_1 : Int) := oD; have q453 : x7_1 < (l0.length : Int) := oD; obtain ⟨ad453, A453_2, c453_2, e453, hx453_0, hx453_1, hx453_2, hl453_2, hi453_2⟩ := at_T98 HR0.out x7_1 p453 q453
     cases e453
     have HR453_2 := aM hi453_2; have HC453_2 := aM hl453_2; clear hi453_2 hl453_2; replace p453 := eq_true p453; replace q453 := eq_true q453
     go_wp2
     go_ret
     exact ⟨rfl, dR⟩
   ·
    rw [if_neg c4] at H; have c4b0 : decide (x7_1 < (l0.length : Int)) = false := dF c4; clear c4; obtain rfl := oI H
    go_wp2
    go_ret
    exact ⟨rfl, dR⟩

def F80.f (a0 : Int) (a1 : Int) : Option (Int) := (F31.f a1).bind fun t454 => (if t454 = true then (if a0 = 0 then (some 14) else (if a0 > 256 then (some 12) else (some 0))) else (some 20))
theorem F80.calls (a0 : Int) (a1 : Int) (r : Int) (w : World) (h : F80.f a0 a1 = some r) :
  Calls Try.prog 80 #[.int .i64 a0, .int .i64 a1] w fun e w' => e = .returned (.int .i64 r) ∧ Drawn0 w w' := by
 have H := h; clear h; unfold F80.f at H; obtain ⟨t454, A3, H⟩ := bnd H
 by_cases c4 : t454 = true
 ·
  subst c4; rw [if_pos rfl] at H
  by_cases c5 : a0 = 0
  ·
   rw [if_pos c5] at H; have c5b0 : (a0 == 0) = true := beq_iff_eq.mpr c5; have c5b1 : (a0 != 0) = false := bne_eq_false_iff_eq.mpr c5; clear c5; obtain rfl := oI H
   go_enter Try.func80, Try.ntmps80
   go_wp2_with (first | ((with_reducible refine gate_callee (f := 31) rfl ?_); refine gL 6 Try.func31 #[.int .i64 a1] (h := ?_); (with_reducible refine (F31.calls a1 true _ A3.out).mono ?_); rintro e w' ⟨rfl, ⟨nd, rfl⟩⟩; refine ⟨_, rfl, ?_⟩))
   go_ret
   exact ⟨rfl, dR⟩
  ·
   rw [if_neg c5] at H; have c5b0 : (a0 == 0) = false := beq_eq_false_iff_ne.mpr c5; have c5b1 : (a0 != 0) = true := bne_iff_ne.mpr c5
   by_cases c6 : a0 > 256
   ·
    rw [if_pos c6] at H; have c6b0 : decide (256 < a0) = true := dT c6; clear c6; obtain rfl := oI H
    go_enter Try.func80, Try.ntmps80
    go_wp2_with (first | ((with_reducible refine gate_callee (f := 31) rfl ?_); refine gL 6 Try.func31 #[.int .i64 a1] (h := ?_); (with_reducible refine (F31.calls a1 true _ A3.out).mono ?_); rintro e w' ⟨rfl, ⟨nd, rfl⟩⟩; refine ⟨_, rfl, ?_⟩))
    go_ret
    exact ⟨rfl, dR⟩
   ·
    rw [if_neg c6] at H; have c6b0 : decide (256 < a0) = false := dF c6; clear c6; obtain rfl := oI H
    go_enter Try.func80, Try.ntmps80
    go_wp2_with (first | ((with_reducible refine gate_callee (f := 31) rfl ?_); refine gL 6 Try.func31 #[.int .i64 a1] (h := ?_); (with_reducible refine (F31.calls a1 true _ A3.out).mono ?_); rintro e w' ⟨rfl, ⟨nd, rfl⟩⟩; refine ⟨_, rfl, ?_⟩))
    go_ret
    exact ⟨rfl, dR⟩
 ·
  replace c4 := Bool.eq_false_iff.mpr c4; subst c4; rw [if_neg (show ¬ (false = true) by decide)] at H; obtain rfl := oI H
  go_enter Try.func80, Try.ntmps80
  go_wp2_with (first | ((with_reducible refine gate_callee (f := 31) rfl ?_); refine gL 6 Try.func31 #[.int .i64 a1] (h := ?_); (with_reducible refine (F31.calls a1 false _ A3.out).mono ?_); rintro e w' ⟨rfl, ⟨nd, rfl⟩⟩; refine ⟨_, rfl, ?_⟩))
  go_ret
  exact ⟨rfl, dR⟩

def F99.l0 : Nat → Int → Int → Int → Option (Int)
 | 0, _, _, _ => none
 | k + 1, x0, x3, x4 => if x4 < x0 then (F99.l0 k x0 (wrap64 (x3 * 2)) (wrap64 (x4 + 1))) else (some x3)
def F99.f (k : Nat) (a0 : Int) : Option (Int) := F99.l0 k a0 1 0
theorem F99.mono_l : ∀ k, (∀ y0 y1 y2, LeO (F99.l0 k y0 y1 y2) (F99.l0 (k + 1) y0 y1 y2))
 | 0 => fun _ _ _ r h => by simp [F99.l0] at h
 | k + 1 => by
  have ih0 := F99.mono_l k
  ·
   intro y0 y1 y2; unfold F99.l0
   repeat' with_reducible first | exact ih0 _ _ _ | exact LeO.refl _ | exact LeO.none _ | refine LeO.ite ?_ ?_ | refine LeO.bind ?_ (fun _ => ?_)
theorem F99.mono : ∀ a0 k, LeO (F99.f k a0) (F99.f (k + 1) a0) := by
 intro a0 k; have ih0 := F99.mono_l k; unfold F99.f
 repeat' with_reducible first | exact ih0 _ _ _ | exact LeO.refl _ | exact LeO.none _ | refine LeO.ite ?_ ?_ | refine LeO.bind ?_ (fun _ => ?_)
theorem F99.calls (k : Nat) (a0 : Int) (r : Int) (w : World) (h : F99.f k a0 = some r) :
  Calls Try.prog 99 #[.int .i64 a0] w fun e w' => e = .returned (.int .i64 r) ∧ Drawn0 w w' := by
 have H := h; clear h; unfold F99.f at H; have H' := aM H; clear H
 go_enter Try.func99, Try.ntmps99
 go_wp2
 go_loopg [3, 4] k (fun kq v3 v4 w' => ∃ (x3_1 : Int) (x4_1 : Int), v3 = .int .i64 x3_1 ∧ v4 = .int .i64 x4_1 ∧ Aside0 (F99.l0 kq a0 x3_1 x4_1 = some r) ∧ Aside0 (kq ≤ k) ∧ Drawn0 w w')
 case atStart => exact ⟨(1), (0), rfl, rfl, H', ⟨Nat.le_refl _⟩, dR⟩
 case round =>
  clear H'; obtain ⟨x3_1, x4_1, rfl, rfl, HA, HK1, ⟨m1, rfl⟩⟩ := hrel
  cases gk with
  | zero => exact absurd HA.out (by simp [F99.l0])
  | succ k1 =>
   have H := HA.out; clear HA; simp only [F99.l0] at H
   by_cases c2 : x4_1 < a0
   ·
    rw [if_pos c2] at H; have c2b0 : decide (x4_1 < a0) = true := dT c2; clear c2; have H' := aM H; clear H
    go_wp2
    go_roundg k1
    case measure => have := HK1.out; omega
    case rel => exact ⟨(wrap64 (x3_1 * 2)), (wrap64 (x4_1 + 1)), rfl, rfl, H', ⟨by have := HK1.out; omega⟩, dR⟩
   ·
    rw [if_neg c2] at H; have c2b0 : decide (x4_1 < a0) = false := dF c2; clear c2; obtain rfl := oI H
    go_wp2
    go_ret
    exact ⟨rfl, dR⟩

def F81.f (k : Nat) (a0 : Int) : Option (Int) := (F99.f k a0).bind fun t455 => (some (wrap64 (t455 - 1)))
theorem F81.mono : ∀ a0 k, LeO (F81.f k a0) (F81.f (k + 1) a0) := by
 intro a0 k; unfold F81.f
 repeat' with_reducible first | exact F99.mono _ _ | exact LeO.refl _ | exact LeO.none _ | refine LeO.ite ?_ ?_ | refine LeO.bind ?_ (fun _ => ?_)
theorem F81.calls (k : Nat) (a0 : Int) (r : Int) (w : World) (h : F81.f k a0 = some r) :
  Calls Try.prog 81 #[.int .i64 a0] w fun e w' => e = .returned (.int .i64 r) ∧ Drawn0 w w' := by
 have H := h; clear h; unfold F81.f at H; obtain ⟨t455, A2, H⟩ := bnd H; obtain rfl := oI H
 go_enter Try.func81, Try.ntmps81
 go_wp2_with (first | ((with_reducible refine gate_callee (f := 99) rfl ?_); refine gL 4 Try.func99 #[.int .i64 a0] (h := ?_); (with_reducible refine (F99.calls k a0 t455 _ A2.out).mono ?_); rintro e w' ⟨rfl, ⟨nd, rfl⟩⟩; refine ⟨_, rfl, ?_⟩))
 go_ret
 exact ⟨rfl, dR⟩

mutual
def F51.l0 : Nat → Int → Int → Int → Int → List Int → Option (Int)
 | 0, _, _, _, _, _ => none
 | k + 1, x1, x6, x457000, x457001, x457002 => if x6 < (x457002.length : Int) then (if x457001 = 0 then (if 0 ≤ x6 then (if (rd x457002 x6) = 0 then (F51.l0 k x1 (wrap64 (x6 + 1)) x457000 x457001 x457002) else (some 21)) else (none)) else (F51.l0 k x1 (wrap64 (x6 + 1)) x457000 x457001 x457002)) else (F51.l1 k x1 0 x457000 x457001 x457002)
def F51.l1 : Nat → Int → Int → Int → Int → List Int → Option (Int)
 | 0, _, _, _, _, _ => none
 | k + 1, x1, x7, x457000, x457001, x457002 => if x7 < (x457002.length : Int) then (if 0 ≤ x7 then (if (rd x457002 x7) < 0 then (some 11) else ((F81.f k x1).bind fun t461 => (if (rd x457002 x7) > t461 then (some 11) else (F51.l1 k x1 (wrap64 (x7 + 1)) x457000 x457001 x457002)))) else (none)) else (some 0)
end
def F51.f (k : Nat) (a0_0 : Int) (a0_1 : Int) (l0_2 : List Int) (a1 : Int) : Option (Int) := (F80.f (l0_2.length : Int) a1).bind fun t457 => (if t457 = 0 then (if a0_1 > 1431655765 then (some 21) else (F51.l0 k a1 0 a0_0 a0_1 l0_2)) else (some t457))
theorem F51.mono_l : ∀ k, (∀ y0 y1 y2 y3 y4, LeO (F51.l0 k y0 y1 y2 y3 y4) (F51.l0 (k + 1) y0 y1 y2 y3 y4)) ∧ (∀ y0 y1 y2 y3 y4, LeO (F51.l1 k y0 y1 y2 y3 y4) (F51.l1 (k + 1) y0 y1 y2 y3 y4))
 | 0 => ⟨fun _ _ _ _ _ r h => by simp [F51.l0] at h, fun _ _ _ _ _ r h => by simp [F51.l1] at h⟩
 | k + 1 => by
  obtain ⟨ih0, ih1⟩ := F51.mono_l k
  refine ⟨?_, ?_⟩
  all_goals intros
  all_goals first | unfold F51.l0 | unfold F51.l1
  all_goals repeat' with_reducible first | exact ih0 _ _ _ _ _ | exact ih1 _ _ _ _ _ | exact F81.mono _ _ | exact LeO.refl _ | exact LeO.none _ | refine LeO.ite ?_ ?_ | refine LeO.bind ?_ (fun _ => ?_)
theorem F51.mono : ∀ a0 a1 a2 a3 k, LeO (F51.f k a0 a1 a2 a3) (F51.f (k + 1) a0 a1 a2 a3) := by
 intro a0 a1 a2 a3 k; obtain ⟨ih0, ih1⟩ := F51.mono_l k; unfold F51.f
 repeat' with_reducible first | exact ih0 _ _ _ _ _ | exact ih1 _ _ _ _ _ | exact F81.mono _ _ | exact LeO.refl _ | exact LeO.none _ | refine LeO.ite ?_ ?_ | refine LeO.bind ?_ (fun _ => ?_)
theorem F51.calls (k : Nat) (a0_0 : Int) (a0_1 : Int) (A0_2 : Option Addr) (c0_2 : Nat) (l0_2 : List Int) (a1 : Int) (r : Int) (w : World) (hr0_2 : Kd.C (Kd.int .i64) w A0_2 l0_2.length l0_2) (hc0_2 : l0_2.length ≤ c0_2) (h : F51.f k a0_0 a0_1 l0_2 a1 = some r) :
  Calls Try.prog 51 #[.agg #[.int .i32 a0_0, .int .u32 a0_1, .slice A0_2 l0_2.length c0_2], .int .i64 a1] w fun e w' => e = .returned (.int .i64 r) ∧ Below w.heap.size w w' := by
 have hu98 := Try.underlying98; have HR0_2 := aM hr0_2; have HC0_2 := aM hc0_2; clear hr0_2 hc0_2; have HB := aM (Below.refl w.heap.size w); have H := h; clear h; unfold F51.f at H; obtain ⟨t457, A3, H⟩ := bnd H
 by_cases c4 : t457 = 0
 ·
  rw [if_pos c4] at H; have c4b0 : (t457 == 0) = true := beq_iff_eq.mpr c4; have c4b1 : (t457 != 0) = false := bne_eq_false_iff_eq.mpr c4; clear c4
  by_cases c5 : a0_1 > 1431655765
  ·
   rw [if_pos c5] at H; have c5b0 : decide (1431655765 < a0_1) = true := dT c5; clear c5; obtain rfl := oI H
   go_enter Try.func51, Try.ntmps51
   go_wp2_with (first | ((with_reducible refine gate_dst (N := 2) rfl ?_); refine bxE 2 #[.int .i32 a0_0, .int .u32 a0_1, .slice A0_2 l0_2.length c0_2] 98 (h := ?_); intro gb456 hg w6 hbox hb; have BK456 := aM (hbox); have GW456 := aM ((by rw [hg]; exact (below_size bZ) : w.heap.size ≤ gb456)); have GE456 := aM ((by rw [hg]; exact (below_size bZ) : w.heap.size ≤ gb456)); replace HB := aM (below_step bZ hb); clear hb hbox hg; have hz7 := bx3 BK456.out) | (go_at_call 80; (with_reducible refine (F80.calls (l0_2.length : Int) a1 t457 _ A3.out).mono ?_); rintro e w' ⟨rfl, ⟨nd, rfl⟩⟩; (try first | exact ⟨rfl, _, World.drewN_drewN _ _ _⟩ | exact ⟨rfl, _, Eq.trans (World.drewN_drewN _ _ _) (congrArg (World.drewN _) (Nat.add_assoc _ _ _))⟩)))
   repeat (go_quiet (first | ((with_reducible refine gate_dst (N := 2) rfl ?_); refine bxE 2 #[.int .i32 a0_0, .int .u32 a0_1, .slice A0_2 l0_2.length c0_2] 98 (h := ?_); intro gb456 hg w6 hbox hb; have BK456 := aM (hbox); have GW456 := aM ((by rw [hg]; exact (below_size bZ) : w.heap.size ≤ gb456)); have GE456 := aM ((by rw [hg]; exact (below_size bZ) : w.heap.size ≤ gb456)); replace HB := aM (below_step bZ hb); clear hb hbox hg; have hz7 := bx3 BK456.out) | (go_at_call 80; (with_reducible refine (F80.calls (l0_2.length : Int) a1 t457 _ A3.out).mono ?_); rintro e w' ⟨rfl, ⟨nd, rfl⟩⟩; (try first | exact ⟨rfl, _, World.drewN_drewN _ _ _⟩ | exact ⟨rfl, _, Eq.trans (World.drewN_drewN _ _ _) (congrArg (World.drewN _) (Nat.add_assoc _ _ _))⟩))); try go_wp2_with (first | ((with_reducible refine gate_dst (N := 2) rfl ?_); refine bxE 2 #[.int .i32 a0_0, .int .u32 a0_1, .slice A0_2 l0_2.length c0_2] 98 (h := ?_); intro gb456 hg w6 hbox hb; have BK456 := aM (hbox); have GW456 := aM ((by rw [hg]; exact (below_size bZ) : w.heap.size ≤ gb456)); have GE456 := aM ((by rw [hg]; exact (below_size bZ) : w.heap.size ≤ gb456)); replace HB := aM (below_step bZ hb); clear hb hbox hg; have hz7 := bx3 BK456.out) | (go_at_call 80; (with_reducible refine (F80.calls (l0_2.length : Int) a1 t457 _ A3.out).mono ?_); rintro e w' ⟨rfl, ⟨nd, rfl⟩⟩; (try first | exact ⟨rfl, _, World.drewN_drewN _ _ _⟩ | exact ⟨rfl, _, Eq.trans (World.drewN_drewN _ _ _) (congrArg (World.drewN _) (Nat.add_assoc _ _ _))⟩))))
   go_ret
   exact ⟨rfl, bZ⟩
  ·
   rw [if_neg c5] at H; have c5b0 : decide (1431655765 < a0_1) = false := dF c5; clear c5; have H' := aM H; clear H
   go_enter Try.func51, Try.ntmps51
   go_wp2_with (first | ((with_reducible refine gate_dst (N := 2) rfl ?_); refine bxE 2 #[.int .i32 a0_0, .int .u32 a0_1, .slice A0_2 l0_2.length c0_2] 98 (h := ?_); intro gb456 hg w8 hbox hb; have BK456 := aM (hbox); have GW456 := aM ((by rw [hg]; exact (below_size bZ) : w.heap.size ≤ gb456)); have GE456 := aM ((by rw [hg]; exact (below_size bZ) : w.heap.size ≤ gb456)); replace HB := aM (below_step bZ hb); clear hb hbox hg; have hz9 := bx3 BK456.out) | (go_at_call 80; (with_reducible refine (F80.calls (l0_2.length : Int) a1 t457 _ A3.out).mono ?_); rintro e w' ⟨rfl, ⟨nd, rfl⟩⟩; (try first | exact ⟨rfl, _, World.drewN_drewN _ _ _⟩ | exact ⟨rfl, _, Eq.trans (World.drewN_drewN _ _ _) (congrArg (World.drewN _) (Nat.add_assoc _ _ _))⟩)))
   repeat (go_quiet (first | ((with_reducible refine gate_dst (N := 2) rfl ?_); refine bxE 2 #[.int .i32 a0_0, .int .u32 a0_1, .slice A0_2 l0_2.length c0_2] 98 (h := ?_); intro gb456 hg w8 hbox hb; have BK456 := aM (hbox); have GW456 := aM ((by rw [hg]; exact (below_size bZ) : w.heap.size ≤ gb456)); have GE456 := aM ((by rw [hg]; exact (below_size bZ) : w.heap.size ≤ gb456)); replace HB := aM (below_step bZ hb); clear hb hbox hg; have hz9 := bx3 BK456.out) | (go_at_call 80; (with_reducible refine (F80.calls (l0_2.length : Int) a1 t457 _ A3.out).mono ?_); rintro e w' ⟨rfl, ⟨nd, rfl⟩⟩; (try first | exact ⟨rfl, _, World.drewN_drewN _ _ _⟩ | exact ⟨rfl, _, Eq.trans (World.drewN_drewN _ _ _) (congrArg (World.drewN _) (Nat.add_assoc _ _ _))⟩))); try go_wp2_with (first | ((with_reducible refine gate_dst (N := 2) rfl ?_); refine bxE 2 #[.int .i32 a0_0, .int .u32 a0_1, .slice A0_2 l0_2.length c0_2] 98 (h := ?_); intro gb456 hg w8 hbox hb; have BK456 := aM (hbox); have GW456 := aM ((by rw [hg]; exact (below_size bZ) : w.heap.size ≤ gb456)); have GE456 := aM ((by rw [hg]; exact (below_size bZ) : w.heap.size ≤ gb456)); replace HB := aM (below_step bZ hb); clear hb hbox hg; have hz9 := bx3 BK456.out) | (go_at_call 80; (with_reducible refine (F80.calls (l0_2.length : Int) a1 t457 _ A3.out).mono ?_); rintro e w' ⟨rfl, ⟨nd, rfl⟩⟩; (try first | exact ⟨rfl, _, World.drewN_drewN _ _ _⟩ | exact ⟨rfl, _, Eq.trans (World.drewN_drewN _ _ _) (congrArg (World.drewN _) (Nat.add_assoc _ _ _))⟩))))
   go_loopg [6] k (fun kq v6 w' => ∃ (x6_1 : Int), v6 = .int .i64 x6_1 ∧ Aside0 (F51.l0 kq a1 x6_1 a0_0 a0_1 l0_2 = some r) ∧ Aside0 (kq ≤ k) ∧ Aside0 (w'.heap[gb456]? = some (.cells #[.int .i32 a0_0, .int .u32 a0_1, (.slice A0_2 l0_2.length c0_2)] 98 (0, 0))) ∧ Aside0 (Below w.heap.size w w'))
   case atStart => exact ⟨(0), rfl, H', ⟨Nat.le_refl _⟩, ⟨bK BK456.out⟩, ⟨bZ⟩⟩
   case round =>
    clear H'; (try clear p2); (try clear c4); (try clear c4b0); (try clear c4b1); (try clear c5); (try clear c5b0); (try clear hz7); (try clear hz9); obtain ⟨x6_1, rfl, HA, HK1, BK456, HB⟩ := hrel
    cases gk with
    | zero => exact absurd HA.out (by simp [F51.l0])
    | succ k1 =>
     have H := HA.out; clear HA; simp only [F51.l0] at H
     by_cases c10 : x6_1 < (l0_2.length : Int)
     ·
      rw [if_pos c10] at H; have c10b0 : decide (x6_1 < (l0_2.length : Int)) = true := dT c10; clear c10
      by_cases c11 : a0_1 = 0
      ·
       rw [if_pos c11] at H; have c11b0 : (a0_1 == 0) = true := beq_iff_eq.mpr c11; have c11b1 : (a0_1 != 0) = false := bne_eq_false_iff_eq.mpr c11; clear c11; obtain ⟨c12, H⟩ := ifp H; have c12b0 : decide (0 ≤ x6_1) = true := dT c12; clear c12
       by_cases c13 : (rd l0_2 x6_1) = 0
       ·
        rw [if_pos c13] at H; have c13b0 : ((rd l0_2 x6_1) == 0) = true := beq_iff_eq.mpr c13; have c13b1 : ((rd l0_2 x6_1) != 0) = false := bne_eq_false_iff_eq.mpr c13; clear c13; have H' := aM H; clear H; have hz14 := bx3 BK456.out; have p458 : 0 ≤ (x6_1 : Int) := oD; have q458 : x6_1 < (l0_2.length : Int) := oD; obtain ⟨ad458, e458, hx458_0⟩ := Kd.at_int HR0_2.out x6_1 p458 q458
        cases e458
        replace hx458_0 := cU HB hx458_0; replace p458 := eq_true p458; replace q458 := eq_true q458
        go_wp2
        repeat (go_quiet (fail); try go_wp2)
        go_roundg k1
        case measure => have := HK1.out; omega
        case rel => exact ⟨(wrap64 (x6_1 + 1)), rfl, H', ⟨by have := HK1.out; omega⟩, ⟨bK BK456.out⟩, ⟨bZ⟩⟩
       ·
        rw [if_neg c13] at H; have c13b0 : ((rd l0_2 x6_1) == 0) = false := beq_eq_false_iff_ne.mpr c13; have c13b1 : ((rd l0_2 x6_1) != 0) = true := bne_iff_ne.mpr c13; obtain rfl := oI H; have hz15 := bx3 BK456.out; have p458 : 0 ≤ (x6_1 : Int) := oD; have q458 : x6_1 < (l0_2.length : Int) := oD; obtain ⟨ad458, e458, hx458_0⟩ := Kd.at_int HR0_2.out x6_1 p458 q458
        cases e458
        replace hx458_0 := cU HB hx458_0; replace p458 := eq_true p458; replace q458 := eq_true q458
        go_wp2
        repeat (go_quiet (fail); try go_wp2)
        go_ret
        exact ⟨rfl, bZ⟩
      ·
       rw [if_neg c11] at H; have c11b0 : (a0_1 == 0) = false := beq_eq_false_iff_ne.mpr c11; have c11b1 : (a0_1 != 0) = true := bne_iff_ne.mpr c11; have H' := aM H; clear H; have hz16 := bx3 BK456.out
       go_wp2
       repeat (go_quiet (fail); try go_wp2)
       go_roundg k1
       case measure => have := HK1.out; omega
       case rel => exact ⟨(wrap64 (x6_1 + 1)), rfl, H', ⟨by have := HK1.out; omega⟩, ⟨bK BK456.out⟩, ⟨bZ⟩⟩
     ·
      rw [if_neg c10] at H; have c10b0 : decide (x6_1 < (l0_2.length : Int)) = false := dF c10; clear c10; have H' := aM H; clear H; have hz17 := bx3 BK456.out
      go_wp2
      repeat (go_quiet (fail); try go_wp2)
      go_loopg [7] k1 (fun kq v7 w' => ∃ (x7_2 : Int), v7 = .int .i64 x7_2 ∧ Aside0 (F51.l1 kq a1 x7_2 a0_0 a0_1 l0_2 = some r) ∧ Aside0 (kq ≤ k1) ∧ Aside0 (w'.heap[gb456]? = some (.cells #[.int .i32 a0_0, .int .u32 a0_1, (.slice A0_2 l0_2.length c0_2)] 98 (0, 0))) ∧ Aside0 (Below w.heap.size w w'))
      case atStart => exact ⟨(0), rfl, H', ⟨Nat.le_refl _⟩, ⟨bK BK456.out⟩, ⟨bZ⟩⟩
      case round =>
       clear H'; (try clear c1); (try clear p2); (try clear c4); (try clear c4b0); (try clear c4b1); (try clear p4); (try clear q4); (try clear hx4); (try clear c5); (try clear c5b0); (try clear p6); (try clear c10); (try clear c10b0); (try clear c11); (try clear c11b0); (try clear c11b1); (try clear c12); (try clear c12b0); (try clear c13); (try clear c13b0); (try clear c13b1); (try clear hz14); (try clear hz15); (try clear hz16); (try clear hz17); (try clear hz7); (try clear hz9); (try clear hx458_0); (try clear p2); (try clear p458); (try clear q458); obtain ⟨x7_2, rfl, HA, HK2, BK456, HB⟩ := hrel
       cases gk with
       | zero => exact absurd HA.out (by simp [F51.l1])
       | succ k2 =>
        have H := HA.out; clear HA; simp only [F51.l1] at H
        by_cases c18 : x7_2 < (l0_2.length : Int)
        ·
         rw [if_pos c18] at H; have c18b0 : decide (x7_2 < (l0_2.length : Int)) = true := dT c18; clear c18; obtain ⟨c19, H⟩ := ifp H; have c19b0 : decide (0 ≤ x7_2) = true := dT c19; clear c19
         by_cases c20 : (rd l0_2 x7_2) < 0
         ·
          rw [if_pos c20] at H; have c20b0 : decide ((rd l0_2 x7_2) < 0) = true := dT c20; clear c20; obtain rfl := oI H; have hz21 := bx3 BK456.out; have p459 : 0 ≤ (x7_2 : Int) := oD; have q459 : x7_2 < (l0_2.length : Int) := oD; obtain ⟨ad459, e459, hx459_0⟩ := Kd.at_int HR0_2.out x7_2 p459 q459
          cases e459
          replace hx459_0 := cU HB hx459_0; replace p459 := eq_true p459; replace q459 := eq_true q459
          go_wp2
          repeat (go_quiet (fail); try go_wp2)
          go_ret
          exact ⟨rfl, bZ⟩
         ·
          rw [if_neg c20] at H; have c20b0 : decide ((rd l0_2 x7_2) < 0) = false := dF c20; clear c20; obtain ⟨t461, A22, H⟩ := bnd H
          by_cases c23 : (rd l0_2 x7_2) > t461
          ·
           rw [if_pos c23] at H; have c23b0 : decide (t461 < (rd l0_2 x7_2)) = true := dT c23; clear c23; obtain rfl := oI H; have hz24 := bx3 BK456.out; have p459 : 0 ≤ (x7_2 : Int) := oD; have q459 : x7_2 < (l0_2.length : Int) := oD; obtain ⟨ad459, e459, hx459_0⟩ := Kd.at_int HR0_2.out x7_2 p459 q459
           cases e459
           replace hx459_0 := cU HB hx459_0; replace p459 := eq_true p459; replace q459 := eq_true q459; have p460 : 0 ≤ (x7_2 : Int) := oD; have q460 : x7_2 < (l0_2.length : Int) := oD; obtain ⟨ad460, e460, hx460_0⟩ := Kd.at_int HR0_2.out x7_2 p460 q460; obtain rfl : ad459 = ad460 := (by injection e460); replace hx460_0 := cU HB hx460_0; replace p460 := eq_true p460; replace q460 := eq_true q460
           go_wp2_with (first | (go_at_call 81; (with_reducible refine (F81.calls k2 a1 t461 _ A22.out).mono ?_); rintro e w' ⟨rfl, ⟨nd, rfl⟩⟩; (try first | exact ⟨rfl, _, World.drewN_drewN _ _ _⟩ | exact ⟨rfl, _, Eq.trans (World.drewN_drewN _ _ _) (congrArg (World.drewN _) (Nat.add_assoc _ _ _))⟩)))
           repeat (go_quiet (first | (go_at_call 81; (with_reducible refine (F81.calls k2 a1 t461 _ A22.out).mono ?_); rintro e w' ⟨rfl, ⟨nd, rfl⟩⟩; (try first | exact ⟨rfl, _, World.drewN_drewN _ _ _⟩ | exact ⟨rfl, _, Eq.trans (World.drewN_drewN _ _ _) (congrArg (World.drewN _) (Nat.add_assoc _ _ _))⟩))); try go_wp2_with (first | (go_at_call 81; (with_reducible refine (F81.calls k2 a1 t461 _ A22.out).mono ?_); rintro e w' ⟨rfl, ⟨nd, rfl⟩⟩; (try first | exact ⟨rfl, _, World.drewN_drewN _ _ _⟩ | exact ⟨rfl, _, Eq.trans (World.drewN_drewN _ _ _) (congrArg (World.drewN _) (Nat.add_assoc _ _ _))⟩))))
           go_ret
           exact ⟨rfl, bZ⟩
          ·
           rw [if_neg c23] at H; have c23b0 : decide (t461 < (rd l0_2 x7_2)) = false := dF c23; clear c23; have H' := aM H; clear H; have hz25 := bx3 BK456.out; have p459 : 0 ≤ (x7_2 : Int) := oD; have q459 : x7_2 < (l0_2.length : Int) := oD; obtain ⟨ad459, e459, hx459_0⟩ := Kd.at_int HR0_2.out x7_2 p459 q459
           cases e459
           replace hx459_0 := cU HB hx459_0; replace p459 := eq_true p459; replace q459 := eq_true q459; have p460 : 0 ≤ (x7_2 : Int) := oD; have q460 : x7_2 < (l0_2.length : Int) := oD; obtain ⟨ad460, e460, hx460_0⟩ := Kd.at_int HR0_2.out x7_2 p460 q460; obtain rfl : ad459 = ad460 := (by injection e460); replace hx460_0 := cU HB hx460_0; replace p460 := eq_true p460; replace q460 := eq_true q460
           go_wp2_with (first | (go_at_call 81; (with_reducible refine (F81.calls k2 a1 t461 _ A22.out).mono ?_); rintro e w' ⟨rfl, ⟨nd, rfl⟩⟩; (try first | exact ⟨rfl, _, World.drewN_drewN _ _ _⟩ | exact ⟨rfl, _, Eq.trans (World.drewN_drewN _ _ _) (congrArg (World.drewN _) (Nat.add_assoc _ _ _))⟩)))
           repeat (go_quiet (first | (go_at_call 81; (with_reducible refine (F81.calls k2 a1 t461 _ A22.out).mono ?_); rintro e w' ⟨rfl, ⟨nd, rfl⟩⟩; (try first | exact ⟨rfl, _, World.drewN_drewN _ _ _⟩ | exact ⟨rfl, _, Eq.trans (World.drewN_drewN _ _ _) (congrArg (World.drewN _) (Nat.add_assoc _ _ _))⟩))); try go_wp2_with (first | (go_at_call 81; (with_reducible refine (F81.calls k2 a1 t461 _ A22.out).mono ?_); rintro e w' ⟨rfl, ⟨nd, rfl⟩⟩; (try first | exact ⟨rfl, _, World.drewN_drewN _ _ _⟩ | exact ⟨rfl, _, Eq.trans (World.drewN_drewN _ _ _) (congrArg (World.drewN _) (Nat.add_assoc _ _ _))⟩))))
           go_roundg k2
           case measure => have := HK1.out; have := HK2.out; omega
           case rel => exact ⟨(wrap64 (x7_2 + 1)), rfl, H', ⟨by have := HK1.out; have := HK2.out; omega⟩, ⟨bK BK456.out⟩, ⟨bZ⟩⟩
        ·
         rw [if_neg c18] at H; have c18b0 : decide (x7_2 < (l0_2.length : Int)) = false := dF c18; clear c18; obtain rfl := oI H; have hz26 := bx3 BK456.out
         go_wp2
         repeat (go_quiet (fail); try go_wp2)
         go_ret
         exact ⟨rfl, bZ⟩
 ·
  rw [if_neg c4] at H; have c4b0 : (t457 == 0) = false := beq_eq_false_iff_ne.mpr c4; have c4b1 : (t457 != 0) = true := bne_iff_ne.mpr c4; obtain rfl := oI H
  go_enter Try.func51, Try.ntmps51
  go_wp2_with (first | ((with_reducible refine gate_dst (N := 2) rfl ?_); refine bxE 2 #[.int .i32 a0_0, .int .u32 a0_1, .slice A0_2 l0_2.length c0_2] 98 (h := ?_); intro gb456 hg w27 hbox hb; have BK456 := aM (hbox); have GW456 := aM ((by rw [hg]; exact (below_size bZ) : w.heap.size ≤ gb456)); have GE456 := aM ((by rw [hg]; exact (below_size bZ) : w.heap.size ≤ gb456)); replace HB := aM (below_step bZ hb); clear hb hbox hg; have hz28 := bx3 BK456.out) | (go_at_call 80; (with_reducible refine (F80.calls (l0_2.length : Int) a1 t457 _ A3.out).mono ?_); rintro e w' ⟨rfl, ⟨nd, rfl⟩⟩; (try first | exact ⟨rfl, _, World.drewN_drewN _ _ _⟩ | exact ⟨rfl, _, Eq.trans (World.drewN_drewN _ _ _) (congrArg (World.drewN _) (Nat.add_assoc _ _ _))⟩)))
  repeat (go_quiet (first | ((with_reducible refine gate_dst (N := 2) rfl ?_); refine bxE 2 #[.int .i32 a0_0, .int .u32 a0_1, .slice A0_2 l0_2.length c0_2] 98 (h := ?_); intro gb456 hg w27 hbox hb; have BK456 := aM (hbox); have GW456 := aM ((by rw [hg]; exact (below_size bZ) : w.heap.size ≤ gb456)); have GE456 := aM ((by rw [hg]; exact (below_size bZ) : w.heap.size ≤ gb456)); replace HB := aM (below_step bZ hb); clear hb hbox hg; have hz28 := bx3 BK456.out) | (go_at_call 80; (with_reducible refine (F80.calls (l0_2.length : Int) a1 t457 _ A3.out).mono ?_); rintro e w' ⟨rfl, ⟨nd, rfl⟩⟩; (try first | exact ⟨rfl, _, World.drewN_drewN _ _ _⟩ | exact ⟨rfl, _, Eq.trans (World.drewN_drewN _ _ _) (congrArg (World.drewN _) (Nat.add_assoc _ _ _))⟩))); try go_wp2_with (first | ((with_reducible refine gate_dst (N := 2) rfl ?_); refine bxE 2 #[.int .i32 a0_0, .int .u32 a0_1, .slice A0_2 l0_2.length c0_2] 98 (h := ?_); intro gb456 hg w27 hbox hb; have BK456 := aM (hbox); have GW456 := aM ((by rw [hg]; exact (below_size bZ) : w.heap.size ≤ gb456)); have GE456 := aM ((by rw [hg]; exact (below_size bZ) : w.heap.size ≤ gb456)); replace HB := aM (below_step bZ hb); clear hb hbox hg; have hz28 := bx3 BK456.out) | (go_at_call 80; (with_reducible refine (F80.calls (l0_2.length : Int) a1 t457 _ A3.out).mono ?_); rintro e w' ⟨rfl, ⟨nd, rfl⟩⟩; (try first | exact ⟨rfl, _, World.drewN_drewN _ _ _⟩ | exact ⟨rfl, _, Eq.trans (World.drewN_drewN _ _ _) (congrArg (World.drewN _) (Nat.add_assoc _ _ _))⟩))))
  go_ret
  exact ⟨rfl, bZ⟩

end Go.Proofs.Ytekenaclmplocaa.PPageNew
