-- Written by a program of this session (wip/tools/mkprint.py over the kit's print).
import Derived.Test.YtggoddiiglkpiaaPGroupFlatx0
import Derived.Test.YtggoddiiglkpiaaPGroupFlatx1
namespace Go.Proofs.Ytggoddiiglkpiaa.PGroupFlat
open Go.RowKit Go.Proofs.YtggoddiiglkpiaaW.PrintWords Go.Proofs.YtggoddiiglkpiaaW.PrintLast Go.Proofs.YtggoddiiglkpiaaW.PrintMore
attribute [local go_sem] max2_int min2_int max_two min_two max_three min_three max_four min_four   -- for this text's walks alone
set_option linter.unusedVariables false
set_option linter.unusedSimpArgs false

/-! ### group_Right_1_any: function 47 at 48 -/
def group_Right_1.p (x : Int) : Bool := x != 0
set_option maxHeartbeats 8000000 in
set_option maxRecDepth 100000 in
theorem group_Right_1.calls (x : Int) (w : World) :
    Calls Try.prog 48 #[.int .i64 x] w fun e w' => e = .returned (.bool (group_Right_1.p x)) ∧ Drawn0 w w' := by
  obtain ⟨q, hq⟩ : ∃ q : Bool, group_Right_1.p x = q := ⟨_, rfl⟩
  have HQ := Aside0.mk hq
  rw [hq]
  clear hq
  go_enter Try.func48, Try.ntmps48
  go_wp2
  go_ret
  exact ⟨by rw [← HQ.out]; first | rfl | simp [group_Right_1.p], Drawn0.refl _⟩


def group_Right_1_any.f (l0 : List Int) : Option Bool := some (l0.any group_Right_1.p)
set_option maxHeartbeats 8000000 in
set_option maxRecDepth 100000 in
theorem group_Right_1_ix.calls (A0 : Option Addr) (c0 : Nat) (l0 : List Int) (w : World) (hr0 : Kd.C (Kd.int .i64) w A0 l0.length l0) :
    Calls Try.prog 64 #[.slice A0 l0.length c0, .func (.func 48) #[] #[]] w fun e w' => ∃ r : Int, e = .returned (.int .i64 r) ∧ Aside0 (decide (0 ≤ r) = l0.any group_Right_1.p) ∧ Drawn0 w w' := by
  have HR0 := Aside0.mk hr0
  clear hr0
  go_enter Try.func64, Try.ntmps64
  go_wp2
  go_loopw [8, 5] (fun i _ w' => ∃ n : Nat, n ≤ l0.length ∧ i = .int .i64 n ∧ Aside0 ((l0.take n).any group_Right_1.p = false) ∧ Drawn0 w w') (fun i _ _ => l0.length - (intOf i).toNat)
  case atStart => exact ⟨0, Nat.zero_le _, rfl, ⟨by simp⟩, Drawn0.refl _⟩
  case round =>
    obtain ⟨n, hn, rfl, HA, ⟨m, rfl⟩⟩ := hrel
    have hl63 := HR0.out.2.1
    by_cases c : n < l0.length
    · have c1 : decide ((n : Int) < (l0.length : Int)) = true := decide_eq_true (by omega)
      have c2 : decide (n < l0.length) = true := decide_eq_true c
      have hp0 : (0 : Int) ≤ (n : Int) := by omega
      have hq0 : (n : Int) < (l0.length : Int) := by omega
      obtain ⟨ad, e1, hx⟩ := Kd.at_int HR0.out (n : Int) hp0 hq0
      cases e1
      have hx2 : w.cell? (ad.add n) = some (.int .i64 (rd l0 (n : Int))) := by simpa using hx
      have hx3 : (w.drewN m).cell? (ad.add n) = some (.int .i64 (rd l0 (n : Int))) := hx2
      obtain ⟨y, hy⟩ : ∃ y : Int, rd l0 (n : Int) = y := ⟨_, rfl⟩
      rw [hy] at hx hx2 hx3
      obtain ⟨q, hq⟩ : ∃ q : Bool, group_Right_1.p y = q := ⟨_, rfl⟩
      have CC := Aside0.mk (fun (W : World) => by
        have h1 := group_Right_1.calls y W
        rw [hq] at h1
        exact h1)
      have HT : Aside0 ((l0.take (n + 1)).any group_Right_1.p = q) := ⟨by
        rw [List.take_succ_eq_append_getElem c, List.any_append, HA.out]
        have : l0[n] = y := by rw [← hy]; simp [rd, List.getElem?_eq_getElem c]
        simp [this, hq]⟩
      have HMEM : Aside0 (group_Right_1.p y = true → l0.any group_Right_1.p = true) := ⟨fun h => by
        rw [List.any_eq_true]
        refine ⟨y, ?_, h⟩
        have : l0[n] = y := by rw [← hy]; simp [rd, List.getElem?_eq_getElem c]
        rw [← this]
        exact List.getElem_mem c⟩
      have HQ := Aside0.mk hq
      clear hq hy HA
      cases q with
      | true =>
        go_wp2_with (first | (go_at_call 48; (with_reducible refine (CC.out _).mono ?_); rintro e w' ⟨rfl, ⟨nd, rfl⟩⟩))
        go_ret
        exact ⟨_, rfl, ⟨by rw [HMEM.out HQ.out]; simp⟩, by repeat (first | exact Drawn0.refl _ | apply Drawn0.step)⟩
      | false =>
        go_wp2_with (first | (go_at_call 48; (with_reducible refine (CC.out _).mono ?_); rintro e w' ⟨rfl, ⟨nd, rfl⟩⟩))
        go_roundw
        case rel => exact ⟨n + 1, by omega, by go_num, HT, by repeat (first | exact Drawn0.refl _ | apply Drawn0.step)⟩
        case measure => simp [intOf]; omega
    · have c1 : decide ((n : Int) < (l0.length : Int)) = false := decide_eq_false (by omega)
      have c2 : decide (n < l0.length) = false := decide_eq_false c
      have hnl : n = l0.length := by omega
      subst hnl
      go_wp2
      go_ret
      exact ⟨_, rfl, ⟨by have h1 := HA.out; rw [List.take_length] at h1; rw [h1]; rfl⟩, by repeat (first | exact Drawn0.refl _ | apply Drawn0.step)⟩
set_option maxHeartbeats 8000000 in
set_option maxRecDepth 100000 in
theorem group_Right_1_any.calls (A0 : Option Addr) (c0 : Nat) (l0 : List Int) (r : Bool) (w : World) (hr0 : Kd.C (Kd.int .i64) w A0 l0.length l0) (hc0 : l0.length ≤ c0) (h : group_Right_1_any.f l0 = some r) :
    Calls Try.prog 47 #[.slice A0 l0.length c0, .func (.func 48) #[] #[]] w fun e w' => e = .returned (.bool r) ∧ Drawn0 w w' := by
  have h2 : some (l0.any group_Right_1.p) = some r := h
  clear h
  have HS := Aside0.mk (Option.some.inj h2)
  have HR0 := Aside0.mk hr0
  clear hr0 h2 hc0
  go_enter Try.func47, Try.ntmps47
  go_wp2_with (first | (go_at_call 64; (with_reducible refine (group_Right_1_ix.calls A0 c0 l0 _ HR0.out).mono ?_); rintro e w' ⟨r1, rfl, HE, ⟨nd, rfl⟩⟩))
  go_ret
  exact ⟨by rw [← HS.out, ← HE.out]; rfl, by repeat (first | exact Drawn0.refl _ | apply Drawn0.step)⟩

/-! ### group_Right_2_any: function 47 at 49 -/
def group_Right_2.ok (b : Int) : Bool := decide (0 ≤ b) && decide (b ≤ 62)
def group_Right_2.p (b x : Int) : Bool := decide (x < 0) || decide (2 ^ b.toNat ≤ x)
set_option maxHeartbeats 8000000 in
set_option maxRecDepth 100000 in
theorem group_Right_2.calls (g : Nat) (b x : Int) (w : World) (hg : w.heap[g]? = some (.cells #[.int .i64 b] 3 (0, 0))) (hk : group_Right_2.ok b = true) :
    Calls Try.prog 49 #[.int .i64 x, .pointer (some ⟨g, 0, none⟩)] w fun e w' => e = .returned (.bool (group_Right_2.p b x)) ∧ Drawn0 w w' := by
  have hk2 : 0 ≤ b ∧ b ≤ 62 := by simpa [group_Right_2.ok] using hk
  have h0 : 0 ≤ b := hk2.1
  have h62 : b ≤ 62 := hk2.2
  have hpow : (2 : Int) ^ b.toNat ≤ 2 ^ 62 := by
    have h1 : (2 : Nat) ^ b.toNat ≤ 2 ^ 62 := Nat.pow_le_pow_right (by decide) (by omega)
    exact_mod_cast h1
  have hpos : (0 : Int) < 2 ^ b.toNat := Int.pow_pos (by decide)
  have hwr : wrap64 (2 ^ b.toNat) = 2 ^ b.toNat := by
    have : (2 : Int) ^ 62 = 4611686018427387904 := by decide
    unfold wrap64
    omega
  have hcell : w.cell? ⟨g, 0, none⟩ = some (.int .i64 b) := (blk_cell hg 0).trans rfl
  obtain ⟨q, hq⟩ : ∃ q : Bool, group_Right_2.p b x = q := ⟨_, rfl⟩
  have HQ := Aside0.mk hq
  rw [hq]
  have HW := Aside0.mk hwr
  clear hq hk hk2 hpow hpos hwr hg
  by_cases hx : x < 0
  · have hx1 : decide (x < 0) = true := decide_eq_true hx
    go_enter Try.func49, Try.ntmps49
    go_wp2
    all_goals (first | (go_ret; exact ⟨by rw [← HQ.out]; simp [group_Right_2.p, hx], Drawn0.refl _⟩) | (exfalso; omega))
  · have hx1 : decide (x < 0) = false := decide_eq_false hx
    go_enter Try.func49, Try.ntmps49
    go_wp2
    all_goals (first | (go_ret; exact ⟨by rw [← HQ.out]; simp only [group_Right_2.p, hx1, HW.out, Bool.false_or]; rfl, Drawn0.refl _⟩) | (exfalso; omega))

def group_Right_2_any.f (l0 : List Int) (b : Int) : Option Bool := if group_Right_2.ok b = true then some (l0.any (group_Right_2.p b)) else none
set_option maxHeartbeats 8000000 in
set_option maxRecDepth 100000 in
theorem group_Right_2_ix.calls (A0 : Option Addr) (c0 : Nat) (l0 : List Int) (g : Nat) (b : Int) (w : World) (hr0 : Kd.C (Kd.int .i64) w A0 l0.length l0) (hg : w.heap[g]? = some (.cells #[.int .i64 b] 3 (0, 0))) (hk : group_Right_2.ok b = true) :
    Calls Try.prog 64 #[.slice A0 l0.length c0, .func (.func 49) #[] #[.pointer (some ⟨g, 0, none⟩)]] w fun e w' => ∃ r : Int, e = .returned (.int .i64 r) ∧ Aside0 (decide (0 ≤ r) = l0.any (group_Right_2.p b)) ∧ Drawn0 w w' := by
  have HR0 := Aside0.mk hr0
  have HG := Aside0.mk hg
  have HK := Aside0.mk hk
  clear hr0 hg hk
  go_enter Try.func64, Try.ntmps64
  go_wp2
  go_loopw [8, 5] (fun i _ w' => ∃ n : Nat, n ≤ l0.length ∧ i = .int .i64 n ∧ Aside0 ((l0.take n).any (group_Right_2.p b) = false) ∧ Drawn0 w w') (fun i _ _ => l0.length - (intOf i).toNat)
  case atStart => exact ⟨0, Nat.zero_le _, rfl, ⟨by simp⟩, Drawn0.refl _⟩
  case round =>
    obtain ⟨n, hn, rfl, HA, ⟨m, rfl⟩⟩ := hrel
    have hl63 := HR0.out.2.1
    by_cases c : n < l0.length
    · have c1 : decide ((n : Int) < (l0.length : Int)) = true := decide_eq_true (by omega)
      have c2 : decide (n < l0.length) = true := decide_eq_true c
      have hp0 : (0 : Int) ≤ (n : Int) := by omega
      have hq0 : (n : Int) < (l0.length : Int) := by omega
      obtain ⟨ad, e1, hx⟩ := Kd.at_int HR0.out (n : Int) hp0 hq0
      cases e1
      have hx2 : w.cell? (ad.add n) = some (.int .i64 (rd l0 (n : Int))) := by simpa using hx
      have hx3 : (w.drewN m).cell? (ad.add n) = some (.int .i64 (rd l0 (n : Int))) := hx2
      obtain ⟨y, hy⟩ : ∃ y : Int, rd l0 (n : Int) = y := ⟨_, rfl⟩
      rw [hy] at hx hx2 hx3
      obtain ⟨q, hq⟩ : ∃ q : Bool, group_Right_2.p b y = q := ⟨_, rfl⟩
      have CC := Aside0.mk (fun (W : World) (hW : W.heap[g]? = some (.cells #[.int .i64 b] 3 (0, 0))) => by
        have h1 := group_Right_2.calls g b y W hW HK.out
        rw [hq] at h1
        exact h1)
      have HT : Aside0 ((l0.take (n + 1)).any (group_Right_2.p b) = q) := ⟨by
        rw [List.take_succ_eq_append_getElem c, List.any_append, HA.out]
        have : l0[n] = y := by rw [← hy]; simp [rd, List.getElem?_eq_getElem c]
        simp [this, hq]⟩
      have HMEM : Aside0 (group_Right_2.p b y = true → l0.any (group_Right_2.p b) = true) := ⟨fun h => by
        rw [List.any_eq_true]
        refine ⟨y, ?_, h⟩
        have : l0[n] = y := by rw [← hy]; simp [rd, List.getElem?_eq_getElem c]
        rw [← this]
        exact List.getElem_mem c⟩
      have HQ := Aside0.mk hq
      have HG2 := Aside0.mk (show (w.drewN m).heap[g]? = some (.cells #[.int .i64 b] 3 (0, 0)) from HG.out)
      clear hq hy HA
      cases q with
      | true =>
        go_wp2_with (first | (go_at_call 49; (with_reducible refine (CC.out _ HG2.out).mono ?_); rintro e w' ⟨rfl, ⟨nd, rfl⟩⟩))
        go_ret
        exact ⟨_, rfl, ⟨by rw [HMEM.out HQ.out]; simp⟩, by repeat (first | exact Drawn0.refl _ | apply Drawn0.step)⟩
      | false =>
        go_wp2_with (first | (go_at_call 49; (with_reducible refine (CC.out _ HG2.out).mono ?_); rintro e w' ⟨rfl, ⟨nd, rfl⟩⟩))
        go_roundw
        case rel => exact ⟨n + 1, by omega, by go_num, HT, by repeat (first | exact Drawn0.refl _ | apply Drawn0.step)⟩
        case measure => simp [intOf]; omega
    · have c1 : decide ((n : Int) < (l0.length : Int)) = false := decide_eq_false (by omega)
      have c2 : decide (n < l0.length) = false := decide_eq_false c
      have hnl : n = l0.length := by omega
      subst hnl
      go_wp2
      go_ret
      exact ⟨_, rfl, ⟨by have h1 := HA.out; rw [List.take_length] at h1; rw [h1]; rfl⟩, by repeat (first | exact Drawn0.refl _ | apply Drawn0.step)⟩
set_option maxHeartbeats 8000000 in
set_option maxRecDepth 100000 in
theorem group_Right_2_any.calls (A0 : Option Addr) (c0 : Nat) (l0 : List Int) (g : Nat) (b : Int) (r : Bool) (w : World) (hr0 : Kd.C (Kd.int .i64) w A0 l0.length l0) (hc0 : l0.length ≤ c0) (hg : w.heap[g]? = some (.cells #[.int .i64 b] 3 (0, 0))) (h : group_Right_2_any.f l0 b = some r) :
    Calls Try.prog 47 #[.slice A0 l0.length c0, .func (.func 49) #[] #[.pointer (some ⟨g, 0, none⟩)]] w fun e w' => e = .returned (.bool r) ∧ Drawn0 w w' := by
  have h2 : (if group_Right_2.ok b = true then some (l0.any (group_Right_2.p b)) else none) = some r := h
  clear h
  by_cases hk : group_Right_2.ok b = true
  · rw [if_pos hk] at h2
    have HS := Aside0.mk (Option.some.inj h2)
    have HR0 := Aside0.mk hr0
    have HG := Aside0.mk hg
    have HK := Aside0.mk hk
    clear hr0 hg hk h2 hc0
    go_enter Try.func47, Try.ntmps47
    go_wp2_with (first | (go_at_call 64; (with_reducible refine (group_Right_2_ix.calls A0 c0 l0 g b _ HR0.out HG.out HK.out).mono ?_); rintro e w' ⟨r1, rfl, HE, ⟨nd, rfl⟩⟩))
    go_ret
    exact ⟨by rw [← HS.out, ← HE.out]; rfl, by repeat (first | exact Drawn0.refl _ | apply Drawn0.step)⟩
  · rw [if_neg hk] at h2
    cases h2

/-! ### group_Right: function 20 -/
mutual
def group_Right.j0 : Nat → Bool → Int → Int → List Int → Int → Option (Int)
  | 0, _, _, _, _, _ => none
  | k + 1, x6, x118000, x118001, x118002, x119000 => if x118001 > 1431655765 then (group_Right.j1 k true x118000 x118001 x118002 x119000) else (group_Right.j1 k x6 x118000 x118001 x118002 x119000)
def group_Right.j1 : Nat → Bool → Int → Int → List Int → Int → Option (Int)
  | 0, _, _, _, _, _ => none
  | k + 1, x23, x118000, x118001, x118002, x119000 => if x23 = true then (some 21) else ((group_Right_2_any.f x118002 x119000).bind fun t121 => (if t121 = true then (some 11) else (some 0)))
end
def group_Right.f (k : Nat) (a0_0 : Int) (a0_1 : Int) (l0_2 : List Int) (a1 : Int) : Option (Int) := (group_many.f (l0_2.length : Int) a1).bind fun t119 => (if t119 = 0 then (if a0_1 = 0 then ((group_Right_1_any.f l0_2).bind fun t120 => (group_Right.j0 k t120 a0_0 a0_1 l0_2 a1)) else (group_Right.j0 k false a0_0 a0_1 l0_2 a1)) else (some t119))
theorem group_Right.mono_l : ∀ k, (∀ y0 y1 y2 y3 y4, LeO (group_Right.j0 k y0 y1 y2 y3 y4) (group_Right.j0 (k + 1) y0 y1 y2 y3 y4)) ∧ (∀ y0 y1 y2 y3 y4, LeO (group_Right.j1 k y0 y1 y2 y3 y4) (group_Right.j1 (k + 1) y0 y1 y2 y3 y4))
  | 0 => ⟨fun _ _ _ _ _ r h => by simp [group_Right.j0] at h, fun _ _ _ _ _ r h => by simp [group_Right.j1] at h⟩
  | k + 1 => by
    obtain ⟨ih0, ih1⟩ := group_Right.mono_l k
    refine ⟨?_, ?_⟩
    · intro y0 y1 y2 y3 y4
      unfold group_Right.j0
      repeat' first
      | (with_reducible exact ih0 _ _ _ _ _)
      | (with_reducible exact ih1 _ _ _ _ _)
      | (with_reducible exact LeO.refl _)
      | (with_reducible exact LeO.none _)
      | (with_reducible refine LeO.ite ?_ ?_)
      | (with_reducible refine LeO.bind ?_ (fun _ => ?_))
      | exact ih0 _ _ _ _ _
      | exact ih1 _ _ _ _ _
      | exact LeO.none _
      | refine LeO.ite ?_ ?_
      | refine LeO.bind ?_ (fun _ => ?_)
    · intro y0 y1 y2 y3 y4
      unfold group_Right.j1
      repeat' first
      | (with_reducible exact ih0 _ _ _ _ _)
      | (with_reducible exact ih1 _ _ _ _ _)
      | (with_reducible exact LeO.refl _)
      | (with_reducible exact LeO.none _)
      | (with_reducible refine LeO.ite ?_ ?_)
      | (with_reducible refine LeO.bind ?_ (fun _ => ?_))
      | exact ih0 _ _ _ _ _
      | exact ih1 _ _ _ _ _
      | exact LeO.none _
      | refine LeO.ite ?_ ?_
      | refine LeO.bind ?_ (fun _ => ?_)
theorem group_Right.mono : ∀ a0 a1 a2 a3 k, LeO (group_Right.f k a0 a1 a2 a3) (group_Right.f (k + 1) a0 a1 a2 a3) := by
  intro a0 a1 a2 a3 k
  obtain ⟨ih0, ih1⟩ := group_Right.mono_l k
  unfold group_Right.f
  repeat' first
      | (with_reducible exact ih0 _ _ _ _ _)
      | (with_reducible exact ih1 _ _ _ _ _)
      | (with_reducible exact LeO.refl _)
      | (with_reducible exact LeO.none _)
      | (with_reducible refine LeO.ite ?_ ?_)
      | (with_reducible refine LeO.bind ?_ (fun _ => ?_))
      | exact ih0 _ _ _ _ _
      | exact ih1 _ _ _ _ _
      | exact LeO.none _
      | refine LeO.ite ?_ ?_
      | refine LeO.bind ?_ (fun _ => ?_)
set_option maxHeartbeats 8000000 in
set_option maxRecDepth 100000 in
theorem group_Right.calls (k : Nat) (a0_0 : Int) (a0_1 : Int) (A0_2 : Option Addr) (c0_2 : Nat) (l0_2 : List Int) (a1 : Int) (r : Int) (w : World) (hr0_2 : Kd.C (Kd.int .i64) w A0_2 l0_2.length l0_2) (hc0_2 : l0_2.length ≤ c0_2) (h : group_Right.f k a0_0 a0_1 l0_2 a1 = some r) :
    Calls Try.prog 20 #[.agg #[.int .i32 a0_0, .int .u32 a0_1, .slice A0_2 l0_2.length c0_2], .int .i64 a1] w fun e w' => e = .returned (.int .i64 r) ∧ Below w.heap.size w w' := by
  have hu27 := Try.underlying27
  have HR0_2 := Aside0.mk hr0_2
  have HC0_2 := Aside0.mk hc0_2
  clear hr0_2 hc0_2
  have HB := Aside0.mk (Below.refl w.heap.size w)
  have H : ((group_many.f (l0_2.length : Int) a1).bind fun t119 => (if t119 = 0 then (if a0_1 = 0 then ((group_Right_1_any.f l0_2).bind fun t120 => (group_Right.j0 k t120 a0_0 a0_1 l0_2 a1)) else (group_Right.j0 k false a0_0 a0_1 l0_2 a1)) else (some t119))) = some r := h
  clear h
  replace H := Option.bind_eq_some_iff.mp H
  obtain ⟨t119, A30, H⟩ := H
  replace H : (if t119 = 0 then (if a0_1 = 0 then ((group_Right_1_any.f l0_2).bind fun t120 => (group_Right.j0 k t120 a0_0 a0_1 l0_2 a1)) else (group_Right.j0 k false a0_0 a0_1 l0_2 a1)) else (some t119)) = some r := H
  have A3 := Aside0.mk A30
  clear A30
  by_cases c4 : t119 = 0
  · rw [if_pos c4] at H
    have c4b0 : (t119 == 0) = true := beq_iff_eq.mpr c4
    have c4b1 : (t119 != 0) = false := bne_eq_false_iff_eq.mpr c4
    clear c4
    have HC5 := Aside0.mk H
    clear H
    go_enter Try.func20, Try.ntmps20
    go_upto_region 4 with (first | ((with_reducible refine gate_dst (N := 2) rfl ?_); refine box_event ?hg (N := 2) ?hd (cs := #[.int .i32 a0_0, .int .u32 a0_1, .slice A0_2 l0_2.length c0_2]) (t := 27) ?hr ?_; (case hd => rfl); (case hg => rfl); (case hr => first | (go_simp; done) | (go_simp; rfl)); intro gb117 hg w6 hbox hb; have n0_ := Aside0.mk (below_step (by repeat (first | (with_reducible first | exact HB.out | apply below_alloc | apply pw_below_drewN | apply below_drew1) | exact HB.out)) hb); have n1_ := Aside0.mk (hbox); have n2_ := Aside0.mk ((by rw [hg]; exact (below_size (by repeat (first | (with_reducible first | exact HB.out | apply below_alloc | apply pw_below_drewN | apply below_drew1) | exact HB.out))) : w.heap.size ≤ gb117)); have n3_ := Aside0.mk ((by rw [hg]; exact (below_size (by repeat (first | (with_reducible first | exact HB.out | apply below_alloc | apply pw_below_drewN | apply below_drew1) | exact HB.out))) : w.heap.size ≤ gb117)); clear HB; have HB := n0_; have BK117 := n1_; have GW117 := n2_; have GE117 := n3_; clear n0_ n1_ n2_ n3_; clear hb hbox hg) | ((with_reducible refine gate_dst (N := 3) rfl ?_); refine box_event ?hg (N := 3) ?hd (cs := #[.int .i64 a1]) (t := 3) ?hr ?_; (case hd => rfl); (case hg => rfl); (case hr => first | (go_simp; done) | (go_simp; rfl)); intro gb118 hg w7 hbox hb; have n0_ := Aside0.mk (blk_below (g := gb117) (o := .cells #[.int .i32 a0_0, .int .u32 a0_1, .slice A0_2 l0_2.length c0_2] 27 (0, 0)) (by (with_reducible repeat (first | refine blk_drewN ?_ _ | refine blk_drew ?_ | refine blk_alloc ?_ _)); exact BK117.out) hb); have n1_ := Aside0.mk (below_step (by repeat (first | (with_reducible first | exact HB.out | apply below_alloc | apply pw_below_drewN | apply below_drew1 | refine below_set ?_ GE117.out) | exact HB.out)) hb); have n2_ := Aside0.mk (hbox); have n3_ := Aside0.mk ((by rw [hg]; exact (below_size (by repeat (first | (with_reducible first | exact HB.out | apply below_alloc | apply pw_below_drewN | apply below_drew1 | refine below_set ?_ GE117.out) | exact HB.out))) : w.heap.size ≤ gb118)); have n4_ := Aside0.mk ((by rw [hg]; exact (below_size (by repeat (first | (with_reducible first | exact HB.out | apply below_alloc | apply pw_below_drewN | apply below_drew1 | refine below_set ?_ GE117.out) | exact HB.out))) : w.heap.size ≤ gb118)); have n5_ := Aside0.mk ((by rw [hg]; exact Nat.ne_of_lt (blk_lt (g := gb117) (o := .cells #[.int .i32 a0_0, .int .u32 a0_1, .slice A0_2 l0_2.length c0_2] 27 (0, 0)) (by (with_reducible repeat (first | refine blk_drewN ?_ _ | refine blk_drew ?_ | refine blk_alloc ?_ _)); exact BK117.out)) : gb117 ≠ gb118)); have n6_ := Aside0.mk ((by rw [hg]; exact Nat.ne_of_gt (blk_lt (g := gb117) (o := .cells #[.int .i32 a0_0, .int .u32 a0_1, .slice A0_2 l0_2.length c0_2] 27 (0, 0)) (by (with_reducible repeat (first | refine blk_drewN ?_ _ | refine blk_drew ?_ | refine blk_alloc ?_ _)); exact BK117.out)) : gb118 ≠ gb117)); clear BK117; clear HB; have BK117 := n0_; have HB := n1_; have BK118 := n2_; have GW118 := n3_; have GE118 := n4_; have NB117_118 := n5_; have NB118_117 := n6_; clear n0_ n1_ n2_ n3_ n4_ n5_ n6_; clear hb hbox hg; have hnb8 := NB117_118.out; have hnc8 := NB118_117.out; have hcz9_0 : w7.cell? ⟨gb117, 0, none⟩ = some (.int .i32 a0_0) := (blk_cell BK117.out 0).trans rfl; have hcz9_1 : w7.cell? ⟨gb117, 1, none⟩ = some (.int .u32 a0_1) := (blk_cell BK117.out 1).trans rfl; have hcz9_2 : w7.cell? ⟨gb117, 2, none⟩ = some (.slice A0_2 l0_2.length c0_2) := (blk_cell BK117.out 2).trans rfl; have hfz9_0 := blk_frozen BK117.out 0; have hfz9_1 := blk_frozen BK117.out 1; have hfz9_2 := blk_frozen BK117.out 2; have hcz10_0 : w7.cell? ⟨gb118, 0, none⟩ = some (.int .i64 a1) := (blk_cell BK118.out 0).trans rfl; have hfz10_0 := blk_frozen BK118.out 0) | ((with_reducible refine gate_callee (f := 41) rfl ?_); refine goesL_ (some 11) rfl rfl Try.func41 (by kernel_rfl) rfl #[.int .i64 (l0_2.length : Int), .int .i64 a1] rfl (by (try simp only [List.map_toArray, List.map_cons, List.map_nil]); first | done | rfl | (simp only [List.length_drop, List.length_take]; rfl)) ?_; (with_reducible refine (group_many.calls (l0_2.length : Int) a1 t119 _ A3.out).mono ?_); rintro e w' ⟨rfl, ⟨nd, rfl⟩⟩; refine ⟨_, rfl, ?_⟩))
    (try simp only [Act.put, List.setIfInBounds_toArray, List.set_cons_zero, List.set_cons_succ])
    go_cut [6] (fun v6 wc => ∃ (kq : Nat) (x6_4 : Bool), v6 = .bool x6_4 ∧ Aside0 (group_Right.j0 kq x6_4 a0_0 a0_1 l0_2 a1 = some r) ∧ Aside0 (kq ≤ k) ∧ Aside0 (wc.heap[gb117]? = some (.cells #[.int .i32 a0_0, .int .u32 a0_1, (.slice A0_2 l0_2.length c0_2)] 27 (0, 0))) ∧ Aside0 (wc.heap[gb118]? = some (.cells #[.int .i64 a1] 3 (0, 0))) ∧ Aside0 (Below w.heap.size w wc))
    case first =>
      have H := HC5.out
      clear HC5
      by_cases c11 : a0_1 = 0
      · rw [if_pos c11] at H
        have c11b0 : (a0_1 == 0) = true := beq_iff_eq.mpr c11
        have c11b1 : (a0_1 != 0) = false := bne_eq_false_iff_eq.mpr c11
        clear c11
        (first | rw [c11b0] | (simp only [i64_w, i32_w]; rw [c11b0]) | skip)
        replace H := Option.bind_eq_some_iff.mp H
        obtain ⟨t120, A120, H⟩ := H
        replace H : (group_Right.j0 k t120 a0_0 a0_1 l0_2 a1) = some r := H
        have A12 := Aside0.mk A120
        clear A120
        have H' := Aside0.mk H
        clear H
        have hnb13 := NB117_118.out
        have hnc13 := NB118_117.out
        have hcz14_0 : w7.cell? ⟨gb117, 0, none⟩ = some (.int .i32 a0_0) := (blk_cell BK117.out 0).trans rfl
        have hcz14_1 : w7.cell? ⟨gb117, 1, none⟩ = some (.int .u32 a0_1) := (blk_cell BK117.out 1).trans rfl
        have hcz14_2 : w7.cell? ⟨gb117, 2, none⟩ = some (.slice A0_2 l0_2.length c0_2) := (blk_cell BK117.out 2).trans rfl
        have hfz14_0 := blk_frozen BK117.out 0
        have hfz14_1 := blk_frozen BK117.out 1
        have hfz14_2 := blk_frozen BK117.out 2
        go_wp2_with (first | (go_at_call 47; (with_reducible refine (group_Right_1_any.calls _ _ l0_2  t120 _ ?side1 ?side2 A12.out).mono ?_); (case side1 => repeat (first | exact (Kd.C_below HR0_2.out HB.out) | (with_reducible refine Kd.C_alloc ?_ _) | (with_reducible refine Kd.C_drewN ?_ _) | (with_reducible refine Kd.C_drew ?_))); (case side2 => exact HC0_2.out); rintro e w' ⟨rfl, ⟨nd, rfl⟩⟩))
        go_meet
        case rel => exact ⟨_, (t120), (by first | rfl | (simp; done) | (simp [*]; done)), H', ⟨by first | omega | exact Nat.le_refl _⟩, ⟨by (with_reducible repeat (first | refine blk_drewN ?_ _ | refine blk_drew ?_ | refine blk_alloc ?_ _)); exact BK117.out⟩, ⟨by (with_reducible repeat (first | refine blk_drewN ?_ _ | refine blk_drew ?_ | refine blk_alloc ?_ _)); exact BK118.out⟩, ⟨by repeat (first | (with_reducible first | exact HB.out | apply below_alloc | apply pw_below_drewN | apply below_drew1 | refine below_set ?_ GE117.out | refine below_set ?_ GE118.out) | exact HB.out)⟩⟩
      · rw [if_neg c11] at H
        have c11b0 : (a0_1 == 0) = false := beq_eq_false_iff_ne.mpr c11
        have c11b1 : (a0_1 != 0) = true := bne_iff_ne.mpr c11
        (first | rw [c11b0] | (simp only [i64_w, i32_w]; rw [c11b0]) | skip)
        have H' := Aside0.mk H
        clear H
        have hnb15 := NB117_118.out
        have hnc15 := NB118_117.out
        have hcz16_0 : w7.cell? ⟨gb117, 0, none⟩ = some (.int .i32 a0_0) := (blk_cell BK117.out 0).trans rfl
        have hcz16_1 : w7.cell? ⟨gb117, 1, none⟩ = some (.int .u32 a0_1) := (blk_cell BK117.out 1).trans rfl
        have hcz16_2 : w7.cell? ⟨gb117, 2, none⟩ = some (.slice A0_2 l0_2.length c0_2) := (blk_cell BK117.out 2).trans rfl
        have hfz16_0 := blk_frozen BK117.out 0
        have hfz16_1 := blk_frozen BK117.out 1
        have hfz16_2 := blk_frozen BK117.out 2
        go_wp2
        go_meet
        case rel => exact ⟨_, (false), (by first | rfl | (simp; done) | (simp [*]; done)), H', ⟨by first | omega | exact Nat.le_refl _⟩, ⟨by (with_reducible repeat (first | refine blk_drewN ?_ _ | refine blk_drew ?_ | refine blk_alloc ?_ _)); exact BK117.out⟩, ⟨by (with_reducible repeat (first | refine blk_drewN ?_ _ | refine blk_drew ?_ | refine blk_alloc ?_ _)); exact BK118.out⟩, ⟨by repeat (first | (with_reducible first | exact HB.out | apply below_alloc | apply pw_below_drewN | apply below_drew1 | refine below_set ?_ GE117.out | refine below_set ?_ GE118.out) | exact HB.out)⟩⟩
    case rest =>
      clear HC5
      try clear c1
      try clear c2
      try clear p2
      try clear c4
      try clear c4b0
      try clear c4b1
      try clear c8
      try clear c11
      try clear c11b0
      try clear c11b1
      try clear c13
      try clear c15
      try clear hcz10_0
      try clear hcz14_0
      try clear hcz14_1
      try clear hcz14_2
      try clear hcz16_0
      try clear hcz16_1
      try clear hcz16_2
      try clear hcz9_0
      try clear hcz9_1
      try clear hcz9_2
      try clear hfz10_0
      try clear hfz14_0
      try clear hfz14_1
      try clear hfz14_2
      try clear hfz16_0
      try clear hfz16_1
      try clear hfz16_2
      try clear hfz9_0
      try clear hfz9_1
      try clear hfz9_2
      obtain ⟨kq, x6_4, rfl, HA, HJ4, BK117, BK118, HB⟩ := hcut
      cases kq with
      | zero => exact absurd HA.out (by simp [group_Right.j0])
      | succ kj4 =>
        have H := HA.out
        clear HA
        simp only [group_Right.j0] at H
        have HC17 := Aside0.mk H
        clear H
        go_upto_region 5 with (fail)
        go_cut [23] (fun v23 wc => ∃ (kq : Nat) (x23_16 : Bool), v23 = .bool x23_16 ∧ Aside0 (group_Right.j1 kq x23_16 a0_0 a0_1 l0_2 a1 = some r) ∧ Aside0 (kq ≤ kj4) ∧ Aside0 (wc.heap[gb117]? = some (.cells #[.int .i32 a0_0, .int .u32 a0_1, (.slice A0_2 l0_2.length c0_2)] 27 (0, 0))) ∧ Aside0 (wc.heap[gb118]? = some (.cells #[.int .i64 a1] 3 (0, 0))) ∧ Aside0 (Below w.heap.size w wc))
        case first =>
          have H := HC17.out
          clear HC17
          by_cases c18 : a0_1 > 1431655765
          · rw [if_pos c18] at H
            have c18b0 : decide (1431655765 < a0_1) = true := decide_eq_true c18
            clear c18
            (first | rw [c18b0] | (simp only [i64_w, i32_w]; rw [c18b0]) | skip)
            have H' := Aside0.mk H
            clear H
            have hnb19 := NB117_118.out
            have hnc19 := NB118_117.out
            have hcz20_0 : wc.cell? ⟨gb117, 0, none⟩ = some (.int .i32 a0_0) := (blk_cell BK117.out 0).trans rfl
            have hcz20_1 : wc.cell? ⟨gb117, 1, none⟩ = some (.int .u32 a0_1) := (blk_cell BK117.out 1).trans rfl
            have hcz20_2 : wc.cell? ⟨gb117, 2, none⟩ = some (.slice A0_2 l0_2.length c0_2) := (blk_cell BK117.out 2).trans rfl
            have hfz20_0 := blk_frozen BK117.out 0
            have hfz20_1 := blk_frozen BK117.out 1
            have hfz20_2 := blk_frozen BK117.out 2
            go_wp2
            go_meet
            case rel => exact ⟨_, (true), (by first | rfl | (simp; done) | (simp [*]; done)), H', ⟨by have := HJ4.out; first | omega | exact Nat.le_refl _⟩, ⟨by (with_reducible repeat (first | refine blk_drewN ?_ _ | refine blk_drew ?_ | refine blk_alloc ?_ _)); exact BK117.out⟩, ⟨by (with_reducible repeat (first | refine blk_drewN ?_ _ | refine blk_drew ?_ | refine blk_alloc ?_ _)); exact BK118.out⟩, ⟨by repeat (first | (with_reducible first | exact HB.out | apply below_alloc | apply pw_below_drewN | apply below_drew1 | refine below_set ?_ GE117.out | refine below_set ?_ GE118.out) | exact HB.out)⟩⟩
          · rw [if_neg c18] at H
            have c18b0 : decide (1431655765 < a0_1) = false := decide_eq_false c18
            clear c18
            (first | rw [c18b0] | (simp only [i64_w, i32_w]; rw [c18b0]) | skip)
            have H' := Aside0.mk H
            clear H
            have hnb21 := NB117_118.out
            have hnc21 := NB118_117.out
            have hcz22_0 : wc.cell? ⟨gb117, 0, none⟩ = some (.int .i32 a0_0) := (blk_cell BK117.out 0).trans rfl
            have hcz22_1 : wc.cell? ⟨gb117, 1, none⟩ = some (.int .u32 a0_1) := (blk_cell BK117.out 1).trans rfl
            have hcz22_2 : wc.cell? ⟨gb117, 2, none⟩ = some (.slice A0_2 l0_2.length c0_2) := (blk_cell BK117.out 2).trans rfl
            have hfz22_0 := blk_frozen BK117.out 0
            have hfz22_1 := blk_frozen BK117.out 1
            have hfz22_2 := blk_frozen BK117.out 2
            go_wp2
            go_meet
            case rel => exact ⟨_, (x6_4), (by first | rfl | (simp; done) | (simp [*]; done)), H', ⟨by have := HJ4.out; first | omega | exact Nat.le_refl _⟩, ⟨by (with_reducible repeat (first | refine blk_drewN ?_ _ | refine blk_drew ?_ | refine blk_alloc ?_ _)); exact BK117.out⟩, ⟨by (with_reducible repeat (first | refine blk_drewN ?_ _ | refine blk_drew ?_ | refine blk_alloc ?_ _)); exact BK118.out⟩, ⟨by repeat (first | (with_reducible first | exact HB.out | apply below_alloc | apply pw_below_drewN | apply below_drew1 | refine below_set ?_ GE117.out | refine below_set ?_ GE118.out) | exact HB.out)⟩⟩
        case rest =>
          clear HC17
          try clear c1
          try clear c2
          try clear p2
          try clear c4
          try clear c4b0
          try clear c4b1
          try clear c8
          try clear c11
          try clear c11b0
          try clear c11b1
          try clear c13
          try clear c15
          try clear c18
          try clear c18b0
          try clear c19
          try clear c20
          try clear c21
          try clear hcz10_0
          try clear hcz14_0
          try clear hcz14_1
          try clear hcz14_2
          try clear hcz16_0
          try clear hcz16_1
          try clear hcz16_2
          try clear hcz20_0
          try clear hcz20_1
          try clear hcz20_2
          try clear hcz22_0
          try clear hcz22_1
          try clear hcz22_2
          try clear hcz9_0
          try clear hcz9_1
          try clear hcz9_2
          try clear hfz10_0
          try clear hfz14_0
          try clear hfz14_1
          try clear hfz14_2
          try clear hfz16_0
          try clear hfz16_1
          try clear hfz16_2
          try clear hfz20_0
          try clear hfz20_1
          try clear hfz20_2
          try clear hfz22_0
          try clear hfz22_1
          try clear hfz22_2
          try clear hfz9_0
          try clear hfz9_1
          try clear hfz9_2
          try clear p2
          obtain ⟨kq, x23_16, rfl, HA, HJ16, BK117, BK118, HB⟩ := hcut
          cases kq with
          | zero => exact absurd HA.out (by simp [group_Right.j1])
          | succ kj16 =>
            have H := HA.out
            clear HA
            simp only [group_Right.j1] at H
            by_cases c23 : x23_16 = true
            · subst c23
              have H1 : (some 21) = some r := by rw [if_pos rfl] at H; exact H
              clear H
              have H := H1
              clear H1
              obtain rfl := Option.some.inj H
              go_wp2
              go_ret
              exact ⟨by first | rfl | (simp [errW_none, errW_some] <;> rfl) | (simp [*, errW_none, errW_some] <;> rfl), by repeat (first | (with_reducible first | exact HB.out | apply below_alloc | apply pw_below_drewN | apply below_drew1 | refine below_set ?_ GE117.out | refine below_set ?_ GE118.out) | exact HB.out)⟩
            · replace c23 := Bool.eq_false_iff.mpr c23
              subst c23
              have H1 : ((group_Right_2_any.f l0_2 a1).bind fun t121 => (if t121 = true then (some 11) else (some 0))) = some r := by rw [if_neg (show ¬ (false = true) by decide)] at H; exact H
              clear H
              have H := H1
              clear H1
              replace H := Option.bind_eq_some_iff.mp H
              obtain ⟨t121, A240, H⟩ := H
              replace H : (if t121 = true then (some 11) else (some 0)) = some r := H
              have A24 := Aside0.mk A240
              clear A240
              by_cases c25 : t121 = true
              · subst c25
                have H1 : (some 11) = some r := by rw [if_pos rfl] at H; exact H
                clear H
                have H := H1
                clear H1
                obtain rfl := Option.some.inj H
                have hnb26 := NB117_118.out
                have hnc26 := NB118_117.out
                have hcz27_0 : wc.cell? ⟨gb117, 0, none⟩ = some (.int .i32 a0_0) := (blk_cell BK117.out 0).trans rfl
                have hcz27_1 : wc.cell? ⟨gb117, 1, none⟩ = some (.int .u32 a0_1) := (blk_cell BK117.out 1).trans rfl
                have hcz27_2 : wc.cell? ⟨gb117, 2, none⟩ = some (.slice A0_2 l0_2.length c0_2) := (blk_cell BK117.out 2).trans rfl
                have hfz27_0 := blk_frozen BK117.out 0
                have hfz27_1 := blk_frozen BK117.out 1
                have hfz27_2 := blk_frozen BK117.out 2
                have hcz28_0 : wc.cell? ⟨gb118, 0, none⟩ = some (.int .i64 a1) := (blk_cell BK118.out 0).trans rfl
                have hfz28_0 := blk_frozen BK118.out 0
                go_wp2_with (first | ((with_reducible refine gate_callee (f := 47) rfl ?_); refine goesL_ (some 34) rfl rfl Try.func47 (by kernel_rfl) rfl #[.slice A0_2 l0_2.length c0_2, .func (.func 49) #[] #[.pointer (some ⟨gb118, 0, none⟩)]] rfl (by (try simp only [List.map_toArray, List.map_cons, List.map_nil]); first | done | rfl | (simp only [List.length_drop, List.length_take]; rfl)) ?_; (with_reducible refine (group_Right_2_any.calls _ _ l0_2 gb118 a1 true _ ?side1 ?side2 ?side3 A24.out).mono ?_); (case side1 => repeat (first | exact (Kd.C_below HR0_2.out HB.out) | (with_reducible refine Kd.C_alloc ?_ _) | (with_reducible refine Kd.C_drewN ?_ _) | (with_reducible refine Kd.C_drew ?_))); (case side2 => exact HC0_2.out); (case side3 => exact by (with_reducible repeat (first | refine blk_drewN ?_ _ | refine blk_drew ?_ | refine blk_alloc ?_ _)); exact BK118.out); rintro e w' ⟨rfl, ⟨nd, rfl⟩⟩; refine ⟨_, rfl, ?_⟩))
                go_ret
                exact ⟨by first | rfl | (simp [errW_none, errW_some] <;> rfl) | (simp [*, errW_none, errW_some] <;> rfl), by repeat (first | (with_reducible first | exact HB.out | apply below_alloc | apply pw_below_drewN | apply below_drew1 | refine below_set ?_ GE117.out | refine below_set ?_ GE118.out) | exact HB.out)⟩
              · replace c25 := Bool.eq_false_iff.mpr c25
                subst c25
                have H1 : (some 0) = some r := by rw [if_neg (show ¬ (false = true) by decide)] at H; exact H
                clear H
                have H := H1
                clear H1
                obtain rfl := Option.some.inj H
                have hnb29 := NB117_118.out
                have hnc29 := NB118_117.out
                have hcz30_0 : wc.cell? ⟨gb117, 0, none⟩ = some (.int .i32 a0_0) := (blk_cell BK117.out 0).trans rfl
                have hcz30_1 : wc.cell? ⟨gb117, 1, none⟩ = some (.int .u32 a0_1) := (blk_cell BK117.out 1).trans rfl
                have hcz30_2 : wc.cell? ⟨gb117, 2, none⟩ = some (.slice A0_2 l0_2.length c0_2) := (blk_cell BK117.out 2).trans rfl
                have hfz30_0 := blk_frozen BK117.out 0
                have hfz30_1 := blk_frozen BK117.out 1
                have hfz30_2 := blk_frozen BK117.out 2
                have hcz31_0 : wc.cell? ⟨gb118, 0, none⟩ = some (.int .i64 a1) := (blk_cell BK118.out 0).trans rfl
                have hfz31_0 := blk_frozen BK118.out 0
                go_wp2_with (first | ((with_reducible refine gate_callee (f := 47) rfl ?_); refine goesL_ (some 34) rfl rfl Try.func47 (by kernel_rfl) rfl #[.slice A0_2 l0_2.length c0_2, .func (.func 49) #[] #[.pointer (some ⟨gb118, 0, none⟩)]] rfl (by (try simp only [List.map_toArray, List.map_cons, List.map_nil]); first | done | rfl | (simp only [List.length_drop, List.length_take]; rfl)) ?_; (with_reducible refine (group_Right_2_any.calls _ _ l0_2 gb118 a1 false _ ?side1 ?side2 ?side3 A24.out).mono ?_); (case side1 => repeat (first | exact (Kd.C_below HR0_2.out HB.out) | (with_reducible refine Kd.C_alloc ?_ _) | (with_reducible refine Kd.C_drewN ?_ _) | (with_reducible refine Kd.C_drew ?_))); (case side2 => exact HC0_2.out); (case side3 => exact by (with_reducible repeat (first | refine blk_drewN ?_ _ | refine blk_drew ?_ | refine blk_alloc ?_ _)); exact BK118.out); rintro e w' ⟨rfl, ⟨nd, rfl⟩⟩; refine ⟨_, rfl, ?_⟩))
                go_ret
                exact ⟨by first | rfl | (simp [errW_none, errW_some] <;> rfl) | (simp [*, errW_none, errW_some] <;> rfl), by repeat (first | (with_reducible first | exact HB.out | apply below_alloc | apply pw_below_drewN | apply below_drew1 | refine below_set ?_ GE117.out | refine below_set ?_ GE118.out) | exact HB.out)⟩
  · rw [if_neg c4] at H
    have c4b0 : (t119 == 0) = false := beq_eq_false_iff_ne.mpr c4
    have c4b1 : (t119 != 0) = true := bne_iff_ne.mpr c4
    obtain rfl := Option.some.inj H
    go_enter Try.func20, Try.ntmps20
    go_wp2_with (first | ((with_reducible refine gate_dst (N := 2) rfl ?_); refine box_event ?hg (N := 2) ?hd (cs := #[.int .i32 a0_0, .int .u32 a0_1, .slice A0_2 l0_2.length c0_2]) (t := 27) ?hr ?_; (case hd => rfl); (case hg => rfl); (case hr => first | (go_simp; done) | (go_simp; rfl)); intro gb117 hg w32 hbox hb; have n0_ := Aside0.mk (below_step (by repeat (first | (with_reducible first | exact HB.out | apply below_alloc | apply pw_below_drewN | apply below_drew1) | exact HB.out)) hb); have n1_ := Aside0.mk (hbox); have n2_ := Aside0.mk ((by rw [hg]; exact (below_size (by repeat (first | (with_reducible first | exact HB.out | apply below_alloc | apply pw_below_drewN | apply below_drew1) | exact HB.out))) : w.heap.size ≤ gb117)); have n3_ := Aside0.mk ((by rw [hg]; exact (below_size (by repeat (first | (with_reducible first | exact HB.out | apply below_alloc | apply pw_below_drewN | apply below_drew1) | exact HB.out))) : w.heap.size ≤ gb117)); clear HB; have HB := n0_; have BK117 := n1_; have GW117 := n2_; have GE117 := n3_; clear n0_ n1_ n2_ n3_; clear hb hbox hg) | ((with_reducible refine gate_dst (N := 3) rfl ?_); refine box_event ?hg (N := 3) ?hd (cs := #[.int .i64 a1]) (t := 3) ?hr ?_; (case hd => rfl); (case hg => rfl); (case hr => first | (go_simp; done) | (go_simp; rfl)); intro gb118 hg w33 hbox hb; have n0_ := Aside0.mk (blk_below (g := gb117) (o := .cells #[.int .i32 a0_0, .int .u32 a0_1, .slice A0_2 l0_2.length c0_2] 27 (0, 0)) (by (with_reducible repeat (first | refine blk_drewN ?_ _ | refine blk_drew ?_ | refine blk_alloc ?_ _)); exact BK117.out) hb); have n1_ := Aside0.mk (below_step (by repeat (first | (with_reducible first | exact HB.out | apply below_alloc | apply pw_below_drewN | apply below_drew1 | refine below_set ?_ GE117.out) | exact HB.out)) hb); have n2_ := Aside0.mk (hbox); have n3_ := Aside0.mk ((by rw [hg]; exact (below_size (by repeat (first | (with_reducible first | exact HB.out | apply below_alloc | apply pw_below_drewN | apply below_drew1 | refine below_set ?_ GE117.out) | exact HB.out))) : w.heap.size ≤ gb118)); have n4_ := Aside0.mk ((by rw [hg]; exact (below_size (by repeat (first | (with_reducible first | exact HB.out | apply below_alloc | apply pw_below_drewN | apply below_drew1 | refine below_set ?_ GE117.out) | exact HB.out))) : w.heap.size ≤ gb118)); have n5_ := Aside0.mk ((by rw [hg]; exact Nat.ne_of_lt (blk_lt (g := gb117) (o := .cells #[.int .i32 a0_0, .int .u32 a0_1, .slice A0_2 l0_2.length c0_2] 27 (0, 0)) (by (with_reducible repeat (first | refine blk_drewN ?_ _ | refine blk_drew ?_ | refine blk_alloc ?_ _)); exact BK117.out)) : gb117 ≠ gb118)); have n6_ := Aside0.mk ((by rw [hg]; exact Nat.ne_of_gt (blk_lt (g := gb117) (o := .cells #[.int .i32 a0_0, .int .u32 a0_1, .slice A0_2 l0_2.length c0_2] 27 (0, 0)) (by (with_reducible repeat (first | refine blk_drewN ?_ _ | refine blk_drew ?_ | refine blk_alloc ?_ _)); exact BK117.out)) : gb118 ≠ gb117)); clear BK117; clear HB; have BK117 := n0_; have HB := n1_; have BK118 := n2_; have GW118 := n3_; have GE118 := n4_; have NB117_118 := n5_; have NB118_117 := n6_; clear n0_ n1_ n2_ n3_ n4_ n5_ n6_; clear hb hbox hg; have hnb34 := NB117_118.out; have hnc34 := NB118_117.out; have hcz35_0 : w33.cell? ⟨gb117, 0, none⟩ = some (.int .i32 a0_0) := (blk_cell BK117.out 0).trans rfl; have hcz35_1 : w33.cell? ⟨gb117, 1, none⟩ = some (.int .u32 a0_1) := (blk_cell BK117.out 1).trans rfl; have hcz35_2 : w33.cell? ⟨gb117, 2, none⟩ = some (.slice A0_2 l0_2.length c0_2) := (blk_cell BK117.out 2).trans rfl; have hfz35_0 := blk_frozen BK117.out 0; have hfz35_1 := blk_frozen BK117.out 1; have hfz35_2 := blk_frozen BK117.out 2; have hcz36_0 : w33.cell? ⟨gb118, 0, none⟩ = some (.int .i64 a1) := (blk_cell BK118.out 0).trans rfl; have hfz36_0 := blk_frozen BK118.out 0) | ((with_reducible refine gate_callee (f := 41) rfl ?_); refine goesL_ (some 11) rfl rfl Try.func41 (by kernel_rfl) rfl #[.int .i64 (l0_2.length : Int), .int .i64 a1] rfl (by (try simp only [List.map_toArray, List.map_cons, List.map_nil]); first | done | rfl | (simp only [List.length_drop, List.length_take]; rfl)) ?_; (with_reducible refine (group_many.calls (l0_2.length : Int) a1 t119 _ A3.out).mono ?_); rintro e w' ⟨rfl, ⟨nd, rfl⟩⟩; refine ⟨_, rfl, ?_⟩))
    go_ret
    exact ⟨by first | rfl | (simp [errW_none, errW_some] <;> rfl) | (simp [*, errW_none, errW_some] <;> rfl), by repeat (first | (with_reducible first | exact HB.out | apply below_alloc | apply pw_below_drewN | apply below_drew1 | refine below_set ?_ GE117.out | refine below_set ?_ GE118.out) | exact HB.out)⟩

/-! ### fix_cut: function 66 -/
def fix_cut.f (a0 : Int) (a1 : Int) (a2 : Int) : Option (Int) := some (wrap32 (mn (mx a0 a1) a2))
set_option maxHeartbeats 8000000 in
set_option maxRecDepth 100000 in
theorem fix_cut.calls (a0 : Int) (a1 : Int) (a2 : Int) (r : Int) (w : World) (h : fix_cut.f a0 a1 a2 = some r) :
    Calls Try.prog 66 #[.int .i64 a0, .int .i64 a1, .int .i64 a2] w fun e w' => e = .returned (.int .i32 r) ∧ Below w.heap.size w w' := by
  have HB := Aside0.mk (Below.refl w.heap.size w)
  have H : (some (wrap32 (mn (mx a0 a1) a2))) = some r := h
  clear h
  obtain ⟨ji4, hji4⟩ : ∃ j_ : Int, (mx a0 a1) = j_ := ⟨_, rfl⟩
  replace H : (some (wrap32 (mn (ji4) a2))) = some r := by first | (rw [hji4] at H; exact H) | (simp only [hji4] at H ⊢; exact H)
  have hji4_ : (if a0 < a1 then a1 else a0) = ji4 := hji4
  obtain ⟨ji5, hji5⟩ : ∃ j_ : Int, (mn (ji4) a2) = j_ := ⟨_, rfl⟩
  replace H : (some (wrap32 (ji5))) = some r := by first | (rw [hji5] at H; exact H) | (simp only [hji5] at H ⊢; exact H)
  have hji5_ : (if a2 < (ji4) then a2 else (ji4)) = ji5 := hji5
  obtain rfl := Option.some.inj H
  go_enter Try.func66, Try.ntmps66
  go_wp2
  go_ret
  exact ⟨by first | rfl | (simp [errW_none, errW_some] <;> rfl) | (simp only [← hji4, ← hji5]; first | rfl | (simp [errW_none, errW_some] <;> rfl)) | (simp [*, errW_none, errW_some] <;> rfl), by repeat (first | (with_reducible first | exact HB.out | apply below_alloc | apply pw_below_drewN | apply below_drew1) | exact HB.out)⟩

/-! ### fix_Wide: function 52 -/
def fix_Wide.f (a0 : Int) : Option (Int) := (fix_cut.f a0 (-2147483648) 2147483647).bind fun t122 => (some t122)
set_option maxHeartbeats 8000000 in
set_option maxRecDepth 100000 in
theorem fix_Wide.calls (a0 : Int) (r : Int) (w : World) (h : fix_Wide.f a0 = some r) :
    Calls Try.prog 52 #[.int .i64 a0] w fun e w' => e = .returned (.int .i32 r) ∧ Below w.heap.size w w' := by
  have HB := Aside0.mk (Below.refl w.heap.size w)
  have H : ((fix_cut.f a0 (-2147483648) 2147483647).bind fun t122 => (some t122)) = some r := h
  clear h
  replace H := Option.bind_eq_some_iff.mp H
  obtain ⟨t122, A20, H⟩ := H
  replace H : (some t122) = some r := H
  have A2 := Aside0.mk A20
  clear A20
  obtain rfl := Option.some.inj H
  go_enter Try.func52, Try.ntmps52
  go_wp2_with (first | ((with_reducible refine gate_callee (f := 66) rfl ?_); refine goesL_ (some 4) rfl rfl Try.func66 (by kernel_rfl) rfl #[.int .i64 a0, .int .i64 (-2147483648), .int .i64 2147483647] rfl (by (try simp only [List.map_toArray, List.map_cons, List.map_nil]); first | done | rfl | (simp only [List.length_drop, List.length_take]; rfl)) ?_; (with_reducible refine (fix_cut.calls a0 (-2147483648) 2147483647 t122 _ A2.out).mono ?_); rintro e w3 ⟨rfl, hb⟩; refine ⟨_, rfl, ?_⟩; have n0_ := Aside0.mk (below_step (by repeat (first | (with_reducible first | exact HB.out | apply below_alloc | apply pw_below_drewN | apply below_drew1) | exact HB.out)) hb); clear HB; have HB := n0_; clear n0_; (try clear hb); (try clear hb2); (try clear hk); (try clear hi)))
  go_ret
  exact ⟨by first | rfl | (simp [errW_none, errW_some] <;> rfl) | (simp [*, errW_none, errW_some] <;> rfl), by repeat (first | (with_reducible first | exact HB.out | apply below_alloc | apply pw_below_drewN | apply below_drew1) | exact HB.out)⟩

/-! ### group_One: function 26 -/
def group_One.f (a0_0 : Int) (a0_1 : Int) (l0_2 : List Int) (a1 : Int) : Option (Int) := (fix_Wide.f (wrap64 ((wrap64 (a0_0)) + (wrap64 (a1 * (wrap64 (a0_1))))))).bind fun t124 => (some t124)
set_option maxHeartbeats 8000000 in
set_option maxRecDepth 100000 in
theorem group_One.calls (a0_0 : Int) (a0_1 : Int) (A0_2 : Option Addr) (c0_2 : Nat) (l0_2 : List Int) (a1 : Int) (r : Int) (w : World) (hr0_2 : Kd.C (Kd.int .i64) w A0_2 l0_2.length l0_2) (hc0_2 : l0_2.length ≤ c0_2) (h : group_One.f a0_0 a0_1 l0_2 a1 = some r) :
    Calls Try.prog 26 #[.agg #[.int .i32 a0_0, .int .u32 a0_1, .slice A0_2 l0_2.length c0_2], .int .i64 a1] w fun e w' => e = .returned (.int .i32 r) ∧ Below w.heap.size w w' := by
  have hu27 := Try.underlying27
  have HR0_2 := Aside0.mk hr0_2
  have HC0_2 := Aside0.mk hc0_2
  clear hr0_2 hc0_2
  have HB := Aside0.mk (Below.refl w.heap.size w)
  have H : ((fix_Wide.f (wrap64 ((wrap64 (a0_0)) + (wrap64 (a1 * (wrap64 (a0_1))))))).bind fun t124 => (some t124)) = some r := h
  clear h
  replace H := Option.bind_eq_some_iff.mp H
  obtain ⟨t124, A30, H⟩ := H
  replace H : (some t124) = some r := H
  have A3 := Aside0.mk A30
  clear A30
  obtain rfl := Option.some.inj H
  go_enter Try.func26, Try.ntmps26
  go_wp2_with (first | ((with_reducible refine gate_dst (N := 2) rfl ?_); refine box_event ?hg (N := 2) ?hd (cs := #[.int .i32 a0_0, .int .u32 a0_1, .slice A0_2 l0_2.length c0_2]) (t := 27) ?hr ?_; (case hd => rfl); (case hg => rfl); (case hr => first | (go_simp; done) | (go_simp; rfl)); intro gb123 hg w4 hbox hb; have n0_ := Aside0.mk (below_step (by repeat (first | (with_reducible first | exact HB.out | apply below_alloc | apply pw_below_drewN | apply below_drew1) | exact HB.out)) hb); have n1_ := Aside0.mk (hbox); have n2_ := Aside0.mk ((by rw [hg]; exact (below_size (by repeat (first | (with_reducible first | exact HB.out | apply below_alloc | apply pw_below_drewN | apply below_drew1) | exact HB.out))) : w.heap.size ≤ gb123)); have n3_ := Aside0.mk ((by rw [hg]; exact (below_size (by repeat (first | (with_reducible first | exact HB.out | apply below_alloc | apply pw_below_drewN | apply below_drew1) | exact HB.out))) : w.heap.size ≤ gb123)); clear HB; have HB := n0_; have BK123 := n1_; have GW123 := n2_; have GE123 := n3_; clear n0_ n1_ n2_ n3_; clear hb hbox hg; have hcz5_0 : w4.cell? ⟨gb123, 0, none⟩ = some (.int .i32 a0_0) := (blk_cell BK123.out 0).trans rfl; have hcz5_1 : w4.cell? ⟨gb123, 1, none⟩ = some (.int .u32 a0_1) := (blk_cell BK123.out 1).trans rfl; have hcz5_2 : w4.cell? ⟨gb123, 2, none⟩ = some (.slice A0_2 l0_2.length c0_2) := (blk_cell BK123.out 2).trans rfl; have hfz5_0 := blk_frozen BK123.out 0; have hfz5_1 := blk_frozen BK123.out 1; have hfz5_2 := blk_frozen BK123.out 2) | ((with_reducible refine gate_callee (f := 52) rfl ?_); refine goesL_ (some 14) rfl rfl Try.func52 (by kernel_rfl) rfl #[.int .i64 (wrap64 ((wrap64 (a0_0)) + (wrap64 (a1 * (wrap64 (a0_1))))))] rfl (by (try simp only [List.map_toArray, List.map_cons, List.map_nil]); first | done | rfl | (simp only [List.length_drop, List.length_take]; rfl)) ?_; (with_reducible refine (fix_Wide.calls (wrap64 ((wrap64 (a0_0)) + (wrap64 (a1 * (wrap64 (a0_1)))))) t124 _ A3.out).mono ?_); rintro e w6 ⟨rfl, hb⟩; refine ⟨_, rfl, ?_⟩; have n0_ := Aside0.mk (blk_below (g := gb123) (o := .cells #[.int .i32 a0_0, .int .u32 a0_1, .slice A0_2 l0_2.length c0_2] 27 (0, 0)) (by (with_reducible repeat (first | refine blk_drewN ?_ _ | refine blk_drew ?_ | refine blk_alloc ?_ _)); exact BK123.out) hb); have n1_ := Aside0.mk (below_step (by repeat (first | (with_reducible first | exact HB.out | apply below_alloc | apply pw_below_drewN | apply below_drew1 | refine below_set ?_ GE123.out) | exact HB.out)) hb); clear BK123; clear HB; have BK123 := n0_; have HB := n1_; clear n0_ n1_; (try clear hb); (try clear hb2); (try clear hk); (try clear hi)))
  go_ret
  exact ⟨by first | rfl | (simp [errW_none, errW_some] <;> rfl) | (simp [*, errW_none, errW_some] <;> rfl), by repeat (first | (with_reducible first | exact HB.out | apply below_alloc | apply pw_below_drewN | apply below_drew1 | refine below_set ?_ GE123.out) | exact HB.out)⟩

/-! ### group_Back: function 22 -/
def group_Back.l0 : Nat → List Int → List Int → Int → Int → Int → Int → List Int → Option (List Int)
  | 0, _, _, _, _, _, _, _ => none
  | k + 1, x3, x11, x12, x13, x126000, x126001, x126002 => if x13 < x12 then (if 0 ≤ x13 then (if x13 < (x11.length : Int) then ((group_One.f x126000 x126001 x126002 (rd x11 x13)).bind fun t130 => (if x13 < (x3.length : Int) then (group_Back.l0 k (x3.set (x13 : Int).toNat t130) x11 x12 (wrap64 (x13 + 1)) x126000 x126001 x126002) else (none))) else (none)) else (none)) else (some x3)
def group_Back.f (k : Nat) (a0_0 : Int) (a0_1 : Int) (l0_2 : List Int) : Option (List Int) := if 0 ≤ (l0_2.length : Int) then (if ((l0_2.length : Int) : Int).toNat ≤ 70368744177664 then (group_Back.l0 k (List.replicate ((l0_2.length : Int) : Int).toNat 0) l0_2 (l0_2.length : Int) 0 a0_0 a0_1 l0_2) else (none)) else (none)
theorem group_Back.mono_l : ∀ k, (∀ y0 y1 y2 y3 y4 y5 y6, LeO (group_Back.l0 k y0 y1 y2 y3 y4 y5 y6) (group_Back.l0 (k + 1) y0 y1 y2 y3 y4 y5 y6))
  | 0 => fun _ _ _ _ _ _ _ r h => by simp [group_Back.l0] at h
  | k + 1 => by
    have ih0 := group_Back.mono_l k
    · intro y0 y1 y2 y3 y4 y5 y6
      unfold group_Back.l0
      repeat' first
      | (with_reducible exact ih0 _ _ _ _ _ _ _)
      | (with_reducible exact LeO.refl _)
      | (with_reducible exact LeO.none _)
      | (with_reducible refine LeO.ite ?_ ?_)
      | (with_reducible refine LeO.bind ?_ (fun _ => ?_))
      | exact ih0 _ _ _ _ _ _ _
      | exact LeO.none _
      | refine LeO.ite ?_ ?_
      | refine LeO.bind ?_ (fun _ => ?_)
theorem group_Back.mono : ∀ a0 a1 a2 k, LeO (group_Back.f k a0 a1 a2) (group_Back.f (k + 1) a0 a1 a2) := by
  intro a0 a1 a2 k
  have ih0 := group_Back.mono_l k
  unfold group_Back.f
  repeat' first
      | (with_reducible exact ih0 _ _ _ _ _ _ _)
      | (with_reducible exact LeO.refl _)
      | (with_reducible exact LeO.none _)
      | (with_reducible refine LeO.ite ?_ ?_)
      | (with_reducible refine LeO.bind ?_ (fun _ => ?_))
      | exact ih0 _ _ _ _ _ _ _
      | exact LeO.none _
      | refine LeO.ite ?_ ?_
      | refine LeO.bind ?_ (fun _ => ?_)
set_option maxHeartbeats 8000000 in
set_option maxRecDepth 100000 in
theorem group_Back.calls (k : Nat) (a0_0 : Int) (a0_1 : Int) (A0_2 : Option Addr) (c0_2 : Nat) (l0_2 : List Int) (r : List Int) (w : World) (hr0_2 : Kd.C (Kd.int .i64) w A0_2 l0_2.length l0_2) (hc0_2 : l0_2.length ≤ c0_2) (h : group_Back.f k a0_0 a0_1 l0_2 = some r) :
    Calls Try.prog 22 #[.agg #[.int .i32 a0_0, .int .u32 a0_1, .slice A0_2 l0_2.length c0_2]] w fun e w' => ∃ v0_ : Value, e = .returned (v0_) ∧ Kd.R (Kd.int .i32) 21 w' w.heap.size (fun _ => True) v0_ r ∧ Below w.heap.size w w' := by
  have hu27 := Try.underlying27
  have HR0_2 := Aside0.mk hr0_2
  have HC0_2 := Aside0.mk hc0_2
  clear hr0_2 hc0_2
  have HB := Aside0.mk (Below.refl w.heap.size w)
  have H : (if 0 ≤ (l0_2.length : Int) then (if ((l0_2.length : Int) : Int).toNat ≤ 70368744177664 then (group_Back.l0 k (List.replicate ((l0_2.length : Int) : Int).toNat 0) l0_2 (l0_2.length : Int) 0 a0_0 a0_1 l0_2) else (none)) else (none)) = some r := h
  clear h
  by_cases c2 : 0 ≤ (l0_2.length : Int)
  · rw [if_pos c2] at H
    have c2b0 := eq_true c2
    have c2b1 : decide (0 ≤ (l0_2.length : Int)) = true := decide_eq_true c2
    clear c2
    by_cases c3 : ((l0_2.length : Int) : Int).toNat ≤ 70368744177664
    · rw [if_pos c3] at H
      have c3b0 := eq_true c3
      have c3b1 : decide (((l0_2.length : Int) : Int).toNat ≤ 70368744177664) = true := decide_eq_true c3
      clear c3
      obtain ⟨y126, hy126⟩ : ∃ y_ : List Int, y_ = (List.replicate ((l0_2.length : Int) : Int).toNat 0) := ⟨_, rfl⟩
      replace H : (group_Back.l0 k y126 l0_2 (l0_2.length : Int) 0 a0_0 a0_1 l0_2) = some r := by first | (rw [hy126]; with_reducible exact H) | (have H2_ := (Option.bind_some _ _).symm.trans H; rw [hy126]; with_reducible exact H2_) | (have H2_ := (Option.bind_some _ _).symm.trans H; with_reducible exact H2_) | with_reducible exact H | (rw [hy126]; exact H) | exact H
      have Ny126 := Aside0.mk hy126
      clear hy126
      have H' := Aside0.mk H
      clear H
      go_enter Try.func22, Try.ntmps22
      go_wp2_with (first | ((with_reducible refine gate_dst (N := 1) rfl ?_); refine box_event ?hg (N := 1) ?hd (cs := #[.int .i32 a0_0, .int .u32 a0_1, .slice A0_2 l0_2.length c0_2]) (t := 27) ?hr ?_; (case hd => rfl); (case hg => rfl); (case hr => first | (go_simp; done) | (go_simp; rfl)); intro gb125 hg w4 hbox hb; have n0_ := Aside0.mk (below_step (by repeat (first | (with_reducible first | exact HB.out | apply below_alloc | apply pw_below_drewN | apply below_drew1) | exact HB.out)) hb); have n1_ := Aside0.mk (hbox); have n2_ := Aside0.mk ((by rw [hg]; exact (below_size (by repeat (first | (with_reducible first | exact HB.out | apply below_alloc | apply pw_below_drewN | apply below_drew1) | exact HB.out))) : w.heap.size ≤ gb125)); have n3_ := Aside0.mk ((by rw [hg]; exact (below_size (by repeat (first | (with_reducible first | exact HB.out | apply below_alloc | apply pw_below_drewN | apply below_drew1) | exact HB.out))) : w.heap.size ≤ gb125)); clear HB; have HB := n0_; have BK125 := n1_; have GW125 := n2_; have GE125 := n3_; clear n0_ n1_ n2_ n3_; clear hb hbox hg; have hcz5_0 : w4.cell? ⟨gb125, 0, none⟩ = some (.int .i32 a0_0) := (blk_cell BK125.out 0).trans rfl; have hcz5_1 : w4.cell? ⟨gb125, 1, none⟩ = some (.int .u32 a0_1) := (blk_cell BK125.out 1).trans rfl; have hcz5_2 : w4.cell? ⟨gb125, 2, none⟩ = some (.slice A0_2 l0_2.length c0_2) := (blk_cell BK125.out 2).trans rfl; have hfz5_0 := blk_frozen BK125.out 0; have hfz5_1 := blk_frozen BK125.out 1; have hfz5_2 := blk_frozen BK125.out 2) | ((with_reducible refine gate_dst (N := 9) rfl ?_); refine Kd.R_make (Kd.int .i32) _ 21 rfl (N := 9) rfl 22 _ _ rfl (l0_2.length : Int) rfl rfl Try.underlying22 (.int .i32 0) 4 info21 rfl (by decide) (by omega) 0 (ok := fun _ => True) (okp := fun _ => True) rfl (fun _ hk => hk) trivial (of_decide_eq_true (by first | (with_reducible assumption) | assumption)) (Nat.le_trans (Nat.mul_le_mul_right _ (of_decide_eq_true (by first | (with_reducible assumption) | assumption) : (l0_2.length : Int).toNat ≤ 70368744177664)) (by omega)) (Below.refl _ _) (Nat.le_refl _) ?_; intro v127 w6 ho7 hb hg_ hnew_; clear hg_ hnew_; (first | rw [← Ny126.out] at ho7 | (simp only [Int.reduceToNat] at ho7; rw [← Ny126.out] at ho7)); have n0_ := Aside0.mk (Kd.R_lower ho7 (below_size (by repeat (first | (with_reducible first | exact HB.out | apply below_alloc | apply pw_below_drewN | apply below_drew1 | refine below_set ?_ GE125.out) | exact HB.out)))); have n1_ := Aside0.mk (blk_below (g := gb125) (o := .cells #[.int .i32 a0_0, .int .u32 a0_1, .slice A0_2 l0_2.length c0_2] 27 (0, 0)) (by (with_reducible repeat (first | refine blk_drewN ?_ _ | refine blk_drew ?_ | refine blk_alloc ?_ _)); exact BK125.out) hb); have n2_ := Aside0.mk (below_step (by repeat (first | (with_reducible first | exact HB.out | apply below_alloc | apply pw_below_drewN | apply below_drew1 | refine below_set ?_ GE125.out) | exact HB.out)) hb); clear BK125; clear HB; have HO128 := n0_; have BK125 := n1_; have HB := n2_; clear n0_ n1_ n2_; clear hb ho7; have hcz8_0 : w6.cell? ⟨gb125, 0, none⟩ = some (.int .i32 a0_0) := (blk_cell BK125.out 0).trans rfl; have hcz8_1 : w6.cell? ⟨gb125, 1, none⟩ = some (.int .u32 a0_1) := (blk_cell BK125.out 1).trans rfl; have hcz8_2 : w6.cell? ⟨gb125, 2, none⟩ = some (.slice A0_2 l0_2.length c0_2) := (blk_cell BK125.out 2).trans rfl; have hfz8_0 := blk_frozen BK125.out 0; have hfz8_1 := blk_frozen BK125.out 1; have hfz8_2 := blk_frozen BK125.out 2))
      go_loopg [13] k (fun kq v13 w' => ∃ (x3_1 : List Int) (x13_1 : Int), v13 = .int .i64 x13_1 ∧ Aside0 (group_Back.l0 kq x3_1 l0_2 (l0_2.length : Int) x13_1 a0_0 a0_1 l0_2 = some r) ∧ Aside0 (kq ≤ k) ∧ Aside0 (Kd.R (Kd.int .i32) 21 w' w.heap.size (fun _ => True) v127 x3_1) ∧ Aside0 (w'.heap[gb125]? = some (.cells #[.int .i32 a0_0, .int .u32 a0_1, (.slice A0_2 l0_2.length c0_2)] 27 (0, 0))) ∧ Aside0 (Below w.heap.size w w'))
      case atStart => exact ⟨(y126), (0), (by first | rfl | (simp; done) | (simp [*]; done)), H', ⟨Nat.le_refl _⟩, ⟨by (with_reducible repeat (first | apply Kd.R_alloc | apply Kd.R_drewN | apply Kd.R_drew)); exact HO128.out⟩, ⟨by (with_reducible repeat (first | refine blk_drewN ?_ _ | refine blk_drew ?_ | refine blk_alloc ?_ _)); exact BK125.out⟩, ⟨by repeat (first | (with_reducible first | exact HB.out | apply below_alloc | apply pw_below_drewN | apply below_drew1 | refine below_set ?_ GE125.out) | exact HB.out)⟩⟩
      case round =>
        clear H'
        try clear c2
        try clear c2b0
        try clear c2b1
        try clear p2
        try clear c3
        try clear c3b0
        try clear c3b1
        try clear hcz5_0
        try clear hcz5_1
        try clear hcz5_2
        try clear hcz8_0
        try clear hcz8_1
        try clear hcz8_2
        try clear hfz5_0
        try clear hfz5_1
        try clear hfz5_2
        try clear hfz8_0
        try clear hfz8_1
        try clear hfz8_2
        obtain ⟨x3_1, x13_1, rfl, HA, HK1, HO_3, BK125, HB⟩ := hrel
        cases gk with
        | zero => exact absurd HA.out (by simp [group_Back.l0])
        | succ k1 =>
          have H := HA.out
          clear HA
          simp only [group_Back.l0] at H
          by_cases c9 : x13_1 < (l0_2.length : Int)
          · rw [if_pos c9] at H
            have c9b0 : decide (x13_1 < (l0_2.length : Int)) = true := decide_eq_true c9
            clear c9
            by_cases c10 : 0 ≤ x13_1
            · rw [if_pos c10] at H
              have c10b0 : decide (0 ≤ x13_1) = true := decide_eq_true c10
              clear c10
              by_cases c11 : x13_1 < (l0_2.length : Int)
              · rw [if_pos c11] at H
                have c11b0 : decide (x13_1 < (l0_2.length : Int)) = true := decide_eq_true c11
                clear c11
                replace H := Option.bind_eq_some_iff.mp H
                obtain ⟨t130, A120, H⟩ := H
                replace H : (if x13_1 < (x3_1.length : Int) then (group_Back.l0 k1 (x3_1.set (x13_1 : Int).toNat t130) l0_2 (l0_2.length : Int) (wrap64 (x13_1 + 1)) a0_0 a0_1 l0_2) else (none)) = some r := H
                have A12 := Aside0.mk A120
                clear A120
                by_cases c13 : x13_1 < (x3_1.length : Int)
                · rw [if_pos c13] at H
                  have c13b0 : decide (x13_1 < (x3_1.length : Int)) = true := decide_eq_true c13
                  clear c13
                  obtain ⟨y131, hy131⟩ : ∃ y_ : List Int, y_ = (x3_1.set (x13_1 : Int).toNat t130) := ⟨_, rfl⟩
                  replace H : (group_Back.l0 k1 y131 l0_2 (l0_2.length : Int) (wrap64 (x13_1 + 1)) a0_0 a0_1 l0_2) = some r := by first | (rw [hy131]; with_reducible exact H) | (have H2_ := (Option.bind_some _ _).symm.trans H; rw [hy131]; with_reducible exact H2_) | (have H2_ := (Option.bind_some _ _).symm.trans H; with_reducible exact H2_) | with_reducible exact H | (rw [hy131]; exact H) | exact H
                  have Ny131 := Aside0.mk hy131
                  clear hy131
                  have H' := Aside0.mk H
                  clear H
                  have p129 : 0 ≤ (x13_1 : Int) := of_decide_eq_true (by first | (with_reducible assumption) | assumption)
                  have q129 : x13_1 < (l0_2.length : Int) := of_decide_eq_true (by first | (with_reducible assumption) | assumption)
                  obtain ⟨ad129, e129, hx129_0⟩ := Kd.at_int HR0_2.out x13_1 p129 q129
                  cases e129
                  replace hx129_0 := (HB.out.cell (World.block_lt_of_cell? w _ hx129_0)).trans hx129_0
                  replace p129 := eq_true p129
                  replace q129 := eq_true q129
                  have hcz15_0 : wr.cell? ⟨gb125, 0, none⟩ = some (.int .i32 a0_0) := (blk_cell BK125.out 0).trans rfl
                  have hcz15_1 : wr.cell? ⟨gb125, 1, none⟩ = some (.int .u32 a0_1) := (blk_cell BK125.out 1).trans rfl
                  have hcz15_2 : wr.cell? ⟨gb125, 2, none⟩ = some (.slice (some ad129) l0_2.length c0_2) := (blk_cell BK125.out 2).trans rfl
                  have hfz15_0 := blk_frozen BK125.out 0
                  have hfz15_1 := blk_frozen BK125.out 1
                  have hfz15_2 := blk_frozen BK125.out 2
                  go_wp2_with (first | ((with_reducible refine gate_callee (f := 26) rfl ?_); refine goesL_ (some 22) rfl rfl Try.func26 (by kernel_rfl) rfl #[.agg #[.int .i32 a0_0, .int .u32 a0_1, .slice (some ad129) l0_2.length c0_2], .int .i64 (rd l0_2 x13_1)] rfl (by (try simp only [List.map_toArray, List.map_cons, List.map_nil]); first | done | rfl | (simp only [List.length_drop, List.length_take]; rfl)) ?_; (with_reducible refine (group_One.calls a0_0 a0_1 _ _ l0_2 (rd l0_2 x13_1) t130 _ ?side1 ?side2 A12.out).mono ?_); (case side1 => repeat (first | exact (Kd.C_below HR0_2.out HB.out) | (with_reducible refine Kd.C_alloc ?_ _) | (with_reducible refine Kd.C_drewN ?_ _) | (with_reducible refine Kd.C_drew ?_))); (case side2 => exact HC0_2.out); rintro e w16 ⟨rfl, hb⟩; refine ⟨_, rfl, ?_⟩; have n0_ := Aside0.mk (Kd.R_below (by (with_reducible repeat (first | apply Kd.R_alloc | apply Kd.R_drewN | apply Kd.R_drew)); exact HO_3.out) hb); have n1_ := Aside0.mk (blk_below (g := gb125) (o := .cells #[.int .i32 a0_0, .int .u32 a0_1, .slice (some ad129) l0_2.length c0_2] 27 (0, 0)) (by (with_reducible repeat (first | refine blk_drewN ?_ _ | refine blk_drew ?_ | refine blk_alloc ?_ _)); exact BK125.out) hb); have n2_ := Aside0.mk (below_step (by repeat (first | (with_reducible first | exact HB.out | apply below_alloc | apply pw_below_drewN | apply below_drew1 | refine below_set ?_ GE125.out) | exact HB.out)) hb); clear HO_3; clear BK125; clear HB; have HO_3 := n0_; have BK125 := n1_; have HB := n2_; clear n0_ n1_ n2_; (try clear hb); (try clear hb2); (try clear hk); (try clear hi); have p14 : 0 ≤ (x13_1 : Int) := of_decide_eq_true (by first | (with_reducible assumption) | assumption); have q14 : (x13_1 : Int) < ((x3_1.length : Int) : Int) := of_decide_eq_true (by first | (with_reducible assumption) | assumption); obtain ⟨go14, co14, eo14, gb14, gl14, cl14, HG14⟩ := Kd.R_form HO_3.out (by omega); (first | cases eo14 | (injection eo14 with ea_ en_ ec_; (first | subst ea_ | (injection ea_ with ea_; subst ea_)); subst ec_; clear en_)); have GB14 := Aside0.mk gb14; have GG14 := Aside0.mk HG14; clear gb14 gl14 HG14; obtain ⟨hx14_0, hf14_0⟩ := Kd.R_celln 0 HO_3.out (x13_1 : Int) p14 q14; replace p14 := eq_true p14; replace q14 := eq_true q14; obtain ⟨hy17_, hz17_⟩ := Kd.R_celln 0 HO_3.out (x13_1 : Int) (of_decide_eq_true (by first | (with_reducible assumption) | assumption)) (of_decide_eq_true (by first | (with_reducible assumption) | assumption)); have HP17 := Kd.R_putg HO_3.out (x13_1 : Int) t130) | ((with_reducible refine gate_store (t := 21) (p := 23) rfl ?_); refine store_event (t := 21) (p := 23) (v := ?vo_w18) (w1 := (w16.setCell ⟨go14, (x13_1 : Int).toNat, none⟩ (.int .i32 t130))) ?hg ?ho ?hn ?hr ?_; (case ho => rfl); (case hg => rfl); (case hn => rfl); (case hr => first | (go_simp; done) | (go_simp; rfl)); intro w18 hw; have hg : w16.grownBy w18 (some go14) := (by rw [hw]; exact HP17.2); have hp_ : Kd.R (Kd.int .i32) 21 w18 w.heap.size (fun _ => True) (.slice (some ⟨go14, 0, none⟩) x3_1.length co14) y131 := (by rw [hw, Ny131.out]; exact HP17.1); clear HP17; have n0_ := Aside0.mk (hp_); have n1_ := Aside0.mk (blk_grown (g := gb125) (o := .cells #[.int .i32 a0_0, .int .u32 a0_1, .slice (some ad129) l0_2.length c0_2] 27 (0, 0)) (by (with_reducible repeat (first | refine blk_drewN ?_ _ | refine blk_drew ?_ | refine blk_alloc ?_ _)); exact BK125.out) hg (Kd.R_ne HO_3.out BK125.out (by decide))); have n2_ := Aside0.mk ((by rw [hw]; exact below_set (HB.out) GB14.out : Below w.heap.size w w18)); clear HO_3; clear BK125; clear HB; have HO_3 := n0_; have BK125 := n1_; have HB := n2_; clear n0_ n1_ n2_; clear hg hw hp_))
                  go_roundg k1
                  case measure => have := HK1.out; omega
                  case rel => exact ⟨(y131), (wrap64 (x13_1 + 1)), (by first | rfl | (simp; done) | (simp [*]; done)), H', ⟨by have := HK1.out; omega⟩, ⟨by (with_reducible repeat (first | apply Kd.R_alloc | apply Kd.R_drewN | apply Kd.R_drew)); exact HO_3.out⟩, ⟨by (with_reducible repeat (first | refine blk_drewN ?_ _ | refine blk_drew ?_ | refine blk_alloc ?_ _)); exact BK125.out⟩, ⟨by repeat (first | (with_reducible first | exact HB.out | apply below_alloc | apply pw_below_drewN | apply below_drew1 | refine below_set ?_ GE125.out) | exact HB.out)⟩⟩
                · rw [if_neg c13] at H
                  exact absurd H (by simp)
              · rw [if_neg c11] at H
                exact absurd H (by simp)
            · rw [if_neg c10] at H
              exact absurd H (by simp)
          · rw [if_neg c9] at H
            have c9b0 : decide (x13_1 < (l0_2.length : Int)) = false := decide_eq_false c9
            clear c9
            obtain rfl := Option.some.inj H
            go_wp2
            go_ret
            exact ⟨_, by first | rfl | (simp [errW_none, errW_some] <;> rfl) | (simp [*, errW_none, errW_some] <;> rfl), by (with_reducible repeat (first | apply Kd.R_alloc | apply Kd.R_drewN | apply Kd.R_drew)); exact HO_3.out, by repeat (first | (with_reducible first | exact HB.out | apply below_alloc | apply pw_below_drewN | apply below_drew1 | refine below_set ?_ GE125.out) | exact HB.out)⟩
    · rw [if_neg c3] at H
      exact absurd H (by simp)
  · rw [if_neg c2] at H
    exact absurd H (by simp)

end Go.Proofs.Ytggoddiiglkpiaa.PGroupFlat
