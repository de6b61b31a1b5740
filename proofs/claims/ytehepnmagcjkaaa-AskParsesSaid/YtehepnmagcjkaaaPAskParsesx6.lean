-- Written by a program of this session (wip/tools/mkprint.py over the kit's print).
import Derived.Test.YtehepnmagcjkaaaPAskParsesx0
namespace Go.Proofs.Ytehepnmagcjkaaa.PAskParses
open Go.RowKit Go.Proofs.YtehepnmagcjkaaaW.PrintWords Go.Proofs.YtehepnmagcjkaaaW.PrintLast Go.Proofs.YtehepnmagcjkaaaW.PrintMore
attribute [local go_sem] max2_int min2_int max_two min_two max_three min_three max_four min_four   -- for this text's walks alone
set_option linter.unusedVariables false
set_option linter.unusedSimpArgs false

/-! ### credenzaref22_Same: function 20 -/
def credenzaref22_Same.f (a0_0 : Int) (a0_1 : Int) (l0_2 : List Int) (a0_3 : Int) (a0_4 : Int) (a0_5 : Int) (a0_6 : Int) (a0_7 : Int) (a0_8 : Int) (a1_0 : Int) (a1_1 : Int) (l1_2 : List Int) (a1_3 : Int) (a1_4 : Int) (a1_5 : Int) (a1_6 : Int) (a1_7 : Int) (a1_8 : Int) : Option Bool := some (a0_0 == a1_0 && (a0_1 == a1_1 && (a0_8 == a1_8 && (a0_3 == a1_3 && (a0_4 == a1_4 && (a0_5 == a1_5 && (a0_6 == a1_6 && (a0_7 == a1_7 && l0_2 == l1_2))))))))
theorem credenzaref22_Same.take_eq {l m : List Int} (h : l.length = m.length) {n : Nat} (hn : n < l.length) (he : l.take n = m.take n) : (l.take (n + 1) = m.take (n + 1)) ↔ rd l (n : Int) = rd m (n : Int) := by
 have hm : n < m.length := by omega
 have e1 : rd l (n : Int) = l[n] := by simp [rd, List.getElem?_eq_getElem hn]
 have e2 : rd m (n : Int) = m[n] := by simp [rd, List.getElem?_eq_getElem hm]
 rw [List.take_succ_eq_append_getElem hn, List.take_succ_eq_append_getElem hm, he, e1, e2]
 constructor
 ·
  intro h
  have := List.append_cancel_left h
  simpa using this
 ·
  intro h
  rw [h]
set_option maxHeartbeats 8000000 in
set_option maxRecDepth 100000 in
theorem credenzaref22_Same.calls (a0_0 : Int) (a0_1 : Int) (A0_2 : Option Addr) (c0_2 : Nat) (l0_2 : List Int) (a0_3 : Int) (a0_4 : Int) (a0_5 : Int) (a0_6 : Int) (a0_7 : Int) (a0_8 : Int) (a1_0 : Int) (a1_1 : Int) (A1_2 : Option Addr) (c1_2 : Nat) (l1_2 : List Int) (a1_3 : Int) (a1_4 : Int) (a1_5 : Int) (a1_6 : Int) (a1_7 : Int) (a1_8 : Int) (r : Bool) (w : World) (hr0_2 : Kd.C (Kd.int .i64) w A0_2 l0_2.length l0_2) (hc0_2 : l0_2.length ≤ c0_2) (hr1_2 : Kd.C (Kd.int .i64) w A1_2 l1_2.length l1_2) (hc1_2 : l1_2.length ≤ c1_2) (h : credenzaref22_Same.f a0_0 a0_1 l0_2 a0_3 a0_4 a0_5 a0_6 a0_7 a0_8 a1_0 a1_1 l1_2 a1_3 a1_4 a1_5 a1_6 a1_7 a1_8 = some r) :
  Calls Try.prog 20 #[.agg #[.int .i64 a0_0, .int .u32 a0_1, .slice A0_2 l0_2.length c0_2, .int .i64 a0_3, .int .i64 a0_4, .int .i32 a0_5, .int .i64 a0_6, .int .u64 a0_7, .int .i64 a0_8], .agg #[.int .i64 a1_0, .int .u32 a1_1, .slice A1_2 l1_2.length c1_2, .int .i64 a1_3, .int .i64 a1_4, .int .i32 a1_5, .int .i64 a1_6, .int .u64 a1_7, .int .i64 a1_8]] w fun e w' => e = .returned (.bool r) ∧ Below w.heap.size w w' := by
 have HR0 := Aside0.mk hr0_2
 have HR1 := Aside0.mk hr1_2
 have HF := Aside0.mk (Option.some.inj h)
 clear h hr0_2 hr1_2 hc0_2 hc1_2
 by_cases e0 : a0_0 = a1_0
 case neg =>
  have d0 : (a0_0 != a1_0) = true := bne_iff_ne.2 e0
  have HE := Aside0.mk (show false = r from by rw [← HF.out, show (a0_0 == a1_0) = false from beq_eq_false_iff_ne.2 e0]; simp)
  clear e0
  go_enter Try.func20, Try.ntmps20
  go_wp2
  go_region
  trace "HERE"
  all_goals (go_wp2; go_ret; exact ⟨by rw [← HE.out]; rfl, by repeat (first | exact Below.refl _ _ | apply below_alloc | apply below_drew1 | apply pw_below_drewN | refine below_set ?_ (by simp <;> omega))⟩)
 have d0 : (a0_0 != a1_0) = false := bne_eq_false_iff_eq.2 e0
 have E0 := Aside0.mk (show (a0_0 == a1_0) = true from beq_iff_eq.2 e0)
 clear e0
 by_cases e1 : a0_1 = a1_1
 case neg =>
  have d1 : (a0_1 != a1_1) = true := bne_iff_ne.2 e1
  have HE := Aside0.mk (show false = r from by rw [← HF.out, show (a0_1 == a1_1) = false from beq_eq_false_iff_ne.2 e1]; simp)
  clear e1
  go_enter Try.func20, Try.ntmps20
  go_wp2
  go_region
  trace "HERE"
  all_goals (go_wp2; go_ret; exact ⟨by rw [← HE.out]; rfl, by repeat (first | exact Below.refl _ _ | apply below_alloc | apply below_drew1 | apply pw_below_drewN | refine below_set ?_ (by simp <;> omega))⟩)
 have d1 : (a0_1 != a1_1) = false := bne_eq_false_iff_eq.2 e1
 have E1 := Aside0.mk (show (a0_1 == a1_1) = true from beq_iff_eq.2 e1)
 clear e1
 by_cases e2 : a0_8 = a1_8
 case neg =>
  have d2 : (a0_8 != a1_8) = true := bne_iff_ne.2 e2
  have HE := Aside0.mk (show false = r from by rw [← HF.out, show (a0_8 == a1_8) = false from beq_eq_false_iff_ne.2 e2]; simp)
  clear e2
  go_enter Try.func20, Try.ntmps20
  go_wp2
  go_region
  trace "HERE"
  all_goals (go_wp2; go_ret; exact ⟨by rw [← HE.out]; rfl, by repeat (first | exact Below.refl _ _ | apply below_alloc | apply below_drew1 | apply pw_below_drewN | refine below_set ?_ (by simp <;> omega))⟩)
 have d2 : (a0_8 != a1_8) = false := bne_eq_false_iff_eq.2 e2
 have E2 := Aside0.mk (show (a0_8 == a1_8) = true from beq_iff_eq.2 e2)
 clear e2
 by_cases e3 : (l0_2.length : Int) = (l1_2.length : Int)
 case neg =>
  have d3n : (l0_2.length != l1_2.length) = true := bne_iff_ne.2 (by omega)
  have d3 : ((l0_2.length : Int) != (l1_2.length : Int)) = true := bne_iff_ne.2 e3
  have HE := Aside0.mk (show false = r from by rw [← HF.out, show (l0_2 == l1_2) = false from beq_eq_false_iff_ne.2 (fun h_ => e3 (by rw [h_]))]; simp)
  clear e3
  go_enter Try.func20, Try.ntmps20
  go_wp2
  go_region
  trace "HERE"
  all_goals (go_wp2; go_ret; exact ⟨by rw [← HE.out]; rfl, by repeat (first | exact Below.refl _ _ | apply below_alloc | apply below_drew1 | apply pw_below_drewN | refine below_set ?_ (by simp <;> omega))⟩)
 have d3 : ((l0_2.length : Int) != (l1_2.length : Int)) = false := bne_eq_false_iff_eq.2 e3
 have d3n : (l0_2.length != l1_2.length) = false := bne_eq_false_iff_eq.2 (by omega)
 have HLL := Aside0.mk (show l0_2.length = l1_2.length from by omega)
 clear e3
 by_cases e4 : a0_3 = a1_3
 case neg =>
  have d4 : (a0_3 != a1_3) = true := bne_iff_ne.2 e4
  have HE := Aside0.mk (show false = r from by rw [← HF.out, show (a0_3 == a1_3) = false from beq_eq_false_iff_ne.2 e4]; simp)
  clear e4
  go_enter Try.func20, Try.ntmps20
  go_wp2
  go_region
  trace "HERE"
  all_goals (go_wp2; go_ret; exact ⟨by rw [← HE.out]; rfl, by repeat (first | exact Below.refl _ _ | apply below_alloc | apply below_drew1 | apply pw_below_drewN | refine below_set ?_ (by simp <;> omega))⟩)
 have d4 : (a0_3 != a1_3) = false := bne_eq_false_iff_eq.2 e4
 have E4 := Aside0.mk (show (a0_3 == a1_3) = true from beq_iff_eq.2 e4)
 clear e4
 by_cases e5 : a0_4 = a1_4
 case neg =>
  have d5 : (a0_4 != a1_4) = true := bne_iff_ne.2 e5
  have HE := Aside0.mk (show false = r from by rw [← HF.out, show (a0_4 == a1_4) = false from beq_eq_false_iff_ne.2 e5]; simp)
  clear e5
  go_enter Try.func20, Try.ntmps20
  go_wp2
  go_region
  trace "HERE"
  all_goals (go_wp2; go_ret; exact ⟨by rw [← HE.out]; rfl, by repeat (first | exact Below.refl _ _ | apply below_alloc | apply below_drew1 | apply pw_below_drewN | refine below_set ?_ (by simp <;> omega))⟩)
 have d5 : (a0_4 != a1_4) = false := bne_eq_false_iff_eq.2 e5
 have E5 := Aside0.mk (show (a0_4 == a1_4) = true from beq_iff_eq.2 e5)
 clear e5
 by_cases e6 : a0_5 = a1_5
 case neg =>
  have d6 : (a0_5 != a1_5) = true := bne_iff_ne.2 e6
  have HE := Aside0.mk (show false = r from by rw [← HF.out, show (a0_5 == a1_5) = false from beq_eq_false_iff_ne.2 e6]; simp)
  clear e6
  go_enter Try.func20, Try.ntmps20
  go_wp2
  go_region
  trace "HERE"
  all_goals (go_wp2; go_ret; exact ⟨by rw [← HE.out]; rfl, by repeat (first | exact Below.refl _ _ | apply below_alloc | apply below_drew1 | apply pw_below_drewN | refine below_set ?_ (by simp <;> omega))⟩)
 have d6 : (a0_5 != a1_5) = false := bne_eq_false_iff_eq.2 e6
 have E6 := Aside0.mk (show (a0_5 == a1_5) = true from beq_iff_eq.2 e6)
 clear e6
 by_cases e7 : a0_6 = a1_6
 case neg =>
  have d7 : (a0_6 != a1_6) = true := bne_iff_ne.2 e7
  have HE := Aside0.mk (show false = r from by rw [← HF.out, show (a0_6 == a1_6) = false from beq_eq_false_iff_ne.2 e7]; simp)
  clear e7
  go_enter Try.func20, Try.ntmps20
  go_wp2
  go_region
  trace "HERE"
  all_goals (go_wp2; go_ret; exact ⟨by rw [← HE.out]; rfl, by repeat (first | exact Below.refl _ _ | apply below_alloc | apply below_drew1 | apply pw_below_drewN | refine below_set ?_ (by simp <;> omega))⟩)
 have d7 : (a0_6 != a1_6) = false := bne_eq_false_iff_eq.2 e7
 have E7 := Aside0.mk (show (a0_6 == a1_6) = true from beq_iff_eq.2 e7)
 clear e7
 by_cases e8 : a0_7 = a1_7
 case neg =>
  have d8 : (a0_7 != a1_7) = true := bne_iff_ne.2 e8
  have HE := Aside0.mk (show false = r from by rw [← HF.out, show (a0_7 == a1_7) = false from beq_eq_false_iff_ne.2 e8]; simp)
  clear e8
  go_enter Try.func20, Try.ntmps20
  go_wp2
  go_region
  trace "HERE"
  all_goals (go_wp2; go_ret; exact ⟨by rw [← HE.out]; rfl, by repeat (first | exact Below.refl _ _ | apply below_alloc | apply below_drew1 | apply pw_below_drewN | refine below_set ?_ (by simp <;> omega))⟩)
 have d8 : (a0_7 != a1_7) = false := bne_eq_false_iff_eq.2 e8
 have E8 := Aside0.mk (show (a0_7 == a1_7) = true from beq_iff_eq.2 e8)
 clear e8
 have HE := Aside0.mk (show (l0_2 == l1_2) = r from by rw [← HF.out, E0.out, E1.out, E2.out, E4.out, E5.out, E6.out, E7.out, E8.out]; rfl)
 go_enter Try.func20, Try.ntmps20
 go_wp2
 go_region
 all_goals
  first
  | (
   go_wp2
   go_loopw [7] (fun i wr => ∃ n : Nat, n ≤ l0_2.length ∧ i = .int .i64 n ∧ wr.cell? ⟨w.heap.size + 1 + 1, 0, none⟩ = some (.slice A0_2 l0_2.length c0_2) ∧ wr.cell? ⟨w.heap.size + 1 + 1 + 1, 0, none⟩ = some (.slice A1_2 l1_2.length c1_2) ∧ Aside0 (l0_2.take n = l1_2.take n) ∧ Aside0 (Below w.heap.size w wr)) (fun i _ => l0_2.length - (intOf i).toNat)
   case atStart => exact ⟨0, Nat.zero_le _, rfl, by go_simp, by go_simp, ⟨rfl⟩, ⟨by repeat (first | exact Below.refl _ _ | apply below_alloc | apply below_drew1 | apply pw_below_drewN | refine below_set ?_ (by simp <;> omega))⟩⟩
   case round =>
    obtain ⟨n, hn, rfl, hct, hcu, HTK, HB⟩ := hrel
    have hl63 := HR0.out.2.1
    by_cases c : n < l0_2.length
    ·
     have c1 : decide ((n : Int) < (l0_2.length : Int)) = true := decide_eq_true (by omega)
     have c2 : decide (n < l0_2.length) = true := decide_eq_true c
     have hp0 : (0 : Int) ≤ (n : Int) := by omega
     have hq0 : (n : Int) < (l0_2.length : Int) := by omega
     have hll := HLL.out
     have hq1 : (n : Int) < (l1_2.length : Int) := by omega
     have hq2 : n < l1_2.length := by omega
     clear hll
     have HTE := Aside0.mk (credenzaref22_Same.take_eq HLL.out c HTK.out)
     obtain ⟨ad, e1, hx⟩ := Kd.at_int HR0.out (n : Int) hp0 hq0
     obtain ⟨ae, e2, hy⟩ := Kd.at_int HR1.out (n : Int) hp0 hq1
     cases e1
     cases e2
     have hx2 : w.cell? (ad.add n) = some (.int .i64 (rd l0_2 (n : Int))) := by simpa using hx
     have hy2 : w.cell? (ae.add n) = some (.int .i64 (rd l1_2 (n : Int))) := by simpa using hy
     have hx3 : wr.cell? (ad.add n) = some (.int .i64 (rd l0_2 (n : Int))) := (HB.out.cell (World.block_lt_of_cell? w _ hx2)).trans hx2
     have hy3 : wr.cell? (ae.add n) = some (.int .i64 (rd l1_2 (n : Int))) := (HB.out.cell (World.block_lt_of_cell? w _ hy2)).trans hy2
     clear hx hy hx2 hy2
     obtain ⟨x, hxv⟩ : ∃ x : Int, rd l0_2 (n : Int) = x := ⟨_, rfl⟩
     obtain ⟨y, hyv⟩ : ∃ y : Int, rd l1_2 (n : Int) = y := ⟨_, rfl⟩
     rw [hxv] at hx3
     rw [hyv] at hy3
     have HTF := Aside0.mk (show (l0_2.take (n + 1) = l1_2.take (n + 1)) ↔ x = y from by rw [HTE.out, hxv, hyv])
     clear hxv hyv HTE
     by_cases hxy : x = y
     ·
      have dxy : (x != y) = false := bne_eq_false_iff_eq.2 hxy
      have HT2 := Aside0.mk (HTF.out.2 hxy)
      clear hxy
      go_wp2
      go_quiet (fail)
      go_wp2
      go_roundw
      case rel => exact ⟨n + 1, by omega, by go_num, by go_simp, by go_simp, HT2, ⟨by repeat (first | exact HB.out | apply below_alloc | apply below_drew1 | apply pw_below_drewN)⟩⟩
      case measure => simp [intOf]; omega
     ·
      have dxy : (x != y) = true := bne_iff_ne.2 hxy
      have HT2 := Aside0.mk (show (l0_2 == l1_2) = false from beq_eq_false_iff_ne.2 (fun h_ => hxy (HTF.out.1 (by rw [h_]))))
      clear hxy
      go_wp2
      go_quiet (fail)
      go_wp2
      go_ret
      exact ⟨by rw [← HE.out, HT2.out]; rfl, by repeat (first | exact HB.out | apply below_alloc | apply below_drew1 | apply pw_below_drewN)⟩
    ·
     have c1 : decide ((n : Int) < (l0_2.length : Int)) = false := decide_eq_false (by omega)
     have c2 : decide (n < l0_2.length) = false := decide_eq_false c
     have HT2 := Aside0.mk (show (l0_2 == l1_2) = true from beq_iff_eq.2 (by
      have h1 := HTK.out
      rw [List.take_of_length_le (by omega), List.take_of_length_le (by have := HLL.out; omega)] at h1
      exact h1))
     go_wp2
     go_ret
     exact ⟨by rw [← HE.out, HT2.out]; rfl, by repeat (first | exact HB.out | apply below_alloc | apply below_drew1 | apply pw_below_drewN)⟩)
  | (
   go_wp2
   go_loopw [7] (fun i wr => ∃ n : Nat, n ≤ l0_2.length ∧ i = .int .i64 n ∧ wr.cell? ⟨w.heap.size + 1 + 1 + 1, 0, none⟩ = some (.slice A0_2 l0_2.length c0_2) ∧ wr.cell? ⟨w.heap.size + 1 + 1, 0, none⟩ = some (.slice A1_2 l1_2.length c1_2) ∧ Aside0 (l0_2.take n = l1_2.take n) ∧ Aside0 (Below w.heap.size w wr)) (fun i _ => l0_2.length - (intOf i).toNat)
   case atStart => exact ⟨0, Nat.zero_le _, rfl, by go_simp, by go_simp, ⟨rfl⟩, ⟨by repeat (first | exact Below.refl _ _ | apply below_alloc | apply below_drew1 | apply pw_below_drewN | refine below_set ?_ (by simp <;> omega))⟩⟩
   case round =>
    obtain ⟨n, hn, rfl, hct, hcu, HTK, HB⟩ := hrel
    have hl63 := HR0.out.2.1
    by_cases c : n < l0_2.length
    ·
     have c1 : decide ((n : Int) < (l0_2.length : Int)) = true := decide_eq_true (by omega)
     have c2 : decide (n < l0_2.length) = true := decide_eq_true c
     have hp0 : (0 : Int) ≤ (n : Int) := by omega
     have hq0 : (n : Int) < (l0_2.length : Int) := by omega
     have hll := HLL.out
     have hq1 : (n : Int) < (l1_2.length : Int) := by omega
     have hq2 : n < l1_2.length := by omega
     clear hll
     have HTE := Aside0.mk (credenzaref22_Same.take_eq HLL.out c HTK.out)
     obtain ⟨ad, e1, hx⟩ := Kd.at_int HR0.out (n : Int) hp0 hq0
     obtain ⟨ae, e2, hy⟩ := Kd.at_int HR1.out (n : Int) hp0 hq1
     cases e1
     cases e2
     have hx2 : w.cell? (ad.add n) = some (.int .i64 (rd l0_2 (n : Int))) := by simpa using hx
     have hy2 : w.cell? (ae.add n) = some (.int .i64 (rd l1_2 (n : Int))) := by simpa using hy
     have hx3 : wr.cell? (ad.add n) = some (.int .i64 (rd l0_2 (n : Int))) := (HB.out.cell (World.block_lt_of_cell? w _ hx2)).trans hx2
     have hy3 : wr.cell? (ae.add n) = some (.int .i64 (rd l1_2 (n : Int))) := (HB.out.cell (World.block_lt_of_cell? w _ hy2)).trans hy2
     clear hx hy hx2 hy2
     obtain ⟨x, hxv⟩ : ∃ x : Int, rd l0_2 (n : Int) = x := ⟨_, rfl⟩
     obtain ⟨y, hyv⟩ : ∃ y : Int, rd l1_2 (n : Int) = y := ⟨_, rfl⟩
     rw [hxv] at hx3
     rw [hyv] at hy3
     have HTF := Aside0.mk (show (l0_2.take (n + 1) = l1_2.take (n + 1)) ↔ x = y from by rw [HTE.out, hxv, hyv])
     clear hxv hyv HTE
     by_cases hxy : x = y
     ·
      have dxy : (x != y) = false := bne_eq_false_iff_eq.2 hxy
      have HT2 := Aside0.mk (HTF.out.2 hxy)
      clear hxy
      go_wp2
      go_quiet (fail)
      go_wp2
      go_roundw
      case rel => exact ⟨n + 1, by omega, by go_num, by go_simp, by go_simp, HT2, ⟨by repeat (first | exact HB.out | apply below_alloc | apply below_drew1 | apply pw_below_drewN)⟩⟩
      case measure => simp [intOf]; omega
     ·
      have dxy : (x != y) = true := bne_iff_ne.2 hxy
      have HT2 := Aside0.mk (show (l0_2 == l1_2) = false from beq_eq_false_iff_ne.2 (fun h_ => hxy (HTF.out.1 (by rw [h_]))))
      clear hxy
      go_wp2
      go_quiet (fail)
      go_wp2
      go_ret
      exact ⟨by rw [← HE.out, HT2.out]; rfl, by repeat (first | exact HB.out | apply below_alloc | apply below_drew1 | apply pw_below_drewN)⟩
    ·
     have c1 : decide ((n : Int) < (l0_2.length : Int)) = false := decide_eq_false (by omega)
     have c2 : decide (n < l0_2.length) = false := decide_eq_false c
     have HT2 := Aside0.mk (show (l0_2 == l1_2) = true from beq_iff_eq.2 (by
      have h1 := HTK.out
      rw [List.take_of_length_le (by omega), List.take_of_length_le (by have := HLL.out; omega)] at h1
      exact h1))
     go_wp2
     go_ret
     exact ⟨by rw [← HE.out, HT2.out]; rfl, by repeat (first | exact HB.out | apply below_alloc | apply below_drew1 | apply pw_below_drewN)⟩)

end Go.Proofs.Ytehepnmagcjkaaa.PAskParses
