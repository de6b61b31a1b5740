-- Written by a program of this session (wip/tools/mkprint.py over the kit's print).
import Derived.Test.YtehepnmagcjkaaaPBlobParsesx0
import Derived.Test.YtehepnmagcjkaaaPBlobParsesx12
import Derived.Test.YtehepnmagcjkaaaPBlobParsesx14
namespace Go.Proofs.Ytehepnmagcjkaaa.PBlobParses
open Go.RowKit Go.Proofs.YtehepnmagcjkaaaW.PrintWords Go.Proofs.YtehepnmagcjkaaaW.PrintLast Go.Proofs.YtehepnmagcjkaaaW.PrintMore
attribute [local go_sem] max2_int min2_int max_two min_two max_three min_three max_four min_four   -- for this text's walks alone
set_option linter.unusedVariables false
set_option linter.unusedSimpArgs false
section
variable {P : Program} {ops : Array Oper} {Q : Exit → Act → World → Prop} {md : Region.Mode} {S : World → Prop} {ds : List Nat} {T : Bool × List (List Nat × List Nat)} {BM : List Nat}
end
section
variable {P : Program} {ops : Array Oper} {rest : List Oper} {o : Oper} {a : Act} {Q : Exit → Act → World → Prop}
end
theorem dR {p : Prop} (h : p := by repeat (first | exact Drawn0.refl _ | apply Drawn0.step)) : p := h

/-! ### credenzaref06_Number: function 55 -/
def credenzaref06_Number.l0 : Nat → ByteArray → Int → Int → Option (Int)
 | 0, _, _, _ => none
 | k + 1, x0, x3, x4 => if x4 < (x0.size : Int) then (if 0 ≤ x4 then (credenzaref06_Number.l0 k x0 (IntKind.u64.wrap ((IntKind.u64.wrap (x3 * 256)) + (IntKind.u64.wrap (bt x0 x4)))) (wrap64 (x4 + 1))) else (none)) else (some x3)
def credenzaref06_Number.f (k : Nat) (a0 : ByteArray) : Option (Int) := credenzaref06_Number.l0 k a0 0 0
theorem credenzaref06_Number.mono_l : ∀ k, (∀ y0 y1 y2, LeO (credenzaref06_Number.l0 k y0 y1 y2) (credenzaref06_Number.l0 (k + 1) y0 y1 y2))
 | 0 => fun _ _ _ r h => by simp [credenzaref06_Number.l0] at h
 | k + 1 => by
  have ih0 := credenzaref06_Number.mono_l k
  ·
   intro y0 y1 y2
   unfold credenzaref06_Number.l0
   repeat' with_reducible first | exact ih0 _ _ _ | exact LeO.refl _ | exact LeO.none _ | refine LeO.ite ?_ ?_ | refine LeO.bind ?_ (fun _ => ?_)
theorem credenzaref06_Number.mono : ∀ a0 k, LeO (credenzaref06_Number.f k a0) (credenzaref06_Number.f (k + 1) a0) := by
 intro a0 k
 have ih0 := credenzaref06_Number.mono_l k
 unfold credenzaref06_Number.f
 repeat' with_reducible first | exact ih0 _ _ _ | exact LeO.refl _ | exact LeO.none _ | refine LeO.ite ?_ ?_ | refine LeO.bind ?_ (fun _ => ?_)
set_option maxHeartbeats 8000000 in
set_option maxRecDepth 100000 in
theorem credenzaref06_Number.calls (k : Nat) (a0 : ByteArray) (r : Int) (w : World) (h : credenzaref06_Number.f k a0 = some r) :
  Calls Try.prog 55 #[.string a0] w fun e w' => e = .returned (.int .u64 r) ∧ Drawn0 w w' := by
 have H := h
 clear h
 unfold credenzaref06_Number.f at H
 have H' := aM H
 clear H
 go_enter Try.func55, Try.ntmps55
 go_wp2
 go_loopg [3, 4] k (fun kq v3 v4 w' => ∃ (x3_1 : Int) (x4_1 : Int), v3 = .int .u64 x3_1 ∧ v4 = .int .i64 x4_1 ∧ Aside0 (credenzaref06_Number.l0 kq a0 x3_1 x4_1 = some r) ∧ Aside0 (kq ≤ k) ∧ Drawn0 w w')
 case atStart => exact ⟨(0), (0), rfl, rfl, H', ⟨Nat.le_refl _⟩, dR⟩
 case round =>
  clear H'
  obtain ⟨x3_1, x4_1, rfl, rfl, HA, HK1, ⟨m1, rfl⟩⟩ := hrel
  cases gk with
  | zero => exact absurd HA.out (by simp [credenzaref06_Number.l0])
  | succ k1 =>
   have H := HA.out
   clear HA
   simp only [credenzaref06_Number.l0] at H
   by_cases c2 : x4_1 < (a0.size : Int)
   ·
    rw [if_pos c2] at H
    have c2b0 : decide (x4_1 < (a0.size : Int)) = true := dT c2
    clear c2
    obtain ⟨c3, H⟩ := ifp H
    have c3b0 : decide (0 ≤ x4_1) = true := dT c3
    clear c3
    have H' := aM H
    clear H
    have p4 : 0 ≤ (x4_1 : Int) := oD
    have q4 : x4_1 < (a0.size : Int) := oD
    have hx4 := bt_at a0 x4_1
    replace p4 := eq_true p4
    replace q4 := eq_true q4
    go_wp2
    go_roundg k1
    case measure => have := HK1.out; omega
    case rel => exact ⟨(IntKind.u64.wrap ((IntKind.u64.wrap (x3_1 * 256)) + (IntKind.u64.wrap (bt a0 x4_1)))), (wrap64 (x4_1 + 1)), rfl, rfl, H', ⟨by have := HK1.out; omega⟩, dR⟩
   ·
    rw [if_neg c2] at H
    have c2b0 : decide (x4_1 < (a0.size : Int)) = false := dF c2
    clear c2
    obtain rfl := oI H
    go_wp2
    go_ret
    exact ⟨rfl, dR⟩

/-! ### credenzaref06_Signed: function 54 -/
def credenzaref06_Signed.f (k : Nat) (a0 : ByteArray) : Option (Int) := (credenzaref06_Number.f k a0).bind fun t203 => (if (wrap64 (t203)) ≥ 2147483648 then (some (wrap32 (wrap64 ((wrap64 (t203)) - 4294967296)))) else (some (wrap32 (wrap64 (t203)))))
theorem credenzaref06_Signed.mono : ∀ a0 k, LeO (credenzaref06_Signed.f k a0) (credenzaref06_Signed.f (k + 1) a0) := by
 intro a0 k
 unfold credenzaref06_Signed.f
 repeat' with_reducible first | exact credenzaref06_Number.mono _ _ | exact LeO.refl _ | exact LeO.none _ | refine LeO.ite ?_ ?_ | refine LeO.bind ?_ (fun _ => ?_)
set_option maxHeartbeats 8000000 in
set_option maxRecDepth 100000 in
theorem credenzaref06_Signed.calls (k : Nat) (a0 : ByteArray) (r : Int) (w : World) (h : credenzaref06_Signed.f k a0 = some r) :
  Calls Try.prog 54 #[.string a0] w fun e w' => e = .returned (.int .i32 r) ∧ Drawn0 w w' := by
 have H := h
 clear h
 unfold credenzaref06_Signed.f at H
 obtain ⟨t203, A2, H⟩ := bnd H
 by_cases c3 : (wrap64 (t203)) ≥ 2147483648
 ·
  rw [if_pos c3] at H
  have c3b0 : decide (2147483648 ≤ (wrap64 (t203))) = true := dT c3
  clear c3
  obtain rfl := oI H
  go_enter Try.func54, Try.ntmps54
  go_wp2_with (first | ((with_reducible refine gate_callee (f := 55) rfl ?_); refine gL 5 Try.func55 #[.string a0] (h := ?_); (with_reducible refine (credenzaref06_Number.calls k a0 t203 _ A2.out).mono ?_); rintro e w' ⟨rfl, ⟨nd, rfl⟩⟩; refine ⟨_, rfl, ?_⟩))
  go_ret
  exact ⟨rfl, dR⟩
 ·
  rw [if_neg c3] at H
  have c3b0 : decide (2147483648 ≤ (wrap64 (t203))) = false := dF c3
  clear c3
  obtain rfl := oI H
  go_enter Try.func54, Try.ntmps54
  go_wp2_with (first | ((with_reducible refine gate_callee (f := 55) rfl ?_); refine gL 5 Try.func55 #[.string a0] (h := ?_); (with_reducible refine (credenzaref06_Number.calls k a0 t203 _ A2.out).mono ?_); rintro e w' ⟨rfl, ⟨nd, rfl⟩⟩; refine ⟨_, rfl, ?_⟩))
  go_ret
  exact ⟨rfl, dR⟩

/-! ### credenzaref06_Bytes: function 50 -/
def credenzaref06_Bytes.l0 : Nat → Int → Int → ByteArray → Int → Option (ByteArray)
 | 0, _, _, _, _ => none
 | k + 1, x0, x1, x5, x6 => if x6 < x1 then ((some (([(Int.tmod x0 256) % 256] : List Int) : List Int)).bind fun y204 => (if (strOfNums y204).size + x5.size ≤ 9223372036854775807 then (credenzaref06_Bytes.l0 k (IntKind.u64.wrap (Int.tdiv x0 256)) x1 ((strOfNums y204) ++ x5) (wrap64 (x6 + 1))) else (none))) else (some x5)
def credenzaref06_Bytes.f (k : Nat) (a0 : Int) (a1 : Int) : Option (ByteArray) := credenzaref06_Bytes.l0 k a0 a1 (⟨#[]⟩ : ByteArray) 0
theorem credenzaref06_Bytes.mono_l : ∀ k, (∀ y0 y1 y2 y3, LeO (credenzaref06_Bytes.l0 k y0 y1 y2 y3) (credenzaref06_Bytes.l0 (k + 1) y0 y1 y2 y3))
 | 0 => fun _ _ _ _ r h => by simp [credenzaref06_Bytes.l0] at h
 | k + 1 => by
  have ih0 := credenzaref06_Bytes.mono_l k
  ·
   intro y0 y1 y2 y3
   unfold credenzaref06_Bytes.l0
   repeat' with_reducible first | exact ih0 _ _ _ _ | exact LeO.refl _ | exact LeO.none _ | refine LeO.ite ?_ ?_ | refine LeO.bind ?_ (fun _ => ?_)
theorem credenzaref06_Bytes.mono : ∀ a0 a1 k, LeO (credenzaref06_Bytes.f k a0 a1) (credenzaref06_Bytes.f (k + 1) a0 a1) := by
 intro a0 a1 k
 have ih0 := credenzaref06_Bytes.mono_l k
 unfold credenzaref06_Bytes.f
 repeat' with_reducible first | exact ih0 _ _ _ _ | exact LeO.refl _ | exact LeO.none _ | refine LeO.ite ?_ ?_ | refine LeO.bind ?_ (fun _ => ?_)
set_option maxHeartbeats 8000000 in
set_option maxRecDepth 100000 in
theorem credenzaref06_Bytes.calls (k : Nat) (a0 : Int) (a1 : Int) (r : ByteArray) (w : World) (h : credenzaref06_Bytes.f k a0 a1 = some r) :
  Calls Try.prog 50 #[.int .u64 a0, .int .i64 a1] w fun e w' => e = .returned (.string r) ∧ Below w.heap.size w w' := by
 have HB := aM (Below.refl w.heap.size w)
 have H := h
 clear h
 unfold credenzaref06_Bytes.f at H
 have H' := aM H
 clear H
 go_enter Try.func50, Try.ntmps50
 go_wp2
 go_loopg [0, 5, 6] k (fun kq v0 v5 v6 w' => ∃ (x0_1 : Int) (x5_1 : ByteArray) (x6_1 : Int), v0 = .int .u64 x0_1 ∧ v5 = .string x5_1 ∧ v6 = .int .i64 x6_1 ∧ Aside0 (credenzaref06_Bytes.l0 kq x0_1 a1 x5_1 x6_1 = some r) ∧ Aside0 (kq ≤ k) ∧ Aside0 (Below w.heap.size w w'))
 case atStart => exact ⟨(a0), ((⟨#[]⟩ : ByteArray)), (0), rfl, rfl, rfl, H', ⟨Nat.le_refl _⟩, HB⟩
 case round =>
  clear H'
  try clear p2
  obtain ⟨x0_1, x5_1, x6_1, rfl, rfl, rfl, HA, HK1, HB⟩ := hrel
  cases gk with
  | zero => exact absurd HA.out (by simp [credenzaref06_Bytes.l0])
  | succ k1 =>
   have H := HA.out
   clear HA
   simp only [credenzaref06_Bytes.l0] at H
   by_cases c3 : x6_1 < a1
   ·
    rw [if_pos c3] at H
    have c3b0 : decide (x6_1 < a1) = true := dT c3
    clear c3
    obtain ⟨y204, hy204⟩ : ∃ y_ : List Int, y_ = (([(Int.tmod x0_1 256) % 256] : List Int)) := ⟨_, rfl⟩
    replace H : (if (strOfNums y204).size + x5_1.size ≤ 9223372036854775807 then (credenzaref06_Bytes.l0 k1 (IntKind.u64.wrap (Int.tdiv x0_1 256)) a1 ((strOfNums y204) ++ x5_1) (wrap64 (x6_1 + 1))) else (none)) = some r := by rw [hy204]; exact H
    have Ny204 := aM hy204
    clear hy204
    obtain ⟨c4, H⟩ := ifp H
    have c4b0 := eq_true c4
    have c4b1 : decide ((strOfNums y204).size + x5_1.size ≤ 9223372036854775807) = true := dT c4
    try have c4b2 : (9223372036854775807 < (strOfNums y204).size + x5_1.size) = False := eq_false (Nat.not_lt.2 c4)
    (try (have c4b3 := c4b2; simp only [ByteArray.size_append] at c4b3))
    have H' := aM H
    clear H
    go_wp2_with (first | ((with_reducible refine gate_dst (N := 15) rfl ?_); refine Kd.R_lit (Kd.int .u8) _ 5 ?hg (N := 15) ?hd (xs := ([(Int.tmod x0_1 256) % 256] : List Int)) (inner := [.int .u8 ((Int.tmod x0_1 256) % 256)]) (ok := fun _ => True) (okp := fun _ => True) ?hr ?hp (fun _ hk => hk) trivial (Below.refl _ _) (Nat.le_refl _) (by simp) ?_; (case hd => rfl); (case hg => rfl); (case hr => first | (go_simp; done) | (go_simp; rfl)); (case hp => exact (Reps.one (show Kd.M (Kd.int .u8) _ _ _ ((Int.tmod x0_1 256) % 256) [.int .u8 ((Int.tmod x0_1 256) % 256)] from rfl) (Reps.none _ _))); intro v205 w5 ho6 hb hg_ hnew_; clear hg_ hnew_; (first | rw [← Ny204.out] at ho6 | (simp only [Int.reduceToNat] at ho6; rw [← Ny204.out] at ho6)); have HO206 := aM (Kd.R_lower ho6 (bsz HB)); replace HB := bst HB hb; clear hb ho6; have hcv7 := own_string (P := Try.prog) Try.underlying32 Try.underlying5 Try.underlying9 (Kd.own_of_R HO206.out)))
    go_roundg k1
    case measure => have := HK1.out; omega
    case rel => exact ⟨(IntKind.u64.wrap (Int.tdiv x0_1 256)), ((strOfNums y204) ++ x5_1), (wrap64 (x6_1 + 1)), rfl, rfl, rfl, H', ⟨by have := HK1.out; omega⟩, HB⟩
   ·
    rw [if_neg c3] at H
    have c3b0 : decide (x6_1 < a1) = false := dF c3
    clear c3
    obtain rfl := oI H
    go_wp2
    go_ret
    exact ⟨rfl, HB.out⟩

/-! ### credenzaref06_Sum: function 95 -/
def credenzaref06_Sum.l0 : Nat → ByteArray → Int → Int → Option (Int)
 | 0, _, _, _ => none
 | k + 1, x0, x3, x4 => if x4 < (x0.size : Int) then (if 0 ≤ x4 then (credenzaref06_Sum.l0 k x0 (Int.tmod (IntKind.u64.wrap ((Go.bits .xor .u64 x3 (IntKind.u64.wrap (bt x0 x4))) * 16777619)) 4294967296) (wrap64 (x4 + 1))) else (none)) else (some ((x3) % 4294967296))
def credenzaref06_Sum.f (k : Nat) (a0 : ByteArray) : Option (Int) := credenzaref06_Sum.l0 k a0 2166136261 0
theorem credenzaref06_Sum.mono_l : ∀ k, (∀ y0 y1 y2, LeO (credenzaref06_Sum.l0 k y0 y1 y2) (credenzaref06_Sum.l0 (k + 1) y0 y1 y2))
 | 0 => fun _ _ _ r h => by simp [credenzaref06_Sum.l0] at h
 | k + 1 => by
  have ih0 := credenzaref06_Sum.mono_l k
  ·
   intro y0 y1 y2
   unfold credenzaref06_Sum.l0
   repeat' with_reducible first | exact ih0 _ _ _ | exact LeO.refl _ | exact LeO.none _ | refine LeO.ite ?_ ?_ | refine LeO.bind ?_ (fun _ => ?_)
theorem credenzaref06_Sum.mono : ∀ a0 k, LeO (credenzaref06_Sum.f k a0) (credenzaref06_Sum.f (k + 1) a0) := by
 intro a0 k
 have ih0 := credenzaref06_Sum.mono_l k
 unfold credenzaref06_Sum.f
 repeat' with_reducible first | exact ih0 _ _ _ | exact LeO.refl _ | exact LeO.none _ | refine LeO.ite ?_ ?_ | refine LeO.bind ?_ (fun _ => ?_)
set_option maxHeartbeats 8000000 in
set_option maxRecDepth 100000 in
theorem credenzaref06_Sum.calls (k : Nat) (a0 : ByteArray) (r : Int) (w : World) (h : credenzaref06_Sum.f k a0 = some r) :
  Calls Try.prog 95 #[.string a0] w fun e w' => e = .returned (.int .u32 r) ∧ Drawn0 w w' := by
 have H := h
 clear h
 unfold credenzaref06_Sum.f at H
 have H' := aM H
 clear H
 go_enter Try.func95, Try.ntmps95
 go_wp2
 go_loopg [3, 4] k (fun kq v3 v4 w' => ∃ (x3_1 : Int) (x4_1 : Int), v3 = .int .u64 x3_1 ∧ v4 = .int .i64 x4_1 ∧ Aside0 (credenzaref06_Sum.l0 kq a0 x3_1 x4_1 = some r) ∧ Aside0 (kq ≤ k) ∧ Drawn0 w w')
 case atStart => exact ⟨(2166136261), (0), rfl, rfl, H', ⟨Nat.le_refl _⟩, dR⟩
 case round =>
  clear H'
  obtain ⟨x3_1, x4_1, rfl, rfl, HA, HK1, ⟨m1, rfl⟩⟩ := hrel
  cases gk with
  | zero => exact absurd HA.out (by simp [credenzaref06_Sum.l0])
  | succ k1 =>
   have H := HA.out
   clear HA
   simp only [credenzaref06_Sum.l0] at H
   by_cases c2 : x4_1 < (a0.size : Int)
   ·
    rw [if_pos c2] at H
    have c2b0 : decide (x4_1 < (a0.size : Int)) = true := dT c2
    clear c2
    obtain ⟨c3, H⟩ := ifp H
    have c3b0 : decide (0 ≤ x4_1) = true := dT c3
    clear c3
    have H' := aM H
    clear H
    have p4 : 0 ≤ (x4_1 : Int) := oD
    have q4 : x4_1 < (a0.size : Int) := oD
    have hx4 := bt_at a0 x4_1
    replace p4 := eq_true p4
    replace q4 := eq_true q4
    go_wp2
    go_roundg k1
    case measure => have := HK1.out; omega
    case rel => exact ⟨(Int.tmod (IntKind.u64.wrap ((Go.bits .xor .u64 x3_1 (IntKind.u64.wrap (bt a0 x4_1))) * 16777619)) 4294967296), (wrap64 (x4_1 + 1)), rfl, rfl, H', ⟨by have := HK1.out; omega⟩, dR⟩
   ·
    rw [if_neg c2] at H
    have c2b0 : decide (x4_1 < (a0.size : Int)) = false := dF c2
    clear c2
    obtain rfl := oI H
    go_wp2
    go_ret
    exact ⟨rfl, dR⟩

/-! ### credenzaref06_Close: function 75 -/
def credenzaref06_Close.f (k : Nat) (a0 : ByteArray) : Option (ByteArray) := (credenzaref06_Sum.f k a0).bind fun t207 => ((credenzaref06_Bytes.f k (IntKind.u64.wrap (t207)) 4).bind fun t208 => (if a0.size + t208.size ≤ 9223372036854775807 then (some (a0 ++ t208)) else (none)))
theorem credenzaref06_Close.mono : ∀ a0 k, LeO (credenzaref06_Close.f k a0) (credenzaref06_Close.f (k + 1) a0) := by
 intro a0 k
 unfold credenzaref06_Close.f
 repeat' first
   | (with_reducible exact credenzaref06_Bytes.mono _ _ _)
   | (with_reducible exact credenzaref06_Sum.mono _ _)
   | (with_reducible exact LeO.refl _)
   | (with_reducible exact LeO.none _)
   | (with_reducible refine LeO.ite ?_ ?_)
   | (with_reducible refine LeO.bind ?_ (fun _ => ?_))
   | exact credenzaref06_Bytes.mono _ _ _
   | exact credenzaref06_Sum.mono _ _
   | exact LeO.none _
   | refine LeO.ite ?_ ?_
   | refine LeO.bind ?_ (fun _ => ?_)
set_option maxHeartbeats 8000000 in
set_option maxRecDepth 100000 in
theorem credenzaref06_Close.calls (k : Nat) (a0 : ByteArray) (r : ByteArray) (w : World) (h : credenzaref06_Close.f k a0 = some r) :
  Calls Try.prog 75 #[.string a0] w fun e w' => e = .returned (.string r) ∧ Below w.heap.size w w' := by
 have HB := Aside0.mk (Below.refl w.heap.size w)
 have H : ((credenzaref06_Sum.f k a0).bind fun t207 => ((credenzaref06_Bytes.f k (IntKind.u64.wrap (t207)) 4).bind fun t208 => (if a0.size + t208.size ≤ 9223372036854775807 then (some (a0 ++ t208)) else (none)))) = some r := h
 clear h
 replace H := Option.bind_eq_some_iff.mp H
 obtain ⟨t207, A20, H⟩ := H
 replace H : ((credenzaref06_Bytes.f k (IntKind.u64.wrap (t207)) 4).bind fun t208 => (if a0.size + t208.size ≤ 9223372036854775807 then (some (a0 ++ t208)) else (none))) = some r := H
 have A2 := Aside0.mk A20
 clear A20
 replace H := Option.bind_eq_some_iff.mp H
 obtain ⟨t208, A30, H⟩ := H
 replace H : (if a0.size + t208.size ≤ 9223372036854775807 then (some (a0 ++ t208)) else (none)) = some r := H
 have A3 := Aside0.mk A30
 clear A30
 by_cases c4 : a0.size + t208.size ≤ 9223372036854775807
 case neg => (rw [if_neg c4] at H; exact absurd H (by simp))
 rw [if_pos c4] at H
 have c4b0 := eq_true c4
 have c4b1 : decide (a0.size + t208.size ≤ 9223372036854775807) = true := decide_eq_true c4
 try have c4b2 : (9223372036854775807 < a0.size + t208.size) = False := eq_false (Nat.not_lt.2 c4)
 (try (have c4b3 := c4b2; simp only [ByteArray.size_append] at c4b3))
 obtain rfl := Option.some.inj H
 go_enter Try.func75, Try.ntmps75
 go_wp2_with (first | ((with_reducible refine gate_callee (f := 95) rfl ?_); refine goesL_ (some 5) rfl rfl Try.func95 (by kernel_rfl) rfl #[.string a0] rfl (by (try simp only [List.map_toArray, List.map_cons, List.map_nil]); first | done | rfl | (simp only [List.length_drop, List.length_take]; rfl)) ?_; (with_reducible refine (credenzaref06_Sum.calls k a0 t207 _ A2.out).mono ?_); rintro e w' ⟨rfl, ⟨nd, rfl⟩⟩; refine ⟨_, rfl, ?_⟩) | ((with_reducible refine gate_callee (f := 50) rfl ?_); refine goesL_ (some 7) rfl rfl Try.func50 (by kernel_rfl) rfl #[.int .u64 (IntKind.u64.wrap (t207)), .int .i64 4] rfl (by (try simp only [List.map_toArray, List.map_cons, List.map_nil]); first | done | rfl | (simp only [List.length_drop, List.length_take]; rfl)) ?_; (with_reducible refine (credenzaref06_Bytes.calls k (IntKind.u64.wrap (t207)) 4 t208 _ A3.out).mono ?_); rintro e w5 ⟨rfl, hb⟩; refine ⟨_, rfl, ?_⟩; have n0_ := Aside0.mk (below_step (by repeat (first | (with_reducible first | exact HB.out | apply below_alloc | apply pw_below_drewN | apply below_drew1) | exact HB.out)) hb); clear HB; have HB := n0_; clear n0_; (try clear hb); (try clear hb2); (try clear hk); (try clear hi)))
 go_ret
 exact ⟨by first | rfl | (simp [errW_none, errW_some] <;> rfl) | (simp [*, errW_none, errW_some] <;> rfl), by with_reducible exact HB.out⟩

/-! ### credenzaref06_Open: function 79 -/
def credenzaref06_Open.f (k : Nat) (a0 : ByteArray) : Option (ByteArray × Int) := if (a0.size : Int) < 4 then (some ((⟨#[]⟩ : ByteArray), 16)) else (if 0 ≤ (wrap64 ((a0.size : Int) - 4)) then (if (wrap64 ((a0.size : Int) - 4)) ≤ (a0.size : Int) then ((credenzaref06_Close.f k (a0.extract 0 ((wrap64 ((a0.size : Int) - 4)) : Int).toNat)).bind fun t209 => (if t209.toList = a0.toList then (some (a0.extract 0 ((wrap64 ((a0.size : Int) - 4)) : Int).toNat, 0)) else (some ((⟨#[]⟩ : ByteArray), 22)))) else (none)) else (none))
theorem credenzaref06_Open.mono : ∀ a0 k, LeO (credenzaref06_Open.f k a0) (credenzaref06_Open.f (k + 1) a0) := by
 intro a0 k
 unfold credenzaref06_Open.f
 repeat' with_reducible first | exact credenzaref06_Close.mono _ _ | exact LeO.refl _ | exact LeO.none _ | refine LeO.ite ?_ ?_ | refine LeO.bind ?_ (fun _ => ?_)
set_option maxHeartbeats 8000000 in
set_option maxRecDepth 100000 in
theorem credenzaref06_Open.calls (k : Nat) (a0 : ByteArray) (r1 : ByteArray) (r2 : Int) (w : World) (h : credenzaref06_Open.f k a0 = some (r1, r2)) :
  Calls Try.prog 79 #[.string a0] w fun e w' => e = .returned (.tuple #[.string r1, .int .i64 r2]) ∧ Below w.heap.size w w' := by
 have HB := aM (Below.refl w.heap.size w)
 have H := h
 clear h
 unfold credenzaref06_Open.f at H
 by_cases c2 : (a0.size : Int) < 4
 ·
  rw [if_pos c2] at H
  have c2b0 : decide ((a0.size : Int) < 4) = true := dT c2
  have c2b1 : decide (a0.size < 4) = true := dT (by omega)
  clear c2
  simp only [Option.some.injEq, Prod.mk.injEq] at H
  obtain ⟨rfl, rfl⟩ := H
  go_enter Try.func79, Try.ntmps79
  go_wp2
  go_ret2
  exact ⟨rfl, HB.out⟩
 ·
  rw [if_neg c2] at H
  have c2b0 : decide ((a0.size : Int) < 4) = false := dF c2
  have c2b1 : decide (a0.size < 4) = false := dF (by omega)
  clear c2
  obtain ⟨ji3, hji3⟩ : ∃ j_ : Int, (wrap64 ((a0.size : Int) - 4)) = j_ := ⟨_, rfl⟩
  replace H : (if 0 ≤ (ji3) then (if (ji3) ≤ (a0.size : Int) then ((credenzaref06_Close.f k (a0.extract 0 ((ji3) : Int).toNat)).bind fun t209 => (if t209.toList = a0.toList then (some (a0.extract 0 ((ji3) : Int).toNat, 0)) else (some ((⟨#[]⟩ : ByteArray), 22)))) else (none)) else (none)) = some (r1, r2) := by first | (rw [hji3] at H; exact H) | (simp only [hji3] at H ⊢; exact H)
  have hji3w : (IntKind.i64.wrap ((a0.size : Int) - 4)) = ji3 := (i64_w _).trans hji3
  obtain ⟨c4, H⟩ := ifp H
  have c4b0 := eq_true c4
  have c4b1 : decide (0 ≤ (ji3)) = true := dT c4
  clear c4
  obtain ⟨c5, H⟩ := ifp H
  have c5b0 := eq_true c5
  have c5b1 : decide ((ji3) ≤ (a0.size : Int)) = true := dT c5
  clear c5
  obtain ⟨t209, A6, H⟩ := bnd H
  by_cases c7 : t209.toList = a0.toList
  ·
   rw [if_pos c7] at H
   have c7b0 : (t209.toList == a0.toList) = true := beq_iff_eq.mpr c7
   have c7b1 : (t209.toList != a0.toList) = false := bne_eq_false_iff_eq.mpr c7
   clear c7
   have c8b0 := eq_true (oD : 0 ≤ (ji3))
   have c9b0 := eq_true (oD : (ji3) ≤ (a0.size : Int))
   simp only [Option.some.injEq, Prod.mk.injEq] at H
   obtain ⟨rfl, rfl⟩ := H
   go_enter Try.func79, Try.ntmps79
   go_wp2_with (first | ((with_reducible refine gate_callee (f := 75) rfl ?_); refine goesL_ (some 12) rfl rfl Try.func75 (by kernel_rfl) rfl #[.string (a0.extract 0 ((ji3) : Int).toNat)] rfl (by (try simp only [List.map_toArray, List.map_cons, List.map_nil]); first | done | (simp only [hji3]; rfl) | rfl | (simp only [List.length_drop, List.length_take]; rfl)) ?_; (with_reducible refine (credenzaref06_Close.calls k (a0.extract 0 ((ji3) : Int).toNat) t209 _ A6.out).mono ?_); rintro e w10 ⟨rfl, hb⟩; refine ⟨_, rfl, ?_⟩; replace HB := bst HB hb; clear hb))
   go_ret2
   exact ⟨by first | rfl | (simp [errW_none, errW_some] <;> rfl) | (simp only [← hji3]; first | rfl | (simp [errW_none, errW_some] <;> rfl)) | (simp [*, errW_none, errW_some] <;> rfl), HB.out⟩
  ·
   rw [if_neg c7] at H
   have c7b0 : (t209.toList == a0.toList) = false := beq_eq_false_iff_ne.mpr c7
   have c7b1 : (t209.toList != a0.toList) = true := bne_iff_ne.mpr c7
   simp only [Option.some.injEq, Prod.mk.injEq] at H
   obtain ⟨rfl, rfl⟩ := H
   go_enter Try.func79, Try.ntmps79
   go_wp2_with (first | ((with_reducible refine gate_callee (f := 75) rfl ?_); refine goesL_ (some 12) rfl rfl Try.func75 (by kernel_rfl) rfl #[.string (a0.extract 0 ((ji3) : Int).toNat)] rfl (by (try simp only [List.map_toArray, List.map_cons, List.map_nil]); first | done | (simp only [hji3]; rfl) | rfl | (simp only [List.length_drop, List.length_take]; rfl)) ?_; (with_reducible refine (credenzaref06_Close.calls k (a0.extract 0 ((ji3) : Int).toNat) t209 _ A6.out).mono ?_); rintro e w11 ⟨rfl, hb⟩; refine ⟨_, rfl, ?_⟩; replace HB := bst HB hb; clear hb))
   go_ret2
   exact ⟨by first | rfl | (simp [errW_none, errW_some] <;> rfl) | (simp only [← hji3]; first | rfl | (simp [errW_none, errW_some] <;> rfl)) | (simp [*, errW_none, errW_some] <;> rfl), HB.out⟩

end Go.Proofs.Ytehepnmagcjkaaa.PBlobParses
