-- Written by a program of this session (wip/tools/mkprint.py over the kit's print).
import Derived.Test.YtehepnmagcjkaaaPBlobBytesx0
import Derived.Test.YtehepnmagcjkaaaPBlobBytesx7
import Derived.Test.YtehepnmagcjkaaaPBlobBytesx11
namespace Go.Proofs.Ytehepnmagcjkaaa.PBlobBytes
open Go.RowKit Go.Proofs.YtehepnmagcjkaaaW.PrintWords Go.Proofs.YtehepnmagcjkaaaW.PrintLast Go.Proofs.YtehepnmagcjkaaaW.PrintMore
attribute [local go_sem] max2_int min2_int max_two min_two max_three min_three max_four min_four   -- for this text's walks alone
set_option linter.unusedVariables false
set_option linter.unusedSimpArgs false

/-! ### credenzaref06_Bytes: function 50 -/
def credenzaref06_Bytes.l0 : Nat → Int → Int → ByteArray → Int → Option (ByteArray)
 | 0, _, _, _, _ => none
 | k + 1, x0, x1, x5, x6 => if x6 < x1 then ((some (([(Int.tmod x0 256) % 256] : List Int) : List Int)).bind fun y197 => (if (strOfNums y197).size + x5.size ≤ 9223372036854775807 then (credenzaref06_Bytes.l0 k (IntKind.u64.wrap (Int.tdiv x0 256)) x1 ((strOfNums y197) ++ x5) (wrap64 (x6 + 1))) else (none))) else (some x5)
def credenzaref06_Bytes.f (k : Nat) (a0 : Int) (a1 : Int) : Option (ByteArray) := credenzaref06_Bytes.l0 k a0 a1 (⟨#[]⟩ : ByteArray) 0
theorem credenzaref06_Bytes.mono_l : ∀ k, (∀ y0 y1 y2 y3, LeO (credenzaref06_Bytes.l0 k y0 y1 y2 y3) (credenzaref06_Bytes.l0 (k + 1) y0 y1 y2 y3))
 | 0 => fun _ _ _ _ r h => by simp [credenzaref06_Bytes.l0] at h
 | k + 1 => by
  have ih0 := credenzaref06_Bytes.mono_l k
  ·
   intro y0 y1 y2 y3
   unfold credenzaref06_Bytes.l0
   repeat' first
   | (with_reducible exact ih0 _ _ _ _)
   | (with_reducible exact LeO.refl _)
   | (with_reducible exact LeO.none _)
   | (with_reducible refine LeO.ite ?_ ?_)
   | (with_reducible refine LeO.bind ?_ (fun _ => ?_))
   | exact ih0 _ _ _ _
   | exact LeO.none _
   | refine LeO.ite ?_ ?_
   | refine LeO.bind ?_ (fun _ => ?_)
theorem credenzaref06_Bytes.mono : ∀ a0 a1 k, LeO (credenzaref06_Bytes.f k a0 a1) (credenzaref06_Bytes.f (k + 1) a0 a1) := by
 intro a0 a1 k
 have ih0 := credenzaref06_Bytes.mono_l k
 unfold credenzaref06_Bytes.f
 repeat' first
   | (with_reducible exact ih0 _ _ _ _)
   | (with_reducible exact LeO.refl _)
   | (with_reducible exact LeO.none _)
   | (with_reducible refine LeO.ite ?_ ?_)
   | (with_reducible refine LeO.bind ?_ (fun _ => ?_))
   | exact ih0 _ _ _ _
   | exact LeO.none _
   | refine LeO.ite ?_ ?_
   | refine LeO.bind ?_ (fun _ => ?_)
set_option maxHeartbeats 8000000 in
set_option maxRecDepth 100000 in
theorem credenzaref06_Bytes.calls (k : Nat) (a0 : Int) (a1 : Int) (r : ByteArray) (w : World) (h : credenzaref06_Bytes.f k a0 a1 = some r) :
  Calls Try.prog 50 #[.int .u64 a0, .int .i64 a1] w fun e w' => e = .returned (.string r) ∧ Below w.heap.size w w' := by
 have HB := Aside0.mk (Below.refl w.heap.size w)
 have H : (credenzaref06_Bytes.l0 k a0 a1 (⟨#[]⟩ : ByteArray) 0) = some r := h
 clear h
 have H' := Aside0.mk H
 clear H
 go_enter Try.func50, Try.ntmps50
 go_wp2
 go_loopg [0, 5, 6] k (fun kq v0 v5 v6 w' => ∃ (x0_1 : Int) (x5_1 : ByteArray) (x6_1 : Int), v0 = .int .u64 x0_1 ∧ v5 = .string x5_1 ∧ v6 = .int .i64 x6_1 ∧ Aside0 (credenzaref06_Bytes.l0 kq x0_1 a1 x5_1 x6_1 = some r) ∧ Aside0 (kq ≤ k) ∧ Aside0 (Below w.heap.size w w'))
 case atStart => exact ⟨(a0), ((⟨#[]⟩ : ByteArray)), (0), (by first | rfl | (simp; done) | (simp [*]; done)), (by first | rfl | (simp; done) | (simp [*]; done)), (by first | rfl | (simp; done) | (simp [*]; done)), H', ⟨Nat.le_refl _⟩, ⟨by with_reducible exact HB.out⟩⟩
 case round =>
  clear H'
  try clear p2
  obtain ⟨x0_1, x5_1, x6_1, rfl, rfl, rfl, HA, HK1, HB⟩ := hrel
  cases gk with
  | zero => exact absurd HA.out (by simp [credenzaref06_Bytes.l0])
  | succ k1 =>
   have H := HA.out
   clear HA
   simp only [credenzaref06_Bytes.l0] at H
   by_cases c3 : x6_1 < a1
   ·
    rw [if_pos c3] at H
    have c3b0 : decide (x6_1 < a1) = true := decide_eq_true c3
    clear c3
    obtain ⟨y197, hy197⟩ : ∃ y_ : List Int, y_ = (([(Int.tmod x0_1 256) % 256] : List Int)) := ⟨_, rfl⟩
    replace H : (if (strOfNums y197).size + x5_1.size ≤ 9223372036854775807 then (credenzaref06_Bytes.l0 k1 (IntKind.u64.wrap (Int.tdiv x0_1 256)) a1 ((strOfNums y197) ++ x5_1) (wrap64 (x6_1 + 1))) else (none)) = some r := by first | (rw [hy197]; with_reducible exact H) | (have H2_ := (Option.bind_some _ _).symm.trans H; rw [hy197]; with_reducible exact H2_) | (have H2_ := (Option.bind_some _ _).symm.trans H; with_reducible exact H2_) | with_reducible exact H | (rw [hy197]; exact H) | exact H
    have Ny197 := Aside0.mk hy197
    clear hy197
    by_cases c4 : (strOfNums y197).size + x5_1.size ≤ 9223372036854775807
    case neg => (rw [if_neg c4] at H; exact absurd H (by simp))
    rw [if_pos c4] at H
    have c4b0 := eq_true c4
    have c4b1 : decide ((strOfNums y197).size + x5_1.size ≤ 9223372036854775807) = true := decide_eq_true c4
    try have c4b2 : (9223372036854775807 < (strOfNums y197).size + x5_1.size) = False := eq_false (Nat.not_lt.2 c4)
    (try (have c4b3 := c4b2; simp only [ByteArray.size_append] at c4b3))
    have H' := Aside0.mk H
    clear H
    go_wp2_with (first | ((with_reducible refine gate_dst (N := 15) rfl ?_); refine Kd.R_lit (Kd.int .u8) _ 5 ?hg (N := 15) ?hd (xs := ([(Int.tmod x0_1 256) % 256] : List Int)) (inner := [.int .u8 ((Int.tmod x0_1 256) % 256)]) (ok := fun _ => True) (okp := fun _ => True) ?hr ?hp (fun _ hk => hk) trivial (Below.refl _ _) (Nat.le_refl _) (by simp) ?_; (case hd => rfl); (case hg => rfl); (case hr => first | (go_simp; done) | (go_simp; rfl)); (case hp => exact (Reps.one (show Kd.M (Kd.int .u8) _ _ _ ((Int.tmod x0_1 256) % 256) [.int .u8 ((Int.tmod x0_1 256) % 256)] from rfl) (Reps.none _ _))); intro v198 w5 ho6 hb hg_ hnew_; clear hg_ hnew_; (first | rw [← Ny197.out] at ho6 | (simp only [Int.reduceToNat] at ho6; rw [← Ny197.out] at ho6)); have n0_ := Aside0.mk (Kd.R_lower ho6 (below_size (by with_reducible exact HB.out))); have n1_ := Aside0.mk (below_step (by with_reducible exact HB.out) hb); clear HB; have HO199 := n0_; have HB := n1_; clear n0_ n1_; clear hb ho6; have hcv7 := own_string (P := Try.prog) Try.underlying32 Try.underlying5 Try.underlying9 (Kd.own_of_R HO199.out)))
    go_roundg k1
    case measure => have := HK1.out; omega
    case rel => exact ⟨(IntKind.u64.wrap (Int.tdiv x0_1 256)), ((strOfNums y197) ++ x5_1), (wrap64 (x6_1 + 1)), (by first | rfl | (simp; done) | (simp [*]; done)), (by first | rfl | (simp; done) | (simp [*]; done)), (by first | rfl | (simp; done) | (simp [*]; done)), H', ⟨by have := HK1.out; omega⟩, ⟨by with_reducible exact HB.out⟩⟩
   ·
    rw [if_neg c3] at H
    have c3b0 : decide (x6_1 < a1) = false := decide_eq_false c3
    clear c3
    obtain rfl := Option.some.inj H
    go_wp2
    go_ret
    exact ⟨by first | rfl | (simp [errW_none, errW_some] <;> rfl) | (simp [*, errW_none, errW_some] <;> rfl), by with_reducible exact HB.out⟩

/-! ### credenzaref06_Word: function 51 -/
def credenzaref06_Word.f (k : Nat) (a0 : Int) : Option (ByteArray) := (credenzaref06_Bytes.f k (IntKind.u64.wrap (wrap64 ((wrap64 (a0)) + 4294967296))) 4).bind fun t200 => (some t200)
theorem credenzaref06_Word.mono : ∀ a0 k, LeO (credenzaref06_Word.f k a0) (credenzaref06_Word.f (k + 1) a0) := by
 intro a0 k
 unfold credenzaref06_Word.f
 repeat' first
   | (with_reducible exact credenzaref06_Bytes.mono _ _ _)
   | (with_reducible exact LeO.refl _)
   | (with_reducible exact LeO.none _)
   | (with_reducible refine LeO.ite ?_ ?_)
   | (with_reducible refine LeO.bind ?_ (fun _ => ?_))
   | exact credenzaref06_Bytes.mono _ _ _
   | exact LeO.none _
   | refine LeO.ite ?_ ?_
   | refine LeO.bind ?_ (fun _ => ?_)
set_option maxHeartbeats 8000000 in
set_option maxRecDepth 100000 in
theorem credenzaref06_Word.calls (k : Nat) (a0 : Int) (r : ByteArray) (w : World) (h : credenzaref06_Word.f k a0 = some r) :
  Calls Try.prog 51 #[.int .i32 a0] w fun e w' => e = .returned (.string r) ∧ Below w.heap.size w w' := by
 have HB := Aside0.mk (Below.refl w.heap.size w)
 have H : ((credenzaref06_Bytes.f k (IntKind.u64.wrap (wrap64 ((wrap64 (a0)) + 4294967296))) 4).bind fun t200 => (some t200)) = some r := h
 clear h
 replace H := Option.bind_eq_some_iff.mp H
 obtain ⟨t200, A20, H⟩ := H
 replace H : (some t200) = some r := H
 have A2 := Aside0.mk A20
 clear A20
 obtain rfl := Option.some.inj H
 go_enter Try.func51, Try.ntmps51
 go_wp2_with (first | ((with_reducible refine gate_callee (f := 50) rfl ?_); refine goesL_ (some 7) rfl rfl Try.func50 (by kernel_rfl) rfl #[.int .u64 (IntKind.u64.wrap (wrap64 ((wrap64 (a0)) + 4294967296))), .int .i64 4] rfl (by (try simp only [List.map_toArray, List.map_cons, List.map_nil]); first | done | rfl | (simp only [List.length_drop, List.length_take]; rfl)) ?_; (with_reducible refine (credenzaref06_Bytes.calls k (IntKind.u64.wrap (wrap64 ((wrap64 (a0)) + 4294967296))) 4 t200 _ A2.out).mono ?_); rintro e w3 ⟨rfl, hb⟩; refine ⟨_, rfl, ?_⟩; have n0_ := Aside0.mk (below_step (by with_reducible exact HB.out) hb); clear HB; have HB := n0_; clear n0_; (try clear hb); (try clear hb2); (try clear hk); (try clear hi)))
 go_ret
 exact ⟨by first | rfl | (simp [errW_none, errW_some] <;> rfl) | (simp [*, errW_none, errW_some] <;> rfl), by with_reducible exact HB.out⟩

/-! ### credenzaref06_Sum: function 95 -/
def credenzaref06_Sum.l0 : Nat → ByteArray → Int → Int → Option (Int)
 | 0, _, _, _ => none
 | k + 1, x0, x3, x4 => if x4 < (x0.size : Int) then (if 0 ≤ x4 then (credenzaref06_Sum.l0 k x0 (Int.tmod (IntKind.u64.wrap ((Go.bits .xor .u64 x3 (IntKind.u64.wrap (bt x0 x4))) * 16777619)) 4294967296) (wrap64 (x4 + 1))) else (none)) else (some ((x3) % 4294967296))
def credenzaref06_Sum.f (k : Nat) (a0 : ByteArray) : Option (Int) := credenzaref06_Sum.l0 k a0 2166136261 0
theorem credenzaref06_Sum.mono_l : ∀ k, (∀ y0 y1 y2, LeO (credenzaref06_Sum.l0 k y0 y1 y2) (credenzaref06_Sum.l0 (k + 1) y0 y1 y2))
 | 0 => fun _ _ _ r h => by simp [credenzaref06_Sum.l0] at h
 | k + 1 => by
  have ih0 := credenzaref06_Sum.mono_l k
  ·
   intro y0 y1 y2
   unfold credenzaref06_Sum.l0
   repeat' first
   | (with_reducible exact ih0 _ _ _)
   | (with_reducible exact LeO.refl _)
   | (with_reducible exact LeO.none _)
   | (with_reducible refine LeO.ite ?_ ?_)
   | (with_reducible refine LeO.bind ?_ (fun _ => ?_))
   | exact ih0 _ _ _
   | exact LeO.none _
   | refine LeO.ite ?_ ?_
   | refine LeO.bind ?_ (fun _ => ?_)
theorem credenzaref06_Sum.mono : ∀ a0 k, LeO (credenzaref06_Sum.f k a0) (credenzaref06_Sum.f (k + 1) a0) := by
 intro a0 k
 have ih0 := credenzaref06_Sum.mono_l k
 unfold credenzaref06_Sum.f
 repeat' first
   | (with_reducible exact ih0 _ _ _)
   | (with_reducible exact LeO.refl _)
   | (with_reducible exact LeO.none _)
   | (with_reducible refine LeO.ite ?_ ?_)
   | (with_reducible refine LeO.bind ?_ (fun _ => ?_))
   | exact ih0 _ _ _
   | exact LeO.none _
   | refine LeO.ite ?_ ?_
   | refine LeO.bind ?_ (fun _ => ?_)
set_option maxHeartbeats 8000000 in
set_option maxRecDepth 100000 in
theorem credenzaref06_Sum.calls (k : Nat) (a0 : ByteArray) (r : Int) (w : World) (h : credenzaref06_Sum.f k a0 = some r) :
  Calls Try.prog 95 #[.string a0] w fun e w' => e = .returned (.int .u32 r) ∧ Drawn0 w w' := by
 have H : (credenzaref06_Sum.l0 k a0 2166136261 0) = some r := h
 clear h
 have H' := Aside0.mk H
 clear H
 go_enter Try.func95, Try.ntmps95
 go_wp2
 go_loopg [3, 4] k (fun kq v3 v4 w' => ∃ (x3_1 : Int) (x4_1 : Int), v3 = .int .u64 x3_1 ∧ v4 = .int .i64 x4_1 ∧ Aside0 (credenzaref06_Sum.l0 kq a0 x3_1 x4_1 = some r) ∧ Aside0 (kq ≤ k) ∧ Drawn0 w w')
 case atStart => exact ⟨(2166136261), (0), (by first | rfl | (simp; done) | (simp [*]; done)), (by first | rfl | (simp; done) | (simp [*]; done)), H', ⟨Nat.le_refl _⟩, by repeat (first | exact Drawn0.refl _ | apply Drawn0.step)⟩
 case round =>
  clear H'
  obtain ⟨x3_1, x4_1, rfl, rfl, HA, HK1, ⟨m1, rfl⟩⟩ := hrel
  cases gk with
  | zero => exact absurd HA.out (by simp [credenzaref06_Sum.l0])
  | succ k1 =>
   have H := HA.out
   clear HA
   simp only [credenzaref06_Sum.l0] at H
   by_cases c2 : x4_1 < (a0.size : Int)
   ·
    rw [if_pos c2] at H
    have c2b0 : decide (x4_1 < (a0.size : Int)) = true := decide_eq_true c2
    clear c2
    by_cases c3 : 0 ≤ x4_1
    case neg => (rw [if_neg c3] at H; exact absurd H (by simp))
    rw [if_pos c3] at H
    have c3b0 : decide (0 ≤ x4_1) = true := decide_eq_true c3
    clear c3
    have H' := Aside0.mk H
    clear H
    have p4 : 0 ≤ (x4_1 : Int) := of_decide_eq_true (by first | (with_reducible assumption) | assumption)
    have q4 : x4_1 < (a0.size : Int) := of_decide_eq_true (by first | (with_reducible assumption) | assumption)
    have hx4 := bt_at a0 x4_1
    replace p4 := eq_true p4
    replace q4 := eq_true q4
    go_wp2
    go_roundg k1
    case measure => have := HK1.out; omega
    case rel => exact ⟨(Int.tmod (IntKind.u64.wrap ((Go.bits .xor .u64 x3_1 (IntKind.u64.wrap (bt a0 x4_1))) * 16777619)) 4294967296), (wrap64 (x4_1 + 1)), (by first | rfl | (simp; done) | (simp [*]; done)), (by first | rfl | (simp; done) | (simp [*]; done)), H', ⟨by have := HK1.out; omega⟩, by repeat (first | exact Drawn0.refl _ | apply Drawn0.step)⟩
   ·
    rw [if_neg c2] at H
    have c2b0 : decide (x4_1 < (a0.size : Int)) = false := decide_eq_false c2
    clear c2
    obtain rfl := Option.some.inj H
    go_wp2
    go_ret
    exact ⟨by first | rfl | (simp; done) | (simp [*]; done), by repeat (first | exact Drawn0.refl _ | apply Drawn0.step)⟩

/-! ### credenzaref06_Close: function 75 -/
def credenzaref06_Close.f (k : Nat) (a0 : ByteArray) : Option (ByteArray) := (credenzaref06_Sum.f k a0).bind fun t201 => ((credenzaref06_Bytes.f k (IntKind.u64.wrap (t201)) 4).bind fun t202 => (if a0.size + t202.size ≤ 9223372036854775807 then (some (a0 ++ t202)) else (none)))
theorem credenzaref06_Close.mono : ∀ a0 k, LeO (credenzaref06_Close.f k a0) (credenzaref06_Close.f (k + 1) a0) := by
 intro a0 k
 unfold credenzaref06_Close.f
 repeat' first
   | (with_reducible exact credenzaref06_Bytes.mono _ _ _)
   | (with_reducible exact credenzaref06_Sum.mono _ _)
   | (with_reducible exact LeO.refl _)
   | (with_reducible exact LeO.none _)
   | (with_reducible refine LeO.ite ?_ ?_)
   | (with_reducible refine LeO.bind ?_ (fun _ => ?_))
   | exact credenzaref06_Bytes.mono _ _ _
   | exact credenzaref06_Sum.mono _ _
   | exact LeO.none _
   | refine LeO.ite ?_ ?_
   | refine LeO.bind ?_ (fun _ => ?_)
set_option maxHeartbeats 8000000 in
set_option maxRecDepth 100000 in
theorem credenzaref06_Close.calls (k : Nat) (a0 : ByteArray) (r : ByteArray) (w : World) (h : credenzaref06_Close.f k a0 = some r) :
  Calls Try.prog 75 #[.string a0] w fun e w' => e = .returned (.string r) ∧ Below w.heap.size w w' := by
 have HB := Aside0.mk (Below.refl w.heap.size w)
 have H : ((credenzaref06_Sum.f k a0).bind fun t201 => ((credenzaref06_Bytes.f k (IntKind.u64.wrap (t201)) 4).bind fun t202 => (if a0.size + t202.size ≤ 9223372036854775807 then (some (a0 ++ t202)) else (none)))) = some r := h
 clear h
 replace H := Option.bind_eq_some_iff.mp H
 obtain ⟨t201, A20, H⟩ := H
 replace H : ((credenzaref06_Bytes.f k (IntKind.u64.wrap (t201)) 4).bind fun t202 => (if a0.size + t202.size ≤ 9223372036854775807 then (some (a0 ++ t202)) else (none))) = some r := H
 have A2 := Aside0.mk A20
 clear A20
 replace H := Option.bind_eq_some_iff.mp H
 obtain ⟨t202, A30, H⟩ := H
 replace H : (if a0.size + t202.size ≤ 9223372036854775807 then (some (a0 ++ t202)) else (none)) = some r := H
 have A3 := Aside0.mk A30
 clear A30
 by_cases c4 : a0.size + t202.size ≤ 9223372036854775807
 case neg => (rw [if_neg c4] at H; exact absurd H (by simp))
 rw [if_pos c4] at H
 have c4b0 := eq_true c4
 have c4b1 : decide (a0.size + t202.size ≤ 9223372036854775807) = true := decide_eq_true c4
 try have c4b2 : (9223372036854775807 < a0.size + t202.size) = False := eq_false (Nat.not_lt.2 c4)
 (try (have c4b3 := c4b2; simp only [ByteArray.size_append] at c4b3))
 obtain rfl := Option.some.inj H
 go_enter Try.func75, Try.ntmps75
 go_wp2_with (first | ((with_reducible refine gate_callee (f := 95) rfl ?_); refine goesL_ (some 5) rfl rfl Try.func95 (by kernel_rfl) rfl #[.string a0] rfl (by (try simp only [List.map_toArray, List.map_cons, List.map_nil]); first | done | rfl | (simp only [List.length_drop, List.length_take]; rfl)) ?_; (with_reducible refine (credenzaref06_Sum.calls k a0 t201 _ A2.out).mono ?_); rintro e w' ⟨rfl, ⟨nd, rfl⟩⟩; refine ⟨_, rfl, ?_⟩) | ((with_reducible refine gate_callee (f := 50) rfl ?_); refine goesL_ (some 7) rfl rfl Try.func50 (by kernel_rfl) rfl #[.int .u64 (IntKind.u64.wrap (t201)), .int .i64 4] rfl (by (try simp only [List.map_toArray, List.map_cons, List.map_nil]); first | done | rfl | (simp only [List.length_drop, List.length_take]; rfl)) ?_; (with_reducible refine (credenzaref06_Bytes.calls k (IntKind.u64.wrap (t201)) 4 t202 _ A3.out).mono ?_); rintro e w5 ⟨rfl, hb⟩; refine ⟨_, rfl, ?_⟩; have n0_ := Aside0.mk (below_step (by repeat (first | (with_reducible first | exact HB.out | apply below_alloc | apply pw_below_drewN | apply below_drew1) | exact HB.out)) hb); clear HB; have HB := n0_; clear n0_; (try clear hb); (try clear hb2); (try clear hk); (try clear hi)))
 go_ret
 exact ⟨by first | rfl | (simp [errW_none, errW_some] <;> rfl) | (simp [*, errW_none, errW_some] <;> rfl), by with_reducible exact HB.out⟩

/-! ### credenzaref18_Bytes: function 35 -/
theorem bytesOf_str (l : List Int) (h : ∀ x ∈ l, 0 ≤ x ∧ x < 256) : bytesOf (strOfNums l) = l := by
 unfold bytesOf
 rw [strOfNums_data, List.map_map]
 refine (List.map_congr_left (fun x hx => ?_)).trans (List.map_id _)
 have := h x hx
 show ((UInt8.ofNat x.toNat).toNat : Int) = x
 rw [UInt8.toNat_ofNat', Nat.mod_eq_of_lt (by omega)]
 omega
theorem wordOf_byte (x : Int) : ∀ y ∈ wordOf x, 0 ≤ y ∧ y < 256 := by
 intro y hy
 simp only [wordOf, List.mem_cons, List.not_mem_nil, or_false] at hy
 rcases hy with rfl | rfl | rfl | rfl <;> omega
/-- The bytes of a constant of one byte: marked rows are only read. -/
theorem lit87_event {P : Program} {ops : Array Oper} {rest : List Oper} {o : Oper} {a : Act} {Q : Exit → Act → World → Prop} {w0 W : World} (base : Nat) (hgd : o.guard = none) {N : Tmp} (_hd : o.dst = some N)
  (hrun : (execOp a.eval o).run P W = .ok (.value (.slice (some ⟨W.heap.size, 0, none⟩) 1 1)) (W.alloc (.cells #[.int .u8 87] 5))) (HB : Below base w0 W) (hbase : base ≤ W.heap.size)
  (h : ∀ g w1, (Kd.int .u8).R 5 w1 base (fun _ => True) (.slice (some ⟨g, 0, none⟩) 1 1) [87] → Below W.heap.size W w1 → wpList P ops Q rest (a.put o.dst (.slice (some ⟨g, 0, none⟩) 1 1)) w1) : wpList P ops Q (o :: rest) a W :=
 Kd.event_run hgd hrun (h _ _ (Kd.R_of_own (xs := [87]) (World.ownsRow_lit (base := base) (e := 5) (size := 1) W #[.int .u8 87] 1 hbase (by decide) rfl) (fun _ _ => trivial)) (below_alloc (Below.refl _ _) _))
theorem append_one {P : Program} {w : World} {ops : Array Oper} {rest : List Oper} {o : Oper} {a : Act} {Q : Exit → Act → World → Prop} (hg : o.guard = none) (s x : Operand) (t : TypeId) (hop : o.op = Op.call { callee := Callee.builtin Builtin.append, args := #[s, x], argTypes := #[t, t] })
  (ht : P.underlying t = some (.slice 5)) (hinfo : (P.info? 5).map (fun i => (i.zero, i.size, i.bytes)) = some (some (.int .u8 0), 1, 1)) (g : Nat) (b0 b1 : Int) (A1 : Option Addr) (m c1 : Nat) (hs : a.eval s = .slice (some ⟨g, 0, none⟩) 1 1) (hx : a.eval x = .slice A1 1 c1)
  (h0 : Kd.C (Kd.int .u8) w (some ⟨g, 0, none⟩) 1 [b0]) (h1 : Kd.C (Kd.int .u8) w A1 1 [b1])
  (hK : ∀ v' w', (Kd.int .u8).R 5 w' w.heap.size (fun _ => True) v' ([b0] ++ [b1]) → Below w.heap.size w w' → wpList P ops Q rest (a.put o.dst v') w') : wpList P ops Q (o :: rest) a w := by
 obtain ⟨i0, hi, hzz⟩ := Option.map_eq_some_iff.1 hinfo
 simp only [Prod.mk.injEq] at hzz
 obtain ⟨hz0, hz1, hz2⟩ := hzz
 obtain ⟨ad, e0, hc0⟩ := Kd.at_int h0 0 (by decide) (by decide)
 cases e0
 obtain ⟨ad1, rfl, hc1⟩ := Kd.at_int h1 0 (by decide) (by decide)
 have l1 : ∀ (q : Addr) (v : Value), w.cell? (q.add (Int.toNat 0)) = some v → ∀ (j : Nat) (u : Value), ([v] : List Value)[j]? = some u → w.cell? (q.add j) = some u := by
  intro q v hv j u hu
  rcases j with _ | j
  ·
   obtain rfl := Option.some.inj hu
   exact hv
  ·
   simp at hu
 refine wpList_append_grows w hg s x t hop 5 i0 (.int .u8 0) 1 1 ht hi hz0 hz1 hz2 rfl (by decide) (some ⟨g, 0, none⟩) 1 1 [.int .u8 b0] hs (fun e => by cases e) rfl (fun b e => by cases e; exact l1 _ _ hc0) ad1 1 c1 [.int .u8 b1] hx rfl (l1 _ _ hc1) (fun u hu => by simp at hu; subst hu; rfl) (by decide) (by decide) (by decide) ?_
 intro v' w' ho hgr
 exact hK v' w' (Kd.R_of_own (xs := [b0] ++ [b1]) ho (fun _ _ => trivial)) ⟨hgr.os, hgr.tape, hgr.output, hgr.size, fun k hk => hgr.block k hk (by simp)⟩
def pw18 (p : S111) : List Int := p.f2.flatMap wordOf
def rb18 (a0_0 : Int) (a0_1 : Int) (a0_2 : Int) (a0_3 : Int) (a0_4 : Int) (a0_5 : Int) (a0_6 : Int) (l0_7 : List Int) (l0_8 : List S111) : List Int := (([87] ++ [a0_0, a0_1, a0_2, a0_3, a0_4, a0_5].map (· % 256)) ++ l0_7.flatMap wordOf) ++ l0_8.flatMap pw18
open Classical in
noncomputable def credenzaref18_Bytes.f (k : Nat) (a0_0 : Int) (a0_1 : Int) (a0_2 : Int) (a0_3 : Int) (a0_4 : Int) (a0_5 : Int) (a0_6 : Int) (l0_7 : List Int) (l0_8 : List S111) : Option ByteArray :=
 if ((∀ x ∈ l0_7, credenzaref06_Word.f k x = some (strOfNums (wordOf x))) ∧ ∀ p ∈ l0_8, ∀ x ∈ p.f2, credenzaref06_Word.f k x = some (strOfNums (wordOf x))) ∧ (rb18 a0_0 a0_1 a0_2 a0_3 a0_4 a0_5 a0_6 l0_7 l0_8).length ≤ 900000 then credenzaref06_Close.f k (strOfNums (rb18 a0_0 a0_1 a0_2 a0_3 a0_4 a0_5 a0_6 l0_7 l0_8)) else none
theorem credenzaref18_Bytes.mono : ∀ a0_0 a0_1 a0_2 a0_3 a0_4 a0_5 a0_6 l0_7 l0_8 k, LeO (credenzaref18_Bytes.f k a0_0 a0_1 a0_2 a0_3 a0_4 a0_5 a0_6 l0_7 l0_8) (credenzaref18_Bytes.f (k + 1) a0_0 a0_1 a0_2 a0_3 a0_4 a0_5 a0_6 l0_7 l0_8) := by
 intro a0_0 a0_1 a0_2 a0_3 a0_4 a0_5 a0_6 l0_7 l0_8 k r h
 unfold credenzaref18_Bytes.f at h ⊢
 split at h
 ·
  next hc => rw [if_pos ⟨⟨fun x hx => credenzaref06_Word.mono _ _ _ (hc.1.1 x hx), fun p hp x hx => credenzaref06_Word.mono _ _ _ (hc.1.2 p hp x hx)⟩, hc.2⟩]; exact credenzaref06_Close.mono _ _ _ h
 ·
  cases h
set_option maxHeartbeats 8000000 in
set_option maxRecDepth 100000 in
theorem credenzaref18_Bytes.calls (k : Nat) (a0_0 : Int) (a0_1 : Int) (a0_2 : Int) (a0_3 : Int) (a0_4 : Int) (a0_5 : Int) (a0_6 : Int) (A0_7 : Option Addr) (c0_7 : Nat) (l0_7 : List Int) (A0_8 : Option Addr) (c0_8 : Nat) (l0_8 : List (S111)) (r : ByteArray) (w : World) (hr0_7 : Kd.C (Kd.int .i32) w A0_7 l0_7.length l0_7) (hc0_7 : l0_7.length ≤ c0_7) (hr0_8 : Kd.C k111 w A0_8 l0_8.length l0_8) (hc0_8 : l0_8.length ≤ c0_8) (h : credenzaref18_Bytes.f k a0_0 a0_1 a0_2 a0_3 a0_4 a0_5 a0_6 l0_7 l0_8 = some r) :
  Calls Try.prog 35 #[.agg #[.int .i64 a0_0, .int .i64 a0_1, .int .i64 a0_2, .int .i64 a0_3, .int .i64 a0_4, .int .i64 a0_5, .int .i64 a0_6, .slice A0_7 l0_7.length c0_7, .slice A0_8 l0_8.length c0_8]] w fun e w' => e = .returned (.string r) ∧ Below w.heap.size w w' := by
 have hu73 := Try.underlying73
 have hu56 := Try.underlying56
 have hu62 := Try.underlying62
 have hu71 := Try.underlying71
 have hu111 := Try.underlying111
 have HB := aM (Below.refl w.heap.size w)
 have HR7 := aM hr0_7
 have HC7 := aM hc0_7
 clear hr0_7 hc0_7
 have HR8 := aM hr0_8
 have HC8 := aM hc0_8
 clear hr0_8 hc0_8
 unfold credenzaref18_Bytes.f at h
 split at h
 case isFalse => cases h
 case isTrue hcnd =>
  obtain ⟨⟨hw7, hw8⟩, hlt⟩ := hcnd
  have HW7 := aM hw7
  have HW8 := aM hw8
  have HS := aM h
  obtain ⟨tot, htot⟩ : ∃ x_, rb18 a0_0 a0_1 a0_2 a0_3 a0_4 a0_5 a0_6 l0_7 l0_8 = x_ := ⟨_, rfl⟩
  rw [htot] at hlt HS
  obtain ⟨cl, hcl⟩ : ∃ x_, [a0_0, a0_1, a0_2, a0_3, a0_4, a0_5] = x_ := ⟨_, rfl⟩
  have HTOT : Aside0 ((([87] ++ cl.map (· % 256)) ++ l0_7.flatMap wordOf) ++ l0_8.flatMap pw18 = tot) := ⟨by rw [← htot, ← hcl]; rfl⟩
  have HLT : Aside0 ((l0_7.flatMap wordOf).length ≤ 900000 ∧ (l0_8.flatMap pw18).length ≤ 900000 ∧ tot.length ≤ 900000) := ⟨by have h_ := congrArg List.length HTOT.out; simp only [List.length_append] at h_; omega⟩
  have HCL : Aside0 (∀ n, n < 6 → ∃ y, cl[n]? = some y ∧ (#[.int .i64 a0_0, .int .i64 a0_1, .int .i64 a0_2, .int .i64 a0_3, .int .i64 a0_4, .int .i64 a0_5, .int .i64 a0_6, .slice A0_7 l0_7.length c0_7, .slice A0_8 l0_8.length c0_8] : Array Value)[n]? = some (.int .i64 y)) := ⟨fun n hn => by rcases n with _ | _ | _ | _ | _ | _ | n <;> first | omega | exact ⟨_, by rw [← hcl]; rfl, rfl⟩⟩
  have HCLN : Aside0 (cl.length = 6) := ⟨by rw [← hcl]; rfl⟩
  clear h hw7 hw8 hlt htot hcl
  go_enter Try.func35, Try.ntmps35
  go_wp2_with (first | ((with_reducible refine gate_dst (N := 1) rfl ?_); refine box_event ?hg (N := 1) ?hd (cs := #[.int .i64 a0_0, .int .i64 a0_1, .int .i64 a0_2, .int .i64 a0_3, .int .i64 a0_4, .int .i64 a0_5, .int .i64 a0_6, .slice A0_7 l0_7.length c0_7, .slice A0_8 l0_8.length c0_8]) (t := 73) ?hr ?_; (case hd => rfl); (case hg => rfl); (case hr => first | (go_simp; done) | (go_simp; rfl)); intro gb hg w1 hbox hb; have hz1 := bx9 hbox; have BK := aM hbox; replace HB := aM hb; clear hbox hb hg) | ((with_reducible refine gate_dst (N := 8) rfl ?_); refine lit87_event (w0 := w) w.heap.size ?hg (N := 8) ?hd ?hr ?hB ?hs ?_; (case hd => rfl); (case hg => rfl); (case hr => first | (go_simp; done) | (go_simp; rfl)); (case hB => exact HB.out); (case hs => exact (below_size HB.out)); intro g8 w2 hR hb; obtain ⟨w3, hcv0, hC, hgr, hbl, -⟩ := run_mark (P := Try.prog) (xs := [87]) Try.underlying32 Try.underlying5 hR (by decide); have hcv : (convert 32 32 (.slice (some ⟨g8, 0, none⟩) 1 1)).run Try.prog w2 = .ok (.slice (some ⟨g8, 0, none⟩) 1 1) w3 := hcv0; have HC87 : Aside0 (Kd.C (Kd.int .u8) w3 (some ⟨g8, 0, none⟩) 1 [87]) := ⟨hC⟩; clear hcv0; replace BK := aM (blk_below BK.out hb); replace BK := aM (blk_grown BK.out hgr (Kd.R_ne hR BK.out (by decide))); replace HB := aM (hbl w (below_step HB.out hb)); clear hR hb hC hgr hbl hz1))
  go_loopw [3, 4] (fun v_ i_ W' => ∃ (n_ : Nat), i_ = .int .i64 n_ ∧ Aside0 (n_ ≤ 6) ∧ Aside0 ((n_ = 0 ∧ v_ = .slice (some ⟨g8, 0, none⟩) 1 1 ∧ Kd.C (Kd.int .u8) W' (some ⟨g8, 0, none⟩) 1 [87]) ∨ Kd.R (Kd.int .u8) 5 W' w.heap.size (fun _ => True) v_ ([87] ++ (cl.map (· % 256)).take n_)) ∧ Aside0 (W'.heap[gb]? = some (.cells #[.int .i64 a0_0, .int .i64 a0_1, .int .i64 a0_2, .int .i64 a0_3, .int .i64 a0_4, .int .i64 a0_5, .int .i64 a0_6, .slice A0_7 l0_7.length c0_7, .slice A0_8 l0_8.length c0_8] 73 (0, 0))) ∧ Aside0 (Below w.heap.size w W')) (fun _ i_ _ => 6 - (intOf i_).toNat)
  case atStart => exact ⟨0, rfl, ⟨Nat.zero_le _⟩, ⟨.inl ⟨rfl, rfl, HC87.out⟩⟩, BK, HB⟩
  case round =>
   clear HC87 BK HB
   obtain ⟨n, rfl, HJ, HRB, BK, HB⟩ := hrel
   by_cases q : n < 6
   ·
    have f1 : decide ((n : Int) < 6) = true := decide_eq_true (by omega)
    have f2 : decide (n < 6) = true := decide_eq_true q
    have p0 : (0 : Int) ≤ (n : Int) := by omega
    have p1 : ((n : Int) < 6) = True := eq_true (by omega)
    have p2 : (n < 6) = True := eq_true q
    obtain ⟨y, hy, hya⟩ := HCL.out n q
    have hx : wr.cell? ⟨gb, n, none⟩ = some (.int .i64 y) := (blk_cell BK.out n).trans hya
    have hz0 := blk_frozen BK.out
    have HTK : Aside0 ((cl.map (· % 256)).take (n + 1) = (cl.map (· % 256)).take n ++ [y % 256]) := ⟨by rw [List.take_add_one, List.getElem?_map, hy]; rfl⟩
    have HLE : Aside0 (([87] ++ (cl.map (· % 256)).take n).length ≤ 10) := ⟨by rw [List.length_append, List.length_take]; simp only [List.length_cons, List.length_nil]; omega⟩
    rcases HRB.out with ⟨rfl, rfl, h87⟩ | hrb
    ·
     have H87 := aM h87
     clear HRB h87
     go_wp2_with (first | ((with_reducible refine gate_dst (N := 20) rfl ?_); refine Kd.R_lit (Kd.int .u8) _ 5 ?hg (N := 20) ?hd (xs := ([y % 256] : List Int)) (inner := [.int .u8 (y % 256)]) (ok := fun _ => True) (okp := fun _ => True) ?hr ?hp (fun _ hk => hk) trivial (Below.refl _ _) (Nat.le_refl _) (by simp) ?_; (case hd => rfl); (case hg => rfl); (case hr => first | (go_simp; done) | (go_simp; rfl)); (case hp => exact (Reps.one rfl (Reps.none _ _))); intro v1 w3 ho hb hg hat; obtain ⟨A1, c1, rfl⟩ := slice_one ho; have HC1 := aM (Kd.R_reads' ho).2.2; replace BK := aM (blk_below BK.out hb); replace H87 := aM (Kd.C_below H87.out hb); replace HB := aM (below_step HB.out hb); clear ho hb hg hat hx hz0) | ((with_reducible refine gate_builtin (b := .append) (xs := #[.tmp 14, .tmp 20]) rfl ?_); at_builtin; refine append_one ?hgd (.tmp 14) (.tmp 20) 32 rfl Try.underlying32 info5 g8 87 (y % 256) A1 1 c1 rfl rfl H87.out HC1.out ?_; (case hgd => rfl); intro v2 w4 ho hb; replace BK := aM (blk_below BK.out hb); have HR2 := aM (Kd.R_lower ho (below_size HB.out)); replace HB := aM (below_step HB.out hb); clear ho hb))
     go_roundw
     case rel => exact ⟨1, by go_num, ⟨by decide⟩, ⟨.inr (by rw [HTK.out]; exact HR2.out)⟩, BK, HB⟩
     case measure => simp [intOf]
    ·
     replace HRB := aM hrb
     clear hrb
     obtain ⟨bs, hbs⟩ : ∃ x_, [87] ++ (cl.map (· % 256)).take n = x_ := ⟨_, rfl⟩
     have HBS := aM hbs
     rw [hbs] at HRB HLE
     obtain ⟨Av, cv, rfl⟩ := Kd.R_slice HRB.out
     clear hy hya hbs
     go_wp2_with (first | ((with_reducible refine gate_dst (N := 20) rfl ?_); refine Kd.R_lit (Kd.int .u8) _ 5 ?hg (N := 20) ?hd (xs := ([y % 256] : List Int)) (inner := [.int .u8 (y % 256)]) (ok := fun _ => True) (okp := fun _ => True) ?hr ?hp (fun _ hk => hk) trivial (Below.refl _ _) (Nat.le_refl _) (by simp) ?_; (case hd => rfl); (case hg => rfl); (case hr => first | (go_simp; done) | (go_simp; rfl)); (case hp => exact (Reps.one rfl (Reps.none _ _))); intro v1 w3 ho hb hg hat; obtain ⟨A1, c1, rfl⟩ := slice_one ho; have HC1 := aM (Kd.R_reads' ho).2.2; replace BK := aM (blk_below BK.out hb); replace HRB := aM (Kd.R_below HRB.out hb); replace HB := aM (below_step HB.out hb); clear ho hb hg hat hx hz0) | ((with_reducible refine gate_builtin (b := .append) (xs := #[.tmp 14, .tmp 20]) rfl ?_); at_builtin; refine Kd.R_append_rows (Kd.int .u8) (w0 := w) w.heap.size rfl (.tmp 14) (.tmp 20) 32 5 (.int .u8 0) 1 rfl Try.underlying32 info5 rfl (by decide) (by decide) (.slice Av bs.length cv) bs [y % 256] _ _ _ (fun _ => True) (fun _ => False) rfl rfl ?aO ?aR (fun _ _ h => h) (fun _ h => h.elim) ?aF ?aB ?aS ?aL ?_; (case aR => exact HC1.out); (case aB => exact HB.out); (case aF => exact (fun _ _ => trivial)); (case aO => exact HRB.out); (case aS => exact (below_size HB.out)); (case aL => have := HLE.out; simp; omega); intro v2 w4 ho hb hg hat; replace BK := aM (blk_grown BK.out hg (Kd.R_ne HRB.out BK.out (by decide))); obtain ⟨A2, c2_, rfl⟩ := Kd.R_slice ho; obtain ⟨nL, hnL⟩ : ∃ m_, (bs ++ [y % 256]).length = m_ := ⟨_, rfl⟩; rw [hnL] at ho ⊢; replace HRB := aM ho; replace HB := aM hb; clear ho hb hg hat hnL))
     go_roundw
     case rel => exact ⟨n + 1, by go_num, ⟨q⟩, ⟨.inr (by rw [HTK.out, ← List.append_assoc, HBS.out]; exact HRB.out)⟩, BK, HB⟩
     case measure => simp [intOf]; omega
   ·
    have f1 : decide ((n : Int) < 6) = false := decide_eq_false (by omega)
    have f2 : decide (n < 6) = false := decide_eq_false q
    obtain ⟨n6, hn6⟩ : ∃ x_ : Int, (n : Int) = x_ := ⟨_, rfl⟩
    rw [hn6] at f1 ⊢
    obtain rfl : n = 6 := by have := HJ.out; omega
    clear hn6 f2
    replace HRB := aM (HRB.out.resolve_left (fun e => absurd e.1 (by decide)))
    have htk : (cl.map (· % 256)).take 6 = cl.map (· % 256) := List.take_of_length_le (by rw [List.length_map, HCLN.out]; exact Nat.le_refl _)
    rw [htk] at HRB
    obtain ⟨hd, hhd⟩ : ∃ x_, [87] ++ cl.map (· % 256) = x_ := ⟨_, rfl⟩
    have HDL : Aside0 (hd.length ≤ 10) := ⟨by rw [← hhd, List.length_append, List.length_map, HCLN.out]; decide⟩
    rw [hhd] at HRB HTOT
    clear htk hhd q HJ
    go_wp2
    go_loopw [3, 5] (fun v_ i_ W' => ∃ (n_ : Nat), i_ = .int .i64 n_ ∧ Aside0 (n_ ≤ l0_7.length) ∧ Aside0 (Kd.R (Kd.int .u8) 5 W' w.heap.size (fun _ => True) v_ (hd ++ (l0_7.take n_).flatMap wordOf)) ∧ Aside0 (W'.heap[gb]? = some (.cells #[.int .i64 a0_0, .int .i64 a0_1, .int .i64 a0_2, .int .i64 a0_3, .int .i64 a0_4, .int .i64 a0_5, .int .i64 a0_6, .slice A0_7 l0_7.length c0_7, .slice A0_8 l0_8.length c0_8] 73 (0, 0))) ∧ Aside0 (Below w.heap.size w W')) (fun _ i_ _ => l0_7.length - (intOf i_).toNat)
    case atStart => exact ⟨0, rfl, ⟨Nat.zero_le _⟩, ⟨by rw [List.take_zero, List.flatMap_nil, List.append_nil]; exact HRB.out⟩, BK, HB⟩
    case round =>
     clear HRB BK HB
     obtain ⟨n, rfl, HJ, HRB, BK, HB⟩ := hrel
     have hz9 := bx9 BK.out
     by_cases q : n < l0_7.length
     ·
      have f1 : decide ((n : Int) < (l0_7.length : Int)) = true := decide_eq_true (by omega)
      have f2 : decide (n < l0_7.length) = true := decide_eq_true q
      have hl64 := HR7.out.2.1
      have p0 : (0 : Int) ≤ (n : Int) := by omega
      have p1 : (n : Int) < (l0_7.length : Int) := by omega
      obtain ⟨ad, he, hx⟩ := Kd.at_int HR7.out (n : Int) p0 p1
      cases he
      simp only [Int.toNat_natCast] at hx
      replace hx := (HB.out.cell (World.block_lt_of_cell? w _ hx)).trans hx
      obtain ⟨y, hy⟩ : ∃ x_, rd l0_7 (n : Int) = x_ := ⟨_, rfl⟩
      rw [hy] at hx
      have hxy : l0_7[n]? = some y := by rw [← hy, List.getElem?_eq_getElem q]; simp [rd, List.getElem?_eq_getElem q]
      have HWY := aM (HW7.out y (List.mem_of_getElem? hxy))
      have HTK := aM (fm_succ wordOf hxy)
      have HLE : Aside0 ((hd ++ (l0_7.take n).flatMap wordOf).length ≤ 1800000) := ⟨by have h1_ := fm_le wordOf l0_7 n; have h2_ := HLT.out.1; have h3_ := HDL.out; rw [List.length_append]; omega⟩
      obtain ⟨bs, hbs⟩ : ∃ x_, hd ++ (l0_7.take n).flatMap wordOf = x_ := ⟨_, rfl⟩
      have HBS := aM hbs
      rw [hbs] at HRB HLE
      obtain ⟨Av, cv, rfl⟩ := Kd.R_slice HRB.out
      clear hy hxy hbs
      go_wp2_with (first | (go_at_call 51; (with_reducible refine (credenzaref06_Word.calls k y (strOfNums (wordOf y)) _ HWY.out).mono ?_); rintro e w5 ⟨rfl, hb⟩; replace BK := aM (blk_below BK.out hb); replace HRB := aM (Kd.R_below HRB.out hb); replace HB := aM (below_step HB.out hb); clear hb hx hz9) | ((with_reducible refine gate_builtin (b := .append) (xs := #[.tmp 29, .tmp 35]) rfl ?_); at_builtin; refine print_append_str (w0 := w) w.heap.size rfl (.tmp 29) _ 32 9 5 rfl Try.underlying32 Try.underlying9 info5 (.slice Av bs.length cv) bs (strOfNums (wordOf y)) rfl rfl ?aO ?aB ?aS ?aL ?_; (case aO => exact (Kd.own_of_R HRB.out)); (case aB => exact HB.out); (case aS => exact (below_size HB.out)); (case aL => have := HLE.out; rw [strOfNums_size]; show _ + 4 ≤ _; omega); intro v6 w6 ho hb hg; rw [bytesOf_str _ (wordOf_byte y)] at ho; replace BK := aM (blk_grown BK.out hg (Kd.R_ne HRB.out BK.out (by decide))); replace HRB := aM (show Kd.R (Kd.int .u8) 5 w6 w.heap.size (fun _ => True) v6 (bs ++ wordOf y) from Kd.R_of_own ho (fun _ _ => trivial)); replace HB := aM hb; clear ho hb hg))
      have hwn : wrap64 ((n : Int) + 1) = (n : Int) + 1 := by simp only [wrap64]; omega
      try rw [hwn]
      exact ⟨⟨n + 1, rfl, ⟨q⟩, ⟨by rw [HTK.out, ← List.append_assoc, HBS.out]; exact HRB.out⟩, BK, HB⟩, by simp only [intOf]; omega⟩
     ·
      have f1 : decide ((n : Int) < (l0_7.length : Int)) = false := decide_eq_false (by omega)
      have f2 : decide (n < l0_7.length) = false := decide_eq_false q
      obtain rfl : n = l0_7.length := by have := HJ.out; omega
      rw [List.take_length] at HRB
      have HDL2 : Aside0 ((hd ++ l0_7.flatMap wordOf).length ≤ 900010) := ⟨by have h2_ := HLT.out.1; have h3_ := HDL.out; rw [List.length_append]; omega⟩
      obtain ⟨h2, hh2⟩ : ∃ x_, hd ++ l0_7.flatMap wordOf = x_ := ⟨_, rfl⟩
      rw [hh2] at HRB HTOT HDL2
      clear hh2 q HJ
      go_wp2
      clear f1 f2 hz9
      go_loopw [3, 6] (fun v_ i_ W' => ∃ (n_ : Nat), i_ = .int .i64 n_ ∧ Aside0 (n_ ≤ l0_8.length) ∧ Aside0 (Kd.R (Kd.int .u8) 5 W' w.heap.size (fun _ => True) v_ (h2 ++ (l0_8.take n_).flatMap pw18)) ∧ Aside0 (W'.heap[gb]? = some (.cells #[.int .i64 a0_0, .int .i64 a0_1, .int .i64 a0_2, .int .i64 a0_3, .int .i64 a0_4, .int .i64 a0_5, .int .i64 a0_6, .slice A0_7 l0_7.length c0_7, .slice A0_8 l0_8.length c0_8] 73 (0, 0))) ∧ Aside0 (Below w.heap.size w W')) (fun _ i_ _ => l0_8.length - (intOf i_).toNat)
      case atStart => exact ⟨0, rfl, ⟨Nat.zero_le _⟩, ⟨by rw [List.take_zero, List.flatMap_nil, List.append_nil]; exact HRB.out⟩, BK, HB⟩
      case round =>
       clear HRB BK HB
       obtain ⟨n, rfl, HJ, HRB, BK, HB⟩ := hrel
       have hz9 := bx9 BK.out
       by_cases q : n < l0_8.length
       ·
        have f1 : decide ((n : Int) < (l0_8.length : Int)) = true := decide_eq_true (by omega)
        have f2 : decide (n < l0_8.length) = true := decide_eq_true q
        have hl64 := HR8.out.2.1
        have p0 : (0 : Int) ≤ (n : Int) := by omega
        have p1 : (n : Int) < (l0_8.length : Int) := by omega
        obtain ⟨x, hx⟩ : ∃ x, l0_8[n]? = some x := ⟨_, List.getElem?_eq_getElem q⟩
        have hrd : rd_T111 l0_8 (n : Int) = x := by unfold rd_T111; rw [List.getD_eq_getElem?_getD, Int.toNat_natCast, hx]; rfl
        obtain ⟨ad, A2, c2, he, -, -, hx2, hle, hC2⟩ := at_T111 HR8.out (n : Int) p0 p1
        cases he
        rw [hrd] at hx2 hle hC2
        simp only [Int.toNat_natCast] at hx2
        obtain ⟨xs, hxs⟩ : ∃ x_, x.f2 = x_ := ⟨_, rfl⟩
        rw [hxs] at hx2 hle hC2
        have HX2 := aM hx2
        have HC2 := aM hC2
        have HWX : Aside0 (∀ y ∈ xs, credenzaref06_Word.f k y = some (strOfNums (wordOf y))) := ⟨fun y hy => HW8.out x (List.mem_of_getElem? hx) y (by rw [hxs]; exact hy)⟩
        have HTK : Aside0 ((l0_8.take (n + 1)).flatMap pw18 = (l0_8.take n).flatMap pw18 ++ xs.flatMap wordOf) := ⟨by rw [fm_succ pw18 hx]; unfold pw18; rw [hxs]⟩
        have HXL : Aside0 ((xs.flatMap wordOf).length ≤ 900000) := ⟨by have h1_ := fm_le pw18 l0_8 (n + 1); rw [HTK.out, List.length_append] at h1_; have h2_ := HLT.out.2.1; omega⟩
        have HLE0 : Aside0 ((h2 ++ (l0_8.take n).flatMap pw18).length ≤ 1800010) := ⟨by have h1_ := fm_le pw18 l0_8 n; have h2_ := HLT.out.2.1; have h3_ := HDL2.out; rw [List.length_append]; omega⟩
        obtain ⟨bs0, hbs0⟩ : ∃ x_, h2 ++ (l0_8.take n).flatMap pw18 = x_ := ⟨_, rfl⟩
        have HBS0 := aM hbs0
        rw [hbs0] at HRB HLE0
        clear hrd hx hx2 hle hC2 hxs hbs0
        go_wp2
        clear f1 f2 hz9
        go_loopw [3, 7] (fun v_ i_ W' => ∃ (m_ : Nat), i_ = .int .i64 m_ ∧ Aside0 (m_ ≤ xs.length) ∧ Aside0 (Kd.R (Kd.int .u8) 5 W' w.heap.size (fun _ => True) v_ (bs0 ++ (xs.take m_).flatMap wordOf)) ∧ Aside0 (W'.heap[gb]? = some (.cells #[.int .i64 a0_0, .int .i64 a0_1, .int .i64 a0_2, .int .i64 a0_3, .int .i64 a0_4, .int .i64 a0_5, .int .i64 a0_6, .slice A0_7 l0_7.length c0_7, .slice (some ad) l0_8.length c0_8] 73 (0, 0))) ∧ Aside0 (Below w.heap.size w W')) (fun _ i_ _ => xs.length - (intOf i_).toNat)
        case atStart => exact ⟨0, rfl, ⟨Nat.zero_le _⟩, ⟨by rw [List.take_zero, List.flatMap_nil, List.append_nil]; exact HRB.out⟩, BK, HB⟩
        case round =>
         clear HRB BK HB
         obtain ⟨m, rfl, HJ2, HRB, BK, HB⟩ := hrel
         have hz9 := bx9 BK.out
         have hx2 := (HB.out.cell (World.block_lt_of_cell? w _ HX2.out)).trans HX2.out
         have f1 : decide ((n : Int) < (l0_8.length : Int)) = true := decide_eq_true (by omega)
         have f2 : decide (n < l0_8.length) = true := decide_eq_true q
         by_cases q2 : m < xs.length
         ·
          have e1 : decide ((m : Int) < (xs.length : Int)) = true := decide_eq_true (by omega)
          have e2 : decide (m < xs.length) = true := decide_eq_true q2
          have hlx := HC2.out.2.1
          have p2 : (0 : Int) ≤ (m : Int) := by omega
          have p3 : (m : Int) < (xs.length : Int) := by omega
          obtain ⟨ad2, he, hx⟩ := Kd.at_int HC2.out (m : Int) p2 p3
          cases he
          simp only [Int.toNat_natCast] at hx
          replace hx := (HB.out.cell (World.block_lt_of_cell? w _ hx)).trans hx
          obtain ⟨y, hy⟩ : ∃ x_, rd xs (m : Int) = x_ := ⟨_, rfl⟩
          rw [hy] at hx
          have hxy : xs[m]? = some y := by rw [← hy, List.getElem?_eq_getElem q2]; simp [rd, List.getElem?_eq_getElem q2]
          have HWY := aM (HWX.out y (List.mem_of_getElem? hxy))
          have HTK2 := aM (fm_succ wordOf hxy)
          have HLE : Aside0 ((bs0 ++ (xs.take m).flatMap wordOf).length ≤ 2800010) := ⟨by have h1_ := fm_le wordOf xs m; have h2_ := HXL.out; have h3_ := HLE0.out; rw [List.length_append]; omega⟩
          obtain ⟨bs, hbs⟩ : ∃ x_, bs0 ++ (xs.take m).flatMap wordOf = x_ := ⟨_, rfl⟩
          have HBS := aM hbs
          rw [hbs] at HRB HLE
          obtain ⟨Av, cv, rfl⟩ := Kd.R_slice HRB.out
          clear hy hxy hbs
          go_wp2_with (first | (go_at_call 51; (with_reducible refine (credenzaref06_Word.calls k y (strOfNums (wordOf y)) _ HWY.out).mono ?_); rintro e w5 ⟨rfl, hb⟩; replace BK := aM (blk_below BK.out hb); replace HRB := aM (Kd.R_below HRB.out hb); replace HB := aM (below_step HB.out hb); clear hb hx hz9) | ((with_reducible refine gate_builtin (b := .append) (xs := #[.tmp 55, .tmp 65]) rfl ?_); at_builtin; refine print_append_str (w0 := w) w.heap.size rfl (.tmp 55) _ 32 9 5 rfl Try.underlying32 Try.underlying9 info5 (.slice Av bs.length cv) bs (strOfNums (wordOf y)) rfl rfl ?aO ?aB ?aS ?aL ?_; (case aO => exact (Kd.own_of_R HRB.out)); (case aB => exact HB.out); (case aS => exact (below_size HB.out)); (case aL => have := HLE.out; rw [strOfNums_size]; show _ + 4 ≤ _; omega); intro v6 w6 ho hb hg; rw [bytesOf_str _ (wordOf_byte y)] at ho; replace BK := aM (blk_grown BK.out hg (Kd.R_ne HRB.out BK.out (by decide))); replace HRB := aM (show Kd.R (Kd.int .u8) 5 w6 w.heap.size (fun _ => True) v6 (bs ++ wordOf y) from Kd.R_of_own ho (fun _ _ => trivial)); replace HB := aM hb; clear ho hb hg))
          have hwn : wrap64 ((m : Int) + 1) = (m : Int) + 1 := by simp only [wrap64]; omega
          try rw [hwn]
          exact ⟨⟨m + 1, rfl, ⟨q2⟩, ⟨by rw [HTK2.out, ← List.append_assoc, HBS.out]; exact HRB.out⟩, BK, HB⟩, by simp only [intOf]; omega⟩
         ·
          have e1 : decide ((m : Int) < (xs.length : Int)) = false := decide_eq_false (by omega)
          have e2 : decide (m < xs.length) = false := decide_eq_false q2
          obtain rfl : m = xs.length := by have := HJ2.out; omega
          rw [List.take_length] at HRB
          have hwn : wrap64 ((n : Int) + 1) = (n : Int) + 1 := by have := HR8.out.2.1; simp only [wrap64]; omega
          go_wp2
          try rw [hwn]
          exact ⟨⟨n + 1, rfl, ⟨q⟩, ⟨by rw [HTK.out, ← List.append_assoc, HBS0.out]; exact HRB.out⟩, BK, HB⟩, by simp only [intOf]; omega⟩
       ·
        have f1 : decide ((n : Int) < (l0_8.length : Int)) = false := decide_eq_false (by omega)
        have f2 : decide (n < l0_8.length) = false := decide_eq_false q
        obtain rfl : n = l0_8.length := by have := HJ.out; omega
        rw [List.take_length, HTOT.out] at HRB
        obtain ⟨Av, cv, rfl⟩ := Kd.R_slice HRB.out
        have hcv := own_string (P := Try.prog) Try.underlying32 Try.underlying5 Try.underlying9 (Kd.own_of_R HRB.out)
        go_wp2_with (go_at_call 75; (with_reducible refine (credenzaref06_Close.calls k (strOfNums tot) r _ HS.out).mono ?_); rintro e w9 ⟨rfl, hb⟩; replace HB := aM (below_step HB.out hb); clear hb)
        go_ret
        exact ⟨rfl, HB.out⟩
-- calls: credenzalaw18_ref credenzaref06_Word credenzaref06_Close

end Go.Proofs.Ytehepnmagcjkaaa.PBlobBytes
