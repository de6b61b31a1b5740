-- Written by a program of this session (wip/tools/mkprint.py over the kit's print).
import Derived.Test.YtehepnmagcjkaaaPAskBytesx0
namespace Go.Proofs.Ytehepnmagcjkaaa.PAskBytes
open Go.RowKit Go.Proofs.YtehepnmagcjkaaaW.PrintWords Go.Proofs.YtehepnmagcjkaaaW.PrintLast Go.Proofs.YtehepnmagcjkaaaW.PrintMore
attribute [local go_sem] max2_int min2_int max_two min_two max_three min_three max_four min_four   -- for this text's walks alone
set_option linter.unusedVariables false
set_option linter.unusedSimpArgs false

/-! ### credenzalaw22_ref: function 15 -/
def credenzalaw22_ref.f (_ : Int) (_ : Int) (_ : List Int) (_ : Int) (_ : Int) (_ : Int) (_ : Int) (_ : Int) (_ : Int) : Option Unit := some ()
set_option maxHeartbeats 8000000 in
set_option maxRecDepth 100000 in
theorem credenzalaw22_ref.calls (a0_0 : Int) (a0_1 : Int) (A0_2 : Option Addr) (c0_2 : Nat) (l0_2 : List Int) (a0_3 : Int) (a0_4 : Int) (a0_5 : Int) (a0_6 : Int) (a0_7 : Int) (a0_8 : Int) (w : World) (hr0_2 : Kd.C (Kd.int .i64) w A0_2 l0_2.length l0_2) (hc0_2 : l0_2.length ≤ c0_2) (h : credenzalaw22_ref.f a0_0 a0_1 l0_2 a0_3 a0_4 a0_5 a0_6 a0_7 a0_8 = some ()) :
  Calls Try.prog 15 #[.agg #[.int .i64 a0_0, .int .u32 a0_1, .slice A0_2 l0_2.length c0_2, .int .i64 a0_3, .int .i64 a0_4, .int .i32 a0_5, .int .i64 a0_6, .int .u64 a0_7, .int .i64 a0_8]] w fun e w' => e = .returned (.agg #[.int .i64 a0_0, .int .u32 a0_1, .slice A0_2 l0_2.length c0_2, .int .i64 a0_3, .int .i64 a0_4, .int .i32 a0_5, .int .i64 a0_6, .int .u64 a0_7, .int .i64 a0_8]) ∧ Below w.heap.size w w' := by
 clear h hr0_2 hc0_2
 have hua := Try.underlying30
 have hub := Try.underlying40
 go_enter Try.func15, Try.ntmps15
 go_wp2
 refine bodyPost_ret (v := .agg #[.int .i64 a0_0, .int .u32 a0_1, .slice A0_2 l0_2.length c0_2, .int .i64 a0_3, .int .i64 a0_4, .int .i32 a0_5, .int .i64 a0_6, .int .u64 a0_7, .int .i64 a0_8]) (by simp [results, Try.results15, go_sem]) rfl ⟨rfl, ?_⟩
 repeat (first | exact Below.refl _ _ | apply below_alloc | refine below_set ?_ (by simp <;> omega))

/-! ### credenzaref06_Bytes: function 50 -/
def credenzaref06_Bytes.l0 : Nat → Int → Int → ByteArray → Int → Option (ByteArray)
 | 0, _, _, _, _ => none
 | k + 1, x0, x1, x5, x6 => if x6 < x1 then ((some (([(Int.tmod x0 256) % 256] : List Int) : List Int)).bind fun y276 => (if (strOfNums y276).size + x5.size ≤ 9223372036854775807 then (credenzaref06_Bytes.l0 k (IntKind.u64.wrap (Int.tdiv x0 256)) x1 ((strOfNums y276) ++ x5) (wrap64 (x6 + 1))) else (none))) else (some x5)
def credenzaref06_Bytes.f (k : Nat) (a0 : Int) (a1 : Int) : Option (ByteArray) := credenzaref06_Bytes.l0 k a0 a1 (⟨#[]⟩ : ByteArray) 0
theorem credenzaref06_Bytes.mono_l : ∀ k, (∀ y0 y1 y2 y3, LeO (credenzaref06_Bytes.l0 k y0 y1 y2 y3) (credenzaref06_Bytes.l0 (k + 1) y0 y1 y2 y3))
 | 0 => fun _ _ _ _ r h => by simp [credenzaref06_Bytes.l0] at h
 | k + 1 => by
  have ih0 := credenzaref06_Bytes.mono_l k
  ·
   intro y0 y1 y2 y3
   unfold credenzaref06_Bytes.l0
   repeat' first
   | (with_reducible exact ih0 _ _ _ _)
   | (with_reducible exact LeO.refl _)
   | (with_reducible exact LeO.none _)
   | (with_reducible refine LeO.ite ?_ ?_)
   | (with_reducible refine LeO.bind ?_ (fun _ => ?_))
   | exact ih0 _ _ _ _
   | exact LeO.none _
   | refine LeO.ite ?_ ?_
   | refine LeO.bind ?_ (fun _ => ?_)
theorem credenzaref06_Bytes.mono : ∀ a0 a1 k, LeO (credenzaref06_Bytes.f k a0 a1) (credenzaref06_Bytes.f (k + 1) a0 a1) := by
 intro a0 a1 k
 have ih0 := credenzaref06_Bytes.mono_l k
 unfold credenzaref06_Bytes.f
 repeat' first
   | (with_reducible exact ih0 _ _ _ _)
   | (with_reducible exact LeO.refl _)
   | (with_reducible exact LeO.none _)
   | (with_reducible refine LeO.ite ?_ ?_)
   | (with_reducible refine LeO.bind ?_ (fun _ => ?_))
   | exact ih0 _ _ _ _
   | exact LeO.none _
   | refine LeO.ite ?_ ?_
   | refine LeO.bind ?_ (fun _ => ?_)
set_option maxHeartbeats 8000000 in
set_option maxRecDepth 100000 in
theorem credenzaref06_Bytes.calls (k : Nat) (a0 : Int) (a1 : Int) (r : ByteArray) (w : World) (h : credenzaref06_Bytes.f k a0 a1 = some r) :
  Calls Try.prog 50 #[.int .u64 a0, .int .i64 a1] w fun e w' => e = .returned (.string r) ∧ Below w.heap.size w w' := by
 have HB := Aside0.mk (Below.refl w.heap.size w)
 have H : (credenzaref06_Bytes.l0 k a0 a1 (⟨#[]⟩ : ByteArray) 0) = some r := h
 clear h
 have H' := Aside0.mk H
 clear H
 go_enter Try.func50, Try.ntmps50
 go_wp2
 go_loopg [0, 5, 6] k (fun kq v0 v5 v6 w' => ∃ (x0_1 : Int) (x5_1 : ByteArray) (x6_1 : Int), v0 = .int .u64 x0_1 ∧ v5 = .string x5_1 ∧ v6 = .int .i64 x6_1 ∧ Aside0 (credenzaref06_Bytes.l0 kq x0_1 a1 x5_1 x6_1 = some r) ∧ Aside0 (kq ≤ k) ∧ Aside0 (Below w.heap.size w w'))
 case atStart => exact ⟨(a0), ((⟨#[]⟩ : ByteArray)), (0), (by first | rfl | (simp; done) | (simp [*]; done)), (by first | rfl | (simp; done) | (simp [*]; done)), (by first | rfl | (simp; done) | (simp [*]; done)), H', ⟨Nat.le_refl _⟩, ⟨by repeat (first | (with_reducible first | exact HB.out | apply below_alloc | apply pw_below_drewN | apply below_drew1) | exact HB.out)⟩⟩
 case round =>
  clear H'
  try clear p2
  obtain ⟨x0_1, x5_1, x6_1, rfl, rfl, rfl, HA, HK1, HB⟩ := hrel
  cases gk with
  | zero => exact absurd HA.out (by simp [credenzaref06_Bytes.l0])
  | succ k1 =>
   have H := HA.out
   clear HA
   simp only [credenzaref06_Bytes.l0] at H
   by_cases c3 : x6_1 < a1
   ·
    rw [if_pos c3] at H
    have c3b0 : decide (x6_1 < a1) = true := decide_eq_true c3
    clear c3
    obtain ⟨y276, hy276⟩ : ∃ y_ : List Int, y_ = (([(Int.tmod x0_1 256) % 256] : List Int)) := ⟨_, rfl⟩
    replace H : (if (strOfNums y276).size + x5_1.size ≤ 9223372036854775807 then (credenzaref06_Bytes.l0 k1 (IntKind.u64.wrap (Int.tdiv x0_1 256)) a1 ((strOfNums y276) ++ x5_1) (wrap64 (x6_1 + 1))) else (none)) = some r := by first | (rw [hy276]; with_reducible exact H) | (have H2_ := (Option.bind_some _ _).symm.trans H; rw [hy276]; with_reducible exact H2_) | (have H2_ := (Option.bind_some _ _).symm.trans H; with_reducible exact H2_) | with_reducible exact H | (rw [hy276]; exact H) | exact H
    have Ny276 := Aside0.mk hy276
    clear hy276
    by_cases c4 : (strOfNums y276).size + x5_1.size ≤ 9223372036854775807
    ·
     rw [if_pos c4] at H
     have c4b0 := eq_true c4
     have c4b1 : decide ((strOfNums y276).size + x5_1.size ≤ 9223372036854775807) = true := decide_eq_true c4
     try have c4b2 : (9223372036854775807 < (strOfNums y276).size + x5_1.size) = False := eq_false (Nat.not_lt.2 c4)
     (try (have c4b3 := c4b2; simp only [ByteArray.size_append] at c4b3))
     have H' := Aside0.mk H
     clear H
     go_wp2_with (first | ((with_reducible refine gate_dst (N := 15) rfl ?_); refine Kd.R_lit (Kd.int .u8) _ 5 ?hg (N := 15) ?hd (xs := ([(Int.tmod x0_1 256) % 256] : List Int)) (inner := [.int .u8 ((Int.tmod x0_1 256) % 256)]) (ok := fun _ => True) (okp := fun _ => True) ?hr ?hp (fun _ hk => hk) trivial (Below.refl _ _) (Nat.le_refl _) (by simp) ?_; (case hd => rfl); (case hg => rfl); (case hr => first | (go_simp; done) | (go_simp; rfl)); (case hp => exact (Reps.one (show Kd.M (Kd.int .u8) _ _ _ ((Int.tmod x0_1 256) % 256) [.int .u8 ((Int.tmod x0_1 256) % 256)] from rfl) (Reps.none _ _))); intro v277 w5 ho6 hb hg_ hnew_; clear hg_ hnew_; (first | rw [← Ny276.out] at ho6 | (simp only [Int.reduceToNat] at ho6; rw [← Ny276.out] at ho6)); have n0_ := Aside0.mk (Kd.R_lower ho6 (below_size (by repeat (first | (with_reducible first | exact HB.out | apply below_alloc | apply pw_below_drewN | apply below_drew1) | exact HB.out)))); have n1_ := Aside0.mk (below_step (by repeat (first | (with_reducible first | exact HB.out | apply below_alloc | apply pw_below_drewN | apply below_drew1) | exact HB.out)) hb); clear HB; have HO278 := n0_; have HB := n1_; clear n0_ n1_; clear hb ho6; have hcv7 := own_string (P := Try.prog) Try.underlying32 Try.underlying5 Try.underlying9 (Kd.own_of_R HO278.out)))
     go_roundg k1
     case measure => have := HK1.out; omega
     case rel => exact ⟨(IntKind.u64.wrap (Int.tdiv x0_1 256)), ((strOfNums y276) ++ x5_1), (wrap64 (x6_1 + 1)), (by first | rfl | (simp; done) | (simp [*]; done)), (by first | rfl | (simp; done) | (simp [*]; done)), (by first | rfl | (simp; done) | (simp [*]; done)), H', ⟨by have := HK1.out; omega⟩, ⟨by repeat (first | (with_reducible first | exact HB.out | apply below_alloc | apply pw_below_drewN | apply below_drew1) | exact HB.out)⟩⟩
    ·
     rw [if_neg c4] at H
     exact absurd H (by simp)
   ·
    rw [if_neg c3] at H
    have c3b0 : decide (x6_1 < a1) = false := decide_eq_false c3
    clear c3
    obtain rfl := Option.some.inj H
    go_wp2
    go_ret
    exact ⟨by first | rfl | (simp [errW_none, errW_some] <;> rfl) | (simp [*, errW_none, errW_some] <;> rfl), by repeat (first | (with_reducible first | exact HB.out | apply below_alloc | apply pw_below_drewN | apply below_drew1) | exact HB.out)⟩

/-! ### credenzaref06_Word: function 51 -/
def credenzaref06_Word.f (k : Nat) (a0 : Int) : Option (ByteArray) := (credenzaref06_Bytes.f k (IntKind.u64.wrap (wrap64 ((wrap64 (a0)) + 4294967296))) 4).bind fun t279 => (some t279)
theorem credenzaref06_Word.mono : ∀ a0 k, LeO (credenzaref06_Word.f k a0) (credenzaref06_Word.f (k + 1) a0) := by
 intro a0 k
 unfold credenzaref06_Word.f
 repeat' first
   | (with_reducible exact credenzaref06_Bytes.mono _ _ _)
   | (with_reducible exact LeO.refl _)
   | (with_reducible exact LeO.none _)
   | (with_reducible refine LeO.ite ?_ ?_)
   | (with_reducible refine LeO.bind ?_ (fun _ => ?_))
   | exact credenzaref06_Bytes.mono _ _ _
   | exact LeO.none _
   | refine LeO.ite ?_ ?_
   | refine LeO.bind ?_ (fun _ => ?_)
set_option maxHeartbeats 8000000 in
set_option maxRecDepth 100000 in
theorem credenzaref06_Word.calls (k : Nat) (a0 : Int) (r : ByteArray) (w : World) (h : credenzaref06_Word.f k a0 = some r) :
  Calls Try.prog 51 #[.int .i32 a0] w fun e w' => e = .returned (.string r) ∧ Below w.heap.size w w' := by
 have HB := Aside0.mk (Below.refl w.heap.size w)
 have H : ((credenzaref06_Bytes.f k (IntKind.u64.wrap (wrap64 ((wrap64 (a0)) + 4294967296))) 4).bind fun t279 => (some t279)) = some r := h
 clear h
 replace H := Option.bind_eq_some_iff.mp H
 obtain ⟨t279, A20, H⟩ := H
 replace H : (some t279) = some r := H
 have A2 := Aside0.mk A20
 clear A20
 obtain rfl := Option.some.inj H
 go_enter Try.func51, Try.ntmps51
 go_wp2_with (first | ((with_reducible refine gate_callee (f := 50) rfl ?_); refine goesL_ (some 7) rfl rfl Try.func50 (by kernel_rfl) rfl #[.int .u64 (IntKind.u64.wrap (wrap64 ((wrap64 (a0)) + 4294967296))), .int .i64 4] rfl (by (try simp only [List.map_toArray, List.map_cons, List.map_nil]); first | done | rfl | (simp only [List.length_drop, List.length_take]; rfl)) ?_; (with_reducible refine (credenzaref06_Bytes.calls k (IntKind.u64.wrap (wrap64 ((wrap64 (a0)) + 4294967296))) 4 t279 _ A2.out).mono ?_); rintro e w3 ⟨rfl, hb⟩; refine ⟨_, rfl, ?_⟩; have n0_ := Aside0.mk (below_step (by repeat (first | (with_reducible first | exact HB.out | apply below_alloc | apply pw_below_drewN | apply below_drew1) | exact HB.out)) hb); clear HB; have HB := n0_; clear n0_; (try clear hb); (try clear hb2); (try clear hk); (try clear hi)))
 go_ret
 exact ⟨by first | rfl | (simp [errW_none, errW_some] <;> rfl) | (simp [*, errW_none, errW_some] <;> rfl), by repeat (first | (with_reducible first | exact HB.out | apply below_alloc | apply pw_below_drewN | apply below_drew1) | exact HB.out)⟩

end Go.Proofs.Ytehepnmagcjkaaa.PAskBytes
