-- Written by a program of this session (wip/tools/mkprint.py over the kit's print).
import Derived.Test.YtehepnmagcjkaaaPAskParsesx0
import Derived.Test.YtehepnmagcjkaaaPAskParsesx2
namespace Go.Proofs.Ytehepnmagcjkaaa.PAskParses
open Go.RowKit Go.Proofs.YtehepnmagcjkaaaW.PrintWords Go.Proofs.YtehepnmagcjkaaaW.PrintLast Go.Proofs.YtehepnmagcjkaaaW.PrintMore
attribute [local go_sem] max2_int min2_int max_two min_two max_three min_three max_four min_four   -- for this text's walks alone
set_option linter.unusedVariables false
set_option linter.unusedSimpArgs false

/-! ### slices_Clone_byte_byte: function 80 -/
def slices_Clone_byte_byte.f (l0 : List Int) : Option (List Int) := if l0.length < 140737488355328 then some l0 else none
set_option maxHeartbeats 8000000 in
set_option maxRecDepth 100000 in
theorem slices_Clone_byte_byte.calls (A0 : Option Addr) (c0 : Nat) (l0 : List Int) (r : List Int) (w : World) (hr0 : Kd.C (Kd.int .u8) w A0 l0.length l0) (hc0 : l0.length ≤ c0) (h : slices_Clone_byte_byte.f l0 = some r) :
  Calls Try.prog 80 #[.slice A0 l0.length c0] w fun e w' => ∃ v0_ : Value, e = .returned (v0_) ∧ Kd.R (Kd.int .u8) 5 w' w.heap.size (fun _ => True) v0_ r ∧ Below w.heap.size w w' := by
 unfold slices_Clone_byte_byte.f at h
 by_cases hlim : l0.length < 140737488355328
 ·
  rw [if_pos hlim] at h
  obtain rfl := Option.some.inj h
  clear h
  have HR0 := Aside0.mk hr0
  have HL := Aside0.mk hlim
  have hz := hr0.2.2
  clear hr0 hlim hc0
  have hcmp : ∀ W : World, (binOp .eql 32 (.slice A0 l0.length c0) (.slice none 0 0)).run Try.prog W = .ok (.bool A0.isNone) W := fun W => Lib.run_eql_slice_nil W _ _ A0 _ _ _ _ Try.underlying32
  cases A0 with
  | none =>
   have hl0 : l0 = [] := by
    rcases Nat.eq_zero_or_pos l0.length with h0 | h0
    ·
     exact List.eq_nil_of_length_eq_zero h0
    ·
     obtain ⟨ad, had, _⟩ := hz h0
     cases had
   subst hl0
   clear hz
   simp only [List.length_nil, Option.isNone_none] at hcmp
   have HB := Aside0.mk (Below.refl w.heap.size w)
   go_enter Try.func80, Try.ntmps80
   go_wp2
   go_ret
   exact ⟨_, rfl, Kd.R_nil _ _ _ _ _, HB.out⟩
  | some ad =>
   clear hz
   simp only [Option.isNone_some] at hcmp
   have HB := Aside0.mk (Below.refl w.heap.size w)
   go_enter Try.func80, Try.ntmps80
   go_wp2_with (first | ((with_reducible refine gate_dst (N := 5) rfl ?_); (try (refine gate_guard (by rfl) ?_; dsimp only)); refine Kd.R_lit (Kd.int .u8) _ 5 ?hg (N := 5) ?hd (xs := ([] : List Int)) (inner := []) (ok := fun _ => True) (okp := fun _ => True) ?hr ?hp (fun _ hk => hk) trivial (Below.refl _ _) (Nat.le_refl _) (by simp) ?_; (case hd => rfl); (case hg => rfl); (case hr => first | (go_simp; done) | (go_simp; rfl)); (case hp => exact (Reps.none _ _)); intro v188 w10 ho11 hb hg_ hnew_; clear hg_ hnew_; have n0_ := Aside0.mk (Kd.R_lower ho11 (below_size HB.out)); have n1_ := Aside0.mk (below_step HB.out hb); clear HB; have HO189 := n0_; have HB := n1_; clear n0_ n1_; clear hb ho11) | ((with_reducible refine gate_builtin (b := .append) (xs := #[.tmp 5, .tmp 6]) rfl ?_); (try (refine gate_guard (by rfl) ?_; dsimp only)); at_builtin; refine Kd.R_append_rows (Kd.int .u8) (w0 := w) w.heap.size rfl (.tmp 5) (.tmp 6) 32 5 (.int .u8 0) 1 rfl Try.underlying32 info5 rfl (by decide) (by omega) v188 [] l0 _ _ _ (fun _ => True) (fun _ => False) rfl rfl ?aO ?aR (fun _ _ h => h) (fun _ h => h.elim) ?aF ?aB ?aS ?aL ?_; (case aR => exact (Kd.C_below HR0.out HB.out)); (case aB => exact HB.out); (case aF => exact (fun _ _ => trivial)); (case aO => exact HO189.out); (case aS => exact (below_size HB.out)); (case aL => have := HL.out; simp; omega); intro v191 w12 ho hb hg hat; have n0_ := Aside0.mk (hb); have n1_ := Aside0.mk (ho); clear HB; clear HO189; have HB := n0_; have HO192 := n1_; clear n0_ n1_; clear ho hb hg hat))
   go_ret
   exact ⟨_, rfl, by simpa using HO192.out, HB.out⟩
 ·
  rw [if_neg hlim] at h
  cases h

/-! ### seal_wide: function 81 -/
def seal_wide.f (a0 : Int) : Option (Int) := some (mn (mx a0 0) 8)
set_option maxHeartbeats 8000000 in
set_option maxRecDepth 100000 in
theorem seal_wide.calls (a0 : Int) (r : Int) (w : World) (h : seal_wide.f a0 = some r) :
  Calls Try.prog 81 #[.int .i64 a0] w fun e w' => e = .returned (.int .i64 r) ∧ Below w.heap.size w w' := by
 have HB := Aside0.mk (Below.refl w.heap.size w)
 have H : (some (mn (mx a0 0) 8)) = some r := h
 clear h
 obtain ⟨ji2, hji2⟩ : ∃ j_ : Int, (mx a0 0) = j_ := ⟨_, rfl⟩
 replace H : (some (mn (ji2) 8)) = some r := by first | (rw [hji2] at H; exact H) | (simp only [hji2] at H ⊢; exact H)
 (try (have hji2l : 0 ≤ ji2 := by (rw [← hji2]; unfold mx; (repeat' split) <;> omega)))
 (try (have hji2m : 0 ≤ ji2 := by omega))
 have hji2_ : (if a0 < 0 then 0 else a0) = ji2 := hji2
 obtain ⟨ji3, hji3⟩ : ∃ j_ : Int, (mn (ji2) 8) = j_ := ⟨_, rfl⟩
 replace H : (some ji3) = some r := by first | (rw [hji3] at H; exact H) | (simp only [hji3] at H ⊢; exact H)
 have hji3_ : (if 8 < (ji2) then 8 else (ji2)) = ji3 := hji3
 obtain rfl := Option.some.inj H
 go_enter Try.func81, Try.ntmps81
 go_wp2
 go_ret
 exact ⟨by first | rfl | (simp [errW_none, errW_some] <;> rfl) | (simp only [← hji2, ← hji3]; first | rfl | (simp [errW_none, errW_some] <;> rfl)) | (simp [*, errW_none, errW_some] <;> rfl), by repeat (first | (with_reducible first | exact HB.out | apply below_alloc | apply pw_below_drewN | apply below_drew1) | exact HB.out)⟩

/-! ### seal_Put: function 40 -/
def seal_Put.l0 : Nat → Int → List Int → Int → Option (List Int)
 | 0, _, _, _ => none
 | k + 1, x1, x7, x8 => if x8 ≥ 0 then (if 0 ≤ (wrap64 (8 * x8)) then (if x7.length < 140737488355328 then (seal_Put.l0 k x1 (x7 ++ [(shr .u64 x1 (wrap64 (8 * x8))) % 256]) (wrap64 (x8 - 1))) else (none)) else (none)) else (some x7)
def seal_Put.f (k : Nat) (l0 : List Int) (a1 : Int) (a2 : Int) : Option (List Int) := (slices_Clone_byte_byte.f l0).bind fun t117 => ((seal_wide.f a2).bind fun t120 => (seal_Put.l0 k a1 t117 (wrap64 (t120 - 1))))
theorem seal_Put.mono_l : ∀ k, (∀ y0 y1 y2, LeO (seal_Put.l0 k y0 y1 y2) (seal_Put.l0 (k + 1) y0 y1 y2))
 | 0 => fun _ _ _ r h => by simp [seal_Put.l0] at h
 | k + 1 => by
  have ih0 := seal_Put.mono_l k
  ·
   intro y0 y1 y2
   unfold seal_Put.l0
   repeat' first
   | (with_reducible exact ih0 _ _ _)
   | (with_reducible exact LeO.refl _)
   | (with_reducible exact LeO.none _)
   | (with_reducible refine LeO.ite ?_ ?_)
   | (with_reducible refine LeO.bind ?_ (fun _ => ?_))
   | exact ih0 _ _ _
   | exact LeO.none _
   | refine LeO.ite ?_ ?_
   | refine LeO.bind ?_ (fun _ => ?_)
theorem seal_Put.mono : ∀ a0 a1 a2 k, LeO (seal_Put.f k a0 a1 a2) (seal_Put.f (k + 1) a0 a1 a2) := by
 intro a0 a1 a2 k
 have ih0 := seal_Put.mono_l k
 unfold seal_Put.f
 repeat' first
   | (with_reducible exact ih0 _ _ _)
   | (with_reducible exact LeO.refl _)
   | (with_reducible exact LeO.none _)
   | (with_reducible refine LeO.ite ?_ ?_)
   | (with_reducible refine LeO.bind ?_ (fun _ => ?_))
   | exact ih0 _ _ _
   | exact LeO.none _
   | refine LeO.ite ?_ ?_
   | refine LeO.bind ?_ (fun _ => ?_)
set_option maxHeartbeats 8000000 in
set_option maxRecDepth 100000 in
theorem seal_Put.calls (k : Nat) (A0 : Option Addr) (c0 : Nat) (l0 : List Int) (a1 : Int) (a2 : Int) (r : List Int) (w : World) (hr0 : Kd.C (Kd.int .u8) w A0 l0.length l0) (hc0 : l0.length ≤ c0) (h : seal_Put.f k l0 a1 a2 = some r) :
  Calls Try.prog 40 #[.slice A0 l0.length c0, .int .u64 a1, .int .i64 a2] w fun e w' => ∃ v0_ : Value, e = .returned (v0_) ∧ Kd.R (Kd.int .u8) 5 w' w.heap.size (fun _ => True) v0_ r ∧ Below w.heap.size w w' := by
 have HR0 := Aside0.mk hr0
 have HC0 := Aside0.mk hc0
 clear hr0 hc0
 have HB := Aside0.mk (Below.refl w.heap.size w)
 have H : ((slices_Clone_byte_byte.f l0).bind fun t117 => ((seal_wide.f a2).bind fun t120 => (seal_Put.l0 k a1 t117 (wrap64 (t120 - 1))))) = some r := h
 clear h
 replace H := Option.bind_eq_some_iff.mp H
 obtain ⟨t117, A40, H⟩ := H
 replace H : ((seal_wide.f a2).bind fun t120 => (seal_Put.l0 k a1 t117 (wrap64 (t120 - 1)))) = some r := H
 have A4 := Aside0.mk A40
 clear A40
 replace H := Option.bind_eq_some_iff.mp H
 obtain ⟨t120, A50, H⟩ := H
 replace H : (seal_Put.l0 k a1 t117 (wrap64 (t120 - 1))) = some r := H
 have A5 := Aside0.mk A50
 clear A50
 have H' := Aside0.mk H
 clear H
 go_enter Try.func40, Try.ntmps40
 go_wp2_with (first | ((with_reducible refine gate_callee (f := 80) rfl ?_); refine goesL_ (some 10) rfl rfl Try.func80 (by kernel_rfl) rfl #[.slice A0 l0.length c0] rfl (by (try simp only [List.map_toArray, List.map_cons, List.map_nil]); first | done | rfl | (simp only [List.length_drop, List.length_take]; rfl)) ?_; (with_reducible refine (slices_Clone_byte_byte.calls _ _ l0 t117 _ ?side1 ?side2 A4.out).mono ?_); (case side1 => repeat (first | exact HR0.out | (with_reducible refine Kd.C_alloc ?_ _) | (with_reducible refine Kd.C_drewN ?_ _) | (with_reducible refine Kd.C_drew ?_))); (case side2 => exact HC0.out); rintro e w6 ⟨v118, rfl, ho0, hb⟩; refine ⟨_, rfl, ?_⟩; have n0_ := Aside0.mk (Kd.R_lower ho0 (below_size (by repeat (first | (with_reducible first | exact HB.out | apply below_alloc | apply pw_below_drewN | apply below_drew1) | exact HB.out)))); have n1_ := Aside0.mk (below_step (by repeat (first | (with_reducible first | exact HB.out | apply below_alloc | apply pw_below_drewN | apply below_drew1) | exact HB.out)) hb); clear HB; have HO119 := n0_; have HB := n1_; clear n0_ n1_; (try clear hb); (try clear hb2); (try clear hk); (try clear hi); (try clear ho0)) | ((with_reducible refine gate_callee (f := 81) rfl ?_); refine goesL_ (some 12) rfl rfl Try.func81 (by kernel_rfl) rfl #[.int .i64 a2] rfl (by (try simp only [List.map_toArray, List.map_cons, List.map_nil]); first | done | rfl | (simp only [List.length_drop, List.length_take]; rfl)) ?_; (with_reducible refine (seal_wide.calls a2 t120 _ A5.out).mono ?_); rintro e w7 ⟨rfl, hb⟩; refine ⟨_, rfl, ?_⟩; have n0_ := Aside0.mk (Kd.R_below (by (with_reducible repeat (first | apply Kd.R_alloc | apply Kd.R_drewN | apply Kd.R_drew)); exact HO119.out) hb); have n1_ := Aside0.mk (below_step (by repeat (first | (with_reducible first | exact HB.out | apply below_alloc | apply pw_below_drewN | apply below_drew1) | exact HB.out)) hb); clear HO119; clear HB; have HO119 := n0_; have HB := n1_; clear n0_ n1_; (try clear hb); (try clear hb2); (try clear hk); (try clear hi)))
 go_loopg [7, 8] k (fun kq v7 v8 w' => ∃ (x7_1 : List Int) (x8_1 : Int), v8 = .int .i64 x8_1 ∧ Aside0 (seal_Put.l0 kq a1 x7_1 x8_1 = some r) ∧ Aside0 (kq ≤ k) ∧ Aside0 (Kd.R (Kd.int .u8) 5 w' w.heap.size (fun _ => True) v7 x7_1) ∧ Aside0 (Below w.heap.size w w'))
 case atStart => exact ⟨(t117), (wrap64 (t120 - 1)), (by first | rfl | (simp; done) | (simp [*]; done)), H', ⟨Nat.le_refl _⟩, ⟨by (with_reducible repeat (first | apply Kd.R_alloc | apply Kd.R_drewN | apply Kd.R_drew)); exact HO119.out⟩, ⟨by repeat (first | (with_reducible first | exact HB.out | apply below_alloc | apply pw_below_drewN | apply below_drew1) | exact HB.out)⟩⟩
 case round =>
  clear H'
  try clear p2
  try clear c4
  try clear p6
  obtain ⟨x7_1, x8_1, rfl, HA, HK1, HO_7, HB⟩ := hrel
  cases gk with
  | zero => exact absurd HA.out (by simp [seal_Put.l0])
  | succ k1 =>
   have H := HA.out
   clear HA
   simp only [seal_Put.l0] at H
   by_cases c8 : x8_1 ≥ 0
   ·
    rw [if_pos c8] at H
    have c8b0 : decide (0 ≤ x8_1) = true := decide_eq_true c8
    clear c8
    obtain ⟨ji9, hji9⟩ : ∃ j_ : Int, (wrap64 (8 * x8_1)) = j_ := ⟨_, rfl⟩
    replace H : (if 0 ≤ (ji9) then (if x7_1.length < 140737488355328 then (seal_Put.l0 k1 a1 (x7_1 ++ [(shr .u64 a1 (ji9)) % 256]) (wrap64 (x8_1 - 1))) else (none)) else (none)) = some r := by first | (rw [hji9] at H; exact H) | (simp only [hji9] at H ⊢; exact H)
    have hji9w : (IntKind.i64.wrap (8 * x8_1)) = ji9 := (i64_w _).trans hji9
    by_cases c10 : 0 ≤ (ji9)
    ·
     rw [if_pos c10] at H
     have c10b0 := eq_true c10
     have c10b1 : decide (0 ≤ (ji9)) = true := decide_eq_true c10
     clear c10
     obtain ⟨ji11, hji11⟩ : ∃ j_ : Int, (shr .u64 a1 (ji9)) = j_ := ⟨_, rfl⟩
     replace H : (if x7_1.length < 140737488355328 then (seal_Put.l0 k1 a1 (x7_1 ++ [(ji11) % 256]) (wrap64 (x8_1 - 1))) else (none)) = some r := by first | (rw [hji11] at H; exact H) | (simp only [hji11] at H ⊢; exact H)
     have hji11_ : (a1 / 2 ^ min (ji9).toNat 64) = ji11 := hji11
     have hji11z : (ji9) ≤ 64 → (a1 / 2 ^ (ji9).toNat) = ji11 := shr_small hji11
     by_cases c12 : x7_1.length < 140737488355328
     ·
      rw [if_pos c12] at H
      have LMc12 := Aside0.mk c12
      clear c12
      obtain ⟨y121, hy121⟩ : ∃ y_ : List Int, y_ = (x7_1 ++ [(ji11) % 256]) := ⟨_, rfl⟩
      replace H : (seal_Put.l0 k1 a1 y121 (wrap64 (x8_1 - 1))) = some r := by first | (rw [hy121]; with_reducible exact H) | (have H2_ := (Option.bind_some _ _).symm.trans H; rw [hy121]; with_reducible exact H2_) | (have H2_ := (Option.bind_some _ _).symm.trans H; with_reducible exact H2_) | with_reducible exact H | (rw [hy121]; exact H) | exact H
      have Ny121 := Aside0.mk hy121
      clear hy121
      have H' := Aside0.mk H
      clear H
      go_wp2_with (first | ((with_reducible refine gate_builtin (b := .append) (xs := #[.tmp 18, .tmp 24]) rfl ?_); at_builtin; refine Kd.R_append (Kd.int .u8) (w0 := w) w.heap.size rfl (.tmp 18) (.tmp 24) 32 5 (.int .u8 0) 1 rfl Try.underlying32 info5 rfl (by decide) (by omega) u7 x7_1 ((ji11) % 256) [.int .u8 ((ji11) % 256)] (fun _ => True) (fun _ => False) rfl rfl ?aP (fun _ hk => hk.elim) ?aF ?aO ?aB ?aS ?aL ?_; (case aP => exact rfl); (case aB => exact (by repeat (first | (with_reducible first | exact HB.out | apply below_alloc | apply pw_below_drewN | apply below_drew1) | exact HB.out))); (case aF => exact (fun _ _ => trivial)); (case aO => exact (by (with_reducible repeat (first | apply Kd.R_alloc | apply Kd.R_drewN | apply Kd.R_drew)); exact HO_7.out)); (case aS => exact (below_size (by repeat (first | (with_reducible first | exact HB.out | apply below_alloc | apply pw_below_drewN | apply below_drew1) | exact HB.out)))); (case aL => have := LMc12.out; omega); intro v122 w13 ho hb hg hat; rw [← Ny121.out] at ho; have n0_ := Aside0.mk (hb); have n1_ := Aside0.mk (ho); clear HB; clear HO_7; have HB := n0_; have HO123 := n1_; clear n0_ n1_; clear ho hb hg hat))
      go_roundg k1
      case measure => have := HK1.out; omega
      case rel => exact ⟨(y121), (wrap64 (x8_1 - 1)), (by first | rfl | (simp; done) | (simp [*]; done)), H', ⟨by have := HK1.out; omega⟩, ⟨by (with_reducible repeat (first | apply Kd.R_alloc | apply Kd.R_drewN | apply Kd.R_drew)); exact HO123.out⟩, ⟨by repeat (first | (with_reducible first | exact HB.out | apply below_alloc | apply pw_below_drewN | apply below_drew1) | exact HB.out)⟩⟩
     ·
      rw [if_neg c12] at H
      exact absurd H (by simp)
    ·
     rw [if_neg c10] at H
     exact absurd H (by simp)
   ·
    rw [if_neg c8] at H
    have c8b0 : decide (0 ≤ x8_1) = false := decide_eq_false c8
    clear c8
    obtain rfl := Option.some.inj H
    go_wp2
    go_ret
    exact ⟨_, by first | rfl | (simp [errW_none, errW_some] <;> rfl) | (simp [*, errW_none, errW_some] <;> rfl), by (with_reducible repeat (first | apply Kd.R_alloc | apply Kd.R_drewN | apply Kd.R_drew)); exact HO_7.out, by repeat (first | (with_reducible first | exact HB.out | apply below_alloc | apply pw_below_drewN | apply below_drew1) | exact HB.out)⟩

/-! ### ask_Bytes: function 13 -/
def ask_Bytes.all (k : Nat) : List Int → List Int → Option (List Int)
 | out, [] => some out
 | out, x :: t => (seal_Put.f k out (IntKind.u64.wrap x) 1).bind fun o => ask_Bytes.all k o t
def ask_Bytes.one (k : Nat) (a0_0 : Int) (a0_1 : Int) (l0_2 : List Int) (a0_3 : Int) (a0_4 : Int) (a0_5 : Int) (a0_6 : Int) (a0_7 : Int) (a0_8 : Int) : Option (List Int) := (seal_Put.f k [a0_0 % 256] (IntKind.u64.wrap a0_1) 4).bind fun o1 => (seal_Put.f k o1 (IntKind.u64.wrap a0_3) 2).bind fun o2 => (seal_Put.f k o2 (IntKind.u64.wrap (wrap64 (a0_4 + 1))) 1).bind fun o3 => (seal_Put.f k o3 (IntKind.u64.wrap a0_5) 4).bind fun o4 => (seal_Put.f k o4 (IntKind.u64.wrap a0_6) 1).bind fun o5 => (seal_Put.f k o5 a0_7 8).bind fun o6 => (seal_Put.f k o6 (IntKind.u64.wrap (l0_2.length : Int)) 2).bind fun o7 => ask_Bytes.all k o7 l0_2
def ask_Bytes.two (k : Nat) (a0_0 : Int) (a0_1 : Int) : Option (List Int) := seal_Put.f k [a0_0 % 256] (IntKind.u64.wrap a0_1) 4
def ask_Bytes.rest (k : Nat) (a0_0 : Int) (a0_8 : Int) : Option (List Int) := seal_Put.f k [a0_0 % 256] (IntKind.u64.wrap a0_8) 1
def ask_Bytes.f (k : Nat) (a0_0 : Int) (a0_1 : Int) (l0_2 : List Int) (a0_3 : Int) (a0_4 : Int) (a0_5 : Int) (a0_6 : Int) (a0_7 : Int) (a0_8 : Int) : Option (List Int × Int) := (ask_Right.f k a0_0 a0_1 l0_2 a0_3 a0_4 a0_5 a0_6 a0_7 a0_8).bind fun e => if e = 0 then (if a0_0 = 1 then (ask_Bytes.one k a0_0 a0_1 l0_2 a0_3 a0_4 a0_5 a0_6 a0_7 a0_8).bind fun o => some (o, 0) else if a0_0 = 2 then (ask_Bytes.two k a0_0 a0_1).bind fun o => some (o, 0) else (ask_Bytes.rest k a0_0 a0_8).bind fun o => some (o, 0)) else some ([], e)
theorem ask_Bytes.all_mono (k : Nat) : ∀ (out l : List Int), LeO (ask_Bytes.all k out l) (ask_Bytes.all (k + 1) out l)
 | out, [] => LeO.refl _
 | out, x :: t => LeO.bind (seal_Put.mono _ _ _ _) (fun o => ask_Bytes.all_mono k o t)
theorem ask_Bytes.mono : ∀ a0_0 a0_1 l0_2 a0_3 a0_4 a0_5 a0_6 a0_7 a0_8 k, LeO (ask_Bytes.f k a0_0 a0_1 l0_2 a0_3 a0_4 a0_5 a0_6 a0_7 a0_8) (ask_Bytes.f (k + 1) a0_0 a0_1 l0_2 a0_3 a0_4 a0_5 a0_6 a0_7 a0_8) := by
 intro a0_0 a0_1 l0_2 a0_3 a0_4 a0_5 a0_6 a0_7 a0_8 k
 unfold ask_Bytes.f ask_Bytes.one ask_Bytes.two ask_Bytes.rest
 repeat' first
   | (with_reducible exact LeO.refl _)
   | (with_reducible exact LeO.none _)
   | (with_reducible exact seal_Put.mono _ _ _ _)
   | (with_reducible exact ask_Right.mono _ _ _ _ _ _ _ _ _ _)
   | (with_reducible exact ask_Bytes.all_mono _ _ _)
   | (with_reducible refine LeO.ite ?_ ?_)
   | (with_reducible refine LeO.bind ?_ (fun _ => ?_))
   | exact LeO.none _
   | refine LeO.ite ?_ ?_
   | refine LeO.bind ?_ (fun _ => ?_)
def ask_Bytes.IsOut (w : World) (g : Nat) (l : List Int) : Prop := ∃ A c, w.heap[g]? = some (.cells #[.slice A l.length c] 32 (0, 0)) ∧ Kd.C (Kd.int .u8) w A l.length l ∧ l.length ≤ c
def ask_Bytes.IsOutR (w : World) (b : Nat) (g : Nat) (l : List Int) : Prop := ∃ v, w.heap[g]? = some (.cells #[v] 32 (0, 0)) ∧ Kd.R (Kd.int .u8) 5 w b (fun k_ => k_ ≠ g) v l
theorem ask_Bytes.IsOutR.isOut {w : World} {b g : Nat} {l : List Int} (h : ask_Bytes.IsOutR w b g l) : ask_Bytes.IsOut w g l := by
 obtain ⟨v, h1, h2⟩ := h
 obtain ⟨A, c, rfl, hl, hC⟩ := Kd.R_reads h2
 exact ⟨A, c, h1, hC, hl⟩
set_option maxHeartbeats 8000000 in
set_option maxRecDepth 100000 in
theorem ask_Bytes.put (k g : Nat) (v n : Int) (l r : List Int) (w0 w : World) (hB : Below w0.heap.size w0 w) (hg : w0.heap.size ≤ g) (hI : ask_Bytes.IsOut w g l) (h : seal_Put.f k l v n = some r) :
  Calls Try.prog 39 #[.int .u64 v, .int .i64 n, .pointer (some ⟨g, 0, none⟩)] w fun e w' => e = .returned (.tuple #[]) ∧ ask_Bytes.IsOutR w' w.heap.size g r ∧ KeepBut w w' g none ∧ Below w0.heap.size w0 w' := by
 obtain ⟨A, c, hb, hC, hl⟩ := hI
 have HP := Aside0.mk h
 have HC := Aside0.mk hC
 have HL := Aside0.mk hl
 have HBK := Aside0.mk hb
 have HBW := Aside0.mk hB
 have HGW := Aside0.mk hg
 have hcell0 : w.cell? ⟨g, 0, none⟩ = some (.slice A l.length c) := (blk_cell hb 0).trans rfl
 have hfz0 := blk_frozen hb 0
 clear h hC hl hb hB hg
 go_enter Try.func39, Try.ntmps39
 go_wp2_with (first | (go_at_call 40; (with_reducible refine (seal_Put.calls k A c l v n r _ HC.out HL.out HP.out).mono ?_); rintro e w1 ⟨v0, rfl, ho, hbel⟩; obtain ⟨A1, c1, e1⟩ := Kd.R_slice ho; subst e1; have hb1 := blk_below HBK.out hbel; have hcell1 : w1.cell? ⟨g, 0, none⟩ = some (.slice A l.length c) := (blk_cell hb1 0).trans rfl; have hfz1 := blk_frozen hb1 0; have HB1 := Aside0.mk hb1; have HO := Aside0.mk ho; have HBEL := Aside0.mk hbel; clear ho hbel hb1))
 go_end0
 refine ⟨rfl, ⟨_, blk_put HB1.out 0 _ rfl, ?_⟩, ?_, below_set (below_step HBW.out HBEL.out) HGW.out⟩
 ·
  exact Kd.R_mono (Kd.R_far (p := ⟨g, 0, none⟩) (Kd.R_types HO.out HB1.out (by decide)) (fun _ hk => hk.2) _) (fun _ hk => hk.2)
 ·
  exact (KeepBut.of_below HBEL.out g none).set_ 0 _

theorem ask_Bytes.start (w w1 : World) (b : Int) (t : Array Value) (a9 : Array Value) (hb : Below w.heap.size w w1) :
  ask_Bytes.IsOut (((w1.alloc (.cells #[.int .u8 b] 5)).alloc (.cells #[.slice (some ⟨w1.heap.size, 0, none⟩) 1 1] 32)).alloc (.cells t 28)) (w1.heap.size + 1) [b]
  ∧ (((w1.alloc (.cells #[.int .u8 b] 5)).alloc (.cells #[.slice (some ⟨w1.heap.size, 0, none⟩) 1 1] 32)).alloc (.cells t 28)).heap[w1.heap.size + 1 + 1]? = some (.cells t 28 (0, 0))
  ∧ Below w.heap.size w (((w1.alloc (.cells #[.int .u8 b] 5)).alloc (.cells #[.slice (some ⟨w1.heap.size, 0, none⟩) 1 1] 32)).alloc (.cells t 28)) := by
 obtain ⟨W2, hW2⟩ : ∃ W2, W2 = w1.alloc (.cells #[.int .u8 b] 5) := ⟨_, rfl⟩
 obtain ⟨W3, hW3⟩ : ∃ W3, W3 = W2.alloc (.cells #[.slice (some ⟨w1.heap.size, 0, none⟩) 1 1] 32) := ⟨_, rfl⟩
 have s2 : W2.heap.size = w1.heap.size + 1 := by rw [hW2]; simp
 have s3 : W3.heap.size = w1.heap.size + 1 + 1 := by rw [hW3]; simp [s2]
 have e1 : W2.heap[w1.heap.size]? = some (.cells #[.int .u8 b] 5 (0, 0)) := by rw [hW2]; exact blk_new w1 _
 have e2 : W3.heap[w1.heap.size + 1]? = some (.cells #[.slice (some ⟨w1.heap.size, 0, none⟩) 1 1] 32 (0, 0)) := by rw [hW3, ← s2]; exact blk_new W2 _
 have e1' : W3.heap[w1.heap.size]? = some (.cells #[.int .u8 b] 5 (0, 0)) := by rw [hW3]; exact blk_below e1 (below_alloc (Below.refl _ _) _)
 rw [← hW2, ← hW3]
 have B3 := below_alloc (Below.refl W3.heap.size W3) (.cells t 28)
 refine ⟨⟨_, 1, blk_below e2 B3, ?_, Nat.le_refl _⟩, ?_, ?_⟩
 ·
  have hc : (W3.alloc (.cells t 28)).cell? ⟨w1.heap.size, 0, none⟩ = some (.int .u8 b) := (blk_cell (blk_below e1' B3) 0).trans rfl
  refine Kd.C_of_reads (enc := Value.int .u8) (d := (0 : Int)) (h1 := fun _ => rfl) ⟨rfl, by simp, fun _ => ⟨_, rfl, fun j hj => ?_⟩⟩
  have : j = 0 := by simpa using hj
  subst this
  exact hc
 ·
  rw [← s3]
  exact blk_new W3 _
 ·
  exact below_alloc (by rw [hW3]; exact below_alloc (by rw [hW2]; exact below_alloc hb _) _) _
set_option maxHeartbeats 8000000 in
set_option maxRecDepth 100000 in
theorem ask_Bytes.calls (k : Nat) (a0_0 : Int) (a0_1 : Int) (A0_2 : Option Addr) (c0_2 : Nat) (l0_2 : List Int) (a0_3 : Int) (a0_4 : Int) (a0_5 : Int) (a0_6 : Int) (a0_7 : Int) (a0_8 : Int) (r1 : List Int) (r2 : Int) (w : World) (hr0_2 : Kd.C (Kd.int .i64) w A0_2 l0_2.length l0_2) (hc0_2 : l0_2.length ≤ c0_2) (h : ask_Bytes.f k a0_0 a0_1 l0_2 a0_3 a0_4 a0_5 a0_6 a0_7 a0_8 = some (r1, r2)) :
  Calls Try.prog 13 #[.agg #[.int .i64 a0_0, .int .u32 a0_1, .slice A0_2 l0_2.length c0_2, .int .i64 a0_3, .int .i64 a0_4, .int .i32 a0_5, .int .i64 a0_6, .int .u64 a0_7, .int .i64 a0_8]] w fun e w' => ∃ v0_ : Value, e = .returned (.tuple #[v0_, .int .i64 r2]) ∧ Kd.R (Kd.int .u8) 5 w' w.heap.size (fun _ => True) v0_ r1 ∧ Below w.heap.size w w' := by
 have HR := Aside0.mk hr0_2
 have HC := Aside0.mk hc0_2
 clear hr0_2 hc0_2
 unfold ask_Bytes.f at h
 obtain ⟨e, he, h⟩ := Option.bind_eq_some_iff.mp h
 have HT := Aside0.mk he
 clear he
 by_cases c0 : e = 0
 ·
  rw [if_pos c0] at h
  subst c0
  by_cases c1 : a0_0 = 1
  ·
   rw [if_pos c1] at h
   obtain ⟨out, ho, h⟩ := Option.bind_eq_some_iff.mp h
   simp only [Option.some.injEq, Prod.mk.injEq] at h
   obtain ⟨rfl, rfl⟩ := h
   have d1 : (a0_0 == 1) = true := beq_iff_eq.2 c1
   clear c1
   unfold ask_Bytes.one at ho
   obtain ⟨o1, hp1, ho⟩ := Option.bind_eq_some_iff.mp ho
   have HP1 := Aside0.mk hp1
   clear hp1
   obtain ⟨o2, hp2, ho⟩ := Option.bind_eq_some_iff.mp ho
   have HP2 := Aside0.mk hp2
   clear hp2
   obtain ⟨o3, hp3, ho⟩ := Option.bind_eq_some_iff.mp ho
   have HP3 := Aside0.mk hp3
   clear hp3
   obtain ⟨o4, hp4, ho⟩ := Option.bind_eq_some_iff.mp ho
   have HP4 := Aside0.mk hp4
   clear hp4
   obtain ⟨o5, hp5, ho⟩ := Option.bind_eq_some_iff.mp ho
   have HP5 := Aside0.mk hp5
   clear hp5
   obtain ⟨o6, hp6, ho⟩ := Option.bind_eq_some_iff.mp ho
   have HP6 := Aside0.mk hp6
   clear hp6
   obtain ⟨o7, hp7, ho⟩ := Option.bind_eq_some_iff.mp ho
   have HP7 := Aside0.mk hp7
   clear hp7
   have HALL := Aside0.mk ho
   have HLM := Aside0.mk HR.out.2.1
   clear ho
   go_enter Try.func13, Try.ntmps13
   go_wp2_with (first | (go_at_call 16; (with_reducible refine (ask_Right.calls k a0_0 a0_1 A0_2 c0_2 l0_2 a0_3 a0_4 a0_5 a0_6 a0_7 a0_8 0 _ ?q1 ?q2 HT.out).mono ?_); (case q1 => exact Kd.C_below HR.out (by repeat (first | exact Below.refl _ _ | apply below_alloc))); (case q2 => exact HC.out); rintro e w1 ⟨rfl, hb1⟩; obtain ⟨hcell1, hfz1⟩ := ask_Right.bcell hb1; have hs1 : w.heap.size < w1.heap.size := (by have h_ := hb1.size; (try simp at h_); omega); have hs1a : w.heap.size < w1.heap.size + 1 := (by omega); have hs1b : w.heap.size < w1.heap.size + 1 + 1 := (by omega); have hs1c : w.heap.size < w1.heap.size + 1 + 1 + 1 := (by omega); have HB1 := Aside0.mk hb1; clear hb1))
   have hst := ask_Bytes.start w w1 (a0_0 % 256) #[.slice A0_2 l0_2.length c0_2, .int .i64 a0_3, .int .i64 a0_4, .int .i32 a0_5, .int .i64 a0_6, .int .u64 a0_7] #[] (below_step (below_alloc (Below.refl _ _) _) HB1.out); have HI1 := Aside0.mk hst.1; have BT1 := Aside0.mk hst.2.1; have HBB1 := Aside0.mk hst.2.2; have HG := Aside0.mk (show w.heap.size ≤ w1.heap.size + 1 from by omega); clear hst
   refine (ask_Bytes.put k (w1.heap.size + 1) (IntKind.u64.wrap a0_1) 4 [a0_0 % 256] o1 w _ ?b1 ?b2 ?b3 HP1.out).mono ?_; (case b1 => exact HBB1.out); (case b2 => exact HG.out); (case b3 => exact HI1.out); rintro e w2 ⟨rfl, hO, hK, hB⟩; have BT2 := Aside0.mk (KeepBut.blk hK BT1.out (by omega) (by simp)); have ht2_0 : w2.cell? ⟨w1.heap.size + 1 + 1, 0, none⟩ = some (.slice A0_2 l0_2.length c0_2) := (blk_cell BT2.out 0).trans rfl; have ht2_1 : w2.cell? ⟨w1.heap.size + 1 + 1, 1, none⟩ = some (.int .i64 a0_3) := (blk_cell BT2.out 1).trans rfl; have ht2_2 : w2.cell? ⟨w1.heap.size + 1 + 1, 2, none⟩ = some (.int .i64 a0_4) := (blk_cell BT2.out 2).trans rfl; have ht2_3 : w2.cell? ⟨w1.heap.size + 1 + 1, 3, none⟩ = some (.int .i32 a0_5) := (blk_cell BT2.out 3).trans rfl; have ht2_4 : w2.cell? ⟨w1.heap.size + 1 + 1, 4, none⟩ = some (.int .i64 a0_6) := (blk_cell BT2.out 4).trans rfl; have ht2_5 : w2.cell? ⟨w1.heap.size + 1 + 1, 5, none⟩ = some (.int .u64 a0_7) := (blk_cell BT2.out 5).trans rfl; have HO2 := Aside0.mk hO; have HB2 := Aside0.mk hB; clear hO hK hB
   skip
   go_wp2_with (fail)
   refine (ask_Bytes.put k (w1.heap.size + 1) (IntKind.u64.wrap a0_3) 2 o1 o2 w _ ?b1 ?b2 ?b3 HP2.out).mono ?_; (case b1 => exact HB2.out); (case b2 => exact HG.out); (case b3 => exact HO2.out.isOut); rintro e w3 ⟨rfl, hO, hK, hB⟩; have BT3 := Aside0.mk (KeepBut.blk hK BT2.out (by omega) (by simp)); have ht3_0 : w3.cell? ⟨w1.heap.size + 1 + 1, 0, none⟩ = some (.slice A0_2 l0_2.length c0_2) := (blk_cell BT3.out 0).trans rfl; have ht3_1 : w3.cell? ⟨w1.heap.size + 1 + 1, 1, none⟩ = some (.int .i64 a0_3) := (blk_cell BT3.out 1).trans rfl; have ht3_2 : w3.cell? ⟨w1.heap.size + 1 + 1, 2, none⟩ = some (.int .i64 a0_4) := (blk_cell BT3.out 2).trans rfl; have ht3_3 : w3.cell? ⟨w1.heap.size + 1 + 1, 3, none⟩ = some (.int .i32 a0_5) := (blk_cell BT3.out 3).trans rfl; have ht3_4 : w3.cell? ⟨w1.heap.size + 1 + 1, 4, none⟩ = some (.int .i64 a0_6) := (blk_cell BT3.out 4).trans rfl; have ht3_5 : w3.cell? ⟨w1.heap.size + 1 + 1, 5, none⟩ = some (.int .u64 a0_7) := (blk_cell BT3.out 5).trans rfl; have HO3 := Aside0.mk hO; have HB3 := Aside0.mk hB; clear hO hK hB
   skip
   go_wp2_with (fail)
   refine (ask_Bytes.put k (w1.heap.size + 1) (IntKind.u64.wrap (wrap64 (a0_4 + 1))) 1 o2 o3 w _ ?b1 ?b2 ?b3 HP3.out).mono ?_; (case b1 => exact HB3.out); (case b2 => exact HG.out); (case b3 => exact HO3.out.isOut); rintro e w4 ⟨rfl, hO, hK, hB⟩; have BT4 := Aside0.mk (KeepBut.blk hK BT3.out (by omega) (by simp)); have ht4_0 : w4.cell? ⟨w1.heap.size + 1 + 1, 0, none⟩ = some (.slice A0_2 l0_2.length c0_2) := (blk_cell BT4.out 0).trans rfl; have ht4_1 : w4.cell? ⟨w1.heap.size + 1 + 1, 1, none⟩ = some (.int .i64 a0_3) := (blk_cell BT4.out 1).trans rfl; have ht4_2 : w4.cell? ⟨w1.heap.size + 1 + 1, 2, none⟩ = some (.int .i64 a0_4) := (blk_cell BT4.out 2).trans rfl; have ht4_3 : w4.cell? ⟨w1.heap.size + 1 + 1, 3, none⟩ = some (.int .i32 a0_5) := (blk_cell BT4.out 3).trans rfl; have ht4_4 : w4.cell? ⟨w1.heap.size + 1 + 1, 4, none⟩ = some (.int .i64 a0_6) := (blk_cell BT4.out 4).trans rfl; have ht4_5 : w4.cell? ⟨w1.heap.size + 1 + 1, 5, none⟩ = some (.int .u64 a0_7) := (blk_cell BT4.out 5).trans rfl; have HO4 := Aside0.mk hO; have HB4 := Aside0.mk hB; clear hO hK hB
   skip
   go_wp2_with (fail)
   refine (ask_Bytes.put k (w1.heap.size + 1) (IntKind.u64.wrap a0_5) 4 o3 o4 w _ ?b1 ?b2 ?b3 HP4.out).mono ?_; (case b1 => exact HB4.out); (case b2 => exact HG.out); (case b3 => exact HO4.out.isOut); rintro e w5 ⟨rfl, hO, hK, hB⟩; have BT5 := Aside0.mk (KeepBut.blk hK BT4.out (by omega) (by simp)); have ht5_0 : w5.cell? ⟨w1.heap.size + 1 + 1, 0, none⟩ = some (.slice A0_2 l0_2.length c0_2) := (blk_cell BT5.out 0).trans rfl; have ht5_1 : w5.cell? ⟨w1.heap.size + 1 + 1, 1, none⟩ = some (.int .i64 a0_3) := (blk_cell BT5.out 1).trans rfl; have ht5_2 : w5.cell? ⟨w1.heap.size + 1 + 1, 2, none⟩ = some (.int .i64 a0_4) := (blk_cell BT5.out 2).trans rfl; have ht5_3 : w5.cell? ⟨w1.heap.size + 1 + 1, 3, none⟩ = some (.int .i32 a0_5) := (blk_cell BT5.out 3).trans rfl; have ht5_4 : w5.cell? ⟨w1.heap.size + 1 + 1, 4, none⟩ = some (.int .i64 a0_6) := (blk_cell BT5.out 4).trans rfl; have ht5_5 : w5.cell? ⟨w1.heap.size + 1 + 1, 5, none⟩ = some (.int .u64 a0_7) := (blk_cell BT5.out 5).trans rfl; have HO5 := Aside0.mk hO; have HB5 := Aside0.mk hB; clear hO hK hB
   skip
   go_wp2_with (fail)
   refine (ask_Bytes.put k (w1.heap.size + 1) (IntKind.u64.wrap a0_6) 1 o4 o5 w _ ?b1 ?b2 ?b3 HP5.out).mono ?_; (case b1 => exact HB5.out); (case b2 => exact HG.out); (case b3 => exact HO5.out.isOut); rintro e w6 ⟨rfl, hO, hK, hB⟩; have BT6 := Aside0.mk (KeepBut.blk hK BT5.out (by omega) (by simp)); have ht6_0 : w6.cell? ⟨w1.heap.size + 1 + 1, 0, none⟩ = some (.slice A0_2 l0_2.length c0_2) := (blk_cell BT6.out 0).trans rfl; have ht6_1 : w6.cell? ⟨w1.heap.size + 1 + 1, 1, none⟩ = some (.int .i64 a0_3) := (blk_cell BT6.out 1).trans rfl; have ht6_2 : w6.cell? ⟨w1.heap.size + 1 + 1, 2, none⟩ = some (.int .i64 a0_4) := (blk_cell BT6.out 2).trans rfl; have ht6_3 : w6.cell? ⟨w1.heap.size + 1 + 1, 3, none⟩ = some (.int .i32 a0_5) := (blk_cell BT6.out 3).trans rfl; have ht6_4 : w6.cell? ⟨w1.heap.size + 1 + 1, 4, none⟩ = some (.int .i64 a0_6) := (blk_cell BT6.out 4).trans rfl; have ht6_5 : w6.cell? ⟨w1.heap.size + 1 + 1, 5, none⟩ = some (.int .u64 a0_7) := (blk_cell BT6.out 5).trans rfl; have HO6 := Aside0.mk hO; have HB6 := Aside0.mk hB; clear hO hK hB
   skip
   go_wp2_with (fail)
   refine (ask_Bytes.put k (w1.heap.size + 1) a0_7 8 o5 o6 w _ ?b1 ?b2 ?b3 HP6.out).mono ?_; (case b1 => exact HB6.out); (case b2 => exact HG.out); (case b3 => exact HO6.out.isOut); rintro e w7 ⟨rfl, hO, hK, hB⟩; have BT7 := Aside0.mk (KeepBut.blk hK BT6.out (by omega) (by simp)); have ht7_0 : w7.cell? ⟨w1.heap.size + 1 + 1, 0, none⟩ = some (.slice A0_2 l0_2.length c0_2) := (blk_cell BT7.out 0).trans rfl; have ht7_1 : w7.cell? ⟨w1.heap.size + 1 + 1, 1, none⟩ = some (.int .i64 a0_3) := (blk_cell BT7.out 1).trans rfl; have ht7_2 : w7.cell? ⟨w1.heap.size + 1 + 1, 2, none⟩ = some (.int .i64 a0_4) := (blk_cell BT7.out 2).trans rfl; have ht7_3 : w7.cell? ⟨w1.heap.size + 1 + 1, 3, none⟩ = some (.int .i32 a0_5) := (blk_cell BT7.out 3).trans rfl; have ht7_4 : w7.cell? ⟨w1.heap.size + 1 + 1, 4, none⟩ = some (.int .i64 a0_6) := (blk_cell BT7.out 4).trans rfl; have ht7_5 : w7.cell? ⟨w1.heap.size + 1 + 1, 5, none⟩ = some (.int .u64 a0_7) := (blk_cell BT7.out 5).trans rfl; have HO7 := Aside0.mk hO; have HB7 := Aside0.mk hB; clear hO hK hB
   skip
   go_wp2_with (fail)
   refine (ask_Bytes.put k (w1.heap.size + 1) (IntKind.u64.wrap (l0_2.length : Int)) 2 o6 o7 w _ ?b1 ?b2 ?b3 HP7.out).mono ?_; (case b1 => exact HB7.out); (case b2 => exact HG.out); (case b3 => exact HO7.out.isOut); rintro e w8 ⟨rfl, hO, hK, hB⟩; have BT8 := Aside0.mk (KeepBut.blk hK BT7.out (by omega) (by simp)); have ht8_0 : w8.cell? ⟨w1.heap.size + 1 + 1, 0, none⟩ = some (.slice A0_2 l0_2.length c0_2) := (blk_cell BT8.out 0).trans rfl; have ht8_1 : w8.cell? ⟨w1.heap.size + 1 + 1, 1, none⟩ = some (.int .i64 a0_3) := (blk_cell BT8.out 1).trans rfl; have ht8_2 : w8.cell? ⟨w1.heap.size + 1 + 1, 2, none⟩ = some (.int .i64 a0_4) := (blk_cell BT8.out 2).trans rfl; have ht8_3 : w8.cell? ⟨w1.heap.size + 1 + 1, 3, none⟩ = some (.int .i32 a0_5) := (blk_cell BT8.out 3).trans rfl; have ht8_4 : w8.cell? ⟨w1.heap.size + 1 + 1, 4, none⟩ = some (.int .i64 a0_6) := (blk_cell BT8.out 4).trans rfl; have ht8_5 : w8.cell? ⟨w1.heap.size + 1 + 1, 5, none⟩ = some (.int .u64 a0_7) := (blk_cell BT8.out 5).trans rfl; have HO8 := Aside0.mk hO; have HB8 := Aside0.mk hB; clear hO hK hB
   skip
   go_wp2
   go_loopw [73] (fun i wr => ∃ n : Nat, n ≤ l0_2.length ∧ i = .int .i64 n ∧ ∃ out' b, Aside0 (ask_Bytes.all k out' (l0_2.drop n) = some out) ∧ Aside0 (ask_Bytes.IsOutR wr b (w1.heap.size + 1) out' ∧ w.heap.size ≤ b) ∧ Aside0 (Below w.heap.size w wr)) (fun i _ => l0_2.length - (intOf i).toNat)
   case atStart => exact ⟨0, Nat.zero_le _, rfl, o7, _, ⟨by simpa using HALL.out⟩, ⟨HO8.out, HB7.out.size⟩, ⟨HB8.out⟩⟩
   case round =>
    clear ht2_0 ht2_1 ht2_2 ht2_3 ht2_4 ht2_5 ht3_0 ht3_1 ht3_2 ht3_3 ht3_4 ht3_5 ht4_0 ht4_1 ht4_2 ht4_3 ht4_4 ht4_5 ht5_0 ht5_1 ht5_2 ht5_3 ht5_4 ht5_5 ht6_0 ht6_1 ht6_2 ht6_3 ht6_4 ht6_5 ht7_0 ht7_1 ht7_2 ht7_3 ht7_4 ht7_5 ht8_0 ht8_1 ht8_2 ht8_3 ht8_4 ht8_5
    obtain ⟨n, hn, rfl, out', b, HA, HI, HB⟩ := hrel
    have hl63 := HR.out.2.1
    by_cases c : n < l0_2.length
    ·
     have c1 : decide ((n : Int) < (l0_2.length : Int)) = true := decide_eq_true (by omega)
     have c2 : decide (n < l0_2.length) = true := decide_eq_true c
     have hp0 : (0 : Int) ≤ (n : Int) := by omega
     have hq0 : (n : Int) < (l0_2.length : Int) := by omega
     obtain ⟨ad, e1, hx⟩ := Kd.at_int HR.out (n : Int) hp0 hq0
     cases e1
     have hx2 : w.cell? (ad.add n) = some (.int .i64 (rd l0_2 (n : Int))) := by simpa using hx
     have hx3 : wr.cell? (ad.add n) = some (.int .i64 (rd l0_2 (n : Int))) := (HB.out.cell (World.block_lt_of_cell? w _ hx2)).trans hx2
     obtain ⟨y, hy⟩ : ∃ y : Int, rd l0_2 (n : Int) = y := ⟨_, rfl⟩
     rw [hy] at hx3
     have ha := HA.out
     rw [List.drop_eq_getElem_cons c, show l0_2[n] = y from by rw [← hy]; simp [rd, List.getElem?_eq_getElem c]] at ha
     obtain ⟨o', hf, ha⟩ := Option.bind_eq_some_iff.mp ha
     have HF := Aside0.mk hf
     have HA2 := Aside0.mk ha
     clear hy hx hx2 ha hf
     go_wp2_with (first | (go_at_call 39; (with_reducible refine (ask_Bytes.put k (w1.heap.size + 1) (IntKind.u64.wrap y) 1 out' o' w _ ?b1 ?b2 ?b3 HF.out).mono ?_); (case b1 => exact HB.out); (case b2 => exact HG.out); (case b3 => exact HI.out.1.isOut); rintro e wn ⟨rfl, hO, hK, hBn⟩; have HOn := Aside0.mk hO; have HBn := Aside0.mk hBn; clear hO hK hBn))
     go_roundw
     case rel => exact ⟨n + 1, by omega, by go_num, o', _, HA2, ⟨HOn.out, HB.out.size⟩, HBn⟩
     case measure => simp [intOf]; omega
    ·
     have c1 : decide ((n : Int) < (l0_2.length : Int)) = false := decide_eq_false (by omega)
     have c2 : decide (n < l0_2.length) = false := decide_eq_false c
     have hnl : n = l0_2.length := by omega
     have ha := HA.out
     rw [hnl, List.drop_length] at ha
     have hoe : out' = out := Option.some.inj ha
     subst hoe
     obtain ⟨v, hv, hR⟩ := HI.out.1
     obtain ⟨A9, c9, e9⟩ := Kd.R_slice hR
     subst e9
     have hcz : wr.cell? ⟨w1.heap.size + 1, 0, none⟩ = some (.slice A9 out'.length c9) := (blk_cell hv 0).trans rfl
     have HRR := Aside0.mk hR
     clear hnl ha hv hR
     go_wp2
     go_ret2
     exact ⟨_, rfl, Kd.R_mono (Kd.R_lower HRR.out HI.out.2) (fun _ _ => trivial), HB.out⟩
  ·
   rw [if_neg c1] at h
   have d1 : (a0_0 == 1) = false := beq_eq_false_iff_ne.2 c1
   clear c1
   by_cases c2 : a0_0 = 2
   ·
    rw [if_pos c2] at h
    have d2 : (a0_0 == 2) = true := beq_iff_eq.2 c2
    clear c2
    obtain ⟨out, ho, h⟩ := Option.bind_eq_some_iff.mp h
    simp only [Option.some.injEq, Prod.mk.injEq] at h
    obtain ⟨rfl, rfl⟩ := h
    have HP1 := Aside0.mk (show seal_Put.f k [a0_0 % 256] (IntKind.u64.wrap a0_1) 4 = some out from ho)
    clear ho
    go_enter Try.func13, Try.ntmps13
    go_wp2_with (first | (go_at_call 16; (with_reducible refine (ask_Right.calls k a0_0 a0_1 A0_2 c0_2 l0_2 a0_3 a0_4 a0_5 a0_6 a0_7 a0_8 0 _ ?q1 ?q2 HT.out).mono ?_); (case q1 => exact Kd.C_below HR.out (by repeat (first | exact Below.refl _ _ | apply below_alloc))); (case q2 => exact HC.out); rintro e w1 ⟨rfl, hb1⟩; obtain ⟨hcell1, hfz1⟩ := ask_Right.bcell hb1; have hs1 : w.heap.size < w1.heap.size := (by have h_ := hb1.size; (try simp at h_); omega); have hs1a : w.heap.size < w1.heap.size + 1 := (by omega); have hs1b : w.heap.size < w1.heap.size + 1 + 1 := (by omega); have hs1c : w.heap.size < w1.heap.size + 1 + 1 + 1 := (by omega); have HB1 := Aside0.mk hb1; clear hb1))
    have hst := ask_Bytes.start w w1 (a0_0 % 256) #[.slice A0_2 l0_2.length c0_2, .int .i64 a0_3, .int .i64 a0_4, .int .i32 a0_5, .int .i64 a0_6, .int .u64 a0_7] #[] (below_step (below_alloc (Below.refl _ _) _) HB1.out); have HI1 := Aside0.mk hst.1; have BT1 := Aside0.mk hst.2.1; have HBB1 := Aside0.mk hst.2.2; have HG := Aside0.mk (show w.heap.size ≤ w1.heap.size + 1 from by omega); clear hst
    refine (ask_Bytes.put k (w1.heap.size + 1) (IntKind.u64.wrap a0_1) 4 [a0_0 % 256] out w _ ?b1 ?b2 ?b3 HP1.out).mono ?_; (case b1 => exact HBB1.out); (case b2 => exact HG.out); (case b3 => exact HI1.out); rintro e w2 ⟨rfl, hO, hK, hB⟩; have BT2 := Aside0.mk (KeepBut.blk hK BT1.out (by omega) (by simp)); have ht2_0 : w2.cell? ⟨w1.heap.size + 1 + 1, 0, none⟩ = some (.slice A0_2 l0_2.length c0_2) := (blk_cell BT2.out 0).trans rfl; have ht2_1 : w2.cell? ⟨w1.heap.size + 1 + 1, 1, none⟩ = some (.int .i64 a0_3) := (blk_cell BT2.out 1).trans rfl; have ht2_2 : w2.cell? ⟨w1.heap.size + 1 + 1, 2, none⟩ = some (.int .i64 a0_4) := (blk_cell BT2.out 2).trans rfl; have ht2_3 : w2.cell? ⟨w1.heap.size + 1 + 1, 3, none⟩ = some (.int .i32 a0_5) := (blk_cell BT2.out 3).trans rfl; have ht2_4 : w2.cell? ⟨w1.heap.size + 1 + 1, 4, none⟩ = some (.int .i64 a0_6) := (blk_cell BT2.out 4).trans rfl; have ht2_5 : w2.cell? ⟨w1.heap.size + 1 + 1, 5, none⟩ = some (.int .u64 a0_7) := (blk_cell BT2.out 5).trans rfl; have HO2 := Aside0.mk hO; have HB2 := Aside0.mk hB; clear hO hK hB
    obtain ⟨v, hv, hR⟩ := HO2.out
    obtain ⟨A9, c9, e9⟩ := Kd.R_slice hR
    subst e9
    have hcz : w2.cell? ⟨w1.heap.size + 1, 0, none⟩ = some (.slice A9 out.length c9) := (blk_cell hv 0).trans rfl
    have HRR := Aside0.mk hR
    clear hv hR
    go_wp2
    go_ret2
    exact ⟨_, rfl, Kd.R_mono (Kd.R_lower HRR.out HBB1.out.size) (fun _ _ => trivial), HB2.out⟩
   ·
    rw [if_neg c2] at h
    have d2 : (a0_0 == 2) = false := beq_eq_false_iff_ne.2 c2
    clear c2
    obtain ⟨out, ho, h⟩ := Option.bind_eq_some_iff.mp h
    simp only [Option.some.injEq, Prod.mk.injEq] at h
    obtain ⟨rfl, rfl⟩ := h
    have HP1 := Aside0.mk (show seal_Put.f k [a0_0 % 256] (IntKind.u64.wrap a0_8) 1 = some out from ho)
    clear ho
    go_enter Try.func13, Try.ntmps13
    go_wp2_with (first | (go_at_call 16; (with_reducible refine (ask_Right.calls k a0_0 a0_1 A0_2 c0_2 l0_2 a0_3 a0_4 a0_5 a0_6 a0_7 a0_8 0 _ ?q1 ?q2 HT.out).mono ?_); (case q1 => exact Kd.C_below HR.out (by repeat (first | exact Below.refl _ _ | apply below_alloc))); (case q2 => exact HC.out); rintro e w1 ⟨rfl, hb1⟩; obtain ⟨hcell1, hfz1⟩ := ask_Right.bcell hb1; have hs1 : w.heap.size < w1.heap.size := (by have h_ := hb1.size; (try simp at h_); omega); have hs1a : w.heap.size < w1.heap.size + 1 := (by omega); have hs1b : w.heap.size < w1.heap.size + 1 + 1 := (by omega); have hs1c : w.heap.size < w1.heap.size + 1 + 1 + 1 := (by omega); have HB1 := Aside0.mk hb1; clear hb1))
    have hst := ask_Bytes.start w w1 (a0_0 % 256) #[.slice A0_2 l0_2.length c0_2, .int .i64 a0_3, .int .i64 a0_4, .int .i32 a0_5, .int .i64 a0_6, .int .u64 a0_7] #[] (below_step (below_alloc (Below.refl _ _) _) HB1.out); have HI1 := Aside0.mk hst.1; have BT1 := Aside0.mk hst.2.1; have HBB1 := Aside0.mk hst.2.2; have HG := Aside0.mk (show w.heap.size ≤ w1.heap.size + 1 from by omega); clear hst
    refine (ask_Bytes.put k (w1.heap.size + 1) (IntKind.u64.wrap a0_8) 1 [a0_0 % 256] out w _ ?b1 ?b2 ?b3 HP1.out).mono ?_; (case b1 => exact HBB1.out); (case b2 => exact HG.out); (case b3 => exact HI1.out); rintro e w2 ⟨rfl, hO, hK, hB⟩; have BT2 := Aside0.mk (KeepBut.blk hK BT1.out (by omega) (by simp)); have ht2_0 : w2.cell? ⟨w1.heap.size + 1 + 1, 0, none⟩ = some (.slice A0_2 l0_2.length c0_2) := (blk_cell BT2.out 0).trans rfl; have ht2_1 : w2.cell? ⟨w1.heap.size + 1 + 1, 1, none⟩ = some (.int .i64 a0_3) := (blk_cell BT2.out 1).trans rfl; have ht2_2 : w2.cell? ⟨w1.heap.size + 1 + 1, 2, none⟩ = some (.int .i64 a0_4) := (blk_cell BT2.out 2).trans rfl; have ht2_3 : w2.cell? ⟨w1.heap.size + 1 + 1, 3, none⟩ = some (.int .i32 a0_5) := (blk_cell BT2.out 3).trans rfl; have ht2_4 : w2.cell? ⟨w1.heap.size + 1 + 1, 4, none⟩ = some (.int .i64 a0_6) := (blk_cell BT2.out 4).trans rfl; have ht2_5 : w2.cell? ⟨w1.heap.size + 1 + 1, 5, none⟩ = some (.int .u64 a0_7) := (blk_cell BT2.out 5).trans rfl; have HO2 := Aside0.mk hO; have HB2 := Aside0.mk hB; clear hO hK hB
    obtain ⟨v, hv, hR⟩ := HO2.out
    obtain ⟨A9, c9, e9⟩ := Kd.R_slice hR
    subst e9
    have hcz : w2.cell? ⟨w1.heap.size + 1, 0, none⟩ = some (.slice A9 out.length c9) := (blk_cell hv 0).trans rfl
    have HRR := Aside0.mk hR
    clear hv hR
    go_wp2
    go_ret2
    exact ⟨_, rfl, Kd.R_mono (Kd.R_lower HRR.out HBB1.out.size) (fun _ _ => trivial), HB2.out⟩
 ·
  rw [if_neg c0] at h
  simp only [Option.some.injEq, Prod.mk.injEq] at h
  obtain ⟨rfl, rfl⟩ := h
  have d0 : (e == 0) = false := beq_eq_false_iff_ne.2 c0
  have d0' : (e != 0) = true := bne_iff_ne.2 c0
  clear c0
  go_enter Try.func13, Try.ntmps13
  go_wp2_with (first | (go_at_call 16; (with_reducible refine (ask_Right.calls k a0_0 a0_1 A0_2 c0_2 l0_2 a0_3 a0_4 a0_5 a0_6 a0_7 a0_8 e _ ?q1 ?q2 HT.out).mono ?_); (case q1 => exact Kd.C_below HR.out (by repeat (first | exact Below.refl _ _ | apply below_alloc))); (case q2 => exact HC.out); rintro e w1 ⟨rfl, hb1⟩; obtain ⟨hcell1, hfz1⟩ := ask_Right.bcell hb1; have hs1 : w.heap.size < w1.heap.size := (by have h_ := hb1.size; (try simp at h_); omega); have hs1a : w.heap.size < w1.heap.size + 1 := (by omega); have hs1b : w.heap.size < w1.heap.size + 1 + 1 := (by omega); have hs1c : w.heap.size < w1.heap.size + 1 + 1 + 1 := (by omega); have HB1 := Aside0.mk hb1; clear hb1))
  go_ret2
  exact ⟨_, rfl, Kd.R_nil _ _ _ _ _, below_step (below_alloc (Below.refl _ _) _) HB1.out⟩

/-! ### bytes_Clone: function 85 -/
def bytes_Clone.f (l0 : List Int) : Option (List Int) := if l0.length < 140737488355328 then some l0 else none
set_option maxHeartbeats 8000000 in
set_option maxRecDepth 100000 in
theorem bytes_Clone.calls (A0 : Option Addr) (c0 : Nat) (l0 : List Int) (r : List Int) (w : World) (hr0 : Kd.C (Kd.int .u8) w A0 l0.length l0) (hc0 : l0.length ≤ c0) (h : bytes_Clone.f l0 = some r) :
  Calls Try.prog 85 #[.slice A0 l0.length c0] w fun e w' => ∃ v0_ : Value, e = .returned (v0_) ∧ Kd.R (Kd.int .u8) 5 w' w.heap.size (fun _ => True) v0_ r ∧ Below w.heap.size w w' := by
 unfold bytes_Clone.f at h
 by_cases hlim : l0.length < 140737488355328
 ·
  rw [if_pos hlim] at h
  obtain rfl := Option.some.inj h
  clear h
  have HR0 := Aside0.mk hr0
  have HL := Aside0.mk hlim
  have hz := hr0.2.2
  clear hr0 hlim hc0
  have hcmp : ∀ W : World, (binOp .eql 32 (.slice A0 l0.length c0) (.slice none 0 0)).run Try.prog W = .ok (.bool A0.isNone) W := fun W => Lib.run_eql_slice_nil W _ _ A0 _ _ _ _ Try.underlying32
  cases A0 with
  | none =>
   have hl0 : l0 = [] := by
    rcases Nat.eq_zero_or_pos l0.length with h0 | h0
    ·
     exact List.eq_nil_of_length_eq_zero h0
    ·
     obtain ⟨ad, had, _⟩ := hz h0
     cases had
   subst hl0
   clear hz
   simp only [List.length_nil, Option.isNone_none] at hcmp
   have HB := Aside0.mk (Below.refl w.heap.size w)
   go_enter Try.func85, Try.ntmps85
   go_wp2
   go_ret
   exact ⟨_, rfl, Kd.R_nil _ _ _ _ _, HB.out⟩
  | some ad =>
   clear hz
   simp only [Option.isNone_some] at hcmp
   have HB := Aside0.mk (Below.refl w.heap.size w)
   go_enter Try.func85, Try.ntmps85
   go_wp2_with (first | ((with_reducible refine gate_dst (N := 5) rfl ?_); (try (refine gate_guard (by rfl) ?_; dsimp only)); refine Kd.R_lit (Kd.int .u8) _ 5 ?hg (N := 5) ?hd (xs := ([] : List Int)) (inner := []) (ok := fun _ => True) (okp := fun _ => True) ?hr ?hp (fun _ hk => hk) trivial (Below.refl _ _) (Nat.le_refl _) (by simp) ?_; (case hd => rfl); (case hg => rfl); (case hr => first | (go_simp; done) | (go_simp; rfl)); (case hp => exact (Reps.none _ _)); intro v188 w10 ho11 hb hg_ hnew_; clear hg_ hnew_; have n0_ := Aside0.mk (Kd.R_lower ho11 (below_size HB.out)); have n1_ := Aside0.mk (below_step HB.out hb); clear HB; have HO189 := n0_; have HB := n1_; clear n0_ n1_; clear hb ho11) | ((with_reducible refine gate_builtin (b := .append) (xs := #[.tmp 5, .tmp 6]) rfl ?_); (try (refine gate_guard (by rfl) ?_; dsimp only)); at_builtin; refine Kd.R_append_rows (Kd.int .u8) (w0 := w) w.heap.size rfl (.tmp 5) (.tmp 6) 32 5 (.int .u8 0) 1 rfl Try.underlying32 info5 rfl (by decide) (by omega) v188 [] l0 _ _ _ (fun _ => True) (fun _ => False) rfl rfl ?aO ?aR (fun _ _ h => h) (fun _ h => h.elim) ?aF ?aB ?aS ?aL ?_; (case aR => exact (Kd.C_below HR0.out HB.out)); (case aB => exact HB.out); (case aF => exact (fun _ _ => trivial)); (case aO => exact HO189.out); (case aS => exact (below_size HB.out)); (case aL => have := HL.out; simp; omega); intro v191 w12 ho hb hg hat; have n0_ := Aside0.mk (hb); have n1_ := Aside0.mk (ho); clear HB; clear HO189; have HB := n0_; have HO192 := n1_; clear n0_ n1_; clear ho hb hg hat))
   go_ret
   exact ⟨_, rfl, by simpa using HO192.out, HB.out⟩
 ·
  rw [if_neg hlim] at h
  cases h

/-- A reader at block g of W: its bytes lie in an elder block, which nobody writes. -/
def Arr141 (w0 W : World) (g : Nat) (A0 : Option Addr) (f0 : List Int) : Prop :=
 f0.length ≤ 9223372036854775807 ∧ (0 < f0.length → ∃ k cells off, A0 = some ⟨k, off, none⟩ ∧ k < g ∧ w0.heap.size ≤ k ∧ W.heap[k]? = some (.cells cells 5 (0, 0)) ∧ ∀ j, j < f0.length → cells[off + j]? = some (.int .u8 (f0.getD j 0)))
def Ap141 (W : World) (g : Nat) (row : Option Nat) : Prop := some g ≠ row ∧ ∀ k cells, W.heap[k]? = some (.cells cells 5 (0, 0)) → some k ≠ row
@[simp] theorem Ap141_none (W : World) (g : Nat) : Ap141 W g none = True := by simp [Ap141]
def IsS141 (w0 W : World) (g : Nat) (f0 : List Int) (f1 : Bool) : Prop :=
 ∃ A0 c0, W.heap[g]? = some (.cells #[.slice A0 f0.length c0, .bool f1] 141 (0, 0)) ∧ w0.heap.size ≤ g ∧ f0.length ≤ c0 ∧ Arr141 w0 W g A0 f0
theorem Arr141.move {w0 W W1 : World} {g : Nat} {A0 : Option Addr} {f0 : List Int} (h : Arr141 w0 W g A0 f0) (hm : ∀ k cells, k < g → W.heap[k]? = some (.cells cells 5 (0, 0)) → W1.heap[k]? = some (.cells cells 5 (0, 0))) : Arr141 w0 W1 g A0 f0 := by
 refine ⟨h.1, fun hp => ?_⟩
 obtain ⟨k, cells, off, h1, h2, h3, h4, h5⟩ := h.2 hp
 exact ⟨k, cells, off, h1, h2, h3, hm _ _ h2 h4, h5⟩
theorem IsS141.move {w0 W W1 : World} {g : Nat} {f0 : List Int} {f1 : Bool} (h : IsS141 w0 W g f0 f1) (h1 : ∀ o, W.heap[g]? = some o → W1.heap[g]? = some o) (h2 : ∀ k cells, k < g → W.heap[k]? = some (.cells cells 5 (0, 0)) → W1.heap[k]? = some (.cells cells 5 (0, 0))) : IsS141 w0 W1 g f0 f1 := by
 obtain ⟨A0, c0, hb, hg, hl, hr0⟩ := h
 exact ⟨A0, c0, h1 _ hb, hg, hl, hr0.move h2⟩
theorem IsS141.grown {w0 W : World} {g : Nat} {f0 : List Int} {f1 : Bool} {W1 : World} {row : Option Nat} (h : IsS141 w0 W g f0 f1) (hw : W.grownBy W1 row) (hne : Ap141 W g row) : IsS141 w0 W1 g f0 f1 :=
 h.move (fun _ hb => blk_grown hb hw hne.1) (fun _ _ _ hb => blk_grown hb hw (hne.2 _ _ hb))
theorem IsS141.own_neN {w0 W : World} {g : Nat} {f0 : List Int} {f1 : Bool} {α : Type} {d : Kd α} {e : Nat} {base : Nat} {ok : Nat → Prop} {v : Value} {xs : List α} (h : IsS141 w0 W g f0 f1) (ho : Kd.N d e W base ok v xs) (ht : e ≠ 141) : some g ≠ v.ownBlock := by
 obtain ⟨A0, c0, hb, _⟩ := h
 exact Kd.N_ne ho hb ht
theorem IsS141.own_apN {w0 W : World} {g : Nat} {f0 : List Int} {f1 : Bool} {α : Type} {d : Kd α} {e : Nat} {base : Nat} {ok : Nat → Prop} {v : Value} {xs : List α} (h : IsS141 w0 W g f0 f1) (ho : Kd.N d e W base ok v xs) (ht : e ≠ 141 ∧ e ≠ 5) : Ap141 W g v.ownBlock :=
 ⟨h.own_neN ho ht.1, fun _ _ hc => Kd.N_ne ho hc ht.2⟩
theorem IsS141.fresh {w0 W : World} {g : Nat} {f0 : List Int} {f1 : Bool} (h : IsS141 w0 W g f0 f1) : ∀ k, W.heap.size ≤ k → k ≠ g := by
 obtain ⟨A0, c0, hb, _⟩ := h
 exact Kd.freshB hb
theorem IsS141.kept {w0 W : World} {g : Nat} {f0 : List Int} {f1 : Bool} {W1 : World} {S : Nat → Prop} (h : IsS141 w0 W g f0 f1) (hk : Kept W W1 S) (hne : ¬ S g) (hne2 : ∀ k cells, W.heap[k]? = some (.cells cells 5 (0, 0)) → ¬ S k) : IsS141 w0 W1 g f0 f1 :=
 h.move (fun _ hb => blk_kept hb hk hne) (fun _ _ _ hb => blk_kept hb hk (hne2 _ _ hb))
theorem IsS141.below {w0 W : World} {g : Nat} {f0 : List Int} {f1 : Bool} {W1 : World} (h : IsS141 w0 W g f0 f1) (hw : Below W.heap.size W W1) : IsS141 w0 W1 g f0 f1 := h.grown (grown_of_below hw none) (by simp)
theorem IsS141.alloc {w0 W : World} {g : Nat} {f0 : List Int} {f1 : Bool} (h : IsS141 w0 W g f0 f1) (o : Obj) : IsS141 w0 (W.alloc o) g f0 f1 := h.below (below_alloc (Below.refl _ _) o)
theorem IsS141.drewN {w0 W : World} {g : Nat} {f0 : List Int} {f1 : Bool} (h : IsS141 w0 W g f0 f1) (m : Nat) : IsS141 w0 (W.drewN m) g f0 f1 := h
theorem IsS141.drew {w0 W : World} {g : Nat} {f0 : List Int} {f1 : Bool} (h : IsS141 w0 W g f0 f1) : IsS141 w0 W.drew g f0 f1 := h
theorem IsS141.at_ {w0 W : World} {g : Nat} {f0 : List Int} {f1 : Bool} {w' : World} {m : Nat} (hq : W.drewN m = w') (h : IsS141 w0 W g f0 f1) : IsS141 w0 w' g f0 f1 := by subst hq; exact IsS141.drewN h m
theorem IsS141.apart {w0 W : World} {g : Nat} {f0 : List Int} {f1 : Bool} {α : Type} {d : Kd α} {e : Nat} {base : Nat} {ok : Nat → Prop} {v : Value} {xs : List α} (h : IsS141 w0 W g f0 f1) (ho : d.R e W base ok v xs) (ht : ∀ q, q ∈ e :: d.E → q ≠ 141) : d.R e W base (fun k => ok k ∧ k ≠ g) v xs := by
 obtain ⟨A0, c0, hb, _⟩ := h
 exact Kd.R_types ho hb ht
theorem IsS141.own_ne {w0 W : World} {g : Nat} {f0 : List Int} {f1 : Bool} {α : Type} {d : Kd α} {e : Nat} {base : Nat} {ok : Nat → Prop} {v : Value} {xs : List α} (h : IsS141 w0 W g f0 f1) (ho : d.R e W base ok v xs) (ht : e ≠ 141) : some g ≠ v.ownBlock := by
 obtain ⟨A0, c0, hb, _⟩ := h
 exact Kd.R_ne ho hb ht
theorem IsS141.own_ap {w0 W : World} {g : Nat} {f0 : List Int} {f1 : Bool} {α : Type} {d : Kd α} {e : Nat} {base : Nat} {ok : Nat → Prop} {v : Value} {xs : List α} (h : IsS141 w0 W g f0 f1) (ho : d.R e W base ok v xs) (ht : e ≠ 141 ∧ e ≠ 5) : Ap141 W g v.ownBlock :=
 ⟨h.own_ne ho ht.1, fun _ _ hc => Kd.R_ne ho hc ht.2⟩
theorem IsS141.apartQ {w0 W : World} {g : Nat} {f0 : List Int} {f1 : Bool} {α : Type} {d : Kd α} {e : Nat} {base : Nat} {ok : Nat → Prop} {v : Value} {xs : List α} (h : IsS141 w0 W g f0 f1) (ho : d.Q e W base ok v xs) (ht : ∀ q, q ∈ e :: d.E → q ≠ 141) : d.Q e W base (fun k => ok k ∧ k ≠ g) v xs := by
 obtain ⟨A0, c0, hb, _⟩ := h
 exact Kd.Q_types ho hb ht
theorem IsS141.own_neQ {w0 W : World} {g : Nat} {f0 : List Int} {f1 : Bool} {α : Type} {d : Kd α} {e : Nat} {base : Nat} {ok : Nat → Prop} {v : Value} {xs : List α} (h : IsS141 w0 W g f0 f1) (ho : d.Q e W base ok v xs) (ht : e ≠ 141) : some g ≠ v.ownBlock := by
 obtain ⟨A0, c0, hb, _⟩ := h
 exact Kd.Q_ne ho hb ht
theorem IsS141.own_apQ {w0 W : World} {g : Nat} {f0 : List Int} {f1 : Bool} {α : Type} {d : Kd α} {e : Nat} {base : Nat} {ok : Nat → Prop} {v : Value} {xs : List α} (h : IsS141 w0 W g f0 f1) (ho : d.Q e W base ok v xs) (ht : e ≠ 141 ∧ e ≠ 5) : Ap141 W g v.ownBlock :=
 ⟨h.own_neQ ho ht.1, fun _ _ hc => Kd.Q_ne ho hc ht.2⟩
theorem IsS141.lt {w0 W : World} {g : Nat} {f0 : List Int} {f1 : Bool} (h : IsS141 w0 W g f0 f1) : g < W.heap.size := by
 obtain ⟨A0, c0, hb, _⟩ := h
 exact blk_lt hb
theorem IsS141.ge {w0 W : World} {g : Nat} {f0 : List Int} {f1 : Bool} (h : IsS141 w0 W g f0 f1) : w0.heap.size ≤ g := by
 obtain ⟨A0, c0, hb, hg, _⟩ := h
 exact hg
theorem IsS141.ne_blk {w0 W : World} {g : Nat} {f0 : List Int} {f1 : Bool} {a : Nat} {cs : Array Value} {t : TypeId} {fr : Nat × Nat} (h : IsS141 w0 W g f0 f1) (hb2 : W.heap[a]? = some (.cells cs t fr)) (ht : t ≠ 141) : g ≠ a := by
 obtain ⟨A0, c0, hb, _⟩ := h
 rintro rfl
 rw [hb] at hb2
 injection hb2 with hb2
 injection hb2 with _ ht2
 exact ht ht2.symm
theorem IsS141.far {w0 W : World} {g : Nat} {f0 : List Int} {f1 : Bool} {p : Addr} (h : IsS141 w0 W g f0 f1) (hne : g ≠ p.block) (hlt : g < p.block) (u : Value) : IsS141 w0 (W.setCell p u) g f0 f1 := by
 obtain ⟨A0, c0, hb, hg, hl, hr0, hr1⟩ := h
 refine ⟨A0, c0, blk_far hb hne u, hg, hl, hr0, fun hp => ?_⟩
 obtain ⟨k, cells, off, h1, h2, h3, h4, h5⟩ := hr1 hp
 exact ⟨k, cells, off, h1, h2, h3, blk_far h4 (by omega) u, h5⟩
theorem cellS141_0 {W : World} {g : Nat} {A0 : Option Addr} {c0 : Nat} {f0 : List Int} {f1 : Bool} (h : W.heap[g]? = some (.cells #[.slice A0 f0.length c0, .bool f1] 141 (0, 0))) : W.cell? ⟨g, 0, none⟩ = some (.slice A0 f0.length c0) := (blk_cell h 0).trans rfl
theorem cellS141_1 {W : World} {g : Nat} {A0 : Option Addr} {c0 : Nat} {f0 : List Int} {f1 : Bool} (h : W.heap[g]? = some (.cells #[.slice A0 f0.length c0, .bool f1] 141 (0, 0))) : W.cell? ⟨g, 1, none⟩ = some (.bool f1) := (blk_cell h 1).trans rfl
theorem IsS141.set_1 {w0 W : World} {g : Nat} {f0 : List Int} {f1 : Bool} (h : IsS141 w0 W g f0 f1) (x : Bool) : IsS141 w0 (W.setCell ⟨g, 1, none⟩ (.bool x)) g f0 x := by
 obtain ⟨A0, c0, hb, hg, hl, hr0, hr1⟩ := h
 refine ⟨A0, c0, by simpa using blk_set hb 1 (.bool x), hg, hl, hr0, fun hp => ?_⟩
 obtain ⟨k, cells, off, h1, h2, h3, h4, h5⟩ := hr1 hp
 exact ⟨k, cells, off, h1, h2, h3, blk_far h4 (by show k ≠ g; omega) _, h5⟩
/-- Its bytes, read where they lie now. -/
theorem IsS141.reads {w0 W : World} {g : Nat} {f0 : List Int} {f1 : Bool} (h : IsS141 w0 W g f0 f1) : ∃ A0 c0, W.heap[g]? = some (.cells #[.slice A0 f0.length c0, .bool f1] 141 (0, 0)) ∧ f0.length ≤ c0 ∧ Kd.C (Kd.int .u8) W A0 f0.length f0 ∧ (0 < f0.length → ∃ k off, A0 = some ⟨k, off, none⟩ ∧ k < g) := by
 obtain ⟨A0, c0, hb, hg, hl, hr0, hr1⟩ := h
 refine ⟨A0, c0, hb, hl, ⟨rfl, hr0, fun hp => ?_⟩, fun hp => ?_⟩
 ·
  obtain ⟨k, cells, off, h1, h2, h3, h4, h5⟩ := hr1 hp
  refine ⟨_, h1, fun j p hj => ⟨[.int .u8 p], rfl, rfl, fun i u hu => ?_⟩⟩
  have hjl := (List.getElem?_eq_some_iff.1 hj).1
  have hi : i = 0 := by
   have := (List.getElem?_eq_some_iff.1 hu).1
   simpa using this
  subst hi
  have hu' : Value.int .u8 p = u := by simpa using hu
  subst hu'
  have ha : (Addr.mk k off none).add (j * (Kd.int .u8).sz + 0) = ⟨k, off + j, none⟩ := by
   show (Addr.mk k off none).add (j * 1 + 0) = _
   unfold Addr.add
   by_cases h : j = 0 <;> simp [h]
  rw [ha, blk_cell h4, h5 j hjl]
  rw [List.getD_eq_getElem?_getD, hj]
  rfl
 ·
  obtain ⟨k, cells, off, h1, h2, _⟩ := hr1 hp
  exact ⟨k, off, h1, h2⟩
/-- A row of the call's own, made before the reader. -/
theorem Arr141.of_R {w0 W : World} {base g : Nat} {ok : Nat → Prop} {A : Option Addr} {c : Nat} {xs : List Int} (h : Kd.R (Kd.int .u8) 5 W base ok (.slice A xs.length c) xs) (hb : w0.heap.size ≤ base) (hg : W.heap.size ≤ g) : Arr141 w0 W g A xs := by
 have ho := Kd.own_of_R h
 rcases ho.2 with ⟨h1, h2⟩ | ⟨k, cap, cur, he, hbk, hh, hnc, hcm, hsz, htk⟩
 ·
  exact ⟨by omega, fun hp => by omega⟩
 ·
  injection he with he1 he2 he3
  refine ⟨by simp only [maxLen] at hcm; omega, fun _ => ⟨k, cur, 0, he1, Nat.lt_of_lt_of_le (blk_lt hh) hg, Nat.le_trans hb hbk, hh, fun j hj => ?_⟩⟩
  have hj2 : (encs (Value.int .u8) xs)[j]? = some (.int .u8 (xs.getD j 0)) := by
   simp [encs, List.getElem?_eq_getElem hj, List.getD_eq_getElem?_getD]
  rw [← htk, List.getElem?_take] at hj2
  split at hj2
  ·
   rw [Nat.zero_add, ← Array.getElem?_toList]
   exact hj2
  ·
   cases hj2
theorem IsS141.grown_far {w0 W : World} {g : Nat} {f0 : List Int} {f1 : Bool} {W1 : World} {row : Option Nat} (h : IsS141 w0 W g f0 f1) (hw : W.grownBy W1 row) (hne : some g ≠ row) (hlt : ∀ k, row = some k → k < w0.heap.size) : IsS141 w0 W1 g f0 f1 := by
 obtain ⟨A0, c0, hb, hg, hl, hr0, hr1⟩ := h
 refine ⟨A0, c0, blk_grown hb hw hne, hg, hl, hr0, fun hp => ?_⟩
 obtain ⟨k, cells, off, h1, h2, h3, h4, h5⟩ := hr1 hp
 exact ⟨k, cells, off, h1, h2, h3, blk_grown h4 hw (fun e => by have := hlt k e.symm; omega), h5⟩
theorem IsS141.lower {w w0 W : World} {g : Nat} {f0 : List Int} {f1 : Bool} (hle : w.heap.size ≤ w0.heap.size) (h : IsS141 w0 W g f0 f1) : IsS141 w W g f0 f1 := by
 obtain ⟨A0, c0, hb, hg, hl, hr0, hr1⟩ := h
 refine ⟨A0, c0, hb, Nat.le_trans hle hg, hl, hr0, fun hp => ?_⟩
 obtain ⟨k, cells, off, h1, h2, h3, h4, h5⟩ := hr1 hp
 exact ⟨k, cells, off, h1, h2, Nat.le_trans hle h3, h4, h5⟩

/-! ### seal_NewReader: function 45 -/
def seal_NewReader.f (l0 : List Int) : Option (List Int × Bool) := (bytes_Clone.f l0).bind fun c => some (c, false)
set_option maxHeartbeats 8000000 in
set_option maxRecDepth 100000 in
theorem seal_NewReader.calls (A0 : Option Addr) (c0 : Nat) (l0 : List Int) (r1 : List Int) (r2 : Bool) (w0 w : World) (hB : Below w0.heap.size w0 w) (hr0 : Kd.C (Kd.int .u8) w A0 l0.length l0) (hc0 : l0.length ≤ c0) (h : seal_NewReader.f l0 = some (r1, r2)) :
  Calls Try.prog 45 #[.slice A0 l0.length c0] w fun e w' => ∃ g_ : Nat, e = .returned (.pointer (some ⟨g_, 0, none⟩)) ∧ IsS141 w0 w' g_ r1 r2 ∧ Below w0.heap.size w0 w' ∧ Below w.heap.size w w' := by
 unfold seal_NewReader.f at h
 obtain ⟨c, hc, h⟩ := Option.bind_eq_some_iff.mp h
 injection h with h
 injection h with h1 h2
 subst h1 h2
 have A1 := Aside0.mk hc
 have HR0 := Aside0.mk hr0
 have HC0 := Aside0.mk hc0
 have HB := Aside0.mk hB
 clear hc hr0 hc0 hB
 go_enter Try.func45, Try.ntmps45
 go_wp2_with (go_at_call 85; (with_reducible refine (bytes_Clone.calls _ _ l0 c _ HR0.out HC0.out A1.out).mono ?_); rintro e w' ⟨v, rfl, ho, hb⟩; have HO := Aside0.mk ho; have HW := Aside0.mk hb; clear ho hb; obtain ⟨Ao, co, eo⟩ := Kd.R_slice HO.out; subst eo)
 go_ret
 refine ⟨_, rfl, ?_, ?_, ?_⟩
 ·
  have hs : w0.heap.size ≤ w'.heap.size := Nat.le_trans HB.out.size HW.out.size
  refine ⟨Ao, co, heap_alloc_new w' _, hs, (Kd.R_reads' HO.out).2.1, ?_⟩
  exact (Arr141.of_R (w0 := w0) HO.out HB.out.size (Nat.le_refl _)).move (fun k cells hk hc => blk_alloc hc _)
 ·
  exact below_alloc (below_step HB.out HW.out) _
 ·
  exact below_alloc HW.out _

/-! ### seal_Reader_Take: function 86 -/
def seal_Reader_Take.f (s0_0 : List Int) (s0_1 : Bool) (a1 : Int) : Option (List Int × List Int × Bool) :=
 if (s0_0.length : Int) < a1 then some ([], [], true) else (bytes_Clone.f (s0_0.take a1.toNat)).bind fun c => some (c, s0_0.drop a1.toNat, s0_1)
theorem seal_Reader_Take.set_0 {w0 W : World} {g : Nat} {f0 : List Int} {f1 : Bool} (h : IsS141 w0 W g f0 f1) (A : Option Addr) (c : Nat) (xs : List Int) (hc : xs.length ≤ c) (ha : Arr141 w0 W g A xs) : IsS141 w0 (W.setCell ⟨g, 0, none⟩ (.slice A xs.length c)) g xs f1 := by
 obtain ⟨A0, c0, hb, hg, hl, hr⟩ := h
 refine ⟨A, c, by simpa using blk_set hb 0 (.slice A xs.length c), hg, hc, ha.move fun k cells hk hcell => blk_far hcell (by show k ≠ g; omega) _⟩
theorem seal_Reader_Take.arr_drop {w0 W : World} {g : Nat} {A0 : Option Addr} {f0 : List Int} (h : Arr141 w0 W g A0 f0) (m c : Nat) (hm : m ≤ f0.length) (hc : f0.length ≤ c) : Arr141 w0 W g (if c = m then A0 else A0.map (·.add m)) (f0.drop m) := by
 refine ⟨by have := h.1; rw [List.length_drop]; omega, fun hp => ?_⟩
 rw [List.length_drop] at hp
 obtain ⟨k, cells, off, h1, h2, h3, h4, h5⟩ := h.2 (by omega)
 refine ⟨k, cells, off + m, ?_, h2, h3, h4, fun j hj => ?_⟩
 ·
  rw [if_neg (by omega), h1]
  simp only [Option.map_some, Addr.add]
  by_cases h : m = 0 <;> simp [h]
 ·
  rw [List.length_drop] at hj
  rw [Nat.add_assoc, h5 (m + j) (by omega)]
  simp [List.getD_eq_getElem?_getD, List.getElem?_drop]
set_option maxHeartbeats 8000000 in
set_option maxRecDepth 100000 in
theorem seal_Reader_Take.calls (g : Nat) (s0_0 : List Int) (s0_1 : Bool) (a1 : Int) (r1 : List Int) (r2 : List Int) (r3 : Bool) (w0 w : World) (hI : IsS141 w0 w g s0_0 s0_1) (hB : Below w0.heap.size w0 w) (h : seal_Reader_Take.f s0_0 s0_1 a1 = some (r1, r2, r3)) :
  Calls Try.prog 86 #[.pointer (some ⟨g, 0, none⟩), .int .i64 a1] w fun e w' => ∃ v0_ : Value, e = .returned (v0_) ∧ Kd.R (Kd.int .u8) 5 w' w.heap.size (fun _ => True) v0_ r1 ∧ IsS141 w0 w' g r2 r3 ∧ Below w0.heap.size w0 w' ∧ KeepBut w w' g none := by
 unfold seal_Reader_Take.f at h
 have hn : (if (s0_0.length : Int) < a1 then some (([], [], true) : List Int × List Int × Bool) else (bytes_Clone.f (s0_0.take a1.toNat)).bind fun c => some (c, s0_0.drop a1.toNat, s0_1)) = some (r1, r2, r3) := h
 clear h
 have hI2 := hI
 obtain ⟨A0, c0, HG, hl0, hC, hAt⟩ := hI2.reads
 have HI := Aside0.mk hI
 have HB := Aside0.mk hB
 have hcell0 := cellS141_0 HG
 have hcell1 := cellS141_1 HG
 have hfz0 := blk_frozen HG 0
 have hfz1 := blk_frozen HG 1
 by_cases hlt : (s0_0.length : Int) < a1
 ·
  rw [if_pos hlt] at hn
  simp only [Option.some.injEq, Prod.mk.injEq] at hn
  obtain ⟨rfl, rfl, rfl⟩ := hn
  have hmx : (if a1 < 0 then 0 else a1) = a1 := by rw [if_neg (by omega)]
  have hb1 : decide ((s0_0.length : Int) < a1) = true := decide_eq_true hlt
  clear hI hI2 hB HG hC hAt hlt
  go_enter Try.func86, Try.ntmps86
  go_wp2
  go_ret
  refine ⟨_, rfl, Kd.R_nil _ _ _ _ _, ?_, ?_, ?_⟩
  ·
   have h1 := seal_Reader_Take.set_0 HI.out none 0 [] (Nat.le_refl _) ⟨by simp, fun hp => absurd hp (by simp)⟩
   exact h1.set_1 true
  ·
   exact below_set (below_set HB.out HI.out.ge) HI.out.ge
  ·
   exact ((KeepBut.refl w g none).set_ 0 _).set_ 1 _
 ·
  rw [if_neg hlt] at hn
  obtain ⟨c, hc, hn⟩ := Option.bind_eq_some_iff.mp hn
  simp only [Option.some.injEq, Prod.mk.injEq] at hn
  obtain ⟨rfl, rfl, rfl⟩ := hn
  have A1 := Aside0.mk hc
  have HC := Aside0.mk hC
  have HAt := Aside0.mk (show Arr141 w0 w g A0 s0_0 from by
   obtain ⟨A', c', hb', _, _, hr'⟩ := hI2
   rw [HG] at hb'
   injection hb' with hb'
   injection hb' with hb' _
   injection hb' with hb'
   injection hb' with hb' _
   injection hb' with hb' _ _
   rw [hb']
   exact hr')
  have HL := Aside0.mk hl0
  have hmx0 : 0 ≤ mx a1 0 := by unfold mx; omega
  have hmxl : mx a1 0 ≤ (s0_0.length : Int) := by unfold mx; omega
  have hmxn : (mx a1 0).toNat = a1.toNat := by unfold mx; omega
  obtain ⟨m, hm⟩ : ∃ m : Int, mx a1 0 = m := ⟨_, rfl⟩
  rw [hm] at hmx0 hmxl hmxn
  have hm2 : (if a1 < 0 then 0 else a1) = m := hm
  clear hm
  have HM := Aside0.mk hmxn
  have hlt2 : decide ((s0_0.length : Int) < m) = false := decide_eq_false (by omega)
  have hml : m.toNat ≤ s0_0.length := by omega
  have HML := Aside0.mk hml
  have cut1 := cut_to (P := Try.prog) 32 5 .i64 Try.underlying32 rfl A0 s0_0.length c0 m hmx0 hmxl hl0
  have cut2 := cut_from (P := Try.prog) 32 5 .i64 Try.underlying32 rfl 1 rfl A0 s0_0.length c0 m hmx0 hmxl
  obtain ⟨A', hA'⟩ : ∃ A' : Option Addr, (if c0 = m.toNat then A0 else A0.map (·.add (m.toNat * 1))) = A' := ⟨_, rfl⟩
  rw [hA'] at cut2
  have HA' := Aside0.mk hA'
  clear hA'
  have HG0 := Aside0.mk HG
  have hlen : (s0_0.take m.toNat).length = m.toNat := by rw [List.length_take]; omega
  have hdl : (s0_0.drop m.toNat).length = s0_0.length - m.toNat := List.length_drop ..
  have hg1 : s0_0.length - m.toNat ≤ c0 - m.toNat := by omega
  have HD := Aside0.mk (And.intro hdl hg1)
  have CC := Aside0.mk (fun (W : World) (hR : Kd.C (Kd.int .u8) W A0 m.toNat (s0_0.take m.toNat)) => by
   have h1 := bytes_Clone.calls A0 c0 (s0_0.take m.toNat) c W (by rw [hlen]; exact hR) (by rw [hlen]; omega) (by rw [HM.out]; exact A1.out)
   rw [hlen] at h1
   exact h1)
  have HC1 := Aside0.mk (show Kd.C (Kd.int .u8) w A0 m.toNat (s0_0.take m.toNat) from by have h1 := Kd.C_take HC.out HML.out; rw [hlen] at h1; exact h1)
  rw [← HM.out]
  clear hI hI2 hB HG hC hAt hlt hc hl0 hmxn hml hlen hdl hg1
  go_enter Try.func86, Try.ntmps86
  go_wp2_with (go_at_call 85; (with_reducible refine (CC.out _ HC1.out).mono ?_); rintro e w1 ⟨v, rfl, ho, hb⟩; have HO := Aside0.mk ho; have HW := Aside0.mk hb; have HG1 := blk_below HG0.out hb; have hcell2 := cellS141_0 HG1; have hfz2 := blk_frozen HG1 0; clear ho hb HG1)
  go_ret
  have hI1 := HI.out.below HW.out
  refine ⟨_, rfl, Kd.R_set HO.out (blk_below HG0.out HW.out) (by decide) 0 _, ?_, ?_, ?_⟩
  ·
   have h1 := seal_Reader_Take.set_0 hI1 A' (c0 - m.toNat) (s0_0.drop m.toNat) (by rw [HD.out.1]; exact HD.out.2) (by rw [← HA'.out, Nat.mul_one]; exact (seal_Reader_Take.arr_drop HAt.out m.toNat c0 HML.out HL.out).move (fun k cells hk hcl => blk_below hcl HW.out))
   rw [HD.out.1] at h1
   exact h1
  ·
   exact below_set (HB.out.trans (HW.out.mono HB.out.size)) HI.out.ge
  ·
   exact (KeepBut.of_below HW.out g none).set_ 0 _

/-! ### seal_Reader_Num: function 46 -/
def seal_Reader_Num.l0 : Nat → Int → List Int → Int → Int → List Int → Bool → Option (Int × List Int × Bool)
 | 0, _, _, _, _, _, _ => none
 | k + 1, x5, x11, x12, x13, x1000, x1001 => if x13 < x12 then (if 0 ≤ x13 then (if x13 < (x11.length : Int) then (seal_Reader_Num.l0 k (Go.bits .or .u64 (IntKind.u64.wrap (x5 * 256)) (IntKind.u64.wrap (rd x11 x13))) x11 x12 (wrap64 (x13 + 1)) x1000 x1001) else (none)) else (none)) else (some (x5, x1000, x1001))
def seal_Reader_Num.f (k : Nat) (s0_0 : List Int) (s0_1 : Bool) (a1 : Int) : Option (Int × List Int × Bool) := (seal_wide.f a1).bind fun t124 => ((seal_Reader_Take.f s0_0 s0_1 t124).bind fun bt125 => (seal_Reader_Num.l0 k 0 bt125.1 (bt125.1.length : Int) 0 bt125.2.1 bt125.2.2))
theorem seal_Reader_Num.mono_l : ∀ k, (∀ y0 y1 y2 y3 y4 y5, LeO (seal_Reader_Num.l0 k y0 y1 y2 y3 y4 y5) (seal_Reader_Num.l0 (k + 1) y0 y1 y2 y3 y4 y5))
 | 0 => fun _ _ _ _ _ _ r h => by simp [seal_Reader_Num.l0] at h
 | k + 1 => by
  have ih0 := seal_Reader_Num.mono_l k
  ·
   intro y0 y1 y2 y3 y4 y5
   unfold seal_Reader_Num.l0
   repeat' first
   | (with_reducible exact ih0 _ _ _ _ _ _)
   | (with_reducible exact LeO.refl _)
   | (with_reducible exact LeO.none _)
   | (with_reducible refine LeO.ite ?_ ?_)
   | (with_reducible refine LeO.bind ?_ (fun _ => ?_))
   | exact ih0 _ _ _ _ _ _
   | exact LeO.none _
   | refine LeO.ite ?_ ?_
   | refine LeO.bind ?_ (fun _ => ?_)
theorem seal_Reader_Num.mono : ∀ a0 a1 a2 k, LeO (seal_Reader_Num.f k a0 a1 a2) (seal_Reader_Num.f (k + 1) a0 a1 a2) := by
 intro a0 a1 a2 k
 have ih0 := seal_Reader_Num.mono_l k
 unfold seal_Reader_Num.f
 repeat' first
   | (with_reducible exact ih0 _ _ _ _ _ _)
   | (with_reducible exact LeO.refl _)
   | (with_reducible exact LeO.none _)
   | (with_reducible refine LeO.ite ?_ ?_)
   | (with_reducible refine LeO.bind ?_ (fun _ => ?_))
   | exact ih0 _ _ _ _ _ _
   | exact LeO.none _
   | refine LeO.ite ?_ ?_
   | refine LeO.bind ?_ (fun _ => ?_)
set_option maxHeartbeats 8000000 in
set_option maxRecDepth 100000 in
theorem seal_Reader_Num.calls (k : Nat) (g : Nat) (s0_0 : List Int) (s0_1 : Bool) (a1 : Int) (r1 : Int) (r2 : List Int) (r3 : Bool) (w0 w : World) (hI : IsS141 w0 w g s0_0 s0_1) (hB : Below w0.heap.size w0 w) (h : seal_Reader_Num.f k s0_0 s0_1 a1 = some (r1, r2, r3)) :
  Calls Try.prog 46 #[.pointer (some ⟨g, 0, none⟩), .int .i64 a1] w fun e w' => e = .returned (.int .u64 r1) ∧ IsS141 w0 w' g r2 r3 ∧ Below w0.heap.size w0 w' ∧ KeepBut w w' g none := by
 have HI0 := Aside0.mk hI
 have HK := Aside0.mk (KeepBut.refl w g none)
 have HL := Aside0.mk hB.size
 clear hI
 have HW0 := Aside0.mk hB.size
 have HB := Aside0.mk hB
 clear hB
 have H : ((seal_wide.f a1).bind fun t124 => ((seal_Reader_Take.f s0_0 s0_1 t124).bind fun bt125 => (seal_Reader_Num.l0 k 0 bt125.1 (bt125.1.length : Int) 0 bt125.2.1 bt125.2.2))) = some (r1, r2, r3) := h
 clear h
 replace H := Option.bind_eq_some_iff.mp H
 obtain ⟨t124, A30, H⟩ := H
 replace H : ((seal_Reader_Take.f s0_0 s0_1 t124).bind fun bt125 => (seal_Reader_Num.l0 k 0 bt125.1 (bt125.1.length : Int) 0 bt125.2.1 bt125.2.2)) = some (r1, r2, r3) := H
 have A3 := Aside0.mk A30
 clear A30
 replace H := Option.bind_eq_some_iff.mp H
 obtain ⟨⟨t125, t128, t129⟩, A40, H⟩ := H
 replace H : (seal_Reader_Num.l0 k 0 t125 (t125.length : Int) 0 t128 t129) = some (r1, r2, r3) := H
 have A4 := Aside0.mk A40
 clear A40
 have H' := Aside0.mk H
 clear H
 go_enter Try.func46, Try.ntmps46
 go_wp2_with (first | ((with_reducible refine gate_callee (f := 81) rfl ?_); refine goesL_ (some 10) rfl rfl Try.func81 (by kernel_rfl) rfl #[.int .i64 a1] rfl (by (try simp only [List.map_toArray, List.map_cons, List.map_nil]); first | done | rfl | (simp only [List.length_drop, List.length_take]; rfl)) ?_; (with_reducible refine (seal_wide.calls a1 t124 _ A3.out).mono ?_); rintro e w5 ⟨rfl, hb⟩; refine ⟨_, rfl, ?_⟩; have n0_ := Aside0.mk (IsS141.below (by repeat (first | (with_reducible first | exact HI0.out | apply IsS141.alloc | apply IsS141.drewN | apply IsS141.drew | apply IsS141.set_1) | exact HI0.out)) hb); have n1_ := Aside0.mk (KeepBut.trans (by repeat (first | (with_reducible first | exact HK.out | apply KeepBut.set_ | apply keep_drewN | apply keep_drew | apply keep_alloc) | exact HK.out)) (KeepBut.of_below hb g none) (.inl rfl)); have n2_ := Aside0.mk (below_step (by repeat (first | (with_reducible first | exact HB.out | apply below_alloc | apply pw_below_drewN | apply below_drew1 | refine below_set ?_ (IsS141.ge HI0.out)) | exact HB.out)) hb); clear HI0; clear HK; clear HB; have HI0 := n0_; have HK := n1_; have HB := n2_; clear n0_ n1_ n2_; (try clear hb); (try clear hb2); (try clear hk); (try clear hi)) | ((with_reducible refine gate_callee (f := 86) rfl ?_); refine goesL_ (some 11) rfl rfl Try.func86 (by kernel_rfl) rfl #[.pointer (some ⟨g, 0, none⟩), .int .i64 t124] rfl (by (try simp only [List.map_toArray, List.map_cons, List.map_nil]); first | done | rfl | (simp only [List.length_drop, List.length_take]; rfl)) ?_; (with_reducible refine (seal_Reader_Take.calls g s0_0 s0_1 t124 t125 t128 t129 w0 _ ?side1 ?side2 A4.out).mono ?_); (case side1 => repeat (first | (with_reducible first | exact HI0.out | apply IsS141.alloc | apply IsS141.drewN | apply IsS141.drew | apply IsS141.set_1) | exact HI0.out)); (case side2 => repeat (first | (with_reducible first | exact HB.out | apply below_alloc | apply pw_below_drewN | apply below_drew1 | refine below_set ?_ (IsS141.ge HI0.out)) | exact HB.out)); rintro e w6 ⟨v126, rfl, ho0, hi, hb, hk⟩; refine ⟨_, rfl, ?_⟩; have n0_ := Aside0.mk (Kd.R_lower ho0 (keep_size (w := w) (g := g) (row := none) (by repeat (first | (with_reducible first | exact HK.out | apply KeepBut.set_ | apply keep_drewN | apply keep_drew | apply keep_alloc) | exact HK.out)))); have n1_ := Aside0.mk (KeepBut.trans (by repeat (first | (with_reducible first | exact HK.out | apply KeepBut.set_ | apply keep_drewN | apply keep_drew | apply keep_alloc) | exact HK.out)) hk (.inl rfl)); have n2_ := Aside0.mk (hb); have n3_ := Aside0.mk (hi); clear HK; clear HB; clear HI0; have HO127 := n0_; have HK := n1_; have HB := n2_; have HI0 := n3_; clear n0_ n1_ n2_ n3_; (try clear hb); (try clear hb2); (try clear hk); (try clear hi); (try clear ho0); obtain ⟨Ao7, co7, eo7⟩ := Kd.R_slice HO127.out; subst eo7))
 go_loopg [5, 13] k (fun kq v5 v13 w' => ∃ (x5_1 : Int) (x13_1 : Int), v5 = .int .u64 x5_1 ∧ v13 = .int .i64 x13_1 ∧ Aside0 (seal_Reader_Num.l0 kq x5_1 t125 (t125.length : Int) x13_1 t128 t129 = some (r1, r2, r3)) ∧ Aside0 (kq ≤ k) ∧ Aside0 (Kd.R (Kd.int .u8) 5 w' w.heap.size (fun _ => True) (.slice Ao7 t125.length co7) t125) ∧ Aside0 (IsS141 w0 w' g t128 t129) ∧ Aside0 (KeepBut w w' g none) ∧ Aside0 (Below w0.heap.size w0 w'))
 case atStart => exact ⟨(0), (0), (by first | rfl | (simp; done) | (simp [*]; done)), (by first | rfl | (simp; done) | (simp [*]; done)), H', ⟨Nat.le_refl _⟩, ⟨by (with_reducible repeat (first | apply Kd.R_alloc | apply Kd.R_drewN | apply Kd.R_drew)); exact HO127.out⟩, ⟨by repeat (first | (with_reducible first | exact HI0.out | apply IsS141.alloc | apply IsS141.drewN | apply IsS141.drew | apply IsS141.set_1) | exact HI0.out)⟩, ⟨by repeat (first | (with_reducible first | exact HK.out | apply KeepBut.set_ | apply keep_drewN | apply keep_drew | apply keep_alloc) | exact HK.out)⟩, ⟨by repeat (first | (with_reducible first | exact HB.out | apply below_alloc | apply pw_below_drewN | apply below_drew1 | refine below_set ?_ (IsS141.ge HI0.out)) | exact HB.out)⟩⟩
 case round =>
  clear H'
  try clear p2
  try clear c4
  obtain ⟨x5_1, x13_1, rfl, rfl, HA, HK1, HO_11, HI0, HK, HB⟩ := hrel
  cases gk with
  | zero => exact absurd HA.out (by simp [seal_Reader_Num.l0])
  | succ k1 =>
   have H := HA.out
   clear HA
   simp only [seal_Reader_Num.l0] at H
   by_cases c8 : x13_1 < (t125.length : Int)
   ·
    rw [if_pos c8] at H
    have c8b0 : decide (x13_1 < (t125.length : Int)) = true := decide_eq_true c8
    clear c8
    by_cases c9 : 0 ≤ x13_1
    ·
     rw [if_pos c9] at H
     have c9b0 : decide (0 ≤ x13_1) = true := decide_eq_true c9
     clear c9
     by_cases c10 : x13_1 < (t125.length : Int)
     ·
      rw [if_pos c10] at H
      have c10b0 : decide (x13_1 < (t125.length : Int)) = true := decide_eq_true c10
      clear c10
      have H' := Aside0.mk H
      clear H
      have p130 : 0 ≤ (x13_1 : Int) := of_decide_eq_true (by first | (with_reducible assumption) | assumption)
      have q130 : x13_1 < (t125.length : Int) := of_decide_eq_true (by first | (with_reducible assumption) | assumption)
      obtain ⟨ad130, e130, hx130_0⟩ := Kd.at_int (Kd.R_reads' HO_11.out).2.2 x13_1 p130 q130
      cases e130
      replace p130 := eq_true p130
      replace q130 := eq_true q130
      go_wp2
      go_roundg k1
      case measure => have := HK1.out; omega
      case rel => exact ⟨(Go.bits .or .u64 (IntKind.u64.wrap (x5_1 * 256)) (IntKind.u64.wrap (rd t125 x13_1))), (wrap64 (x13_1 + 1)), (by first | rfl | (simp; done) | (simp [*]; done)), (by first | rfl | (simp; done) | (simp [*]; done)), H', ⟨by have := HK1.out; omega⟩, ⟨by (with_reducible repeat (first | apply Kd.R_alloc | apply Kd.R_drewN | apply Kd.R_drew)); exact HO_11.out⟩, ⟨by repeat (first | (with_reducible first | exact HI0.out | apply IsS141.alloc | apply IsS141.drewN | apply IsS141.drew | apply IsS141.set_1) | exact HI0.out)⟩, ⟨by repeat (first | (with_reducible first | exact HK.out | apply KeepBut.set_ | apply keep_drewN | apply keep_drew | apply keep_alloc) | exact HK.out)⟩, ⟨by repeat (first | (with_reducible first | exact HB.out | apply below_alloc | apply pw_below_drewN | apply below_drew1 | refine below_set ?_ (IsS141.ge HI0.out)) | exact HB.out)⟩⟩
     ·
      rw [if_neg c10] at H
      exact absurd H (by simp)
    ·
     rw [if_neg c9] at H
     exact absurd H (by simp)
   ·
    rw [if_neg c8] at H
    have c8b0 : decide (x13_1 < (t125.length : Int)) = false := decide_eq_false c8
    clear c8
    simp only [Option.some.injEq, Prod.mk.injEq] at H
    obtain ⟨rfl, rfl, rfl⟩ := H
    go_wp2
    go_ret
    exact ⟨by first | rfl | (simp [errW_none, errW_some] <;> rfl) | (simp [*, errW_none, errW_some] <;> rfl), by repeat (first | (with_reducible first | exact HI0.out | apply IsS141.alloc | apply IsS141.drewN | apply IsS141.drew | apply IsS141.set_1) | exact HI0.out), by repeat (first | (with_reducible first | exact HB.out | apply below_alloc | apply pw_below_drewN | apply below_drew1 | refine below_set ?_ (IsS141.ge HI0.out)) | exact HB.out), by repeat (first | (with_reducible first | exact HK.out | apply KeepBut.set_ | apply keep_drewN | apply keep_drew | apply keep_alloc) | exact HK.out)⟩

/-! ### seal_Reader_Short: function 47 -/
def seal_Reader_Short.f (s0_0 : List Int) (s0_1 : Bool) : Option (Bool × List Int × Bool) := some (s0_1, s0_0, s0_1)
set_option maxHeartbeats 8000000 in
set_option maxRecDepth 100000 in
theorem seal_Reader_Short.calls (g : Nat) (s0_0 : List Int) (s0_1 : Bool) (r1 : Bool) (r2 : List Int) (r3 : Bool) (w0 w : World) (hI : IsS141 w0 w g s0_0 s0_1) (hB : Below w0.heap.size w0 w) (h : seal_Reader_Short.f s0_0 s0_1 = some (r1, r2, r3)) :
  Calls Try.prog 47 #[.pointer (some ⟨g, 0, none⟩)] w fun e w' => e = .returned (.bool r1) ∧ IsS141 w0 w' g r2 r3 ∧ Below w0.heap.size w0 w' ∧ KeepBut w w' g none := by
 have HI0 := Aside0.mk hI
 have HK := Aside0.mk (KeepBut.refl w g none)
 have HL := Aside0.mk hB.size
 clear hI
 have HW0 := Aside0.mk hB.size
 have HB := Aside0.mk hB
 clear hB
 have H : (some (s0_1, s0_0, s0_1)) = some (r1, r2, r3) := h
 clear h
 simp only [Option.some.injEq, Prod.mk.injEq] at H
 obtain ⟨rfl, rfl, rfl⟩ := H
 obtain ⟨ASz2_0, cSz2_0, HGz2, hgz2, HSz2_0⟩ := HI0.out
 have hcz2_0 := cellS141_0 HGz2
 have hcz2_1 := cellS141_1 HGz2
 have hfz2_0 := blk_frozen HGz2 0
 have hfz2_1 := blk_frozen HGz2 1
 clear HGz2 hgz2
 go_enter Try.func47, Try.ntmps47
 go_wp2
 go_ret
 exact ⟨by first | rfl | (simp [errW_none, errW_some] <;> rfl) | (simp [*, errW_none, errW_some] <;> rfl), by repeat (first | (with_reducible first | exact HI0.out | apply IsS141.alloc | apply IsS141.drewN | apply IsS141.drew | apply IsS141.set_1) | exact HI0.out), by repeat (first | (with_reducible first | exact HB.out | apply below_alloc | apply pw_below_drewN | apply below_drew1 | refine below_set ?_ (IsS141.ge HI0.out)) | exact HB.out), by repeat (first | (with_reducible first | exact HK.out | apply KeepBut.set_ | apply keep_drewN | apply keep_drew | apply keep_alloc) | exact HK.out)⟩

/-! ### seal_Reader_Signed: function 87 -/
def seal_Reader_Signed.f (k : Nat) (s0_0 : List Int) (s0_1 : Bool) : Option (Int × List Int × Bool) := (seal_Reader_Num.f k s0_0 s0_1 4).bind fun bt131 => (some (wrap32 ((bt131.1) % 4294967296), bt131.2.1, bt131.2.2))
theorem seal_Reader_Signed.mono : ∀ a0 a1 k, LeO (seal_Reader_Signed.f k a0 a1) (seal_Reader_Signed.f (k + 1) a0 a1) := by
 intro a0 a1 k
 unfold seal_Reader_Signed.f
 repeat' first
   | (with_reducible exact seal_Reader_Num.mono _ _ _ _)
   | (with_reducible exact LeO.refl _)
   | (with_reducible exact LeO.none _)
   | (with_reducible refine LeO.ite ?_ ?_)
   | (with_reducible refine LeO.bind ?_ (fun _ => ?_))
   | exact seal_Reader_Num.mono _ _ _ _
   | exact LeO.none _
   | refine LeO.ite ?_ ?_
   | refine LeO.bind ?_ (fun _ => ?_)
set_option maxHeartbeats 8000000 in
set_option maxRecDepth 100000 in
theorem seal_Reader_Signed.calls (k : Nat) (g : Nat) (s0_0 : List Int) (s0_1 : Bool) (r1 : Int) (r2 : List Int) (r3 : Bool) (w0 w : World) (hI : IsS141 w0 w g s0_0 s0_1) (hB : Below w0.heap.size w0 w) (h : seal_Reader_Signed.f k s0_0 s0_1 = some (r1, r2, r3)) :
  Calls Try.prog 87 #[.pointer (some ⟨g, 0, none⟩)] w fun e w' => e = .returned (.int .i32 r1) ∧ IsS141 w0 w' g r2 r3 ∧ Below w0.heap.size w0 w' ∧ KeepBut w w' g none := by
 have HI0 := Aside0.mk hI
 have HK := Aside0.mk (KeepBut.refl w g none)
 have HL := Aside0.mk hB.size
 clear hI
 have HW0 := Aside0.mk hB.size
 have HB := Aside0.mk hB
 clear hB
 have H : ((seal_Reader_Num.f k s0_0 s0_1 4).bind fun bt131 => (some (wrap32 ((bt131.1) % 4294967296), bt131.2.1, bt131.2.2))) = some (r1, r2, r3) := h
 clear h
 replace H := Option.bind_eq_some_iff.mp H
 obtain ⟨⟨t131, t132, t133⟩, A20, H⟩ := H
 replace H : (some (wrap32 ((t131) % 4294967296), t132, t133)) = some (r1, r2, r3) := H
 have A2 := Aside0.mk A20
 clear A20
 simp only [Option.some.injEq, Prod.mk.injEq] at H
 obtain ⟨rfl, rfl, rfl⟩ := H
 go_enter Try.func87, Try.ntmps87
 go_wp2_with (first | ((with_reducible refine gate_callee (f := 46) rfl ?_); refine goesL_ (some 4) rfl rfl Try.func46 (by kernel_rfl) rfl #[.pointer (some ⟨g, 0, none⟩), .int .i64 4] rfl (by (try simp only [List.map_toArray, List.map_cons, List.map_nil]); first | done | rfl | (simp only [List.length_drop, List.length_take]; rfl)) ?_; (with_reducible refine (seal_Reader_Num.calls k g s0_0 s0_1 4 t131 t132 t133 w0 _ ?side1 ?side2 A2.out).mono ?_); (case side1 => repeat (first | (with_reducible first | exact HI0.out | apply IsS141.alloc | apply IsS141.drewN | apply IsS141.drew | apply IsS141.set_1) | exact HI0.out)); (case side2 => repeat (first | (with_reducible first | exact HB.out | apply below_alloc | apply pw_below_drewN | apply below_drew1 | refine below_set ?_ (IsS141.ge HI0.out)) | exact HB.out)); rintro e w3 ⟨rfl, hi, hb, hk⟩; refine ⟨_, rfl, ?_⟩; have n0_ := Aside0.mk (KeepBut.trans (by repeat (first | (with_reducible first | exact HK.out | apply KeepBut.set_ | apply keep_drewN | apply keep_drew | apply keep_alloc) | exact HK.out)) hk (.inl rfl)); have n1_ := Aside0.mk (hb); have n2_ := Aside0.mk (hi); clear HK; clear HB; clear HI0; have HK := n0_; have HB := n1_; have HI0 := n2_; clear n0_ n1_ n2_; (try clear hb); (try clear hb2); (try clear hk); (try clear hi)))
 go_ret
 exact ⟨by first | rfl | (simp [errW_none, errW_some] <;> rfl) | (simp [*, errW_none, errW_some] <;> rfl), by repeat (first | (with_reducible first | exact HI0.out | apply IsS141.alloc | apply IsS141.drewN | apply IsS141.drew | apply IsS141.set_1) | exact HI0.out), by repeat (first | (with_reducible first | exact HB.out | apply below_alloc | apply pw_below_drewN | apply below_drew1 | refine below_set ?_ (IsS141.ge HI0.out)) | exact HB.out), by repeat (first | (with_reducible first | exact HK.out | apply KeepBut.set_ | apply keep_drewN | apply keep_drew | apply keep_alloc) | exact HK.out)⟩

end Go.Proofs.Ytehepnmagcjkaaa.PAskParses
