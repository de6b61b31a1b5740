-- Written by a program of this session (wip/tools/mkprint.py over the kit's print).
import Derived.Test.YtekenaclmplocaaPPageQuantizesx0
import Derived.Test.YtekenaclmplocaaPPageQuantizesx3
import Derived.Test.YtekenaclmplocaaPPageQuantizesx4
import Derived.Test.YtekenaclmplocaaPPageQuantizesx9
namespace Go.Proofs.Ytekenaclmplocaa.PPageQuantizes
open Go.RowKit Go.Proofs.YtekenaclmplocaaW.PrintWords Go.Proofs.YtekenaclmplocaaW.PrintLast Go.Proofs.YtekenaclmplocaaW.PrintMore
attribute [local go_sem] max2_int min2_int max_two min_two max_three min_three max_four min_four   -- for this text's walks alone
set_option linter.unusedVariables false
set_option linter.unusedSimpArgs false

/-! ### seal_Reader_Signed: function 74 -/
def seal_Reader_Signed.f (k : Nat) (s0_0 : List Int) (s0_1 : Bool) : Option (Int × List Int × Bool) := (seal_Reader_Num.f k s0_0 s0_1 4).bind fun bt260 => (some (wrap32 ((bt260.1) % 4294967296), bt260.2.1, bt260.2.2))
theorem seal_Reader_Signed.mono : ∀ a0 a1 k, LeO (seal_Reader_Signed.f k a0 a1) (seal_Reader_Signed.f (k + 1) a0 a1) := by
 intro a0 a1 k; unfold seal_Reader_Signed.f
 repeat' first
   | (with_reducible exact seal_Reader_Num.mono _ _ _ _)
   | (with_reducible exact LeO.refl _)
   | (with_reducible exact LeO.none _)
   | (with_reducible refine LeO.ite ?_ ?_)
   | (with_reducible refine LeO.bind ?_ (fun _ => ?_))
set_option maxHeartbeats 8000000 in
set_option maxRecDepth 100000 in
theorem seal_Reader_Signed.calls (k : Nat) (g : Nat) (s0_0 : List Int) (s0_1 : Bool) (r1 : Int) (r2 : List Int) (r3 : Bool) (w0 w : World) (hI : IsS122 w0 w g s0_0 s0_1) (hB : Below w0.heap.size w0 w) (h : seal_Reader_Signed.f k s0_0 s0_1 = some (r1, r2, r3)) :
  Calls Try.prog 74 #[.pointer (some ⟨g, 0, none⟩)] w fun e w' => e = .returned (.int .i32 r1) ∧ IsS122 w0 w' g r2 r3 ∧ Below w0.heap.size w0 w' ∧ KeepBut w w' g none := by
 have HI0 := Aside0.mk hI; have HK := Aside0.mk (KeepBut.refl w g none); have HL := Aside0.mk hB.size; clear hI; have HW0 := Aside0.mk hB.size; have HB := Aside0.mk hB; clear hB; have H := h; clear h; unfold seal_Reader_Signed.f at H; obtain ⟨⟨t260, t261, t262⟩, A2, H⟩ := bnd H
 try dsimp only at H
 simp only [Option.some.injEq, Prod.mk.injEq] at H; obtain ⟨rfl, rfl, rfl⟩ := H
 go_enter Try.func74, Try.ntmps74
 go_wp2_with (first | ((with_reducible refine gate_callee (f := 39) rfl ?_); refine gL 4 Try.func39 #[.pointer (some ⟨g, 0, none⟩), .int .i64 4] (h := ?_); (with_reducible refine (seal_Reader_Num.calls k g s0_0 s0_1 4 t260 t261 t262 w0 _ ?side1 ?side2 A2.out).mono ?_); (case side1 => with_reducible exact HI0.out); (case side2 => with_reducible exact HB.out); rintro e w3 ⟨rfl, hi, hb, hk⟩; refine ⟨_, rfl, ?_⟩; replace HK := Aside0.mk (KeepBut.trans HK.out hk (.inl rfl)); replace HB := Aside0.mk (hb); replace HI0 := Aside0.mk (hi); clear hb hk hi))
 go_ret
 exact ⟨rfl, HI0.out, HB.out, HK.out⟩

/-! ### pack_Lane: function 78 -/
def pack_Lane.f (l0 : List Int) (a1 : Int) (a2 : Int) : Option (Int) := (pack_Bits.f a2).bind fun t263 => (if t263 = true then (if a1 < 0 then (some 0) else (if a2 = 0 then (none) else (if a1 ≥ (wrap64 ((l0.length : Int) * (wrap64 (Int.tdiv (64 : Int) a2)))) then (some 0) else (if 0 ≤ (wrap64 (Int.tdiv (wrap64 (a1 * a2)) 64)) then (if (wrap64 (Int.tdiv (wrap64 (a1 * a2)) 64)) < (l0.length : Int) then (if 0 ≤ (Int.tmod (wrap64 (a1 * a2)) 64) then (if 0 ≤ a2 then (some (wrap64 (Go.bits .and .u64 (shr .u64 (rd l0 (wrap64 (Int.tdiv (wrap64 (a1 * a2)) 64))) (Int.tmod (wrap64 (a1 * a2)) 64)) (IntKind.u64.wrap ((shl .u64 1 a2) - 1))))) else (none)) else (none)) else (none)) else (none))))) else (some 0))
set_option maxHeartbeats 8000000 in
set_option maxRecDepth 100000 in
theorem pack_Lane.calls (A0 : Option Addr) (c0 : Nat) (l0 : List Int) (a1 : Int) (a2 : Int) (r : Int) (w : World) (hr0 : Kd.C (Kd.int .u64) w A0 l0.length l0) (hc0 : l0.length ≤ c0) (h : pack_Lane.f l0 a1 a2 = some r) :
  Calls Try.prog 78 #[.slice A0 l0.length c0, .int .i64 a1, .int .i64 a2] w fun e w' => e = .returned (.int .i64 r) ∧ Drawn0 w w' := by
 have HR0 := Aside0.mk hr0; have HC0 := Aside0.mk hc0; clear hr0 hc0; have H := h; clear h; unfold pack_Lane.f at H; obtain ⟨t263, A4, H⟩ := bnd H
 by_cases c5 : t263 = true
 ·
  subst c5; rw [if_pos rfl] at H
  by_cases c6 : a1 < 0
  ·
   rw [if_pos c6] at H; have c6b0 : decide (a1 < 0) = true := decide_eq_true c6; clear c6; obtain rfl := Option.some.inj H
   go_enter Try.func78, Try.ntmps78
   go_wp2_with (first | (go_at_call 48; (with_reducible refine (pack_Bits.calls a2 true _ A4.out).mono ?_); rintro e w' ⟨rfl, ⟨nd, rfl⟩⟩; (try first | exact ⟨rfl, _, World.drewN_drewN _ _ _⟩ | exact ⟨rfl, _, Eq.trans (World.drewN_drewN _ _ _) (congrArg (World.drewN _) (Nat.add_assoc _ _ _))⟩)))
   repeat (go_quiet (fail); try go_wp2)
   go_ret
   exact ⟨rfl, by repeat (first | exact Drawn0.refl _ | apply Drawn0.step)⟩
  ·
   rw [if_neg c6] at H; have c6b0 : decide (a1 < 0) = false := decide_eq_false c6; clear c6; obtain ⟨c7, H⟩ := ifn H; have c7b0 : (a2 == 0) = false := beq_eq_false_iff_ne.mpr c7; have c7b1 : (a2 != 0) = true := bne_iff_ne.mpr c7
   by_cases c8 : a1 ≥ (wrap64 ((l0.length : Int) * (wrap64 (Int.tdiv (64 : Int) a2))))
   ·
    rw [if_pos c8] at H; have c8b0 : decide ((wrap64 ((l0.length : Int) * (wrap64 (Int.tdiv (64 : Int) a2)))) ≤ a1) = true := decide_eq_true c8; clear c8; obtain rfl := Option.some.inj H
    go_enter Try.func78, Try.ntmps78
    go_wp2_with (first | (go_at_call 48; (with_reducible refine (pack_Bits.calls a2 true _ A4.out).mono ?_); rintro e w' ⟨rfl, ⟨nd, rfl⟩⟩; (try first | exact ⟨rfl, _, World.drewN_drewN _ _ _⟩ | exact ⟨rfl, _, Eq.trans (World.drewN_drewN _ _ _) (congrArg (World.drewN _) (Nat.add_assoc _ _ _))⟩)))
    repeat (go_quiet (fail); try go_wp2)
    go_ret
    exact ⟨rfl, by repeat (first | exact Drawn0.refl _ | apply Drawn0.step)⟩
   ·
    rw [if_neg c8] at H; have c8b0 : decide ((wrap64 ((l0.length : Int) * (wrap64 (Int.tdiv (64 : Int) a2)))) ≤ a1) = false := decide_eq_false c8; clear c8; obtain ⟨ji9, hji9⟩ : ∃ j_ : Int, (wrap64 (Int.tdiv (wrap64 (a1 * a2)) 64)) = j_ := ⟨_, rfl⟩; (replace H : (if 0 ≤ (ji9) then (if (ji9) < (l0.length : Int) then (if 0 ≤ (Int.tmod (wrap64 (a1 * a2)) 64) then (if 0 ≤ a2 then (some (wrap64 (Go.bits .and .u64 (shr .u64 (rd l0 (ji9)) (Int.tmod (wrap64 (a1 * a2)) 64)) (IntKind.u64.wrap ((shl .u64 1 a2) - 1))))) else (none)) else (none)) else (none)) else (none)) = some r := by first | (rw [hji9] at H; exact H) | (simp only [hji9] at H ⊢; exact H)); (try rw [hji9] at A4); have hji9w : (IntKind.i64.wrap (Int.tdiv (wrap64 (a1 * a2)) 64)) = ji9 := (i64_w _).trans hji9; obtain ⟨c10, H⟩ := ifp H; have c10b0 : decide (0 ≤ (ji9)) = true := decide_eq_true c10; clear c10; obtain ⟨c11, H⟩ := ifp H; have c11b0 : decide ((ji9) < (l0.length : Int)) = true := decide_eq_true c11; clear c11; obtain ⟨ji12, hji12⟩ : ∃ j_ : Int, (Int.tmod (wrap64 (a1 * a2)) 64) = j_ := ⟨_, rfl⟩; (replace H : (if 0 ≤ (ji12) then (if 0 ≤ a2 then (some (wrap64 (Go.bits .and .u64 (shr .u64 (rd l0 (ji9)) (ji12)) (IntKind.u64.wrap ((shl .u64 1 a2) - 1))))) else (none)) else (none)) = some r := by first | (rw [hji12] at H; exact H) | (simp only [hji12] at H ⊢; exact H)); (try rw [hji12] at A4); obtain ⟨c13, H⟩ := ifp H; have c13b0 := eq_true c13; have c13b1 : decide (0 ≤ (ji12)) = true := decide_eq_true c13; clear c13; obtain ⟨ji14, hji14⟩ : ∃ j_ : Int, (shr .u64 (rd l0 (ji9)) (ji12)) = j_ := ⟨_, rfl⟩; (replace H : (if 0 ≤ a2 then (some (wrap64 (Go.bits .and .u64 (ji14) (IntKind.u64.wrap ((shl .u64 1 a2) - 1))))) else (none)) = some r := by first | (rw [hji14] at H; exact H) | (simp only [hji14] at H ⊢; exact H)); (try rw [hji14] at A4); have hji14_ : ((rd l0 (ji9)) / 2 ^ min (ji12).toNat 64) = ji14 := hji14; have hji14z : (ji12) ≤ 64 → ((rd l0 (ji9)) / 2 ^ (ji12).toNat) = ji14 := shr_small hji14; obtain ⟨c15, H⟩ := ifp H; have c15b0 := eq_true c15; have c15b1 : decide (0 ≤ a2) = true := decide_eq_true c15; clear c15; obtain ⟨ji16, hji16⟩ : ∃ j_ : Int, (shl .u64 1 a2) = j_ := ⟨_, rfl⟩; (replace H : (some (wrap64 (Go.bits .and .u64 (ji14) (IntKind.u64.wrap ((ji16) - 1))))) = some r := by first | (rw [hji16] at H; exact H) | (simp only [hji16] at H ⊢; exact H)); (try rw [hji16] at A4); have hji16_ : (IntKind.u64.wrap (1 * 2 ^ min a2.toNat 64)) = ji16 := hji16; have hji16z : a2 ≤ 64 → (IntKind.u64.wrap (1 * 2 ^ a2.toNat)) = ji16 := shl_small hji16; (have hji16u : (IntKind.u64.wrap (2 ^ min a2.toNat 64)) = ji16 := by have h_ := hji16_; rw [Int.one_mul] at h_; exact h_); (have hji16v : a2 ≤ 64 → (IntKind.u64.wrap (2 ^ a2.toNat)) = ji16 := fun hle_ => by have h_ := hji16z hle_; rw [Int.one_mul] at h_; exact h_); obtain rfl := Option.some.inj H
    go_enter Try.func78, Try.ntmps78
    go_wp2_with (first | (go_at_call 48; (with_reducible refine (pack_Bits.calls a2 true _ A4.out).mono ?_); rintro e w' ⟨rfl, ⟨nd, rfl⟩⟩; (try first | exact ⟨rfl, _, World.drewN_drewN _ _ _⟩ | exact ⟨rfl, _, Eq.trans (World.drewN_drewN _ _ _) (congrArg (World.drewN _) (Nat.add_assoc _ _ _))⟩); have p264 : 0 ≤ ((ji9) : Int) := oD; have q264 : (ji9) < (l0.length : Int) := oD; obtain ⟨ad264, e264, hx264_0⟩ := Kd.at_int HR0.out (ji9) p264 q264; cases e264; replace p264 := eq_true p264; replace q264 := eq_true q264))
    repeat (go_quiet (fail); try go_wp2)
    go_ret
    exact ⟨by first | rfl | (simp; done) | (simp only [← hji9, ← hji12, ← hji14, ← hji16] <;> (first | rfl | simp)) | (simp [*]; done), by repeat (first | exact Drawn0.refl _ | apply Drawn0.step)⟩
 ·
  replace c5 := Bool.eq_false_iff.mpr c5; subst c5; rw [if_neg (show ¬ (false = true) by decide)] at H; obtain rfl := Option.some.inj H
  go_enter Try.func78, Try.ntmps78
  go_wp2_with (first | (go_at_call 48; (with_reducible refine (pack_Bits.calls a2 false _ A4.out).mono ?_); rintro e w' ⟨rfl, ⟨nd, rfl⟩⟩; (try first | exact ⟨rfl, _, World.drewN_drewN _ _ _⟩ | exact ⟨rfl, _, Eq.trans (World.drewN_drewN _ _ _) (congrArg (World.drewN _) (Nat.add_assoc _ _ _))⟩)))
  repeat (go_quiet (fail); try go_wp2)
  go_ret
  exact ⟨rfl, by repeat (first | exact Drawn0.refl _ | apply Drawn0.step)⟩

/-! ### pack_Unpack: function 75 -/
mutual
def pack_Unpack.j0 : Nat → List Int → Int → Int → Bool → Option (List Int × Int)
 | 0, _, _, _, _ => none
 | k + 1, x0, x1, x2, x42 => if x42 = true then (some (([] : List Int), 10)) else (if 0 ≤ x1 then (if (x1 : Int).toNat ≤ 35184372088832 then ((some (List.replicate (x1 : Int).toNat 0 : List Int)).bind fun y269 => (pack_Unpack.l0 k x0 x2 y269 (y269.length : Int) 0)) else (none)) else (none))
def pack_Unpack.l0 : Nat → List Int → Int → List Int → Int → Int → Option (List Int × Int)
 | 0, _, _, _, _, _ => none
 | k + 1, x0, x2, x9, x46, x47 => if x47 < x46 then ((pack_Lane.f x0 x47 x2).bind fun t272 => (if 0 ≤ x47 then (if x47 < (x9.length : Int) then (pack_Unpack.l0 k x0 x2 (x9.set (x47 : Int).toNat t272) x46 (wrap64 (x47 + 1))) else (none)) else (none))) else (some (x9, 0))
end
def pack_Unpack.f (k : Nat) (l0 : List Int) (a1 : Int) (a2 : Int) : Option (List Int × Int) := (pack_Bits.f a2).bind fun t265 => (if t265 = true then ((pack_many.f a1).bind fun t266 => (if t266 = true then ((pack_Words.f a1 a2).bind fun t267 => (if (l0.length : Int) = t267 then (if (Int.tmod (wrap64 (a1 * a2)) 64) > 0 then (if 0 ≤ (wrap64 ((l0.length : Int) - 1)) then (if (wrap64 ((l0.length : Int) - 1)) < (l0.length : Int) then (if 0 ≤ (Int.tmod (wrap64 (a1 * a2)) 64) then (pack_Unpack.j0 k l0 a1 a2 ((shr .u64 (rd l0 (wrap64 ((l0.length : Int) - 1))) (Int.tmod (wrap64 (a1 * a2)) 64)) != 0)) else (none)) else (none)) else (none)) else (pack_Unpack.j0 k l0 a1 a2 false)) else (some (([] : List Int), 25)))) else (some (([] : List Int), 12)))) else (some (([] : List Int), 20)))
theorem pack_Unpack.mono_l : ∀ k, (∀ y0 y1 y2 y3, LeO (pack_Unpack.j0 k y0 y1 y2 y3) (pack_Unpack.j0 (k + 1) y0 y1 y2 y3)) ∧ (∀ y0 y1 y2 y3 y4, LeO (pack_Unpack.l0 k y0 y1 y2 y3 y4) (pack_Unpack.l0 (k + 1) y0 y1 y2 y3 y4))
 | 0 => ⟨fun _ _ _ _ r h => by simp [pack_Unpack.j0] at h, fun _ _ _ _ _ r h => by simp [pack_Unpack.l0] at h⟩
 | k + 1 => by
  obtain ⟨ih0, ih1⟩ := pack_Unpack.mono_l k
  refine ⟨?_, ?_⟩
  all_goals intros
  all_goals first | unfold pack_Unpack.j0 | unfold pack_Unpack.l0
  all_goals repeat' first
   | (with_reducible exact ih0 _ _ _ _)
   | (with_reducible exact ih1 _ _ _ _ _)
   | (with_reducible exact LeO.refl _)
   | (with_reducible exact LeO.none _)
   | (with_reducible refine LeO.ite ?_ ?_)
   | (with_reducible refine LeO.bind ?_ (fun _ => ?_))
theorem pack_Unpack.mono : ∀ a0 a1 a2 k, LeO (pack_Unpack.f k a0 a1 a2) (pack_Unpack.f (k + 1) a0 a1 a2) := by
 intro a0 a1 a2 k; obtain ⟨ih0, ih1⟩ := pack_Unpack.mono_l k; unfold pack_Unpack.f
 repeat' first
   | (with_reducible exact ih0 _ _ _ _)
   | (with_reducible exact ih1 _ _ _ _ _)
   | (with_reducible exact LeO.refl _)
   | (with_reducible exact LeO.none _)
   | (with_reducible refine LeO.ite ?_ ?_)
   | (with_reducible refine LeO.bind ?_ (fun _ => ?_))
set_option maxHeartbeats 8000000 in
set_option maxRecDepth 100000 in
theorem pack_Unpack.calls (k : Nat) (A0 : Option Addr) (c0 : Nat) (l0 : List Int) (a1 : Int) (a2 : Int) (r1 : List Int) (r2 : Int) (w : World) (hr0 : Kd.C (Kd.int .u64) w A0 l0.length l0) (hc0 : l0.length ≤ c0) (h : pack_Unpack.f k l0 a1 a2 = some (r1, r2)) :
  Calls Try.prog 75 #[.slice A0 l0.length c0, .int .i64 a1, .int .i64 a2] w fun e w' => ∃ v0_ : Value, e = .returned (.tuple #[v0_, .int .i64 r2]) ∧ Kd.R (Kd.int .i64) 3 w' w.heap.size (fun _ => True) v0_ r1 ∧ Below w.heap.size w w' := by
 have HR0 := Aside0.mk hr0; have HC0 := Aside0.mk hc0; clear hr0 hc0; have HB := Aside0.mk (Below.refl w.heap.size w); have H := h; clear h; unfold pack_Unpack.f at H; obtain ⟨t265, A4, H⟩ := bnd H
 by_cases c5 : t265 = true
 ·
  subst c5; rw [if_pos rfl] at H; obtain ⟨t266, A6, H⟩ := bnd H
  by_cases c7 : t266 = true
  ·
   subst c7; rw [if_pos rfl] at H; obtain ⟨t267, A8, H⟩ := bnd H
   by_cases c9 : (l0.length : Int) = t267
   ·
    rw [if_pos c9] at H; have c9b0 : ((l0.length : Int) == t267) = true := beq_iff_eq.mpr c9; have c9b1 : ((l0.length : Int) != t267) = false := bne_eq_false_iff_eq.mpr c9; clear c9; have HC10 := Aside0.mk H; clear H
    go_enter Try.func75, Try.ntmps75
    go_upto_region 8 with (first | ((with_reducible refine gate_callee (f := 48) rfl ?_); refine gL 13 Try.func48 #[.int .i64 a2] (h := ?_); (with_reducible refine (pack_Bits.calls a2 true _ A4.out).mono ?_); rintro e w' ⟨rfl, ⟨nd, rfl⟩⟩; refine ⟨_, rfl, ?_⟩) | ((with_reducible refine gate_callee (f := 88) rfl ?_); refine gL 17 Try.func88 #[.int .i64 a1] (h := ?_); (with_reducible refine (pack_many.calls a1 true _ A6.out).mono ?_); rintro e w' ⟨rfl, ⟨nd, rfl⟩⟩; refine ⟨_, rfl, ?_⟩) | ((with_reducible refine gate_callee (f := 57) rfl ?_); refine gL 24 Try.func57 #[.int .i64 a1, .int .i64 a2] (h := ?_); (with_reducible refine (pack_Words.calls a1 a2 t267 _ A8.out).mono ?_); rintro e w' ⟨rfl, ⟨nd, rfl⟩⟩; refine ⟨_, rfl, ?_⟩))
    (try simp only [Act.put, List.setIfInBounds_toArray, List.set_cons_zero, List.set_cons_succ])
    go_cut [42] (fun v42 wc => ∃ (kq : Nat) (x42_9 : Bool), v42 = .bool x42_9 ∧ Aside0 (pack_Unpack.j0 kq l0 a1 a2 x42_9 = some (r1, r2)) ∧ Aside0 (kq ≤ k) ∧ Aside0 (Below w.heap.size w wc))
    case first =>
     have H := HC10.out; clear HC10
     by_cases c11 : (Int.tmod (wrap64 (a1 * a2)) 64) > 0
     ·
      rw [if_pos c11] at H; have c11b0 : decide (0 < (Int.tmod (wrap64 (a1 * a2)) 64)) = true := decide_eq_true c11; clear c11; (first | rw [c11b0] | (simp only [i64_w, i32_w]; rw [c11b0]) | skip); obtain ⟨ji12, hji12⟩ : ∃ j_ : Int, (wrap64 ((l0.length : Int) - 1)) = j_ := ⟨_, rfl⟩; (replace H : (if 0 ≤ (ji12) then (if (ji12) < (l0.length : Int) then (if 0 ≤ (Int.tmod (wrap64 (a1 * a2)) 64) then (pack_Unpack.j0 k l0 a1 a2 ((shr .u64 (rd l0 (ji12)) (Int.tmod (wrap64 (a1 * a2)) 64)) != 0)) else (none)) else (none)) else (none)) = some (r1, r2) := by first | (rw [hji12] at H; exact H) | (simp only [hji12] at H ⊢; exact H)); have hji12w : (IntKind.i64.wrap ((l0.length : Int) - 1)) = ji12 := (i64_w _).trans hji12; obtain ⟨c13, H⟩ := ifp H; have c13b0 : decide (0 ≤ (ji12)) = true := decide_eq_true c13; clear c13; obtain ⟨c14, H⟩ := ifp H; have c14b0 : decide ((ji12) < (l0.length : Int)) = true := decide_eq_true c14; clear c14; obtain ⟨ji15, hji15⟩ : ∃ j_ : Int, (Int.tmod (wrap64 (a1 * a2)) 64) = j_ := ⟨_, rfl⟩; (replace H : (if 0 ≤ (ji15) then (pack_Unpack.j0 k l0 a1 a2 ((shr .u64 (rd l0 (ji12)) (ji15)) != 0)) else (none)) = some (r1, r2) := by first | (rw [hji15] at H; exact H) | (simp only [hji15] at H ⊢; exact H)); (try rw [hji15] at c11b0); obtain ⟨c16, H⟩ := ifp H; have c16b0 := eq_true c16; have c16b1 : decide (0 ≤ (ji15)) = true := decide_eq_true c16; clear c16; obtain ⟨ji17, hji17⟩ : ∃ j_ : Int, (shr .u64 (rd l0 (ji12)) (ji15)) = j_ := ⟨_, rfl⟩; (replace H : (pack_Unpack.j0 k l0 a1 a2 ((ji17) != 0)) = some (r1, r2) := by first | (rw [hji17] at H; exact H) | (simp only [hji17] at H ⊢; exact H)); have hji17_ : ((rd l0 (ji12)) / 2 ^ min (ji15).toNat 64) = ji17 := hji17; have hji17z : (ji15) ≤ 64 → ((rd l0 (ji12)) / 2 ^ (ji15).toNat) = ji17 := shr_small hji17; have H' := Aside0.mk H; clear H; have p268 : 0 ≤ ((ji12) : Int) := oD; have q268 : (ji12) < (l0.length : Int) := oD; obtain ⟨ad268, e268, hx268_0⟩ := Kd.at_int HR0.out (ji12) p268 q268
      cases e268
      replace hx268_0 := cU HB hx268_0; replace p268 := eq_true p268; replace q268 := eq_true q268
      go_wp2
      go_meet
      case rel => exact ⟨_, (((ji17) != 0)), (by first | rfl | (simp; done) | (simp only [← hji17] <;> (first | rfl | simp)) | (simp [*]; done)), H', ⟨by first | omega | exact Nat.le_refl _⟩, ⟨bZ⟩⟩
     ·
      rw [if_neg c11] at H; have c11b0 : decide (0 < (Int.tmod (wrap64 (a1 * a2)) 64)) = false := decide_eq_false c11; clear c11; (first | rw [c11b0] | (simp only [i64_w, i32_w]; rw [c11b0]) | skip); have H' := Aside0.mk H; clear H
      go_wp2
      go_meet
      case rel => exact ⟨_, (false), rfl, H', ⟨by first | omega | exact Nat.le_refl _⟩, ⟨bZ⟩⟩
    case rest =>
     clear HC10; (try clear c1); (try clear p2); (try clear q2); (try clear hx2); (try clear c4); (try clear c5); (try clear p6); (try clear c7); (try clear c8); (try clear c9); (try clear c9b0); (try clear c9b1); (try clear c11); (try clear c11b0); (try clear c13); (try clear c13b0); (try clear c14); (try clear c14b0); (try clear c16); (try clear c16b0); (try clear c16b1); (try clear hx268_0); (try clear p268); (try clear q268); obtain ⟨kq, x42_9, rfl, HA, HJ9, HB⟩ := hcut
     cases kq with
     | zero => exact absurd HA.out (by simp [pack_Unpack.j0])
     | succ kj9 =>
      have H := HA.out; clear HA; simp only [pack_Unpack.j0] at H
      by_cases c18 : x42_9 = true
      ·
       subst c18; rw [if_pos rfl] at H; simp only [Option.some.injEq, Prod.mk.injEq] at H; obtain ⟨rfl, rfl⟩ := H
       go_wp2
       go_ret2
       exact ⟨_, rfl, by first | exact Kd.R_nil _ _ _ _ _ | exact Kd.N_nil _ _ _ _ _ | exact Kd.V_nil _ _ _ _ _ | exact Kd.Q_nil _ _ _ _ _ | exact Kd.S_nil _ _ _ _ _, bZ⟩
      ·
       replace c18 := Bool.eq_false_iff.mpr c18; subst c18; rw [if_neg (show ¬ (false = true) by decide)] at H; obtain ⟨c19, H⟩ := ifp H; have c19b0 := eq_true c19; have c19b1 : decide (0 ≤ a1) = true := decide_eq_true c19; clear c19; obtain ⟨c20, H⟩ := ifp H; have c20b0 := eq_true c20; have c20b1 : decide ((a1 : Int).toNat ≤ 35184372088832) = true := decide_eq_true c20; clear c20; obtain ⟨y269, hy269⟩ : ∃ y_ : List Int, y_ = (List.replicate (a1 : Int).toNat 0) := ⟨_, rfl⟩; (replace H : (pack_Unpack.l0 kj9 l0 a2 y269 (y269.length : Int) 0) = some (r1, r2) := by rw [hy269]; exact H); have Ny269 := Aside0.mk hy269; clear hy269; have H' := Aside0.mk H; clear H
       go_wp2_with (first | ((with_reducible refine gate_dst (N := 44) rfl ?_); (try (refine gate_guard (by rfl) ?_; dsimp only)); refine Kd.R_make (Kd.int .i64) _ 3 rfl (N := 44) rfl 45 _ _ rfl a1 rfl rfl Try.underlying45 (.int .i64 0) 8 info3 rfl (by decide) (by omega) 0 (ok := fun _ => True) (okp := fun _ => True) rfl (fun _ hk => hk) trivial oD (Nat.le_trans (Nat.mul_le_mul_right _ (oD : a1.toNat ≤ 35184372088832)) (by omega)) (Below.refl _ _) (Nat.le_refl _) ?_; intro v270 w21 ho22 hb hg_ hnew_; clear hg_ hnew_; (first | rw [← Ny269.out] at ho22 | (simp only [Int.reduceToNat] at ho22; rw [← Ny269.out] at ho22)); have HO271 := Aside0.mk (Kd.R_lower ho22 (below_size bZ)); replace HB := Aside0.mk (below_step bZ hb); clear hb ho22; obtain ⟨Ao23, co23, eo23⟩ := Kd.R_slice HO271.out; subst eo23))
       go_loopg [47] kj9 (fun kq v47 w' => ∃ (x9_2 : List Int) (x47_2 : Int), v47 = .int .i64 x47_2 ∧ Aside0 (pack_Unpack.l0 kq l0 a2 x9_2 (y269.length : Int) x47_2 = some (r1, r2)) ∧ Aside0 (kq ≤ kj9) ∧ Aside0 (Kd.R (Kd.int .i64) 3 w' w.heap.size (fun _ => True) (.slice Ao23 y269.length co23) x9_2) ∧ Aside0 (Below w.heap.size w w'))
       case atStart => exact ⟨(y269), (0), rfl, H', ⟨Nat.le_refl _⟩, ⟨by (with_reducible repeat (first | apply Kd.R_alloc | apply Kd.R_drewN | apply Kd.R_drew)); exact HO271.out⟩, ⟨bZ⟩⟩
       case round =>
        clear H'; (try clear c1); (try clear c2); (try clear p2); (try clear q2); (try clear hx2); (try clear c4); (try clear c5); (try clear p6); (try clear c7); (try clear c8); (try clear c9); (try clear c9b0); (try clear c9b1); (try clear c11); (try clear c11b0); (try clear c13); (try clear c13b0); (try clear c14); (try clear c14b0); (try clear c16); (try clear c16b0); (try clear c16b1); (try clear c18); (try clear c19); (try clear c19b0); (try clear c19b1); (try clear c20); (try clear c20b0); (try clear c20b1); (try clear hx268_0); (try clear p2); (try clear p268); (try clear p6); (try clear q2); (try clear q268); obtain ⟨x9_2, x47_2, rfl, HA, HK2, HO_9, HB⟩ := hrel; have hl9_2 := (Kd.R_reads' HO_9.out).1; rw [hl9_2] at HO_9; (try simp only [hl9_2])
        cases gk with
        | zero => exact absurd HA.out (by simp [pack_Unpack.l0])
        | succ k2 =>
         have H := HA.out; clear HA; simp only [pack_Unpack.l0] at H
         by_cases c24 : x47_2 < (y269.length : Int)
         ·
          rw [if_pos c24] at H; have c24b0 : decide (x47_2 < (y269.length : Int)) = true := decide_eq_true c24; (try simp only [hl9_2] at c24b0); clear c24; obtain ⟨t272, A25, H⟩ := bnd H; obtain ⟨c26, H⟩ := ifp H; have c26b0 : decide (0 ≤ x47_2) = true := decide_eq_true c26; clear c26; obtain ⟨c27, H⟩ := ifp H; have c27b0 : decide (x47_2 < (x9_2.length : Int)) = true := decide_eq_true c27; (try simp only [hl9_2] at c27b0); clear c27; obtain ⟨y273, hy273⟩ : ∃ y_ : List Int, y_ = (x9_2.set (x47_2 : Int).toNat t272) := ⟨_, rfl⟩; (replace H : (pack_Unpack.l0 k2 l0 a2 y273 (y269.length : Int) (wrap64 (x47_2 + 1))) = some (r1, r2) := by rw [hy273]; exact H); have Ny273 := Aside0.mk hy273; clear hy273; have H' := Aside0.mk H; clear H
          go_wp2_with (first | ((with_reducible refine gate_callee (f := 78) rfl ?_); refine gL 55 Try.func78 #[.slice A0 l0.length c0, .int .i64 x47_2, .int .i64 a2] (h := ?_); (with_reducible refine (pack_Lane.calls _ _ l0 x47_2 a2 t272 _ ?side1 ?side2 A25.out).mono ?_); (case side1 => repeat (first | exact (Kd.C_below HR0.out HB.out) | (with_reducible refine Kd.C_alloc ?_ _) | (with_reducible refine Kd.C_drewN ?_ _) | (with_reducible refine Kd.C_drew ?_))); (case side2 => exact HC0.out); rintro e w' ⟨rfl, ⟨nd, rfl⟩⟩; refine ⟨_, rfl, ?_⟩; (try (rw [drewN_self wr]; generalize hq_ : World.drewN wr _ = wr; have n0_ : Aside0 (Kd.R (Kd.int .i64) 3 wr w.heap.size (fun _ => True) (.slice Ao23 x9_2.length co23) x9_2) := ⟨by rw [← hq_]; exact (by (with_reducible repeat (first | apply Kd.R_alloc | apply Kd.R_drewN | apply Kd.R_drew)); exact HO_9.out)⟩; have n1_ : Aside0 (Below w.heap.size w wr) := ⟨by rw [← hq_]; exact bZ⟩; clear HO_9 HB hq_; have HO_9 := n0_; have HB := n1_; clear n0_ n1_)); have p28 : 0 ≤ (x47_2 : Int) := oD; have q28 : (x47_2 : Int) < ((x9_2.length : Int) : Int) := oD; obtain ⟨go28, co28, eo28, gb28, gl28, cl28, HG28⟩ := Kd.R_form HO_9.out (by omega); (first | cases eo28 | (injection eo28 with ea_ en_ ec_; (first | subst ea_ | (injection ea_ with ea_; subst ea_)); subst ec_; clear en_)); have GB28 := Aside0.mk gb28; have GG28 := Aside0.mk HG28; clear gb28 gl28 HG28; obtain ⟨hx28_0, hf28_0⟩ := Kd.R_celln 0 HO_9.out (x47_2 : Int) p28 q28; replace p28 := eq_true p28; replace q28 := eq_true q28; obtain ⟨hy29_, hz29_⟩ := Kd.R_celln 0 HO_9.out (x47_2 : Int) oD oD; have HP29 := Kd.R_putg HO_9.out (x47_2 : Int) t272) | ((with_reducible refine gate_store (t := 3) (p := 56) rfl ?_); refine store_event (t := 3) (p := 56) (v := ?vo_w30) (w1 := (wr.setCell ⟨go28, (x47_2 : Int).toNat, none⟩ (.int .i64 t272))) ?hg ?ho ?hn ?hr ?_; (case ho => rfl); (case hg => rfl); (case hn => rfl); (case hr => first | (go_simp; done) | (go_simp; rfl)); intro w30 hw; have hg : wr.grownBy w30 (some go28) := (by rw [hw]; exact HP29.2); have hp_ : Kd.R (Kd.int .i64) 3 w30 w.heap.size (fun _ => True) (.slice (some ⟨go28, 0, none⟩) x9_2.length co23) y273 := (by rw [hw, Ny273.out]; exact HP29.1); clear HP29; replace HO_9 := Aside0.mk (hp_); replace HB := Aside0.mk ((by rw [hw]; exact below_set (HB.out) GB28.out : Below w.heap.size w w30)); clear hg hw hp_))
          (try simp only [← hl9_2])
          go_roundg k2
          case measure => have := HJ9.out; have := HK2.out; omega
          case rel => exact ⟨(y273), (wrap64 (x47_2 + 1)), rfl, H', ⟨by have := HJ9.out; have := HK2.out; omega⟩, ⟨by (try simp only [hl9_2]); (with_reducible repeat (first | apply Kd.R_alloc | apply Kd.R_drewN | apply Kd.R_drew)); exact HO_9.out⟩, ⟨bZ⟩⟩
         ·
          rw [if_neg c24] at H; have c24b0 : decide (x47_2 < (y269.length : Int)) = false := decide_eq_false c24; (try simp only [hl9_2] at c24b0); clear c24; simp only [Option.some.injEq, Prod.mk.injEq] at H; obtain ⟨rfl, rfl⟩ := H
          go_wp2
          go_ret2
          exact ⟨_, rfl, by (with_reducible repeat (first | apply Kd.R_alloc | apply Kd.R_drewN | apply Kd.R_drew)); exact HO_9.out, bZ⟩
   ·
    rw [if_neg c9] at H; have c9b0 : ((l0.length : Int) == t267) = false := beq_eq_false_iff_ne.mpr c9; have c9b1 : ((l0.length : Int) != t267) = true := bne_iff_ne.mpr c9; simp only [Option.some.injEq, Prod.mk.injEq] at H; obtain ⟨rfl, rfl⟩ := H
    go_enter Try.func75, Try.ntmps75
    go_wp2_with (first | ((with_reducible refine gate_callee (f := 48) rfl ?_); refine gL 13 Try.func48 #[.int .i64 a2] (h := ?_); (with_reducible refine (pack_Bits.calls a2 true _ A4.out).mono ?_); rintro e w' ⟨rfl, ⟨nd, rfl⟩⟩; refine ⟨_, rfl, ?_⟩) | ((with_reducible refine gate_callee (f := 88) rfl ?_); refine gL 17 Try.func88 #[.int .i64 a1] (h := ?_); (with_reducible refine (pack_many.calls a1 true _ A6.out).mono ?_); rintro e w' ⟨rfl, ⟨nd, rfl⟩⟩; refine ⟨_, rfl, ?_⟩) | ((with_reducible refine gate_callee (f := 57) rfl ?_); refine gL 24 Try.func57 #[.int .i64 a1, .int .i64 a2] (h := ?_); (with_reducible refine (pack_Words.calls a1 a2 t267 _ A8.out).mono ?_); rintro e w' ⟨rfl, ⟨nd, rfl⟩⟩; refine ⟨_, rfl, ?_⟩))
    go_ret2
    exact ⟨_, rfl, by first | exact Kd.R_nil _ _ _ _ _ | exact Kd.N_nil _ _ _ _ _ | exact Kd.V_nil _ _ _ _ _ | exact Kd.Q_nil _ _ _ _ _ | exact Kd.S_nil _ _ _ _ _, bZ⟩
  ·
   replace c7 := Bool.eq_false_iff.mpr c7; subst c7; rw [if_neg (show ¬ (false = true) by decide)] at H; simp only [Option.some.injEq, Prod.mk.injEq] at H; obtain ⟨rfl, rfl⟩ := H
   go_enter Try.func75, Try.ntmps75
   go_wp2_with (first | ((with_reducible refine gate_callee (f := 48) rfl ?_); refine gL 13 Try.func48 #[.int .i64 a2] (h := ?_); (with_reducible refine (pack_Bits.calls a2 true _ A4.out).mono ?_); rintro e w' ⟨rfl, ⟨nd, rfl⟩⟩; refine ⟨_, rfl, ?_⟩) | ((with_reducible refine gate_callee (f := 88) rfl ?_); refine gL 17 Try.func88 #[.int .i64 a1] (h := ?_); (with_reducible refine (pack_many.calls a1 false _ A6.out).mono ?_); rintro e w' ⟨rfl, ⟨nd, rfl⟩⟩; refine ⟨_, rfl, ?_⟩))
   go_ret2
   exact ⟨_, rfl, by first | exact Kd.R_nil _ _ _ _ _ | exact Kd.N_nil _ _ _ _ _ | exact Kd.V_nil _ _ _ _ _ | exact Kd.Q_nil _ _ _ _ _ | exact Kd.S_nil _ _ _ _ _, bZ⟩
 ·
  replace c5 := Bool.eq_false_iff.mpr c5; subst c5; rw [if_neg (show ¬ (false = true) by decide)] at H; simp only [Option.some.injEq, Prod.mk.injEq] at H; obtain ⟨rfl, rfl⟩ := H
  go_enter Try.func75, Try.ntmps75
  go_wp2_with (first | ((with_reducible refine gate_callee (f := 48) rfl ?_); refine gL 13 Try.func48 #[.int .i64 a2] (h := ?_); (with_reducible refine (pack_Bits.calls a2 false _ A4.out).mono ?_); rintro e w' ⟨rfl, ⟨nd, rfl⟩⟩; refine ⟨_, rfl, ?_⟩))
  go_ret2
  exact ⟨_, rfl, by first | exact Kd.R_nil _ _ _ _ _ | exact Kd.N_nil _ _ _ _ _ | exact Kd.V_nil _ _ _ _ _ | exact Kd.Q_nil _ _ _ _ _ | exact Kd.S_nil _ _ _ _ _, bZ⟩

/-! ### page_groups: function 42 -/
mutual
def page_groups.l0 : Nat → Int → Int → List (S47) → Int → Int → List Int → Bool → Option ((List (S47)) × Int × List Int × Bool)
 | 0, _, _, _, _, _, _, _ => none
 | k + 1, x2, x3, x10, x15, x16, x1000, x1001 => if x16 < x15 then ((seal_Reader_Signed.f k x1000 x1001).bind fun bt274 => ((seal_Reader_Num.f k bt274.2.1 bt274.2.2 4).bind fun bt277 => ((pack_Words.f x2 x3).bind fun t281 => (page_groups.l1 k x2 x3 x10 ([] : List Int) x15 x16 t281 0 bt277.2.1 bt277.2.2 bt274.1 ((bt277.1) % 4294967296))))) else (some (x10, 0, x1000, x1001))
def page_groups.l1 : Nat → Int → Int → List (S47) → List Int → Int → Int → Int → Int → List Int → Bool → Int → Int → Option ((List (S47)) × Int × List Int × Bool)
 | 0, _, _, _, _, _, _, _, _, _, _, _, _ => none
 | k + 1, x2, x3, x10, x12, x15, x16, x26, x27, x1000, x1001, x281000, x281001 => if x27 < x26 then ((seal_Reader_Num.f k x1000 x1001 8).bind fun bt282 => (if x12.length < 17592186044416 then (page_groups.l1 k x2 x3 x10 (x12 ++ [bt282.1]) x15 x16 x26 (wrap64 (x27 + 1)) bt282.2.1 bt282.2.2 x281000 x281001) else (none))) else ((pack_Unpack.f k x12 x2 x3).bind fun bt288 => (if bt288.2 = 0 then ((group_Right.f k x281000 x281001 bt288.1 x3).bind fun t292 => (if t292 = 0 then (if x10.length < 4398046511104 then (page_groups.l0 k x2 x3 (x10 ++ [(⟨x281000, x281001, bt288.1⟩ : S47)]) x15 (wrap64 (x16 + 1)) x1000 x1001) else (none)) else ((group_Right.f k x281000 x281001 bt288.1 x3).bind fun t296 => (some (([] : List (S47)), t296, x1000, x1001))))) else (some (([] : List (S47)), bt288.2, x1000, x1001))))
end
def page_groups.f (k : Nat) (s0_0 : List Int) (s0_1 : Bool) (a1 : Int) (a2 : Int) (a3 : Int) : Option ((List (S47)) × Int × List Int × Bool) := page_groups.l0 k a2 a3 ([] : List (S47)) a1 0 s0_0 s0_1
theorem page_groups.mono_l : ∀ k, (∀ y0 y1 y2 y3 y4 y5 y6, LeO (page_groups.l0 k y0 y1 y2 y3 y4 y5 y6) (page_groups.l0 (k + 1) y0 y1 y2 y3 y4 y5 y6)) ∧ (∀ y0 y1 y2 y3 y4 y5 y6 y7 y8 y9 y10 y11, LeO (page_groups.l1 k y0 y1 y2 y3 y4 y5 y6 y7 y8 y9 y10 y11) (page_groups.l1 (k + 1) y0 y1 y2 y3 y4 y5 y6 y7 y8 y9 y10 y11))
 | 0 => ⟨fun _ _ _ _ _ _ _ r h => by simp [page_groups.l0] at h, fun _ _ _ _ _ _ _ _ _ _ _ _ r h => by simp [page_groups.l1] at h⟩
 | k + 1 => by
  obtain ⟨ih0, ih1⟩ := page_groups.mono_l k
  refine ⟨?_, ?_⟩
  all_goals intros
  all_goals first | unfold page_groups.l0 | unfold page_groups.l1
  all_goals repeat' first
   | (with_reducible exact ih0 _ _ _ _ _ _ _)
   | (with_reducible exact ih1 _ _ _ _ _ _ _ _ _ _ _ _)
   | (with_reducible exact group_Right.mono _ _ _ _ _)
   | (with_reducible exact pack_Unpack.mono _ _ _ _)
   | (with_reducible exact seal_Reader_Num.mono _ _ _ _)
   | (with_reducible exact seal_Reader_Signed.mono _ _ _)
   | (with_reducible exact LeO.refl _)
   | (with_reducible exact LeO.none _)
   | (with_reducible refine LeO.ite ?_ ?_)
   | (with_reducible refine LeO.bind ?_ (fun _ => ?_))
theorem page_groups.mono : ∀ a0 a1 a2 a3 a4 k, LeO (page_groups.f k a0 a1 a2 a3 a4) (page_groups.f (k + 1) a0 a1 a2 a3 a4) := by
 intro a0 a1 a2 a3 a4 k; obtain ⟨ih0, ih1⟩ := page_groups.mono_l k; unfold page_groups.f
 repeat' first
   | (with_reducible exact ih0 _ _ _ _ _ _ _)
   | (with_reducible exact ih1 _ _ _ _ _ _ _ _ _ _ _ _)
   | (with_reducible exact group_Right.mono _ _ _ _ _)
   | (with_reducible exact pack_Unpack.mono _ _ _ _)
   | (with_reducible exact seal_Reader_Num.mono _ _ _ _)
   | (with_reducible exact seal_Reader_Signed.mono _ _ _)
   | (with_reducible exact LeO.refl _)
   | (with_reducible exact LeO.none _)
   | (with_reducible refine LeO.ite ?_ ?_)
   | (with_reducible refine LeO.bind ?_ (fun _ => ?_))
set_option maxHeartbeats 8000000 in
set_option maxRecDepth 100000 in
theorem page_groups.calls (k : Nat) (g : Nat) (s0_0 : List Int) (s0_1 : Bool) (a1 : Int) (a2 : Int) (a3 : Int) (r1 : List (S47)) (r2 : Int) (r3 : List Int) (r4 : Bool) (w0 w : World) (hI : IsS122 w0 w g s0_0 s0_1) (hB : Below w0.heap.size w0 w) (h : page_groups.f k s0_0 s0_1 a1 a2 a3 = some (r1, r2, r3, r4)) :
  Calls Try.prog 42 #[.pointer (some ⟨g, 0, none⟩), .int .i64 a1, .int .i64 a2, .int .i64 a3] w fun e w' => ∃ v0_ : Value, e = .returned (.tuple #[v0_, .int .i64 r2]) ∧ Kd.S k47 47 w' w.heap.size (fun _ => True) v0_ r1 ∧ IsS122 w0 w' g r3 r4 ∧ Below w0.heap.size w0 w' ∧ KeepBut w w' g none := by
 have hu47 := Try.underlying47; have HI0 := Aside0.mk hI; have HK := Aside0.mk (KeepBut.refl w g none); have HL := Aside0.mk hB.size; clear hI; have HW0 := Aside0.mk hB.size; have HB := Aside0.mk hB; clear hB; have H := h; clear h; unfold page_groups.f at H; have H' := Aside0.mk H; clear H
 go_enter Try.func42, Try.ntmps42
 go_wp2
 go_loopg [10, 16] k (fun kq v10 v16 w' => ∃ (x10_1 : List (S47)) (x16_1 : Int) (x1000_1 : List Int) (x1001_1 : Bool), v16 = .int .i64 x16_1 ∧ Aside0 (page_groups.l0 kq a2 a3 x10_1 a1 x16_1 x1000_1 x1001_1 = some (r1, r2, r3, r4)) ∧ Aside0 (kq ≤ k) ∧ Aside0 (Kd.S k47 47 w' w.heap.size (fun _ => True) v10 x10_1) ∧ Aside0 (IsS122 w0 w' g x1000_1 x1001_1) ∧ Aside0 (KeepBut w w' g none) ∧ Aside0 (Below w0.heap.size w0 w'))
 case atStart => exact ⟨(([] : List (S47))), (0), (s0_0), (s0_1), rfl, H', ⟨Nat.le_refl _⟩, ⟨by first | exact Kd.S_nil _ _ _ _ _ | exact Kd.N_nil _ _ _ _ _ | exact Kd.V_nil _ _ _ _ _ | exact Kd.Q_nil _ _ _ _ _ | exact Kd.R_nil _ _ _ _ _⟩, HI0, HK, HB⟩
 case round =>
  clear H'; (try clear p2); (try clear c4); obtain ⟨x10_1, x16_1, x1000_1, x1001_1, rfl, HA, HK1, HO_10, HI0, HK, HB⟩ := hrel
  cases gk with
  | zero => exact absurd HA.out (by simp [page_groups.l0])
  | succ k1 =>
   have H := HA.out; clear HA; simp only [page_groups.l0] at H
   by_cases c5 : x16_1 < a1
   ·
    rw [if_pos c5] at H; have c5b0 : decide (x16_1 < a1) = true := decide_eq_true c5; clear c5; obtain ⟨⟨t274, t275, t276⟩, A6, H⟩ := bnd H
    try dsimp only at H
    obtain ⟨⟨t277, t278, t279⟩, A7, H⟩ := bnd H
    try dsimp only at H
    obtain ⟨t281, A8, H⟩ := bnd H; have H' := Aside0.mk H; clear H
    go_wp2_with (first | ((with_reducible refine gate_callee (f := 74) rfl ?_); refine gL 19 Try.func74 #[.pointer (some ⟨g, 0, none⟩)] (h := ?_); (with_reducible refine (seal_Reader_Signed.calls k1 g x1000_1 x1001_1 t274 t275 t276 w0 _ ?side1 ?side2 A6.out).mono ?_); (case side1 => with_reducible exact HI0.out); (case side2 => with_reducible exact HB.out); rintro e w9 ⟨rfl, hi, hb, hk⟩; refine ⟨_, rfl, ?_⟩; replace HO_10 := Aside0.mk (Kd.S_mono (Kd.S_keep (IsS122.apartS (show IsS122 w0 _ g x1000_1 x1001_1 from by with_reducible exact HI0.out) HO_10.out (by decide)) hk (fun _ h => h.2)) (fun _ h => h.1)); replace HK := Aside0.mk (KeepBut.trans HK.out hk (.inl rfl)); replace HB := Aside0.mk (hb); replace HI0 := Aside0.mk (hi); clear hb hk hi) | ((with_reducible refine gate_callee (f := 39) rfl ?_); refine gL 21 Try.func39 #[.pointer (some ⟨g, 0, none⟩), .int .i64 4] (h := ?_); (with_reducible refine (seal_Reader_Num.calls k1 g t275 t276 4 t277 t278 t279 w0 _ ?side1 ?side2 A7.out).mono ?_); (case side1 => with_reducible exact HI0.out); (case side2 => with_reducible exact HB.out); rintro e w10 ⟨rfl, hi, hb, hk⟩; refine ⟨_, rfl, ?_⟩; replace HO_10 := Aside0.mk (Kd.S_mono (Kd.S_keep (IsS122.apartS (show IsS122 w0 _ g t275 t276 from by with_reducible exact HI0.out) HO_10.out (by decide)) hk (fun _ h => h.2)) (fun _ h => h.1)); replace HK := Aside0.mk (KeepBut.trans HK.out hk (.inl rfl)); replace HB := Aside0.mk (hb); replace HI0 := Aside0.mk (hi); clear hb hk hi) | ((with_reducible refine gate_dst (N := 11) rfl ?_); refine bxE 11 #[.int .i32 0, .int .u32 0, .slice none 0 0] 47 (h := ?_); intro gb280 hg w11 hbox hb; replace HO_10 := Aside0.mk (Kd.S_below (Kd.S_elderB HO_10.out gb280 (Nat.le_of_eq hg.symm)) hb); replace HB := bst HB hb; have BK280 := Aside0.mk (hbox); have GW280 := Aside0.mk ((by rw [hg]; exact (keep_size (w := w) (g := g) (row := none) HK.out) : w.heap.size ≤ gb280)); have GE280 := Aside0.mk ((Nat.le_trans HW0.out (by rw [hg]; exact (keep_size (w := w) (g := g) (row := none) HK.out) : w.heap.size ≤ gb280) : w0.heap.size ≤ gb280)); replace HK := Aside0.mk (KeepBut.trans HK.out (KeepBut.of_below hb g none) (.inl rfl)); have FB0_280 := Aside0.mk ((by rw [hg]; exact (IsS122.lt (show IsS122 w0 _ g t278 t279 from by with_reducible exact HI0.out)) : g < gb280)); have NB0_280 := Aside0.mk ((by rw [hg]; exact Nat.ne_of_lt (IsS122.lt (show IsS122 w0 _ g t278 t279 from by with_reducible exact HI0.out)) : g ≠ gb280)); have NB280_0 := Aside0.mk ((by rw [hg]; exact Nat.ne_of_gt (IsS122.lt (show IsS122 w0 _ g t278 t279 from by with_reducible exact HI0.out)) : gb280 ≠ g)); replace HI0 := Aside0.mk (IsS122.below HI0.out hb); clear hb hbox hg; have hnb12 := NB280_0.out; have hnc12 := NB0_280.out; have hz13 := bx3 BK280.out) | ((with_reducible refine gate_callee (f := 57) rfl ?_); refine gL 26 Try.func57 #[.int .i64 a2, .int .i64 a3] (h := ?_); (with_reducible refine (pack_Words.calls a2 a3 t281 _ A8.out).mono ?_); rintro e w' ⟨rfl, ⟨nd, rfl⟩⟩; refine ⟨_, rfl, ?_⟩))
    go_loopg [12, 27] k1 (fun kq v12 v27 w' => ∃ (x12_2 : List Int) (x27_2 : Int) (x1000_2 : List Int) (x1001_2 : Bool), v27 = .int .i64 x27_2 ∧ Aside0 (page_groups.l1 kq a2 a3 x10_1 x12_2 a1 x16_1 t281 x27_2 x1000_2 x1001_2 t274 ((t277) % 4294967296) = some (r1, r2, r3, r4)) ∧ Aside0 (kq ≤ k1) ∧ Aside0 (Kd.S k47 47 w' w.heap.size (fun k_ => k_ ≠ gb280) u10 x10_1) ∧ Aside0 (Kd.R (Kd.int .u64) 78 w' w.heap.size (fun _ => True) v12 x12_2) ∧ Aside0 (w'.heap[gb280]? = some (.cells #[.int .i32 t274, .int .u32 ((t277) % 4294967296), (.slice none 0 0)] 47 (0, 0))) ∧ Aside0 (IsS122 w0 w' g x1000_2 x1001_2) ∧ Aside0 (KeepBut w w' g none) ∧ Aside0 (Below w0.heap.size w0 w'))
    case atStart => exact ⟨(([] : List Int)), (0), (t278), (t279), rfl, H', ⟨Nat.le_refl _⟩, ⟨by (with_reducible repeat (first | apply Kd.S_alloc | apply Kd.S_drewN | apply Kd.S_drew)); exact Kd.S_mono (Kd.S_far (p := ⟨gb280, 2, none⟩) (Kd.S_far (p := ⟨gb280, 1, none⟩) (Kd.S_far (p := ⟨gb280, 0, none⟩) (Kd.S_mono HO_10.out (fun k_ hk => (⟨hk, hk.2⟩ : _ ∧ k_ ≠ gb280))) (fun _ hk => hk.2) (.int .i32 t274)) (fun _ hk => hk.2) (.int .u32 ((t277) % 4294967296))) (fun _ hk => hk.2) (.slice none 0 0)) (fun _ hk => hk.1.2)⟩, ⟨by first | exact Kd.R_nil _ _ _ _ _ | exact Kd.N_nil _ _ _ _ _ | exact Kd.V_nil _ _ _ _ _ | exact Kd.Q_nil _ _ _ _ _ | exact Kd.S_nil _ _ _ _ _⟩, ⟨by (with_reducible repeat (first | refine blk_drewN ?_ _ | refine blk_drew ?_ | refine blk_alloc ?_ _)); refine blk_put (cs := #[.int .i32 t274, .int .u32 ((t277) % 4294967296), .slice none 0 0]) ?_ 2 _ rfl; (with_reducible repeat (first | refine blk_drewN ?_ _ | refine blk_drew ?_ | refine blk_alloc ?_ _)); refine blk_put (cs := #[.int .i32 t274, .int .u32 0, .slice none 0 0]) ?_ 1 _ rfl; (with_reducible repeat (first | refine blk_drewN ?_ _ | refine blk_drew ?_ | refine blk_alloc ?_ _)); refine blk_put (cs := #[.int .i32 0, .int .u32 0, .slice none 0 0]) ?_ 0 _ rfl; (with_reducible repeat (first | refine blk_drewN ?_ _ | refine blk_drew ?_ | refine blk_alloc ?_ _)); exact BK280.out⟩, ⟨by repeat (first | (with_reducible first | exact HI0.out | apply IsS122.alloc | apply IsS122.drewN | apply IsS122.drew | apply IsS122.set_1 | refine IsS122.far ?_ NB0_280.out FB0_280.out _) | exact HI0.out)⟩, ⟨by repeat (first | (with_reducible first | exact HK.out | apply KeepBut.set_ | apply keep_drewN | apply keep_drew | apply keep_alloc | refine keep_far ?_ GW280.out _) | exact HK.out)⟩, ⟨by repeat (first | (with_reducible first | exact HB.out | apply below_alloc | apply pw_below_drewN | apply below_drew1 | refine below_set ?_ (IsS122.ge HI0.out) | refine below_set ?_ GE280.out) | exact HB.out)⟩⟩
    case round =>
     clear H'; (try clear c1); (try clear p2); (try clear c3); (try clear c4); (try clear c5); (try clear c5b0); (try clear c7); (try clear c12); (try clear hz13); (try clear p2); obtain ⟨x12_2, x27_2, x1000_2, x1001_2, rfl, HA, HK2, HO_10, HO_12, BK280, HI0, HK, HB⟩ := hrel
     cases gk with
     | zero => exact absurd HA.out (by simp [page_groups.l1])
     | succ k2 =>
      have H := HA.out; clear HA; simp only [page_groups.l1] at H
      by_cases c14 : x27_2 < t281
      ·
       rw [if_pos c14] at H; have c14b0 : decide (x27_2 < t281) = true := decide_eq_true c14; clear c14; obtain ⟨⟨t282, t283, t284⟩, A15, H⟩ := bnd H
       try dsimp only at H
       obtain ⟨c16, H⟩ := ifp H; have LMc16 := Aside0.mk c16; clear c16; obtain ⟨y285, hy285⟩ : ∃ y_ : List Int, y_ = (x12_2 ++ [t282]) := ⟨_, rfl⟩; (replace H : (page_groups.l1 k2 a2 a3 x10_1 y285 a1 x16_1 t281 (wrap64 (x27_2 + 1)) t283 t284 t274 ((t277) % 4294967296)) = some (r1, r2, r3, r4) := by rw [hy285]; exact H); have Ny285 := Aside0.mk hy285; clear hy285; have H' := Aside0.mk H; clear H
       go_wp2_with (first | ((with_reducible refine gate_callee (f := 39) rfl ?_); refine gL 31 Try.func39 #[.pointer (some ⟨g, 0, none⟩), .int .i64 8] (h := ?_); (with_reducible refine (seal_Reader_Num.calls k2 g x1000_2 x1001_2 8 t282 t283 t284 w0 _ ?side1 ?side2 A15.out).mono ?_); (case side1 => with_reducible exact HI0.out); (case side2 => with_reducible exact HB.out); rintro e w17 ⟨rfl, hi, hb, hk⟩; refine ⟨_, rfl, ?_⟩; replace HO_10 := Aside0.mk (Kd.S_mono (Kd.S_keep (IsS122.apartS (show IsS122 w0 _ g x1000_2 x1001_2 from by with_reducible exact HI0.out) HO_10.out (by decide)) hk (fun _ h => h.2)) (fun _ h => h.1)); replace HO_12 := Aside0.mk (Kd.R_mono (Kd.R_keep (IsS122.apart (show IsS122 w0 _ g x1000_2 x1001_2 from by with_reducible exact HI0.out) HO_12.out (by decide)) hk (fun _ h => h.2)) (fun _ h => h.1)); replace BK280 := Aside0.mk (KeepBut.blk hk (g' := gb280) (o := .cells #[.int .i32 t274, .int .u32 ((t277) % 4294967296), .slice none 0 0] 47 (0, 0)) BK280.out NB280_0.out (by simp)); replace HK := Aside0.mk (KeepBut.trans HK.out hk (.inl rfl)); replace HB := Aside0.mk (hb); replace HI0 := Aside0.mk (hi); clear hb hk hi) | ((with_reducible refine gate_builtin (b := .append) (xs := #[.tmp 29, .tmp 32]) rfl ?_); at_builtin; refine Kd.R_append (Kd.int .u64) w.heap.size rfl (.tmp 29) (.tmp 32) 80 78 (.int .u64 0) 8 rfl Try.underlying80 info78 rfl (by decide) (by omega) u12 x12_2 t282 [.int .u64 t282] (fun _ => True) (fun _ => False) rfl rfl ?aP (fun _ hk => hk.elim) ?aF ?aO (Below.refl _ _) ?aS ?aL ?_; (case aP => exact rfl); (case aF => exact (fun _ _ => trivial)); (case aO => exact HO_12.out); (case aS => exact (keep_size (w := w) (g := g) (row := none) HK.out)); (case aL => have := LMc16.out; omega); intro v286 w18 ho hb hg hat; rw [← Ny285.out] at ho; have n0_ := Aside0.mk (Kd.S_over' HO_10.out (Kd.R_typed HO_12.out) (by decide) hg); have n1_ := Aside0.mk (blk_grown (g := gb280) (o := .cells #[.int .i32 t274, .int .u32 ((t277) % 4294967296), .slice none 0 0] 47 (0, 0)) BK280.out hg (Kd.R_ne HO_12.out BK280.out (by decide))); have n2_ := Aside0.mk (IsS122.grown HI0.out hg (IsS122.own_ap HI0.out HO_12.out (by decide))); have n3_ := Aside0.mk (below_weaken HB.out HL.out hb); have n4_ := Aside0.mk (KeepBut.trans HK.out (KeepBut.of_grown hg g) (Kd.R_base2 HO_12.out)); have n5_ := Aside0.mk (ho); clear HO_10; clear BK280; clear HI0; clear HB; clear HK; clear HO_12; have HO_10 := n0_; have BK280 := n1_; have HI0 := n2_; have HB := n3_; have HK := n4_; have HO287 := n5_; clear n0_ n1_ n2_ n3_ n4_ n5_; clear ho hb hg hat))
       go_roundg k2
       case measure => have := HK1.out; have := HK2.out; omega
       case rel => exact ⟨(y285), (wrap64 (x27_2 + 1)), (t283), (t284), rfl, H', ⟨by have := HK1.out; have := HK2.out; omega⟩, HO_10, HO287, BK280, HI0, HK, HB⟩
      ·
       rw [if_neg c14] at H; have c14b0 : decide (x27_2 < t281) = false := decide_eq_false c14; clear c14; obtain ⟨⟨t288, t289⟩, A19, H⟩ := bnd H
       try dsimp only at H
       by_cases c20 : t289 = 0
       ·
        rw [if_pos c20] at H; have c20b0 : (t289 == 0) = true := beq_iff_eq.mpr c20; have c20b1 : (t289 != 0) = false := bne_eq_false_iff_eq.mpr c20; clear c20; obtain ⟨t292, A21, H⟩ := bnd H
        by_cases c22 : t292 = 0
        ·
         rw [if_pos c22] at H; have c22b0 : (t292 == 0) = true := beq_iff_eq.mpr c22; have c22b1 : (t292 != 0) = false := bne_eq_false_iff_eq.mpr c22; clear c22; obtain ⟨c23, H⟩ := ifp H; have LMc23 := Aside0.mk c23; clear c23; obtain ⟨y293, hy293⟩ : ∃ y_ : List (S47), y_ = (x10_1 ++ [(⟨t274, ((t277) % 4294967296), t288⟩ : S47)]) := ⟨_, rfl⟩; (replace H : (page_groups.l0 k2 a2 a3 y293 a1 (wrap64 (x16_1 + 1)) x1000_2 x1001_2) = some (r1, r2, r3, r4) := by rw [hy293]; exact H); have Ny293 := Aside0.mk hy293; clear hy293; have H' := Aside0.mk H; clear H; obtain ⟨Ao24, co24, eo24⟩ := Kd.R_slice HO_12.out; subst eo24
         go_wp2_with (first | ((with_reducible refine gate_callee (f := 75) rfl ?_); refine gL 39 Try.func75 #[.slice Ao24 x12_2.length co24, .int .i64 a2, .int .i64 a3] (h := ?_); (with_reducible refine (pack_Unpack.calls k2 _ _ x12_2 a2 a3 t288 t289 _ ?side1 ?side2 A19.out).mono ?_); (case side1 => with_reducible exact (Kd.R_reads' HO_12.out).2.2); (case side2 => exact (Kd.R_reads' HO_12.out).2.1); rintro e w25 ⟨v290, rfl, ho0, hb⟩; refine ⟨_, rfl, ?_⟩; replace HO_10 := Aside0.mk (Kd.S_elder' HO_10.out (Kd.R_base ho0) hb); replace HO_12 := rst HO_12 hb; have HO291 := Aside0.mk (Kd.R_lower ho0 (keep_size (w := w) (g := g) (row := none) HK.out)); replace BK280 := kst BK280 hb; replace HI0 := Aside0.mk (IsS122.below HI0.out hb); replace HK := Aside0.mk (KeepBut.trans HK.out (KeepBut.of_below hb g none) (.inl rfl)); replace HB := bst HB hb; clear hb ho0; obtain ⟨Ao26, co26, eo26⟩ := Kd.R_slice HO291.out; subst eo26; have hnb27 := NB280_0.out; have hnc27 := NB0_280.out; have hz28 := bx3 BK280.out) | ((with_reducible refine gate_callee (f := 76) rfl ?_); refine gL 49 Try.func76 #[.agg #[.int .i32 t274, .int .u32 ((t277) % 4294967296), .slice Ao26 t288.length co26], .int .i64 a3] (h := ?_); (with_reducible refine (group_Right.calls k2 t274 ((t277) % 4294967296) _ _ t288 a3 t292 _ ?side1 ?side2 A21.out).mono ?_); (case side1 => refine (Kd.R_reads' (e := 3) (base := w.heap.size) (ok := fun k_ => True) (n := t288.length) (c := co26) ?_).2.2; exact (by (with_reducible repeat (first | apply Kd.R_alloc | apply Kd.R_drewN | apply Kd.R_drew)); exact (Kd.R_mono (Kd.R_far (p := ⟨gb280, 2, none⟩) (Kd.R_types HO291.out BK280.out (by decide)) (fun _ hk => hk.2) (.slice Ao26 t288.length co26)) (fun _ h_ => h_.1)))); (case side2 => exact (Kd.R_reads' HO291.out).2.1); rintro e w29 ⟨rfl, hb⟩; refine ⟨_, rfl, ?_⟩; replace HO_10 := Aside0.mk (Kd.S_below (by (with_reducible repeat (first | apply Kd.S_alloc | apply Kd.S_drewN | apply Kd.S_drew)); exact (Kd.S_mono (Kd.S_far (p := ⟨gb280, 2, none⟩) (Kd.S_mono HO_10.out (fun k_ hk => (⟨hk, hk.1⟩ : _ ∧ k_ ≠ gb280))) (fun _ hk => hk.2) (.slice Ao26 t288.length co26)) (fun _ h_ => h_.1))) hb); replace HO_12 := Aside0.mk (Kd.R_below (by (with_reducible repeat (first | apply Kd.R_alloc | apply Kd.R_drewN | apply Kd.R_drew)); exact (Kd.R_mono (Kd.R_far (p := ⟨gb280, 2, none⟩) (Kd.R_types HO_12.out BK280.out (by decide)) (fun _ hk => hk.2) (.slice Ao26 t288.length co26)) (fun _ h_ => h_.1))) hb); replace HO291 := Aside0.mk (Kd.R_below (by (with_reducible repeat (first | apply Kd.R_alloc | apply Kd.R_drewN | apply Kd.R_drew)); exact (Kd.R_mono (Kd.R_far (p := ⟨gb280, 2, none⟩) (Kd.R_types HO291.out BK280.out (by decide)) (fun _ hk => hk.2) (.slice Ao26 t288.length co26)) (fun _ h_ => h_.1))) hb); replace BK280 := Aside0.mk (blk_below (g := gb280) (o := .cells #[.int .i32 t274, .int .u32 ((t277) % 4294967296), .slice Ao26 t288.length co26] 47 (0, 0)) (blk_put BK280.out 2 _ rfl) hb); replace HK := Aside0.mk (KeepBut.trans (by repeat (first | (with_reducible first | exact HK.out | apply KeepBut.set_ | apply keep_drewN | apply keep_drew | apply keep_alloc | refine keep_far ?_ GW280.out _) | exact HK.out)) (KeepBut.of_below hb g none) (.inl rfl)); replace HB := Aside0.mk (below_step (by repeat (first | (with_reducible first | exact HB.out | apply below_alloc | apply pw_below_drewN | apply below_drew1 | refine below_set ?_ (IsS122.ge HI0.out) | refine below_set ?_ GE280.out) | exact HB.out)) hb); replace HI0 := Aside0.mk (IsS122.below (show IsS122 w0 (w25.setCell ⟨gb280, 2, none⟩ (.slice Ao26 t288.length co26)) g x1000_2 x1001_2 from by repeat (first | (with_reducible first | exact HI0.out | apply IsS122.alloc | apply IsS122.drewN | apply IsS122.drew | apply IsS122.set_1 | refine IsS122.far ?_ NB0_280.out FB0_280.out _) | exact HI0.out)) hb); clear hb; have hz30 := bx3 BK280.out) | ((with_reducible refine gate_builtin (b := .append) (xs := #[.tmp 54, .tmp 56]) rfl ?_); at_builtin; refine Kd.S_append k47 w.heap.size rfl (.tmp 54) (.tmp 56) 40 47 (.agg #[(.int .i32 0), (.int .u32 0), (.slice none 0 0)]) 32 rfl Try.underlying40 info47 rfl (by decide) (by omega) u10 x10_1 (⟨t274, ((t277) % 4294967296), t288⟩ : S47) [.int .i32 t274, .int .u32 ((t277) % 4294967296), .slice Ao26 t288.length co26] (fun k_ => k_ ≠ gb280) (fun k_ => some k_ = (.slice Ao26 t288.length co26 : Value).ownBlock) rfl rfl ?aP (fun k_ hk_ => ((Kd.R_mono (ok' := fun k_ => ((fun k_ => k_ ≠ gb280)) k_ ∧ some k_ ≠ (u10 : Value).ownBlock) (Kd.R_types (Kd.R_apart' (HO291.out) (Kd.S_typed HO_10.out) (by decide)) BK280.out (by decide)) (fun k_ hk => ⟨hk.2, hk.1.2⟩))).1 k_ hk_.symm) ?aF ?aO (Below.refl _ _) ?aS ?aL ?_; (case aP => exact k47_mkM _ _ _ (⟨t274, ((t277) % 4294967296), t288⟩ : S47) (Kd.R_mono (Kd.R_tight rfl (Kd.R_mono (ok' := fun k_ => ((fun k_ => k_ ≠ gb280)) k_ ∧ some k_ ≠ (u10 : Value).ownBlock) (Kd.R_types (Kd.R_apart' (HO291.out) (Kd.S_typed HO_10.out) (by decide)) BK280.out (by decide)) (fun k_ hk => ⟨hk.2, hk.1.2⟩))) (fun _ h_ => h_))); (case aF => exact (fun k_ hk => Kd.freshB (g := gb280) (o := .cells #[.int .i32 t274, .int .u32 ((t277) % 4294967296), .slice Ao26 t288.length co26] 47 (0, 0)) BK280.out k_ hk)); (case aO => exact (by (with_reducible repeat (first | apply Kd.S_alloc | apply Kd.S_drewN | apply Kd.S_drew)); exact Kd.S_mono HO_10.out (fun k_ hk => ⟨hk.1, fun e_ => hk.2 e_⟩))); (case aS => exact (keep_size (w := w) (g := g) (row := none) HK.out)); (case aL => have := LMc23.out; omega); intro v294 w31 ho hb hg hat; rw [← Ny293.out] at ho; have n0_ := Aside0.mk (Kd.R_over' HO_12.out (Kd.S_typed HO_10.out) (by decide) hg); have n1_ := Aside0.mk (blk_grown (g := gb280) (o := .cells #[.int .i32 t274, .int .u32 ((t277) % 4294967296), .slice Ao26 t288.length co26] 47 (0, 0)) BK280.out hg (Kd.S_away HO_10.out (fun _ hk => hk.1))); have n2_ := Aside0.mk (IsS122.grown HI0.out hg (IsS122.own_apS HI0.out HO_10.out (by decide))); have n3_ := Aside0.mk (below_weaken HB.out HL.out hb); have n4_ := Aside0.mk (KeepBut.trans HK.out (KeepBut.of_grown hg g) (Kd.S_base2 HO_10.out)); have n5_ := Aside0.mk (ho); clear HO_12; clear BK280; clear HI0; clear HB; clear HK; clear HO_10; clear HO291; have HO_12 := n0_; have BK280 := n1_; have HI0 := n2_; have HB := n3_; have HK := n4_; have HO295 := n5_; clear n0_ n1_ n2_ n3_ n4_ n5_; clear ho hb hg hat))
         go_roundg k2
         case measure => have := HK1.out; have := HK2.out; omega
         case rel => exact ⟨(y293), (wrap64 (x16_1 + 1)), (x1000_2), (x1001_2), rfl, H', ⟨by have := HK1.out; have := HK2.out; omega⟩, ⟨by exact Kd.S_mono HO295.out (fun _ hk => trivial)⟩, HI0, HK, HB⟩
        ·
         rw [if_neg c22] at H; have c22b0 : (t292 == 0) = false := beq_eq_false_iff_ne.mpr c22; have c22b1 : (t292 != 0) = true := bne_iff_ne.mpr c22; obtain ⟨t296, A32, H⟩ := bnd H; simp only [Option.some.injEq, Prod.mk.injEq] at H; obtain ⟨rfl, rfl, rfl, rfl⟩ := H; obtain ⟨Ao33, co33, eo33⟩ := Kd.R_slice HO_12.out; subst eo33
         go_wp2_with (first | ((with_reducible refine gate_callee (f := 75) rfl ?_); refine gL 39 Try.func75 #[.slice Ao33 x12_2.length co33, .int .i64 a2, .int .i64 a3] (h := ?_); (with_reducible refine (pack_Unpack.calls k2 _ _ x12_2 a2 a3 t288 t289 _ ?side1 ?side2 A19.out).mono ?_); (case side1 => with_reducible exact (Kd.R_reads' HO_12.out).2.2); (case side2 => exact (Kd.R_reads' HO_12.out).2.1); rintro e w34 ⟨v290, rfl, ho0, hb⟩; refine ⟨_, rfl, ?_⟩; replace HO_10 := Aside0.mk (Kd.S_elder' HO_10.out (Kd.R_base ho0) hb); replace HO_12 := rst HO_12 hb; have HO291 := Aside0.mk (Kd.R_lower ho0 (keep_size (w := w) (g := g) (row := none) HK.out)); replace BK280 := kst BK280 hb; replace HI0 := Aside0.mk (IsS122.below HI0.out hb); replace HK := Aside0.mk (KeepBut.trans HK.out (KeepBut.of_below hb g none) (.inl rfl)); replace HB := bst HB hb; clear hb ho0; obtain ⟨Ao35, co35, eo35⟩ := Kd.R_slice HO291.out; subst eo35; have hnb36 := NB280_0.out; have hnc36 := NB0_280.out; have hz37 := bx3 BK280.out) | ((with_reducible refine gate_callee (f := 76) rfl ?_); refine gL 49 Try.func76 #[.agg #[.int .i32 t274, .int .u32 ((t277) % 4294967296), .slice Ao35 t288.length co35], .int .i64 a3] (h := ?_); (with_reducible refine (group_Right.calls k2 t274 ((t277) % 4294967296) _ _ t288 a3 t292 _ ?side1 ?side2 A21.out).mono ?_); (case side1 => refine (Kd.R_reads' (e := 3) (base := w.heap.size) (ok := fun k_ => True) (n := t288.length) (c := co35) ?_).2.2; exact (by (with_reducible repeat (first | apply Kd.R_alloc | apply Kd.R_drewN | apply Kd.R_drew)); exact (Kd.R_mono (Kd.R_far (p := ⟨gb280, 2, none⟩) (Kd.R_types HO291.out BK280.out (by decide)) (fun _ hk => hk.2) (.slice Ao35 t288.length co35)) (fun _ h_ => h_.1)))); (case side2 => exact (Kd.R_reads' HO291.out).2.1); rintro e w38 ⟨rfl, hb⟩; refine ⟨_, rfl, ?_⟩; replace HO_10 := Aside0.mk (Kd.S_below (by (with_reducible repeat (first | apply Kd.S_alloc | apply Kd.S_drewN | apply Kd.S_drew)); exact (Kd.S_mono (Kd.S_far (p := ⟨gb280, 2, none⟩) (Kd.S_mono HO_10.out (fun k_ hk => (⟨hk, hk.1⟩ : _ ∧ k_ ≠ gb280))) (fun _ hk => hk.2) (.slice Ao35 t288.length co35)) (fun _ h_ => h_.1))) hb); replace HO_12 := Aside0.mk (Kd.R_below (by (with_reducible repeat (first | apply Kd.R_alloc | apply Kd.R_drewN | apply Kd.R_drew)); exact (Kd.R_mono (Kd.R_far (p := ⟨gb280, 2, none⟩) (Kd.R_types HO_12.out BK280.out (by decide)) (fun _ hk => hk.2) (.slice Ao35 t288.length co35)) (fun _ h_ => h_.1))) hb); replace HO291 := Aside0.mk (Kd.R_below (by (with_reducible repeat (first | apply Kd.R_alloc | apply Kd.R_drewN | apply Kd.R_drew)); exact (Kd.R_mono (Kd.R_far (p := ⟨gb280, 2, none⟩) (Kd.R_types HO291.out BK280.out (by decide)) (fun _ hk => hk.2) (.slice Ao35 t288.length co35)) (fun _ h_ => h_.1))) hb); replace BK280 := Aside0.mk (blk_below (g := gb280) (o := .cells #[.int .i32 t274, .int .u32 ((t277) % 4294967296), .slice Ao35 t288.length co35] 47 (0, 0)) (blk_put BK280.out 2 _ rfl) hb); replace HK := Aside0.mk (KeepBut.trans (by repeat (first | (with_reducible first | exact HK.out | apply KeepBut.set_ | apply keep_drewN | apply keep_drew | apply keep_alloc | refine keep_far ?_ GW280.out _) | exact HK.out)) (KeepBut.of_below hb g none) (.inl rfl)); replace HB := Aside0.mk (below_step (by repeat (first | (with_reducible first | exact HB.out | apply below_alloc | apply pw_below_drewN | apply below_drew1 | refine below_set ?_ (IsS122.ge HI0.out) | refine below_set ?_ GE280.out) | exact HB.out)) hb); replace HI0 := Aside0.mk (IsS122.below (show IsS122 w0 (w34.setCell ⟨gb280, 2, none⟩ (.slice Ao35 t288.length co35)) g x1000_2 x1001_2 from by repeat (first | (with_reducible first | exact HI0.out | apply IsS122.alloc | apply IsS122.drewN | apply IsS122.drew | apply IsS122.set_1 | refine IsS122.far ?_ NB0_280.out FB0_280.out _) | exact HI0.out)) hb); clear hb; have hz39 := bx3 BK280.out) | ((with_reducible refine gate_callee (f := 76) rfl ?_); refine gL 53 Try.func76 #[.agg #[.int .i32 t274, .int .u32 ((t277) % 4294967296), .slice Ao35 t288.length co35], .int .i64 a3] (h := ?_); (with_reducible refine (group_Right.calls k2 t274 ((t277) % 4294967296) _ _ t288 a3 t296 _ ?side1 ?side2 A32.out).mono ?_); (case side1 => with_reducible exact (Kd.R_reads' HO291.out).2.2); (case side2 => exact (Kd.R_reads' HO291.out).2.1); rintro e w40 ⟨rfl, hb⟩; refine ⟨_, rfl, ?_⟩; replace HO_10 := sst HO_10 hb; replace HO_12 := rst HO_12 hb; replace HO291 := rst HO291 hb; replace BK280 := kst BK280 hb; replace HI0 := Aside0.mk (IsS122.below HI0.out hb); replace HK := Aside0.mk (KeepBut.trans HK.out (KeepBut.of_below hb g none) (.inl rfl)); replace HB := bst HB hb; clear hb))
         go_ret2
         exact ⟨_, rfl, by first | exact Kd.S_nil _ _ _ _ _ | exact Kd.N_nil _ _ _ _ _ | exact Kd.V_nil _ _ _ _ _ | exact Kd.Q_nil _ _ _ _ _ | exact Kd.R_nil _ _ _ _ _, HI0.out, HB.out, HK.out⟩
       ·
        rw [if_neg c20] at H; have c20b0 : (t289 == 0) = false := beq_eq_false_iff_ne.mpr c20; have c20b1 : (t289 != 0) = true := bne_iff_ne.mpr c20; simp only [Option.some.injEq, Prod.mk.injEq] at H; obtain ⟨rfl, rfl, rfl, rfl⟩ := H; obtain ⟨Ao41, co41, eo41⟩ := Kd.R_slice HO_12.out; subst eo41
        go_wp2_with (first | ((with_reducible refine gate_callee (f := 75) rfl ?_); refine gL 39 Try.func75 #[.slice Ao41 x12_2.length co41, .int .i64 a2, .int .i64 a3] (h := ?_); (with_reducible refine (pack_Unpack.calls k2 _ _ x12_2 a2 a3 t288 t289 _ ?side1 ?side2 A19.out).mono ?_); (case side1 => with_reducible exact (Kd.R_reads' HO_12.out).2.2); (case side2 => exact (Kd.R_reads' HO_12.out).2.1); rintro e w42 ⟨v290, rfl, ho0, hb⟩; refine ⟨_, rfl, ?_⟩; replace HO_10 := Aside0.mk (Kd.S_elder' HO_10.out (Kd.R_base ho0) hb); replace HO_12 := rst HO_12 hb; have HO291 := Aside0.mk (Kd.R_lower ho0 (keep_size (w := w) (g := g) (row := none) HK.out)); replace BK280 := kst BK280 hb; replace HI0 := Aside0.mk (IsS122.below HI0.out hb); replace HK := Aside0.mk (KeepBut.trans HK.out (KeepBut.of_below hb g none) (.inl rfl)); replace HB := bst HB hb; clear hb ho0))
        go_ret2
        exact ⟨_, rfl, by first | exact Kd.S_nil _ _ _ _ _ | exact Kd.N_nil _ _ _ _ _ | exact Kd.V_nil _ _ _ _ _ | exact Kd.Q_nil _ _ _ _ _ | exact Kd.R_nil _ _ _ _ _, HI0.out, HB.out, HK.out⟩
   ·
    rw [if_neg c5] at H; have c5b0 : decide (x16_1 < a1) = false := decide_eq_false c5; clear c5; simp only [Option.some.injEq, Prod.mk.injEq] at H; obtain ⟨rfl, rfl, rfl, rfl⟩ := H
    go_wp2
    go_ret2
    exact ⟨_, rfl, HO_10.out, HI0.out, HB.out, HK.out⟩

end Go.Proofs.Ytekenaclmplocaa.PPageQuantizes
