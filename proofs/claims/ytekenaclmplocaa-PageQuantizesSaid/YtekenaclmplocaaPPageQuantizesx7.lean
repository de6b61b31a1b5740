-- Written by a program of this session (wip/tools/mkprint.py over the kit's print).
import Derived.Test.YtekenaclmplocaaPPageQuantizesx0
import Derived.Test.YtekenaclmplocaaPPageQuantizesx3
import Derived.Test.YtekenaclmplocaaPPageQuantizesx5
import Derived.Test.YtekenaclmplocaaPPageQuantizesx6
namespace Go.Proofs.Ytekenaclmplocaa.PPageQuantizes
open Go.RowKit Go.Proofs.YtekenaclmplocaaW.PrintWords Go.Proofs.YtekenaclmplocaaW.PrintLast Go.Proofs.YtekenaclmplocaaW.PrintMore
attribute [local go_sem] max2_int min2_int max_two min_two max_three min_three max_four min_four   -- for this text's walks alone
set_option linter.unusedVariables false
set_option linter.unusedSimpArgs false

/-! ### page_Quantize: function 13 -/
mutual
def page_Quantize.l0 : Nat → List (List Int) → List (List Int) → List (S47) → Int → Int → Int → Int → Int → Int → Int → Int → Int → Option ((List (S75)) × Int)
 | 0, _, _, _, _, _, _, _, _, _, _, _, _ => none
 | k + 1, x1, x2, x8, x40, x41, x164000, x164001, x164002, x164003, x164004, x164005, x164006 => if x41 < x40 then (page_Quantize.l1 k x1 x2 x8 x41 ([] : List Int) x40 x41 x1 (x1.length : Int) 0 x164000 x164001 x164002 x164003 x164004 x164005 x164006) else (page_Quantize.l2 k x8 ([] : List (S47)) x2 (x2.length : Int) 0 x164000 x164001 x164002 x164003 x164004 x164005 x164006)
def page_Quantize.l1 : Nat → List (List Int) → List (List Int) → List (S47) → Int → List Int → Int → Int → List (List Int) → Int → Int → Int → Int → Int → Int → Int → Int → Int → Option ((List (S75)) × Int)
 | 0, _, _, _, _, _, _, _, _, _, _, _, _, _, _, _, _, _ => none
 | k + 1, x1, x2, x8, x10, x11, x40, x41, x44, x45, x46, x164000, x164001, x164002, x164003, x164004, x164005, x164006 => if x46 < x45 then (if 0 ≤ x46 then (if x46 < (x44.length : Int) then (if 0 ≤ x10 then (if x10 < ((rd_L1 x44 x46).length : Int) then (if x11.length < 35184372088832 then (page_Quantize.l1 k x1 x2 x8 x10 (x11 ++ [rd (rd_L1 x44 x46) x10]) x40 x41 x44 x45 (wrap64 (x46 + 1)) x164000 x164001 x164002 x164003 x164004 x164005 x164006) else (none)) else (none)) else (none)) else (none)) else (none)) else ((group_Of.f k x11 x164000).bind fun bt172 => (if x8.length < 4398046511104 then (page_Quantize.l0 k x1 x2 (x8 ++ [(⟨bt172.1, bt172.2.1, bt172.2.2.1⟩ : S47)]) x40 (wrap64 (x41 + 1)) x164000 x164001 x164002 x164003 x164004 x164005 x164006) else (none)))
def page_Quantize.l2 : Nat → List (S47) → List (S47) → List (List Int) → Int → Int → Int → Int → Int → Int → Int → Int → Int → Option ((List (S75)) × Int)
 | 0, _, _, _, _, _, _, _, _, _, _, _, _ => none
 | k + 1, x8, x9, x70, x71, x72, x164000, x164001, x164002, x164003, x164004, x164005, x164006 => if x72 < x71 then (if 0 ≤ x72 then (if x72 < (x70.length : Int) then ((group_Of.f k (rd_L1 x70 x72) x164001).bind fun bt183 => (if x9.length < 4398046511104 then (page_Quantize.l2 k x8 (x9 ++ [(⟨bt183.1, bt183.2.1, bt183.2.2.1⟩ : S47)]) x70 x71 (wrap64 (x72 + 1)) x164000 x164001 x164002 x164003 x164004 x164005 x164006) else (none))) else (none)) else (none)) else ((page_New.f k x164000 x164001 x164002 x164003 x164004 x164005 x164006 x8 x9).bind fun bt193 => (some (bt193.1, bt193.2)))
end
def page_Quantize.f (k : Nat) (a0_0 : Int) (a0_1 : Int) (a0_2 : Int) (a0_3 : Int) (a0_4 : Int) (a0_5 : Int) (a0_6 : Int) (l1 : List (List Int)) (l2 : List (List Int)) : Option ((List (S75)) × Int) := (page_Right.f a0_0 a0_1 a0_2 a0_3 a0_4 a0_5 a0_6).bind fun t164 => (if t164 = true then ((page_numbers.f k l1 a0_2 a0_3).bind fun t165 => (if t165 = true then ((page_numbers.f k l2 a0_2 a0_3).bind fun t166 => (if t166 = true then (page_Quantize.l0 k l1 l2 ([] : List (S47)) a0_3 0 a0_0 a0_1 a0_2 a0_3 a0_4 a0_5 a0_6) else (some (([] : List (S75)), 25)))) else (some (([] : List (S75)), 25)))) else (some (([] : List (S75)), 11)))
theorem page_Quantize.mono_l : ∀ k, (∀ y0 y1 y2 y3 y4 y5 y6 y7 y8 y9 y10 y11, LeO (page_Quantize.l0 k y0 y1 y2 y3 y4 y5 y6 y7 y8 y9 y10 y11) (page_Quantize.l0 (k + 1) y0 y1 y2 y3 y4 y5 y6 y7 y8 y9 y10 y11)) ∧ (∀ y0 y1 y2 y3 y4 y5 y6 y7 y8 y9 y10 y11 y12 y13 y14 y15 y16, LeO (page_Quantize.l1 k y0 y1 y2 y3 y4 y5 y6 y7 y8 y9 y10 y11 y12 y13 y14 y15 y16) (page_Quantize.l1 (k + 1) y0 y1 y2 y3 y4 y5 y6 y7 y8 y9 y10 y11 y12 y13 y14 y15 y16)) ∧ (∀ y0 y1 y2 y3 y4 y5 y6 y7 y8 y9 y10 y11, LeO (page_Quantize.l2 k y0 y1 y2 y3 y4 y5 y6 y7 y8 y9 y10 y11) (page_Quantize.l2 (k + 1) y0 y1 y2 y3 y4 y5 y6 y7 y8 y9 y10 y11))
 | 0 => ⟨fun _ _ _ _ _ _ _ _ _ _ _ _ r h => by simp [page_Quantize.l0] at h, fun _ _ _ _ _ _ _ _ _ _ _ _ _ _ _ _ _ r h => by simp [page_Quantize.l1] at h, fun _ _ _ _ _ _ _ _ _ _ _ _ r h => by simp [page_Quantize.l2] at h⟩
 | k + 1 => by
  obtain ⟨ih0, ih1, ih2⟩ := page_Quantize.mono_l k
  refine ⟨?_, ?_, ?_⟩
  all_goals intros
  all_goals first | unfold page_Quantize.l0 | unfold page_Quantize.l1 | unfold page_Quantize.l2
  all_goals repeat' first
   | (with_reducible exact ih0 _ _ _ _ _ _ _ _ _ _ _ _)
   | (with_reducible exact ih1 _ _ _ _ _ _ _ _ _ _ _ _ _ _ _ _ _)
   | (with_reducible exact ih2 _ _ _ _ _ _ _ _ _ _ _ _)
   | (with_reducible exact group_Of.mono _ _ _)
   | (with_reducible exact page_New.mono _ _ _ _ _ _ _ _ _ _)
   | (with_reducible exact page_numbers.mono _ _ _ _)
   | (with_reducible exact LeO.refl _)
   | (with_reducible exact LeO.none _)
   | (with_reducible refine LeO.ite ?_ ?_)
   | (with_reducible refine LeO.bind ?_ (fun _ => ?_))
theorem page_Quantize.mono : ∀ a0 a1 a2 a3 a4 a5 a6 a7 a8 k, LeO (page_Quantize.f k a0 a1 a2 a3 a4 a5 a6 a7 a8) (page_Quantize.f (k + 1) a0 a1 a2 a3 a4 a5 a6 a7 a8) := by
 intro a0 a1 a2 a3 a4 a5 a6 a7 a8 k; obtain ⟨ih0, ih1, ih2⟩ := page_Quantize.mono_l k; unfold page_Quantize.f
 repeat' first
   | (with_reducible exact ih0 _ _ _ _ _ _ _ _ _ _ _ _)
   | (with_reducible exact ih1 _ _ _ _ _ _ _ _ _ _ _ _ _ _ _ _ _)
   | (with_reducible exact ih2 _ _ _ _ _ _ _ _ _ _ _ _)
   | (with_reducible exact group_Of.mono _ _ _)
   | (with_reducible exact page_New.mono _ _ _ _ _ _ _ _ _ _)
   | (with_reducible exact page_numbers.mono _ _ _ _)
   | (with_reducible exact LeO.refl _)
   | (with_reducible exact LeO.none _)
   | (with_reducible refine LeO.ite ?_ ?_)
   | (with_reducible refine LeO.bind ?_ (fun _ => ?_))
set_option maxHeartbeats 8000000 in
set_option maxRecDepth 100000 in
theorem page_Quantize.calls (k : Nat) (a0_0 : Int) (a0_1 : Int) (a0_2 : Int) (a0_3 : Int) (a0_4 : Int) (a0_5 : Int) (a0_6 : Int) (A1 : Option Addr) (c1 : Nat) (l1 : List (List Int)) (A2 : Option Addr) (c2 : Nat) (l2 : List (List Int)) (r1 : List (S75)) (r2 : Int) (w : World) (hr1 : Kd.C (Kd.slice 21 (Kd.int .i32)) w A1 l1.length l1) (hc1 : l1.length ≤ c1) (hr2 : Kd.C (Kd.slice 21 (Kd.int .i32)) w A2 l2.length l2) (hc2 : l2.length ≤ c2) (h : page_Quantize.f k a0_0 a0_1 a0_2 a0_3 a0_4 a0_5 a0_6 l1 l2 = some (r1, r2)) :
  Calls Try.prog 13 #[.agg #[.int .i64 a0_0, .int .i64 a0_1, .int .i64 a0_2, .int .i64 a0_3, .int .i64 a0_4, .int .i64 a0_5, .int .i64 a0_6], .slice A1 l1.length c1, .slice A2 l2.length c2] w fun e w' => ∃ v0_ : Value, e = .returned (.tuple #[asPtr v0_, .int .i64 r2]) ∧ Kd.R k75 75 w' w.heap.size (fun _ => True) v0_ r1 ∧ Below w.heap.size w w' := by
 have hu23 := Try.underlying23; have hu47 := Try.underlying47; have HR1 := Aside0.mk hr1; have HC1 := Aside0.mk hc1; clear hr1 hc1; have HR2 := Aside0.mk hr2; have HC2 := Aside0.mk hc2; clear hr2 hc2; have HB := Aside0.mk (Below.refl w.heap.size w); have H := h; clear h; unfold page_Quantize.f at H; obtain ⟨t164, A4, H⟩ := bnd H
 by_cases c5 : t164 = true
 ·
  subst c5; rw [if_pos rfl] at H; obtain ⟨t165, A6, H⟩ := bnd H
  by_cases c7 : t165 = true
  ·
   subst c7; rw [if_pos rfl] at H; obtain ⟨t166, A8, H⟩ := bnd H
   by_cases c9 : t166 = true
   ·
    subst c9; rw [if_pos rfl] at H; have H' := Aside0.mk H; clear H
    go_enter Try.func13, Try.ntmps13
    go_wp2_with (first | ((with_reducible refine gate_dst (N := 3) rfl ?_); refine bxE 3 #[.int .i64 a0_0, .int .i64 a0_1, .int .i64 a0_2, .int .i64 a0_3, .int .i64 a0_4, .int .i64 a0_5, .int .i64 a0_6] 23 (h := ?_); intro gb163 hg w10 hbox hb; have BK163 := Aside0.mk (hbox); have GW163 := gE hg HB; have GE163 := gE hg HB; replace HB := bst HB hb; clear hb hbox hg; have hz11 := bx7 BK163.out) | ((with_reducible refine gate_callee (f := 23) rfl ?_); refine gL 22 Try.func23 #[.agg #[.int .i64 a0_0, .int .i64 a0_1, .int .i64 a0_2, .int .i64 a0_3, .int .i64 a0_4, .int .i64 a0_5, .int .i64 a0_6]] (h := ?_); (with_reducible refine (page_Right.calls a0_0 a0_1 a0_2 a0_3 a0_4 a0_5 a0_6 true _ A4.out).mono ?_); rintro e w12 ⟨rfl, hb⟩; refine ⟨_, rfl, ?_⟩; replace BK163 := kst BK163 hb; replace HB := bst HB hb; clear hb; have hz13 := bx7 BK163.out) | ((with_reducible refine gate_callee (f := 33) rfl ?_); refine gL 30 Try.func33 #[.slice A1 l1.length c1, .int .i64 a0_2, .int .i64 a0_3] (h := ?_); (with_reducible refine (page_numbers.calls k _ _ l1 a0_2 a0_3 true _ ?side1 ?side2 A6.out).mono ?_); (case side1 => with_reducible exact (Kd.C_below HR1.out HB.out)); (case side2 => exact HC1.out); rintro e w' ⟨rfl, ⟨nd, rfl⟩⟩; refine ⟨_, rfl, ?_⟩) | ((with_reducible refine gate_callee (f := 33) rfl ?_); refine gL 37 Try.func33 #[.slice A2 l2.length c2, .int .i64 a0_2, .int .i64 a0_3] (h := ?_); (with_reducible refine (page_numbers.calls k _ _ l2 a0_2 a0_3 true _ ?side1 ?side2 A8.out).mono ?_); (case side1 => repeat (first | exact (Kd.C_below HR2.out bZ) | (with_reducible refine Kd.C_alloc ?_ _) | (with_reducible refine Kd.C_drewN ?_ _) | (with_reducible refine Kd.C_drew ?_))); (case side2 => exact HC2.out); rintro e w' ⟨rfl, ⟨nd, rfl⟩⟩; refine ⟨_, rfl, ?_⟩))
    go_loopg [8, 41] k (fun kq v8 v41 w' => ∃ (x8_1 : List (S47)) (x41_1 : Int), v41 = .int .i64 x41_1 ∧ Aside0 (page_Quantize.l0 kq l1 l2 x8_1 a0_3 x41_1 a0_0 a0_1 a0_2 a0_3 a0_4 a0_5 a0_6 = some (r1, r2)) ∧ Aside0 (kq ≤ k) ∧ Aside0 (Kd.S k47 47 w' w.heap.size (fun _ => True) v8 x8_1) ∧ Aside0 (w'.heap[gb163]? = some (.cells #[.int .i64 a0_0, .int .i64 a0_1, .int .i64 a0_2, .int .i64 a0_3, .int .i64 a0_4, .int .i64 a0_5, .int .i64 a0_6] 23 (0, 0))) ∧ Aside0 (Below w.heap.size w w'))
    case atStart => exact ⟨(([] : List (S47))), (0), rfl, H', ⟨Nat.le_refl _⟩, ⟨by first | exact Kd.S_nil _ _ _ _ _ | exact Kd.N_nil _ _ _ _ _ | exact Kd.V_nil _ _ _ _ _ | exact Kd.Q_nil _ _ _ _ _ | exact Kd.R_nil _ _ _ _ _⟩, ⟨by (with_reducible repeat (first | refine blk_drewN ?_ _ | refine blk_drew ?_ | refine blk_alloc ?_ _)); exact BK163.out⟩, ⟨bZ⟩⟩
    case round =>
     clear H'; (try clear c1); (try clear c2); (try clear p2); (try clear c3); (try clear c5); (try clear c7); (try clear c9); (try clear c13); (try clear hz11); (try clear hz13); obtain ⟨x8_1, x41_1, rfl, HA, HK1, HO_8, BK163, HB⟩ := hrel
     cases gk with
     | zero => exact absurd HA.out (by simp [page_Quantize.l0])
     | succ k1 =>
      have H := HA.out; clear HA; simp only [page_Quantize.l0] at H
      by_cases c14 : x41_1 < a0_3
      ·
       rw [if_pos c14] at H; have c14b0 : decide (x41_1 < a0_3) = true := decide_eq_true c14; clear c14; have H' := Aside0.mk H; clear H
       go_wp2
       go_loopg [11, 46] k1 (fun kq v11 v46 w' => ∃ (x11_2 : List Int) (x46_2 : Int), v46 = .int .i64 x46_2 ∧ Aside0 (page_Quantize.l1 kq l1 l2 x8_1 x41_1 x11_2 a0_3 x41_1 l1 (l1.length : Int) x46_2 a0_0 a0_1 a0_2 a0_3 a0_4 a0_5 a0_6 = some (r1, r2)) ∧ Aside0 (kq ≤ k1) ∧ Aside0 (Kd.S k47 47 w' w.heap.size (fun _ => True) u8 x8_1) ∧ Aside0 (Kd.R (Kd.int .i32) 21 w' w.heap.size (fun _ => True) v11 x11_2) ∧ Aside0 (w'.heap[gb163]? = some (.cells #[.int .i64 a0_0, .int .i64 a0_1, .int .i64 a0_2, .int .i64 a0_3, .int .i64 a0_4, .int .i64 a0_5, .int .i64 a0_6] 23 (0, 0))) ∧ Aside0 (Below w.heap.size w w'))
       case atStart => exact ⟨(([] : List Int)), (0), rfl, H', ⟨Nat.le_refl _⟩, HO_8, ⟨by first | exact Kd.R_nil _ _ _ _ _ | exact Kd.N_nil _ _ _ _ _ | exact Kd.V_nil _ _ _ _ _ | exact Kd.Q_nil _ _ _ _ _ | exact Kd.S_nil _ _ _ _ _⟩, BK163, HB⟩
       case round =>
        clear H'; (try clear c1); (try clear c2); (try clear p2); (try clear c3); (try clear c5); (try clear c7); (try clear c9); (try clear c13); (try clear c14); (try clear c14b0); (try clear hz11); (try clear hz13); (try clear p2); obtain ⟨x11_2, x46_2, rfl, HA, HK2, HO_8, HO_11, BK163, HB⟩ := hrel
        cases gk with
        | zero => exact absurd HA.out (by simp [page_Quantize.l1])
        | succ k2 =>
         have H := HA.out; clear HA; simp only [page_Quantize.l1] at H
         by_cases c15 : x46_2 < (l1.length : Int)
         ·
          rw [if_pos c15] at H; have c15b0 : decide (x46_2 < (l1.length : Int)) = true := decide_eq_true c15; clear c15; obtain ⟨c16, H⟩ := ifp H; have c16b0 : decide (0 ≤ x46_2) = true := decide_eq_true c16; clear c16; obtain ⟨c17, H⟩ := ifp H; have c17b0 : decide (x46_2 < (l1.length : Int)) = true := decide_eq_true c17; clear c17; obtain ⟨c18, H⟩ := ifp H; have c18b0 : decide (0 ≤ x41_1) = true := decide_eq_true c18; clear c18; obtain ⟨c19, H⟩ := ifp H; have c19b0 : decide (x41_1 < ((rd_L1 l1 x46_2).length : Int)) = true := decide_eq_true c19; clear c19; obtain ⟨c20, H⟩ := ifp H; have LMc20 := Aside0.mk c20; clear c20; obtain ⟨y169, hy169⟩ : ∃ y_ : List Int, y_ = (x11_2 ++ [rd (rd_L1 l1 x46_2) x41_1]) := ⟨_, rfl⟩; (replace H : (page_Quantize.l1 k2 l1 l2 x8_1 x41_1 y169 a0_3 x41_1 l1 (l1.length : Int) (wrap64 (x46_2 + 1)) a0_0 a0_1 a0_2 a0_3 a0_4 a0_5 a0_6) = some (r1, r2) := by rw [hy169]; exact H); have Ny169 := Aside0.mk hy169; clear hy169; have H' := Aside0.mk H; clear H; have p167 : 0 ≤ (x46_2 : Int) := oD; have q167 : x46_2 < (l1.length : Int) := oD; obtain ⟨ad167, A167_0, c167_0, e167, hx167_0, hl167_0, hi167_0⟩ := at_L1 HR1.out x46_2 p167 q167
          cases e167
          replace hx167_0 := cU HB hx167_0; have HR167_0 := Aside0.mk hi167_0; have HC167_0 := Aside0.mk hl167_0; clear hi167_0 hl167_0; replace p167 := eq_true p167; replace q167 := eq_true q167; have p168 : 0 ≤ (x41_1 : Int) := oD; have q168 : x41_1 < ((rd_L1 l1 x46_2).length : Int) := oD; obtain ⟨ad168, e168, hx168_0⟩ := Kd.at_int HR167_0.out x41_1 p168 q168
          cases e168
          replace hx168_0 := cU HB hx168_0; replace p168 := eq_true p168; replace q168 := eq_true q168
          go_wp2_with (first | ((with_reducible refine gate_builtin (b := .append) (xs := #[.tmp 50, .tmp 55]) rfl ?_); at_builtin; refine Kd.R_append (Kd.int .i32) (w0 := w) w.heap.size rfl (.tmp 50) (.tmp 55) 43 21 (.int .i32 0) 4 rfl Try.underlying43 info21 rfl (by decide) (by omega) u11 x11_2 (rd (rd_L1 l1 x46_2) x41_1) [.int .i32 (rd (rd_L1 l1 x46_2) x41_1)] (fun _ => True) (fun _ => False) rfl rfl ?aP (fun _ hk => hk.elim) ?aF ?aO ?aB ?aS ?aL ?_; (case aP => exact rfl); (case aB => exact HB.out); (case aF => exact (fun _ _ => trivial)); (case aO => exact HO_11.out); (case aS => exact (bsz HB)); (case aL => have := LMc20.out; omega); intro v170 w21 ho hb hg hat; rw [← Ny169.out] at ho; have n0_ := Aside0.mk (Kd.S_over' HO_8.out (Kd.R_typed HO_11.out) (by decide) hg); have n1_ := Aside0.mk (blk_grown (g := gb163) (o := .cells #[.int .i64 a0_0, .int .i64 a0_1, .int .i64 a0_2, .int .i64 a0_3, .int .i64 a0_4, .int .i64 a0_5, .int .i64 a0_6] 23 (0, 0)) BK163.out hg (Kd.R_ne HO_11.out BK163.out (by decide))); have n2_ := Aside0.mk (hb); have n3_ := Aside0.mk (ho); clear HO_8; clear BK163; clear HB; clear HO_11; have HO_8 := n0_; have BK163 := n1_; have HB := n2_; have HO171 := n3_; clear n0_ n1_ n2_ n3_; clear ho hb hg hat))
          go_roundg k2
          case measure => have := HK1.out; have := HK2.out; omega
          case rel => exact ⟨(y169), (wrap64 (x46_2 + 1)), rfl, H', ⟨by have := HK1.out; have := HK2.out; omega⟩, HO_8, HO171, BK163, HB⟩
         ·
          rw [if_neg c15] at H; have c15b0 : decide (x46_2 < (l1.length : Int)) = false := decide_eq_false c15; clear c15; obtain ⟨⟨t172, t173, t174, t177⟩, A22, H⟩ := bnd H
          try dsimp only at H
          obtain ⟨c23, H⟩ := ifp H; have LMc23 := Aside0.mk c23; clear c23; obtain ⟨y179, hy179⟩ : ∃ y_ : List (S47), y_ = (x8_1 ++ [(⟨t172, t173, t174⟩ : S47)]) := ⟨_, rfl⟩; (replace H : (page_Quantize.l0 k2 l1 l2 y179 a0_3 (wrap64 (x41_1 + 1)) a0_0 a0_1 a0_2 a0_3 a0_4 a0_5 a0_6) = some (r1, r2) := by rw [hy179]; exact H); have Ny179 := Aside0.mk hy179; clear hy179; have H' := Aside0.mk H; clear H; have hz24 := bx7 BK163.out; obtain ⟨Ao25, co25, eo25⟩ := Kd.R_slice HO_11.out; subst eo25
          go_wp2_with (first | ((with_reducible refine gate_callee (f := 34) rfl ?_); refine gL 62 Try.func34 #[.slice Ao25 x11_2.length co25, .int .i64 a0_0] (h := ?_); (with_reducible refine (group_Of.calls k2 _ _ x11_2 a0_0 t172 t173 t174 t177 _ ?side1 ?side2 A22.out).mono ?_); (case side1 => with_reducible exact (Kd.R_reads' HO_11.out).2.2); (case side2 => exact (Kd.R_reads' HO_11.out).2.1); rintro e w26 ⟨v175, rfl, ho0, hb⟩; refine ⟨_, rfl, ?_⟩; replace HO_8 := Aside0.mk (Kd.S_elder' HO_8.out (Kd.R_base ho0) hb); replace HO_11 := rst HO_11 hb; have HO176 := Aside0.mk (Kd.R_lower ho0 (bsz HB)); replace BK163 := kst BK163 hb; replace HB := bst HB hb; clear hb ho0) | ((with_reducible refine gate_dst (N := 14) rfl ?_); refine bxE 14 #[.int .i32 0, .int .u32 0, .slice none 0 0] 47 (h := ?_); intro gb178 hg w27 hbox hb; replace HO_8 := Aside0.mk (Kd.S_below (Kd.S_elderB HO_8.out gb178 (Nat.le_of_eq hg.symm)) hb); replace HO_11 := rst HO_11 hb; replace HO176 := rst HO176 hb; have BK178 := Aside0.mk (hbox); have GW178 := gE hg HB; have GE178 := gE hg HB; replace HB := bst HB hb; have NB163_178 := Aside0.mk ((by rw [hg]; exact Nat.ne_of_lt (blk_lt (g := gb163) (o := .cells #[.int .i64 a0_0, .int .i64 a0_1, .int .i64 a0_2, .int .i64 a0_3, .int .i64 a0_4, .int .i64 a0_5, .int .i64 a0_6] 23 (0, 0)) BK163.out) : gb163 ≠ gb178)); have NB178_163 := Aside0.mk ((by rw [hg]; exact Nat.ne_of_gt (blk_lt (g := gb163) (o := .cells #[.int .i64 a0_0, .int .i64 a0_1, .int .i64 a0_2, .int .i64 a0_3, .int .i64 a0_4, .int .i64 a0_5, .int .i64 a0_6] 23 (0, 0)) BK163.out) : gb178 ≠ gb163)); replace BK163 := kst BK163 hb; clear hb hbox hg; have hnb28 := NB178_163.out; have hnc28 := NB163_178.out; have hz29 := bx3 BK178.out; obtain ⟨Ao30, co30, eo30⟩ := Kd.R_slice HO176.out; subst eo30) | ((with_reducible refine gate_store (t := 47) (p := 14) rfl ?_); refine store_event (t := 47) (p := 14) (v := ?vo_w31) (w1 := (((w27.setCell ⟨gb178, 0, none⟩ (.int .i32 t172)).setCell ⟨gb178, 1, none⟩ (.int .u32 t173)).setCell ⟨gb178, 2, none⟩ (.slice Ao30 t174.length co30))) ?hg ?ho ?hn ?hr ?_; (case ho => rfl); (case hg => rfl); (case hn => rfl); (case hr => first | (go_simp; done) | (go_simp; rfl)); intro w31 hw; have n0_ : Aside0 (Kd.S k47 47 w31 w.heap.size (fun k_ => some k_ ≠ (.slice Ao30 t174.length co30 : Value).ownBlock ∧ k_ ≠ gb178) u8 x8_1) := ⟨(by rw [hw]; exact (by (with_reducible repeat (first | apply Kd.S_alloc | apply Kd.S_drewN | apply Kd.S_drew)); exact Kd.S_mono (Kd.S_far (p := ⟨gb178, 2, none⟩) (Kd.S_far (p := ⟨gb178, 1, none⟩) (Kd.S_far (p := ⟨gb178, 0, none⟩) (Kd.S_mono HO_8.out (fun k_ hk => (⟨hk, hk.2⟩ : _ ∧ k_ ≠ gb178))) (fun _ hk => hk.2) (.int .i32 t172)) (fun _ hk => hk.2) (.int .u32 t173)) (fun _ hk => hk.2) (.slice Ao30 t174.length co30)) (fun _ hk => ⟨hk.1.1.2, hk.1.2⟩)))⟩; have n1_ : Aside0 (Kd.R (Kd.int .i32) 21 w31 w.heap.size (fun _ => True) (.slice Ao25 x11_2.length co25) x11_2) := ⟨(by rw [hw]; exact (by (with_reducible repeat (first | apply Kd.R_alloc | apply Kd.R_drewN | apply Kd.R_drew)); exact Kd.R_mono (Kd.R_far (p := ⟨gb178, 2, none⟩) (Kd.R_far (p := ⟨gb178, 1, none⟩) (Kd.R_far (p := ⟨gb178, 0, none⟩) (Kd.R_types HO_11.out BK178.out (by decide)) (fun _ hk => hk.2) (.int .i32 t172)) (fun _ hk => hk.2) (.int .u32 t173)) (fun _ hk => hk.2) (.slice Ao30 t174.length co30)) (fun _ hk => trivial)))⟩; have n2_ : Aside0 (Kd.R (Kd.int .i64) 3 w31 w.heap.size (fun _ => True) (.slice Ao30 t174.length co30) t174) := ⟨(by rw [hw]; exact (by (with_reducible repeat (first | apply Kd.R_alloc | apply Kd.R_drewN | apply Kd.R_drew)); exact Kd.R_mono (Kd.R_far (p := ⟨gb178, 2, none⟩) (Kd.R_far (p := ⟨gb178, 1, none⟩) (Kd.R_far (p := ⟨gb178, 0, none⟩) (Kd.R_types HO176.out BK178.out (by decide)) (fun _ hk => hk.2) (.int .i32 t172)) (fun _ hk => hk.2) (.int .u32 t173)) (fun _ hk => hk.2) (.slice Ao30 t174.length co30)) (fun _ hk => trivial)))⟩; have n3_ : Aside0 (w31.heap[gb163]? = some (.cells #[.int .i64 a0_0, .int .i64 a0_1, .int .i64 a0_2, .int .i64 a0_3, .int .i64 a0_4, .int .i64 a0_5, .int .i64 a0_6] 23 (0, 0))) := ⟨(by rw [hw]; exact (by (with_reducible repeat (first | refine blk_drewN ?_ _ | refine blk_drew ?_ | refine blk_alloc ?_ _)); refine blk_far ?_ NB163_178.out _; (with_reducible repeat (first | refine blk_drewN ?_ _ | refine blk_drew ?_ | refine blk_alloc ?_ _)); refine blk_far ?_ NB163_178.out _; (with_reducible repeat (first | refine blk_drewN ?_ _ | refine blk_drew ?_ | refine blk_alloc ?_ _)); refine blk_far ?_ NB163_178.out _; (with_reducible repeat (first | refine blk_drewN ?_ _ | refine blk_drew ?_ | refine blk_alloc ?_ _)); exact BK163.out))⟩; have n4_ : Aside0 (w31.heap[gb178]? = some (.cells #[.int .i32 t172, .int .u32 t173, .slice Ao30 t174.length co30] 47 (0, 0))) := ⟨(by rw [hw]; exact (blk_put (blk_put (blk_put BK178.out 0 _ rfl) 1 _ rfl) 2 _ rfl))⟩; have n5_ : Aside0 (Below w.heap.size w w31) := ⟨(by rw [hw]; exact bZ)⟩; clear hw; clear HO_8; clear HO_11; clear HO176; clear BK163; clear BK178; clear HB; have HO_8 := n0_; have HO_11 := n1_; have HO176 := n2_; have BK163 := n3_; have BK178 := n4_; have HB := n5_; clear n0_ n1_ n2_ n3_ n4_ n5_; have hz32 := bx3 BK178.out) | ((with_reducible refine gate_builtin (b := .append) (xs := #[.tmp 65, .tmp 67]) rfl ?_); at_builtin; refine Kd.S_append k47 (w0 := w) w.heap.size rfl (.tmp 65) (.tmp 67) 40 47 (.agg #[(.int .i32 0), (.int .u32 0), (.slice none 0 0)]) 32 rfl Try.underlying40 info47 rfl (by decide) (by omega) u8 x8_1 (⟨t172, t173, t174⟩ : S47) [.int .i32 t172, .int .u32 t173, .slice Ao30 t174.length co30] (fun k_ => k_ ≠ gb178) (fun k_ => some k_ = (.slice Ao30 t174.length co30 : Value).ownBlock) rfl rfl ?aP (fun k_ hk_ => ((Kd.R_mono (ok' := fun k_ => ((fun k_ => k_ ≠ gb178)) k_ ∧ some k_ ≠ (u8 : Value).ownBlock) (Kd.R_types (Kd.R_apart' (HO176.out) (Kd.S_typed HO_8.out) (by decide)) BK178.out (by decide)) (fun k_ hk => ⟨hk.2, hk.1.2⟩))).1 k_ hk_.symm) ?aF ?aO ?aB ?aS ?aL ?_; (case aP => exact k47_mkM _ _ _ (⟨t172, t173, t174⟩ : S47) (Kd.R_mono (Kd.R_tight rfl (Kd.R_mono (ok' := fun k_ => ((fun k_ => k_ ≠ gb178)) k_ ∧ some k_ ≠ (u8 : Value).ownBlock) (Kd.R_types (Kd.R_apart' (HO176.out) (Kd.S_typed HO_8.out) (by decide)) BK178.out (by decide)) (fun k_ hk => ⟨hk.2, hk.1.2⟩))) (fun _ h_ => h_))); (case aB => exact HB.out); (case aF => exact (fun k_ hk => Kd.freshB (g := gb178) (o := .cells #[.int .i32 t172, .int .u32 t173, .slice Ao30 t174.length co30] 47 (0, 0)) BK178.out k_ hk)); (case aO => exact (by (with_reducible repeat (first | apply Kd.S_alloc | apply Kd.S_drewN | apply Kd.S_drew)); exact Kd.S_mono HO_8.out (fun k_ hk => ⟨hk.2, fun e_ => hk.1 e_⟩))); (case aS => exact (bsz HB)); (case aL => have := LMc23.out; omega); intro v180 w33 ho hb hg hat; rw [← Ny179.out] at ho; have n0_ := Aside0.mk (Kd.R_over' HO_11.out (Kd.S_typed HO_8.out) (by decide) hg); have n1_ := Aside0.mk (blk_grown (g := gb163) (o := .cells #[.int .i64 a0_0, .int .i64 a0_1, .int .i64 a0_2, .int .i64 a0_3, .int .i64 a0_4, .int .i64 a0_5, .int .i64 a0_6] 23 (0, 0)) BK163.out hg (Kd.S_ne HO_8.out BK163.out (by decide))); have n2_ := Aside0.mk (blk_grown (g := gb178) (o := .cells #[.int .i32 t172, .int .u32 t173, .slice Ao30 t174.length co30] 47 (0, 0)) BK178.out hg (Kd.S_away HO_8.out (fun _ hk => hk.2))); have n3_ := Aside0.mk (hb); have n4_ := Aside0.mk (ho); clear HO_11; clear BK163; clear BK178; clear HB; clear HO_8; clear HO176; have HO_11 := n0_; have BK163 := n1_; have BK178 := n2_; have HB := n3_; have HO181 := n4_; clear n0_ n1_ n2_ n3_ n4_; clear ho hb hg hat))
          go_roundg k2
          case measure => have := HK1.out; have := HK2.out; omega
          case rel => exact ⟨(y179), (wrap64 (x41_1 + 1)), rfl, H', ⟨by have := HK1.out; have := HK2.out; omega⟩, ⟨by exact Kd.S_mono HO181.out (fun _ hk => trivial)⟩, BK163, HB⟩
      ·
       rw [if_neg c14] at H; have c14b0 : decide (x41_1 < a0_3) = false := decide_eq_false c14; clear c14; have H' := Aside0.mk H; clear H
       go_wp2
       go_loopg [9, 72] k1 (fun kq v9 v72 w' => ∃ (x9_2 : List (S47)) (x72_2 : Int), v72 = .int .i64 x72_2 ∧ Aside0 (page_Quantize.l2 kq x8_1 x9_2 l2 (l2.length : Int) x72_2 a0_0 a0_1 a0_2 a0_3 a0_4 a0_5 a0_6 = some (r1, r2)) ∧ Aside0 (kq ≤ k1) ∧ Aside0 (Kd.S k47 47 w' w.heap.size (fun k_ => some k_ ≠ (v9 : Value).ownBlock) u8 x8_1) ∧ Aside0 (Kd.S k47 47 w' w.heap.size (fun k_ => some k_ ≠ (u8 : Value).ownBlock) v9 x9_2) ∧ Aside0 (w'.heap[gb163]? = some (.cells #[.int .i64 a0_0, .int .i64 a0_1, .int .i64 a0_2, .int .i64 a0_3, .int .i64 a0_4, .int .i64 a0_5, .int .i64 a0_6] 23 (0, 0))) ∧ Aside0 (Below w.heap.size w w'))
       case atStart => exact ⟨(([] : List (S47))), (0), rfl, H', ⟨Nat.le_refl _⟩, ⟨by exact Kd.S_mono HO_8.out (fun _ hk => (by simp [Value.ownBlock]))⟩, ⟨by first | exact Kd.S_nil _ _ _ _ _ | exact Kd.N_nil _ _ _ _ _ | exact Kd.V_nil _ _ _ _ _ | exact Kd.Q_nil _ _ _ _ _ | exact Kd.R_nil _ _ _ _ _⟩, BK163, HB⟩
       case round =>
        clear H'; (try clear c1); (try clear p1); (try clear q1); (try clear hx1); (try clear c2); (try clear p2); (try clear c3); (try clear c5); (try clear p6); (try clear c7); (try clear c9); (try clear c13); (try clear c14); (try clear c14b0); (try clear c15); (try clear c15b0); (try clear c16); (try clear c16b0); (try clear p16); (try clear q16); (try clear hx16); (try clear c17); (try clear c17b0); (try clear c18); (try clear c18b0); (try clear c19); (try clear c19b0); (try clear c20); (try clear c23); (try clear c28); (try clear c33); (try clear hz11); (try clear hz13); (try clear hz24); (try clear hz29); (try clear hz32); (try clear hx167_0); (try clear hx168_0); (try clear p167); (try clear p168); (try clear p2); (try clear q167); (try clear q168); obtain ⟨x9_2, x72_2, rfl, HA, HK2, HO_8, HO_9, BK163, HB⟩ := hrel
        cases gk with
        | zero => exact absurd HA.out (by simp [page_Quantize.l2])
        | succ k2 =>
         have H := HA.out; clear HA; simp only [page_Quantize.l2] at H
         by_cases c34 : x72_2 < (l2.length : Int)
         ·
          rw [if_pos c34] at H; have c34b0 : decide (x72_2 < (l2.length : Int)) = true := decide_eq_true c34; clear c34; obtain ⟨c35, H⟩ := ifp H; have c35b0 : decide (0 ≤ x72_2) = true := decide_eq_true c35; clear c35; obtain ⟨c36, H⟩ := ifp H; have c36b0 : decide (x72_2 < (l2.length : Int)) = true := decide_eq_true c36; clear c36; obtain ⟨⟨t183, t184, t185, t188⟩, A37, H⟩ := bnd H
          try dsimp only at H
          obtain ⟨c38, H⟩ := ifp H; have LMc38 := Aside0.mk c38; clear c38; obtain ⟨y190, hy190⟩ : ∃ y_ : List (S47), y_ = (x9_2 ++ [(⟨t183, t184, t185⟩ : S47)]) := ⟨_, rfl⟩; (replace H : (page_Quantize.l2 k2 x8_1 y190 l2 (l2.length : Int) (wrap64 (x72_2 + 1)) a0_0 a0_1 a0_2 a0_3 a0_4 a0_5 a0_6) = some (r1, r2) := by rw [hy190]; exact H); have Ny190 := Aside0.mk hy190; clear hy190; have H' := Aside0.mk H; clear H; have p182 : 0 ≤ (x72_2 : Int) := oD; have q182 : x72_2 < (l2.length : Int) := oD; obtain ⟨ad182, A182_0, c182_0, e182, hx182_0, hl182_0, hi182_0⟩ := at_L1 HR2.out x72_2 p182 q182
          cases e182
          replace hx182_0 := cU HB hx182_0; have HR182_0 := Aside0.mk hi182_0; have HC182_0 := Aside0.mk hl182_0; clear hi182_0 hl182_0; replace p182 := eq_true p182; replace q182 := eq_true q182; have hz39 := bx7 BK163.out
          go_wp2_with (first | ((with_reducible refine gate_callee (f := 34) rfl ?_); refine gL 80 Try.func34 #[.slice A182_0 (rd_L1 l2 x72_2).length c182_0, .int .i64 a0_1] (h := ?_); (with_reducible refine (group_Of.calls k2 _ _ (rd_L1 l2 x72_2) a0_1 t183 t184 t185 t188 _ ?side1 ?side2 A37.out).mono ?_); (case side1 => with_reducible exact (Kd.C_below HR182_0.out HB.out)); (case side2 => exact HC182_0.out); rintro e w40 ⟨v186, rfl, ho0, hb⟩; refine ⟨_, rfl, ?_⟩; replace HO_8 := Aside0.mk (Kd.S_elder' HO_8.out (Kd.R_base ho0) hb); replace HO_9 := Aside0.mk (Kd.S_elder' HO_9.out (Kd.R_base ho0) hb); have HO187 := Aside0.mk (Kd.R_lower ho0 (bsz HB)); replace BK163 := kst BK163 hb; replace HB := bst HB hb; clear hb ho0) | ((with_reducible refine gate_dst (N := 18) rfl ?_); refine bxE 18 #[.int .i32 0, .int .u32 0, .slice none 0 0] 47 (h := ?_); intro gb189 hg w41 hbox hb; replace HO_8 := Aside0.mk (Kd.S_below (Kd.S_elderB HO_8.out gb189 (Nat.le_of_eq hg.symm)) hb); replace HO_9 := Aside0.mk (Kd.S_below (Kd.S_elderB HO_9.out gb189 (Nat.le_of_eq hg.symm)) hb); replace HO187 := rst HO187 hb; have BK189 := Aside0.mk (hbox); have GW189 := gE hg HB; have GE189 := gE hg HB; replace HB := bst HB hb; have NB163_189 := Aside0.mk ((by rw [hg]; exact Nat.ne_of_lt (blk_lt (g := gb163) (o := .cells #[.int .i64 a0_0, .int .i64 a0_1, .int .i64 a0_2, .int .i64 a0_3, .int .i64 a0_4, .int .i64 a0_5, .int .i64 a0_6] 23 (0, 0)) BK163.out) : gb163 ≠ gb189)); have NB189_163 := Aside0.mk ((by rw [hg]; exact Nat.ne_of_gt (blk_lt (g := gb163) (o := .cells #[.int .i64 a0_0, .int .i64 a0_1, .int .i64 a0_2, .int .i64 a0_3, .int .i64 a0_4, .int .i64 a0_5, .int .i64 a0_6] 23 (0, 0)) BK163.out) : gb189 ≠ gb163)); replace BK163 := kst BK163 hb; clear hb hbox hg; have hnb42 := NB189_163.out; have hnc42 := NB163_189.out; have hz43 := bx3 BK189.out; obtain ⟨Ao44, co44, eo44⟩ := Kd.R_slice HO187.out; subst eo44) | ((with_reducible refine gate_store (t := 47) (p := 18) rfl ?_); refine store_event (t := 47) (p := 18) (v := ?vo_w45) (w1 := (((w41.setCell ⟨gb189, 0, none⟩ (.int .i32 t183)).setCell ⟨gb189, 1, none⟩ (.int .u32 t184)).setCell ⟨gb189, 2, none⟩ (.slice Ao44 t185.length co44))) ?hg ?ho ?hn ?hr ?_; (case ho => rfl); (case hg => rfl); (case hn => rfl); (case hr => first | (go_simp; done) | (go_simp; rfl)); intro w45 hw; have n0_ : Aside0 (Kd.S k47 47 w45 w.heap.size (fun k_ => some k_ ≠ (u9 : Value).ownBlock ∧ some k_ ≠ (.slice Ao44 t185.length co44 : Value).ownBlock ∧ k_ ≠ gb189) u8 x8_1) := ⟨(by rw [hw]; exact (by (with_reducible repeat (first | apply Kd.S_alloc | apply Kd.S_drewN | apply Kd.S_drew)); exact Kd.S_mono (Kd.S_far (p := ⟨gb189, 2, none⟩) (Kd.S_far (p := ⟨gb189, 1, none⟩) (Kd.S_far (p := ⟨gb189, 0, none⟩) (Kd.S_mono HO_8.out (fun k_ hk => (⟨hk, hk.2⟩ : _ ∧ k_ ≠ gb189))) (fun _ hk => hk.2) (.int .i32 t183)) (fun _ hk => hk.2) (.int .u32 t184)) (fun _ hk => hk.2) (.slice Ao44 t185.length co44)) (fun _ hk => ⟨hk.1.1.1, ⟨hk.1.1.2, hk.1.2⟩⟩)))⟩; have n1_ : Aside0 (Kd.S k47 47 w45 w.heap.size (fun k_ => some k_ ≠ (u8 : Value).ownBlock ∧ some k_ ≠ (.slice Ao44 t185.length co44 : Value).ownBlock ∧ k_ ≠ gb189) u9 x9_2) := ⟨(by rw [hw]; exact (by (with_reducible repeat (first | apply Kd.S_alloc | apply Kd.S_drewN | apply Kd.S_drew)); exact Kd.S_mono (Kd.S_far (p := ⟨gb189, 2, none⟩) (Kd.S_far (p := ⟨gb189, 1, none⟩) (Kd.S_far (p := ⟨gb189, 0, none⟩) (Kd.S_mono HO_9.out (fun k_ hk => (⟨hk, hk.2⟩ : _ ∧ k_ ≠ gb189))) (fun _ hk => hk.2) (.int .i32 t183)) (fun _ hk => hk.2) (.int .u32 t184)) (fun _ hk => hk.2) (.slice Ao44 t185.length co44)) (fun _ hk => ⟨hk.1.1.1, ⟨hk.1.1.2, hk.1.2⟩⟩)))⟩; have n2_ : Aside0 (Kd.R (Kd.int .i64) 3 w45 w.heap.size (fun _ => True) (.slice Ao44 t185.length co44) t185) := ⟨(by rw [hw]; exact (by (with_reducible repeat (first | apply Kd.R_alloc | apply Kd.R_drewN | apply Kd.R_drew)); exact Kd.R_mono (Kd.R_far (p := ⟨gb189, 2, none⟩) (Kd.R_far (p := ⟨gb189, 1, none⟩) (Kd.R_far (p := ⟨gb189, 0, none⟩) (Kd.R_types HO187.out BK189.out (by decide)) (fun _ hk => hk.2) (.int .i32 t183)) (fun _ hk => hk.2) (.int .u32 t184)) (fun _ hk => hk.2) (.slice Ao44 t185.length co44)) (fun _ hk => trivial)))⟩; have n3_ : Aside0 (w45.heap[gb163]? = some (.cells #[.int .i64 a0_0, .int .i64 a0_1, .int .i64 a0_2, .int .i64 a0_3, .int .i64 a0_4, .int .i64 a0_5, .int .i64 a0_6] 23 (0, 0))) := ⟨(by rw [hw]; exact (by (with_reducible repeat (first | refine blk_drewN ?_ _ | refine blk_drew ?_ | refine blk_alloc ?_ _)); refine blk_far ?_ NB163_189.out _; (with_reducible repeat (first | refine blk_drewN ?_ _ | refine blk_drew ?_ | refine blk_alloc ?_ _)); refine blk_far ?_ NB163_189.out _; (with_reducible repeat (first | refine blk_drewN ?_ _ | refine blk_drew ?_ | refine blk_alloc ?_ _)); refine blk_far ?_ NB163_189.out _; (with_reducible repeat (first | refine blk_drewN ?_ _ | refine blk_drew ?_ | refine blk_alloc ?_ _)); exact BK163.out))⟩; have n4_ : Aside0 (w45.heap[gb189]? = some (.cells #[.int .i32 t183, .int .u32 t184, .slice Ao44 t185.length co44] 47 (0, 0))) := ⟨(by rw [hw]; exact (blk_put (blk_put (blk_put BK189.out 0 _ rfl) 1 _ rfl) 2 _ rfl))⟩; have n5_ : Aside0 (Below w.heap.size w w45) := ⟨(by rw [hw]; exact bZ)⟩; clear hw; clear HO_8; clear HO_9; clear HO187; clear BK163; clear BK189; clear HB; have HO_8 := n0_; have HO_9 := n1_; have HO187 := n2_; have BK163 := n3_; have BK189 := n4_; have HB := n5_; clear n0_ n1_ n2_ n3_ n4_ n5_; have hz46 := bx3 BK189.out) | ((with_reducible refine gate_builtin (b := .append) (xs := #[.tmp 83, .tmp 85]) rfl ?_); at_builtin; refine Kd.S_append k47 (w0 := w) w.heap.size rfl (.tmp 83) (.tmp 85) 40 47 (.agg #[(.int .i32 0), (.int .u32 0), (.slice none 0 0)]) 32 rfl Try.underlying40 info47 rfl (by decide) (by omega) u9 x9_2 (⟨t183, t184, t185⟩ : S47) [.int .i32 t183, .int .u32 t184, .slice Ao44 t185.length co44] (fun k_ => some k_ ≠ (u8 : Value).ownBlock ∧ k_ ≠ gb189) (fun k_ => some k_ = (.slice Ao44 t185.length co44 : Value).ownBlock) rfl rfl ?aP (fun k_ hk_ => ((Kd.R_mono (ok' := fun k_ => ((fun k_ => some k_ ≠ (u8 : Value).ownBlock ∧ k_ ≠ gb189)) k_ ∧ some k_ ≠ (u9 : Value).ownBlock) (Kd.R_types (Kd.R_apart' (Kd.R_apart' (HO187.out) (Kd.S_typed HO_8.out) (by decide)) (Kd.S_typed HO_9.out) (by decide)) BK189.out (by decide)) (fun k_ hk => ⟨⟨hk.1.1.2, hk.2⟩, hk.1.2⟩))).1 k_ hk_.symm) ?aF ?aO ?aB ?aS ?aL ?_; (case aP => exact k47_mkM _ _ _ (⟨t183, t184, t185⟩ : S47) (Kd.R_mono (Kd.R_tight rfl (Kd.R_mono (ok' := fun k_ => ((fun k_ => some k_ ≠ (u8 : Value).ownBlock ∧ k_ ≠ gb189)) k_ ∧ some k_ ≠ (u9 : Value).ownBlock) (Kd.R_types (Kd.R_apart' (Kd.R_apart' (HO187.out) (Kd.S_typed HO_8.out) (by decide)) (Kd.S_typed HO_9.out) (by decide)) BK189.out (by decide)) (fun k_ hk => ⟨⟨hk.1.1.2, hk.2⟩, hk.1.2⟩))) (fun _ h_ => h_))); (case aB => exact HB.out); (case aF => exact (fun k_ hk => ⟨Kd.fresh' (Kd.S_lt HO_8.out) k_ hk, Kd.freshB (g := gb189) (o := .cells #[.int .i32 t183, .int .u32 t184, .slice Ao44 t185.length co44] 47 (0, 0)) BK189.out k_ hk⟩)); (case aO => exact (by (with_reducible repeat (first | apply Kd.S_alloc | apply Kd.S_drewN | apply Kd.S_drew)); exact Kd.S_mono HO_9.out (fun k_ hk => ⟨⟨hk.1, hk.2.2⟩, fun e_ => hk.2.1 e_⟩))); (case aS => exact (bsz HB)); (case aL => have := LMc38.out; omega); intro v191 w47 ho hb hg hat; rw [← Ny190.out] at ho; have n0_ := Aside0.mk (Kd.S_after (ok := (fun k_ => some k_ ≠ (.slice Ao44 t185.length co44 : Value).ownBlock ∧ k_ ≠ gb189)) (by exact Kd.S_mono HO_8.out (fun _ hk => ⟨⟨hk.2.1, hk.2.2⟩, hk.1⟩)) hg hat); have n1_ := Aside0.mk (blk_grown (g := gb163) (o := .cells #[.int .i64 a0_0, .int .i64 a0_1, .int .i64 a0_2, .int .i64 a0_3, .int .i64 a0_4, .int .i64 a0_5, .int .i64 a0_6] 23 (0, 0)) BK163.out hg (Kd.S_ne HO_9.out BK163.out (by decide))); have n2_ := Aside0.mk (blk_grown (g := gb189) (o := .cells #[.int .i32 t183, .int .u32 t184, .slice Ao44 t185.length co44] 47 (0, 0)) BK189.out hg (Kd.S_away HO_9.out (fun _ hk => hk.2.2))); have n3_ := Aside0.mk (hb); have n4_ := Aside0.mk (ho); clear HO_8; clear BK163; clear BK189; clear HB; clear HO_9; clear HO187; have HO_8 := n0_; have BK163 := n1_; have BK189 := n2_; have HB := n3_; have HO192 := n4_; clear n0_ n1_ n2_ n3_ n4_; clear ho hb hg hat))
          go_roundg k2
          case measure => have := HK1.out; have := HK2.out; omega
          case rel => exact ⟨(y190), (wrap64 (x72_2 + 1)), rfl, H', ⟨by have := HK1.out; have := HK2.out; omega⟩, ⟨by exact Kd.S_mono HO_8.out (fun _ hk => hk.2)⟩, ⟨by exact Kd.S_mono HO192.out (fun _ hk => hk.1)⟩, BK163, HB⟩
         ·
          rw [if_neg c34] at H; have c34b0 : decide (x72_2 < (l2.length : Int)) = false := decide_eq_false c34; clear c34; obtain ⟨⟨t193, t196⟩, A48, H⟩ := bnd H
          try dsimp only at H
          simp only [Option.some.injEq, Prod.mk.injEq] at H; obtain ⟨rfl, rfl⟩ := H; have hz49 := bx7 BK163.out; obtain ⟨Ao50, co50, eo50⟩ := Kd.S_slice HO_8.out; subst eo50; obtain ⟨Ao51, co51, eo51⟩ := Kd.S_slice HO_9.out; subst eo51
          go_wp2_with (first | ((with_reducible refine gate_callee (f := 21) rfl ?_); refine gL 91 Try.func21 #[.agg #[.int .i64 a0_0, .int .i64 a0_1, .int .i64 a0_2, .int .i64 a0_3, .int .i64 a0_4, .int .i64 a0_5, .int .i64 a0_6], .slice Ao50 x8_1.length co50, .slice Ao51 x9_2.length co51] (h := ?_); (with_reducible refine (page_New.calls k2 a0_0 a0_1 a0_2 a0_3 a0_4 a0_5 a0_6 _ _ x8_1 _ _ x9_2 t193 t196 _ ?side1 ?side2 ?side3 ?side4 A48.out).mono ?_); (case side1 => with_reducible exact (Kd.S_reads' HO_8.out).2.2); (case side2 => exact (Kd.S_reads' HO_8.out).2.1); (case side3 => with_reducible exact (Kd.S_reads' HO_9.out).2.2); (case side4 => exact (Kd.S_reads' HO_9.out).2.1); rintro e w52 ⟨v194, rfl, ho0, hb⟩; refine ⟨_, rfl, ?_⟩; replace HO_8 := sst HO_8 hb; replace HO_9 := sst HO_9 hb; have HO195 := Aside0.mk (Kd.R_lower ho0 (bsz HB)); replace BK163 := kst BK163 hb; replace HB := bst HB hb; clear hb ho0))
          go_ret2
          exact ⟨_, rfl, HO195.out, HB.out⟩
   ·
    replace c9 := Bool.eq_false_iff.mpr c9; subst c9; rw [if_neg (show ¬ (false = true) by decide)] at H; simp only [Option.some.injEq, Prod.mk.injEq] at H; obtain ⟨rfl, rfl⟩ := H
    go_enter Try.func13, Try.ntmps13
    go_wp2_with (first | ((with_reducible refine gate_dst (N := 3) rfl ?_); refine bxE 3 #[.int .i64 a0_0, .int .i64 a0_1, .int .i64 a0_2, .int .i64 a0_3, .int .i64 a0_4, .int .i64 a0_5, .int .i64 a0_6] 23 (h := ?_); intro gb163 hg w53 hbox hb; have BK163 := Aside0.mk (hbox); have GW163 := gE hg HB; have GE163 := gE hg HB; replace HB := bst HB hb; clear hb hbox hg; have hz54 := bx7 BK163.out) | ((with_reducible refine gate_callee (f := 23) rfl ?_); refine gL 22 Try.func23 #[.agg #[.int .i64 a0_0, .int .i64 a0_1, .int .i64 a0_2, .int .i64 a0_3, .int .i64 a0_4, .int .i64 a0_5, .int .i64 a0_6]] (h := ?_); (with_reducible refine (page_Right.calls a0_0 a0_1 a0_2 a0_3 a0_4 a0_5 a0_6 true _ A4.out).mono ?_); rintro e w55 ⟨rfl, hb⟩; refine ⟨_, rfl, ?_⟩; replace BK163 := kst BK163 hb; replace HB := bst HB hb; clear hb; have hz56 := bx7 BK163.out) | ((with_reducible refine gate_callee (f := 33) rfl ?_); refine gL 30 Try.func33 #[.slice A1 l1.length c1, .int .i64 a0_2, .int .i64 a0_3] (h := ?_); (with_reducible refine (page_numbers.calls k _ _ l1 a0_2 a0_3 true _ ?side1 ?side2 A6.out).mono ?_); (case side1 => with_reducible exact (Kd.C_below HR1.out HB.out)); (case side2 => exact HC1.out); rintro e w' ⟨rfl, ⟨nd, rfl⟩⟩; refine ⟨_, rfl, ?_⟩) | ((with_reducible refine gate_callee (f := 33) rfl ?_); refine gL 37 Try.func33 #[.slice A2 l2.length c2, .int .i64 a0_2, .int .i64 a0_3] (h := ?_); (with_reducible refine (page_numbers.calls k _ _ l2 a0_2 a0_3 false _ ?side1 ?side2 A8.out).mono ?_); (case side1 => repeat (first | exact (Kd.C_below HR2.out bZ) | (with_reducible refine Kd.C_alloc ?_ _) | (with_reducible refine Kd.C_drewN ?_ _) | (with_reducible refine Kd.C_drew ?_))); (case side2 => exact HC2.out); rintro e w' ⟨rfl, ⟨nd, rfl⟩⟩; refine ⟨_, rfl, ?_⟩))
    go_ret2
    exact ⟨(.slice none 0 0 : Value), rfl, by first | exact Kd.R_nil _ _ _ _ _ | exact Kd.N_nil _ _ _ _ _ | exact Kd.V_nil _ _ _ _ _ | exact Kd.Q_nil _ _ _ _ _ | exact Kd.S_nil _ _ _ _ _, bZ⟩
  ·
   replace c7 := Bool.eq_false_iff.mpr c7; subst c7; rw [if_neg (show ¬ (false = true) by decide)] at H; simp only [Option.some.injEq, Prod.mk.injEq] at H; obtain ⟨rfl, rfl⟩ := H
   go_enter Try.func13, Try.ntmps13
   go_wp2_with (first | ((with_reducible refine gate_dst (N := 3) rfl ?_); refine bxE 3 #[.int .i64 a0_0, .int .i64 a0_1, .int .i64 a0_2, .int .i64 a0_3, .int .i64 a0_4, .int .i64 a0_5, .int .i64 a0_6] 23 (h := ?_); intro gb163 hg w57 hbox hb; have BK163 := Aside0.mk (hbox); have GW163 := gE hg HB; have GE163 := gE hg HB; replace HB := bst HB hb; clear hb hbox hg; have hz58 := bx7 BK163.out) | ((with_reducible refine gate_callee (f := 23) rfl ?_); refine gL 22 Try.func23 #[.agg #[.int .i64 a0_0, .int .i64 a0_1, .int .i64 a0_2, .int .i64 a0_3, .int .i64 a0_4, .int .i64 a0_5, .int .i64 a0_6]] (h := ?_); (with_reducible refine (page_Right.calls a0_0 a0_1 a0_2 a0_3 a0_4 a0_5 a0_6 true _ A4.out).mono ?_); rintro e w59 ⟨rfl, hb⟩; refine ⟨_, rfl, ?_⟩; replace BK163 := kst BK163 hb; replace HB := bst HB hb; clear hb; have hz60 := bx7 BK163.out) | ((with_reducible refine gate_callee (f := 33) rfl ?_); refine gL 30 Try.func33 #[.slice A1 l1.length c1, .int .i64 a0_2, .int .i64 a0_3] (h := ?_); (with_reducible refine (page_numbers.calls k _ _ l1 a0_2 a0_3 false _ ?side1 ?side2 A6.out).mono ?_); (case side1 => with_reducible exact (Kd.C_below HR1.out HB.out)); (case side2 => exact HC1.out); rintro e w' ⟨rfl, ⟨nd, rfl⟩⟩; refine ⟨_, rfl, ?_⟩))
   go_ret2
   exact ⟨(.slice none 0 0 : Value), rfl, by first | exact Kd.R_nil _ _ _ _ _ | exact Kd.N_nil _ _ _ _ _ | exact Kd.V_nil _ _ _ _ _ | exact Kd.Q_nil _ _ _ _ _ | exact Kd.S_nil _ _ _ _ _, bZ⟩
 ·
  replace c5 := Bool.eq_false_iff.mpr c5; subst c5; rw [if_neg (show ¬ (false = true) by decide)] at H; simp only [Option.some.injEq, Prod.mk.injEq] at H; obtain ⟨rfl, rfl⟩ := H
  go_enter Try.func13, Try.ntmps13
  go_wp2_with (first | ((with_reducible refine gate_dst (N := 3) rfl ?_); refine bxE 3 #[.int .i64 a0_0, .int .i64 a0_1, .int .i64 a0_2, .int .i64 a0_3, .int .i64 a0_4, .int .i64 a0_5, .int .i64 a0_6] 23 (h := ?_); intro gb163 hg w61 hbox hb; have BK163 := Aside0.mk (hbox); have GW163 := gE hg HB; have GE163 := gE hg HB; replace HB := bst HB hb; clear hb hbox hg; have hz62 := bx7 BK163.out) | ((with_reducible refine gate_callee (f := 23) rfl ?_); refine gL 22 Try.func23 #[.agg #[.int .i64 a0_0, .int .i64 a0_1, .int .i64 a0_2, .int .i64 a0_3, .int .i64 a0_4, .int .i64 a0_5, .int .i64 a0_6]] (h := ?_); (with_reducible refine (page_Right.calls a0_0 a0_1 a0_2 a0_3 a0_4 a0_5 a0_6 false _ A4.out).mono ?_); rintro e w63 ⟨rfl, hb⟩; refine ⟨_, rfl, ?_⟩; replace BK163 := kst BK163 hb; replace HB := bst HB hb; clear hb))
  go_ret2
  exact ⟨(.slice none 0 0 : Value), rfl, by first | exact Kd.R_nil _ _ _ _ _ | exact Kd.N_nil _ _ _ _ _ | exact Kd.V_nil _ _ _ _ _ | exact Kd.Q_nil _ _ _ _ _ | exact Kd.S_nil _ _ _ _ _, HB.out⟩

/-! ### slices_Clone_byte_byte: function 68 -/
def slices_Clone_byte_byte.f (l0 : List Int) : Option (List Int) := if l0.length < 140737488355328 then some l0 else none
set_option maxHeartbeats 8000000 in
set_option maxRecDepth 100000 in
theorem slices_Clone_byte_byte.calls (A0 : Option Addr) (c0 : Nat) (l0 : List Int) (r : List Int) (w : World) (hr0 : Kd.C (Kd.int .u8) w A0 l0.length l0) (hc0 : l0.length ≤ c0) (h : slices_Clone_byte_byte.f l0 = some r) :
  Calls Try.prog 68 #[.slice A0 l0.length c0] w fun e w' => ∃ v0_ : Value, e = .returned (v0_) ∧ Kd.R (Kd.int .u8) 5 w' w.heap.size (fun _ => True) v0_ r ∧ Below w.heap.size w w' := by
 unfold slices_Clone_byte_byte.f at h
 by_cases hlim : l0.length < 140737488355328
 ·
  rw [if_pos hlim] at h; obtain rfl := Option.some.inj h; clear h; have HR0 := Aside0.mk hr0; have HL := Aside0.mk hlim; have hz := hr0.2.2; clear hr0 hlim hc0; have hcmp : ∀ W : World, (binOp .eql 36 (.slice A0 l0.length c0) (.slice none 0 0)).run Try.prog W = .ok (.bool A0.isNone) W := fun W => Lib.run_eql_slice_nil W _ _ A0 _ _ _ _ Try.underlying36
  cases A0 with
  | none =>
   have hl0 : l0 = [] := by
    rcases Nat.eq_zero_or_pos l0.length with h0 | h0
    ·
     exact List.eq_nil_of_length_eq_zero h0
    ·
     obtain ⟨ad, had, _⟩ := hz h0
     cases had
   subst hl0; clear hz; simp only [List.length_nil, Option.isNone_none] at hcmp; have HB := Aside0.mk (Below.refl w.heap.size w)
   go_enter Try.func68, Try.ntmps68
   go_wp2
   go_ret
   exact ⟨_, rfl, Kd.R_nil _ _ _ _ _, HB.out⟩
  | some ad =>
   clear hz; simp only [Option.isNone_some] at hcmp; have HB := Aside0.mk (Below.refl w.heap.size w)
   go_enter Try.func68, Try.ntmps68
   go_wp2_with (first | ((with_reducible refine gate_dst (N := 5) rfl ?_); (try (refine gate_guard (by rfl) ?_; dsimp only)); refine Kd.R_lit (Kd.int .u8) _ 5 ?hg (N := 5) ?hd (xs := ([] : List Int)) (inner := []) (ok := fun _ => True) (okp := fun _ => True) ?hr ?hp (fun _ hk => hk) trivial (Below.refl _ _) (Nat.le_refl _) (by simp) ?_; (case hd => rfl); (case hg => rfl); (case hr => first | (go_simp; done) | (go_simp; rfl)); (case hp => exact (Reps.none _ _)); intro v188 w10 ho11 hb hg_ hnew_; clear hg_ hnew_; have HO189 := Aside0.mk (Kd.R_lower ho11 (bsz HB)); replace HB := bst HB hb; clear hb ho11) | ((with_reducible refine gate_builtin (b := .append) (xs := #[.tmp 5, .tmp 6]) rfl ?_); (try (refine gate_guard (by rfl) ?_; dsimp only)); at_builtin; refine Kd.R_append_rows (Kd.int .u8) (w0 := w) w.heap.size rfl (.tmp 5) (.tmp 6) 36 5 (.int .u8 0) 1 rfl Try.underlying36 info5 rfl (by decide) (by omega) v188 [] l0 _ _ _ (fun _ => True) (fun _ => False) rfl rfl ?aO ?aR (fun _ _ h => h) (fun _ h => h.elim) ?aF ?aB ?aS ?aL ?_; (case aR => exact (Kd.C_below HR0.out HB.out)); (case aB => exact HB.out); (case aF => exact (fun _ _ => trivial)); (case aO => exact HO189.out); (case aS => exact (bsz HB)); (case aL => have := HL.out; simp; omega); intro v191 w12 ho hb hg hat; have n0_ := Aside0.mk (hb); have n1_ := Aside0.mk (ho); clear HB; clear HO189; have HB := n0_; have HO192 := n1_; clear n0_ n1_; clear ho hb hg hat))
   go_ret
   exact ⟨_, rfl, by simpa using HO192.out, HB.out⟩
 ·
  rw [if_neg hlim] at h
  cases h

/-! ### seal_wide: function 69 -/
def seal_wide.f (a0 : Int) : Option (Int) := some (mn (mx a0 0) 8)
set_option maxHeartbeats 8000000 in
set_option maxRecDepth 100000 in
theorem seal_wide.calls (a0 : Int) (r : Int) (w : World) (h : seal_wide.f a0 = some r) :
  Calls Try.prog 69 #[.int .i64 a0] w fun e w' => e = .returned (.int .i64 r) ∧ Below w.heap.size w w' := by
 have HB := Aside0.mk (Below.refl w.heap.size w); have H := h; clear h; unfold seal_wide.f at H; obtain ⟨ji2, hji2⟩ : ∃ j_ : Int, (mx a0 0) = j_ := ⟨_, rfl⟩; (replace H : (some (mn (ji2) 8)) = some r := by first | (rw [hji2] at H; exact H) | (simp only [hji2] at H ⊢; exact H)); (try (have hji2l : 0 ≤ ji2 := by (rw [← hji2]; unfold mx; (repeat' split) <;> omega))); (try (have hji2m : 0 ≤ ji2 := by omega)); have hji2_ : (if a0 < 0 then 0 else a0) = ji2 := hji2; obtain ⟨ji3, hji3⟩ : ∃ j_ : Int, (mn (ji2) 8) = j_ := ⟨_, rfl⟩; (replace H : (some ji3) = some r := by first | (rw [hji3] at H; exact H) | (simp only [hji3] at H ⊢; exact H)); have hji3_ : (if 8 < (ji2) then 8 else (ji2)) = ji3 := hji3; obtain rfl := Option.some.inj H
 go_enter Try.func69, Try.ntmps69
 go_wp2
 go_ret
 exact ⟨by first | rfl | (simp [errW_none, errW_some] <;> rfl) | (simp only [← hji2, ← hji3]; first | rfl | (simp [errW_none, errW_some] <;> rfl)) | (simp [*, errW_none, errW_some] <;> rfl), HB.out⟩

/-! ### seal_Put: function 35 -/
def seal_Put.l0 : Nat → Int → List Int → Int → Option (List Int)
 | 0, _, _, _ => none
 | k + 1, x1, x7, x8 => if x8 ≥ 0 then (if 0 ≤ (wrap64 (8 * x8)) then (if x7.length < 140737488355328 then (seal_Put.l0 k x1 (x7 ++ [(shr .u64 x1 (wrap64 (8 * x8))) % 256]) (wrap64 (x8 - 1))) else (none)) else (none)) else (some x7)
def seal_Put.f (k : Nat) (l0 : List Int) (a1 : Int) (a2 : Int) : Option (List Int) := (slices_Clone_byte_byte.f l0).bind fun t197 => ((seal_wide.f a2).bind fun t200 => (seal_Put.l0 k a1 t197 (wrap64 (t200 - 1))))
theorem seal_Put.mono_l : ∀ k, (∀ y0 y1 y2, LeO (seal_Put.l0 k y0 y1 y2) (seal_Put.l0 (k + 1) y0 y1 y2))
 | 0 => fun _ _ _ r h => by simp [seal_Put.l0] at h
 | k + 1 => by
  have ih0 := seal_Put.mono_l k
  ·
   intro y0 y1 y2; unfold seal_Put.l0
   repeat' first
   | (with_reducible exact ih0 _ _ _)
   | (with_reducible exact LeO.refl _)
   | (with_reducible exact LeO.none _)
   | (with_reducible refine LeO.ite ?_ ?_)
   | (with_reducible refine LeO.bind ?_ (fun _ => ?_))
theorem seal_Put.mono : ∀ a0 a1 a2 k, LeO (seal_Put.f k a0 a1 a2) (seal_Put.f (k + 1) a0 a1 a2) := by
 intro a0 a1 a2 k; have ih0 := seal_Put.mono_l k; unfold seal_Put.f
 repeat' first
   | (with_reducible exact ih0 _ _ _)
   | (with_reducible exact LeO.refl _)
   | (with_reducible exact LeO.none _)
   | (with_reducible refine LeO.ite ?_ ?_)
   | (with_reducible refine LeO.bind ?_ (fun _ => ?_))
set_option maxHeartbeats 8000000 in
set_option maxRecDepth 100000 in
theorem seal_Put.calls (k : Nat) (A0 : Option Addr) (c0 : Nat) (l0 : List Int) (a1 : Int) (a2 : Int) (r : List Int) (w : World) (hr0 : Kd.C (Kd.int .u8) w A0 l0.length l0) (hc0 : l0.length ≤ c0) (h : seal_Put.f k l0 a1 a2 = some r) :
  Calls Try.prog 35 #[.slice A0 l0.length c0, .int .u64 a1, .int .i64 a2] w fun e w' => ∃ v0_ : Value, e = .returned (v0_) ∧ Kd.R (Kd.int .u8) 5 w' w.heap.size (fun _ => True) v0_ r ∧ Below w.heap.size w w' := by
 have HR0 := Aside0.mk hr0; have HC0 := Aside0.mk hc0; clear hr0 hc0; have HB := Aside0.mk (Below.refl w.heap.size w); have H := h; clear h; unfold seal_Put.f at H; obtain ⟨t197, A4, H⟩ := bnd H; obtain ⟨t200, A5, H⟩ := bnd H; have H' := Aside0.mk H; clear H
 go_enter Try.func35, Try.ntmps35
 go_wp2_with (first | ((with_reducible refine gate_callee (f := 68) rfl ?_); refine gL 10 Try.func68 #[.slice A0 l0.length c0] (h := ?_); (with_reducible refine (slices_Clone_byte_byte.calls _ _ l0 t197 _ ?side1 ?side2 A4.out).mono ?_); (case side1 => with_reducible exact HR0.out); (case side2 => exact HC0.out); rintro e w6 ⟨v198, rfl, ho0, hb⟩; refine ⟨_, rfl, ?_⟩; have HO199 := Aside0.mk (Kd.R_lower ho0 (bsz HB)); replace HB := bst HB hb; clear hb ho0) | ((with_reducible refine gate_callee (f := 69) rfl ?_); refine gL 12 Try.func69 #[.int .i64 a2] (h := ?_); (with_reducible refine (seal_wide.calls a2 t200 _ A5.out).mono ?_); rintro e w7 ⟨rfl, hb⟩; refine ⟨_, rfl, ?_⟩; replace HO199 := rst HO199 hb; replace HB := bst HB hb; clear hb))
 go_loopg [7, 8] k (fun kq v7 v8 w' => ∃ (x7_1 : List Int) (x8_1 : Int), v8 = .int .i64 x8_1 ∧ Aside0 (seal_Put.l0 kq a1 x7_1 x8_1 = some r) ∧ Aside0 (kq ≤ k) ∧ Aside0 (Kd.R (Kd.int .u8) 5 w' w.heap.size (fun _ => True) v7 x7_1) ∧ Aside0 (Below w.heap.size w w'))
 case atStart => exact ⟨(t197), (wrap64 (t200 - 1)), rfl, H', ⟨Nat.le_refl _⟩, HO199, HB⟩
 case round =>
  clear H'; (try clear p2); (try clear c3); (try clear c6); (try clear p6); obtain ⟨x7_1, x8_1, rfl, HA, HK1, HO_7, HB⟩ := hrel
  cases gk with
  | zero => exact absurd HA.out (by simp [seal_Put.l0])
  | succ k1 =>
   have H := HA.out; clear HA; simp only [seal_Put.l0] at H
   by_cases c8 : x8_1 ≥ 0
   ·
    rw [if_pos c8] at H; have c8b0 : decide (0 ≤ x8_1) = true := decide_eq_true c8; clear c8; obtain ⟨ji9, hji9⟩ : ∃ j_ : Int, (wrap64 (8 * x8_1)) = j_ := ⟨_, rfl⟩; (replace H : (if 0 ≤ (ji9) then (if x7_1.length < 140737488355328 then (seal_Put.l0 k1 a1 (x7_1 ++ [(shr .u64 a1 (ji9)) % 256]) (wrap64 (x8_1 - 1))) else (none)) else (none)) = some r := by first | (rw [hji9] at H; exact H) | (simp only [hji9] at H ⊢; exact H)); have hji9w : (IntKind.i64.wrap (8 * x8_1)) = ji9 := (i64_w _).trans hji9; obtain ⟨c10, H⟩ := ifp H; have c10b0 := eq_true c10; have c10b1 : decide (0 ≤ (ji9)) = true := decide_eq_true c10; clear c10; obtain ⟨ji11, hji11⟩ : ∃ j_ : Int, (shr .u64 a1 (ji9)) = j_ := ⟨_, rfl⟩; (replace H : (if x7_1.length < 140737488355328 then (seal_Put.l0 k1 a1 (x7_1 ++ [(ji11) % 256]) (wrap64 (x8_1 - 1))) else (none)) = some r := by first | (rw [hji11] at H; exact H) | (simp only [hji11] at H ⊢; exact H)); have hji11_ : (a1 / 2 ^ min (ji9).toNat 64) = ji11 := hji11; have hji11z : (ji9) ≤ 64 → (a1 / 2 ^ (ji9).toNat) = ji11 := shr_small hji11; obtain ⟨c12, H⟩ := ifp H; have LMc12 := Aside0.mk c12; clear c12; obtain ⟨y201, hy201⟩ : ∃ y_ : List Int, y_ = (x7_1 ++ [(ji11) % 256]) := ⟨_, rfl⟩; (replace H : (seal_Put.l0 k1 a1 y201 (wrap64 (x8_1 - 1))) = some r := by rw [hy201]; exact H); have Ny201 := Aside0.mk hy201; clear hy201; have H' := Aside0.mk H; clear H
    go_wp2_with (first | ((with_reducible refine gate_builtin (b := .append) (xs := #[.tmp 18, .tmp 24]) rfl ?_); at_builtin; refine Kd.R_append (Kd.int .u8) (w0 := w) w.heap.size rfl (.tmp 18) (.tmp 24) 36 5 (.int .u8 0) 1 rfl Try.underlying36 info5 rfl (by decide) (by omega) u7 x7_1 ((ji11) % 256) [.int .u8 ((ji11) % 256)] (fun _ => True) (fun _ => False) rfl rfl ?aP (fun _ hk => hk.elim) ?aF ?aO ?aB ?aS ?aL ?_; (case aP => exact rfl); (case aB => exact HB.out); (case aF => exact (fun _ _ => trivial)); (case aO => exact HO_7.out); (case aS => exact (bsz HB)); (case aL => have := LMc12.out; omega); intro v202 w13 ho hb hg hat; rw [← Ny201.out] at ho; have n0_ := Aside0.mk (hb); have n1_ := Aside0.mk (ho); clear HB; clear HO_7; have HB := n0_; have HO203 := n1_; clear n0_ n1_; clear ho hb hg hat))
    go_roundg k1
    case measure => have := HK1.out; omega
    case rel => exact ⟨(y201), (wrap64 (x8_1 - 1)), rfl, H', ⟨by have := HK1.out; omega⟩, HO203, HB⟩
   ·
    rw [if_neg c8] at H; have c8b0 : decide (0 ≤ x8_1) = false := decide_eq_false c8; clear c8; obtain rfl := Option.some.inj H
    go_wp2
    go_ret
    exact ⟨_, rfl, HO_7.out, HB.out⟩

/-! ### seal_Sum: function 70 -/
def seal_Sum.l0 : Nat → Int → List Int → Int → Int → Option (Int)
 | 0, _, _, _, _ => none
 | k + 1, x3, x6, x7, x8 => if x8 < x7 then (if 0 ≤ x8 then (if x8 < (x6.length : Int) then (seal_Sum.l0 k (((Go.bits .xor .u32 x3 ((rd x6 x8) % 4294967296)) * 16777619) % 4294967296) x6 x7 (wrap64 (x8 + 1))) else (none)) else (none)) else (some x3)
def seal_Sum.f (k : Nat) (l0 : List Int) : Option (Int) := seal_Sum.l0 k 2166136261 l0 (l0.length : Int) 0
theorem seal_Sum.mono_l : ∀ k, (∀ y0 y1 y2 y3, LeO (seal_Sum.l0 k y0 y1 y2 y3) (seal_Sum.l0 (k + 1) y0 y1 y2 y3))
 | 0 => fun _ _ _ _ r h => by simp [seal_Sum.l0] at h
 | k + 1 => by
  have ih0 := seal_Sum.mono_l k
  ·
   intro y0 y1 y2 y3; unfold seal_Sum.l0
   repeat' first
   | (with_reducible exact ih0 _ _ _ _)
   | (with_reducible exact LeO.refl _)
   | (with_reducible exact LeO.none _)
   | (with_reducible refine LeO.ite ?_ ?_)
   | (with_reducible refine LeO.bind ?_ (fun _ => ?_))
theorem seal_Sum.mono : ∀ a0 k, LeO (seal_Sum.f k a0) (seal_Sum.f (k + 1) a0) := by
 intro a0 k; have ih0 := seal_Sum.mono_l k; unfold seal_Sum.f
 repeat' first
   | (with_reducible exact ih0 _ _ _ _)
   | (with_reducible exact LeO.refl _)
   | (with_reducible exact LeO.none _)
   | (with_reducible refine LeO.ite ?_ ?_)
   | (with_reducible refine LeO.bind ?_ (fun _ => ?_))
set_option maxHeartbeats 8000000 in
set_option maxRecDepth 100000 in
theorem seal_Sum.calls (k : Nat) (A0 : Option Addr) (c0 : Nat) (l0 : List Int) (r : Int) (w : World) (hr0 : Kd.C (Kd.int .u8) w A0 l0.length l0) (hc0 : l0.length ≤ c0) (h : seal_Sum.f k l0 = some r) :
  Calls Try.prog 70 #[.slice A0 l0.length c0] w fun e w' => e = .returned (.int .u32 r) ∧ Drawn0 w w' := by
 have HR0 := Aside0.mk hr0; have HC0 := Aside0.mk hc0; clear hr0 hc0; have H := h; clear h; unfold seal_Sum.f at H; have H' := Aside0.mk H; clear H
 go_enter Try.func70, Try.ntmps70
 go_wp2
 go_loopg [3, 8] k (fun kq v3 v8 w' => ∃ (x3_1 : Int) (x8_1 : Int), v3 = .int .u32 x3_1 ∧ v8 = .int .i64 x8_1 ∧ Aside0 (seal_Sum.l0 kq x3_1 l0 (l0.length : Int) x8_1 = some r) ∧ Aside0 (kq ≤ k) ∧ Drawn0 w w')
 case atStart => exact ⟨(2166136261), (0), rfl, rfl, H', ⟨Nat.le_refl _⟩, by repeat (first | exact Drawn0.refl _ | apply Drawn0.step)⟩
 case round =>
  clear H'; obtain ⟨x3_1, x8_1, rfl, rfl, HA, HK1, ⟨m1, rfl⟩⟩ := hrel
  cases gk with
  | zero => exact absurd HA.out (by simp [seal_Sum.l0])
  | succ k1 =>
   have H := HA.out; clear HA; simp only [seal_Sum.l0] at H
   by_cases c2 : x8_1 < (l0.length : Int)
   ·
    rw [if_pos c2] at H; have c2b0 : decide (x8_1 < (l0.length : Int)) = true := decide_eq_true c2; clear c2; obtain ⟨c3, H⟩ := ifp H; have c3b0 : decide (0 ≤ x8_1) = true := decide_eq_true c3; clear c3; obtain ⟨c4, H⟩ := ifp H; have c4b0 : decide (x8_1 < (l0.length : Int)) = true := decide_eq_true c4; clear c4; have H' := Aside0.mk H; clear H; have p204 : 0 ≤ (x8_1 : Int) := oD; have q204 : x8_1 < (l0.length : Int) := oD; obtain ⟨ad204, e204, hx204_0⟩ := Kd.at_int HR0.out x8_1 p204 q204
    cases e204
    replace p204 := eq_true p204; replace q204 := eq_true q204
    go_wp2
    go_roundg k1
    case measure => have := HK1.out; omega
    case rel => exact ⟨(((Go.bits .xor .u32 x3_1 ((rd l0 x8_1) % 4294967296)) * 16777619) % 4294967296), (wrap64 (x8_1 + 1)), rfl, rfl, H', ⟨by have := HK1.out; omega⟩, by repeat (first | exact Drawn0.refl _ | apply Drawn0.step)⟩
   ·
    rw [if_neg c2] at H; have c2b0 : decide (x8_1 < (l0.length : Int)) = false := decide_eq_false c2; clear c2; obtain rfl := Option.some.inj H
    go_wp2
    go_ret
    exact ⟨rfl, by repeat (first | exact Drawn0.refl _ | apply Drawn0.step)⟩

end Go.Proofs.Ytekenaclmplocaa.PPageQuantizes
