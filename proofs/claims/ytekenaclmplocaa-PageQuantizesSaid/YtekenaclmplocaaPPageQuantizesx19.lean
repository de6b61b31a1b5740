-- Written by a program of this session (wip/tools/mkprint.py over the kit's print).
import Derived.Test.YtekenaclmplocaaPPageQuantizesx0
import Derived.Test.YtekenaclmplocaaPPageQuantizesx18
namespace Go.Proofs.Ytekenaclmplocaa.PPageQuantizes
open Go.RowKit Go.Proofs.YtekenaclmplocaaW.PrintWords Go.Proofs.YtekenaclmplocaaW.PrintLast Go.Proofs.YtekenaclmplocaaW.PrintMore
attribute [local go_sem] max2_int min2_int max_two min_two max_three min_three max_four min_four   -- for this text's walks alone
set_option linter.unusedVariables false
set_option linter.unusedSimpArgs false

/-! ### credenzaref07_Back: function 84 -/
def credenzaref07_Back.l0 : Nat → List Int → Int → Int → Int → List Int → Option (List Int)
 | 0, _, _, _, _, _ => none
 | k + 1, x3, x4, x512000, x512001, x512002 => if x4 < (x512002.length : Int) then (if 0 ≤ x4 then ((credenzaref07_One.f x512000 x512001 x512002 (rd x512002 x4)).bind fun t513 => (if x3.length < 35184372088832 then (credenzaref07_Back.l0 k (x3 ++ [t513]) (wrap64 (x4 + 1)) x512000 x512001 x512002) else (none))) else (none)) else (some x3)
def credenzaref07_Back.f (k : Nat) (a0_0 : Int) (a0_1 : Int) (l0_2 : List Int) : Option (List Int) := credenzaref07_Back.l0 k ([] : List Int) 0 a0_0 a0_1 l0_2
theorem credenzaref07_Back.mono_l : ∀ k, (∀ y0 y1 y2 y3 y4, LeO (credenzaref07_Back.l0 k y0 y1 y2 y3 y4) (credenzaref07_Back.l0 (k + 1) y0 y1 y2 y3 y4))
 | 0 => fun _ _ _ _ _ r h => by simp [credenzaref07_Back.l0] at h
 | k + 1 => by
  have ih0 := credenzaref07_Back.mono_l k
  ·
   intro y0 y1 y2 y3 y4; unfold credenzaref07_Back.l0
   repeat' first
   | (with_reducible exact ih0 _ _ _ _ _)
   | (with_reducible exact LeO.refl _)
   | (with_reducible exact LeO.none _)
   | (with_reducible refine LeO.ite ?_ ?_)
   | (with_reducible refine LeO.bind ?_ (fun _ => ?_))
theorem credenzaref07_Back.mono : ∀ a0 a1 a2 k, LeO (credenzaref07_Back.f k a0 a1 a2) (credenzaref07_Back.f (k + 1) a0 a1 a2) := by
 intro a0 a1 a2 k; have ih0 := credenzaref07_Back.mono_l k; unfold credenzaref07_Back.f
 repeat' first
   | (with_reducible exact ih0 _ _ _ _ _)
   | (with_reducible exact LeO.refl _)
   | (with_reducible exact LeO.none _)
   | (with_reducible refine LeO.ite ?_ ?_)
   | (with_reducible refine LeO.bind ?_ (fun _ => ?_))
def credenzaref07_Back.T5 : Bool × List (List Nat × List Nat) := (true, [([], []), ([], []), ([], []), ([2], [2]), ([], []), ([3, 4], [3, 4]), ([5], [5]), ([1, 6], [1, 6]), ([7], [7]), ([0, 8, 7], [0, 8]), ([9, 9, 0, 1, 2, 3, 4, 5, 6, 7, 8, 9], [0, 9])])
def credenzaref07_Back.B5 : List Nat := [0, 0, 0, 4, 0, 28, 60, 126, 254, 511, 1023]
theorem credenzaref07_Back.tab5 : rtab .any (opsOf Try.f84 5) = credenzaref07_Back.T5 := by kernel_rfl
theorem credenzaref07_Back.bits5 : waitsOk credenzaref07_Back.T5.2 credenzaref07_Back.B5 = true := by kernel_rfl
set_option maxHeartbeats 8000000 in
set_option maxRecDepth 100000 in
theorem credenzaref07_Back.calls (k : Nat) (a0_0 : Int) (a0_1 : Int) (A0_2 : Option Addr) (c0_2 : Nat) (l0_2 : List Int) (r : List Int) (w : World) (hr0_2 : Kd.C (Kd.int .i64) w A0_2 l0_2.length l0_2) (hc0_2 : l0_2.length ≤ c0_2) (h : credenzaref07_Back.f k a0_0 a0_1 l0_2 = some r) :
  Calls Try.prog 84 #[.agg #[.int .i32 a0_0, .int .u32 a0_1, .slice A0_2 l0_2.length c0_2]] w fun e w' => ∃ v0_ : Value, e = .returned (v0_) ∧ Kd.R (Kd.int .i32) 21 w' w.heap.size (fun _ => True) v0_ r ∧ Below w.heap.size w w' := by
 have hu98 := Try.underlying98; have HR0_2 := Aside0.mk hr0_2; have HC0_2 := Aside0.mk hc0_2; clear hr0_2 hc0_2; have HB := Aside0.mk (Below.refl w.heap.size w); have H := h; clear h; unfold credenzaref07_Back.f at H; have H' := Aside0.mk H; clear H
 go_enter Try.func84, Try.ntmps84
 go_wp2_with (first | ((with_reducible refine gate_dst (N := 1) rfl ?_); refine bxE 1 #[.int .i32 a0_0, .int .u32 a0_1, .slice A0_2 l0_2.length c0_2] 98 (h := ?_); intro gb511 hg w2 hbox hb; have BK511 := Aside0.mk (hbox); have GW511 := gE hg HB; have GE511 := gE hg HB; replace HB := bst HB hb; clear hb hbox hg))
 go_loopg [3, 4] k (fun kq v3 v4 w' => ∃ (x3_1 : List Int) (x4_1 : Int), v4 = .int .i64 x4_1 ∧ Aside0 (credenzaref07_Back.l0 kq x3_1 x4_1 a0_0 a0_1 l0_2 = some r) ∧ Aside0 (kq ≤ k) ∧ Aside0 (Kd.R (Kd.int .i32) 21 w' w.heap.size (fun _ => True) v3 x3_1) ∧ Aside0 (w'.heap[gb511]? = some (.cells #[.int .i32 a0_0, .int .u32 a0_1, (.slice A0_2 l0_2.length c0_2)] 98 (0, 0))) ∧ Aside0 (Below w.heap.size w w'))
 case atStart => exact ⟨(([] : List Int)), (0), rfl, H', ⟨Nat.le_refl _⟩, ⟨by first | exact Kd.R_nil _ _ _ _ _ | exact Kd.N_nil _ _ _ _ _ | exact Kd.V_nil _ _ _ _ _ | exact Kd.Q_nil _ _ _ _ _ | exact Kd.S_nil _ _ _ _ _⟩, BK511, HB⟩
 case round =>
  clear H'; (try clear p2); obtain ⟨x3_1, x4_1, rfl, HA, HK1, HO_3, BK511, HB⟩ := hrel
  cases gk with
  | zero => exact absurd HA.out (by simp [credenzaref07_Back.l0])
  | succ k1 =>
   have H := HA.out; clear HA; simp only [credenzaref07_Back.l0] at H
   by_cases c3 : x4_1 < (l0_2.length : Int)
   ·
    rw [if_pos c3] at H; have c3b0 : decide (x4_1 < (l0_2.length : Int)) = true := decide_eq_true c3; clear c3; obtain ⟨c4, H⟩ := ifp H; have c4b0 : decide (0 ≤ x4_1) = true := decide_eq_true c4; clear c4; obtain ⟨t513, A5, H⟩ := bnd H; obtain ⟨c6, H⟩ := ifp H; have LMc6 := Aside0.mk c6; clear c6; obtain ⟨y514, hy514⟩ : ∃ y_ : List Int, y_ = (x3_1 ++ [t513]) := ⟨_, rfl⟩; (replace H : (credenzaref07_Back.l0 k1 y514 (wrap64 (x4_1 + 1)) a0_0 a0_1 l0_2) = some r := by rw [hy514]; exact H); have Ny514 := Aside0.mk hy514; clear hy514; have H' := Aside0.mk H; clear H; have hz7 := bx3 BK511.out
    try go_wp2
    replace HO_3 := Aside0.mk (Kd.R_drew HO_3.out); replace BK511 := Aside0.mk (blk_drew BK511.out); replace HB := Aside0.mk (below_drew1 HB.out); have p512 : 0 ≤ (x4_1 : Int) := oD; have q512 : x4_1 < (l0_2.length : Int) := oD; obtain ⟨ad512, e512, hx512_0⟩ := Kd.at_int HR0_2.out x4_1 p512 q512; have hw512_0 := hx512_0
    cases e512
    replace hx512_0 := cU HB hx512_0; replace p512 := eq_true p512; replace q512 := eq_true q512; (refine start_ (n := 11) (S := fun w' => w'.cell? ⟨gb511, 0, none⟩ = some (.int .i32 a0_0) ∧ w'.cell? ⟨gb511, 1, none⟩ = some (.int .u32 a0_1) ∧ w'.cell? ⟨gb511, 2, none⟩ = some (.slice (some ad512) l0_2.length c0_2) ∧ w'.cell? (ad512.add (x4_1).toNat) = some (.int .i64 (rd l0_2 x4_1))) (ds := []) (bA 11 0) (by kernel_rfl) rfl (by kernel_rfl) ⟨(blk_cell BK511.out 0).trans rfl, (blk_cell BK511.out 1).trans rfl, (blk_cell BK511.out 2).trans rfl, ((HB.out.cell (World.block_lt_of_cell? w _ hw512_0)).trans hw512_0)⟩ (fun hHeld => ?_); refine with_tabW credenzaref07_Back.tab5 credenzaref07_Back.bits5 (fun HT_ HW_ => ?_)); generalize wr.drew = w8 at HO_3 BK511 HB hx512_0 hHeld ⊢
    refine pT 11 0 12 1 HT_ (h := ?_)
    refine pT 11 2 14 5 HT_ (h := ?_)
    refine pT 11 4 16 21 HT_ (h := ?_)
    refine tT 11 1 13 23 HT_ HW_ hHeld (h := ?_)
    refine tT 11 3 15 31 HT_ HW_ hHeld (h := ?_)
    refine pT 11 5 17 63 HT_ (h := ?_)
    refine tT 11 6 18 127 HT_ HW_ hHeld (h := ?_)
    refine one_ (i := 7) (N := some 19) (bA 11 255) rfl rfl (one_of HT_.out (by kernel_rfl)) (by decide) (fun K hK => ?_)
    refine gA Try.func83 #[.agg #[.int .i32 a0_0, .int .u32 a0_1, .slice (some ad512) l0_2.length c0_2], .int .i64 (rd l0_2 x4_1)] (h := ?_)
    with_reducible refine (credenzaref07_One.calls a0_0 a0_1 _ _ l0_2 (rd l0_2 x4_1) t513 _ ?side1 ?side2 A5.out).mono ?_
    (case side1 => with_reducible exact (Kd.C_below HR0_2.out HB.out)); (case side2 => exact HC0_2.out); rintro e w9 ⟨rfl, hb⟩
    refine ⟨_, rfl, ?_⟩
    replace HO_3 := Aside0.mk (Kd.R_below (by (with_reducible repeat (first | apply Kd.R_alloc | apply Kd.R_drewN | apply Kd.R_drew)); exact HO_3.out) hb); replace BK511 := Aside0.mk (blk_below (g := gb511) (o := .cells #[.int .i32 a0_0, .int .u32 a0_1, .slice (some ad512) l0_2.length c0_2] 98 (0, 0)) (by (with_reducible repeat (first | refine blk_drewN ?_ _ | refine blk_drew ?_ | refine blk_alloc ?_ _)); exact BK511.out) hb); replace HB := Aside0.mk (below_step bZ hb); (try clear hb); (try clear hb2); (try clear hk); (try clear hi)
    refine hK.out _ _ ⟨(blk_cell BK511.out 0).trans rfl, (blk_cell BK511.out 1).trans rfl, (blk_cell BK511.out 2).trans rfl, ((HB.out.cell (World.block_lt_of_cell? w _ hw512_0)).trans hw512_0)⟩ (fun hHeld => ?_)
    clear hK K
    refine nT 19 (h := ?_)
    refine one_ (i := 8) (N := some 20) (bA 11 511) rfl rfl (one_of HT_.out (by kernel_rfl)) (by decide) (fun K hK => ?_)
    refine value_ (w1 := ?_) (v := ?_) (by rfl) rfl ?_ ?_
    rotate_left 2
    ·
     go_simp
     constructor
     ·
      rfl
     ·
      rfl
    refine hK.out _ _ ⟨(blk_cell (blk_alloc BK511.out _) 0).trans rfl, (blk_cell (blk_alloc BK511.out _) 1).trans rfl, (blk_cell (blk_alloc BK511.out _) 2).trans rfl, (World.cell?_alloc_lt _ _ _ (World.block_lt_of_cell? _ _ (((HB.out.cell (World.block_lt_of_cell? w _ hw512_0)).trans hw512_0)))).trans (((HB.out.cell (World.block_lt_of_cell? w _ hw512_0)).trans hw512_0))⟩ (fun hHeld => ?_)
    clear hK K
    refine nT 20 (h := ?_)
    refine one_ (i := 9) (N := some 21) (bA 11 1023) rfl rfl (one_of HT_.out (by kernel_rfl)) (by decide) (fun K hK => ?_)
    refine Kd.R_append_step (Kd.int .i32) (w0 := w) w.heap.size (by rfl) (.tmp 12) (.tmp 20) 43 21 (.int .i32 0) 4 rfl Try.underlying43 info21 rfl (by decide) (by omega) u3 x3_1 t513 [.int .i32 t513] (fun _ => True) (fun _ => False) rfl rfl ?aP (fun _ hk => hk.elim) ?aF ?aO ?aB ?aS ?aL ?_
    (case aP => exact rfl); (case aB => exact bZ); (case aF => exact (fun _ _ => trivial)); (case aO => exact (by (with_reducible repeat (first | apply Kd.R_alloc | apply Kd.R_drewN | apply Kd.R_drew)); exact HO_3.out)); (case aS => exact (below_size bZ)); (case aL => have := LMc6.out; omega); intro v515 w10 ho hb hg hat; rw [← Ny514.out] at ho; have n0_ := Aside0.mk (blk_grown (g := gb511) (o := .cells #[.int .i32 a0_0, .int .u32 a0_1, .slice (some ad512) l0_2.length c0_2] 98 (0, 0)) (by (with_reducible repeat (first | refine blk_drewN ?_ _ | refine blk_drew ?_ | refine blk_alloc ?_ _)); exact BK511.out) hg (Kd.R_ne HO_3.out BK511.out (by decide))); have n1_ := Aside0.mk (hb); have n2_ := Aside0.mk (ho); clear BK511; clear HB; clear HO_3; have BK511 := n0_; have HB := n1_; have HO516 := n2_; clear n0_ n1_ n2_; clear ho hb hg hat
    refine hK.out _ _ ⟨(blk_cell BK511.out 0).trans rfl, (blk_cell BK511.out 1).trans rfl, (blk_cell BK511.out 2).trans rfl, ((HB.out.cell (World.block_lt_of_cell? w _ hw512_0)).trans hw512_0)⟩ (fun hHeld => ?_)
    clear hK K
    refine nT 21 (h := ?_)
    refine pT 11 10 3 2047 HT_ (h := ?_)
    refine done_ (done_of HT_.out (by kernel_rfl)) ?_
    try go_wp2
    go_roundg k1
    case measure => have := HK1.out; omega
    case rel => exact ⟨(y514), (wrap64 (x4_1 + 1)), rfl, H', ⟨by have := HK1.out; omega⟩, HO516, BK511, HB⟩
   ·
    rw [if_neg c3] at H; have c3b0 : decide (x4_1 < (l0_2.length : Int)) = false := decide_eq_false c3; clear c3; obtain rfl := Option.some.inj H; have hz11 := bx3 BK511.out
    go_wp2
    go_ret
    exact ⟨_, rfl, HO_3.out, HB.out⟩

/-! ### credenzaref08_Page_Value: function 55 -/
def credenzaref08_Page_Value.f (k : Nat) (a0_0 : Int) (a0_1 : Int) (a0_2 : Int) (a0_3 : Int) (a0_4 : Int) (a0_5 : Int) (a0_6 : Int) (l0_7 : List (S98)) (l0_8 : List (S98)) (a1 : Int) : Option (List Int) := if 0 ≤ a1 then (if a1 < (l0_8.length : Int) then ((credenzaref07_Back.f k ((rd_T98 l0_8 a1).f0) ((rd_T98 l0_8 a1).f1) ((rd_T98 l0_8 a1).f2)).bind fun t519 => (some t519)) else (none)) else (none)
theorem credenzaref08_Page_Value.mono : ∀ a0 a1 a2 a3 a4 a5 a6 a7 a8 a9 k, LeO (credenzaref08_Page_Value.f k a0 a1 a2 a3 a4 a5 a6 a7 a8 a9) (credenzaref08_Page_Value.f (k + 1) a0 a1 a2 a3 a4 a5 a6 a7 a8 a9) := by
 intro a0 a1 a2 a3 a4 a5 a6 a7 a8 a9 k; unfold credenzaref08_Page_Value.f
 repeat' first
   | (with_reducible exact credenzaref07_Back.mono _ _ _ _)
   | (with_reducible exact LeO.refl _)
   | (with_reducible exact LeO.none _)
   | (with_reducible refine LeO.ite ?_ ?_)
   | (with_reducible refine LeO.bind ?_ (fun _ => ?_))
set_option maxHeartbeats 8000000 in
set_option maxRecDepth 100000 in
theorem credenzaref08_Page_Value.calls (k : Nat) (a0_0 : Int) (a0_1 : Int) (a0_2 : Int) (a0_3 : Int) (a0_4 : Int) (a0_5 : Int) (a0_6 : Int) (A0_7 : Option Addr) (c0_7 : Nat) (l0_7 : List (S98)) (A0_8 : Option Addr) (c0_8 : Nat) (l0_8 : List (S98)) (a1 : Int) (r : List Int) (w : World) (hr0_7 : Kd.C k98 w A0_7 l0_7.length l0_7) (hc0_7 : l0_7.length ≤ c0_7) (hr0_8 : Kd.C k98 w A0_8 l0_8.length l0_8) (hc0_8 : l0_8.length ≤ c0_8) (h : credenzaref08_Page_Value.f k a0_0 a0_1 a0_2 a0_3 a0_4 a0_5 a0_6 l0_7 l0_8 a1 = some r) :
  Calls Try.prog 55 #[.agg #[.int .i64 a0_0, .int .i64 a0_1, .int .i64 a0_2, .int .i64 a0_3, .int .i64 a0_4, .int .i64 a0_5, .int .i64 a0_6, .slice A0_7 l0_7.length c0_7, .slice A0_8 l0_8.length c0_8], .int .i64 a1] w fun e w' => ∃ v0_ : Value, e = .returned (v0_) ∧ Kd.R (Kd.int .i32) 21 w' w.heap.size (fun _ => True) v0_ r ∧ Below w.heap.size w w' := by
 have hu56 := Try.underlying56; have hu98 := Try.underlying98; have HR0_7 := Aside0.mk hr0_7; have HC0_7 := Aside0.mk hc0_7; clear hr0_7 hc0_7; have HR0_8 := Aside0.mk hr0_8; have HC0_8 := Aside0.mk hc0_8; clear hr0_8 hc0_8; have HB := Aside0.mk (Below.refl w.heap.size w); have H := h; clear h; unfold credenzaref08_Page_Value.f at H; obtain ⟨c3, H⟩ := ifp H; have c3b0 : decide (0 ≤ a1) = true := decide_eq_true c3; clear c3; obtain ⟨c4, H⟩ := ifp H; have c4b0 : decide (a1 < (l0_8.length : Int)) = true := decide_eq_true c4; clear c4; obtain ⟨t519, A5, H⟩ := bnd H; obtain rfl := Option.some.inj H
 go_enter Try.func55, Try.ntmps55
 go_wp2_with (first | ((with_reducible refine gate_dst (N := 2) rfl ?_); refine bxE 2 #[.int .i64 a0_0, .int .i64 a0_1, .int .i64 a0_2, .int .i64 a0_3, .int .i64 a0_4, .int .i64 a0_5, .int .i64 a0_6, .slice A0_7 l0_7.length c0_7, .slice A0_8 l0_8.length c0_8] 56 (h := ?_); intro gb517 hg w6 hbox hb; have BK517 := Aside0.mk (hbox); have GW517 := gE hg HB; have GE517 := gE hg HB; replace HB := bst HB hb; clear hb hbox hg; have hz7 := bx9 BK517.out; have p518 : 0 ≤ (a1 : Int) := oD; have q518 : a1 < (l0_8.length : Int) := oD; obtain ⟨ad518, A518_2, c518_2, e518, hx518_0, hx518_1, hx518_2, hl518_2, hi518_2⟩ := at_T98 HR0_8.out a1 p518 q518; cases e518; replace hx518_0 := cU HB hx518_0; replace hx518_1 := cU HB hx518_1; replace hx518_2 := cU HB hx518_2; have HR518_2 := Aside0.mk hi518_2; have HC518_2 := Aside0.mk hl518_2; clear hi518_2 hl518_2; replace p518 := eq_true p518; replace q518 := eq_true q518) | ((with_reducible refine gate_callee (f := 84) rfl ?_); refine gL 10 Try.func84 #[.agg #[.int .i32 ((rd_T98 l0_8 a1).f0), .int .u32 ((rd_T98 l0_8 a1).f1), .slice A518_2 ((rd_T98 l0_8 a1).f2).length c518_2]] (h := ?_); (with_reducible refine (credenzaref07_Back.calls k ((rd_T98 l0_8 a1).f0) ((rd_T98 l0_8 a1).f1) _ _ ((rd_T98 l0_8 a1).f2) t519 _ ?side1 ?side2 A5.out).mono ?_); (case side1 => with_reducible exact (Kd.C_below HR518_2.out HB.out)); (case side2 => exact HC518_2.out); rintro e w8 ⟨v520, rfl, ho0, hb⟩; refine ⟨_, rfl, ?_⟩; have HO521 := Aside0.mk (Kd.R_lower ho0 (bsz HB)); replace BK517 := kst BK517 hb; replace HB := bst HB hb; clear hb ho0))
 go_ret
 exact ⟨_, rfl, HO521.out, HB.out⟩

/-! ### credenzaref06_Bytes: function 85 -/
def credenzaref06_Bytes.l0 : Nat → Int → Int → ByteArray → Int → Option (ByteArray)
 | 0, _, _, _, _ => none
 | k + 1, x0, x1, x5, x6 => if x6 < x1 then ((some (([(Int.tmod x0 256) % 256] : List Int) : List Int)).bind fun y522 => (if (strOfNums y522).size + x5.size ≤ 9223372036854775807 then (credenzaref06_Bytes.l0 k (IntKind.u64.wrap (Int.tdiv x0 256)) x1 ((strOfNums y522) ++ x5) (wrap64 (x6 + 1))) else (none))) else (some x5)
def credenzaref06_Bytes.f (k : Nat) (a0 : Int) (a1 : Int) : Option (ByteArray) := credenzaref06_Bytes.l0 k a0 a1 (⟨#[]⟩ : ByteArray) 0
theorem credenzaref06_Bytes.mono_l : ∀ k, (∀ y0 y1 y2 y3, LeO (credenzaref06_Bytes.l0 k y0 y1 y2 y3) (credenzaref06_Bytes.l0 (k + 1) y0 y1 y2 y3))
 | 0 => fun _ _ _ _ r h => by simp [credenzaref06_Bytes.l0] at h
 | k + 1 => by
  have ih0 := credenzaref06_Bytes.mono_l k
  ·
   intro y0 y1 y2 y3; unfold credenzaref06_Bytes.l0
   repeat' first
   | (with_reducible exact ih0 _ _ _ _)
   | (with_reducible exact LeO.refl _)
   | (with_reducible exact LeO.none _)
   | (with_reducible refine LeO.ite ?_ ?_)
   | (with_reducible refine LeO.bind ?_ (fun _ => ?_))
theorem credenzaref06_Bytes.mono : ∀ a0 a1 k, LeO (credenzaref06_Bytes.f k a0 a1) (credenzaref06_Bytes.f (k + 1) a0 a1) := by
 intro a0 a1 k; have ih0 := credenzaref06_Bytes.mono_l k; unfold credenzaref06_Bytes.f
 repeat' first
   | (with_reducible exact ih0 _ _ _ _)
   | (with_reducible exact LeO.refl _)
   | (with_reducible exact LeO.none _)
   | (with_reducible refine LeO.ite ?_ ?_)
   | (with_reducible refine LeO.bind ?_ (fun _ => ?_))
set_option maxHeartbeats 8000000 in
set_option maxRecDepth 100000 in
theorem credenzaref06_Bytes.calls (k : Nat) (a0 : Int) (a1 : Int) (r : ByteArray) (w : World) (h : credenzaref06_Bytes.f k a0 a1 = some r) :
  Calls Try.prog 85 #[.int .u64 a0, .int .i64 a1] w fun e w' => e = .returned (.string r) ∧ Below w.heap.size w w' := by
 have HB := Aside0.mk (Below.refl w.heap.size w); have H := h; clear h; unfold credenzaref06_Bytes.f at H; have H' := Aside0.mk H; clear H
 go_enter Try.func85, Try.ntmps85
 go_wp2
 go_loopg [0, 5, 6] k (fun kq v0 v5 v6 w' => ∃ (x0_1 : Int) (x5_1 : ByteArray) (x6_1 : Int), v0 = .int .u64 x0_1 ∧ v5 = .string x5_1 ∧ v6 = .int .i64 x6_1 ∧ Aside0 (credenzaref06_Bytes.l0 kq x0_1 a1 x5_1 x6_1 = some r) ∧ Aside0 (kq ≤ k) ∧ Aside0 (Below w.heap.size w w'))
 case atStart => exact ⟨(a0), ((⟨#[]⟩ : ByteArray)), (0), rfl, rfl, rfl, H', ⟨Nat.le_refl _⟩, HB⟩
 case round =>
  clear H'; (try clear p2); obtain ⟨x0_1, x5_1, x6_1, rfl, rfl, rfl, HA, HK1, HB⟩ := hrel
  cases gk with
  | zero => exact absurd HA.out (by simp [credenzaref06_Bytes.l0])
  | succ k1 =>
   have H := HA.out; clear HA; simp only [credenzaref06_Bytes.l0] at H
   by_cases c3 : x6_1 < a1
   ·
    rw [if_pos c3] at H; have c3b0 : decide (x6_1 < a1) = true := decide_eq_true c3; clear c3; obtain ⟨y522, hy522⟩ : ∃ y_ : List Int, y_ = (([(Int.tmod x0_1 256) % 256] : List Int)) := ⟨_, rfl⟩; (replace H : (if (strOfNums y522).size + x5_1.size ≤ 9223372036854775807 then (credenzaref06_Bytes.l0 k1 (IntKind.u64.wrap (Int.tdiv x0_1 256)) a1 ((strOfNums y522) ++ x5_1) (wrap64 (x6_1 + 1))) else (none)) = some r := by rw [hy522]; exact H); have Ny522 := Aside0.mk hy522; clear hy522; obtain ⟨c4, H⟩ := ifp H; have c4b0 := eq_true c4; have c4b1 : decide ((strOfNums y522).size + x5_1.size ≤ 9223372036854775807) = true := decide_eq_true c4
    try have c4b2 : (9223372036854775807 < (strOfNums y522).size + x5_1.size) = False := eq_false (Nat.not_lt.2 c4)
    (try (have c4b3 := c4b2; simp only [ByteArray.size_append] at c4b3)); have H' := Aside0.mk H; clear H
    go_wp2_with (first | ((with_reducible refine gate_dst (N := 15) rfl ?_); refine Kd.R_lit (Kd.int .u8) _ 5 ?hg (N := 15) ?hd (xs := ([(Int.tmod x0_1 256) % 256] : List Int)) (inner := [.int .u8 ((Int.tmod x0_1 256) % 256)]) (ok := fun _ => True) (okp := fun _ => True) ?hr ?hp (fun _ hk => hk) trivial (Below.refl _ _) (Nat.le_refl _) (by simp) ?_; (case hd => rfl); (case hg => rfl); (case hr => first | (go_simp; done) | (go_simp; rfl)); (case hp => exact (Reps.one (show Kd.M (Kd.int .u8) _ _ _ ((Int.tmod x0_1 256) % 256) [.int .u8 ((Int.tmod x0_1 256) % 256)] from rfl) (Reps.none _ _))); intro v523 w5 ho6 hb hg_ hnew_; clear hg_ hnew_; (first | rw [← Ny522.out] at ho6 | (simp only [Int.reduceToNat] at ho6; rw [← Ny522.out] at ho6)); have HO524 := Aside0.mk (Kd.R_lower ho6 (bsz HB)); replace HB := bst HB hb; clear hb ho6; have hcv7 := own_string (P := Try.prog) Try.underlying36 Try.underlying5 Try.underlying9 (Kd.own_of_R HO524.out)))
    go_roundg k1
    case measure => have := HK1.out; omega
    case rel => exact ⟨(IntKind.u64.wrap (Int.tdiv x0_1 256)), ((strOfNums y522) ++ x5_1), (wrap64 (x6_1 + 1)), rfl, rfl, rfl, H', ⟨by have := HK1.out; omega⟩, HB⟩
   ·
    rw [if_neg c3] at H; have c3b0 : decide (x6_1 < a1) = false := decide_eq_false c3; clear c3; obtain rfl := Option.some.inj H
    go_wp2
    go_ret
    exact ⟨rfl, HB.out⟩

/-! ### credenzaref06_Word: function 101 -/
def credenzaref06_Word.f (k : Nat) (a0 : Int) : Option (ByteArray) := (credenzaref06_Bytes.f k (IntKind.u64.wrap (wrap64 ((wrap64 (a0)) + 4294967296))) 4).bind fun t525 => (some t525)
theorem credenzaref06_Word.mono : ∀ a0 k, LeO (credenzaref06_Word.f k a0) (credenzaref06_Word.f (k + 1) a0) := by
 intro a0 k; unfold credenzaref06_Word.f
 repeat' first
   | (with_reducible exact credenzaref06_Bytes.mono _ _ _)
   | (with_reducible exact LeO.refl _)
   | (with_reducible exact LeO.none _)
   | (with_reducible refine LeO.ite ?_ ?_)
   | (with_reducible refine LeO.bind ?_ (fun _ => ?_))
set_option maxHeartbeats 8000000 in
set_option maxRecDepth 100000 in
theorem credenzaref06_Word.calls (k : Nat) (a0 : Int) (r : ByteArray) (w : World) (h : credenzaref06_Word.f k a0 = some r) :
  Calls Try.prog 101 #[.int .i32 a0] w fun e w' => e = .returned (.string r) ∧ Below w.heap.size w w' := by
 have HB := Aside0.mk (Below.refl w.heap.size w); have H := h; clear h; unfold credenzaref06_Word.f at H; obtain ⟨t525, A2, H⟩ := bnd H; obtain rfl := Option.some.inj H
 go_enter Try.func101, Try.ntmps101
 go_wp2_with (first | ((with_reducible refine gate_callee (f := 85) rfl ?_); refine gL 7 Try.func85 #[.int .u64 (IntKind.u64.wrap (wrap64 ((wrap64 (a0)) + 4294967296))), .int .i64 4] (h := ?_); (with_reducible refine (credenzaref06_Bytes.calls k (IntKind.u64.wrap (wrap64 ((wrap64 (a0)) + 4294967296))) 4 t525 _ A2.out).mono ?_); rintro e w3 ⟨rfl, hb⟩; refine ⟨_, rfl, ?_⟩; replace HB := bst HB hb; clear hb))
 go_ret
 exact ⟨rfl, HB.out⟩

/-! ### credenzaref05_Words: function 89 -/
def credenzaref05_Words.l0 : Nat → Int → Int → Int → Option (Int)
 | 0, _, _, _ => none
 | k + 1, x0, x1, x5 => if (wrap64 (x5 * 64)) < (wrap64 (x0 * x1)) then (credenzaref05_Words.l0 k x0 x1 (wrap64 (x5 + 1))) else (some x5)
def credenzaref05_Words.f (k : Nat) (a0 : Int) (a1 : Int) : Option (Int) := credenzaref05_Words.l0 k a0 a1 0
theorem credenzaref05_Words.mono_l : ∀ k, (∀ y0 y1 y2, LeO (credenzaref05_Words.l0 k y0 y1 y2) (credenzaref05_Words.l0 (k + 1) y0 y1 y2))
 | 0 => fun _ _ _ r h => by simp [credenzaref05_Words.l0] at h
 | k + 1 => by
  have ih0 := credenzaref05_Words.mono_l k
  ·
   intro y0 y1 y2; unfold credenzaref05_Words.l0
   repeat' first
   | (with_reducible exact ih0 _ _ _)
   | (with_reducible exact LeO.refl _)
   | (with_reducible exact LeO.none _)
   | (with_reducible refine LeO.ite ?_ ?_)
   | (with_reducible refine LeO.bind ?_ (fun _ => ?_))
theorem credenzaref05_Words.mono : ∀ a0 a1 k, LeO (credenzaref05_Words.f k a0 a1) (credenzaref05_Words.f (k + 1) a0 a1) := by
 intro a0 a1 k; have ih0 := credenzaref05_Words.mono_l k; unfold credenzaref05_Words.f
 repeat' first
   | (with_reducible exact ih0 _ _ _)
   | (with_reducible exact LeO.refl _)
   | (with_reducible exact LeO.none _)
   | (with_reducible refine LeO.ite ?_ ?_)
   | (with_reducible refine LeO.bind ?_ (fun _ => ?_))
set_option maxHeartbeats 8000000 in
set_option maxRecDepth 100000 in
theorem credenzaref05_Words.calls (k : Nat) (a0 : Int) (a1 : Int) (r : Int) (w : World) (h : credenzaref05_Words.f k a0 a1 = some r) :
  Calls Try.prog 89 #[.int .i64 a0, .int .i64 a1] w fun e w' => e = .returned (.int .i64 r) ∧ Drawn0 w w' := by
 have H := h; clear h; unfold credenzaref05_Words.f at H; have H' := Aside0.mk H; clear H
 go_enter Try.func89, Try.ntmps89
 go_wp2
 go_loopg [5] k (fun kq v5 w' => ∃ (x5_1 : Int), v5 = .int .i64 x5_1 ∧ Aside0 (credenzaref05_Words.l0 kq a0 a1 x5_1 = some r) ∧ Aside0 (kq ≤ k) ∧ Drawn0 w w')
 case atStart => exact ⟨(0), rfl, H', ⟨Nat.le_refl _⟩, by repeat (first | exact Drawn0.refl _ | apply Drawn0.step)⟩
 case round =>
  clear H'; (try clear p2); obtain ⟨x5_1, rfl, HA, HK1, ⟨m1, rfl⟩⟩ := hrel
  cases gk with
  | zero => exact absurd HA.out (by simp [credenzaref05_Words.l0])
  | succ k1 =>
   have H := HA.out; clear HA; simp only [credenzaref05_Words.l0] at H
   by_cases c3 : (wrap64 (x5_1 * 64)) < (wrap64 (a0 * a1))
   ·
    rw [if_pos c3] at H; have c3b0 : decide ((wrap64 (x5_1 * 64)) < (wrap64 (a0 * a1))) = true := decide_eq_true c3; clear c3; have H' := Aside0.mk H; clear H
    go_wp2
    go_roundg k1
    case measure => have := HK1.out; omega
    case rel => exact ⟨(wrap64 (x5_1 + 1)), rfl, H', ⟨by have := HK1.out; omega⟩, by repeat (first | exact Drawn0.refl _ | apply Drawn0.step)⟩
   ·
    rw [if_neg c3] at H; have c3b0 : decide ((wrap64 (x5_1 * 64)) < (wrap64 (a0 * a1))) = false := decide_eq_false c3; clear c3; obtain rfl := Option.some.inj H
    go_wp2
    go_ret
    exact ⟨rfl, by repeat (first | exact Drawn0.refl _ | apply Drawn0.step)⟩

/-! ### credenzaref05_bit: function 104 -/
def credenzaref05_bit.l0 : Nat → Int → Int → Int → Option (Int)
 | 0, _, _, _ => none
 | k + 1, x0, x1, x5 => if x5 < x1 then (credenzaref05_bit.l0 k (IntKind.u64.wrap (Int.tdiv x0 2)) x1 (wrap64 (x5 + 1))) else (some (Int.tmod x0 2))
def credenzaref05_bit.f (k : Nat) (a0 : Int) (a1 : Int) : Option (Int) := credenzaref05_bit.l0 k a0 a1 0
theorem credenzaref05_bit.mono_l : ∀ k, (∀ y0 y1 y2, LeO (credenzaref05_bit.l0 k y0 y1 y2) (credenzaref05_bit.l0 (k + 1) y0 y1 y2))
 | 0 => fun _ _ _ r h => by simp [credenzaref05_bit.l0] at h
 | k + 1 => by
  have ih0 := credenzaref05_bit.mono_l k
  ·
   intro y0 y1 y2; unfold credenzaref05_bit.l0
   repeat' first
   | (with_reducible exact ih0 _ _ _)
   | (with_reducible exact LeO.refl _)
   | (with_reducible exact LeO.none _)
   | (with_reducible refine LeO.ite ?_ ?_)
   | (with_reducible refine LeO.bind ?_ (fun _ => ?_))
theorem credenzaref05_bit.mono : ∀ a0 a1 k, LeO (credenzaref05_bit.f k a0 a1) (credenzaref05_bit.f (k + 1) a0 a1) := by
 intro a0 a1 k; have ih0 := credenzaref05_bit.mono_l k; unfold credenzaref05_bit.f
 repeat' first
   | (with_reducible exact ih0 _ _ _)
   | (with_reducible exact LeO.refl _)
   | (with_reducible exact LeO.none _)
   | (with_reducible refine LeO.ite ?_ ?_)
   | (with_reducible refine LeO.bind ?_ (fun _ => ?_))
set_option maxHeartbeats 8000000 in
set_option maxRecDepth 100000 in
theorem credenzaref05_bit.calls (k : Nat) (a0 : Int) (a1 : Int) (r : Int) (w : World) (h : credenzaref05_bit.f k a0 a1 = some r) :
  Calls Try.prog 104 #[.int .u64 a0, .int .i64 a1] w fun e w' => e = .returned (.int .u64 r) ∧ Drawn0 w w' := by
 have H := h; clear h; unfold credenzaref05_bit.f at H; have H' := Aside0.mk H; clear H
 go_enter Try.func104, Try.ntmps104
 go_wp2
 go_loopg [0, 5] k (fun kq v0 v5 w' => ∃ (x0_1 : Int) (x5_1 : Int), v0 = .int .u64 x0_1 ∧ v5 = .int .i64 x5_1 ∧ Aside0 (credenzaref05_bit.l0 kq x0_1 a1 x5_1 = some r) ∧ Aside0 (kq ≤ k) ∧ Drawn0 w w')
 case atStart => exact ⟨(a0), (0), rfl, rfl, H', ⟨Nat.le_refl _⟩, by repeat (first | exact Drawn0.refl _ | apply Drawn0.step)⟩
 case round =>
  clear H'; (try clear c1); (try clear p2); obtain ⟨x0_1, x5_1, rfl, rfl, HA, HK1, ⟨m1, rfl⟩⟩ := hrel
  cases gk with
  | zero => exact absurd HA.out (by simp [credenzaref05_bit.l0])
  | succ k1 =>
   have H := HA.out; clear HA; simp only [credenzaref05_bit.l0] at H
   by_cases c3 : x5_1 < a1
   ·
    rw [if_pos c3] at H; have c3b0 : decide (x5_1 < a1) = true := decide_eq_true c3; clear c3; have H' := Aside0.mk H; clear H
    go_wp2
    go_roundg k1
    case measure => have := HK1.out; omega
    case rel => exact ⟨(IntKind.u64.wrap (Int.tdiv x0_1 2)), (wrap64 (x5_1 + 1)), rfl, rfl, H', ⟨by have := HK1.out; omega⟩, by repeat (first | exact Drawn0.refl _ | apply Drawn0.step)⟩
   ·
    rw [if_neg c3] at H; have c3b0 : decide (x5_1 < a1) = false := decide_eq_false c3; clear c3; obtain rfl := Option.some.inj H
    go_wp2
    go_ret
    exact ⟨rfl, by repeat (first | exact Drawn0.refl _ | apply Drawn0.step)⟩

/-! ### credenzaref05_power: function 105 -/
def credenzaref05_power.l0 : Nat → Int → Int → Int → Option (Int)
 | 0, _, _, _ => none
 | k + 1, x0, x3, x4 => if x4 < x0 then (credenzaref05_power.l0 k x0 (IntKind.u64.wrap (x3 * 2)) (wrap64 (x4 + 1))) else (some x3)
def credenzaref05_power.f (k : Nat) (a0 : Int) : Option (Int) := credenzaref05_power.l0 k a0 1 0
theorem credenzaref05_power.mono_l : ∀ k, (∀ y0 y1 y2, LeO (credenzaref05_power.l0 k y0 y1 y2) (credenzaref05_power.l0 (k + 1) y0 y1 y2))
 | 0 => fun _ _ _ r h => by simp [credenzaref05_power.l0] at h
 | k + 1 => by
  have ih0 := credenzaref05_power.mono_l k
  ·
   intro y0 y1 y2; unfold credenzaref05_power.l0
   repeat' first
   | (with_reducible exact ih0 _ _ _)
   | (with_reducible exact LeO.refl _)
   | (with_reducible exact LeO.none _)
   | (with_reducible refine LeO.ite ?_ ?_)
   | (with_reducible refine LeO.bind ?_ (fun _ => ?_))
theorem credenzaref05_power.mono : ∀ a0 k, LeO (credenzaref05_power.f k a0) (credenzaref05_power.f (k + 1) a0) := by
 intro a0 k; have ih0 := credenzaref05_power.mono_l k; unfold credenzaref05_power.f
 repeat' first
   | (with_reducible exact ih0 _ _ _)
   | (with_reducible exact LeO.refl _)
   | (with_reducible exact LeO.none _)
   | (with_reducible refine LeO.ite ?_ ?_)
   | (with_reducible refine LeO.bind ?_ (fun _ => ?_))
set_option maxHeartbeats 8000000 in
set_option maxRecDepth 100000 in
theorem credenzaref05_power.calls (k : Nat) (a0 : Int) (r : Int) (w : World) (h : credenzaref05_power.f k a0 = some r) :
  Calls Try.prog 105 #[.int .i64 a0] w fun e w' => e = .returned (.int .u64 r) ∧ Drawn0 w w' := by
 have H := h; clear h; unfold credenzaref05_power.f at H; have H' := Aside0.mk H; clear H
 go_enter Try.func105, Try.ntmps105
 go_wp2
 go_loopg [3, 4] k (fun kq v3 v4 w' => ∃ (x3_1 : Int) (x4_1 : Int), v3 = .int .u64 x3_1 ∧ v4 = .int .i64 x4_1 ∧ Aside0 (credenzaref05_power.l0 kq a0 x3_1 x4_1 = some r) ∧ Aside0 (kq ≤ k) ∧ Drawn0 w w')
 case atStart => exact ⟨(1), (0), rfl, rfl, H', ⟨Nat.le_refl _⟩, by repeat (first | exact Drawn0.refl _ | apply Drawn0.step)⟩
 case round =>
  clear H'; (try clear c1); obtain ⟨x3_1, x4_1, rfl, rfl, HA, HK1, ⟨m1, rfl⟩⟩ := hrel
  cases gk with
  | zero => exact absurd HA.out (by simp [credenzaref05_power.l0])
  | succ k1 =>
   have H := HA.out; clear HA; simp only [credenzaref05_power.l0] at H
   by_cases c2 : x4_1 < a0
   ·
    rw [if_pos c2] at H; have c2b0 : decide (x4_1 < a0) = true := decide_eq_true c2; clear c2; have H' := Aside0.mk H; clear H
    go_wp2
    go_roundg k1
    case measure => have := HK1.out; omega
    case rel => exact ⟨(IntKind.u64.wrap (x3_1 * 2)), (wrap64 (x4_1 + 1)), rfl, rfl, H', ⟨by have := HK1.out; omega⟩, by repeat (first | exact Drawn0.refl _ | apply Drawn0.step)⟩
   ·
    rw [if_neg c2] at H; have c2b0 : decide (x4_1 < a0) = false := decide_eq_false c2; clear c2; obtain rfl := Option.some.inj H
    go_wp2
    go_ret
    exact ⟨rfl, by repeat (first | exact Drawn0.refl _ | apply Drawn0.step)⟩

end Go.Proofs.Ytekenaclmplocaa.PPageQuantizes
