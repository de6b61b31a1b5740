-- Written by a program of this session (wip/tools/mkprint.py over the kit's print).
import Derived.Test.YtekenaclmplocaaPPageParsesx0
import Derived.Test.YtekenaclmplocaaPPageParsesx18
namespace Go.Proofs.Ytekenaclmplocaa.PPageParses
open Go.RowKit Go.Proofs.YtekenaclmplocaaW.PrintWords Go.Proofs.YtekenaclmplocaaW.PrintLast Go.Proofs.YtekenaclmplocaaW.PrintMore
attribute [local go_sem] max2_int min2_int max_two min_two max_three min_three max_four min_four
set_option linter.unusedVariables false
set_option maxHeartbeats 8000000
set_option maxRecDepth 100000
set_option linter.unusedSimpArgs false

def F84.l0 : Nat → List Int → Int → Int → Int → List Int → Option (List Int)
 | 0, _, _, _, _, _ => none
 | k + 1, x3, x4, x507000, x507001, x507002 => if x4 < (x507002.length : Int) then (if 0 ≤ x4 then ((F83.f x507000 x507001 x507002 (rd x507002 x4)).bind fun t508 => (if x3.length < 35184372088832 then (F84.l0 k (x3 ++ [t508]) (wrap64 (x4 + 1)) x507000 x507001 x507002) else (none))) else (none)) else (some x3)
def F84.f (k : Nat) (a0_0 : Int) (a0_1 : Int) (l0_2 : List Int) : Option (List Int) := F84.l0 k ([] : List Int) 0 a0_0 a0_1 l0_2
theorem F84.mono_l : ∀ k, (∀ y0 y1 y2 y3 y4, LeO (F84.l0 k y0 y1 y2 y3 y4) (F84.l0 (k + 1) y0 y1 y2 y3 y4))
 | 0 => fun _ _ _ _ _ r h => by simp [F84.l0] at h
 | k + 1 => by
  have ih0 := F84.mono_l k
  ·
   intro y0 y1 y2 y3 y4; unfold F84.l0
   repeat' with_reducible first | exact ih0 _ _ _ _ _ | exact LeO.refl _ | exact LeO.none _ | refine LeO.ite ?_ ?_ | refine LeO.bind ?_ (fun _ => ?_)
theorem F84.mono : ∀ a0 a1 a2 k, LeO (F84.f k a0 a1 a2) (F84.f (k + 1) a0 a1 a2) := by
 intro a0 a1 a2 k; have ih0 := F84.mono_l k; unfold F84.f
 repeat' with_reducible first | exact ih0 _ _ _ _ _ | exact LeO.refl _ | exact LeO.none _ | refine LeO.ite ?_ ?_ | refine LeO.bind ?_ (fun _ => ?_)
def F84.T5 : Bool × List (List Nat × List Nat) := (true, [([], []), ([], []), ([], []), ([2], [2]), ([], []), ([3, 4], [3, 4]), ([5], [5]), ([1, 6], [1, 6]), ([7], [7]), ([0, 8, 7], [0, 8]), ([9, 9, 0, 1, 2, 3, 4, 5, 6, 7, 8, 9], [0, 9])])
def F84.B5 : List Nat := [0, 0, 0, 4, 0, 28, 60, 126, 254, 511, 1023]
theorem F84.tab5 : rtab .any (opsOf Try.f84 5) = F84.T5 := by kernel_rfl
theorem F84.bits5 : waitsOk F84.T5.2 F84.B5 = true := by kernel_rfl
theorem F84.calls (k : Nat) (a0_0 : Int) (a0_1 : Int) (A0_2 : Option Addr) (c0_2 : Nat) (l0_2 : List Int) (r : List Int) (w : World) (hr0_2 : Kd.C (Kd.int .i64) w A0_2 l0_2.length l0_2) (hc0_2 : l0_2.length ≤ c0_2) (h : F84.f k a0_0 a0_1 l0_2 = some r) :
  Calls Try.prog 84 #[.agg #[.int .i32 a0_0, .int .u32 a0_1, .slice A0_2 l0_2.length c0_2]] w fun e w' => ∃ v0_ : Value, e = .returned (v0_) ∧ Kd.R (Kd.int .i32) 21 w' w.heap.size (fun _ => True) v0_ r ∧ Below w.heap.size w w' := by
 have hu98 := Try.underlying98; have HR0_2 := aM hr0_2; have HC0_2 := aM hc0_2; clear hr0_2 hc0_2; have HB := aM (Below.refl w.heap.size w); have H := h; clear h; unfold F84.f at H; have H' := aM H; clear H
 go_enter Try.func84, Try.ntmps84
 go_wp2_with (first | ((with_reducible refine gate_dst (N := 1) rfl ?_); refine bxE 1 #[.int .i32 a0_0, .int .u32 a0_1, .slice A0_2 l0_2.length c0_2] 98 (h := ?_); intro gb506 hg w2 hbox hb; have BK506 := aM (hbox); have GW506 := gE hg HB; have GE506 := gE hg HB; replace HB := bst HB hb; clear hb hbox hg))
 go_loopg [3, 4] k (fun kq v3 v4 w' => ∃ (x3_1 : List Int) (x4_1 : Int), v4 = .int .i64 x4_1 ∧ Aside0 (F84.l0 kq x3_1 x4_1 a0_0 a0_1 l0_2 = some r) ∧ Aside0 (kq ≤ k) ∧ Aside0 (Kd.R (Kd.int .i32) 21 w' w.heap.size (fun _ => True) v3 x3_1) ∧ Aside0 (w'.heap[gb506]? = some (.cells #[.int .i32 a0_0, .int .u32 a0_1, (.slice A0_2 l0_2.length c0_2)] 98 (0, 0))) ∧ Aside0 (Below w.heap.size w w'))
 case atStart => exact ⟨(([] : List Int)), (0), rfl, H', ⟨Nat.le_refl _⟩, ⟨by first | exact Kd.R_nil _ _ _ _ _ | exact Kd.N_nil _ _ _ _ _ | exact Kd.V_nil _ _ _ _ _ | exact Kd.Q_nil _ _ _ _ _ | exact Kd.S_nil _ _ _ _ _⟩, BK506, HB⟩
 case round =>
  clear H'; (try clear p2); obtain ⟨x3_1, x4_1, rfl, HA, HK1, HO_3, BK506, HB⟩ := hrel
  cases gk with
  | zero => exact absurd HA.out (by simp [F84.l0])
  | succ k1 =>
   have H := HA.out; clear HA; simp only [F84.l0] at H
   by_cases c3 : x4_1 < (l0_2.length : Int)
   ·
    rw [if_pos c3] at H; have c3b0 : decide (x4_1 < (l0_2.length : Int)) = true := dT c3; clear c3; obtain ⟨c4, H⟩ := ifp H; have c4b0 : decide (0 ≤ x4_1) = true := dT c4; clear c4; obtain ⟨t508, A5, H⟩ := bnd H; obtain ⟨c6, H⟩ := ifp H; have LMc6 := aM c6; clear c6; obtain ⟨y509, hy509⟩ : ∃ y_ : List Int, y_ = (x3_1 ++ [t508]) := ⟨_, rfl⟩; (replace H : (F84.l0 k1 y509 (wrap64 (x4_1 + 1)) a0_0 a0_1 l0_2) = some r := by rw [hy509]; exact H); have Ny509 := aM hy509; clear hy509; have H' := aM H; clear H; have hz7 := bx3 BK506.out
    try go_wp2
    replace HO_3 := aM (Kd.R_drew HO_3.out); replace BK506 := aM (blk_drew BK506.out); replace HB := aM (below_drew1 HB.out); have p507 : 0 ≤ (x4_1 : Int) := oD; have q507 : x4_1 < (l0_2.length : Int) := oD; obtain ⟨ad507, e507, hx507_0⟩ := Kd.at_int HR0_2.out x4_1 p507 q507; have hw507_0 := hx507_0
    cases e507
    replace hx507_0 := cU HB hx507_0; replace p507 := eq_true p507; replace q507 := eq_true q507
    refine start_ (n := 11) (S := fun w' => w'.cell? ⟨gb506, 0, none⟩ = some (.int .i32 a0_0) ∧ w'.cell? ⟨gb506, 1, none⟩ = some (.int .u32 a0_1) ∧ w'.cell? ⟨gb506, 2, none⟩ = some (.slice (some ad507) l0_2.length c0_2) ∧ w'.cell? (ad507.add (x4_1).toNat) = some (.int .i64 (rd l0_2 x4_1))) (ds := []) (bA 11 0) (by kernel_rfl) rfl (by kernel_rfl) ⟨cL BK506 0, cL BK506 1, cL BK506 2, (cU HB hw507_0 :)⟩ (fun hHeld => ?_); refine with_tabW F84.tab5 F84.bits5 (fun HT_ HW_ => ?_)
    generalize wr.drew = w8 at HO_3 BK506 HB hx507_0 hHeld ⊢
    refine pT 11 0 12 1 HT_ (h := ?_)
    refine pT 11 2 14 5 HT_ (h := ?_)
    refine pT 11 4 16 21 HT_ (h := ?_)
    refine tT 11 1 13 23 HT_ HW_ hHeld (h := ?_)
    refine tT 11 3 15 31 HT_ HW_ hHeld (h := ?_)
    refine pT 11 5 17 63 HT_ (h := ?_)
    refine tT 11 6 18 127 HT_ HW_ hHeld (h := ?_)
    refine one_ (i := 7) (N := some 19) (bA 11 255) rfl rfl (one_of HT_.out (by kernel_rfl)) (by decide) (fun K hK => ?_)
    refine gA Try.func83 #[.agg #[.int .i32 a0_0, .int .u32 a0_1, .slice (some ad507) l0_2.length c0_2], .int .i64 (rd l0_2 x4_1)] (h := ?_)
    with_reducible refine (F83.calls a0_0 a0_1 _ _ l0_2 (rd l0_2 x4_1) t508 _ ?side1 ?side2 A5.out).mono ?_
    (case side1 => with_reducible exact (Kd.C_below HR0_2.out HB.out)); (case side2 => exact HC0_2.out); rintro e w9 ⟨rfl, hb⟩
    refine ⟨_, rfl, ?_⟩
    replace HO_3 := aM (Kd.R_below (kR HO_3.out) hb); replace BK506 := aM (blk_below (g := gb506) (o := .cells #[.int .i32 a0_0, .int .u32 a0_1, .slice (some ad507) l0_2.length c0_2] 98 (0, 0)) (bK BK506.out) hb); replace HB := aM (below_step bZ hb); (try clear hb); (try clear hb2); (try clear hk); (try clear hi)
    refine hK.out _ _ ⟨cL BK506 0, cL BK506 1, cL BK506 2, (cU HB hw507_0 :)⟩ (fun hHeld => ?_)
    clear hK K
    refine nT 19 (h := ?_)
    refine one_ (i := 8) (N := some 20) (bA 11 511) rfl rfl (one_of HT_.out (by kernel_rfl)) (by decide) (fun K hK => ?_)
    refine value_ (w1 := ?_) (v := ?_) (by rfl) rfl ?_ ?_
    rotate_left 2
    ·
     go_simp
     constructor
     ·
      rfl
     ·
      rfl
    refine hK.out _ _ ⟨(blk_cell (blk_alloc BK506.out _) 0).trans rfl, (blk_cell (blk_alloc BK506.out _) 1).trans rfl, (blk_cell (blk_alloc BK506.out _) 2).trans rfl, (World.cell?_alloc_lt _ _ _ (World.block_lt_of_cell? _ _ ((cU HB hw507_0 :)))).trans ((cU HB hw507_0 :))⟩ (fun hHeld => ?_)
    clear hK K
    refine nT 20 (h := ?_)
    refine one_ (i := 9) (N := some 21) (bA 11 1023) rfl rfl (one_of HT_.out (by kernel_rfl)) (by decide) (fun K hK => ?_)
    refine Kd.R_append_step (Kd.int .i32) (w0 := w) w.heap.size (by rfl) (.tmp 12) (.tmp 20) 43 21 (.int .i32 0) 4 rfl Try.underlying43 info21 rfl (by decide) (by omega) u3 x3_1 t508 [.int .i32 t508] (fun _ => True) (fun _ => False) rfl rfl ?aP (fun _ hk => hk.elim) ?aF ?aO ?aB ?aS ?aL ?_
    (case aP => exact rfl); (case aB => exact bZ); (case aF => exact (fun _ _ => trivial)); (case aO => exact (kR HO_3.out)); (case aS => exact (below_size bZ)); (case aL => have := LMc6.out; omega); intro v510 w10 ho hb hg hat; rw [← Ny509.out] at ho; have n0_ := aM (blk_grown (g := gb506) (o := .cells #[.int .i32 a0_0, .int .u32 a0_1, .slice (some ad507) l0_2.length c0_2] 98 (0, 0)) (bK BK506.out) hg (Kd.R_ne HO_3.out BK506.out (by decide))); have n1_ := aM (hb); have n2_ := aM (ho); clear BK506; clear HB; clear HO_3; have BK506 := n0_; have HB := n1_; have HO511 := n2_; clear n0_ n1_ n2_; clear ho hb hg hat
    refine hK.out _ _ ⟨cL BK506 0, cL BK506 1, cL BK506 2, (cU HB hw507_0 :)⟩ (fun hHeld => ?_)
    clear hK K
    refine nT 21 (h := ?_)
    refine pT 11 10 3 2047 HT_ (h := ?_)
    refine done_ (done_of HT_.out (by kernel_rfl)) ?_
    try go_wp2
    go_roundg k1
    case measure => have := HK1.out; omega
    case rel => exact ⟨(y509), (wrap64 (x4_1 + 1)), rfl, H', ⟨by have := HK1.out; omega⟩, HO511, BK506, HB⟩
   ·
    rw [if_neg c3] at H; have c3b0 : decide (x4_1 < (l0_2.length : Int)) = false := dF c3; clear c3; obtain rfl := oI H; have hz11 := bx3 BK506.out
    go_wp2
    go_ret
    exact ⟨_, rfl, HO_3.out, HB.out⟩

def F55.f (k : Nat) (a0_0 : Int) (a0_1 : Int) (a0_2 : Int) (a0_3 : Int) (a0_4 : Int) (a0_5 : Int) (a0_6 : Int) (l0_7 : List (S98)) (l0_8 : List (S98)) (a1 : Int) : Option (List Int) := if 0 ≤ a1 then (if a1 < (l0_8.length : Int) then ((F84.f k ((rd_T98 l0_8 a1).f0) ((rd_T98 l0_8 a1).f1) ((rd_T98 l0_8 a1).f2)).bind fun t514 => (some t514)) else (none)) else (none)
theorem F55.mono : ∀ a0 a1 a2 a3 a4 a5 a6 a7 a8 a9 k, LeO (F55.f k a0 a1 a2 a3 a4 a5 a6 a7 a8 a9) (F55.f (k + 1) a0 a1 a2 a3 a4 a5 a6 a7 a8 a9) := by
 intro a0 a1 a2 a3 a4 a5 a6 a7 a8 a9 k; unfold F55.f
 repeat' with_reducible first | exact F84.mono _ _ _ _ | exact LeO.refl _ | exact LeO.none _ | refine LeO.ite ?_ ?_ | refine LeO.bind ?_ (fun _ => ?_)
theorem F55.calls (k : Nat) (a0_0 : Int) (a0_1 : Int) (a0_2 : Int) (a0_3 : Int) (a0_4 : Int) (a0_5 : Int) (a0_6 : Int) (A0_7 : Option Addr) (c0_7 : Nat) (l0_7 : List (S98)) (A0_8 : Option Addr) (c0_8 : Nat) (l0_8 : List (S98)) (a1 : Int) (r : List Int) (w : World) (hr0_7 : Kd.C k98 w A0_7 l0_7.length l0_7) (hc0_7 : l0_7.length ≤ c0_7) (hr0_8 : Kd.C k98 w A0_8 l0_8.length l0_8) (hc0_8 : l0_8.length ≤ c0_8) (h : F55.f k a0_0 a0_1 a0_2 a0_3 a0_4 a0_5 a0_6 l0_7 l0_8 a1 = some r) :
  Calls Try.prog 55 #[.agg #[.int .i64 a0_0, .int .i64 a0_1, .int .i64 a0_2, .int .i64 a0_3, .int .i64 a0_4, .int .i64 a0_5, .int .i64 a0_6, .slice A0_7 l0_7.length c0_7, .slice A0_8 l0_8.length c0_8], .int .i64 a1] w fun e w' => ∃ v0_ : Value, e = .returned (v0_) ∧ Kd.R (Kd.int .i32) 21 w' w.heap.size (fun _ => True) v0_ r ∧ Below w.heap.size w w' := by
 have hu56 := Try.underlying56; have hu98 := Try.underlying98; have HR0_7 := aM hr0_7; have HC0_7 := aM hc0_7; clear hr0_7 hc0_7; have HR0_8 := aM hr0_8; have HC0_8 := aM hc0_8; clear hr0_8 hc0_8; have HB := aM (Below.refl w.heap.size w); have H := h; clear h; unfold F55.f at H; obtain ⟨c3, H⟩ := ifp H; have c3b0 : decide (0 ≤ a1) = true := dT c3; clear c3; obtain ⟨c4, H⟩ := ifp H; have c4b0 : decide (a1 < (l0_8.length : Int)) = true := dT c4; clear c4; obtain ⟨t514, A5, H⟩ := bnd H; obtain rfl := oI H
 go_enter Try.func55, Try.ntmps55
 go_wp2_with (first | ((with_reducible refine gate_dst (N := 2) rfl ?_); refine bxE 2 #[.int .i64 a0_0, .int .i64 a0_1, .int .i64 a0_2, .int .i64 a0_3, .int .i64 a0_4, .int .i64 a0_5, .int .i64 a0_6, .slice A0_7 l0_7.length c0_7, .slice A0_8 l0_8.length c0_8] 56 (h := ?_); intro gb512 hg w6 hbox hb; have BK512 := aM (hbox); have GW512 := gE hg HB; have GE512 := gE hg HB; replace HB := bst HB hb; clear hb hbox hg; have hz7 := bx9 BK512.out; have p513 : 0 ≤ (a1 : Int) := oD; have q513 : a1 < (l0_8.length : Int) := oD; obtain ⟨ad513, A513_2, c513_2, e513, hx513_0, hx513_1, hx513_2, hl513_2, hi513_2⟩ := at_T98 HR0_8.out a1 p513 q513; cases e513; replace hx513_0 := cU HB hx513_0; replace hx513_1 := cU HB hx513_1; replace hx513_2 := cU HB hx513_2; have HR513_2 := aM hi513_2; have HC513_2 := aM hl513_2; clear hi513_2 hl513_2; replace p513 := eq_true p513; replace q513 := eq_true q513) | ((with_reducible refine gate_callee (f := 84) rfl ?_); refine gL 10 Try.func84 #[.agg #[.int .i32 ((rd_T98 l0_8 a1).f0), .int .u32 ((rd_T98 l0_8 a1).f1), .slice A513_2 ((rd_T98 l0_8 a1).f2).length c513_2]] (h := ?_); (with_reducible refine (F84.calls k ((rd_T98 l0_8 a1).f0) ((rd_T98 l0_8 a1).f1) _ _ ((rd_T98 l0_8 a1).f2) t514 _ ?side1 ?side2 A5.out).mono ?_); (case side1 => with_reducible exact (Kd.C_below HR513_2.out HB.out)); (case side2 => exact HC513_2.out); rintro e w8 ⟨v515, rfl, ho0, hb⟩; refine ⟨_, rfl, ?_⟩; have HO516 := aM (Kd.R_lower ho0 (bsz HB)); replace BK512 := kst BK512 hb; replace HB := bst HB hb; clear hb ho0))
 go_ret
 exact ⟨_, rfl, HO516.out, HB.out⟩

def F85.l0 : Nat → Int → Int → ByteArray → Int → Option (ByteArray)
 | 0, _, _, _, _ => none
 | k + 1, x0, x1, x5, x6 => if x6 < x1 then ((some (([(Int.tmod x0 256) % 256] : List Int) : List Int)).bind fun y517 => (if (strOfNums y517).size + x5.size ≤ 9223372036854775807 then (F85.l0 k (IntKind.u64.wrap (Int.tdiv x0 256)) x1 ((strOfNums y517) ++ x5) (wrap64 (x6 + 1))) else (none))) else (some x5)
def F85.f (k : Nat) (a0 : Int) (a1 : Int) : Option (ByteArray) := F85.l0 k a0 a1 (⟨#[]⟩ : ByteArray) 0
theorem F85.mono_l : ∀ k, (∀ y0 y1 y2 y3, LeO (F85.l0 k y0 y1 y2 y3) (F85.l0 (k + 1) y0 y1 y2 y3))
 | 0 => fun _ _ _ _ r h => by simp [F85.l0] at h
 | k + 1 => by
  have ih0 := F85.mono_l k
  ·
   intro y0 y1 y2 y3; unfold F85.l0
   repeat' with_reducible first | exact ih0 _ _ _ _ | exact LeO.refl _ | exact LeO.none _ | refine LeO.ite ?_ ?_ | refine LeO.bind ?_ (fun _ => ?_)
theorem F85.mono : ∀ a0 a1 k, LeO (F85.f k a0 a1) (F85.f (k + 1) a0 a1) := by
 intro a0 a1 k; have ih0 := F85.mono_l k; unfold F85.f
 repeat' with_reducible first | exact ih0 _ _ _ _ | exact LeO.refl _ | exact LeO.none _ | refine LeO.ite ?_ ?_ | refine LeO.bind ?_ (fun _ => ?_)
theorem F85.calls (k : Nat) (a0 : Int) (a1 : Int) (r : ByteArray) (w : World) (h : F85.f k a0 a1 = some r) :
  Calls Try.prog 85 #[.int .u64 a0, .int .i64 a1] w fun e w' => e = .returned (.string r) ∧ Below w.heap.size w w' := by
 have HB := aM (Below.refl w.heap.size w); have H := h; clear h; unfold F85.f at H; have H' := aM H; clear H
 go_enter Try.func85, Try.ntmps85
 go_wp2
 go_loopg [0, 5, 6] k (fun kq v0 v5 v6 w' => ∃ (x0_1 : Int) (x5_1 : ByteArray) (x6_1 : Int), v0 = .int .u64 x0_1 ∧ v5 = .string x5_1 ∧ v6 = .int .i64 x6_1 ∧ Aside0 (F85.l0 kq x0_1 a1 x5_1 x6_1 = some r) ∧ Aside0 (kq ≤ k) ∧ Aside0 (Below w.heap.size w w'))
 case atStart => exact ⟨(a0), ((⟨#[]⟩ : ByteArray)), (0), rfl, rfl, rfl, H', ⟨Nat.le_refl _⟩, HB⟩
 case round =>
  clear H'; (try clear p2); obtain ⟨x0_1, x5_1, x6_1, rfl, rfl, rfl, HA, HK1, HB⟩ := hrel
  cases gk with
  | zero => exact absurd HA.out (by simp [F85.l0])
  | succ k1 =>
   have H := HA.out; clear HA; simp only [F85.l0] at H
   by_cases c3 : x6_1 < a1
   ·
    rw [if_pos c3] at H; have c3b0 : decide (x6_1 < a1) = true := dT c3; clear c3; obtain ⟨y517, hy517⟩ : ∃ y_ : List Int, y_ = (([(Int.tmod x0_1 256) % 256] : List Int)) := ⟨_, rfl⟩; (replace H : (if (strOfNums y517).size + x5_1.size ≤ 9223372036854775807 then (F85.l0 k1 (IntKind.u64.wrap (Int.tdiv x0_1 256)) a1 ((strOfNums y517) ++ x5_1) (wrap64 (x6_1 + 1))) else (none)) = some r := by rw [hy517]; exact H); have Ny517 := aM hy517; clear hy517; obtain ⟨c4, H⟩ := ifp H; have c4b0 := eq_true c4; have c4b1 : decide ((strOfNums y517).size + x5_1.size ≤ 9223372036854775807) = true := dT c4
    try have c4b2 : (9223372036854775807 < (strOfNums y517).size + x5_1.size) = False := eq_false (Nat.not_lt.2 c4)
    (try (have c4b3 := c4b2; simp only [ByteArray.size_append] at c4b3)); have H' := aM H; clear H
    go_wp2_with (first | ((with_reducible refine gate_dst (N := 15) rfl ?_); refine Kd.R_lit (Kd.int .u8) _ 5 ?hg (N := 15) ?hd (xs := ([(Int.tmod x0_1 256) % 256] : List Int)) (inner := [.int .u8 ((Int.tmod x0_1 256) % 256)]) (ok := fun _ => True) (okp := fun _ => True) ?hr ?hp (fun _ hk => hk) trivial (Below.refl _ _) (Nat.le_refl _) (by simp) ?_; (case hd => rfl); (case hg => rfl); (case hr => first | (go_simp; done) | (go_simp; rfl)); (case hp => exact (Reps.one (show Kd.M (Kd.int .u8) _ _ _ ((Int.tmod x0_1 256) % 256) [.int .u8 ((Int.tmod x0_1 256) % 256)] from rfl) (Reps.none _ _))); intro v518 w5 ho6 hb hg_ hnew_; clear hg_ hnew_; (first | rw [← Ny517.out] at ho6 | (simp only [Int.reduceToNat] at ho6; rw [← Ny517.out] at ho6)); have HO519 := aM (Kd.R_lower ho6 (bsz HB)); replace HB := bst HB hb; clear hb ho6; have hcv7 := own_string (P := Try.prog) Try.underlying36 Try.underlying5 Try.underlying9 (Kd.own_of_R HO519.out)))
    go_roundg k1
    case measure => have := HK1.out; omega
    case rel => exact ⟨(IntKind.u64.wrap (Int.tdiv x0_1 256)), ((strOfNums y517) ++ x5_1), (wrap64 (x6_1 + 1)), rfl, rfl, rfl, H', ⟨by have := HK1.out; omega⟩, HB⟩
   ·
    rw [if_neg c3] at H; have c3b0 : decide (x6_1 < a1) = false := dF c3; clear c3; obtain rfl := oI H
    go_wp2
    go_ret
    exact ⟨rfl, HB.out⟩

def F101.f (k : Nat) (a0 : Int) : Option (ByteArray) := (F85.f k (IntKind.u64.wrap (wrap64 ((wrap64 (a0)) + 4294967296))) 4).bind fun t520 => (some t520)
theorem F101.mono : ∀ a0 k, LeO (F101.f k a0) (F101.f (k + 1) a0) := by
 intro a0 k; unfold F101.f
 repeat' with_reducible first | exact F85.mono _ _ _ | exact LeO.refl _ | exact LeO.none _ | refine LeO.ite ?_ ?_ | refine LeO.bind ?_ (fun _ => ?_)
theorem F101.calls (k : Nat) (a0 : Int) (r : ByteArray) (w : World) (h : F101.f k a0 = some r) :
  Calls Try.prog 101 #[.int .i32 a0] w fun e w' => e = .returned (.string r) ∧ Below w.heap.size w w' := by
 have HB := aM (Below.refl w.heap.size w); have H := h; clear h; unfold F101.f at H; obtain ⟨t520, A2, H⟩ := bnd H; obtain rfl := oI H
 go_enter Try.func101, Try.ntmps101
 go_wp2_with (first | ((with_reducible refine gate_callee (f := 85) rfl ?_); refine gL 7 Try.func85 #[.int .u64 (IntKind.u64.wrap (wrap64 ((wrap64 (a0)) + 4294967296))), .int .i64 4] (h := ?_); (with_reducible refine (F85.calls k (IntKind.u64.wrap (wrap64 ((wrap64 (a0)) + 4294967296))) 4 t520 _ A2.out).mono ?_); rintro e w3 ⟨rfl, hb⟩; refine ⟨_, rfl, ?_⟩; replace HB := bst HB hb; clear hb))
 go_ret
 exact ⟨rfl, HB.out⟩

def F89.l0 : Nat → Int → Int → Int → Option (Int)
 | 0, _, _, _ => none
 | k + 1, x0, x1, x5 => if (wrap64 (x5 * 64)) < (wrap64 (x0 * x1)) then (F89.l0 k x0 x1 (wrap64 (x5 + 1))) else (some x5)
def F89.f (k : Nat) (a0 : Int) (a1 : Int) : Option (Int) := F89.l0 k a0 a1 0
theorem F89.mono_l : ∀ k, (∀ y0 y1 y2, LeO (F89.l0 k y0 y1 y2) (F89.l0 (k + 1) y0 y1 y2))
 | 0 => fun _ _ _ r h => by simp [F89.l0] at h
 | k + 1 => by
  have ih0 := F89.mono_l k
  ·
   intro y0 y1 y2; unfold F89.l0
   repeat' with_reducible first | exact ih0 _ _ _ | exact LeO.refl _ | exact LeO.none _ | refine LeO.ite ?_ ?_ | refine LeO.bind ?_ (fun _ => ?_)
theorem F89.mono : ∀ a0 a1 k, LeO (F89.f k a0 a1) (F89.f (k + 1) a0 a1) := by
 intro a0 a1 k; have ih0 := F89.mono_l k; unfold F89.f
 repeat' with_reducible first | exact ih0 _ _ _ | exact LeO.refl _ | exact LeO.none _ | refine LeO.ite ?_ ?_ | refine LeO.bind ?_ (fun _ => ?_)
theorem F89.calls (k : Nat) (a0 : Int) (a1 : Int) (r : Int) (w : World) (h : F89.f k a0 a1 = some r) :
  Calls Try.prog 89 #[.int .i64 a0, .int .i64 a1] w fun e w' => e = .returned (.int .i64 r) ∧ Drawn0 w w' := by
 have H := h; clear h; unfold F89.f at H; have H' := aM H; clear H
 go_enter Try.func89, Try.ntmps89
 go_wp2
 go_loopg [5] k (fun kq v5 w' => ∃ (x5_1 : Int), v5 = .int .i64 x5_1 ∧ Aside0 (F89.l0 kq a0 a1 x5_1 = some r) ∧ Aside0 (kq ≤ k) ∧ Drawn0 w w')
 case atStart => exact ⟨(0), rfl, H', ⟨Nat.le_refl _⟩, dR⟩
 case round =>
  clear H'; (try clear p2); obtain ⟨x5_1, rfl, HA, HK1, ⟨m1, rfl⟩⟩ := hrel
  cases gk with
  | zero => exact absurd HA.out (by simp [F89.l0])
  | succ k1 =>
   have H := HA.out; clear HA; simp only [F89.l0] at H
   by_cases c3 : (wrap64 (x5_1 * 64)) < (wrap64 (a0 * a1))
   ·
    rw [if_pos c3] at H; have c3b0 : decide ((wrap64 (x5_1 * 64)) < (wrap64 (a0 * a1))) = true := dT c3; clear c3; have H' := aM H; clear H
    go_wp2
    go_roundg k1
    case measure => have := HK1.out; omega
    case rel => exact ⟨(wrap64 (x5_1 + 1)), rfl, H', ⟨by have := HK1.out; omega⟩, dR⟩
   ·
    rw [if_neg c3] at H; have c3b0 : decide ((wrap64 (x5_1 * 64)) < (wrap64 (a0 * a1))) = false := dF c3; clear c3; obtain rfl := oI H
    go_wp2
    go_ret
    exact ⟨rfl, dR⟩

def F104.l0 : Nat → Int → Int → Int → Option (Int)
 | 0, _, _, _ => none
 | k + 1, x0, x1, x5 => if x5 < x1 then (F104.l0 k (IntKind.u64.wrap (Int.tdiv x0 2)) x1 (wrap64 (x5 + 1))) else (some (Int.tmod x0 2))
def F104.f (k : Nat) (a0 : Int) (a1 : Int) : Option (Int) := F104.l0 k a0 a1 0
theorem F104.mono_l : ∀ k, (∀ y0 y1 y2, LeO (F104.l0 k y0 y1 y2) (F104.l0 (k + 1) y0 y1 y2))
 | 0 => fun _ _ _ r h => by simp [F104.l0] at h
 | k + 1 => by
  have ih0 := F104.mono_l k
  ·
   intro y0 y1 y2; unfold F104.l0
   repeat' with_reducible first | exact ih0 _ _ _ | exact LeO.refl _ | exact LeO.none _ | refine LeO.ite ?_ ?_ | refine LeO.bind ?_ (fun _ => ?_)
theorem F104.mono : ∀ a0 a1 k, LeO (F104.f k a0 a1) (F104.f (k + 1) a0 a1) := by
 intro a0 a1 k; have ih0 := F104.mono_l k; unfold F104.f
 repeat' with_reducible first | exact ih0 _ _ _ | exact LeO.refl _ | exact LeO.none _ | refine LeO.ite ?_ ?_ | refine LeO.bind ?_ (fun _ => ?_)
theorem F104.calls (k : Nat) (a0 : Int) (a1 : Int) (r : Int) (w : World) (h : F104.f k a0 a1 = some r) :
  Calls Try.prog 104 #[.int .u64 a0, .int .i64 a1] w fun e w' => e = .returned (.int .u64 r) ∧ Drawn0 w w' := by
 have H := h; clear h; unfold F104.f at H; have H' := aM H; clear H
 go_enter Try.func104, Try.ntmps104
 go_wp2
 go_loopg [0, 5] k (fun kq v0 v5 w' => ∃ (x0_1 : Int) (x5_1 : Int), v0 = .int .u64 x0_1 ∧ v5 = .int .i64 x5_1 ∧ Aside0 (F104.l0 kq x0_1 a1 x5_1 = some r) ∧ Aside0 (kq ≤ k) ∧ Drawn0 w w')
 case atStart => exact ⟨(a0), (0), rfl, rfl, H', ⟨Nat.le_refl _⟩, dR⟩
 case round =>
  clear H'; (try clear c1); (try clear p2); obtain ⟨x0_1, x5_1, rfl, rfl, HA, HK1, ⟨m1, rfl⟩⟩ := hrel
  cases gk with
  | zero => exact absurd HA.out (by simp [F104.l0])
  | succ k1 =>
   have H := HA.out; clear HA; simp only [F104.l0] at H
   by_cases c3 : x5_1 < a1
   ·
    rw [if_pos c3] at H; have c3b0 : decide (x5_1 < a1) = true := dT c3; clear c3; have H' := aM H; clear H
    go_wp2
    go_roundg k1
    case measure => have := HK1.out; omega
    case rel => exact ⟨(IntKind.u64.wrap (Int.tdiv x0_1 2)), (wrap64 (x5_1 + 1)), rfl, rfl, H', ⟨by have := HK1.out; omega⟩, dR⟩
   ·
    rw [if_neg c3] at H; have c3b0 : decide (x5_1 < a1) = false := dF c3; clear c3; obtain rfl := oI H
    go_wp2
    go_ret
    exact ⟨rfl, dR⟩

def F105.l0 : Nat → Int → Int → Int → Option (Int)
 | 0, _, _, _ => none
 | k + 1, x0, x3, x4 => if x4 < x0 then (F105.l0 k x0 (IntKind.u64.wrap (x3 * 2)) (wrap64 (x4 + 1))) else (some x3)
def F105.f (k : Nat) (a0 : Int) : Option (Int) := F105.l0 k a0 1 0
theorem F105.mono_l : ∀ k, (∀ y0 y1 y2, LeO (F105.l0 k y0 y1 y2) (F105.l0 (k + 1) y0 y1 y2))
 | 0 => fun _ _ _ r h => by simp [F105.l0] at h
 | k + 1 => by
  have ih0 := F105.mono_l k
  ·
   intro y0 y1 y2; unfold F105.l0
   repeat' with_reducible first | exact ih0 _ _ _ | exact LeO.refl _ | exact LeO.none _ | refine LeO.ite ?_ ?_ | refine LeO.bind ?_ (fun _ => ?_)
theorem F105.mono : ∀ a0 k, LeO (F105.f k a0) (F105.f (k + 1) a0) := by
 intro a0 k; have ih0 := F105.mono_l k; unfold F105.f
 repeat' with_reducible first | exact ih0 _ _ _ | exact LeO.refl _ | exact LeO.none _ | refine LeO.ite ?_ ?_ | refine LeO.bind ?_ (fun _ => ?_)
theorem F105.calls (k : Nat) (a0 : Int) (r : Int) (w : World) (h : F105.f k a0 = some r) :
  Calls Try.prog 105 #[.int .i64 a0] w fun e w' => e = .returned (.int .u64 r) ∧ Drawn0 w w' := by
 have H := h; clear h; unfold F105.f at H; have H' := aM H; clear H
 go_enter Try.func105, Try.ntmps105
 go_wp2
 go_loopg [3, 4] k (fun kq v3 v4 w' => ∃ (x3_1 : Int) (x4_1 : Int), v3 = .int .u64 x3_1 ∧ v4 = .int .i64 x4_1 ∧ Aside0 (F105.l0 kq a0 x3_1 x4_1 = some r) ∧ Aside0 (kq ≤ k) ∧ Drawn0 w w')
 case atStart => exact ⟨(1), (0), rfl, rfl, H', ⟨Nat.le_refl _⟩, dR⟩
 case round =>
  clear H'; (try clear c1); obtain ⟨x3_1, x4_1, rfl, rfl, HA, HK1, ⟨m1, rfl⟩⟩ := hrel
  cases gk with
  | zero => exact absurd HA.out (by simp [F105.l0])
  | succ k1 =>
   have H := HA.out; clear HA; simp only [F105.l0] at H
   by_cases c2 : x4_1 < a0
   ·
    rw [if_pos c2] at H; have c2b0 : decide (x4_1 < a0) = true := dT c2; clear c2; have H' := aM H; clear H
    go_wp2
    go_roundg k1
    case measure => have := HK1.out; omega
    case rel => exact ⟨(IntKind.u64.wrap (x3_1 * 2)), (wrap64 (x4_1 + 1)), rfl, rfl, H', ⟨by have := HK1.out; omega⟩, dR⟩
   ·
    rw [if_neg c2] at H; have c2b0 : decide (x4_1 < a0) = false := dF c2; clear c2; obtain rfl := oI H
    go_wp2
    go_ret
    exact ⟨rfl, dR⟩

end Go.Proofs.Ytekenaclmplocaa.PPageParses
