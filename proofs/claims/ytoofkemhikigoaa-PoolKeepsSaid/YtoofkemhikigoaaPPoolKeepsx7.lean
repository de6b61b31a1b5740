-- Written by a program of this session (wip/tools/mkprint.py over the kit's print).
import Derived.Test.YtoofkemhikigoaaPPoolKeepsx0
import Derived.Test.YtoofkemhikigoaaPPoolKeepsx6
namespace Go.Proofs.Ytoofkemhikigoaa.PPoolKeeps
open Go.RowKit Go.Proofs.YtoofkemhikigoaaW.PrintWords Go.Proofs.YtoofkemhikigoaaW.PrintLast Go.Proofs.YtoofkemhikigoaaW.PrintMore
attribute [local go_sem] max2_int min2_int max_two min_two max_three min_three max_four min_four   -- for this text's walks alone
set_option linter.unusedVariables false
set_option linter.unusedSimpArgs false

/-! ### credenzalaw10_PoolKeeps: function 6 -/
/-- A row of whole numbers of the call's own, in block b. -/
structure Ints (W : World) (b : Nat) (M : List Int) : Prop where
  hb : W.heap[b]? = some (.cells (M.map (Value.int .i64)).toArray 3 (0, 0))
theorem Ints.below {W W' : World} {b : Nat} {M : List Int} (h : Ints W b M) (hb : Below W.heap.size W W') : Ints W' b M := ⟨blk_below h.hb hb⟩
theorem Ints.mv {W W' : World} {b g s : Nat} {M : List Int} (h : Ints W b M) (hm : Mv g s W W') (h1 : b ≠ g) (h2 : b ≠ s) : Ints W' b M := ⟨(hm.kept.2 b (blk_lt h.hb) (fun e => e.elim h1 h2)).trans h.hb⟩
theorem Ints.drew {W : World} {b : Nat} {M : List Int} (h : Ints W b M) : Ints W.drew b M := ⟨h.hb⟩
theorem PoolAt.drew {W : World} {g s : Nat} {L : List Slot} {f : Int} (h : PoolAt W g s L f) : PoolAt W.drew g s L f := h.below (below_drew1 (Below.refl _ _))
theorem Ints.cell {W : World} {b : Nat} {M : List Int} (h : Ints W b M) {i : Nat} {x : Int} (hx : M[i]? = some x) : W.cell? ⟨b, i, none⟩ = some (.int .i64 x) := (blk_cell h.hb i).trans (by rw [List.getElem?_toArray, List.getElem?_map, hx]; rfl)
theorem Ints.cellS {W : World} {b : Nat} {M : List Int} (h : Ints W b M) {i : Nat} (hi : i < M.length) (u : Value) : (W.setCell ⟨b, i, none⟩ u).cell? ⟨b, i, none⟩ = some u := (blk_cell (blk_put h.hb i u rfl) i).trans (by rw [Array.getElem?_setIfInBounds_self_of_lt (by simpa using hi)])
theorem Ints.set {W : World} {b : Nat} {M : List Int} (h : Ints W b M) (i : Nat) (x : Int) : Ints (W.setCell ⟨b, i, none⟩ (.int .i64 x)) b (M.set i x) := ⟨blk_put h.hb i _ (by rw [List.setIfInBounds_toArray, List.map_set])⟩
theorem PoolAt.aside {W : World} {g s b : Nat} {L : List Slot} {f : Int} (h : PoolAt W g s L f) (hb : ∃ cs, W.heap[b]? = some (.cells cs 3 (0, 0))) (i : Nat) (u : Value) : PoolAt (W.setCell ⟨b, i, none⟩ u) g s L f := by
  obtain ⟨cs, hb⟩ := hb
  refine ⟨h.ne, blk_far h.hg (p := ⟨b, i, none⟩) (blk_ne h.hg hb (by decide)) u, blk_far h.hs (p := ⟨b, i, none⟩) (blk_ne h.hs hb (by decide)) u, fun x hx hr => ?_, h.hn, h.hr, h.hf⟩
  obtain ⟨p, e, hp, n⟩ := h.hp x hx hr
  obtain ⟨-, -, -, -, -, -, -, -, -, -, -, -, -, ds, hd⟩ := id hp
  exact ⟨p, e, hp.same (Below.heap_setCell W ⟨b, i, none⟩ u p (blk_ne hd hb (by decide))), n⟩
theorem marks_made (n : Nat) (hn : n ≤ 16384) (W : World) : (Instr.makeSlice 28 (.int .i64 (n : Int)) (.int .i64 (n : Int))).run Try.prog W = .ok (.slice (some ⟨W.heap.size, 0, none⟩) n n) (W.alloc (.cells (Array.replicate n (Value.int .i64 0)) 3)) := by
  obtain ⟨i0, hi⟩ : ∃ i, Try.prog.info? 3 = some i := Option.isSome_iff_exists.mp (by kernel_rfl)
  have hb : (Try.prog.info? 3).map (fun i => (i.size, i.bytes)) = some (1, 8) := by kernel_rfl
  have hz : ((Try.prog.info? 3).bind (fun i => i.zero)) = some (.int .i64 0) := by kernel_rfl
  rw [hi] at hb hz
  have hb1 : i0.size = 1 := congrArg Prod.fst (Option.some.inj hb)
  have hb2 : i0.bytes = 8 := congrArg Prod.snd (Option.some.inj hb)
  have hr := run_make (P := Try.prog) W 28 3 i0 (.int .i64 0) Try.underlying28 hi hz .i64 .i64 (n : Int) (n : Int) (by omega) (Int.le_refl _) (by rw [hb2]; omega) (by omega)
  simp only [Int.toNat_natCast] at hr
  rw [hb1] at hr
  have e : madeCells (Value.int .i64 0).cells (n * 1) = Array.replicate n (Value.int .i64 0) := by
    apply Array.ext
    · simp [madeCells]
    · intro i h1 h2
      simp [madeCells, Value.cells, Nat.mod_one]
  rw [e] at hr
  exact hr
theorem mk_all : ((List.range 1024).all fun i => mk (i : Int) == (i : Int)) = true := by decide +kernel
theorem mk_small (m : Int) (h0 : 0 ≤ m) (h1 : m ≤ 1023) : mk m = m := by
  obtain ⟨n, rfl⟩ := Int.eq_ofNat_of_zero_le h0
  have h := (List.all_eq_true.mp mk_all) n (List.mem_range.mpr (by omega))
  simpa using h
theorem PgAt.drewP {W : World} {b : Nat} {m : Int} (h : PgAt W b m) : PgAt W.drew b m := h
def pkeeps.T32 : Bool × List (List Nat × List Nat) := (true, [([], []), ([0], [0]), ([1], [1]), ([2], [2]), ([3, 2], [2, 3]), ([2, 4], [2, 4]), ([5, 2], [5]), ([6], [6]), ([7, 6, 6], [6, 7]), ([8, 6], [6, 8]), ([6], [6]), ([6], [6]), ([10, 11, 6], [6, 10, 11]), ([12, 6], [6, 12]), ([9, 13, 6], [6, 9, 13]), ([6, 14], [6, 14]), ([15, 8], [15]), ([16], [16]), ([16], [16]), ([17, 18, 16, 16], [16, 17, 18]), ([19, 16], [16, 19]), ([16, 20], [16, 20])])
def pkeeps.B32 : List Nat := [0, 1, 3, 7, 15, 31, 63, 127, 255, 511, 127, 127, 3199, 7295, 16383, 32767, 65535, 131071, 131071, 524287, 1048575, 2097151]
theorem pkeeps.tab32 : rtab .any (opsOf Try.f6 32) = pkeeps.T32 := by kernel_rfl
theorem pkeeps.bits32 : waitsOk pkeeps.T32.2 pkeeps.B32 = true := by kernel_rfl
set_option maxHeartbeats 8000000 in
set_option maxRecDepth 100000 in
theorem poolKeeps.calls (k : Nat) (hk : madeAll k = true) (s0 : Int) (A : Option Addr) (c : Nat) (l : List Int) (w : World) (hr0 : Kd.C (Kd.int .i64) w A l.length l) (hc0 : l.length ≤ c) :
    Calls Try.prog 6 #[.int .i64 s0, .slice A l.length c] w fun e w' => e = .returned (.bool true) ∧ Below w.heap.size w w' := by
  have HK := Aside0.mk hk
  have HR := Aside0.mk hr0
  have HB := Aside0.mk (Below.refl w.heap.size w)
  have hfd := field6
  clear hk hr0 hc0
  have small : ∀ (b1 b2 b3 : Bool), decide (s0 < 1) = b1 → decide (60 < s0) = b2 → decide (60 < l.length) = b3 → (b1 || b2 || b3) = true → Calls Try.prog 6 #[.int .i64 s0, .slice A l.length c] w fun e w' => e = .returned (.bool true) ∧ Below w.heap.size w w' := by
    intro b1 b2 b3 d1 d2 d3 hb
    have d4 : decide (60 < (l.length : Int)) = b3 := by rw [← d3]; exact decide_eq_decide.mpr (by omega)
    cases b1 <;> cases b2 <;> cases b3
    case false.false.false => cases hb
    all_goals
      clear hb
      go_enter Try.func6, Try.ntmps6
      go_wp2_with (go_at_call 11; (refine (poolAwake.calls k HK.out _).mono ?_); rintro e w1 ⟨rfl, hb⟩; replace HB := Aside0.mk (below_step HB.out hb); clear hb)
      go_ret
      exact ⟨rfl, HB.out⟩
  by_cases q1 : s0 < 1
  · exact small _ _ _ (decide_eq_true q1) rfl rfl rfl
  by_cases q2 : 60 < s0
  · exact small _ _ _ (decide_eq_false q1) (decide_eq_true q2) rfl rfl
  by_cases q3 : 60 < l.length
  · exact small _ _ _ (decide_eq_false q1) (decide_eq_false q2) (decide_eq_true q3) rfl
  clear small
  obtain ⟨n, rfl⟩ := Int.eq_ofNat_of_zero_le (show 0 ≤ s0 by omega)
  have hn : n ≤ 60 := by omega
  have d1 : decide ((n : Int) < 1) = false := decide_eq_false q1
  have d2 : decide (60 < (n : Int)) = false := decide_eq_false q2
  have d3 : decide (60 < l.length) = false := decide_eq_false q3
  have d4 : decide (60 < (l.length : Int)) = false := decide_eq_false (by omega)
  have HN := Aside0.mk hn
  have HL := Aside0.mk (show l.length ≤ 60 by omega)
  clear q1 q2 q3 hn
  go_enter Try.func6, Try.ntmps6
  go_upto_region 6 with (go_at_call 12; (refine (poolNew.calls n (by have := HN.out; omega) _).mono ?_); rintro e w1 ⟨g, s, rfl, hp, hg, hs, hb⟩; have P := Aside0.mk hp; have G := Aside0.mk hg; have S := Aside0.mk hs; replace HB := Aside0.mk (below_step HB.out hb); clear hp hg hs hb)
  have hmk := marks_made n (by have := HN.out; omega) w1
  go_upto_region 7 with (fail)
  have MB : Aside0 (Ints (w1.alloc (.cells (Array.replicate n (Value.int .i64 0)) 3)) w1.heap.size (List.replicate n 0)) := ⟨⟨by rw [show ((List.replicate n (0 : Int)).map (Value.int .i64)).toArray = Array.replicate n (Value.int .i64 0) from by simp]; exact blk_new w1 _⟩⟩
  have hgl := P.out.gl
  have hsl := P.out.sl
  obtain ⟨mb, hmb⟩ : ∃ mb, mb = w1.heap.size := ⟨_, rfl⟩
  rw [← hmb] at MB hmk ⊢
  have NM : Aside0 (mb ≠ g ∧ mb ≠ s ∧ w.heap.size ≤ mb) := ⟨by omega, by omega, by rw [hmb]; exact below_size HB.out⟩
  replace P := Aside0.mk (P.out.below (below_alloc (Below.refl w1.heap.size w1) (.cells (Array.replicate n (Value.int .i64 0)) 3)))
  replace HB : Aside0 (Below w.heap.size w (w1.alloc (.cells (Array.replicate n (Value.int .i64 0)) 3))) := ⟨below_step HB.out (below_alloc (Below.refl w1.heap.size w1) _)⟩
  clear hgl hsl hmk hmb
  generalize w1.alloc (.cells (Array.replicate n (Value.int .i64 0)) 3) = w2 at P HB MB ⊢
  go_wp2
  go_loopw [46] (fun i W' => ∃ (j : Nat) (L : List Slot) (M : List Int), i = .int .i64 j ∧ Aside0 (j ≤ n ∧ L.length = n ∧ M.length = n ∧ (∀ (i : Nat) (x : Slot), L[i]? = some x → (i < j → x.refs = 1 ∧ M[i]? = some x.mark ∧ 0 ≤ x.mark ∧ x.mark ≤ 1023) ∧ (j ≤ i → x.refs = 0))) ∧ Aside0 (PoolAt W' g s L ((n : Int) - j)) ∧ Aside0 (Ints W' mb M) ∧ Aside0 (Below w.heap.size w W')) (fun i _ => n - (intOf i).toNat)
  case atStart => exact ⟨0, List.replicate n ⟨0, 0, none⟩, List.replicate n 0, rfl, ⟨Nat.zero_le _, List.length_replicate, List.length_replicate, fun i x hx => ⟨fun h => absurd h (Nat.not_lt_zero _), fun _ => by have e := List.eq_of_mem_replicate (List.mem_of_getElem? hx); subst e; rfl⟩⟩, ⟨by simpa using P.out⟩, MB, HB⟩
  case round =>
    clear HB P MB
    obtain ⟨j, L, M, rfl, HJ, P, MB, HB⟩ := hrel
    by_cases q : j < n
    · have e1 : decide ((j : Int) < (n : Int)) = true := decide_eq_true (by omega)
      have e2 : decide (j < n) = true := decide_eq_true q
      have hw : wrap64 ((j : Int) + 1) = (j : Int) + 1 := by have := HN.out; simp only [wrap64]; omega
      have hw2 : wrap64 ((j : Int) + 100) = (j : Int) + 100 := by have := HN.out; simp only [wrap64]; omega
      have p0 : (0 : Int) ≤ (j : Int) := by omega
      have p1 : (j : Int) < (n : Int) := by omega
      have hjm : j < M.length := by have := HJ.out.2.2.1; omega
      obtain ⟨y, hy⟩ : ∃ y, L[j]? = some y := ⟨_, List.getElem?_eq_getElem (by have := HJ.out.2.1; omega)⟩
      have HY := Aside0.mk hy
      obtain ⟨z0, hz0⟩ : ∃ z, M[j]? = some z := ⟨_, List.getElem?_eq_getElem hjm⟩
      have hc := MB.out.cell hz0
      clear hz0
      have hz := blk_frozen MB.out.hb j
      have HJM := Aside0.mk hjm
      clear hy hjm
      go_upto_region 11 with (fail)
      have hc1 := MB.out.cellS HJM.out (.int .i64 ((j : Int) + 100))
      replace P := Aside0.mk (P.out.aside ⟨_, MB.out.hb⟩ j (.int .i64 ((j : Int) + 100)))
      replace MB := Aside0.mk (MB.out.set j ((j : Int) + 100))
      replace HB : Aside0 (Below w.heap.size w (wr.setCell ⟨mb, j, none⟩ (.int .i64 ((j : Int) + 100)))) := ⟨HB.out.setCell (p := ⟨mb, j, none⟩) NM.out.2.2 _⟩
      clear hc hz
      generalize wr.setCell ⟨mb, j, none⟩ (.int .i64 ((j : Int) + 100)) = w3 at P MB HB hc1 ⊢
      have hmk : mk ((j : Int) + 100) = (j : Int) + 100 := mk_small _ (by omega) (by have := HN.out; omega)
      go_wp2_with (first | (go_at_call 22; (refine (madeP.calls k HK.out _ _).mono ?_); rintro e w4 ⟨b1, rfl, hp, hge, hb⟩; have hgl := P.out.gl; have hsl := P.out.sl; have Q := Aside0.mk hp; have N1 : Aside0 (b1 ≠ g ∧ b1 ≠ s) := ⟨by omega, by omega⟩; clear hgl hsl hge; replace P := Aside0.mk (P.out.below hb); replace MB := Aside0.mk (MB.out.below hb); replace HB := Aside0.mk (below_step HB.out hb); clear hb hp) | (go_at_call 21; (refine (poolPut.calls g s L _ b1 _ j y HY.out ((HJ.out.2.2.2 j y HY.out).2 (Nat.le_refl _)) (fun i x hi hx => by rw [((HJ.out.2.2.2 i x hx).1 hi).1]; exact n10) _ P.out Q.out N1.out.1 N1.out.2 (by have := HN.out; omega)).mono ?_); rintro e w5 ⟨rfl, hp, hm⟩; replace P := Aside0.mk hp; replace MB := Aside0.mk (MB.out.mv hm NM.out.1 NM.out.2.1); replace HB := Aside0.mk (HB.out.trans (hm.bel _ G.out S.out (below_size HB.out))); clear Q N1 hp hm))
      rw [hw]
      refine ⟨⟨j + 1, L.set j ⟨1, mk ((j : Int) + 100), some b1⟩, M.set j ((j : Int) + 100), rfl, ⟨by omega, by rw [List.length_set]; exact HJ.out.2.1, by rw [List.length_set]; exact HJ.out.2.2.1, fun i x hx => ?_⟩, ⟨by rw [show (n : Int) - ((j + 1 : Nat) : Int) = (n : Int) - j + -1 from by omega]; exact P.out⟩, MB, HB⟩, by simp only [intOf]; omega⟩
      rcases set_at hx with ⟨rfl, rfl⟩ | ⟨hne, hx⟩
      · refine ⟨fun _ => ⟨rfl, ?_, ?_, ?_⟩, fun h => by omega⟩
        · rw [List.getElem?_set_self HJM.out, hmk]
        · show (0 : Int) ≤ mk _; rw [hmk]; omega
        · show mk _ ≤ (1023 : Int); rw [hmk]; have := HN.out; omega
      · refine ⟨fun h => ?_, fun h => (HJ.out.2.2.2 i x hx).2 (by omega)⟩
        have h1 := (HJ.out.2.2.2 i x hx).1 (by omega)
        exact ⟨h1.1, by rw [List.getElem?_set_ne (fun e => hne e.symm)]; exact h1.2.1, h1.2.2⟩
    · have e1 : decide ((j : Int) < (n : Int)) = false := decide_eq_false (by omega)
      have e2 : decide (j < n) = false := decide_eq_false q
      obtain rfl : j = n := by have := HJ.out.1; omega
      have HA : Aside0 (∀ (i : Nat) (x : Slot), L[i]? = some x → x.refs = 1 ∧ M[i]? = some x.mark ∧ 0 ≤ x.mark ∧ x.mark ≤ 1023) := ⟨fun i x hx => (HJ.out.2.2.2 i x hx).1 (by have := HJ.out.2.1; have := (List.getElem?_eq_some_iff.mp hx).1; omega)⟩
      have HE := Aside0.mk HJ.out.2.1
      have HM := Aside0.mk HJ.out.2.2.1
      replace P : Aside0 (PoolAt wr g s L 0) := ⟨by have h := P.out; rwa [Int.sub_self] at h⟩
      clear HJ e1 e2
      go_wp2
      go_loopw [74] (fun i W' => ∃ (a : Nat) (L : List Slot) (M : List Int), i = .int .i64 a ∧ Aside0 (a ≤ l.length ∧ L.length = j ∧ M.length = j ∧ ∀ (i : Nat) (x : Slot), L[i]? = some x → x.refs = 1 ∧ M[i]? = some x.mark ∧ 0 ≤ x.mark ∧ x.mark ≤ 1023) ∧ Aside0 (PoolAt W' g s L 0) ∧ Aside0 (Ints W' mb M) ∧ Aside0 (Below w.heap.size w W')) (fun i _ => l.length - (intOf i).toNat)
      case atStart => exact ⟨0, L, M, rfl, ⟨Nat.zero_le _, HE.out, HM.out, HA.out⟩, P, MB, HB⟩
      case round =>
        clear HB P HA HE HM MB
        obtain ⟨a, L, M, rfl, HJ, P, MB, HB⟩ := hrel
        by_cases q : a < l.length
        · have e1 : decide ((a : Int) < (l.length : Int)) = true := decide_eq_true (by omega)
          have e2 : decide (a < l.length) = true := decide_eq_true q
          have hw : wrap64 ((a : Int) + 1) = (a : Int) + 1 := by have := HL.out; simp only [wrap64]; omega
          have p0 : (0 : Int) ≤ (a : Int) := by omega
          have p1 : (a : Int) < (l.length : Int) := by omega
          obtain ⟨ad, he, hx0⟩ := Kd.at_int HR.out (a : Int) p0 p1
          cases he
          simp only [Int.toNat_natCast] at hx0
          replace hx0 := (HB.out.cell (World.block_lt_of_cell? w _ hx0)).trans hx0
          obtain ⟨d, hd⟩ : ∃ d, rd l (a : Int) = d := ⟨_, rfl⟩
          rw [hd] at hx0
          clear hd
          by_cases q1 : d < 0
          · have f1 : decide (d < 0) = true := decide_eq_true q1
            go_wp2
            rw [hw]
            exact ⟨⟨a + 1, L, M, rfl, ⟨by omega, HJ.out.2.1, HJ.out.2.2.1, HJ.out.2.2.2⟩, P, MB, HB⟩, by simp only [intOf]; omega⟩
          have f1 : decide (d < 0) = false := decide_eq_false q1
          by_cases q2 : (j : Int) ≤ d
          · have f2 : decide ((j : Int) ≤ d) = true := decide_eq_true q2
            go_wp2
            rw [hw]
            exact ⟨⟨a + 1, L, M, rfl, ⟨by omega, HJ.out.2.1, HJ.out.2.2.1, HJ.out.2.2.2⟩, P, MB, HB⟩, by simp only [intOf]; omega⟩
          obtain ⟨m, rfl⟩ := Int.eq_ofNat_of_zero_le (Int.not_lt.mp q1)
          have f2 : decide ((j : Int) ≤ (m : Int)) = false := decide_eq_false q2
          have f3 : decide (j ≤ m) = false := decide_eq_false (by omega)
          have m0 : (0 : Int) ≤ (m : Int) := by omega
          have m1 : (m : Int) < (j : Int) := by omega
          have hm : m < L.length := by have := HJ.out.2.1; omega
          have hm2 : m < M.length := by have := HJ.out.2.2.1; omega
          obtain ⟨y, hy⟩ : ∃ y, L[m]? = some y := ⟨_, List.getElem?_eq_getElem hm⟩
          have HM := Aside0.mk hm
          have HM2 := Aside0.mk hm2
          have HY := Aside0.mk hy
          have HY1 := Aside0.mk (HJ.out.2.2.2 m y hy).1
          clear hm hy q1 q2 hm2
          have A1 := Aside0.mk True.intro
          go_upto_region 21 with (first | (go_at_call 23; (refine (poolHold.calls g s L _ m y HY.out (by rw [HY1.out]; exact n10) (by rw [HY1.out]; decide) _ P.out).mono ?_); rintro e w7 ⟨rfl, hp, hm⟩; rw [HY1.out] at hp; replace P : Aside0 (PoolAt w7 g s (L.set m ⟨2, y.mark, y.pg⟩) 0) := ⟨hp⟩; replace MB := Aside0.mk (MB.out.mv hm NM.out.1 NM.out.2.1); replace HB := Aside0.mk (HB.out.trans (hm.bel _ G.out S.out (below_size HB.out))); clear hp hm) | (go_at_call 27; first | (have q_ := A1.out; clear A1; (refine (poolDrop.calls g s _ _ m ⟨2, y.mark, y.pg⟩ (by rw [List.getElem?_set_self HM.out]) n20 (by decide) _ P.out).mono ?_); clear q_; rintro e w8 ⟨rfl, hp, hm⟩; rw [List.set_set] at hp; replace P : Aside0 (PoolAt w8 g s (L.set m ⟨1, y.mark, y.pg⟩) 0) := ⟨hp⟩; replace MB := Aside0.mk (MB.out.mv hm NM.out.1 NM.out.2.1); replace HB := Aside0.mk (HB.out.trans (hm.bel _ G.out S.out (below_size HB.out))); clear hp hm) | ((refine (poolDrop.calls g s _ _ m ⟨1, y.mark, y.pg⟩ (by rw [List.getElem?_set_self HM.out]) n10 (by decide) _ P.out).mono ?_); rintro e w9 ⟨rfl, hp, hm⟩; rw [List.set_set] at hp; replace P : Aside0 (PoolAt w9 g s (L.set m ⟨0, y.mark, none⟩) 1) := ⟨hp⟩; replace MB := Aside0.mk (MB.out.mv hm NM.out.1 NM.out.2.1); replace HB := Aside0.mk (HB.out.trans (hm.bel _ G.out S.out (below_size HB.out))); clear hp hm)))
          have HZ : Aside0 ((L.set m ⟨0, y.mark, none⟩)[m]? = some ⟨0, y.mark, none⟩) := ⟨by rw [List.getElem?_set_self HM.out]⟩
          have HF : Aside0 (∀ (i : Nat) (x : Slot), i < m → (L.set m ⟨0, y.mark, none⟩)[i]? = some x → ¬ x.refs = 0) := ⟨fun i x hi hx => by
            rcases set_at hx with ⟨rfl, -⟩ | ⟨-, hx⟩
            · omega
            · rw [(HJ.out.2.2.2 i x hx).1]
              exact n10⟩
          go_upto_region 24 with (go_at_call 24; (refine (poolGetNo.calls g s _ _ (m : Int) (fun x _ hx => by rw [Int.toNat_natCast, HZ.out] at hx; obtain rfl := Option.some.inj hx; rfl) _ P.out).mono ?_); rintro e w10 ⟨rfl, rfl⟩; skip)
          have hw3 : wrap64 (300 + (a : Int)) = 300 + (a : Int) := by have := HL.out; simp only [wrap64]; omega
          have hc := MB.out.cell (List.getElem?_eq_getElem HM2.out)
          have hz := blk_frozen MB.out.hb m
          go_upto_region 25 with (fail)
          have hc1 := MB.out.cellS HM2.out (.int .i64 (300 + (a : Int)))
          replace P := Aside0.mk (P.out.aside ⟨_, MB.out.hb⟩ m (.int .i64 (300 + (a : Int))))
          replace MB := Aside0.mk (MB.out.set m (300 + (a : Int)))
          replace HB : Aside0 (Below w.heap.size w (w9.setCell ⟨mb, m, none⟩ (.int .i64 (300 + (a : Int))))) := ⟨HB.out.setCell (p := ⟨mb, m, none⟩) NM.out.2.2 _⟩
          clear hc hz hx0
          generalize w9.setCell ⟨mb, m, none⟩ (.int .i64 (300 + (a : Int))) = w11 at P MB HB hc1 ⊢
          have hmk : mk (300 + (a : Int)) = 300 + (a : Int) := mk_small _ (by omega) (by have := HL.out; omega)
          go_upto_region 28 with (first | (go_at_call 22; (refine (madeP.calls k HK.out _ _).mono ?_); rintro e w12 ⟨b1, rfl, hp, hge, hb⟩; have hgl := P.out.gl; have hsl := P.out.sl; have Q := Aside0.mk hp; have N1 : Aside0 (b1 ≠ g ∧ b1 ≠ s) := ⟨by omega, by omega⟩; clear hgl hsl hge; replace P := Aside0.mk (P.out.below hb); replace MB := Aside0.mk (MB.out.below hb); replace HB := Aside0.mk (below_step HB.out hb); clear hb hp) | (go_at_call 21; (refine (poolPut.calls g s _ _ b1 _ m _ HZ.out rfl HF.out _ P.out Q.out N1.out.1 N1.out.2 (by decide)).mono ?_); rintro e w13 ⟨rfl, hp, hm⟩; rw [List.set_set] at hp; replace P : Aside0 (PoolAt w13 g s (L.set m ⟨1, mk (300 + (a : Int)), some b1⟩) 0) := ⟨hp⟩; replace MB := Aside0.mk (MB.out.mv hm NM.out.1 NM.out.2.1); replace HB := Aside0.mk (HB.out.trans (hm.bel _ G.out S.out (below_size HB.out))); clear Q N1 hp hm))
          rw [hmk] at P
          have HJ2 : Aside0 (a ≤ l.length ∧ (L.set m ⟨1, 300 + (a : Int), some b1⟩).length = j ∧ (M.set m (300 + (a : Int))).length = j ∧ ∀ (i : Nat) (x : Slot), (L.set m ⟨1, 300 + (a : Int), some b1⟩)[i]? = some x → x.refs = 1 ∧ (M.set m (300 + (a : Int)))[i]? = some x.mark ∧ 0 ≤ x.mark ∧ x.mark ≤ 1023) := ⟨HJ.out.1, by rw [List.length_set]; exact HJ.out.2.1, by rw [List.length_set]; exact HJ.out.2.2.1, fun i x hx => by
            rcases set_at hx with ⟨rfl, rfl⟩ | ⟨hne, hx⟩
            · exact ⟨rfl, by rw [List.getElem?_set_self HM2.out], by show (0 : Int) ≤ 300 + (a : Int); omega, by show 300 + (a : Int) ≤ 1023; have := HL.out; omega⟩
            · have h1 := HJ.out.2.2.2 i x hx
              exact ⟨h1.1, by rw [List.getElem?_set_ne (fun e => hne e.symm)]; exact h1.2.1, h1.2.2⟩⟩
          clear HJ HM HM2 HY HY1 HZ HF hc1 hmk
          generalize L.set m ⟨1, 300 + (a : Int), some b1⟩ = L1 at P HJ2
          generalize M.set m (300 + (a : Int)) = M1 at MB HJ2
          go_wp2
          go_loopw [137] (fun i W' => ∃ (t : Nat), i = .int .i64 t ∧ t ≤ j ∧ Aside0 (PoolAt W' g s L1 0) ∧ Aside0 (Ints W' mb M1) ∧ Aside0 (Below w.heap.size w W')) (fun i _ => j - (intOf i).toNat)
          case atStart => exact ⟨0, rfl, Nat.zero_le _, P, MB, HB⟩
          case round =>
            clear HB P MB
            obtain ⟨t, rfl, ht, P, MB, HB⟩ := hrel
            by_cases q : t < j
            · have e3 : decide ((t : Int) < (j : Int)) = true := decide_eq_true (by omega)
              have e4 : decide (t < j) = true := decide_eq_true q
              have hwt : wrap64 ((t : Int) + 1) = (t : Int) + 1 := by have := HN.out; simp only [wrap64]; omega
              have t0 : (0 : Int) ≤ (t : Int) := by omega
              have t1 : (t : Int) < (j : Int) := by omega
              obtain ⟨x, hx⟩ : ∃ x, L1[t]? = some x := ⟨_, List.getElem?_eq_getElem (by have := HJ2.out.2.1; omega)⟩
              have hx1 := HJ2.out.2.2.2 t x hx
              obtain ⟨xr, xm, xp⟩ := x
              obtain ⟨h1, hxm, h2, h3⟩ := hx1
              obtain rfl : xr = 1 := h1
              obtain ⟨b, eb, hq, -⟩ := P.out.hp _ (List.mem_of_getElem? hx) n10
              obtain rfl : xp = some b := eb
              have hmx : mk xm = xm := mk_small _ h2 h3
              have Q := Aside0.mk hq
              have HX := Aside0.mk hx
              have HXM := Aside0.mk hxm
              clear hx hq h2 h3 hxm
              go_upto_region 32 with (go_at_call 24; (refine (poolGet.calls g s _ _ t ⟨1, xm, some b⟩ b HX.out n10 rfl _ P.out).mono ?_); rintro e w14 ⟨rfl, rfl⟩; skip)
              replace P := Aside0.mk (P.out.drew)
              replace MB := Aside0.mk (MB.out.drew)
              replace Q := Aside0.mk (Q.out.drewP)
              replace HB := Aside0.mk (HB.out.drew)
              refine start_ (n := 22) (S := fun w' => w'.cell? ⟨mb, t, none⟩ = some (.int .i64 xm)) (ds := []) #[false, false, false, false, false, false, false, false, false, false, false, false, false, false, false, false, false, false, false, false, false, false] (by kernel_rfl) rfl rfl (MB.out.cell HXM.out) (fun hHeld => ?_); refine with_tabW pkeeps.tab32 pkeeps.bits32 (fun HT_ HW_ => ?_)
              generalize wr.drew = w15 at P MB Q HB hHeld ⊢
              refine pure_ (i := 0) (N := some 146) (v := ?_) (a' := ?_) #[true, false, false, false, false, false, false, false, false, false, false, false, false, false, false, false, false, false, false, false, false, false] rfl rfl (any_of HT_.out (by kernel_rfl)) (fun _ _ _ h => h) (Or.inl ⟨by rfl, ?_⟩) ?_ ?_
              rotate_left
              · intro w'
                go_simp
                with_reducible rfl
              rotate_left
              · simp only [Act.put, List.setIfInBounds_toArray, List.set_cons_zero, List.set_cons_succ, i64_w, i32_w, IntKind.wrap_u32]
                rfl
              refine pure_ (i := 1) (N := some 147) (v := ?_) (a' := ?_) #[true, true, false, false, false, false, false, false, false, false, false, false, false, false, false, false, false, false, false, false, false, false] rfl rfl (any_of HT_.out (by kernel_rfl)) (fun _ _ _ h => h) (Or.inl ⟨by rfl, ?_⟩) ?_ ?_
              rotate_left
              · intro w'
                go_simp
                with_reducible rfl
              rotate_left
              · simp only [Act.put, List.setIfInBounds_toArray, List.set_cons_zero, List.set_cons_succ, i64_w, i32_w, IntKind.wrap_u32]
                rfl
              refine pure_ (i := 2) (N := some 148) (v := ?_) (a' := ?_) #[true, true, true, false, false, false, false, false, false, false, false, false, false, false, false, false, false, false, false, false, false, false] rfl rfl (any_of HT_.out (by kernel_rfl)) (fun _ _ _ h => h) (Or.inl ⟨by rfl, ?_⟩) ?_ ?_
              rotate_left
              · intro w'
                go_simp
                with_reducible rfl
              rotate_left
              · simp only [Act.put, List.setIfInBounds_toArray, List.set_cons_zero, List.set_cons_succ, i64_w, i32_w, IntKind.wrap_u32]
                rfl
              refine pure_ (i := 3) (N := some 149) (v := ?_) (a' := ?_) #[true, true, true, true, false, false, false, false, false, false, false, false, false, false, false, false, false, false, false, false, false, false] rfl rfl (any_of HT_.out (by kernel_rfl)) (fun _ _ _ h => h) (Or.inl ⟨by rfl, ?_⟩) ?_ ?_
              rotate_left
              · intro w'
                go_simp
                with_reducible rfl
              rotate_left
              · simp only [Act.put, List.setIfInBounds_toArray, List.set_cons_zero, List.set_cons_succ, i64_w, i32_w, IntKind.wrap_u32]
                rfl
              refine pure_ (i := 4) (N := some 150) (v := ?_) (a' := ?_) #[true, true, true, true, true, false, false, false, false, false, false, false, false, false, false, false, false, false, false, false, false, false] rfl rfl (any_of HT_.out (by kernel_rfl)) (fun _ _ _ h => h) (Or.inl ⟨by rfl, ?_⟩) ?_ ?_
              rotate_left
              · intro w'
                go_simp
                with_reducible rfl
              rotate_left
              · simp only [Act.put, List.setIfInBounds_toArray, List.set_cons_zero, List.set_cons_succ, i64_w, i32_w, IntKind.wrap_u32]
                rfl
              refine pure_ (i := 5) (N := some 151) (v := ?_) (a' := ?_) #[true, true, true, true, true, true, false, false, false, false, false, false, false, false, false, false, false, false, false, false, false, false] rfl rfl (any_of HT_.out (by kernel_rfl)) (fun _ _ _ h => h) (Or.inl ⟨by rfl, ?_⟩) ?_ ?_
              rotate_left
              · intro w'
                go_simp
                with_reducible rfl
              rotate_left
              · simp only [Act.put, List.setIfInBounds_toArray, List.set_cons_zero, List.set_cons_succ, i64_w, i32_w, IntKind.wrap_u32]
                rfl
              refine pure_ (i := 6) (N := some 152) (v := ?_) (a' := ?_) #[true, true, true, true, true, true, true, false, false, false, false, false, false, false, false, false, false, false, false, false, false, false] rfl rfl (any_of HT_.out (by kernel_rfl)) (fun _ _ _ h => h) (Or.inl ⟨by rfl, ?_⟩) ?_ ?_
              rotate_left
              · intro w'
                go_simp
                with_reducible rfl
              rotate_left
              · simp only [Act.put, List.setIfInBounds_toArray, List.set_cons_zero, List.set_cons_succ, i64_w, i32_w, IntKind.wrap_u32]
                rfl
              refine pure_ (i := 7) (N := some 153) (v := ?_) (a' := ?_) #[true, true, true, true, true, true, true, true, false, false, false, false, false, false, false, false, false, false, false, false, false, false] rfl rfl (any_of HT_.out (by kernel_rfl)) (fun _ _ _ h => h) (Or.inl ⟨by rfl, ?_⟩) ?_ ?_
              rotate_left
              · intro w'
                go_simp
                with_reducible rfl
              rotate_left
              · simp only [Act.put, List.setIfInBounds_toArray, List.set_cons_zero, List.set_cons_succ, i64_w, i32_w, IntKind.wrap_u32]
                rfl
              refine pure_ (i := 10) (N := some 156) (v := ?_) (a' := ?_) #[true, true, true, true, true, true, true, true, false, false, true, false, false, false, false, false, false, false, false, false, false, false] rfl rfl (any_of HT_.out (by kernel_rfl)) (fun _ _ _ h => h) (Or.inl ⟨by rfl, ?_⟩) ?_ ?_
              rotate_left
              · intro w'
                go_simp
                with_reducible rfl
              rotate_left
              · simp only [Act.put, List.setIfInBounds_toArray, List.set_cons_zero, List.set_cons_succ, i64_w, i32_w, IntKind.wrap_u32]
                rfl
              refine pure_ (i := 11) (N := some 157) (v := ?_) (a' := ?_) #[true, true, true, true, true, true, true, true, false, false, true, true, false, false, false, false, false, false, false, false, false, false] rfl rfl (any_of HT_.out (by kernel_rfl)) (fun _ _ _ h => h) (Or.inl ⟨by rfl, ?_⟩) ?_ ?_
              rotate_left
              · intro w'
                go_simp
                with_reducible rfl
              rotate_left
              · simp only [Act.put, List.setIfInBounds_toArray, List.set_cons_zero, List.set_cons_succ, i64_w, i32_w, IntKind.wrap_u32]
                rfl
              refine pure_ (i := 12) (N := some 158) (v := ?_) (a' := ?_) #[true, true, true, true, true, true, true, true, false, false, true, true, true, false, false, false, false, false, false, false, false, false] rfl rfl (any_of HT_.out (by kernel_rfl)) (fun _ _ _ h => h) (Or.inl ⟨by rfl, ?_⟩) ?_ ?_
              rotate_left
              · intro w'
                go_simp
                with_reducible rfl
              rotate_left
              · simp only [Act.put, List.setIfInBounds_toArray, List.set_cons_zero, List.set_cons_succ, i64_w, i32_w, IntKind.wrap_u32]
                rfl
              refine take_ (i := 13) (N := some 159) (v := ?_) (a' := ?_) #[true, true, true, true, true, true, true, true, false, false, true, true, true, true, false, false, false, false, false, false, false, false] rfl rfl (take_ofW HT_.out HW_.out (by kernel_rfl)) (fun _ _ _ h => h) (Or.inl ⟨by rfl, ?_⟩) hHeld ?_ ?_
              rotate_left
              · intro w' s0
                go_simp
                with_reducible rfl
              rotate_left
              · simp only [Act.put, List.setIfInBounds_toArray, List.set_cons_zero, List.set_cons_succ, i64_w, i32_w, IntKind.wrap_u32]
                rfl
              refine one_ (i := 8) (N := some 154) #[true, true, true, true, true, true, true, true, true, false, true, true, true, true, false, false, false, false, false, false, false, false] rfl rfl (one_of HT_.out (by kernel_rfl)) (by decide) (fun K hK => ?_)
              refine goes_ Try.func25 (by kernel_rfl) rfl #[.pointer (some ⟨b, 0, none⟩)] (by rfl) rfl rfl (by simp only [List.map_toArray, List.map_cons, List.map_nil]; rfl) ?_
              with_reducible refine (poolHead.calls b xm _ Q.out).mono ?_
              rintro e w16 ⟨h0, h1, h2, h3, h4, h5, rfl, hb⟩
              refine ⟨_, rfl, ?_⟩
              have P2 := Aside0.mk (P.out.below hb)
              have MB2 := Aside0.mk (MB.out.below hb)
              have HB2 := Aside0.mk (below_step HB.out hb)
              clear hb P MB HB Q
              have P := P2
              have MB := MB2
              have HB := HB2
              clear P2 MB2 HB2
              refine hK.out _ _ (MB.out.cell HXM.out) (fun hHeld => ?_)
              clear hK K
              refine norm_ (a' := ?_) ?_ ?_
              rotate_left
              · show Act.put _ (some 154) _ = _
                simp only [Act.put, List.setIfInBounds_toArray, List.set_cons_zero, List.set_cons_succ, i64_w, i32_w, IntKind.wrap_u32]
                rfl
              refine pure_ (i := 9) (N := some 155) (v := ?_) (a' := ?_) #[true, true, true, true, true, true, true, true, true, true, true, true, true, true, false, false, false, false, false, false, false, false] rfl rfl (any_of HT_.out (by kernel_rfl)) (fun _ _ _ h => h) (Or.inl ⟨by rfl, ?_⟩) ?_ ?_
              rotate_left
              · intro w'
                go_simp
                with_reducible rfl
              rotate_left
              · simp only [Act.put, List.setIfInBounds_toArray, List.set_cons_zero, List.set_cons_succ, i64_w, i32_w, IntKind.wrap_u32]
                rfl
              refine pure_ (i := 14) (N := some 160) (v := ?_) (a' := ?_) #[true, true, true, true, true, true, true, true, true, true, true, true, true, true, true, false, false, false, false, false, false, false] rfl rfl (any_of HT_.out (by kernel_rfl)) (fun _ _ _ h => h) (Or.inl ⟨by rfl, ?_⟩) ?_ ?_
              rotate_left
              · intro w'
                go_simp
                with_reducible rfl
              rotate_left
              · simp only [Act.put, List.setIfInBounds_toArray, List.set_cons_zero, List.set_cons_succ, i64_w, i32_w, IntKind.wrap_u32]
                rfl
              refine pure_ (i := 15) (N := some 161) (v := ?_) (a' := ?_) #[true, true, true, true, true, true, true, true, true, true, true, true, true, true, true, true, false, false, false, false, false, false] rfl rfl (any_of HT_.out (by kernel_rfl)) (fun _ _ _ h => h) (Or.inl ⟨by rfl, ?_⟩) ?_ ?_
              rotate_left
              · intro w'
                go_simp
                with_reducible rfl
              rotate_left
              · simp only [Act.put, List.setIfInBounds_toArray, List.set_cons_zero, List.set_cons_succ, i64_w, i32_w, IntKind.wrap_u32]
                rfl
              refine pure_ (i := 16) (N := some 162) (v := ?_) (a' := ?_) #[true, true, true, true, true, true, true, true, true, true, true, true, true, true, true, true, true, false, false, false, false, false] rfl rfl (any_of HT_.out (by kernel_rfl)) (fun _ _ _ h => h) (Or.inl ⟨by rfl, ?_⟩) ?_ ?_
              rotate_left
              · intro w'
                go_simp
                with_reducible rfl
              rotate_left
              · simp only [Act.put, List.setIfInBounds_toArray, List.set_cons_zero, List.set_cons_succ, i64_w, i32_w, IntKind.wrap_u32]
                rfl
              refine pure_ (i := 17) (N := some 163) (v := ?_) (a' := ?_) #[true, true, true, true, true, true, true, true, true, true, true, true, true, true, true, true, true, true, false, false, false, false] rfl rfl (any_of HT_.out (by kernel_rfl)) (fun _ _ _ h => h) (Or.inl ⟨by rfl, ?_⟩) ?_ ?_
              rotate_left
              · intro w'
                go_simp
                with_reducible rfl
              rotate_left
              · simp only [Act.put, List.setIfInBounds_toArray, List.set_cons_zero, List.set_cons_succ, i64_w, i32_w, IntKind.wrap_u32]
                rfl
              refine pure_ (i := 18) (N := some 164) (v := ?_) (a' := ?_) #[true, true, true, true, true, true, true, true, true, true, true, true, true, true, true, true, true, true, true, false, false, false] rfl rfl (any_of HT_.out (by kernel_rfl)) (fun _ _ _ h => h) (Or.inl ⟨by rfl, ?_⟩) ?_ ?_
              rotate_left
              · intro w'
                go_simp
                with_reducible rfl
              rotate_left
              · simp only [Act.put, List.setIfInBounds_toArray, List.set_cons_zero, List.set_cons_succ, i64_w, i32_w, IntKind.wrap_u32]
                rfl
              refine one_ (i := 19) (N := some 165) #[true, true, true, true, true, true, true, true, true, true, true, true, true, true, true, true, true, true, true, true, false, false] rfl rfl (one_of HT_.out (by kernel_rfl)) (by decide) (fun K hK => ?_)
              refine goes_ Try.func26 (by kernel_rfl) rfl #[.pointer (some ⟨g, 0, none⟩), .int .i64 (t : Int)] (by rfl) rfl rfl (by simp only [List.map_toArray, List.map_cons, List.map_nil]; rfl) ?_
              with_reducible refine (poolRefs.calls g s _ _ t ⟨1, xm, some b⟩ HX.out n10 _ P.out).mono ?_
              rintro e w17 ⟨rfl, rfl⟩
              refine ⟨_, rfl, ?_⟩
              refine hK.out _ _ (MB.out.cell HXM.out) (fun hHeld => ?_)
              clear hK K
              refine norm_ (a' := ?_) ?_ ?_
              rotate_left
              · show Act.put _ (some 165) _ = _
                simp only [Act.put, List.setIfInBounds_toArray, List.set_cons_zero, List.set_cons_succ, i64_w, i32_w, IntKind.wrap_u32]
                rfl
              refine pure_ (i := 20) (N := some 166) (v := ?_) (a' := ?_) #[true, true, true, true, true, true, true, true, true, true, true, true, true, true, true, true, true, true, true, true, true, false] rfl rfl (any_of HT_.out (by kernel_rfl)) (fun _ _ _ h => h) (Or.inl ⟨by rfl, ?_⟩) ?_ ?_
              rotate_left
              · intro w'
                go_simp
                with_reducible rfl
              rotate_left
              · simp only [Act.put, List.setIfInBounds_toArray, List.set_cons_zero, List.set_cons_succ, i64_w, i32_w, IntKind.wrap_u32]
                rfl
              refine pure_ (i := 21) (N := some 167) (v := ?_) (a' := ?_) #[true, true, true, true, true, true, true, true, true, true, true, true, true, true, true, true, true, true, true, true, true, true] rfl rfl (any_of HT_.out (by kernel_rfl)) (fun _ _ _ h => h) (Or.inl ⟨by rfl, ?_⟩) ?_ ?_
              rotate_left
              · intro w'
                go_simp
                with_reducible rfl
              rotate_left
              · simp only [Act.put, List.setIfInBounds_toArray, List.set_cons_zero, List.set_cons_succ, i64_w, i32_w, IntKind.wrap_u32]
                rfl
              refine done_ (done_of HT_.out (by kernel_rfl)) ?_
              go_wp2
              rw [hwt]
              exact ⟨⟨t + 1, rfl, by omega, P, MB, HB⟩, by simp only [intOf]; omega⟩
            · have e3 : decide ((t : Int) < (j : Int)) = false := decide_eq_false (by omega)
              have e4 : decide (t < j) = false := decide_eq_false q
              go_wp2
              rw [hw]
              exact ⟨⟨a + 1, L1, M1, rfl, ⟨by omega, HJ2.out.2.1, HJ2.out.2.2.1, HJ2.out.2.2.2⟩, P, MB, HB⟩, by simp only [intOf]; omega⟩
        · have e1 : decide ((a : Int) < (l.length : Int)) = false := decide_eq_false (by omega)
          have e2 : decide (a < l.length) = false := decide_eq_false q
          go_wp2_with (first | (go_at_call 11; (refine (poolAwake.calls k HK.out _).mono ?_); rintro e w17 ⟨rfl, hb⟩; replace HB := Aside0.mk (below_step HB.out hb); clear hb))
          go_ret
          exact ⟨rfl, HB.out⟩

def credenzalaw10_PoolKeeps.f (k : Nat) (a0 : Int) (l1 : List Int) : Option Bool := if madeAll k = true then some true else none
theorem credenzalaw10_PoolKeeps.mono : ∀ a0 l1 k, LeO (credenzalaw10_PoolKeeps.f k a0 l1) (credenzalaw10_PoolKeeps.f (k + 1) a0 l1) := fun _ _ k => allLe k
theorem credenzalaw10_PoolKeeps.calls (k : Nat) (a0 : Int) (A1 : Option Addr) (c1 : Nat) (l1 : List Int) (r : Bool) (w : World) (hr1 : Kd.C (Kd.int .i64) w A1 l1.length l1) (hc1 : l1.length ≤ c1) (h : credenzalaw10_PoolKeeps.f k a0 l1 = some r) :
    Calls Try.prog 6 #[.int .i64 a0, .slice A1 l1.length c1] w fun e w' => e = .returned (.bool r) ∧ Below w.heap.size w w' := by
  obtain ⟨h1, rfl⟩ := allOf h
  exact poolKeeps.calls k h1 a0 A1 c1 l1 w hr1 hc1
-- calls: credenzalaw10_awake


/-- THE ONE PURE STATEMENT of credenzalaw10_PoolKeeps: yours. -/
def credenzalaw10_PoolKeeps.Pure : Prop := ∀ (a0 : Int) (l1 : List Int), (Lit.int .i64 a0).wf = true → l1.length ≤ maxLen → l1.length * 8 ≤ 140737488351232 → (∀ x ∈ l1, (Lit.int .i64 x).wf = true) → ∃ k, credenzalaw10_PoolKeeps.f k a0 l1 = some true
theorem credenzalaw10_PoolKeeps.walk (P : credenzalaw10_PoolKeeps.Pure) (a0 : Int) (a1 : Option Addr) (len1 cap1 : Nat) (z1 : List Int) (w : World) (w0 : (Lit.int .i64 a0).wf = true) (w1 : (a1 = none ∧ len1 = 0 ∧ cap1 = 0 ∧ z1 = []) ∨ ∃ x, a1 = some x ∧ len1 ≤ cap1 ∧ cap1 ≤ maxLen ∧ z1.length = cap1 ∧ (∀ i, i < z1.length → w.cell? (x.add i) = some (.int .i64 (z1.getD i 0))) ∧ ∀ n ∈ z1, (Lit.int .i64 n).wf = true) (y1 : len1 * 8 ≤ 140737488351232) :
    Calls Try.prog 6 #[.int .i64 a0, .slice a1 len1 cap1] w fun e w' => e = .returned (.bool true) ∧ Below w.heap.size w w' := by
  obtain ⟨l1, rfl, hr1, hm1, hw1, hc1⟩ := ReadsInt.ofRowC w1
  obtain ⟨k, h⟩ := P a0 l1 w0 hm1 y1 hw1
  refine (credenzalaw10_PoolKeeps.calls k a0 _ _ l1 true w (Kd.C_of_reads (d := (0 : Int)) (h1 := fun _ => rfl) hr1) hc1 h).mono ?_
  rintro e w' ⟨rfl, hd⟩
  exact ⟨rfl, hd⟩

end Go.Proofs.Ytoofkemhikigoaa.PPoolKeeps
