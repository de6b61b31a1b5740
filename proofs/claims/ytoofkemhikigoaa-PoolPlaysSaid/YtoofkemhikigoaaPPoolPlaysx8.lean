-- Written by a program of this session (wip/tools/mkprint.py over the kit's print).
import Derived.Test.YtoofkemhikigoaaPPoolPlaysx0
import Derived.Test.YtoofkemhikigoaaPPoolPlaysx6
import Derived.Test.YtoofkemhikigoaaPPoolPlaysx7
namespace Go.Proofs.Ytoofkemhikigoaa.PPoolPlays
open Go.RowKit Go.Proofs.YtoofkemhikigoaaW.PrintWords Go.Proofs.YtoofkemhikigoaaW.PrintLast Go.Proofs.YtoofkemhikigoaaW.PrintMore
attribute [local go_sem] max2_int min2_int max_two min_two max_three min_three max_four min_four   -- for this text's walks alone
set_option linter.unusedVariables false
set_option linter.unusedSimpArgs false

/-! ### credenzalaw10_step: function 14 -/
theorem PoolAt.drew {W : World} {g s : Nat} {L : List Slot} {f : Int} (h : PoolAt W g s L f) : PoolAt W.drew g s L f := h.below (below_drew1 (Below.refl _ _))
/-- The document's pool: two rows of the call's own. -/
structure XAt (B : Nat) (W : World) (v0 v1 : Value) (l0 l1 : List Int) : Prop where
  r0 : Kd.R (Kd.int .i64) 3 W B (fun k => some k = v0.ownBlock) v0 l0
  r1 : Kd.R (Kd.int .i64) 3 W B (fun k => some k = v1.ownBlock) v1 l1
  ne : ∀ k, some k = v0.ownBlock → ¬ some k = v1.ownBlock
theorem XAt.typed0 {B : Nat} {W : World} {v0 v1 : Value} {l0 l1 : List Int} (h : XAt B W v0 v1 l0 l1) {k : Nat} (hk : some k = v0.ownBlock) : ∃ cs, W.heap[k]? = some (.cells cs 3 (0, 0)) := Kd.R_typed h.r0 k hk.symm
theorem XAt.typed1 {B : Nat} {W : World} {v0 v1 : Value} {l0 l1 : List Int} (h : XAt B W v0 v1 l0 l1) {k : Nat} (hk : some k = v1.ownBlock) : ∃ cs, W.heap[k]? = some (.cells cs 3 (0, 0)) := Kd.R_typed h.r1 k hk.symm
theorem XAt.step {B : Nat} {W W' : World} {v0 v1 : Value} {l0 l1 : List Int} (h : XAt B W v0 v1 l0 l1) (hs : ∀ k, k < W.heap.size → (∃ cs, W.heap[k]? = some (.cells cs 3 (0, 0))) → W'.heap[k]? = W.heap[k]?) : XAt B W' v0 v1 l0 l1 :=
  ⟨Kd.R_step h.r0 (fun k hk hlt => hs k hlt (h.typed0 hk)), Kd.R_step h.r1 (fun k hk hlt => hs k hlt (h.typed1 hk)), h.ne⟩
theorem XAt.below {B : Nat} {W W' : World} {v0 v1 : Value} {l0 l1 : List Int} (h : XAt B W v0 v1 l0 l1) (hb : Below W.heap.size W W') : XAt B W' v0 v1 l0 l1 := h.step (fun k hlt _ => hb.block k hlt)
theorem XAt.drew {B : Nat} {W : World} {v0 v1 : Value} {l0 l1 : List Int} (h : XAt B W v0 v1 l0 l1) : XAt B W.drew v0 v1 l0 l1 := h.below (below_drew1 (Below.refl _ _))
theorem XAt.mv {B : Nat} {W W' : World} {v0 v1 : Value} {l0 l1 : List Int} {g s : Nat} {L : List Slot} {f : Int} (h : XAt B W v0 v1 l0 l1) (hp : PoolAt W g s L f) (hm : Mv g s W W') : XAt B W' v0 v1 l0 l1 :=
  h.step (fun k hlt ⟨cs, hc⟩ => hm.kept.2 k hlt (fun e => e.elim (blk_ne hc hp.hg (by decide)) (blk_ne hc hp.hs (by decide))))
theorem XAt.aside {B : Nat} {W : World} {v0 v1 : Value} {l0 l1 : List Int} (h : XAt B W v0 v1 l0 l1) {b t : Nat} {ds : Array Value} (hb : W.heap[b]? = some (.cells ds t (0, 0))) (ht : t ≠ 3) (i : Nat) (u : Value) : XAt B (W.setCell ⟨b, i, none⟩ u) v0 v1 l0 l1 :=
  h.step (fun k hlt ⟨cs, hc⟩ => Below.heap_setCell W ⟨b, i, none⟩ u k (blk_ne hc hb (fun e => ht e.symm)))
/-- A call that writes to these two rows alone keeps what is no row of whole numbers. -/
theorem XAt.keeps {B : Nat} {W W' : World} {v0 v1 : Value} {l0 l1 : List Int} (h : XAt B W v0 v1 l0 l1) (hk : Kept W W' (fun k => some k = v0.ownBlock ∨ some k = v1.ownBlock)) {b t : Nat} {ds : Array Value} (hb : W.heap[b]? = some (.cells ds t (0, 0))) (ht : t ≠ 3) : W'.heap[b]? = some (.cells ds t (0, 0)) :=
  blk_kept hb hk (fun e => e.elim (fun e => by obtain ⟨cs, hc⟩ := h.typed0 e; exact blk_ne hb hc ht rfl) (fun e => by obtain ⟨cs, hc⟩ := h.typed1 e; exact blk_ne hb hc ht rfl))
theorem PoolAt.keeps {B : Nat} {W W' : World} {v0 v1 : Value} {l0 l1 : List Int} {g s : Nat} {L : List Slot} {f : Int} (hp : PoolAt W g s L f) (h : XAt B W v0 v1 l0 l1) (hk : Kept W W' (fun k => some k = v0.ownBlock ∨ some k = v1.ownBlock)) : PoolAt W' g s L f := by
  refine ⟨hp.ne, h.keeps hk hp.hg (by decide), h.keeps hk hp.hs (by decide), fun x hx hr => ?_, hp.hn, hp.hr, hp.hf⟩
  obtain ⟨p, e, hq, n⟩ := hp.hp x hx hr
  obtain ⟨-, -, -, -, -, -, -, -, -, -, -, -, -, ds, hd⟩ := id hq
  exact ⟨p, e, hq.same ((h.keeps hk hd (by decide)).trans hd.symm), n⟩
theorem PoolAt.beside {W : World} {g s b t : Nat} {L : List Slot} {f : Int} (h : PoolAt W g s L f) {ds : Array Value} (hb : W.heap[b]? = some (.cells ds t (0, 0))) (h1 : t ≠ 77 ∧ t ≠ 88 ∧ t ≠ 96) (i : Nat) (u : Value) : PoolAt (W.setCell ⟨b, i, none⟩ u) g s L f := by
  refine ⟨h.ne, blk_far h.hg (p := ⟨b, i, none⟩) (blk_ne h.hg hb (fun e => h1.1 e.symm)) u, blk_far h.hs (p := ⟨b, i, none⟩) (blk_ne h.hs hb (fun e => h1.2.1 e.symm)) u, fun x hx hr => ?_, h.hn, h.hr, h.hf⟩
  obtain ⟨p, e, hp, n⟩ := h.hp x hx hr
  obtain ⟨-, -, -, -, -, -, -, -, -, -, -, -, -, cs, hd⟩ := id hp
  exact ⟨p, e, hp.same (Below.heap_setCell W ⟨b, i, none⟩ u p (blk_ne hd hb (fun e => h1.2.2 e.symm))), n⟩
theorem blk_mv {W W' : World} {g s b t : Nat} {L : List Slot} {f : Int} {ds : Array Value} (hb : W.heap[b]? = some (.cells ds t (0, 0))) (h : PoolAt W g s L f) (hm : Mv g s W W') (h1 : t ≠ 77) (h2 : t ≠ 88) : W'.heap[b]? = some (.cells ds t (0, 0)) :=
  (hm.kept.2 b (blk_lt hb) (fun e => e.elim (blk_ne hb h.hg h1) (blk_ne hb h.hs h2))).trans hb
theorem first_zero : ∀ L : List Slot, (∀ x ∈ L, ¬ x.refs = 0) ∨ ∃ (k : Nat) (y : Slot), L[k]? = some y ∧ y.refs = 0 ∧ ∀ (j : Nat) (x : Slot), j < k → L[j]? = some x → ¬ x.refs = 0
  | [] => .inl (fun x hx => by cases hx)
  | y :: L => by
    by_cases h : y.refs = 0
    · exact .inr ⟨0, y, rfl, h, fun j x hj _ => absurd hj (Nat.not_lt_zero _)⟩
    · rcases first_zero L with h1 | ⟨k, z, hz, h0, hb⟩
      · refine .inl (fun x hx => ?_)
        rcases List.mem_cons.mp hx with rfl | hx
        · exact h
        · exact h1 x hx
      · refine .inr ⟨k + 1, z, by simpa using hz, h0, fun j x hj hx => ?_⟩
        cases j with
        | zero => simp at hx; subst hx; exact h
        | succ j => exact hb j x (by omega) (by simpa using hx)
def PutR (L : List Slot) (f m : Int) (L' : List Slot) (f' i e : Int) : Prop :=
  (∃ (k : Nat) (y : Slot) (b : Nat), L[k]? = some y ∧ y.refs = 0 ∧ (∀ (j : Nat) (x : Slot), j < k → L[j]? = some x → ¬ x.refs = 0) ∧ L' = L.set k ⟨1, m, some b⟩ ∧ f' = f + -1 ∧ i = (k : Int) ∧ e = 0) ∨ ((∀ x ∈ L, ¬ x.refs = 0) ∧ L' = L ∧ f' = f ∧ i = 0 ∧ e = 23)
theorem poolPutAny.calls (g s : Nat) (L : List Slot) (f : Int) (b : Nat) (m : Int) (W : World) (h : PoolAt W g s L f) (hp : PgAt W b m) (n1 : b ≠ g) (n2 : b ≠ s) (hf : -999999 ≤ f) :
    Calls Try.prog 21 #[.pointer (some ⟨g, 0, none⟩), .pointer (some ⟨b, 0, none⟩)] W fun e w' => ∃ L' f' i2 e2, e = .returned (.tuple #[.int .i64 i2, .int .i64 e2]) ∧ PoolAt w' g s L' f' ∧ Mv g s W w' ∧ PutR L f m L' f' i2 e2 := by
  rcases first_zero L with h1 | ⟨k, y, hy, h0, hb⟩
  · refine (poolPutFull.calls g s L f _ h1 W h).mono ?_
    rintro e w' ⟨rfl, rfl⟩
    exact ⟨L, f, 0, 23, rfl, h, Mv.refl _ _ _, .inr ⟨h1, rfl, rfl, rfl, rfl⟩⟩
  · refine (poolPut.calls g s L f b m k y hy h0 hb W h hp n1 n2 hf).mono ?_
    rintro e w' ⟨rfl, h2, h3⟩
    exact ⟨_, _, _, _, rfl, h2, h3, .inl ⟨k, y, b, hy, h0, hb, rfl, rfl, rfl, rfl⟩⟩
/-- Is a slot there, and not free? -/
def Held (L : List Slot) (N : Int) : Prop := ∃ (n : Nat) (x : Slot), N = (n : Int) ∧ L[n]? = some x ∧ ¬ x.refs = 0
theorem not_held {L : List Slot} {N : Int} (h : ¬ Held L N) : ∀ x, 0 ≤ N → L[N.toNat]? = some x → x.refs = 0 := by
  intro x h0 hx
  obtain ⟨n, rfl⟩ := Int.eq_ofNat_of_zero_le h0
  rw [Int.toNat_natCast] at hx
  exact Decidable.byContradiction (fun hr => h ⟨n, x, rfl, hx, hr⟩)
def HoldR (L : List Slot) (f N : Int) (L' : List Slot) (f' e : Int) : Prop :=
  (∃ (n : Nat) (x : Slot), N = (n : Int) ∧ L[n]? = some x ∧ ¬ x.refs = 0 ∧ L' = L.set n ⟨x.refs + 1, x.mark, x.pg⟩ ∧ f' = f ∧ e = 0) ∨ (¬ Held L N ∧ L' = L ∧ f' = f ∧ e = 14)
def DropR (L : List Slot) (f N : Int) (L' : List Slot) (f' e : Int) : Prop :=
  (∃ (n : Nat) (x : Slot), N = (n : Int) ∧ L[n]? = some x ∧ ¬ x.refs = 0 ∧ L' = L.set n x.less ∧ f' = (if x.refs = 1 then f + 1 else f) ∧ e = 0) ∨ (¬ Held L N ∧ L' = L ∧ f' = f ∧ e = 14)
open Classical in
theorem poolHoldAny.calls (g s : Nat) (L : List Slot) (f N : Int) (W : World) (h : PoolAt W g s L f) (hm : ∀ x ∈ L, x.refs ≤ 999999) :
    Calls Try.prog 23 #[.pointer (some ⟨g, 0, none⟩), .int .i64 N] W fun e w' => ∃ L' f' e2, e = .returned (.int .i64 e2) ∧ PoolAt w' g s L' f' ∧ Mv g s W w' ∧ HoldR L f N L' f' e2 := by
  by_cases hh : Held L N
  · obtain ⟨n, x, rfl, hx, hr⟩ := hh
    refine (poolHold.calls g s L f n x hx hr (hm x (List.mem_of_getElem? hx)) W h).mono ?_
    rintro e w' ⟨rfl, h2, h3⟩
    exact ⟨_, _, _, rfl, h2, h3, .inl ⟨n, x, rfl, hx, hr, rfl, rfl, rfl⟩⟩
  · refine (poolHoldNo.calls g s L f N (not_held hh) W h).mono ?_
    rintro e w' ⟨rfl, rfl⟩
    exact ⟨L, f, 14, rfl, h, Mv.refl _ _ _, .inr ⟨hh, rfl, rfl, rfl⟩⟩
open Classical in
theorem poolDropAny.calls (g s : Nat) (L : List Slot) (f N : Int) (W : World) (h : PoolAt W g s L f) (hf : f ≤ 999999) :
    Calls Try.prog 27 #[.pointer (some ⟨g, 0, none⟩), .int .i64 N] W fun e w' => ∃ L' f' e2, e = .returned (.int .i64 e2) ∧ PoolAt w' g s L' f' ∧ Mv g s W w' ∧ DropR L f N L' f' e2 := by
  by_cases hh : Held L N
  · obtain ⟨n, x, rfl, hx, hr⟩ := hh
    refine (poolDrop.calls g s L f n x hx hr hf W h).mono ?_
    rintro e w' ⟨rfl, h2, h3⟩
    exact ⟨_, _, _, rfl, h2, h3, .inl ⟨n, x, rfl, hx, hr, rfl, rfl, rfl⟩⟩
  · refine (poolDropNo.calls g s L f N (not_held hh) W h).mono ?_
    rintro e w' ⟨rfl, rfl⟩
    exact ⟨L, f, 14, rfl, h, Mv.refl _ _ _, .inr ⟨hh, rfl, rfl, rfl⟩⟩
/-- The rows of a result of the document's. -/
theorem XAt.of {B : Nat} {W : World} {v0 v1 : Value} {l0 l1 : List Int} {S : Nat → Prop} (h0 : Kd.R (Kd.int .i64) 3 W B (fun k_ => S k_ ∧ some k_ ≠ (v1 : Value).ownBlock) v0 l0) (h1 : Kd.R (Kd.int .i64) 3 W B (fun k_ => S k_ ∧ some k_ ≠ (v0 : Value).ownBlock) v1 l1) : XAt B W v0 v1 l0 l1 :=
  ⟨Kd.R_tight rfl h0, Kd.R_tight rfl h1, fun k hk => (h0.1 k hk.symm).2⟩
theorem bx2 {w : World} {g : Nat} {t : TypeId} {a0 a1 : Value} (h : w.heap[g]? = some (.cells #[a0, a1] t (0, 0))) : w.cell? ⟨g, 0, none⟩ = some a0 ∧ w.cell? ⟨g, 1, none⟩ = some a1 ∧ (∀ i, w.frozen? ⟨g, i, none⟩ = false) := ⟨(blk_cell h 0).trans rfl, (blk_cell h 1).trans rfl, blk_frozen h⟩
/-- What a step of both pools has: the pool, the document's, the boxes of x and o and of the result. -/
structure StepAt (w0 w1 : World) (Z : Nat → Prop) (W : World) (g s : Nat) (L : List Slot) (f : Int) (v0 v1 : Value) (l0 l1 : List Int) (bx bo br : Nat) (x0 x1 : Value) (K N : Int) (y0 y1 : Value) : Prop where
  P : PoolAt W g s L f
  X : XAt w0.heap.size W v0 v1 l0 l1
  BX : W.heap[bx]? = some (.cells #[x0, x1] 30 (0, 0))
  BO : W.heap[bo]? = some (.cells #[.int .i64 K, .int .i64 N] 33 (0, 0))
  BR : W.heap[br]? = some (.cells #[y0, y1] 30 (0, 0))
  ne : bx ≠ br
  gx : w0.heap.size ≤ bx
  gr : w0.heap.size ≤ br
  HB : Below w0.heap.size w0 W
  gg : w0.heap.size ≤ g
  gs : w0.heap.size ≤ s
  gx1 : w1.heap.size ≤ bx
  gr1 : w1.heap.size ≤ br
  KP : Kept w1 W (fun k => (k = g ∨ k = s) ∨ Z k)
section
variable {w0 w1 W W' : World} {Z : Nat → Prop} {g s : Nat} {L : List Slot} {f : Int} {v0 v1 : Value} {l0 l1 : List Int} {bx bo br : Nat} {x0 x1 : Value} {K N : Int} {y0 y1 : Value}
theorem StepAt.below (h : StepAt w0 w1 Z W g s L f v0 v1 l0 l1 bx bo br x0 x1 K N y0 y1) (hb : Below W.heap.size W W') : StepAt w0 w1 Z W' g s L f v0 v1 l0 l1 bx bo br x0 x1 K N y0 y1 :=
  ⟨h.P.below hb, h.X.below hb, blk_below h.BX hb, blk_below h.BO hb, blk_below h.BR hb, h.ne, h.gx, h.gr, below_step h.HB hb, h.gg, h.gs, h.gx1, h.gr1, h.KP.below hb⟩
theorem StepAt.drew (h : StepAt w0 w1 Z W g s L f v0 v1 l0 l1 bx bo br x0 x1 K N y0 y1) : StepAt w0 w1 Z W.drew g s L f v0 v1 l0 l1 bx bo br x0 x1 K N y0 y1 := h.below (below_drew1 (Below.refl _ _))
theorem StepAt.mv {L' : List Slot} {f' : Int} (h : StepAt w0 w1 Z W g s L f v0 v1 l0 l1 bx bo br x0 x1 K N y0 y1) (hm : Mv g s W W') (hp : PoolAt W' g s L' f') : StepAt w0 w1 Z W' g s L' f' v0 v1 l0 l1 bx bo br x0 x1 K N y0 y1 :=
  ⟨hp, h.X.mv h.P hm, blk_mv h.BX h.P hm (by decide) (by decide), blk_mv h.BO h.P hm (by decide) (by decide), blk_mv h.BR h.P hm (by decide) (by decide), h.ne, h.gx, h.gr, h.HB.trans (hm.bel _ h.gg h.gs (below_size h.HB)), h.gg, h.gs, h.gx1, h.gr1, h.KP.then_ hm.kept (fun _ hk => .inl (.inl hk))⟩
theorem StepAt.ref {u0 u1 : Value} {r0 r1 : List Int} (h : StepAt w0 w1 Z W g s L f v0 v1 l0 l1 bx bo br x0 x1 K N y0 y1) (hk : Kept W W' (fun k => some k = v0.ownBlock ∨ some k = v1.ownBlock)) (hx : XAt w0.heap.size W' u0 u1 r0 r1) (hb : Below w0.heap.size w0 W') (hZ : ∀ k, some k = v0.ownBlock ∨ some k = v1.ownBlock → Z k) : StepAt w0 w1 Z W' g s L f u0 u1 r0 r1 bx bo br x0 x1 K N y0 y1 :=
  ⟨h.P.keeps h.X hk, hx, h.X.keeps hk h.BX (by decide), h.X.keeps hk h.BO (by decide), h.X.keeps hk h.BR (by decide), h.ne, h.gx, h.gr, hb, h.gg, h.gs, h.gx1, h.gr1, h.KP.then_ hk (fun k_ hk_ => .inl (.inr (hZ k_ hk_)))⟩
theorem StepAt.setX (h : StepAt w0 w1 Z W g s L f v0 v1 l0 l1 bx bo br x0 x1 K N y0 y1) (u0 u1 : Value) : StepAt w0 w1 Z ((W.setCell ⟨bx, 0, none⟩ u0).setCell ⟨bx, 1, none⟩ u1) g s L f v0 v1 l0 l1 bx bo br u0 u1 K N y0 y1 := by
  have h1 := blk_put h.BX 0 u0 (cs' := #[u0, x1]) rfl
  have h2 := blk_put h1 1 u1 (cs' := #[u0, u1]) rfl
  have hbo := blk_ne h.BO h.BX (by decide)
  exact ⟨(h.P.beside h.BX (by decide) 0 u0).beside h1 (by decide) 1 u1, (h.X.aside h.BX (by decide) 0 u0).aside h1 (by decide) 1 u1, h2, blk_far (blk_far h.BO (p := ⟨bx, 0, none⟩) hbo u0) (p := ⟨bx, 1, none⟩) hbo u1, blk_far (blk_far h.BR (p := ⟨bx, 0, none⟩) (fun e => h.ne e.symm) u0) (p := ⟨bx, 1, none⟩) (fun e => h.ne e.symm) u1, h.ne, h.gx, h.gr, (h.HB.setCell (p := ⟨bx, 0, none⟩) h.gx u0).setCell (p := ⟨bx, 1, none⟩) h.gx u1, h.gg, h.gs, h.gx1, h.gr1, (h.KP.setCell (p := ⟨bx, 0, none⟩) (.inr h.gx1) u0).setCell (p := ⟨bx, 1, none⟩) (.inr h.gx1) u1⟩
theorem StepAt.setR (h : StepAt w0 w1 Z W g s L f v0 v1 l0 l1 bx bo br x0 x1 K N y0 y1) (u0 u1 : Value) : StepAt w0 w1 Z ((W.setCell ⟨br, 0, none⟩ u0).setCell ⟨br, 1, none⟩ u1) g s L f v0 v1 l0 l1 bx bo br x0 x1 K N u0 u1 := by
  have h1 := blk_put h.BR 0 u0 (cs' := #[u0, y1]) rfl
  have h2 := blk_put h1 1 u1 (cs' := #[u0, u1]) rfl
  have hbo := blk_ne h.BO h.BR (by decide)
  exact ⟨(h.P.beside h.BR (by decide) 0 u0).beside h1 (by decide) 1 u1, (h.X.aside h.BR (by decide) 0 u0).aside h1 (by decide) 1 u1, blk_far (blk_far h.BX (p := ⟨br, 0, none⟩) h.ne u0) (p := ⟨br, 1, none⟩) h.ne u1, blk_far (blk_far h.BO (p := ⟨br, 0, none⟩) hbo u0) (p := ⟨br, 1, none⟩) hbo u1, h2, h.ne, h.gx, h.gr, (h.HB.setCell (p := ⟨br, 0, none⟩) h.gr u0).setCell (p := ⟨br, 1, none⟩) h.gr u1, h.gg, h.gs, h.gx1, h.gr1, (h.KP.setCell (p := ⟨br, 0, none⟩) (.inr h.gr1) u0).setCell (p := ⟨br, 1, none⟩) (.inr h.gr1) u1⟩
theorem StepAt.cells (h : StepAt w0 w1 Z W g s L f v0 v1 l0 l1 bx bo br x0 x1 K N y0 y1) : W.cell? ⟨bx, 0, none⟩ = some x0 ∧ W.cell? ⟨bx, 1, none⟩ = some x1 ∧ W.cell? ⟨bo, 0, none⟩ = some (.int .i64 K) ∧ W.cell? ⟨bo, 1, none⟩ = some (.int .i64 N) ∧ W.cell? ⟨br, 0, none⟩ = some y0 ∧ W.cell? ⟨br, 1, none⟩ = some y1 ∧ (∀ i, W.frozen? ⟨bx, i, none⟩ = false) ∧ (∀ i, W.frozen? ⟨br, i, none⟩ = false) :=
  ⟨(bx2 h.BX).1, (bx2 h.BX).2.1, (bx2 h.BO).1, (bx2 h.BO).2.1, (bx2 h.BR).1, (bx2 h.BR).2.1, (bx2 h.BX).2.2, (bx2 h.BR).2.2⟩
end
set_option maxHeartbeats 8000000 in
set_option maxRecDepth 100000 in
theorem stepPut.calls (k kk : Nat) (hk : madeAll k = true) (w0 w : World) (hB : Below w0.heap.size w0 w) (g s : Nat) (L : List Slot) (f : Int) (hP : PoolAt w g s L f) (hg : w0.heap.size ≤ g) (hs : w0.heap.size ≤ s) (hf : -999999 ≤ f) (v0 v1 : Value) (l0 l1 : List Int) (hX : XAt w0.heap.size w v0 v1 l0 l1) (N : Int) (r1 r2 : List Int) (i1 e1 : Int) (hput : credenzaref10_Pool_Put.f kk l0 l1 (mk N) = some (r1, r2, i1, e1)) :
    Calls Try.prog 14 #[.pointer (some ⟨g, 0, none⟩), .agg #[v0, v1], .agg #[.int .i64 1, .int .i64 N]] w fun e w' => ∃ u0 u1 L' f' i2 e2, e = .returned (.tuple #[.agg #[u0, u1], .bool (i2 == i1 && e2 == e1)]) ∧ XAt w0.heap.size w' u0 u1 r1 r2 ∧ PoolAt w' g s L' f' ∧ PutR L f (mk N) L' f' i2 e2 ∧ Below w0.heap.size w0 w' ∧ Kept w w' (fun k_ => (k_ = g ∨ k_ = s) ∨ (some k_ = v0.ownBlock ∨ some k_ = v1.ownBlock)) := by
  have HK := Aside0.mk hk
  have HPUT := Aside0.mk hput
  have P := Aside0.mk hP
  have X := Aside0.mk hX
  have G := Aside0.mk hg
  have S := Aside0.mk hs
  have HF := Aside0.mk hf
  have HB := Aside0.mk hB
  obtain ⟨A0, c0, rfl⟩ := Kd.R_slice hX.r0
  obtain ⟨A1, c1, rfl⟩ := Kd.R_slice hX.r1
  have hu30 := Try.underlying30
  have hu33 := Try.underlying33
  clear hk hput hP hX hg hs hB hf
  go_enter Try.func14, Try.ntmps14
  have HW := Aside0.mk (Below.refl w.heap.size w)
  go_upto_region 2 with (first | ((with_reducible refine gate_dst (N := 4) rfl ?_); refine box_event ?hg (N := 4) ?hd (cs := #[.slice A0 l0.length c0, .slice A1 l1.length c1]) (t := 30) ?hr ?_; (case hd => rfl); (case hg => rfl); (case hr => first | (go_simp; done) | (go_simp; rfl)); intro bx hg_ wa hbox hb; have BX := Aside0.mk hbox; have GX := Aside0.mk (by rw [hg_]; exact below_size HB.out : w0.heap.size ≤ bx); have GX1 := Aside0.mk (by rw [hg_]; exact below_size HW.out : w.heap.size ≤ bx); replace P := Aside0.mk (P.out.below hb); replace X := Aside0.mk (X.out.below hb); replace HB := Aside0.mk (below_step HB.out hb); replace HW := Aside0.mk (below_step HW.out hb); clear hbox hb hg_) | ((with_reducible refine gate_dst (N := 5) rfl ?_); refine box_event ?hg (N := 5) ?hd (cs := #[.int .i64 1, .int .i64 N]) (t := 33) ?hr ?_; (case hd => rfl); (case hg => rfl); (case hr => first | (go_simp; done) | (go_simp; rfl)); intro bo hg_ wb hbox hb; have BO := Aside0.mk hbox; replace BX := Aside0.mk (blk_below BX.out hb); replace P := Aside0.mk (P.out.below hb); replace X := Aside0.mk (X.out.below hb); replace HB := Aside0.mk (below_step HB.out hb); replace HW := Aside0.mk (below_step HW.out hb); clear hbox hb hg_) | ((with_reducible refine gate_dst (N := 6) rfl ?_); refine box_event ?hg (N := 6) ?hd (cs := #[.slice none 0 0, .slice none 0 0]) (t := 30) ?hr ?_; (case hd => rfl); (case hg => rfl); (case hr => first | (go_simp; done) | (go_simp; rfl)); intro br hg_ wc hbox hb; have BR := Aside0.mk hbox; have GR := Aside0.mk (by rw [hg_]; exact below_size HB.out : w0.heap.size ≤ br); have GR1 := Aside0.mk (by rw [hg_]; exact below_size HW.out : w.heap.size ≤ br); have NE := Aside0.mk (by rw [hg_]; have := blk_lt BX.out; omega : bx ≠ br); replace BX := Aside0.mk (blk_below BX.out hb); replace BO := Aside0.mk (blk_below BO.out hb); replace P := Aside0.mk (P.out.below hb); replace X := Aside0.mk (X.out.below hb); replace HB := Aside0.mk (below_step HB.out hb); replace HW := Aside0.mk (below_step HW.out hb); clear hbox hb hg_))
  have T := Aside0.mk (StepAt.mk P.out X.out BX.out BO.out BR.out NE.out GX.out GR.out HB.out G.out S.out GX1.out GR1.out (Kept.of_below HW.out (fun k_ => (k_ = g ∨ k_ = s) ∨ (some k_ = (Value.slice A0 l0.length c0).ownBlock ∨ some k_ = (Value.slice A1 l1.length c1).ownBlock))))
  clear P X BX BO BR NE GX GR HB G S GX1 GR1 HW
  have hz := T.out.cells
  go_upto_region 4 with (fail)
  go_upto_region 5 with (go_at_call 41; (refine (credenzaref10_Pool_Put.calls kk _ _ l0 _ _ l1 _ r1 r2 i1 e1 w0 _ T.out.HB T.out.X.r0 T.out.X.ne T.out.X.r1 (fun k_ h1 h2 => T.out.X.ne k_ h2 h1) HPUT.out).mono ?_); rintro e w4 ⟨u0, u1, rfl, h0, h1, hb, hkp⟩; obtain ⟨B0, d0, rfl⟩ := Kd.R_slice h0; obtain ⟨B1, d1, rfl⟩ := Kd.R_slice h1; replace T := Aside0.mk (T.out.ref hkp (XAt.of h0 h1) hb (fun _ h_ => h_)); clear hz h0 h1 hb hkp; have hz := T.out.cells)
  replace T := Aside0.mk (T.out.setX (.slice B0 r1.length d0) (.slice B1 r2.length d1))
  clear hz
  generalize (w4.setCell ⟨bx, 0, none⟩ (.slice B0 r1.length d0)).setCell ⟨bx, 1, none⟩ (.slice B1 r2.length d1) = w5 at T ⊢
  have hz := T.out.cells
  go_upto_region 6 with (first | (go_at_call 22; (refine (madeP.calls k HK.out _ _).mono ?_); rintro e w6 ⟨b1, rfl, hp, hge, hb⟩; have hgl := T.out.P.gl; have hsl := T.out.P.sl; have Q := Aside0.mk hp; have N1 : Aside0 (b1 ≠ g ∧ b1 ≠ s) := ⟨by omega, by omega⟩; clear hgl hsl hge hz; replace T := Aside0.mk (T.out.below hb); have hz := T.out.cells; clear hb hp) | (go_at_call 21; (refine (poolPutAny.calls g s L f b1 (mk N) _ T.out.P Q.out N1.out.1 N1.out.2 HF.out).mono ?_); rintro e w7 ⟨L', f', i2, e2, rfl, hp, hm, hrel⟩; replace T := Aside0.mk (T.out.mv hm hp); have REL := Aside0.mk hrel; clear Q N1 hp hm hrel hz; have hz := T.out.cells))
  by_cases q1 : i2 = i1
  · have f1 : (i2 == i1) = true := beq_iff_eq.mpr q1
    go_wp2
    replace T := Aside0.mk (T.out.setR (.slice B0 r1.length d0) (.slice B1 r2.length d1))
    refine bodyPost_ret (results_ct rfl _ _ br 30 #[.slice B0 r1.length d0, .slice B1 r2.length d1] (0, 0) _ rfl T.out.BR Try.underlying30 rfl (by kernel_rfl)) rfl ?_
    exact ⟨_, _, L', f', i2, e2, by rw [f1]; rfl, T.out.X, T.out.P, REL.out, T.out.HB, T.out.KP⟩
  · have f1 : (i2 == i1) = false := beq_eq_false_iff_ne.mpr q1
    go_wp2
    replace T := Aside0.mk (T.out.setR (.slice B0 r1.length d0) (.slice B1 r2.length d1))
    refine bodyPost_ret (results_ct rfl _ _ br 30 #[.slice B0 r1.length d0, .slice B1 r2.length d1] (0, 0) _ rfl T.out.BR Try.underlying30 rfl (by kernel_rfl)) rfl ?_
    exact ⟨_, _, L', f', i2, e2, by rw [f1]; rfl, T.out.X, T.out.P, REL.out, T.out.HB, T.out.KP⟩
def pstepHold.T9 : Bool × List (List Nat × List Nat) := (true, [([], []), ([], []), ([], []), ([2], [2]), ([1, 3], [1, 3]), ([], []), ([4, 5], [4, 5]), ([0, 4, 0], [0]), ([6, 7, 0, 1, 2, 3, 4, 5, 6, 7], [6])])
def pstepHold.B9 : List Nat := [0, 0, 0, 4, 14, 0, 62, 31, 255]
theorem pstepHold.tab9 : rtab .any (opsOf Try.f14 9) = pstepHold.T9 := by kernel_rfl
theorem pstepHold.bits9 : waitsOk pstepHold.T9.2 pstepHold.B9 = true := by kernel_rfl
def pstepDrop.T12 : Bool × List (List Nat × List Nat) := (true, [([], []), ([], []), ([], []), ([2], [2]), ([1, 3], [1, 3]), ([], []), ([4, 5], [4, 5]), ([0, 4, 0], [0]), ([6, 7, 0, 1, 2, 3, 4, 5, 6, 7], [6])])
def pstepDrop.B12 : List Nat := [0, 0, 0, 4, 14, 0, 62, 31, 255]
theorem pstepDrop.tab12 : rtab .any (opsOf Try.f14 12) = pstepDrop.T12 := by kernel_rfl
theorem pstepDrop.bits12 : waitsOk pstepDrop.T12.2 pstepDrop.B12 = true := by kernel_rfl
set_option maxHeartbeats 8000000 in
set_option maxRecDepth 100000 in
theorem stepHold.calls (k : Nat) (hk : madeAll k = true) (w0 w : World) (hB : Below w0.heap.size w0 w) (g s : Nat) (L : List Slot) (f : Int) (hP : PoolAt w g s L f) (hg : w0.heap.size ≤ g) (hs : w0.heap.size ≤ s) (v0 v1 : Value) (l0 l1 : List Int) (hX : XAt w0.heap.size w v0 v1 l0 l1) (hm : ∀ x ∈ L, x.refs ≤ 999999) (N : Int) (r1 r2 : List Int) (e1 : Int) (hch : credenzaref10_Pool_Change.f l0 l1 N (1) = some (r1, r2, e1)) :
    Calls Try.prog 14 #[.pointer (some ⟨g, 0, none⟩), .agg #[v0, v1], .agg #[.int .i64 2, .int .i64 N]] w fun e w' => ∃ u0 u1 L' f' e2, e = .returned (.tuple #[.agg #[u0, u1], .bool (e2 == e1)]) ∧ XAt w0.heap.size w' u0 u1 r1 r2 ∧ PoolAt w' g s L' f' ∧ HoldR L f N L' f' e2 ∧ Below w0.heap.size w0 w' ∧ Kept w w' (fun k_ => (k_ = g ∨ k_ = s) ∨ (some k_ = v0.ownBlock ∨ some k_ = v1.ownBlock)) := by
  have HCH := Aside0.mk hch
  have HH := Aside0.mk hm
  have HK := Aside0.mk hk
  have P := Aside0.mk hP
  have X := Aside0.mk hX
  have G := Aside0.mk hg
  have S := Aside0.mk hs
  have HB := Aside0.mk hB
  obtain ⟨A0, c0, rfl⟩ := Kd.R_slice hX.r0
  obtain ⟨A1, c1, rfl⟩ := Kd.R_slice hX.r1
  have hu30 := Try.underlying30
  have hu33 := Try.underlying33
  clear hk hP hX hg hs hB
  clear hch hm
  go_enter Try.func14, Try.ntmps14
  have HW := Aside0.mk (Below.refl w.heap.size w)
  go_upto_region 2 with (first | ((with_reducible refine gate_dst (N := 4) rfl ?_); refine box_event ?hg (N := 4) ?hd (cs := #[.slice A0 l0.length c0, .slice A1 l1.length c1]) (t := 30) ?hr ?_; (case hd => rfl); (case hg => rfl); (case hr => first | (go_simp; done) | (go_simp; rfl)); intro bx hg_ wa hbox hb; have BX := Aside0.mk hbox; have GX := Aside0.mk (by rw [hg_]; exact below_size HB.out : w0.heap.size ≤ bx); have GX1 := Aside0.mk (by rw [hg_]; exact below_size HW.out : w.heap.size ≤ bx); replace P := Aside0.mk (P.out.below hb); replace X := Aside0.mk (X.out.below hb); replace HB := Aside0.mk (below_step HB.out hb); replace HW := Aside0.mk (below_step HW.out hb); clear hbox hb hg_) | ((with_reducible refine gate_dst (N := 5) rfl ?_); refine box_event ?hg (N := 5) ?hd (cs := #[.int .i64 2, .int .i64 N]) (t := 33) ?hr ?_; (case hd => rfl); (case hg => rfl); (case hr => first | (go_simp; done) | (go_simp; rfl)); intro bo hg_ wb hbox hb; have BO := Aside0.mk hbox; replace BX := Aside0.mk (blk_below BX.out hb); replace P := Aside0.mk (P.out.below hb); replace X := Aside0.mk (X.out.below hb); replace HB := Aside0.mk (below_step HB.out hb); replace HW := Aside0.mk (below_step HW.out hb); clear hbox hb hg_) | ((with_reducible refine gate_dst (N := 6) rfl ?_); refine box_event ?hg (N := 6) ?hd (cs := #[.slice none 0 0, .slice none 0 0]) (t := 30) ?hr ?_; (case hd => rfl); (case hg => rfl); (case hr => first | (go_simp; done) | (go_simp; rfl)); intro br hg_ wc hbox hb; have BR := Aside0.mk hbox; have GR := Aside0.mk (by rw [hg_]; exact below_size HB.out : w0.heap.size ≤ br); have GR1 := Aside0.mk (by rw [hg_]; exact below_size HW.out : w.heap.size ≤ br); have NE := Aside0.mk (by rw [hg_]; have := blk_lt BX.out; omega : bx ≠ br); replace BX := Aside0.mk (blk_below BX.out hb); replace BO := Aside0.mk (blk_below BO.out hb); replace P := Aside0.mk (P.out.below hb); replace X := Aside0.mk (X.out.below hb); replace HB := Aside0.mk (below_step HB.out hb); replace HW := Aside0.mk (below_step HW.out hb); clear hbox hb hg_))
  have T := Aside0.mk (StepAt.mk P.out X.out BX.out BO.out BR.out NE.out GX.out GR.out HB.out G.out S.out GX1.out GR1.out (Kept.of_below HW.out (fun k_ => (k_ = g ∨ k_ = s) ∨ (some k_ = (Value.slice A0 l0.length c0).ownBlock ∨ some k_ = (Value.slice A1 l1.length c1).ownBlock))))
  clear P X BX BO BR NE GX GR HB G S GX1 GR1 HW
  have hz := T.out.cells
  go_upto_region 8 with (fail)
  go_upto_region 9 with (go_at_call 42; (refine (credenzaref10_Pool_Change.calls _ _ l0 _ _ l1 N (1) r1 r2 e1 w0 _ T.out.HB T.out.X.r0 T.out.X.ne T.out.X.r1 (fun k_ h1 h2 => T.out.X.ne k_ h2 h1) HCH.out).mono ?_); rintro e w4 ⟨u0, u1, rfl, h0, h1, hb, hkp⟩; obtain ⟨B0, d0, rfl⟩ := Kd.R_slice h0; obtain ⟨B1, d1, rfl⟩ := Kd.R_slice h1; replace T := Aside0.mk (T.out.ref hkp (XAt.of h0 h1) hb (fun _ h_ => h_)); clear hz h0 h1 hb hkp; have hz := T.out.cells)
  replace T := Aside0.mk (T.out.setX (.slice B0 r1.length d0) (.slice B1 r2.length d1))
  clear hz
  generalize (w4.setCell ⟨bx, 0, none⟩ (.slice B0 r1.length d0)).setCell ⟨bx, 1, none⟩ (.slice B1 r2.length d1) = w5 at T ⊢
  replace T := Aside0.mk (T.out.drew)
  refine start_ (n := 9) (S := fun w' => w'.cell? ⟨bx, 0, none⟩ = some (.slice B0 r1.length d0) ∧ w'.cell? ⟨bx, 1, none⟩ = some (.slice B1 r2.length d1) ∧ w'.cell? ⟨bo, 1, none⟩ = some (.int .i64 N)) (ds := []) #[false, false, false, false, false, false, false, false, false] (by kernel_rfl) rfl rfl ⟨T.out.cells.1, T.out.cells.2.1, T.out.cells.2.2.2.1⟩ (fun hHeld => ?_); refine with_tabW pstepHold.tab9 pstepHold.bits9 (fun HT_ HW_ => ?_)
  generalize w5.drew = w6 at T hHeld ⊢
  refine pure_ (i := 1) (N := some 54) (v := ?_) (a' := ?_) #[false, true, false, false, false, false, false, false, false] rfl rfl (any_of HT_.out (by kernel_rfl)) (fun _ _ _ h => h) (Or.inl ⟨by rfl, ?_⟩) ?_ ?_
  rotate_left
  · intro w'
    go_simp
    with_reducible rfl
  rotate_left
  · simp only [Act.put, List.setIfInBounds_toArray, List.set_cons_zero, List.set_cons_succ, i64_w, i32_w, IntKind.wrap_u32]
    rfl
  refine pure_ (i := 2) (N := some 55) (v := ?_) (a' := ?_) #[false, true, true, false, false, false, false, false, false] rfl rfl (any_of HT_.out (by kernel_rfl)) (fun _ _ _ h => h) (Or.inl ⟨by rfl, ?_⟩) ?_ ?_
  rotate_left
  · intro w'
    go_simp
    with_reducible rfl
  rotate_left
  · simp only [Act.put, List.setIfInBounds_toArray, List.set_cons_zero, List.set_cons_succ, i64_w, i32_w, IntKind.wrap_u32]
    rfl
  refine pure_ (i := 5) (N := some 58) (v := ?_) (a' := ?_) #[false, true, true, false, false, true, false, false, false] rfl rfl (any_of HT_.out (by kernel_rfl)) (fun _ _ _ h => h) (Or.inl ⟨by rfl, ?_⟩) ?_ ?_
  rotate_left
  · intro w'
    go_simp
    with_reducible rfl
  rotate_left
  · simp only [Act.put, List.setIfInBounds_toArray, List.set_cons_zero, List.set_cons_succ, i64_w, i32_w, IntKind.wrap_u32]
    rfl
  refine take_ (i := 0) (N := some 53) (v := ?_) (a' := ?_) #[true, true, true, false, false, true, false, false, false] rfl rfl (take_ofW HT_.out HW_.out (by kernel_rfl)) (fun _ _ _ h => h) (Or.inl ⟨by rfl, ?_⟩) hHeld ?_ ?_
  rotate_left
  · rintro w' ⟨s0, s1, s2⟩
    go_simp
    with_reducible rfl
  rotate_left
  · simp only [Act.put, List.setIfInBounds_toArray, List.set_cons_zero, List.set_cons_succ, i64_w, i32_w, IntKind.wrap_u32]
    rfl
  refine take_ (i := 3) (N := some 56) (v := ?_) (a' := ?_) #[true, true, true, true, false, true, false, false, false] rfl rfl (take_ofW HT_.out HW_.out (by kernel_rfl)) (fun _ _ _ h => h) (Or.inl ⟨by rfl, ?_⟩) hHeld ?_ ?_
  rotate_left
  · rintro w' ⟨s0, s1, s2⟩
    go_simp
    with_reducible rfl
  rotate_left
  · simp only [Act.put, List.setIfInBounds_toArray, List.set_cons_zero, List.set_cons_succ, i64_w, i32_w, IntKind.wrap_u32]
    rfl
  refine one_ (i := 4) (N := some 57) #[true, true, true, true, true, true, false, false, false] rfl rfl (one_of HT_.out (by kernel_rfl)) (by decide) (fun K hK => ?_)
  refine goes_ Try.func23 (by kernel_rfl) rfl #[.pointer (some ⟨g, 0, none⟩), .int .i64 N] (by rfl) rfl rfl (by simp only [List.map_toArray, List.map_cons, List.map_nil]; rfl) ?_
  with_reducible refine (poolHoldAny.calls g s L f N _ T.out.P HH.out).mono ?_
  rintro e w7 ⟨L', f', e2, rfl, hp, hm, hrel⟩
  refine ⟨_, rfl, ?_⟩
  replace T := Aside0.mk (T.out.mv hm hp)
  have REL := Aside0.mk hrel
  clear hp hm hrel
  have hz := T.out.cells
  refine hK.out _ _ ⟨T.out.cells.1, T.out.cells.2.1, T.out.cells.2.2.2.1⟩ (fun hHeld => ?_)
  clear hK K
  refine norm_ (a' := ?_) ?_ ?_
  rotate_left
  · show Act.put _ (some 57) _ = _
    simp only [Act.put, List.setIfInBounds_toArray, List.set_cons_zero, List.set_cons_succ, i64_w, i32_w, IntKind.wrap_u32]
    rfl
  refine pure_ (i := 6) (N := some 59) (v := ?_) (a' := ?_) #[true, true, true, true, true, true, true, false, false] rfl rfl (any_of HT_.out (by kernel_rfl)) (fun _ _ _ h => h) (Or.inl ⟨by rfl, ?_⟩) ?_ ?_
  rotate_left
  · intro w'
    go_simp
    with_reducible rfl
  rotate_left
  · simp only [Act.put, List.setIfInBounds_toArray, List.set_cons_zero, List.set_cons_succ, i64_w, i32_w, IntKind.wrap_u32]
    rfl
  refine one_ (i := 7) (N := none) #[true, true, true, true, true, true, true, true, false] rfl rfl (one_of HT_.out (by kernel_rfl)) (by decide) (fun K hK => ?_)
  refine skip_ (w1 := ?_) (by rfl) rfl ?_ ?_
  rotate_left
  · go_simp
    rfl
  clear hz
  replace T := Aside0.mk (T.out.setR (.slice B0 r1.length d0) (.slice B1 r2.length d1))
  refine hK.out _ _ ⟨T.out.cells.1, T.out.cells.2.1, T.out.cells.2.2.2.1⟩ (fun hHeld => ?_)
  clear hK K
  refine pure_ (i := 8) (N := some 7) (v := ?_) (a' := ?_) #[true, true, true, true, true, true, true, true, true] rfl rfl (any_of HT_.out (by kernel_rfl)) (fun _ _ _ h => h) (Or.inl ⟨by rfl, ?_⟩) ?_ ?_
  rotate_left
  · intro w'
    go_simp
    with_reducible rfl
  rotate_left
  · simp only [Act.put, List.setIfInBounds_toArray, List.set_cons_zero, List.set_cons_succ, i64_w, i32_w, IntKind.wrap_u32]
    rfl
  refine done_ (done_of HT_.out (by kernel_rfl)) ?_
  try go_wp2
  refine bodyPost_ret (results_ct rfl _ _ br 30 #[.slice B0 r1.length d0, .slice B1 r2.length d1] (0, 0) _ rfl T.out.BR Try.underlying30 rfl (by kernel_rfl)) rfl ?_
  exact ⟨_, _, L', f', e2, rfl, T.out.X, T.out.P, REL.out, T.out.HB, T.out.KP⟩
set_option maxHeartbeats 8000000 in
set_option maxRecDepth 100000 in
theorem stepDrop.calls (k : Nat) (hk : madeAll k = true) (w0 w : World) (hB : Below w0.heap.size w0 w) (g s : Nat) (L : List Slot) (f : Int) (hP : PoolAt w g s L f) (hg : w0.heap.size ≤ g) (hs : w0.heap.size ≤ s) (v0 v1 : Value) (l0 l1 : List Int) (hX : XAt w0.heap.size w v0 v1 l0 l1) (hm : f ≤ 999999) (N : Int) (r1 r2 : List Int) (e1 : Int) (hch : credenzaref10_Pool_Change.f l0 l1 N (-1) = some (r1, r2, e1)) :
    Calls Try.prog 14 #[.pointer (some ⟨g, 0, none⟩), .agg #[v0, v1], .agg #[.int .i64 3, .int .i64 N]] w fun e w' => ∃ u0 u1 L' f' e2, e = .returned (.tuple #[.agg #[u0, u1], .bool (e2 == e1)]) ∧ XAt w0.heap.size w' u0 u1 r1 r2 ∧ PoolAt w' g s L' f' ∧ DropR L f N L' f' e2 ∧ Below w0.heap.size w0 w' ∧ Kept w w' (fun k_ => (k_ = g ∨ k_ = s) ∨ (some k_ = v0.ownBlock ∨ some k_ = v1.ownBlock)) := by
  have HCH := Aside0.mk hch
  have HH := Aside0.mk hm
  have HK := Aside0.mk hk
  have P := Aside0.mk hP
  have X := Aside0.mk hX
  have G := Aside0.mk hg
  have S := Aside0.mk hs
  have HB := Aside0.mk hB
  obtain ⟨A0, c0, rfl⟩ := Kd.R_slice hX.r0
  obtain ⟨A1, c1, rfl⟩ := Kd.R_slice hX.r1
  have hu30 := Try.underlying30
  have hu33 := Try.underlying33
  clear hk hP hX hg hs hB
  clear hch hm
  go_enter Try.func14, Try.ntmps14
  have HW := Aside0.mk (Below.refl w.heap.size w)
  go_upto_region 2 with (first | ((with_reducible refine gate_dst (N := 4) rfl ?_); refine box_event ?hg (N := 4) ?hd (cs := #[.slice A0 l0.length c0, .slice A1 l1.length c1]) (t := 30) ?hr ?_; (case hd => rfl); (case hg => rfl); (case hr => first | (go_simp; done) | (go_simp; rfl)); intro bx hg_ wa hbox hb; have BX := Aside0.mk hbox; have GX := Aside0.mk (by rw [hg_]; exact below_size HB.out : w0.heap.size ≤ bx); have GX1 := Aside0.mk (by rw [hg_]; exact below_size HW.out : w.heap.size ≤ bx); replace P := Aside0.mk (P.out.below hb); replace X := Aside0.mk (X.out.below hb); replace HB := Aside0.mk (below_step HB.out hb); replace HW := Aside0.mk (below_step HW.out hb); clear hbox hb hg_) | ((with_reducible refine gate_dst (N := 5) rfl ?_); refine box_event ?hg (N := 5) ?hd (cs := #[.int .i64 3, .int .i64 N]) (t := 33) ?hr ?_; (case hd => rfl); (case hg => rfl); (case hr => first | (go_simp; done) | (go_simp; rfl)); intro bo hg_ wb hbox hb; have BO := Aside0.mk hbox; replace BX := Aside0.mk (blk_below BX.out hb); replace P := Aside0.mk (P.out.below hb); replace X := Aside0.mk (X.out.below hb); replace HB := Aside0.mk (below_step HB.out hb); replace HW := Aside0.mk (below_step HW.out hb); clear hbox hb hg_) | ((with_reducible refine gate_dst (N := 6) rfl ?_); refine box_event ?hg (N := 6) ?hd (cs := #[.slice none 0 0, .slice none 0 0]) (t := 30) ?hr ?_; (case hd => rfl); (case hg => rfl); (case hr => first | (go_simp; done) | (go_simp; rfl)); intro br hg_ wc hbox hb; have BR := Aside0.mk hbox; have GR := Aside0.mk (by rw [hg_]; exact below_size HB.out : w0.heap.size ≤ br); have GR1 := Aside0.mk (by rw [hg_]; exact below_size HW.out : w.heap.size ≤ br); have NE := Aside0.mk (by rw [hg_]; have := blk_lt BX.out; omega : bx ≠ br); replace BX := Aside0.mk (blk_below BX.out hb); replace BO := Aside0.mk (blk_below BO.out hb); replace P := Aside0.mk (P.out.below hb); replace X := Aside0.mk (X.out.below hb); replace HB := Aside0.mk (below_step HB.out hb); replace HW := Aside0.mk (below_step HW.out hb); clear hbox hb hg_))
  have T := Aside0.mk (StepAt.mk P.out X.out BX.out BO.out BR.out NE.out GX.out GR.out HB.out G.out S.out GX1.out GR1.out (Kept.of_below HW.out (fun k_ => (k_ = g ∨ k_ = s) ∨ (some k_ = (Value.slice A0 l0.length c0).ownBlock ∨ some k_ = (Value.slice A1 l1.length c1).ownBlock))))
  clear P X BX BO BR NE GX GR HB G S GX1 GR1 HW
  have hz := T.out.cells
  go_upto_region 11 with (fail)
  go_upto_region 12 with (go_at_call 42; (refine (credenzaref10_Pool_Change.calls _ _ l0 _ _ l1 N (-1) r1 r2 e1 w0 _ T.out.HB T.out.X.r0 T.out.X.ne T.out.X.r1 (fun k_ h1 h2 => T.out.X.ne k_ h2 h1) HCH.out).mono ?_); rintro e w4 ⟨u0, u1, rfl, h0, h1, hb, hkp⟩; obtain ⟨B0, d0, rfl⟩ := Kd.R_slice h0; obtain ⟨B1, d1, rfl⟩ := Kd.R_slice h1; replace T := Aside0.mk (T.out.ref hkp (XAt.of h0 h1) hb (fun _ h_ => h_)); clear hz h0 h1 hb hkp; have hz := T.out.cells)
  replace T := Aside0.mk (T.out.setX (.slice B0 r1.length d0) (.slice B1 r2.length d1))
  clear hz
  generalize (w4.setCell ⟨bx, 0, none⟩ (.slice B0 r1.length d0)).setCell ⟨bx, 1, none⟩ (.slice B1 r2.length d1) = w5 at T ⊢
  replace T := Aside0.mk (T.out.drew)
  refine start_ (n := 9) (S := fun w' => w'.cell? ⟨bx, 0, none⟩ = some (.slice B0 r1.length d0) ∧ w'.cell? ⟨bx, 1, none⟩ = some (.slice B1 r2.length d1) ∧ w'.cell? ⟨bo, 1, none⟩ = some (.int .i64 N)) (ds := []) #[false, false, false, false, false, false, false, false, false] (by kernel_rfl) rfl rfl ⟨T.out.cells.1, T.out.cells.2.1, T.out.cells.2.2.2.1⟩ (fun hHeld => ?_); refine with_tabW pstepDrop.tab12 pstepDrop.bits12 (fun HT_ HW_ => ?_)
  generalize w5.drew = w6 at T hHeld ⊢
  refine pure_ (i := 1) (N := some 70) (v := ?_) (a' := ?_) #[false, true, false, false, false, false, false, false, false] rfl rfl (any_of HT_.out (by kernel_rfl)) (fun _ _ _ h => h) (Or.inl ⟨by rfl, ?_⟩) ?_ ?_
  rotate_left
  · intro w'
    go_simp
    with_reducible rfl
  rotate_left
  · simp only [Act.put, List.setIfInBounds_toArray, List.set_cons_zero, List.set_cons_succ, i64_w, i32_w, IntKind.wrap_u32]
    rfl
  refine pure_ (i := 2) (N := some 71) (v := ?_) (a' := ?_) #[false, true, true, false, false, false, false, false, false] rfl rfl (any_of HT_.out (by kernel_rfl)) (fun _ _ _ h => h) (Or.inl ⟨by rfl, ?_⟩) ?_ ?_
  rotate_left
  · intro w'
    go_simp
    with_reducible rfl
  rotate_left
  · simp only [Act.put, List.setIfInBounds_toArray, List.set_cons_zero, List.set_cons_succ, i64_w, i32_w, IntKind.wrap_u32]
    rfl
  refine pure_ (i := 5) (N := some 74) (v := ?_) (a' := ?_) #[false, true, true, false, false, true, false, false, false] rfl rfl (any_of HT_.out (by kernel_rfl)) (fun _ _ _ h => h) (Or.inl ⟨by rfl, ?_⟩) ?_ ?_
  rotate_left
  · intro w'
    go_simp
    with_reducible rfl
  rotate_left
  · simp only [Act.put, List.setIfInBounds_toArray, List.set_cons_zero, List.set_cons_succ, i64_w, i32_w, IntKind.wrap_u32]
    rfl
  refine take_ (i := 0) (N := some 69) (v := ?_) (a' := ?_) #[true, true, true, false, false, true, false, false, false] rfl rfl (take_ofW HT_.out HW_.out (by kernel_rfl)) (fun _ _ _ h => h) (Or.inl ⟨by rfl, ?_⟩) hHeld ?_ ?_
  rotate_left
  · rintro w' ⟨s0, s1, s2⟩
    go_simp
    with_reducible rfl
  rotate_left
  · simp only [Act.put, List.setIfInBounds_toArray, List.set_cons_zero, List.set_cons_succ, i64_w, i32_w, IntKind.wrap_u32]
    rfl
  refine take_ (i := 3) (N := some 72) (v := ?_) (a' := ?_) #[true, true, true, true, false, true, false, false, false] rfl rfl (take_ofW HT_.out HW_.out (by kernel_rfl)) (fun _ _ _ h => h) (Or.inl ⟨by rfl, ?_⟩) hHeld ?_ ?_
  rotate_left
  · rintro w' ⟨s0, s1, s2⟩
    go_simp
    with_reducible rfl
  rotate_left
  · simp only [Act.put, List.setIfInBounds_toArray, List.set_cons_zero, List.set_cons_succ, i64_w, i32_w, IntKind.wrap_u32]
    rfl
  refine one_ (i := 4) (N := some 73) #[true, true, true, true, true, true, false, false, false] rfl rfl (one_of HT_.out (by kernel_rfl)) (by decide) (fun K hK => ?_)
  refine goes_ Try.func27 (by kernel_rfl) rfl #[.pointer (some ⟨g, 0, none⟩), .int .i64 N] (by rfl) rfl rfl (by simp only [List.map_toArray, List.map_cons, List.map_nil]; rfl) ?_
  with_reducible refine (poolDropAny.calls g s L f N _ T.out.P HH.out).mono ?_
  rintro e w7 ⟨L', f', e2, rfl, hp, hm, hrel⟩
  refine ⟨_, rfl, ?_⟩
  replace T := Aside0.mk (T.out.mv hm hp)
  have REL := Aside0.mk hrel
  clear hp hm hrel
  have hz := T.out.cells
  refine hK.out _ _ ⟨T.out.cells.1, T.out.cells.2.1, T.out.cells.2.2.2.1⟩ (fun hHeld => ?_)
  clear hK K
  refine norm_ (a' := ?_) ?_ ?_
  rotate_left
  · show Act.put _ (some 73) _ = _
    simp only [Act.put, List.setIfInBounds_toArray, List.set_cons_zero, List.set_cons_succ, i64_w, i32_w, IntKind.wrap_u32]
    rfl
  refine pure_ (i := 6) (N := some 75) (v := ?_) (a' := ?_) #[true, true, true, true, true, true, true, false, false] rfl rfl (any_of HT_.out (by kernel_rfl)) (fun _ _ _ h => h) (Or.inl ⟨by rfl, ?_⟩) ?_ ?_
  rotate_left
  · intro w'
    go_simp
    with_reducible rfl
  rotate_left
  · simp only [Act.put, List.setIfInBounds_toArray, List.set_cons_zero, List.set_cons_succ, i64_w, i32_w, IntKind.wrap_u32]
    rfl
  refine one_ (i := 7) (N := none) #[true, true, true, true, true, true, true, true, false] rfl rfl (one_of HT_.out (by kernel_rfl)) (by decide) (fun K hK => ?_)
  refine skip_ (w1 := ?_) (by rfl) rfl ?_ ?_
  rotate_left
  · go_simp
    rfl
  clear hz
  replace T := Aside0.mk (T.out.setR (.slice B0 r1.length d0) (.slice B1 r2.length d1))
  refine hK.out _ _ ⟨T.out.cells.1, T.out.cells.2.1, T.out.cells.2.2.2.1⟩ (fun hHeld => ?_)
  clear hK K
  refine pure_ (i := 8) (N := some 7) (v := ?_) (a' := ?_) #[true, true, true, true, true, true, true, true, true] rfl rfl (any_of HT_.out (by kernel_rfl)) (fun _ _ _ h => h) (Or.inl ⟨by rfl, ?_⟩) ?_ ?_
  rotate_left
  · intro w'
    go_simp
    with_reducible rfl
  rotate_left
  · simp only [Act.put, List.setIfInBounds_toArray, List.set_cons_zero, List.set_cons_succ, i64_w, i32_w, IntKind.wrap_u32]
    rfl
  refine done_ (done_of HT_.out (by kernel_rfl)) ?_
  try go_wp2
  refine bodyPost_ret (results_ct rfl _ _ br 30 #[.slice B0 r1.length d0, .slice B1 r2.length d1] (0, 0) _ rfl T.out.BR Try.underlying30 rfl (by kernel_rfl)) rfl ?_
  exact ⟨_, _, L', f', e2, rfl, T.out.X, T.out.P, REL.out, T.out.HB, T.out.KP⟩
def pgetn.T15 : Bool × List (List Nat × List Nat) := (true, [([], []), ([], []), ([1], [1]), ([2], [2]), ([3], [3]), ([4, 3], [3, 4]), ([3, 5], [3, 5]), ([6, 3], [6]), ([7], [7]), ([7], [7]), ([9, 7], [7, 9]), ([8, 10, 7, 7], [7, 8, 10]), ([11, 7], [7, 11]), ([7, 12], [7, 12]), ([0, 11, 0], [0]), ([13, 14, 0, 1, 2, 3, 4, 5, 6, 7, 8, 9, 10, 11, 12, 13, 14], [13])])
def pgetn.B15 : List Nat := [0, 0, 2, 6, 14, 30, 62, 126, 254, 254, 766, 2046, 4094, 8190, 4095, 32767]
theorem pgetn.tab15 : rtab .any (opsOf Try.f14 15) = pgetn.T15 := by kernel_rfl
theorem pgetn.bits15 : waitsOk pgetn.T15.2 pgetn.B15 = true := by kernel_rfl
def pgety.T16 : Bool × List (List Nat × List Nat) := (true, [([], []), ([], []), ([1], [1]), ([2], [2]), ([3], [3]), ([4, 3], [3, 4]), ([3, 5], [3, 5]), ([6, 3], [6]), ([7], [7]), ([8, 7, 7], [7, 8]), ([9, 7], [7, 9]), ([7], [7]), ([11, 7], [7, 11]), ([7], [7]), ([13, 7], [7, 13]), ([12, 14, 7], [7, 12, 14]), ([15, 7], [7, 15]), ([10, 16, 7], [7, 10, 16]), ([7, 17], [7, 17]), ([18, 9], [18]), ([19], [19]), ([19], [19]), ([21, 19], [19, 21]), ([20, 22, 19, 19], [19, 20, 22]), ([19], [19]), ([24, 19], [19, 24]), ([19], [19]), ([26, 19], [19, 26]), ([25, 27, 19], [19, 25, 27]), ([28, 19], [19, 28]), ([23, 29, 19], [19, 23, 29]), ([19, 30], [19, 30]), ([0, 23, 0], [0]), ([31, 32, 0, 1, 2, 3, 4, 5, 6, 7, 8, 9, 10, 11, 12, 13, 14, 15, 16, 17, 18, 19, 20, 21, 22, 23, 24, 25, 26, 27, 28, 29, 30, 31, 32], [31])])
def pgety.B16 : List Nat := [0, 0, 2, 6, 14, 30, 62, 126, 254, 510, 1022, 254, 2302, 254, 8446, 30974, 63742, 131070, 262142, 524286, 1048574, 1048574, 3145726, 8388606, 1048574, 17825790, 1048574, 68157438, 252706814, 521142270, 1073741822, 2147483646, 16777215, 8589934591]
theorem pgety.tab16 : rtab .any (opsOf Try.f14 16) = pgety.T16 := by kernel_rfl
theorem pgety.bits16 : waitsOk pgety.T16.2 pgety.B16 = true := by kernel_rfl
theorem XAt.cell0 {B : Nat} {W : World} {A0 : Option Addr} {c0 : Nat} {v1 : Value} {l0 l1 : List Int} (h : XAt B W (.slice A0 l0.length c0) v1 l0 l1) {ad : Addr} (ha : A0 = some ad) {n : Nat} {x : Int} (hx : l0[n]? = some x) : W.cell? (ad.add n) = some (.int .i64 x) := by
  have hn := (List.getElem?_eq_some_iff.mp hx).1
  obtain ⟨a, e, hc⟩ := Kd.at_int (Kd.R_reads' h.r0).2.2 (n : Int) (by omega) (by omega)
  rw [ha] at e
  obtain rfl := Option.some.inj e
  rw [Int.toNat_natCast] at hc
  rw [hc]
  simp [rd, List.getD_eq_getElem?_getD, hx]
theorem XAt.cell1 {B : Nat} {W : World} {A1 : Option Addr} {c1 : Nat} {v0 : Value} {l0 l1 : List Int} (h : XAt B W v0 (.slice A1 l1.length c1) l0 l1) {ad : Addr} (ha : A1 = some ad) {n : Nat} {x : Int} (hx : l1[n]? = some x) : W.cell? (ad.add n) = some (.int .i64 x) := by
  have hn := (List.getElem?_eq_some_iff.mp hx).1
  obtain ⟨a, e, hc⟩ := Kd.at_int (Kd.R_reads' h.r1).2.2 (n : Int) (by omega) (by omega)
  rw [ha] at e
  obtain rfl := Option.some.inj e
  rw [Int.toNat_natCast] at hc
  rw [hc]
  simp [rd, List.getD_eq_getElem?_getD, hx]
theorem PgAt.drewP {W : World} {b : Nat} {m : Int} (h : PgAt W b m) : PgAt W.drew b m := h
set_option maxHeartbeats 8000000 in
set_option maxRecDepth 100000 in
theorem stepGetNo.calls (k : Nat) (hk : madeAll k = true) (w0 w : World) (hB : Below w0.heap.size w0 w) (g s : Nat) (L : List Slot) (f : Int) (hP : PoolAt w g s L f) (hg : w0.heap.size ≤ g) (hs : w0.heap.size ≤ s) (v0 v1 : Value) (l0 l1 : List Int) (hX : XAt w0.heap.size w v0 v1 l0 l1) (K N : Int) (hK : ¬ K = 1 ∧ ¬ K = 2 ∧ ¬ K = 3) (hh : ¬ Held L N) (his : credenzaref10_Pool_Is.f l0 l1 N = some false) :
    Calls Try.prog 14 #[.pointer (some ⟨g, 0, none⟩), .agg #[v0, v1], .agg #[.int .i64 K, .int .i64 N]] w fun e w' => ∃ u0 u1, e = .returned (.tuple #[.agg #[u0, u1], .bool true]) ∧ XAt w0.heap.size w' u0 u1 l0 l1 ∧ PoolAt w' g s L f ∧ Below w0.heap.size w0 w' ∧ Kept w w' (fun k_ => (k_ = g ∨ k_ = s) ∨ (some k_ = v0.ownBlock ∨ some k_ = v1.ownBlock)) := by
  have k1 : (K == 1) = false := beq_eq_false_iff_ne.mpr hK.1
  have k2 : (K == 2) = false := beq_eq_false_iff_ne.mpr hK.2.1
  have k3 : (K == 3) = false := beq_eq_false_iff_ne.mpr hK.2.2
  have hfd := field6
  have HK := Aside0.mk hk
  have P := Aside0.mk hP
  have X := Aside0.mk hX
  have G := Aside0.mk hg
  have S := Aside0.mk hs
  have HB := Aside0.mk hB
  obtain ⟨A0, c0, rfl⟩ := Kd.R_slice hX.r0
  obtain ⟨A1, c1, rfl⟩ := Kd.R_slice hX.r1
  have hu30 := Try.underlying30
  have hu33 := Try.underlying33
  clear hk hP hX hg hs hB
  have HH := Aside0.mk hh
  have HIS := Aside0.mk his
  clear hh his
  clear hK
  go_enter Try.func14, Try.ntmps14
  have HW := Aside0.mk (Below.refl w.heap.size w)
  go_upto_region 2 with (first | ((with_reducible refine gate_dst (N := 4) rfl ?_); refine box_event ?hg (N := 4) ?hd (cs := #[.slice A0 l0.length c0, .slice A1 l1.length c1]) (t := 30) ?hr ?_; (case hd => rfl); (case hg => rfl); (case hr => first | (go_simp; done) | (go_simp; rfl)); intro bx hg_ wa hbox hb; have BX := Aside0.mk hbox; have GX := Aside0.mk (by rw [hg_]; exact below_size HB.out : w0.heap.size ≤ bx); have GX1 := Aside0.mk (by rw [hg_]; exact below_size HW.out : w.heap.size ≤ bx); replace P := Aside0.mk (P.out.below hb); replace X := Aside0.mk (X.out.below hb); replace HB := Aside0.mk (below_step HB.out hb); replace HW := Aside0.mk (below_step HW.out hb); clear hbox hb hg_) | ((with_reducible refine gate_dst (N := 5) rfl ?_); refine box_event ?hg (N := 5) ?hd (cs := #[.int .i64 K, .int .i64 N]) (t := 33) ?hr ?_; (case hd => rfl); (case hg => rfl); (case hr => first | (go_simp; done) | (go_simp; rfl)); intro bo hg_ wb hbox hb; have BO := Aside0.mk hbox; replace BX := Aside0.mk (blk_below BX.out hb); replace P := Aside0.mk (P.out.below hb); replace X := Aside0.mk (X.out.below hb); replace HB := Aside0.mk (below_step HB.out hb); replace HW := Aside0.mk (below_step HW.out hb); clear hbox hb hg_) | ((with_reducible refine gate_dst (N := 6) rfl ?_); refine box_event ?hg (N := 6) ?hd (cs := #[.slice none 0 0, .slice none 0 0]) (t := 30) ?hr ?_; (case hd => rfl); (case hg => rfl); (case hr => first | (go_simp; done) | (go_simp; rfl)); intro br hg_ wc hbox hb; have BR := Aside0.mk hbox; have GR := Aside0.mk (by rw [hg_]; exact below_size HB.out : w0.heap.size ≤ br); have GR1 := Aside0.mk (by rw [hg_]; exact below_size HW.out : w.heap.size ≤ br); have NE := Aside0.mk (by rw [hg_]; have := blk_lt BX.out; omega : bx ≠ br); replace BX := Aside0.mk (blk_below BX.out hb); replace BO := Aside0.mk (blk_below BO.out hb); replace P := Aside0.mk (P.out.below hb); replace X := Aside0.mk (X.out.below hb); replace HB := Aside0.mk (below_step HB.out hb); replace HW := Aside0.mk (below_step HW.out hb); clear hbox hb hg_))
  have T := Aside0.mk (StepAt.mk P.out X.out BX.out BO.out BR.out NE.out GX.out GR.out HB.out G.out S.out GX1.out GR1.out (Kept.of_below HW.out (fun k_ => (k_ = g ∨ k_ = s) ∨ (some k_ = (Value.slice A0 l0.length c0).ownBlock ∨ some k_ = (Value.slice A1 l1.length c1).ownBlock))))
  clear P X BX BO BR NE GX GR HB G S GX1 GR1 HW
  have hz := T.out.cells
  go_upto_region 13 with (fail)
  go_upto_region 14 with (go_at_call 24; (refine (poolGetNo.calls g s L f N (not_held HH.out) _ T.out.P).mono ?_); rintro e w3 ⟨rfl, rfl⟩; skip)
  go_upto_region 15 with (go_at_call 43; (refine (credenzaref10_Pool_Is.calls A0 c0 l0 A1 c1 l1 N false _ (Kd.R_reads' T.out.X.r0).2.2 (Kd.R_reads' T.out.X.r0).2.1 (Kd.R_reads' T.out.X.r1).2.2 (Kd.R_reads' T.out.X.r1).2.1 HIS.out).mono ?_); rintro e w4 ⟨rfl, hb⟩; replace T := Aside0.mk (T.out.below hb); clear hz hb; have hz := T.out.cells)
  clear hz
  replace T := Aside0.mk (T.out.drew)
  refine start_ (n := 16) (S := fun w' => w'.cell? ⟨bx, 0, none⟩ = some (.slice A0 l0.length c0) ∧ w'.cell? ⟨bx, 1, none⟩ = some (.slice A1 l1.length c1) ∧ w'.cell? ⟨bo, 1, none⟩ = some (.int .i64 N)) (ds := []) #[false, false, false, false, false, false, false, false, false, false, false, false, false, false, false, false] (by kernel_rfl) rfl rfl ⟨T.out.cells.1, T.out.cells.2.1, T.out.cells.2.2.2.1⟩ (fun hHeld => ?_); refine with_tabW pgetn.tab15 pgetn.bits15 (fun HT_ HW_ => ?_)
  generalize w4.drew = w6 at T hHeld ⊢
  refine pure_ (i := 1) (N := some 89) (v := ?_) (a' := ?_) #[false, true, false, false, false, false, false, false, false, false, false, false, false, false, false, false] rfl rfl (any_of HT_.out (by kernel_rfl)) (fun _ _ _ h => h) (Or.inl ⟨by rfl, ?_⟩) ?_ ?_
  rotate_left
  · intro w'
    go_simp
    with_reducible rfl
  rotate_left
  · simp only [Act.put, List.setIfInBounds_toArray, List.set_cons_zero, List.set_cons_succ, i64_w, i32_w, IntKind.wrap_u32]
    rfl
  refine pure_ (i := 2) (N := some 90) (v := ?_) (a' := ?_) #[false, true, true, false, false, false, false, false, false, false, false, false, false, false, false, false] rfl rfl (any_of HT_.out (by kernel_rfl)) (fun _ _ _ h => h) (Or.inl ⟨by rfl, ?_⟩) ?_ ?_
  rotate_left
  · intro w'
    go_simp
    with_reducible rfl
  rotate_left
  · simp only [Act.put, List.setIfInBounds_toArray, List.set_cons_zero, List.set_cons_succ, i64_w, i32_w, IntKind.wrap_u32]
    rfl
  refine pure_ (i := 3) (N := some 91) (v := ?_) (a' := ?_) #[false, true, true, true, false, false, false, false, false, false, false, false, false, false, false, false] rfl rfl (any_of HT_.out (by kernel_rfl)) (fun _ _ _ h => h) (Or.inl ⟨by rfl, ?_⟩) ?_ ?_
  rotate_left
  · intro w'
    go_simp
    with_reducible rfl
  rotate_left
  · simp only [Act.put, List.setIfInBounds_toArray, List.set_cons_zero, List.set_cons_succ, i64_w, i32_w, IntKind.wrap_u32]
    rfl
  refine pure_ (i := 4) (N := some 92) (v := ?_) (a' := ?_) #[false, true, true, true, true, false, false, false, false, false, false, false, false, false, false, false] rfl rfl (any_of HT_.out (by kernel_rfl)) (fun _ _ _ h => h) (Or.inl ⟨by rfl, ?_⟩) ?_ ?_
  rotate_left
  · intro w'
    go_simp
    with_reducible rfl
  rotate_left
  · simp only [Act.put, List.setIfInBounds_toArray, List.set_cons_zero, List.set_cons_succ, i64_w, i32_w, IntKind.wrap_u32]
    rfl
  refine pure_ (i := 5) (N := some 93) (v := ?_) (a' := ?_) #[false, true, true, true, true, true, false, false, false, false, false, false, false, false, false, false] rfl rfl (any_of HT_.out (by kernel_rfl)) (fun _ _ _ h => h) (Or.inl ⟨by rfl, ?_⟩) ?_ ?_
  rotate_left
  · intro w'
    go_simp
    with_reducible rfl
  rotate_left
  · simp only [Act.put, List.setIfInBounds_toArray, List.set_cons_zero, List.set_cons_succ, i64_w, i32_w, IntKind.wrap_u32]
    rfl
  refine pure_ (i := 6) (N := some 94) (v := ?_) (a' := ?_) #[false, true, true, true, true, true, true, false, false, false, false, false, false, false, false, false] rfl rfl (any_of HT_.out (by kernel_rfl)) (fun _ _ _ h => h) (Or.inl ⟨by rfl, ?_⟩) ?_ ?_
  rotate_left
  · intro w'
    go_simp
    with_reducible rfl
  rotate_left
  · simp only [Act.put, List.setIfInBounds_toArray, List.set_cons_zero, List.set_cons_succ, i64_w, i32_w, IntKind.wrap_u32]
    rfl
  refine pure_ (i := 7) (N := some 95) (v := ?_) (a' := ?_) #[false, true, true, true, true, true, true, true, false, false, false, false, false, false, false, false] rfl rfl (any_of HT_.out (by kernel_rfl)) (fun _ _ _ h => h) (Or.inl ⟨by rfl, ?_⟩) ?_ ?_
  rotate_left
  · intro w'
    go_simp
    with_reducible rfl
  rotate_left
  · simp only [Act.put, List.setIfInBounds_toArray, List.set_cons_zero, List.set_cons_succ, i64_w, i32_w, IntKind.wrap_u32]
    rfl
  refine pure_ (i := 8) (N := some 96) (v := ?_) (a' := ?_) #[false, true, true, true, true, true, true, true, true, false, false, false, false, false, false, false] rfl rfl (any_of HT_.out (by kernel_rfl)) (fun _ _ _ h => h) (Or.inl ⟨by rfl, ?_⟩) ?_ ?_
  rotate_left
  · intro w'
    go_simp
    with_reducible rfl
  rotate_left
  · simp only [Act.put, List.setIfInBounds_toArray, List.set_cons_zero, List.set_cons_succ, i64_w, i32_w, IntKind.wrap_u32]
    rfl
  refine pure_ (i := 9) (N := some 97) (v := ?_) (a' := ?_) #[false, true, true, true, true, true, true, true, true, true, false, false, false, false, false, false] rfl rfl (any_of HT_.out (by kernel_rfl)) (fun _ _ _ h => h) (Or.inl ⟨by rfl, ?_⟩) ?_ ?_
  rotate_left
  · intro w'
    go_simp
    with_reducible rfl
  rotate_left
  · simp only [Act.put, List.setIfInBounds_toArray, List.set_cons_zero, List.set_cons_succ, i64_w, i32_w, IntKind.wrap_u32]
    rfl
  refine take_ (i := 0) (N := some 88) (v := ?_) (a' := ?_) #[true, true, true, true, true, true, true, true, true, true, false, false, false, false, false, false] rfl rfl (take_ofW HT_.out HW_.out (by kernel_rfl)) (fun _ _ _ h => h) (Or.inl ⟨by rfl, ?_⟩) hHeld ?_ ?_
  rotate_left
  · rintro w' ⟨s0, s1, s2⟩
    go_simp
    with_reducible rfl
  rotate_left
  · simp only [Act.put, List.setIfInBounds_toArray, List.set_cons_zero, List.set_cons_succ, i64_w, i32_w, IntKind.wrap_u32]
    rfl
  refine take_ (i := 10) (N := some 98) (v := ?_) (a' := ?_) #[true, true, true, true, true, true, true, true, true, true, true, false, false, false, false, false] rfl rfl (take_ofW HT_.out HW_.out (by kernel_rfl)) (fun _ _ _ h => h) (Or.inl ⟨by rfl, ?_⟩) hHeld ?_ ?_
  rotate_left
  · rintro w' ⟨s0, s1, s2⟩
    go_simp
    with_reducible rfl
  rotate_left
  · simp only [Act.put, List.setIfInBounds_toArray, List.set_cons_zero, List.set_cons_succ, i64_w, i32_w, IntKind.wrap_u32]
    rfl
  refine one_ (i := 11) (N := some 99) #[true, true, true, true, true, true, true, true, true, true, true, true, false, false, false, false] rfl rfl (one_of HT_.out (by kernel_rfl)) (by decide) (fun K hK => ?_)
  refine goes_ Try.func26 (by kernel_rfl) rfl #[.pointer (some ⟨g, 0, none⟩), .int .i64 N] (by rfl) rfl rfl (by simp only [List.map_toArray, List.map_cons, List.map_nil]; rfl) ?_
  with_reducible refine (poolRefsNo.calls g s L f N (not_held HH.out) _ T.out.P).mono ?_
  rintro e w7 ⟨rfl, rfl⟩
  refine ⟨_, rfl, ?_⟩
  refine hK.out _ _ ⟨T.out.cells.1, T.out.cells.2.1, T.out.cells.2.2.2.1⟩ (fun hHeld => ?_)
  clear hK K
  refine norm_ (a' := ?_) ?_ ?_
  rotate_left
  · show Act.put _ (some 99) _ = _
    simp only [Act.put, List.setIfInBounds_toArray, List.set_cons_zero, List.set_cons_succ, i64_w, i32_w, IntKind.wrap_u32]
    rfl
  refine pure_ (i := 12) (N := some 100) (v := ?_) (a' := ?_) #[true, true, true, true, true, true, true, true, true, true, true, true, true, false, false, false] rfl rfl (any_of HT_.out (by kernel_rfl)) (fun _ _ _ h => h) (Or.inl ⟨by rfl, ?_⟩) ?_ ?_
  rotate_left
  · intro w'
    go_simp
    with_reducible rfl
  rotate_left
  · simp only [Act.put, List.setIfInBounds_toArray, List.set_cons_zero, List.set_cons_succ, i64_w, i32_w, IntKind.wrap_u32]
    rfl
  refine pure_ (i := 13) (N := some 101) (v := ?_) (a' := ?_) #[true, true, true, true, true, true, true, true, true, true, true, true, true, true, false, false] rfl rfl (any_of HT_.out (by kernel_rfl)) (fun _ _ _ h => h) (Or.inl ⟨by rfl, ?_⟩) ?_ ?_
  rotate_left
  · intro w'
    go_simp
    with_reducible rfl
  rotate_left
  · simp only [Act.put, List.setIfInBounds_toArray, List.set_cons_zero, List.set_cons_succ, i64_w, i32_w, IntKind.wrap_u32]
    rfl
  refine one_ (i := 14) (N := none) #[true, true, true, true, true, true, true, true, true, true, true, true, true, true, true, false] rfl rfl (one_of HT_.out (by kernel_rfl)) (by decide) (fun K hK => ?_)
  have hz := T.out.cells
  refine skip_ (w1 := ?_) (by rfl) rfl ?_ ?_
  rotate_left
  · go_simp
    rfl
  clear hz
  replace T := Aside0.mk (T.out.setR (.slice A0 l0.length c0) (.slice A1 l1.length c1))
  refine hK.out _ _ ⟨T.out.cells.1, T.out.cells.2.1, T.out.cells.2.2.2.1⟩ (fun hHeld => ?_)
  clear hK K
  refine pure_ (i := 15) (N := some 7) (v := ?_) (a' := ?_) #[true, true, true, true, true, true, true, true, true, true, true, true, true, true, true, true] rfl rfl (any_of HT_.out (by kernel_rfl)) (fun _ _ _ h => h) (Or.inl ⟨by rfl, ?_⟩) ?_ ?_
  rotate_left
  · intro w'
    go_simp
    with_reducible rfl
  rotate_left
  · simp only [Act.put, List.setIfInBounds_toArray, List.set_cons_zero, List.set_cons_succ, i64_w, i32_w, IntKind.wrap_u32]
    rfl
  refine done_ (done_of HT_.out (by kernel_rfl)) ?_
  try go_wp2
  refine bodyPost_ret (results_ct rfl _ _ br 30 #[.slice A0 l0.length c0, .slice A1 l1.length c1] (0, 0) _ rfl T.out.BR Try.underlying30 rfl (by kernel_rfl)) rfl ?_
  exact ⟨_, _, rfl, T.out.X, T.out.P, T.out.HB, T.out.KP⟩
set_option maxHeartbeats 8000000 in
set_option maxRecDepth 100000 in
theorem stepGetOdd.calls (k : Nat) (hk : madeAll k = true) (w0 w : World) (hB : Below w0.heap.size w0 w) (g s : Nat) (L : List Slot) (f : Int) (hP : PoolAt w g s L f) (hg : w0.heap.size ≤ g) (hs : w0.heap.size ≤ s) (v0 v1 : Value) (l0 l1 : List Int) (hX : XAt w0.heap.size w v0 v1 l0 l1) (K N : Int) (hK : ¬ K = 1 ∧ ¬ K = 2 ∧ ¬ K = 3) (n : Nat) (x : Slot) (b : Nat) (hn : N = (n : Int)) (hx : L[n]? = some x) (hr : ¬ x.refs = 0) (hb : x.pg = some b) (his : credenzaref10_Pool_Is.f l0 l1 N = some false) :
    Calls Try.prog 14 #[.pointer (some ⟨g, 0, none⟩), .agg #[v0, v1], .agg #[.int .i64 K, .int .i64 N]] w fun e w' => ∃ u0 u1, e = .returned (.tuple #[.agg #[u0, u1], .bool false]) ∧ XAt w0.heap.size w' u0 u1 l0 l1 ∧ PoolAt w' g s L f ∧ Below w0.heap.size w0 w' ∧ Kept w w' (fun k_ => (k_ = g ∨ k_ = s) ∨ (some k_ = v0.ownBlock ∨ some k_ = v1.ownBlock)) := by
  have k1 : (K == 1) = false := beq_eq_false_iff_ne.mpr hK.1
  have k2 : (K == 2) = false := beq_eq_false_iff_ne.mpr hK.2.1
  have k3 : (K == 3) = false := beq_eq_false_iff_ne.mpr hK.2.2
  have hfd := field6
  have HK := Aside0.mk hk
  have P := Aside0.mk hP
  have X := Aside0.mk hX
  have G := Aside0.mk hg
  have S := Aside0.mk hs
  have HB := Aside0.mk hB
  obtain ⟨A0, c0, rfl⟩ := Kd.R_slice hX.r0
  obtain ⟨A1, c1, rfl⟩ := Kd.R_slice hX.r1
  have hu30 := Try.underlying30
  have hu33 := Try.underlying33
  clear hk hP hX hg hs hB
  have HX := Aside0.mk hx
  have HRR := Aside0.mk hr
  have HBB := Aside0.mk hb
  have HIS := Aside0.mk his
  subst hn
  clear hx hr hb his
  clear hK
  go_enter Try.func14, Try.ntmps14
  have HW := Aside0.mk (Below.refl w.heap.size w)
  go_upto_region 2 with (first | ((with_reducible refine gate_dst (N := 4) rfl ?_); refine box_event ?hg (N := 4) ?hd (cs := #[.slice A0 l0.length c0, .slice A1 l1.length c1]) (t := 30) ?hr ?_; (case hd => rfl); (case hg => rfl); (case hr => first | (go_simp; done) | (go_simp; rfl)); intro bx hg_ wa hbox hb; have BX := Aside0.mk hbox; have GX := Aside0.mk (by rw [hg_]; exact below_size HB.out : w0.heap.size ≤ bx); have GX1 := Aside0.mk (by rw [hg_]; exact below_size HW.out : w.heap.size ≤ bx); replace P := Aside0.mk (P.out.below hb); replace X := Aside0.mk (X.out.below hb); replace HB := Aside0.mk (below_step HB.out hb); replace HW := Aside0.mk (below_step HW.out hb); clear hbox hb hg_) | ((with_reducible refine gate_dst (N := 5) rfl ?_); refine box_event ?hg (N := 5) ?hd (cs := #[.int .i64 K, .int .i64 (n : Int)]) (t := 33) ?hr ?_; (case hd => rfl); (case hg => rfl); (case hr => first | (go_simp; done) | (go_simp; rfl)); intro bo hg_ wb hbox hb; have BO := Aside0.mk hbox; replace BX := Aside0.mk (blk_below BX.out hb); replace P := Aside0.mk (P.out.below hb); replace X := Aside0.mk (X.out.below hb); replace HB := Aside0.mk (below_step HB.out hb); replace HW := Aside0.mk (below_step HW.out hb); clear hbox hb hg_) | ((with_reducible refine gate_dst (N := 6) rfl ?_); refine box_event ?hg (N := 6) ?hd (cs := #[.slice none 0 0, .slice none 0 0]) (t := 30) ?hr ?_; (case hd => rfl); (case hg => rfl); (case hr => first | (go_simp; done) | (go_simp; rfl)); intro br hg_ wc hbox hb; have BR := Aside0.mk hbox; have GR := Aside0.mk (by rw [hg_]; exact below_size HB.out : w0.heap.size ≤ br); have GR1 := Aside0.mk (by rw [hg_]; exact below_size HW.out : w.heap.size ≤ br); have NE := Aside0.mk (by rw [hg_]; have := blk_lt BX.out; omega : bx ≠ br); replace BX := Aside0.mk (blk_below BX.out hb); replace BO := Aside0.mk (blk_below BO.out hb); replace P := Aside0.mk (P.out.below hb); replace X := Aside0.mk (X.out.below hb); replace HB := Aside0.mk (below_step HB.out hb); replace HW := Aside0.mk (below_step HW.out hb); clear hbox hb hg_))
  have T := Aside0.mk (StepAt.mk P.out X.out BX.out BO.out BR.out NE.out GX.out GR.out HB.out G.out S.out GX1.out GR1.out (Kept.of_below HW.out (fun k_ => (k_ = g ∨ k_ = s) ∨ (some k_ = (Value.slice A0 l0.length c0).ownBlock ∨ some k_ = (Value.slice A1 l1.length c1).ownBlock))))
  clear P X BX BO BR NE GX GR HB G S GX1 GR1 HW
  have hz := T.out.cells
  go_upto_region 13 with (fail)
  go_upto_region 14 with (go_at_call 24; (refine (poolGet.calls g s L f n x b HX.out HRR.out HBB.out _ T.out.P).mono ?_); rintro e w3 ⟨rfl, rfl⟩; skip)
  go_upto_region 15 with (go_at_call 43; (refine (credenzaref10_Pool_Is.calls A0 c0 l0 A1 c1 l1 (n : Int) false _ (Kd.R_reads' T.out.X.r0).2.2 (Kd.R_reads' T.out.X.r0).2.1 (Kd.R_reads' T.out.X.r1).2.2 (Kd.R_reads' T.out.X.r1).2.1 HIS.out).mono ?_); rintro e w4 ⟨rfl, hb⟩; replace T := Aside0.mk (T.out.below hb); clear hz hb; have hz := T.out.cells)
  clear hz
  replace T := Aside0.mk (T.out.drew)
  refine start_ (n := 16) (S := fun w' => w'.cell? ⟨bx, 0, none⟩ = some (.slice A0 l0.length c0) ∧ w'.cell? ⟨bx, 1, none⟩ = some (.slice A1 l1.length c1) ∧ w'.cell? ⟨bo, 1, none⟩ = some (.int .i64 (n : Int))) (ds := []) #[false, false, false, false, false, false, false, false, false, false, false, false, false, false, false, false] (by kernel_rfl) rfl rfl ⟨T.out.cells.1, T.out.cells.2.1, T.out.cells.2.2.2.1⟩ (fun hHeld => ?_); refine with_tabW pgetn.tab15 pgetn.bits15 (fun HT_ HW_ => ?_)
  generalize w4.drew = w6 at T hHeld ⊢
  refine pure_ (i := 1) (N := some 89) (v := ?_) (a' := ?_) #[false, true, false, false, false, false, false, false, false, false, false, false, false, false, false, false] rfl rfl (any_of HT_.out (by kernel_rfl)) (fun _ _ _ h => h) (Or.inl ⟨by rfl, ?_⟩) ?_ ?_
  rotate_left
  · intro w'
    go_simp
    with_reducible rfl
  rotate_left
  · simp only [Act.put, List.setIfInBounds_toArray, List.set_cons_zero, List.set_cons_succ, i64_w, i32_w, IntKind.wrap_u32]
    rfl
  refine pure_ (i := 2) (N := some 90) (v := ?_) (a' := ?_) #[false, true, true, false, false, false, false, false, false, false, false, false, false, false, false, false] rfl rfl (any_of HT_.out (by kernel_rfl)) (fun _ _ _ h => h) (Or.inl ⟨by rfl, ?_⟩) ?_ ?_
  rotate_left
  · intro w'
    go_simp
    with_reducible rfl
  rotate_left
  · simp only [Act.put, List.setIfInBounds_toArray, List.set_cons_zero, List.set_cons_succ, i64_w, i32_w, IntKind.wrap_u32]
    rfl
  refine pure_ (i := 3) (N := some 91) (v := ?_) (a' := ?_) #[false, true, true, true, false, false, false, false, false, false, false, false, false, false, false, false] rfl rfl (any_of HT_.out (by kernel_rfl)) (fun _ _ _ h => h) (Or.inl ⟨by rfl, ?_⟩) ?_ ?_
  rotate_left
  · intro w'
    go_simp
    with_reducible rfl
  rotate_left
  · simp only [Act.put, List.setIfInBounds_toArray, List.set_cons_zero, List.set_cons_succ, i64_w, i32_w, IntKind.wrap_u32]
    rfl
  refine pure_ (i := 4) (N := some 92) (v := undef) (a' := ?_) #[false, true, true, true, true, false, false, false, false, false, false, false, false, false, false, false] rfl rfl (any_of HT_.out (by kernel_rfl)) (fun _ _ _ h => h) (Or.inr ⟨by rfl, rfl⟩) ?_ ?_
  rotate_left
  · simp only [Act.put, List.setIfInBounds_toArray, List.set_cons_zero, List.set_cons_succ, i64_w, i32_w, IntKind.wrap_u32]
    rfl
  refine pure_ (i := 5) (N := some 93) (v := undef) (a' := ?_) #[false, true, true, true, true, true, false, false, false, false, false, false, false, false, false, false] rfl rfl (any_of HT_.out (by kernel_rfl)) (fun _ _ _ h => h) (Or.inr ⟨by rfl, rfl⟩) ?_ ?_
  rotate_left
  · simp only [Act.put, List.setIfInBounds_toArray, List.set_cons_zero, List.set_cons_succ, i64_w, i32_w, IntKind.wrap_u32]
    rfl
  refine pure_ (i := 6) (N := some 94) (v := ?_) (a' := ?_) #[false, true, true, true, true, true, true, false, false, false, false, false, false, false, false, false] rfl rfl (any_of HT_.out (by kernel_rfl)) (fun _ _ _ h => h) (Or.inl ⟨by rfl, ?_⟩) ?_ ?_
  rotate_left
  · intro w'
    go_simp
    with_reducible rfl
  rotate_left
  · simp only [Act.put, List.setIfInBounds_toArray, List.set_cons_zero, List.set_cons_succ, i64_w, i32_w, IntKind.wrap_u32]
    rfl
  refine pure_ (i := 7) (N := some 95) (v := ?_) (a' := ?_) #[false, true, true, true, true, true, true, true, false, false, false, false, false, false, false, false] rfl rfl (any_of HT_.out (by kernel_rfl)) (fun _ _ _ h => h) (Or.inl ⟨by rfl, ?_⟩) ?_ ?_
  rotate_left
  · intro w'
    go_simp
    with_reducible rfl
  rotate_left
  · simp only [Act.put, List.setIfInBounds_toArray, List.set_cons_zero, List.set_cons_succ, i64_w, i32_w, IntKind.wrap_u32]
    rfl
  refine pure_ (i := 8) (N := some 96) (v := undef) (a' := ?_) #[false, true, true, true, true, true, true, true, true, false, false, false, false, false, false, false] rfl rfl (any_of HT_.out (by kernel_rfl)) (fun _ _ _ h => h) (Or.inr ⟨by rfl, rfl⟩) ?_ ?_
  rotate_left
  · simp only [Act.put, List.setIfInBounds_toArray, List.set_cons_zero, List.set_cons_succ, i64_w, i32_w, IntKind.wrap_u32]
    rfl
  refine pure_ (i := 9) (N := some 97) (v := undef) (a' := ?_) #[false, true, true, true, true, true, true, true, true, true, false, false, false, false, false, false] rfl rfl (any_of HT_.out (by kernel_rfl)) (fun _ _ _ h => h) (Or.inr ⟨by rfl, rfl⟩) ?_ ?_
  rotate_left
  · simp only [Act.put, List.setIfInBounds_toArray, List.set_cons_zero, List.set_cons_succ, i64_w, i32_w, IntKind.wrap_u32]
    rfl
  refine pure_ (i := 10) (N := some 98) (v := undef) (a' := ?_) #[false, true, true, true, true, true, true, true, true, true, true, false, false, false, false, false] rfl rfl (any_of HT_.out (by kernel_rfl)) (fun _ _ _ h => h) (Or.inr ⟨by rfl, rfl⟩) ?_ ?_
  rotate_left
  · simp only [Act.put, List.setIfInBounds_toArray, List.set_cons_zero, List.set_cons_succ, i64_w, i32_w, IntKind.wrap_u32]
    rfl
  refine pure_ (i := 11) (N := some 99) (v := undef) (a' := ?_) #[false, true, true, true, true, true, true, true, true, true, true, true, false, false, false, false] rfl rfl (any_of HT_.out (by kernel_rfl)) (fun _ _ _ h => h) (Or.inr ⟨by rfl, rfl⟩) ?_ ?_
  rotate_left
  · simp only [Act.put, List.setIfInBounds_toArray, List.set_cons_zero, List.set_cons_succ, i64_w, i32_w, IntKind.wrap_u32]
    rfl
  refine pure_ (i := 12) (N := some 100) (v := undef) (a' := ?_) #[false, true, true, true, true, true, true, true, true, true, true, true, true, false, false, false] rfl rfl (any_of HT_.out (by kernel_rfl)) (fun _ _ _ h => h) (Or.inr ⟨by rfl, rfl⟩) ?_ ?_
  rotate_left
  · simp only [Act.put, List.setIfInBounds_toArray, List.set_cons_zero, List.set_cons_succ, i64_w, i32_w, IntKind.wrap_u32]
    rfl
  refine pure_ (i := 13) (N := some 101) (v := ?_) (a' := ?_) #[false, true, true, true, true, true, true, true, true, true, true, true, true, true, false, false] rfl rfl (any_of HT_.out (by kernel_rfl)) (fun _ _ _ h => h) (Or.inl ⟨by rfl, ?_⟩) ?_ ?_
  rotate_left
  · intro w'
    go_simp
    with_reducible rfl
  rotate_left
  · simp only [Act.put, List.setIfInBounds_toArray, List.set_cons_zero, List.set_cons_succ, i64_w, i32_w, IntKind.wrap_u32]
    rfl
  refine take_ (i := 0) (N := some 88) (v := ?_) (a' := ?_) #[true, true, true, true, true, true, true, true, true, true, true, true, true, true, false, false] rfl rfl (take_ofW HT_.out HW_.out (by kernel_rfl)) (fun _ _ _ h => h) (Or.inl ⟨by rfl, ?_⟩) hHeld ?_ ?_
  rotate_left
  · rintro w' ⟨s0, s1, s2⟩
    go_simp
    with_reducible rfl
  rotate_left
  · simp only [Act.put, List.setIfInBounds_toArray, List.set_cons_zero, List.set_cons_succ, i64_w, i32_w, IntKind.wrap_u32]
    rfl
  refine one_ (i := 14) (N := none) #[true, true, true, true, true, true, true, true, true, true, true, true, true, true, true, false] rfl rfl (one_of HT_.out (by kernel_rfl)) (by decide) (fun K hK => ?_)
  have hz := T.out.cells
  refine skip_ (w1 := ?_) (by rfl) rfl ?_ ?_
  rotate_left
  · go_simp
    rfl
  clear hz
  replace T := Aside0.mk (T.out.setR (.slice A0 l0.length c0) (.slice A1 l1.length c1))
  refine hK.out _ _ ⟨T.out.cells.1, T.out.cells.2.1, T.out.cells.2.2.2.1⟩ (fun hHeld => ?_)
  clear hK K
  refine pure_ (i := 15) (N := some 7) (v := ?_) (a' := ?_) #[true, true, true, true, true, true, true, true, true, true, true, true, true, true, true, true] rfl rfl (any_of HT_.out (by kernel_rfl)) (fun _ _ _ h => h) (Or.inl ⟨by rfl, ?_⟩) ?_ ?_
  rotate_left
  · intro w'
    go_simp
    with_reducible rfl
  rotate_left
  · simp only [Act.put, List.setIfInBounds_toArray, List.set_cons_zero, List.set_cons_succ, i64_w, i32_w, IntKind.wrap_u32]
    rfl
  refine done_ (done_of HT_.out (by kernel_rfl)) ?_
  try go_wp2
  refine bodyPost_ret (results_ct rfl _ _ br 30 #[.slice A0 l0.length c0, .slice A1 l1.length c1] (0, 0) _ rfl T.out.BR Try.underlying30 rfl (by kernel_rfl)) rfl ?_
  exact ⟨_, _, rfl, T.out.X, T.out.P, T.out.HB, T.out.KP⟩
set_option maxHeartbeats 8000000 in
set_option maxRecDepth 100000 in
theorem stepGetYes.calls (k : Nat) (hk : madeAll k = true) (w0 w : World) (hB : Below w0.heap.size w0 w) (g s : Nat) (L : List Slot) (f : Int) (hP : PoolAt w g s L f) (hg : w0.heap.size ≤ g) (hs : w0.heap.size ≤ s) (v0 v1 : Value) (l0 l1 : List Int) (hX : XAt w0.heap.size w v0 v1 l0 l1) (K N : Int) (hK : ¬ K = 1 ∧ ¬ K = 2 ∧ ¬ K = 3) (n : Nat) (x : Slot) (b : Nat) (hn : N = (n : Int)) (hx : L[n]? = some x) (hr : ¬ x.refs = 0) (hb : x.pg = some b) (hx0 : l0[n]? = some x.refs) (hx1 : l1[n]? = some x.mark) (his : credenzaref10_Pool_Is.f l0 l1 N = some true) :
    Calls Try.prog 14 #[.pointer (some ⟨g, 0, none⟩), .agg #[v0, v1], .agg #[.int .i64 K, .int .i64 N]] w fun e w' => ∃ u0 u1, e = .returned (.tuple #[.agg #[u0, u1], .bool true]) ∧ XAt w0.heap.size w' u0 u1 l0 l1 ∧ PoolAt w' g s L f ∧ Below w0.heap.size w0 w' ∧ Kept w w' (fun k_ => (k_ = g ∨ k_ = s) ∨ (some k_ = v0.ownBlock ∨ some k_ = v1.ownBlock)) := by
  have k1 : (K == 1) = false := beq_eq_false_iff_ne.mpr hK.1
  have k2 : (K == 2) = false := beq_eq_false_iff_ne.mpr hK.2.1
  have k3 : (K == 3) = false := beq_eq_false_iff_ne.mpr hK.2.2
  have hfd := field6
  have HK := Aside0.mk hk
  have P := Aside0.mk hP
  have X := Aside0.mk hX
  have G := Aside0.mk hg
  have S := Aside0.mk hs
  have HB := Aside0.mk hB
  obtain ⟨A0, c0, rfl⟩ := Kd.R_slice hX.r0
  obtain ⟨A1, c1, rfl⟩ := Kd.R_slice hX.r1
  have hu30 := Try.underlying30
  have hu33 := Try.underlying33
  clear hk hP hX hg hs hB
  have HX := Aside0.mk hx
  have HRR := Aside0.mk hr
  have HBB := Aside0.mk hb
  have HIS := Aside0.mk his
  have H0 := Aside0.mk hx0
  have H1 := Aside0.mk hx1
  subst hn
  have n0 : (0 : Int) ≤ (n : Int) := by omega
  have n1 : (n : Int) < (l0.length : Int) := by have := (List.getElem?_eq_some_iff.mp hx0).1; omega
  have n2 : (n : Int) < (l1.length : Int) := by have := (List.getElem?_eq_some_iff.mp hx1).1; omega
  obtain ⟨ad0, ea0, -⟩ := Kd.at_int (Kd.R_reads' X.out.r0).2.2 (n : Int) n0 n1
  obtain ⟨ad1, ea1, -⟩ := Kd.at_int (Kd.R_reads' X.out.r1).2.2 (n : Int) n0 n2
  subst ea0 ea1
  have E0 := Aside0.mk (rfl : (some ad0 : Option Addr) = some ad0)
  have E1 := Aside0.mk (rfl : (some ad1 : Option Addr) = some ad1)
  obtain ⟨bq, eb, hq, -⟩ := P.out.hp x (List.mem_of_getElem? hx) hr
  obtain rfl : b = bq := Option.some.inj (hb.symm.trans eb)
  have Q := Aside0.mk hq
  clear hx hr hb his hx0 hx1 hq eb
  clear hK
  go_enter Try.func14, Try.ntmps14
  have HW := Aside0.mk (Below.refl w.heap.size w)
  go_upto_region 2 with (first | ((with_reducible refine gate_dst (N := 4) rfl ?_); refine box_event ?hg (N := 4) ?hd (cs := #[.slice (some ad0) l0.length c0, .slice (some ad1) l1.length c1]) (t := 30) ?hr ?_; (case hd => rfl); (case hg => rfl); (case hr => first | (go_simp; done) | (go_simp; rfl)); intro bx hg_ wa hbox hb; have BX := Aside0.mk hbox; have GX := Aside0.mk (by rw [hg_]; exact below_size HB.out : w0.heap.size ≤ bx); have GX1 := Aside0.mk (by rw [hg_]; exact below_size HW.out : w.heap.size ≤ bx); replace P := Aside0.mk (P.out.below hb); replace X := Aside0.mk (X.out.below hb); replace Q := Aside0.mk (Q.out.same (hb.block _ Q.out.lt)); replace HB := Aside0.mk (below_step HB.out hb); replace HW := Aside0.mk (below_step HW.out hb); clear hbox hb hg_) | ((with_reducible refine gate_dst (N := 5) rfl ?_); refine box_event ?hg (N := 5) ?hd (cs := #[.int .i64 K, .int .i64 (n : Int)]) (t := 33) ?hr ?_; (case hd => rfl); (case hg => rfl); (case hr => first | (go_simp; done) | (go_simp; rfl)); intro bo hg_ wb hbox hb; have BO := Aside0.mk hbox; replace BX := Aside0.mk (blk_below BX.out hb); replace P := Aside0.mk (P.out.below hb); replace X := Aside0.mk (X.out.below hb); replace Q := Aside0.mk (Q.out.same (hb.block _ Q.out.lt)); replace HB := Aside0.mk (below_step HB.out hb); replace HW := Aside0.mk (below_step HW.out hb); clear hbox hb hg_) | ((with_reducible refine gate_dst (N := 6) rfl ?_); refine box_event ?hg (N := 6) ?hd (cs := #[.slice none 0 0, .slice none 0 0]) (t := 30) ?hr ?_; (case hd => rfl); (case hg => rfl); (case hr => first | (go_simp; done) | (go_simp; rfl)); intro br hg_ wc hbox hb; have BR := Aside0.mk hbox; have GR := Aside0.mk (by rw [hg_]; exact below_size HB.out : w0.heap.size ≤ br); have GR1 := Aside0.mk (by rw [hg_]; exact below_size HW.out : w.heap.size ≤ br); have NE := Aside0.mk (by rw [hg_]; have := blk_lt BX.out; omega : bx ≠ br); replace BX := Aside0.mk (blk_below BX.out hb); replace BO := Aside0.mk (blk_below BO.out hb); replace P := Aside0.mk (P.out.below hb); replace X := Aside0.mk (X.out.below hb); replace Q := Aside0.mk (Q.out.same (hb.block _ Q.out.lt)); replace HB := Aside0.mk (below_step HB.out hb); replace HW := Aside0.mk (below_step HW.out hb); clear hbox hb hg_))
  have T := Aside0.mk (StepAt.mk P.out X.out BX.out BO.out BR.out NE.out GX.out GR.out HB.out G.out S.out GX1.out GR1.out (Kept.of_below HW.out (fun k_ => (k_ = g ∨ k_ = s) ∨ (some k_ = (Value.slice (some ad0) l0.length c0).ownBlock ∨ some k_ = (Value.slice (some ad1) l1.length c1).ownBlock))))
  clear P X BX BO BR NE GX GR HB G S GX1 GR1 HW
  have hz := T.out.cells
  go_upto_region 13 with (fail)
  go_upto_region 14 with (go_at_call 24; (refine (poolGet.calls g s L f n x b HX.out HRR.out HBB.out _ T.out.P).mono ?_); rintro e w3 ⟨rfl, rfl⟩; skip)
  go_upto_region 16 with (go_at_call 43; (refine (credenzaref10_Pool_Is.calls (some ad0) c0 l0 (some ad1) c1 l1 (n : Int) true _ (Kd.R_reads' T.out.X.r0).2.2 (Kd.R_reads' T.out.X.r0).2.1 (Kd.R_reads' T.out.X.r1).2.2 (Kd.R_reads' T.out.X.r1).2.1 HIS.out).mono ?_); rintro e w4 ⟨rfl, hb⟩; replace T := Aside0.mk (T.out.below hb); replace Q := Aside0.mk (Q.out.same (hb.block _ Q.out.lt)); clear hz hb; have hz := T.out.cells)
  clear hz
  replace T := Aside0.mk (T.out.drew)
  replace Q := Aside0.mk (Q.out.drewP)
  refine start_ (n := 34) (S := fun w' => w'.cell? ⟨bx, 0, none⟩ = some (.slice (some ad0) l0.length c0) ∧ w'.cell? ⟨bx, 1, none⟩ = some (.slice (some ad1) l1.length c1) ∧ w'.cell? ⟨bo, 1, none⟩ = some (.int .i64 (n : Int)) ∧ w'.cell? (ad1.add n) = some (.int .i64 x.mark) ∧ w'.cell? (ad0.add n) = some (.int .i64 x.refs)) (ds := []) #[false, false, false, false, false, false, false, false, false, false, false, false, false, false, false, false, false, false, false, false, false, false, false, false, false, false, false, false, false, false, false, false, false, false] (by kernel_rfl) rfl rfl ⟨T.out.cells.1, T.out.cells.2.1, T.out.cells.2.2.2.1, T.out.X.cell1 rfl H1.out, T.out.X.cell0 rfl H0.out⟩ (fun hHeld => ?_); refine with_tabW pgety.tab16 pgety.bits16 (fun HT_ HW_ => ?_)
  generalize w4.drew = w6 at T Q hHeld ⊢
  refine pure_ (i := 1) (N := some 103) (v := ?_) (a' := ?_) #[false, true, false, false, false, false, false, false, false, false, false, false, false, false, false, false, false, false, false, false, false, false, false, false, false, false, false, false, false, false, false, false, false, false] rfl rfl (any_of HT_.out (by kernel_rfl)) (fun _ _ _ h => h) (Or.inl ⟨by rfl, ?_⟩) ?_ ?_
  rotate_left
  · intro w'
    go_simp
    with_reducible rfl
  rotate_left
  · simp only [Act.put, List.setIfInBounds_toArray, List.set_cons_zero, List.set_cons_succ, i64_w, i32_w, IntKind.wrap_u32]
    rfl
  refine pure_ (i := 2) (N := some 104) (v := ?_) (a' := ?_) #[false, true, true, false, false, false, false, false, false, false, false, false, false, false, false, false, false, false, false, false, false, false, false, false, false, false, false, false, false, false, false, false, false, false] rfl rfl (any_of HT_.out (by kernel_rfl)) (fun _ _ _ h => h) (Or.inl ⟨by rfl, ?_⟩) ?_ ?_
  rotate_left
  · intro w'
    go_simp
    with_reducible rfl
  rotate_left
  · simp only [Act.put, List.setIfInBounds_toArray, List.set_cons_zero, List.set_cons_succ, i64_w, i32_w, IntKind.wrap_u32]
    rfl
  refine pure_ (i := 3) (N := some 105) (v := ?_) (a' := ?_) #[false, true, true, true, false, false, false, false, false, false, false, false, false, false, false, false, false, false, false, false, false, false, false, false, false, false, false, false, false, false, false, false, false, false] rfl rfl (any_of HT_.out (by kernel_rfl)) (fun _ _ _ h => h) (Or.inl ⟨by rfl, ?_⟩) ?_ ?_
  rotate_left
  · intro w'
    go_simp
    with_reducible rfl
  rotate_left
  · simp only [Act.put, List.setIfInBounds_toArray, List.set_cons_zero, List.set_cons_succ, i64_w, i32_w, IntKind.wrap_u32]
    rfl
  refine pure_ (i := 4) (N := some 106) (v := ?_) (a' := ?_) #[false, true, true, true, true, false, false, false, false, false, false, false, false, false, false, false, false, false, false, false, false, false, false, false, false, false, false, false, false, false, false, false, false, false] rfl rfl (any_of HT_.out (by kernel_rfl)) (fun _ _ _ h => h) (Or.inl ⟨by rfl, ?_⟩) ?_ ?_
  rotate_left
  · intro w'
    go_simp
    with_reducible rfl
  rotate_left
  · simp only [Act.put, List.setIfInBounds_toArray, List.set_cons_zero, List.set_cons_succ, i64_w, i32_w, IntKind.wrap_u32]
    rfl
  refine pure_ (i := 5) (N := some 107) (v := ?_) (a' := ?_) #[false, true, true, true, true, true, false, false, false, false, false, false, false, false, false, false, false, false, false, false, false, false, false, false, false, false, false, false, false, false, false, false, false, false] rfl rfl (any_of HT_.out (by kernel_rfl)) (fun _ _ _ h => h) (Or.inl ⟨by rfl, ?_⟩) ?_ ?_
  rotate_left
  · intro w'
    go_simp
    with_reducible rfl
  rotate_left
  · simp only [Act.put, List.setIfInBounds_toArray, List.set_cons_zero, List.set_cons_succ, i64_w, i32_w, IntKind.wrap_u32]
    rfl
  refine pure_ (i := 6) (N := some 108) (v := ?_) (a' := ?_) #[false, true, true, true, true, true, true, false, false, false, false, false, false, false, false, false, false, false, false, false, false, false, false, false, false, false, false, false, false, false, false, false, false, false] rfl rfl (any_of HT_.out (by kernel_rfl)) (fun _ _ _ h => h) (Or.inl ⟨by rfl, ?_⟩) ?_ ?_
  rotate_left
  · intro w'
    go_simp
    with_reducible rfl
  rotate_left
  · simp only [Act.put, List.setIfInBounds_toArray, List.set_cons_zero, List.set_cons_succ, i64_w, i32_w, IntKind.wrap_u32]
    rfl
  refine pure_ (i := 7) (N := some 109) (v := ?_) (a' := ?_) #[false, true, true, true, true, true, true, true, false, false, false, false, false, false, false, false, false, false, false, false, false, false, false, false, false, false, false, false, false, false, false, false, false, false] rfl rfl (any_of HT_.out (by kernel_rfl)) (fun _ _ _ h => h) (Or.inl ⟨by rfl, ?_⟩) ?_ ?_
  rotate_left
  · intro w'
    go_simp
    with_reducible rfl
  rotate_left
  · simp only [Act.put, List.setIfInBounds_toArray, List.set_cons_zero, List.set_cons_succ, i64_w, i32_w, IntKind.wrap_u32]
    rfl
  refine pure_ (i := 8) (N := some 110) (v := ?_) (a' := ?_) #[false, true, true, true, true, true, true, true, true, false, false, false, false, false, false, false, false, false, false, false, false, false, false, false, false, false, false, false, false, false, false, false, false, false] rfl rfl (any_of HT_.out (by kernel_rfl)) (fun _ _ _ h => h) (Or.inl ⟨by rfl, ?_⟩) ?_ ?_
  rotate_left
  · intro w'
    go_simp
    with_reducible rfl
  rotate_left
  · simp only [Act.put, List.setIfInBounds_toArray, List.set_cons_zero, List.set_cons_succ, i64_w, i32_w, IntKind.wrap_u32]
    rfl
  refine pure_ (i := 11) (N := some 113) (v := ?_) (a' := ?_) #[false, true, true, true, true, true, true, true, true, false, false, true, false, false, false, false, false, false, false, false, false, false, false, false, false, false, false, false, false, false, false, false, false, false] rfl rfl (any_of HT_.out (by kernel_rfl)) (fun _ _ _ h => h) (Or.inl ⟨by rfl, ?_⟩) ?_ ?_
  rotate_left
  · intro w'
    go_simp
    with_reducible rfl
  rotate_left
  · simp only [Act.put, List.setIfInBounds_toArray, List.set_cons_zero, List.set_cons_succ, i64_w, i32_w, IntKind.wrap_u32]
    rfl
  refine pure_ (i := 13) (N := some 115) (v := ?_) (a' := ?_) #[false, true, true, true, true, true, true, true, true, false, false, true, false, true, false, false, false, false, false, false, false, false, false, false, false, false, false, false, false, false, false, false, false, false] rfl rfl (any_of HT_.out (by kernel_rfl)) (fun _ _ _ h => h) (Or.inl ⟨by rfl, ?_⟩) ?_ ?_
  rotate_left
  · intro w'
    go_simp
    with_reducible rfl
  rotate_left
  · simp only [Act.put, List.setIfInBounds_toArray, List.set_cons_zero, List.set_cons_succ, i64_w, i32_w, IntKind.wrap_u32]
    rfl
  refine take_ (i := 0) (N := some 102) (v := ?_) (a' := ?_) #[true, true, true, true, true, true, true, true, true, false, false, true, false, true, false, false, false, false, false, false, false, false, false, false, false, false, false, false, false, false, false, false, false, false] rfl rfl (take_ofW HT_.out HW_.out (by kernel_rfl)) (fun _ _ _ h => h) (Or.inl ⟨by rfl, ?_⟩) hHeld ?_ ?_
  rotate_left
  · rintro w' ⟨s0, s1, s2, s3, s4⟩
    go_simp
    with_reducible rfl
  rotate_left
  · simp only [Act.put, List.setIfInBounds_toArray, List.set_cons_zero, List.set_cons_succ, i64_w, i32_w, IntKind.wrap_u32]
    rfl
  refine take_ (i := 12) (N := some 114) (v := ?_) (a' := ?_) #[true, true, true, true, true, true, true, true, true, false, false, true, true, true, false, false, false, false, false, false, false, false, false, false, false, false, false, false, false, false, false, false, false, false] rfl rfl (take_ofW HT_.out HW_.out (by kernel_rfl)) (fun _ _ _ h => h) (Or.inl ⟨by rfl, ?_⟩) hHeld ?_ ?_
  rotate_left
  · rintro w' ⟨s0, s1, s2, s3, s4⟩
    go_simp
    with_reducible rfl
  rotate_left
  · simp only [Act.put, List.setIfInBounds_toArray, List.set_cons_zero, List.set_cons_succ, i64_w, i32_w, IntKind.wrap_u32]
    rfl
  refine take_ (i := 14) (N := some 116) (v := ?_) (a' := ?_) #[true, true, true, true, true, true, true, true, true, false, false, true, true, true, true, false, false, false, false, false, false, false, false, false, false, false, false, false, false, false, false, false, false, false] rfl rfl (take_ofW HT_.out HW_.out (by kernel_rfl)) (fun _ _ _ h => h) (Or.inl ⟨by rfl, ?_⟩) hHeld ?_ ?_
  rotate_left
  · rintro w' ⟨s0, s1, s2, s3, s4⟩
    go_simp
    with_reducible rfl
  rotate_left
  · simp only [Act.put, List.setIfInBounds_toArray, List.set_cons_zero, List.set_cons_succ, i64_w, i32_w, IntKind.wrap_u32]
    rfl
  refine pure_ (i := 15) (N := some 117) (v := ?_) (a' := ?_) #[true, true, true, true, true, true, true, true, true, false, false, true, true, true, true, true, false, false, false, false, false, false, false, false, false, false, false, false, false, false, false, false, false, false] rfl rfl (any_of HT_.out (by kernel_rfl)) (fun _ _ _ h => h) (Or.inl ⟨by rfl, ?_⟩) ?_ ?_
  rotate_left
  · intro w'
    go_simp
    with_reducible rfl
  rotate_left
  · simp only [Act.put, List.setIfInBounds_toArray, List.set_cons_zero, List.set_cons_succ, i64_w, i32_w, IntKind.wrap_u32]
    rfl
  refine take_ (i := 16) (N := some 118) (v := ?_) (a' := ?_) #[true, true, true, true, true, true, true, true, true, false, false, true, true, true, true, true, true, false, false, false, false, false, false, false, false, false, false, false, false, false, false, false, false, false] rfl rfl (take_ofW HT_.out HW_.out (by kernel_rfl)) (fun _ _ _ h => h) (Or.inl ⟨by rfl, ?_⟩) hHeld ?_ ?_
  rotate_left
  · rintro w' ⟨s0, s1, s2, s3, s4⟩
    go_simp
    with_reducible rfl
  rotate_left
  · simp only [Act.put, List.setIfInBounds_toArray, List.set_cons_zero, List.set_cons_succ, i64_w, i32_w, IntKind.wrap_u32]
    rfl
  refine one_ (i := 9) (N := some 111) #[true, true, true, true, true, true, true, true, true, true, false, true, true, true, true, true, true, false, false, false, false, false, false, false, false, false, false, false, false, false, false, false, false, false] rfl rfl (one_of HT_.out (by kernel_rfl)) (by decide) (fun K hK => ?_)
  refine goes_ Try.func25 (by kernel_rfl) rfl #[.pointer (some ⟨b, 0, none⟩)] (by rfl) rfl rfl (by simp only [List.map_toArray, List.map_cons, List.map_nil]; rfl) ?_
  with_reducible refine (poolHead.calls b x.mark _ Q.out).mono ?_
  rintro e w7 ⟨h0, h1, h2, h3, h4, h5, rfl, hb⟩
  refine ⟨_, rfl, ?_⟩
  replace T := Aside0.mk (T.out.below hb)
  clear hb Q
  refine hK.out _ _ ⟨T.out.cells.1, T.out.cells.2.1, T.out.cells.2.2.2.1, T.out.X.cell1 rfl H1.out, T.out.X.cell0 rfl H0.out⟩ (fun hHeld => ?_)
  clear hK K
  refine norm_ (a' := ?_) ?_ ?_
  rotate_left
  · show Act.put _ (some 111) _ = _
    simp only [Act.put, List.setIfInBounds_toArray, List.set_cons_zero, List.set_cons_succ, i64_w, i32_w, IntKind.wrap_u32]
    rfl
  refine pure_ (i := 10) (N := some 112) (v := ?_) (a' := ?_) #[true, true, true, true, true, true, true, true, true, true, true, true, true, true, true, true, true, false, false, false, false, false, false, false, false, false, false, false, false, false, false, false, false, false] rfl rfl (any_of HT_.out (by kernel_rfl)) (fun _ _ _ h => h) (Or.inl ⟨by rfl, ?_⟩) ?_ ?_
  rotate_left
  · intro w'
    go_simp
    with_reducible rfl
  rotate_left
  · simp only [Act.put, List.setIfInBounds_toArray, List.set_cons_zero, List.set_cons_succ, i64_w, i32_w, IntKind.wrap_u32]
    rfl
  refine pure_ (i := 17) (N := some 119) (v := ?_) (a' := ?_) #[true, true, true, true, true, true, true, true, true, true, true, true, true, true, true, true, true, true, false, false, false, false, false, false, false, false, false, false, false, false, false, false, false, false] rfl rfl (any_of HT_.out (by kernel_rfl)) (fun _ _ _ h => h) (Or.inl ⟨by rfl, ?_⟩) ?_ ?_
  rotate_left
  · intro w'
    go_simp
    with_reducible rfl
  rotate_left
  · simp only [Act.put, List.setIfInBounds_toArray, List.set_cons_zero, List.set_cons_succ, i64_w, i32_w, IntKind.wrap_u32]
    rfl
  refine pure_ (i := 18) (N := some 120) (v := ?_) (a' := ?_) #[true, true, true, true, true, true, true, true, true, true, true, true, true, true, true, true, true, true, true, false, false, false, false, false, false, false, false, false, false, false, false, false, false, false] rfl rfl (any_of HT_.out (by kernel_rfl)) (fun _ _ _ h => h) (Or.inl ⟨by rfl, ?_⟩) ?_ ?_
  rotate_left
  · intro w'
    go_simp
    with_reducible rfl
  rotate_left
  · simp only [Act.put, List.setIfInBounds_toArray, List.set_cons_zero, List.set_cons_succ, i64_w, i32_w, IntKind.wrap_u32]
    rfl
  refine pure_ (i := 19) (N := some 121) (v := ?_) (a' := ?_) #[true, true, true, true, true, true, true, true, true, true, true, true, true, true, true, true, true, true, true, true, false, false, false, false, false, false, false, false, false, false, false, false, false, false] rfl rfl (any_of HT_.out (by kernel_rfl)) (fun _ _ _ h => h) (Or.inl ⟨by rfl, ?_⟩) ?_ ?_
  rotate_left
  · intro w'
    go_simp
    with_reducible rfl
  rotate_left
  · simp only [Act.put, List.setIfInBounds_toArray, List.set_cons_zero, List.set_cons_succ, i64_w, i32_w, IntKind.wrap_u32]
    rfl
  refine pure_ (i := 20) (N := some 122) (v := ?_) (a' := ?_) #[true, true, true, true, true, true, true, true, true, true, true, true, true, true, true, true, true, true, true, true, true, false, false, false, false, false, false, false, false, false, false, false, false, false] rfl rfl (any_of HT_.out (by kernel_rfl)) (fun _ _ _ h => h) (Or.inl ⟨by rfl, ?_⟩) ?_ ?_
  rotate_left
  · intro w'
    go_simp
    with_reducible rfl
  rotate_left
  · simp only [Act.put, List.setIfInBounds_toArray, List.set_cons_zero, List.set_cons_succ, i64_w, i32_w, IntKind.wrap_u32]
    rfl
  refine pure_ (i := 21) (N := some 123) (v := ?_) (a' := ?_) #[true, true, true, true, true, true, true, true, true, true, true, true, true, true, true, true, true, true, true, true, true, true, false, false, false, false, false, false, false, false, false, false, false, false] rfl rfl (any_of HT_.out (by kernel_rfl)) (fun _ _ _ h => h) (Or.inl ⟨by rfl, ?_⟩) ?_ ?_
  rotate_left
  · intro w'
    go_simp
    with_reducible rfl
  rotate_left
  · simp only [Act.put, List.setIfInBounds_toArray, List.set_cons_zero, List.set_cons_succ, i64_w, i32_w, IntKind.wrap_u32]
    rfl
  refine pure_ (i := 24) (N := some 126) (v := ?_) (a' := ?_) #[true, true, true, true, true, true, true, true, true, true, true, true, true, true, true, true, true, true, true, true, true, true, false, false, true, false, false, false, false, false, false, false, false, false] rfl rfl (any_of HT_.out (by kernel_rfl)) (fun _ _ _ h => h) (Or.inl ⟨by rfl, ?_⟩) ?_ ?_
  rotate_left
  · intro w'
    go_simp
    with_reducible rfl
  rotate_left
  · simp only [Act.put, List.setIfInBounds_toArray, List.set_cons_zero, List.set_cons_succ, i64_w, i32_w, IntKind.wrap_u32]
    rfl
  refine pure_ (i := 26) (N := some 128) (v := ?_) (a' := ?_) #[true, true, true, true, true, true, true, true, true, true, true, true, true, true, true, true, true, true, true, true, true, true, false, false, true, false, true, false, false, false, false, false, false, false] rfl rfl (any_of HT_.out (by kernel_rfl)) (fun _ _ _ h => h) (Or.inl ⟨by rfl, ?_⟩) ?_ ?_
  rotate_left
  · intro w'
    go_simp
    with_reducible rfl
  rotate_left
  · simp only [Act.put, List.setIfInBounds_toArray, List.set_cons_zero, List.set_cons_succ, i64_w, i32_w, IntKind.wrap_u32]
    rfl
  refine take_ (i := 22) (N := some 124) (v := ?_) (a' := ?_) #[true, true, true, true, true, true, true, true, true, true, true, true, true, true, true, true, true, true, true, true, true, true, true, false, true, false, true, false, false, false, false, false, false, false] rfl rfl (take_ofW HT_.out HW_.out (by kernel_rfl)) (fun _ _ _ h => h) (Or.inl ⟨by rfl, ?_⟩) hHeld ?_ ?_
  rotate_left
  · rintro w' ⟨s0, s1, s2, s3, s4⟩
    go_simp
    with_reducible rfl
  rotate_left
  · simp only [Act.put, List.setIfInBounds_toArray, List.set_cons_zero, List.set_cons_succ, i64_w, i32_w, IntKind.wrap_u32]
    rfl
  refine take_ (i := 25) (N := some 127) (v := ?_) (a' := ?_) #[true, true, true, true, true, true, true, true, true, true, true, true, true, true, true, true, true, true, true, true, true, true, true, false, true, true, true, false, false, false, false, false, false, false] rfl rfl (take_ofW HT_.out HW_.out (by kernel_rfl)) (fun _ _ _ h => h) (Or.inl ⟨by rfl, ?_⟩) hHeld ?_ ?_
  rotate_left
  · rintro w' ⟨s0, s1, s2, s3, s4⟩
    go_simp
    with_reducible rfl
  rotate_left
  · simp only [Act.put, List.setIfInBounds_toArray, List.set_cons_zero, List.set_cons_succ, i64_w, i32_w, IntKind.wrap_u32]
    rfl
  refine take_ (i := 27) (N := some 129) (v := ?_) (a' := ?_) #[true, true, true, true, true, true, true, true, true, true, true, true, true, true, true, true, true, true, true, true, true, true, true, false, true, true, true, true, false, false, false, false, false, false] rfl rfl (take_ofW HT_.out HW_.out (by kernel_rfl)) (fun _ _ _ h => h) (Or.inl ⟨by rfl, ?_⟩) hHeld ?_ ?_
  rotate_left
  · rintro w' ⟨s0, s1, s2, s3, s4⟩
    go_simp
    with_reducible rfl
  rotate_left
  · simp only [Act.put, List.setIfInBounds_toArray, List.set_cons_zero, List.set_cons_succ, i64_w, i32_w, IntKind.wrap_u32]
    rfl
  refine pure_ (i := 28) (N := some 130) (v := ?_) (a' := ?_) #[true, true, true, true, true, true, true, true, true, true, true, true, true, true, true, true, true, true, true, true, true, true, true, false, true, true, true, true, true, false, false, false, false, false] rfl rfl (any_of HT_.out (by kernel_rfl)) (fun _ _ _ h => h) (Or.inl ⟨by rfl, ?_⟩) ?_ ?_
  rotate_left
  · intro w'
    go_simp
    with_reducible rfl
  rotate_left
  · simp only [Act.put, List.setIfInBounds_toArray, List.set_cons_zero, List.set_cons_succ, i64_w, i32_w, IntKind.wrap_u32]
    rfl
  refine take_ (i := 29) (N := some 131) (v := ?_) (a' := ?_) #[true, true, true, true, true, true, true, true, true, true, true, true, true, true, true, true, true, true, true, true, true, true, true, false, true, true, true, true, true, true, false, false, false, false] rfl rfl (take_ofW HT_.out HW_.out (by kernel_rfl)) (fun _ _ _ h => h) (Or.inl ⟨by rfl, ?_⟩) hHeld ?_ ?_
  rotate_left
  · rintro w' ⟨s0, s1, s2, s3, s4⟩
    go_simp
    with_reducible rfl
  rotate_left
  · simp only [Act.put, List.setIfInBounds_toArray, List.set_cons_zero, List.set_cons_succ, i64_w, i32_w, IntKind.wrap_u32]
    rfl
  refine one_ (i := 23) (N := some 125) #[true, true, true, true, true, true, true, true, true, true, true, true, true, true, true, true, true, true, true, true, true, true, true, true, true, true, true, true, true, true, false, false, false, false] rfl rfl (one_of HT_.out (by kernel_rfl)) (by decide) (fun K hK => ?_)
  refine goes_ Try.func26 (by kernel_rfl) rfl #[.pointer (some ⟨g, 0, none⟩), .int .i64 (n : Int)] (by rfl) rfl rfl (by simp only [List.map_toArray, List.map_cons, List.map_nil]; rfl) ?_
  with_reducible refine (poolRefs.calls g s L f n x HX.out HRR.out _ T.out.P).mono ?_
  rintro e w8 ⟨rfl, rfl⟩
  refine ⟨_, rfl, ?_⟩
  refine hK.out _ _ ⟨T.out.cells.1, T.out.cells.2.1, T.out.cells.2.2.2.1, T.out.X.cell1 rfl H1.out, T.out.X.cell0 rfl H0.out⟩ (fun hHeld => ?_)
  clear hK K
  refine norm_ (a' := ?_) ?_ ?_
  rotate_left
  · show Act.put _ (some 125) _ = _
    simp only [Act.put, List.setIfInBounds_toArray, List.set_cons_zero, List.set_cons_succ, i64_w, i32_w, IntKind.wrap_u32]
    rfl
  refine pure_ (i := 30) (N := some 132) (v := ?_) (a' := ?_) #[true, true, true, true, true, true, true, true, true, true, true, true, true, true, true, true, true, true, true, true, true, true, true, true, true, true, true, true, true, true, true, false, false, false] rfl rfl (any_of HT_.out (by kernel_rfl)) (fun _ _ _ h => h) (Or.inl ⟨by rfl, ?_⟩) ?_ ?_
  rotate_left
  · intro w'
    go_simp
    with_reducible rfl
  rotate_left
  · simp only [Act.put, List.setIfInBounds_toArray, List.set_cons_zero, List.set_cons_succ, i64_w, i32_w, IntKind.wrap_u32]
    rfl
  refine pure_ (i := 31) (N := some 133) (v := ?_) (a' := ?_) #[true, true, true, true, true, true, true, true, true, true, true, true, true, true, true, true, true, true, true, true, true, true, true, true, true, true, true, true, true, true, true, true, false, false] rfl rfl (any_of HT_.out (by kernel_rfl)) (fun _ _ _ h => h) (Or.inl ⟨by rfl, ?_⟩) ?_ ?_
  rotate_left
  · intro w'
    go_simp
    with_reducible rfl
  rotate_left
  · simp only [Act.put, List.setIfInBounds_toArray, List.set_cons_zero, List.set_cons_succ, i64_w, i32_w, IntKind.wrap_u32]
    rfl
  refine one_ (i := 32) (N := none) #[true, true, true, true, true, true, true, true, true, true, true, true, true, true, true, true, true, true, true, true, true, true, true, true, true, true, true, true, true, true, true, true, true, false] rfl rfl (one_of HT_.out (by kernel_rfl)) (by decide) (fun K hK => ?_)
  have hz := T.out.cells
  refine skip_ (w1 := ?_) (by rfl) rfl ?_ ?_
  rotate_left
  · go_simp
    rfl
  clear hz
  replace T := Aside0.mk (T.out.setR (.slice (some ad0) l0.length c0) (.slice (some ad1) l1.length c1))
  refine hK.out _ _ ⟨T.out.cells.1, T.out.cells.2.1, T.out.cells.2.2.2.1, T.out.X.cell1 rfl H1.out, T.out.X.cell0 rfl H0.out⟩ (fun hHeld => ?_)
  clear hK K
  refine pure_ (i := 33) (N := some 7) (v := ?_) (a' := ?_) #[true, true, true, true, true, true, true, true, true, true, true, true, true, true, true, true, true, true, true, true, true, true, true, true, true, true, true, true, true, true, true, true, true, true] rfl rfl (any_of HT_.out (by kernel_rfl)) (fun _ _ _ h => h) (Or.inl ⟨by rfl, ?_⟩) ?_ ?_
  rotate_left
  · intro w'
    go_simp
    with_reducible rfl
  rotate_left
  · simp only [Act.put, List.setIfInBounds_toArray, List.set_cons_zero, List.set_cons_succ, i64_w, i32_w, IntKind.wrap_u32]
    rfl
  refine done_ (done_of HT_.out (by kernel_rfl)) ?_
  try go_wp2
  refine bodyPost_ret (results_ct rfl _ _ br 30 #[.slice (some ad0) l0.length c0, .slice (some ad1) l1.length c1] (0, 0) _ rfl T.out.BR Try.underlying30 rfl (by kernel_rfl)) rfl ?_
  exact ⟨_, _, rfl, T.out.X, T.out.P, T.out.HB, T.out.KP⟩
-- calls: credenzalaw10_awake

end Go.Proofs.Ytoofkemhikigoaa.PPoolPlays
