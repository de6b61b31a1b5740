-- Written by a program of this session (wip/tools/mkprint.py over the kit's print).
import Derived.Test.YtoofkemhikigoaaPBlockPlaysx0
import Derived.Test.YtoofkemhikigoaaPBlockPlaysx6
import Derived.Test.YtoofkemhikigoaaPBlockPlaysx7
import Derived.Test.YtoofkemhikigoaaPBlockPlaysx8
namespace Go.Proofs.Ytoofkemhikigoaa.PBlockPlays
open Go.RowKit Go.Proofs.YtoofkemhikigoaaW.PrintWords Go.Proofs.YtoofkemhikigoaaW.PrintLast Go.Proofs.YtoofkemhikigoaaW.PrintMore
attribute [local go_sem] max2_int min2_int max_two min_two max_three min_three max_four min_four   -- for this text's walks alone
set_option linter.unusedVariables false
set_option linter.unusedSimpArgs false

/-! ### credenzalaw11_begun: function 29 -/
/-- A table: its block, where its rows lie, their values, the rows. -/
structure Tab where
 tb : Nat
 rp : Option Addr
 rc : Nat
 vs : List Value
 rows : List (List Int)
/-- What a play has: the pool, the document's (v0, v1), the play's own block pb, the row of tables, the document's rows D, the tables TS; a row of rows at hand (cv), and blocks of calls (E). own: to whom a block belongs (0 the document's pool, 1 its rows, i + 2 table i). -/
structure PlayO (w0 W : World) (own : Nat → Nat) (pb g s : Nat) (L : List Slot) (f : Int) (v0 v1 : Value) (l0 l1 : List Int) (x0 x1 ca cr av : Value) (TA : List Nat) (rv : Value) (D : List (List (List Int))) (TS : List Tab) (cv : Value) (cl : List (List Int)) (E : List (Nat × Array Value)) : Prop where
 P : PoolAt W g s L f
 X : XAt w0.heap.size W v0 v1 l0 l1
 hp : W.heap[pb]? = some (.cells #[.pointer (some ⟨g, 0, none⟩), x0, x1, ca, cr] 63 (0, 0))
 A : Kd.R (Kd.raw 1) 59 W w0.heap.size (fun k => some k = Value.ownBlock av) av (TA.map fun b => [Value.pointer (some ⟨b, 0, none⟩)])
 R : Kd.R (Kd.slice 28 (Kd.slice 3 (Kd.int .i64))) 70 W w0.heap.size (fun k => own k = 1) rv D
 C : Kd.R (Kd.slice 3 (Kd.int .i64)) 28 W w0.heap.size (fun k => own k = 1) cv cl
 ht : ∀ (i : Nat) (t : Tab), TS[i]? = some t → TabAt w0.heap.size W t.tb g t.rp t.rc t.vs t.rows
 lt : ∀ (i : Nat) (t : Tab), TS[i]? = some t → own t.tb = i + 2 ∧ ∀ k, OwnR t.rp t.vs k → own k = i + 2
 lx : ∀ k, some k = v0.ownBlock ∨ some k = v1.ownBlock → own k = 0
 hE : ∀ (b : Nat) (cs : Array Value), (b, cs) ∈ E → W.heap[b]? = some (.cells cs 57 (0, 0))
 HB : Below w0.heap.size w0 W
 gg : w0.heap.size ≤ g
 gs : w0.heap.size ≤ s
 gp : w0.heap.size ≤ pb
theorem XAt.keep {B : Nat} {W W' : World} {v0 v1 : Value} {l0 l1 : List Int} (h : XAt B W v0 v1 l0 l1) (hs : ∀ k, some k = v0.ownBlock ∨ some k = v1.ownBlock → W'.heap[k]? = W.heap[k]?) : XAt B W' v0 v1 l0 l1 := ⟨Kd.R_step h.r0 (fun k hk _ => hs k (.inl hk)), Kd.R_step h.r1 (fun k hk _ => hs k (.inr hk)), h.ne⟩
theorem TabAt.step {B : Nat} {W W' : World} {tb g : Nat} {rp : Option Addr} {rc : Nat} {vs : List Value} {rows : List (List Int)} (h : TabAt B W tb g rp rc vs rows) (hs : ∀ k, k = tb ∨ OwnR rp vs k → W'.heap[k]? = W.heap[k]?) : TabAt B W' tb g rp rc vs rows := ⟨(hs tb (.inl rfl)).trans h.ht, h.hR.step (fun k hk => hs k (.inr hk)), h.hn, h.hB⟩
theorem set_atG {α : Type} {L : List α} {k i : Nat} {y x : α} (h : (L.set k y)[i]? = some x) : (i = k ∧ x = y) ∨ (i ≠ k ∧ L[i]? = some x) := by
 by_cases e : i = k
 ·
  subst e
  rw [List.getElem?_set_self' ] at h
  cases q : L[i]? with
  | none => rw [q] at h; cases h
  | some z => rw [q] at h; exact .inl ⟨rfl, (Option.some.inj h).symm⟩
 ·
  rw [List.getElem?_set_ne (fun q => e q.symm)] at h
  exact .inr ⟨e, h⟩
theorem snoc_at {α : Type} {L : List α} {i : Nat} {y x : α} (h : (L ++ [y])[i]? = some x) : (i < L.length ∧ L[i]? = some x) ∨ (i = L.length ∧ x = y) := by
 by_cases e : i < L.length
 ·
  rw [List.getElem?_append_left e] at h
  exact .inl ⟨e, h⟩
 ·
  have := (List.getElem?_eq_some_iff.mp h).1
  rw [List.length_append, List.length_singleton] at this
  obtain rfl : i = L.length := by omega
  rw [List.getElem?_append_right (Nat.le_refl _), Nat.sub_self] at h
  exact .inr ⟨rfl, (Option.some.inj h).symm⟩
section
variable {w0 W W' : World} {own : Nat → Nat} {pb g s : Nat} {L L' : List Slot} {f f' : Int} {v0 v1 u0 u1 : Value} {l0 l1 m0 m1 : List Int} {x0 x1 ca cr av av1 : Value} {TA : List Nat} {rv rv1 : Value} {D : List (List (List Int))} {TS : List Tab} {cv cv1 : Value} {cl cl1 : List (List Int)} {E : List (Nat × Array Value)}
/-- What stays where no block of these types, but those of owner n, has turned. -/
theorem PlayO.parts (h : PlayO w0 W own pb g s L f v0 v1 l0 l1 x0 x1 ca cr av TA rv D TS cv cl E) (m n : Nat) (hm : m = 0 ∨ m = 63 ∨ m = 59 ∨ m = 70) (hs : ∀ (k : Nat) (cs : Array Value) (t : Nat), W.heap[k]? = some (.cells cs t (0, 0)) → t ≠ m → ((t = 63 ∨ t = 59 ∨ t = 57 ∨ t = 70) ∨ ((t = 100 ∨ t = 28 ∨ t = 3) ∧ own k ≠ n)) → W'.heap[k]? = W.heap[k]?) :
  (m ≠ 63 → W'.heap[pb]? = W.heap[pb]?) ∧ (m ≠ 59 → Kd.R (Kd.raw 1) 59 W' w0.heap.size (fun k => some k = Value.ownBlock av) av (TA.map fun b => [Value.pointer (some ⟨b, 0, none⟩)])) ∧ (m ≠ 70 → n ≠ 1 → Kd.R (Kd.slice 28 (Kd.slice 3 (Kd.int .i64))) 70 W' w0.heap.size (fun k => own k = 1) rv D) ∧ (n ≠ 1 → Kd.R (Kd.slice 3 (Kd.int .i64)) 28 W' w0.heap.size (fun k => own k = 1) cv cl) ∧ (∀ (i : Nat) (t : Tab), TS[i]? = some t → i + 2 ≠ n → TabAt w0.heap.size W' t.tb g t.rp t.rc t.vs t.rows) ∧ (n ≠ 0 → XAt w0.heap.size W' v0 v1 l0 l1) ∧ (∀ (b : Nat) (cs : Array Value), (b, cs) ∈ E → W'.heap[b]? = some (.cells cs 57 (0, 0))) := by
 refine ⟨fun e => hs pb _ 63 h.hp (fun q => e q.symm) (.inl (.inl rfl)), fun e => Kd.R_step h.A (fun k hk hlt => by obtain ⟨cs, hc⟩ := Kd.R_typed h.A k hk.symm; exact hs k cs 59 hc (fun q => e q.symm) (.inl (.inr (.inl rfl)))), fun e e1 => ?_, fun e1 => ?_, fun i t hi hne => ?_, fun e0 => ?_, fun b cs hb => ?_⟩
 ·
  refine Kd.R_mono (Kd.R_step (Kd.R_bound h.R) (fun k hk hlt => ?_)) (fun k hk => hk.1)
  obtain ⟨h1, h2, h3, q, hq, cs, hc⟩ := hk
  have hq' : q = 70 ∨ q = 28 ∨ q = 3 := by simpa [Kd.slice, Kd.int, Kd.scalar] using hq
  rcases hq' with rfl | rfl | rfl
  ·
   exact hs k cs 70 hc (fun q => e q.symm) (.inl (.inr (.inr (.inr rfl))))
  ·
   exact hs k cs 28 hc (by omega) (.inr ⟨.inr (.inl rfl), fun q => e1 (q.symm.trans h1)⟩)
  ·
   exact hs k cs 3 hc (by omega) (.inr ⟨.inr (.inr rfl), fun q => e1 (q.symm.trans h1)⟩)
 ·
  refine Kd.R_mono (Kd.R_step (Kd.R_bound h.C) (fun k hk hlt => ?_)) (fun k hk => hk.1)
  obtain ⟨h1, h2, h3, q, hq, cs, hc⟩ := hk
  have hq' : q = 28 ∨ q = 3 := by simpa [Kd.slice, Kd.int, Kd.scalar] using hq
  rcases hq' with rfl | rfl
  ·
   exact hs k cs 28 hc (by omega) (.inr ⟨.inr (.inl rfl), fun q => e1 (q.symm.trans h1)⟩)
  ·
   exact hs k cs 3 hc (by omega) (.inr ⟨.inr (.inr rfl), fun q => e1 (q.symm.trans h1)⟩)
 ·
  have htab := h.ht i t hi
  refine htab.step (fun k hk => ?_)
  rcases hk with rfl | hk
  ·
   exact hs _ _ 100 htab.ht (by omega) (.inr ⟨.inl rfl, by rw [(h.lt i t hi).1]; exact hne⟩)
  ·
   obtain ⟨cs, q, hc, hq⟩ := htab.hR.typed hk
   refine hs k cs q hc (by rcases hq with rfl | rfl <;> omega) (.inr ⟨by rcases hq with rfl | rfl; exact .inr (.inl rfl); exact .inr (.inr rfl), by rw [(h.lt i t hi).2 k hk]; exact hne⟩)
 ·
  refine h.X.keep (fun k hk => ?_)
  have ho := h.lx k hk
  obtain ⟨cs, hc⟩ : ∃ cs, W.heap[k]? = some (.cells cs 3 (0, 0)) := hk.elim h.X.typed0 h.X.typed1
  exact hs k cs 3 hc (by omega) (.inr ⟨.inr (.inr rfl), by rw [ho]; exact fun q => e0 q.symm⟩)
 ·
  exact (hs b cs 57 (h.hE b cs hb) (by omega) (.inl (.inr (.inr (.inl rfl))))).trans (h.hE b cs hb)
theorem PlayO.keep (h : PlayO w0 W own pb g s L f v0 v1 l0 l1 x0 x1 ca cr av TA rv D TS cv cl E) (hs : ∀ (k : Nat) (cs : Array Value) (t : Nat), W.heap[k]? = some (.cells cs t (0, 0)) → (t = 63 ∨ t = 59 ∨ t = 57 ∨ t = 70 ∨ t = 100 ∨ t = 28 ∨ t = 3) → W'.heap[k]? = W.heap[k]?) (hP : PoolAt W' g s L' f') (hB : Below w0.heap.size w0 W') : PlayO w0 W' own pb g s L' f' v0 v1 l0 l1 x0 x1 ca cr av TA rv D TS cv cl E := by
 obtain ⟨p1, p2, p3, p4, p5, p6, p7⟩ := h.parts (W' := W') 0 (TS.length + 2) (.inl rfl) (fun k cs t hc _ ht => hs k cs t hc (by omega))
 exact ⟨hP, p6 (by omega), (p1 (by decide)).trans h.hp, p2 (by decide), p3 (by decide) (by omega), p4 (by omega), fun i t hi => p5 i t hi (by have := (List.getElem?_eq_some_iff.mp hi).1; omega), h.lt, h.lx, p7, hB, h.gg, h.gs, h.gp⟩
theorem PlayO.below (h : PlayO w0 W own pb g s L f v0 v1 l0 l1 x0 x1 ca cr av TA rv D TS cv cl E) (hb : Below W.heap.size W W') : PlayO w0 W' own pb g s L f v0 v1 l0 l1 x0 x1 ca cr av TA rv D TS cv cl E := h.keep (fun k cs t hc _ => hb.block k (blk_lt hc)) (h.P.below hb) (below_step h.HB hb)
theorem PlayO.drew (h : PlayO w0 W own pb g s L f v0 v1 l0 l1 x0 x1 ca cr av TA rv D TS cv cl E) : PlayO w0 W.drew own pb g s L f v0 v1 l0 l1 x0 x1 ca cr av TA rv D TS cv cl E := h.below (below_drew1 (Below.refl _ _))
theorem PlayO.pool (h : PlayO w0 W own pb g s L f v0 v1 l0 l1 x0 x1 ca cr av TA rv D TS cv cl E) (hk : Kept W W' (fun q => q = g ∨ q = s)) (hp : PoolAt W' g s L' f') (hB : Below w0.heap.size w0 W') : PlayO w0 W' own pb g s L' f' v0 v1 l0 l1 x0 x1 ca cr av TA rv D TS cv cl E :=
 h.keep (fun k cs t hc ht => hk.2 k (blk_lt hc) (fun e => e.elim (blk_ne hc h.P.hg (by show (t : Nat) ≠ 77; omega)) (blk_ne hc h.P.hs (by show (t : Nat) ≠ 88; omega)))) hp hB
theorem PlayO.aside (h : PlayO w0 W own pb g s L f v0 v1 l0 l1 x0 x1 ca cr av TA rv D TS cv cl E) {b : Nat} {ds : Array Value} (hb : W.heap[b]? = some (.cells ds 30 (0, 0))) (hge : w0.heap.size ≤ b) (i : Nat) (u : Value) : PlayO w0 (W.setCell ⟨b, i, none⟩ u) own pb g s L f v0 v1 l0 l1 x0 x1 ca cr av TA rv D TS cv cl E :=
 h.keep (fun k cs t hc ht => Below.heap_setCell W ⟨b, i, none⟩ u k (blk_ne hc hb (by show (t : Nat) ≠ 30; omega))) (h.P.beside hb (by decide) i u) (h.HB.setCell (p := ⟨b, i, none⟩) hge u)
/-- What will be made belongs to n. -/
theorem PlayO.relabel (h : PlayO w0 W own pb g s L f v0 v1 l0 l1 x0 x1 ca cr av TA rv D TS cv cl E) (n : Nat) : PlayO w0 W (fun k => if k < W.heap.size then own k else n) pb g s L f v0 v1 l0 l1 x0 x1 ca cr av TA rv D TS cv cl E := by
 have hl : ∀ k, k < W.heap.size → (if k < W.heap.size then own k else n) = own k := fun k hk => if_pos hk
 refine ⟨h.P, h.X, h.hp, h.A, Kd.R_mono (Kd.R_bound h.R) (fun k hk => (hl k hk.2.2.1).trans hk.1), Kd.R_mono (Kd.R_bound h.C) (fun k hk => (hl k hk.2.2.1).trans hk.1), h.ht, fun i t hi => ⟨(hl _ (blk_lt (h.ht i t hi).ht)).trans (h.lt i t hi).1, fun k hk => (hl k ((h.ht i t hi).hR.lt hk)).trans ((h.lt i t hi).2 k hk)⟩, fun k hk => (hl k (hk.elim (fun e => Kd.R_lt h.X.r0 k e.symm) (fun e => Kd.R_lt h.X.r1 k e.symm))).trans (h.lx k hk), h.hE, h.HB, h.gg, h.gs, h.gp⟩
/-- A call on table i. -/
theorem PlayO.tab (h : PlayO w0 W own pb g s L f v0 v1 l0 l1 x0 x1 ca cr av TA rv D TS cv cl E) {i : Nat} {t : Tab} (hi : TS[i]? = some t) (hk : Kept W W' (fun q => (q = g ∨ q = s) ∨ (q = t.tb ∨ OwnR t.rp t.vs q))) (hp : PoolAt W' g s L' f') (hB : Below w0.heap.size w0 W') {rp' : Option Addr} {rc' : Nat} {vs' : List Value} {rows' : List (List Int)} (htab : TabAt w0.heap.size W' t.tb g rp' rc' vs' rows') (ho : ∀ q, OwnR rp' vs' q → OwnR t.rp t.vs q ∨ W.heap.size ≤ q) : ∃ own', PlayO w0 W' own' pb g s L' f' v0 v1 l0 l1 x0 x1 ca cr av TA rv D (TS.set i ⟨t.tb, rp', rc', vs', rows'⟩) cv cl E := by
 have h1 := h.relabel (i + 2)
 obtain ⟨p1, p2, p3, p4, p5, p6, p7⟩ := h1.parts (W' := W') 0 (i + 2) (.inl rfl) (fun k cs q hc _ hq => hk.2 k (blk_lt hc) (fun e => by
  rcases e with (e | e) | (e | e)
  ·
   exact blk_ne hc h.P.hg (by show (q : Nat) ≠ 77; omega) e
  ·
   exact blk_ne hc h.P.hs (by show (q : Nat) ≠ 88; omega) e
  ·
   rcases hq with hq | hq
   ·
    exact blk_ne hc (h.ht i t hi).ht (by show (q : Nat) ≠ 100; omega) e
   ·
    exact hq.2 (by rw [e]; exact (h1.lt i t hi).1)
  ·
   obtain ⟨cs', q', hc', hq'⟩ := (h.ht i t hi).hR.typed e
   rcases hq with hq | hq
   ·
    exact blk_ne hc hc' (by show (q : Nat) ≠ (q' : Nat); rcases hq' with rfl | rfl <;> omega) rfl
   ·
    exact hq.2 ((h1.lt i t hi).2 k e)))
 refine ⟨_, hp, p6 (by omega), (p1 (by decide)).trans h.hp, p2 (by decide), p3 (by decide) (by omega), p4 (by omega), fun j u hj => ?_, fun j u hj => ?_, h1.lx, p7, hB, h.gg, h.gs, h.gp⟩
 ·
  rcases set_atG hj with ⟨rfl, rfl⟩ | ⟨hne, hj⟩
  ·
   exact htab
  ·
   exact p5 j u hj (by omega)
 ·
  rcases set_atG hj with ⟨rfl, rfl⟩ | ⟨hne, hj⟩
  ·
   exact ⟨(h1.lt _ t hi).1, fun k hk2 => (ho k hk2).elim (fun e => (h1.lt _ t hi).2 k e) (fun e => if_neg (by omega))⟩
  ·
   exact h1.lt j u hj
/-- A fork: one more table. -/
theorem PlayO.fork (h : PlayO w0 W own pb g s L f v0 v1 l0 l1 x0 x1 ca cr av TA rv D TS cv cl E) (hk : Kept W W' (fun q => q = g ∨ q = s)) (hp : PoolAt W' g s L' f') (hB : Below w0.heap.size w0 W') {ob : Nat} {rp' : Option Addr} {rc' : Nat} {vs' : List Value} {rows' : List (List Int)} (htab : TabAt w0.heap.size W' ob g rp' rc' vs' rows') (hob : W.heap.size ≤ ob) (ho : ∀ q, OwnR rp' vs' q → W.heap.size ≤ q) : ∃ own', PlayO w0 W' own' pb g s L' f' v0 v1 l0 l1 x0 x1 ca cr av TA rv D (TS ++ [⟨ob, rp', rc', vs', rows'⟩]) cv cl E := by
 have h1 := (h.relabel (TS.length + 2)).pool hk hp hB
 refine ⟨_, h1.P, h1.X, h1.hp, h1.A, h1.R, h1.C, fun j u hj => ?_, fun j u hj => ?_, h1.lx, h1.hE, h1.HB, h1.gg, h1.gs, h1.gp⟩
 ·
  rcases snoc_at hj with ⟨-, hj⟩ | ⟨rfl, rfl⟩
  ·
   exact h1.ht j u hj
  ·
   exact htab
 ·
  rcases snoc_at hj with ⟨-, hj⟩ | ⟨rfl, rfl⟩
  ·
   exact h1.lt j u hj
  ·
   exact ⟨if_neg (Nat.not_lt.mpr hob), fun k hk2 => if_neg (Nat.not_lt.mpr (ho k hk2))⟩
/-- A call on the document's pool. -/
theorem PlayO.ref (h : PlayO w0 W own pb g s L f v0 v1 l0 l1 x0 x1 ca cr av TA rv D TS cv cl E) (hk : Kept W W' (fun k => some k = v0.ownBlock ∨ some k = v1.ownBlock)) (hx : XAt w0.heap.size W' u0 u1 m0 m1) (ho : ∀ k, some k = u0.ownBlock ∨ some k = u1.ownBlock → (some k = v0.ownBlock ∨ some k = v1.ownBlock) ∨ W.heap.size ≤ k) (hB : Below w0.heap.size w0 W') : ∃ own', PlayO w0 W' own' pb g s L f u0 u1 m0 m1 x0 x1 ca cr av TA rv D TS cv cl E := by
 have h1 := h.relabel 0
 obtain ⟨p1, p2, p3, p4, p5, p6, p7⟩ := h1.parts (W' := W') 0 0 (.inl rfl) (fun k cs q hc _ hq => hk.2 k (blk_lt hc) (fun e => by
  obtain ⟨cs', hc'⟩ : ∃ cs, W.heap[k]? = some (.cells cs 3 (0, 0)) := e.elim h.X.typed0 h.X.typed1
  rcases hq with hq | hq
  ·
   exact blk_ne hc hc' (by show (q : Nat) ≠ 3; omega) rfl
  ·
   exact hq.2 (h1.lx k e)))
 exact ⟨_, h.P.keeps h.X hk, hx, (p1 (by decide)).trans h.hp, p2 (by decide), p3 (by decide) (by omega), p4 (by omega), fun j u hj => p5 j u hj (by omega), h1.lt, fun k hk2 => (ho k hk2).elim (fun e => h1.lx k e) (fun e => if_neg (by omega)), p7, hB, h.gg, h.gs, h.gp⟩
/-- A store into the play's own block. -/
theorem PlayO.put (h : PlayO w0 W own pb g s L f v0 v1 l0 l1 x0 x1 ca cr av TA rv D TS cv cl E) (i : Nat) (u : Value) {y0 y1 y2 y3 : Value} (he : (#[.pointer (some ⟨g, 0, none⟩), x0, x1, ca, cr] : Array Value).setIfInBounds i u = #[.pointer (some ⟨g, 0, none⟩), y0, y1, y2, y3]) : PlayO w0 (W.setCell ⟨pb, i, none⟩ u) own pb g s L f v0 v1 l0 l1 y0 y1 y2 y3 av TA rv D TS cv cl E := by
 obtain ⟨p1, p2, p3, p4, p5, p6, p7⟩ := h.parts (W' := W.setCell ⟨pb, i, none⟩ u) 63 (TS.length + 2) (.inr (.inl rfl)) (fun k cs t hc ht _ => Below.heap_setCell W ⟨pb, i, none⟩ u k (blk_ne hc h.hp ht))
 exact ⟨h.P.beside h.hp (by decide) i u, p6 (by omega), blk_put h.hp i u he, p2 (by decide), p3 (by decide) (by omega), p4 (by omega), fun j t hj => p5 j t hj (by have := (List.getElem?_eq_some_iff.mp hj).1; omega), h.lt, h.lx, p7, h.HB.setCell (p := ⟨pb, i, none⟩) h.gp u, h.gg, h.gs, h.gp⟩
theorem PlayO.setX (h : PlayO w0 W own pb g s L f v0 v1 l0 l1 x0 x1 ca cr av TA rv D TS cv cl E) (y0 y1 : Value) : PlayO w0 ((W.setCell ⟨pb, 1, none⟩ y0).setCell ⟨pb, 2, none⟩ y1) own pb g s L f v0 v1 l0 l1 y0 y1 ca cr av TA rv D TS cv cl E := (h.put 1 y0 (y0 := y0) (y1 := x1) (y2 := ca) (y3 := cr) rfl).put 2 y1 rfl
/-- Behind an append to the row of tables. -/
theorem PlayO.growA (h : PlayO w0 W own pb g s L f v0 v1 l0 l1 x0 x1 ca cr av TA rv D TS cv cl E) {ob : Nat} (hg : W.grownBy W' av.ownBlock) (hR : Kd.R (Kd.raw 1) 59 W' w0.heap.size (fun _ => True) av1 ((TA.map fun b => [Value.pointer (some ⟨b, 0, none⟩)]) ++ [[Value.pointer (some ⟨ob, 0, none⟩)]])) (hB : Below w0.heap.size w0 W') : PlayO w0 W' own pb g s L f v0 v1 l0 l1 x0 x1 ca cr av1 (TA ++ [ob]) rv D TS cv cl E := by
 obtain ⟨p1, p2, p3, p4, p5, p6, p7⟩ := h.parts (W' := W') 59 (TS.length + 2) (.inr (.inr (.inl rfl))) (fun k cs t hc ht _ => hg.block k (blk_lt hc) (fun e => by
  obtain ⟨cs', hc'⟩ := Kd.R_typed h.A k e.symm
  exact blk_ne hc hc' ht rfl))
 exact ⟨h.P.grownT (fun k hk => Kd.R_typed h.A k hk) (by decide) hg, p6 (by omega), (p1 (by decide)).trans h.hp, by rw [List.map_append]; exact Kd.R_tight rfl hR, p3 (by decide) (by omega), p4 (by omega), fun j t hj => p5 j t hj (by have := (List.getElem?_eq_some_iff.mp hj).1; omega), h.lt, h.lx, p7, hB, h.gg, h.gs, h.gp⟩
/-- Behind an append to the row of the document's rows. -/
theorem PlayO.growR (h : PlayO w0 W own pb g s L f v0 v1 l0 l1 x0 x1 ca cr av TA rv D TS cv cl E) {d : List (List Int)} (hg : W.grownBy W' rv.ownBlock) (hR : Kd.R (Kd.slice 28 (Kd.slice 3 (Kd.int .i64))) 70 W' w0.heap.size (fun k => own k = 1 ∨ W.heap.size ≤ k) rv1 (D ++ [d])) (hB : Below w0.heap.size w0 W') : ∃ own', PlayO w0 W' own' pb g s L f v0 v1 l0 l1 x0 x1 ca cr av TA rv1 (D ++ [d]) TS cv cl E := by
 have h1 := h.relabel 1
 obtain ⟨p1, p2, p3, p4, p5, p6, p7⟩ := h1.parts (W' := W') 70 (TS.length + 2) (.inr (.inr (.inr rfl))) (fun k cs t hc ht _ => hg.block k (blk_lt hc) (fun e => by
  obtain ⟨cs', hc'⟩ := Kd.R_typed h.R k e.symm
  exact blk_ne hc hc' ht rfl))
 refine ⟨_, h.P.grownT (fun k hk => Kd.R_typed h.R k hk) (by decide) hg, p6 (by omega), (p1 (by decide)).trans h.hp, p2 (by decide), Kd.R_mono hR (fun k hk => ?_), p4 (by omega), fun j t hj => p5 j t hj (by have := (List.getElem?_eq_some_iff.mp hj).1; omega), h1.lt, h1.lx, p7, hB, h.gg, h.gs, h.gp⟩
 show (if k < W.heap.size then own k else 1) = 1
 split
 ·
  exact hk.elim id (fun e => by omega)
 ·
  rfl
theorem setCells1 (W : World) (b i : Nat) (u : Value) : W.setCells b i [u] = W.setCell ⟨b, i, none⟩ u := rfl
/-- The row at hand takes the place of one of the document's. -/
theorem PlayO.setRow (h : PlayO w0 W own pb g s L f v0 v1 l0 l1 x0 x1 ca cr av TA rv D TS cv cl E) {rb n cap i : Nat} (hr : rv = .slice (some ⟨rb, 0, none⟩) n cap) (hi : i < D.length) : PlayO w0 (W.setCell ⟨rb, i, none⟩ cv) own pb g s L f v0 v1 l0 l1 x0 x1 ca cr av TA rv (D.set i cl) TS cv cl E ∧ (∃ u, W.cell? ⟨rb, i, none⟩ = some u) ∧ W.frozen? ⟨rb, i, none⟩ = false := by
 subst hr
 have hn := (Kd.R_reads' h.R).1
 obtain ⟨cs, hb⟩ := Kd.R_typed h.R rb rfl
 obtain ⟨c, hcl, -, hcc, hfr⟩ := Kd.R_elem h.R [] (i : Int) (by omega) (by omega)
 have hC := Kd.R_types h.C hb (by intro q hq; have hq' : q = 28 ∨ q = 3 := (by simpa [Kd.slice, Kd.int, Kd.scalar] using hq); rcases hq' with rfl | rfl <;> decide)
 obtain ⟨u, rfl⟩ : ∃ u, c = [u] := List.length_eq_one_iff.mp hcl
 have hsz : ∀ j : Nat, (i : Int).toNat * (Kd.sz (Kd.slice 28 (Kd.slice 3 (Kd.int .i64)))) + j = i + j := fun j => by show (i : Int).toNat * 1 + j = i + j; omega
 obtain ⟨hR, hg⟩ := Kd.R_seg h.R (i : Int) (by omega) (by omega) (c := [u]) (seg := [cv]) (j := 0) (x' := cl) hcl hcc (Nat.le_refl 1) (okp := fun k => own k = 1 ∧ k ≠ rb) ⟨cv, rfl, hC⟩ (fun k hk => hk)
 rw [hsz 0, Nat.add_zero, Int.toNat_natCast, setCells1] at hR
 rw [hsz 0, Nat.add_zero, setCells1] at hg
 have hc0 := hcc 0 u rfl
 have hf0 := hfr 0
 rw [hsz 0, Nat.add_zero] at hc0 hf0
 obtain ⟨p1, p2, p3, p4, p5, p6, p7⟩ := h.parts (W' := W.setCell ⟨rb, i, none⟩ cv) 70 (TS.length + 2) (.inr (.inr (.inr rfl))) (fun k cs t hc ht _ => Below.heap_setCell W ⟨rb, i, none⟩ cv k (blk_ne hc hb ht))
 exact ⟨⟨h.P.beside hb (by decide) i cv, p6 (by omega), (p1 (by decide)).trans h.hp, p2 (by decide), hR, p4 (by omega), fun j t hj => p5 j t hj (by have := (List.getElem?_eq_some_iff.mp hj).1; omega), h.lt, h.lx, p7, h.HB.setCell (p := ⟨rb, i, none⟩) (Kd.R_base h.R rb rfl) cv, h.gg, h.gs, h.gp⟩, ⟨u, hc0⟩, hf0⟩
/-- Another row at hand. -/
theorem PlayO.cur (h : PlayO w0 W own pb g s L f v0 v1 l0 l1 x0 x1 ca cr av TA rv D TS cv cl E) (hc : Kd.R (Kd.slice 3 (Kd.int .i64)) 28 W w0.heap.size (fun k => own k = 1) cv1 cl1) : PlayO w0 W own pb g s L f v0 v1 l0 l1 x0 x1 ca cr av TA rv D TS cv1 cl1 E := ⟨h.P, h.X, h.hp, h.A, h.R, hc, h.ht, h.lt, h.lx, h.hE, h.HB, h.gg, h.gs, h.gp⟩
/-- A row of the document's, taken to hand. -/
theorem PlayO.take (h : PlayO w0 W own pb g s L f v0 v1 l0 l1 x0 x1 ca cr av TA rv D TS cv cl E) {A : Option Addr} {n c i : Nat} {d : List (List Int)} (hr : rv = .slice A n c) (hd : D[i]? = some d) : ∃ rb A1 c1, A = some ⟨rb, 0, none⟩ ∧ n = D.length ∧ W.cell? ⟨rb, i, none⟩ = some (.slice A1 d.length c1) ∧ PlayO w0 W own pb g s L f v0 v1 l0 l1 x0 x1 ca cr av TA rv D TS (.slice A1 d.length c1) d E := by
 subst hr
 have hn := (Kd.R_reads' h.R).1
 have hi := (List.getElem?_eq_some_iff.mp hd).1
 obtain ⟨rb, cap, e, -⟩ := Kd.R_form h.R (by omega)
 injection e with e1 e2 e3
 subst e1
 obtain ⟨c', hcl, hM, hcc, -⟩ := Kd.R_elem h.R [] (i : Int) (by omega) (by omega)
 obtain ⟨v, rfl, hv⟩ := hM
 have hx : D.getD (i : Int).toNat [] = d := by simp [List.getD_eq_getElem?_getD, hd]
 rw [hx] at hv
 have hv := Kd.R_mono hv (fun k hk => hk.1)
 obtain ⟨A1, c1, rfl⟩ := Kd.R_slice hv
 have h0 := hcc 0 _ rfl
 rw [show (i : Int).toNat * (Kd.sz (Kd.slice 28 (Kd.slice 3 (Kd.int .i64)))) + 0 = i from by show (i : Int).toNat * 1 + 0 = i; omega] at h0
 exact ⟨rb, A1, c1, rfl, hn, h0, h.cur hv⟩
/-- A row of rows that was made, taken to hand. -/
theorem PlayO.fresh (h : PlayO w0 W own pb g s L f v0 v1 l0 l1 x0 x1 ca cr av TA rv D TS cv cl E) (hb : Below W.heap.size W W') (hS : Kd.R (Kd.slice 3 (Kd.int .i64)) 28 W' W.heap.size (fun _ => True) cv1 cl1) : ∃ own', PlayO w0 W' own' pb g s L f v0 v1 l0 l1 x0 x1 ca cr av TA rv D TS cv1 cl1 E :=
 ⟨_, ((h.relabel 1).below hb).cur (Kd.R_lower (Kd.R_mono (Kd.R_bound hS) (fun k hk => if_neg (by have := hk.2.1; omega))) (below_size h.HB))⟩
theorem PlayO.box (h : PlayO w0 W own pb g s L f v0 v1 l0 l1 x0 x1 ca cr av TA rv D TS cv cl E) {b : Nat} {cs : Array Value} (hb : W.heap[b]? = some (.cells cs 57 (0, 0))) : PlayO w0 W own pb g s L f v0 v1 l0 l1 x0 x1 ca cr av TA rv D TS cv cl ((b, cs) :: E) := ⟨h.P, h.X, h.hp, h.A, h.R, h.C, h.ht, h.lt, h.lx, fun b' cs' hm => by
 rcases List.mem_cons.mp hm with e | hm
 ·
  cases e
  exact hb
 ·
  exact h.hE b' cs' hm, h.HB, h.gg, h.gs, h.gp⟩
theorem PlayO.cells (h : PlayO w0 W own pb g s L f v0 v1 l0 l1 x0 x1 ca cr av TA rv D TS cv cl E) : W.cell? ⟨pb, 0, none⟩ = some (.pointer (some ⟨g, 0, none⟩)) ∧ W.cell? ⟨pb, 1, none⟩ = some x0 ∧ W.cell? ⟨pb, 2, none⟩ = some x1 ∧ W.cell? ⟨pb, 3, none⟩ = some ca ∧ W.cell? ⟨pb, 4, none⟩ = some cr ∧ (∀ i, W.frozen? ⟨pb, i, none⟩ = false) :=
 ⟨(blk_cell h.hp 0).trans rfl, (blk_cell h.hp 1).trans rfl, (blk_cell h.hp 2).trans rfl, (blk_cell h.hp 3).trans rfl, (blk_cell h.hp 4).trans rfl, blk_frozen h.hp⟩
theorem PlayO.boxed {b : Nat} {c0 c1 c2 c3 : Value} (h : PlayO w0 W own pb g s L f v0 v1 l0 l1 x0 x1 ca cr av TA rv D TS cv cl ((b, #[c0, c1, c2, c3]) :: E)) : W.cell? ⟨b, 0, none⟩ = some c0 ∧ W.cell? ⟨b, 1, none⟩ = some c1 ∧ W.cell? ⟨b, 2, none⟩ = some c2 ∧ W.cell? ⟨b, 3, none⟩ = some c3 :=
 have hb := h.hE b _ List.mem_cons_self
 ⟨(blk_cell hb 0).trans rfl, (blk_cell hb 1).trans rfl, (blk_cell hb 2).trans rfl, (blk_cell hb 3).trans rfl⟩
/-- A table's pointer in the row of tables. -/
theorem PlayO.ptr (h : PlayO w0 W own pb g s L f v0 v1 l0 l1 x0 x1 ca cr av TA rv D TS cv cl E) {A : Option Addr} {n c i b : Nat} (hr : av = .slice A n c) (hd : TA[i]? = some b) : ∃ ab, A = some ⟨ab, 0, none⟩ ∧ n = TA.length ∧ W.cell? ⟨ab, i, none⟩ = some (.pointer (some ⟨b, 0, none⟩)) := by
 subst hr
 have hn := (Kd.R_reads' h.A).1
 rw [List.length_map] at hn
 have hi := (List.getElem?_eq_some_iff.mp hd).1
 obtain ⟨ab, cap, e, -⟩ := Kd.R_form h.A (by rw [List.length_map]; omega)
 injection e with e1 e2 e3
 subst e1
 obtain ⟨c', hcl, hM, hcc, -⟩ := Kd.R_elem h.A [] (i : Int) (by omega) (by omega)
 have hx : (TA.map fun b => [Value.pointer (some ⟨b, 0, none⟩)]).getD (i : Int).toNat [] = [Value.pointer (some ⟨b, 0, none⟩)] := by simp [List.getD_eq_getElem?_getD, hd]
 rw [hx] at hM
 obtain ⟨rfl, -⟩ := hM
 have h0 := hcc 0 _ rfl
 rw [show (i : Int).toNat * (Kd.sz (Kd.raw 1)) + 0 = i from by show (i : Int).toNat * 1 + 0 = i; omega] at h0
 exact ⟨ab, rfl, hn, h0⟩
end
/-- How many slots aren't free. -/
def cnt : List Slot → Int
 | [] => 0
 | x :: l => (if x.refs = 0 then 0 else 1) + cnt l
theorem cnt_append : ∀ a b : List Slot, cnt (a ++ b) = cnt a + cnt b
 | [], b => by simp [cnt]
 | x :: a, b => by
  have ih := cnt_append a b
  simp only [List.cons_append, cnt, ih]
  omega
theorem cnt_set (z : Slot) : ∀ (L : List Slot) (k : Nat) (y : Slot), L[k]? = some y → cnt (L.set k z) + (if y.refs = 0 then 0 else 1) = cnt L + (if z.refs = 0 then 0 else 1)
 | [], k, y, h => by simp at h
 | x :: L, 0, y, h => by
  obtain rfl := Option.some.inj h
  simp only [List.set_cons_zero, cnt]
  omega
 | x :: L, k + 1, y, h => by
  have ih := cnt_set z L k y (by simpa using h)
  simp only [List.set_cons_succ, cnt]
  omega
theorem used_cnt (L : List Slot) : ∀ n, n ≤ L.length → ((usedTo L n).length : Int) = cnt (L.take n)
 | 0, _ => rfl
 | n + 1, hn => by
  have ih := used_cnt L n (by omega)
  obtain ⟨x, hx⟩ : ∃ x, L[n]? = some x := ⟨_, List.getElem?_eq_getElem (by omega)⟩
  have ht : L.take (n + 1) = L.take n ++ [x] := by
   rw [List.take_succ_eq_append_getElem (by omega)]
   congr 1
   rw [List.getElem?_eq_getElem (by omega)] at hx
   rw [Option.some.inj hx]
  rw [ht, cnt_append, ← ih, usedTo, List.getD_eq_getElem?_getD, hx]
  simp only [Option.getD_some, cnt]
  split <;> simp
theorem used_all_cnt (L : List Slot) : ((usedTo L L.length).length : Int) = cnt L := by
 rw [used_cnt L L.length (Nat.le_refl _), List.take_length]
theorem less_zero (x : Slot) (h : x.refs = 1) : x.less = ⟨0, x.mark, none⟩ := by rw [Slot.less, if_pos h]
theorem less_more (x : Slot) (h : ¬ x.refs = 1) : x.less = ⟨x.refs + -1, x.mark, x.pg⟩ := by rw [Slot.less, if_neg h]
theorem cnt_bound : ∀ L : List Slot, 0 ≤ cnt L ∧ cnt L ≤ (L.length : Int)
 | [] => ⟨Int.le_refl _, Int.le_refl _⟩
 | x :: L => by
  have ih := cnt_bound L
  simp only [cnt, List.length_cons]
  split <;> omega
def RR (L : List Slot) : List Int := L.map Slot.refs
def MM (L : List Slot) : List Int := L.map Slot.mark
theorem RR_len (L : List Slot) : (RR L).length = L.length := by simp [RR]
theorem MM_len (L : List Slot) : (MM L).length = L.length := by simp [MM]
theorem rd_RR {L : List Slot} {n : Nat} {x : Slot} (h : L[n]? = some x) : rd (RR L) (n : Int) = x.refs := by
 simp [rd, RR, List.getD_eq_getElem?_getD, h]
theorem RR_get {L : List Slot} {n : Nat} {x : Slot} (h : L[n]? = some x) : (RR L)[n]? = some x.refs := by simp [RR, h]
theorem MM_get {L : List Slot} {n : Nat} {x : Slot} (h : L[n]? = some x) : (MM L)[n]? = some x.mark := by simp [MM, h]
theorem w64n (n : Nat) (h : n ≤ 100000) : wrap64 ((n : Int) + 1) = ((n + 1 : Nat) : Int) := by simp only [wrap64]; omega
theorem with_eq (l : List Int) (n : Nat) (a : Int) (hn : n < l.length) (hl : l.length ≤ 1000) : credenzaref10_with.f l (n : Int) a = some (l.set n a) := by
 unfold credenzaref10_with.f
 rw [if_pos (by simp; omega)]
 show (if 0 ≤ (n : Int) then (if (n : Int) < ((([] : List Int) ++ l).length : Int) then some ((([] : List Int) ++ l).set (n : Int).toNat a) else none) else none) = _
 rw [if_pos (by omega), if_pos (by simp; omega)]
 simp
theorem put_hit (L : List Slot) (m : Int) (hL : L.length ≤ 1000) (k : Nat) (y : Slot) (hy : L[k]? = some y) (h0 : y.refs = 0) (hb : ∀ j x, j < k → L[j]? = some x → ¬ x.refs = 0) : ∀ (d n kk : Nat), n + d = k → d < kk → credenzaref10_Pool_Put.l0 kk m (n : Int) (RR L) (MM L) = some ((RR L).set k 1, (MM L).set k m, (k : Int), 0)
 | 0, n, kk + 1, hd, _ => by
  obtain rfl : n = k := by omega
  have hlt := (List.getElem?_eq_some_iff.mp hy).1
  rw [credenzaref10_Pool_Put.l0, if_pos (by rw [RR_len]; omega), if_pos (by omega), if_pos (by rw [rd_RR hy, h0]), with_eq _ n 1 (by rw [RR_len]; exact hlt) (by rw [RR_len]; exact hL), with_eq _ n m (by rw [MM_len]; exact hlt) (by rw [MM_len]; exact hL)]
  rfl
 | d + 1, n, kk + 1, hd, hk => by
  have hlt := (List.getElem?_eq_some_iff.mp hy).1
  obtain ⟨x, hx⟩ : ∃ x, L[n]? = some x := ⟨_, List.getElem?_eq_getElem (by omega)⟩
  rw [credenzaref10_Pool_Put.l0, if_pos (by rw [RR_len]; omega), if_pos (by omega), if_neg (by rw [rd_RR hx]; exact hb n x (by omega) hx), w64n n (by omega)]
  exact put_hit L m hL k y hy h0 hb d (n + 1) kk (by omega) (by omega)
theorem put_full (L : List Slot) (m : Int) (hL : L.length ≤ 1000) (hb : ∀ x ∈ L, ¬ x.refs = 0) : ∀ (d n kk : Nat), n + d = L.length → d < kk → credenzaref10_Pool_Put.l0 kk m (n : Int) (RR L) (MM L) = some (RR L, MM L, 0, 23)
 | 0, n, kk + 1, hd, _ => by
  rw [credenzaref10_Pool_Put.l0, if_neg (by rw [RR_len]; omega)]
 | d + 1, n, kk + 1, hd, hk => by
  obtain ⟨x, hx⟩ : ∃ x, L[n]? = some x := ⟨_, List.getElem?_eq_getElem (by omega)⟩
  rw [credenzaref10_Pool_Put.l0, if_pos (by rw [RR_len]; omega), if_pos (by omega), if_neg (by rw [rd_RR hx]; exact hb x (List.mem_of_getElem? hx)), w64n n (by omega)]
  exact put_full L m hL hb d (n + 1) kk (by omega) (by omega)
theorem putR_ref {L L' : List Slot} {f m f' i e : Int} (hL : L.length ≤ 190) (h : PutR L f m L' f' i e) : credenzaref10_Pool_Put.f 200 (RR L) (MM L) m = some (RR L', MM L', i, e) := by
 unfold credenzaref10_Pool_Put.f
 rcases h with ⟨k, y, b, hy, hz, hb, rfl, -, rfl, rfl⟩ | ⟨hb, rfl, -, rfl, rfl⟩
 ·
  have hlt := (List.getElem?_eq_some_iff.mp hy).1
  have h := put_hit L m (by omega) k y hy hz hb k 0 200 (by omega) (by omega)
  rw [show ((0 : Nat) : Int) = 0 from rfl] at h
  rw [h, RR, RR, MM, MM, List.map_set, List.map_set]
 ·
  exact put_full L' m (by omega) hb L'.length 0 200 (by omega) (by omega)
theorem putR_any (L : List Slot) (f m : Int) : ∃ L' f' i e, PutR L f m L' f' i e := by
 rcases first_zero L with h1 | ⟨k, y, hy, h0, hb⟩
 ·
  exact ⟨_, _, _, _, .inr ⟨h1, rfl, rfl, rfl, rfl⟩⟩
 ·
  exact ⟨_, _, _, _, .inl ⟨k, y, 0, hy, h0, hb, rfl, rfl, rfl, rfl⟩⟩
theorem is_held {L : List Slot} {n : Nat} {x : Slot} (hx : L[n]? = some x) (hr : 0 < x.refs) : credenzaref10_Pool_Is.f (RR L) (MM L) (n : Int) = some true := by
 have hlt := (List.getElem?_eq_some_iff.mp hx).1
 unfold credenzaref10_Pool_Is.f
 rw [if_pos (by omega), if_pos (by rw [RR_len]; omega), if_pos (by omega), rd_RR hx]
 simp [hr]
theorem is_not {L : List Slot} {N : Int} (hh : ¬ Held L N) (hr : ∀ x ∈ L, 0 ≤ x.refs) : credenzaref10_Pool_Is.f (RR L) (MM L) N = some false := by
 unfold credenzaref10_Pool_Is.f
 by_cases h1 : N ≥ 0
 ·
  rw [if_pos h1]
  obtain ⟨n, rfl⟩ := Int.eq_ofNat_of_zero_le h1
  by_cases h2 : n < L.length
  ·
   obtain ⟨x, hx⟩ : ∃ x, L[n]? = some x := ⟨_, List.getElem?_eq_getElem h2⟩
   have hz := not_held hh x h1 (by rw [Int.toNat_natCast]; exact hx)
   rw [if_pos (by rw [RR_len]; omega), if_pos h1, rd_RR hx, hz]
   rfl
  ·
   rw [if_neg (by rw [RR_len]; omega)]
 ·
  rw [if_neg h1]
theorem change_not {L : List Slot} {N : Int} (hh : ¬ Held L N) (hr : ∀ x ∈ L, 0 ≤ x.refs) (by_ : Int) : credenzaref10_Pool_Change.f (RR L) (MM L) N by_ = some (RR L, MM L, 14) := by
 unfold credenzaref10_Pool_Change.f
 rw [is_not hh hr]
 rfl
theorem change_held {L : List Slot} {n : Nat} {x : Slot} (hL : L.length ≤ 190) (hx : L[n]? = some x) (hr : 0 < x.refs) (by_ : Int) : credenzaref10_Pool_Change.f (RR L) (MM L) (n : Int) by_ = some ((RR L).set n (wrap64 (x.refs + by_)), MM L, 0) := by
 have hlt := (List.getElem?_eq_some_iff.mp hx).1
 unfold credenzaref10_Pool_Change.f
 rw [is_held hx hr, Option.bind_some, if_pos rfl, if_pos (by omega), if_pos (by rw [RR_len]; omega), rd_RR hx, with_eq _ n _ (by rw [RR_len]; exact hlt) (by rw [RR_len]; omega)]
 rfl
theorem MM_same {L : List Slot} {n : Nat} {x : Slot} (hx : L[n]? = some x) (r : Int) (p : Option Nat) : MM (L.set n ⟨r, x.mark, p⟩) = MM L := by
 rw [MM, List.map_set]
 show (MM L).set n x.mark = MM L
 apply List.ext_getElem?
 intro i
 by_cases e : i = n
 ·
  subst e
  rw [List.getElem?_set_self (by rw [MM_len]; exact (List.getElem?_eq_some_iff.mp hx).1), MM_get hx]
 ·
  rw [List.getElem?_set_ne (fun q => e q.symm)]
theorem holdR_ref {L L' : List Slot} {f N f' e : Int} (hL : L.length ≤ 190) (hr : ∀ x ∈ L, 0 ≤ x.refs ∧ x.refs ≤ 100000) (h : HoldR L f N L' f' e) : credenzaref10_Pool_Change.f (RR L) (MM L) N 1 = some (RR L', MM L', e) := by
 rcases h with ⟨n, x, rfl, hx, hz, rfl, -, rfl⟩ | ⟨hh, rfl, -, rfl⟩
 ·
  have hb := hr x (List.mem_of_getElem? hx)
  rw [change_held hL hx (by omega), show wrap64 (x.refs + 1) = x.refs + 1 from by simp only [wrap64]; omega, MM_same hx, RR, RR, List.map_set]
 ·
  exact change_not hh (fun x hx => (hr x hx).1) 1
theorem dropR_ref {L L' : List Slot} {f N f' e : Int} (hL : L.length ≤ 190) (hr : ∀ x ∈ L, 0 ≤ x.refs ∧ x.refs ≤ 100000) (h : DropR L f N L' f' e) : credenzaref10_Pool_Change.f (RR L) (MM L) N (-1) = some (RR L', MM L', e) := by
 rcases h with ⟨n, x, rfl, hx, hz, rfl, -, rfl⟩ | ⟨hh, rfl, -, rfl⟩
 ·
  have hb := hr x (List.mem_of_getElem? hx)
  rw [change_held hL hx (by omega), show wrap64 (x.refs + -1) = x.refs + -1 from by simp only [wrap64]; omega]
  by_cases q : x.refs = 1
  ·
   rw [less_zero x q, MM_same hx, RR, RR, List.map_set, q]
   rfl
  ·
   rw [less_more x q, MM_same hx, RR, RR, List.map_set]
 ·
  exact change_not hh (fun x hx => (hr x hx).1) (-1)
theorem new_go (n : Nat) (hn : n ≤ 1000) : ∀ (d j kk : Nat), j + d = n → d < kk → credenzaref10_New.l0 kk (n : Int) (j : Int) (List.replicate j 0) (List.replicate j 0) = some (List.replicate n 0, List.replicate n 0)
 | 0, j, kk + 1, hd, _ => by
  obtain rfl : j = n := by omega
  rw [credenzaref10_New.l0, if_neg (by omega)]
 | d + 1, j, kk + 1, hd, hk => by
  rw [credenzaref10_New.l0, if_pos (by omega), if_pos (by rw [List.length_replicate]; omega), if_pos (by rw [List.length_replicate]; omega), w64n j (by omega), show List.replicate j (0 : Int) ++ [0] = List.replicate (j + 1) 0 from List.replicate_succ'.symm]
  exact new_go n hn d (j + 1) kk (by omega) (by omega)
theorem new_ref (n : Nat) (hn : n ≤ 190) : credenzaref10_New.f 200 (n : Int) = some (RR (List.replicate n ⟨0, 0, none⟩), MM (List.replicate n ⟨0, 0, none⟩)) := by
 unfold credenzaref10_New.f
 have h := new_go n (by omega) n 0 200 (by omega) (by omega)
 rw [RR, MM, List.map_replicate, List.map_replicate]
 exact h
theorem free_go (L : List Slot) (hL : L.length ≤ 1000) : ∀ (d n kk : Nat), n + d = L.length → d < kk → credenzaref10_Pool_Free.l0 kk ((n : Int) - cnt (L.take n)) (n : Int) (RR L) (MM L) = some ((L.length : Int) - cnt L)
 | 0, n, kk + 1, hd, _ => by
  obtain rfl : n = L.length := by omega
  rw [credenzaref10_Pool_Free.l0, if_neg (by rw [RR_len]; omega), List.take_length]
 | d + 1, n, kk + 1, hd, hk => by
  obtain ⟨x, hx⟩ : ∃ x, L[n]? = some x := ⟨_, List.getElem?_eq_getElem (by omega)⟩
  have hb := cnt_bound (L.take n)
  rw [List.length_take] at hb
  have ht : L.take (n + 1) = L.take n ++ [x] := by
   rw [List.take_succ_eq_append_getElem (by omega)]
   congr 1
   rw [List.getElem?_eq_getElem (by omega)] at hx
   rw [Option.some.inj hx]
  have ih := free_go L hL d (n + 1) kk (by omega) (by omega)
  rw [ht, cnt_append] at ih
  rw [credenzaref10_Pool_Free.l0, if_pos (by rw [RR_len]; omega), if_pos (by omega), rd_RR hx, w64n n (by omega)]
  by_cases q : x.refs = 0
  ·
   rw [if_pos q, show wrap64 ((n : Int) - cnt (L.take n) + 1) = ((n + 1 : Nat) : Int) - (cnt (L.take n) + cnt [x]) from by simp only [cnt, if_pos q, wrap64]; omega]
   exact ih
  ·
   rw [if_neg q, show (n : Int) - cnt (L.take n) = ((n + 1 : Nat) : Int) - (cnt (L.take n) + cnt [x]) from by simp only [cnt, if_neg q]; omega]
   exact ih
theorem free_ref (L : List Slot) (hL : L.length ≤ 190) : credenzaref10_Pool_Free.f 200 (RR L) (MM L) = some ((L.length : Int) - cnt L) := by
 unfold credenzaref10_Pool_Free.f
 exact free_go L (by omega) L.length 0 200 (by omega) (by omega)
theorem flat_mem : ∀ (rows : List (List Int)) (i : Nat) (l : List Int), rows[i]? = some l → l.length ≤ rows.flatten.length
 | [], i, l, h => by simp at h
 | r :: rows, 0, l, h => by
  obtain rfl := Option.some.inj h
  simp
 | r :: rows, i + 1, l, h => by
  have ih := flat_mem rows i l (by simpa using h)
  simp only [List.flatten_cons, List.length_append]
  omega
/-- Each entry leads to a slot with its mark. -/
def Told (L : List Slot) (rt rw_ : List (List Int)) : Prop := ∀ (r : Nat) (lt lw : List Int), rt[r]? = some lt → rw_[r]? = some lw → lt.length = lw.length ∧ ∀ (p : Nat) (id m : Int), lt[p]? = some id → lw[p]? = some m → ∃ (q : Nat) (x : Slot), id = (q : Int) ∧ L[q]? = some x ∧ 0 < x.refs ∧ x.mark = m
def pbeg.T7 : Bool × List (List Nat × List Nat) := (true, [([], []), ([], []), ([1], [1]), ([], []), ([3], [3]), ([], []), ([5, 5], [5]), ([6], [6]), ([0, 2, 4, 7], [0, 2, 4, 7]), ([8], [8]), ([9, 2, 0, 1, 2, 3, 4, 5, 6, 7, 8, 9], [9])])
def pbeg.B7 : List Nat := [0, 0, 2, 0, 8, 0, 32, 96, 255, 511, 1023]
theorem pbeg.tab7 : rtab .any (opsOf Try.f29 7) = pbeg.T7 := by kernel_rfl
theorem pbeg.bits7 : waitsOk pbeg.T7.2 pbeg.B7 = true := by kernel_rfl
theorem below_of_grown {B : Nat} {w W W1 : World} (h0 : Below B w W) (h1 : Below B w W1) (hg : W.grownBy W1 none) : Below W.heap.size W W1 := ⟨h1.os.trans h0.os.symm, h1.tape.trans h0.tape.symm, h1.output.trans h0.output.symm, hg.size, fun k hk => hg.block k hk (by simp)⟩
theorem TabAt.at_ {B : Nat} {W : World} {tb g : Nat} {rp : Option Addr} {rc : Nat} {vs : List Value} {rows : List (List Int)} (h : TabAt B W tb g rp rc vs rows) : ∃ z, z = W.heap.size := ⟨_, rfl⟩
theorem RowsAt.outer {B : Nat} {W : World} {k o : Nat} {vs : List Value} {rows : List (List Int)} (h : RowsAt B W (some ⟨k, o, none⟩) vs rows) : ∃ cs, W.heap[k]? = some (.cells cs 28 (0, 0)) := by
 by_cases hn : 0 < rows.length
 ·
  obtain ⟨rb, cs, e, hb, -⟩ := h.hc hn
  obtain rfl : k = rb := by injection e with e; injection e
  exact ⟨cs, hb⟩
 ·
  exact h.hz (by omega) k o rfl
open Classical in
set_option maxHeartbeats 8000000 in
set_option maxRecDepth 100000 in
theorem begun.calls (n m : Nat) (hn : n ≤ 100) (hm : m ≤ 16) (w : World) :
  Calls Try.prog 29 #[.int .i64 (n : Int), .int .i64 (m : Int)] w fun e w' => ∃ own pb g s v0 v1 av rv t, e = .returned (.pointer (some ⟨pb, 0, none⟩)) ∧ PlayO w w' own pb g s (List.replicate n ⟨0, 0, none⟩) ((n : Int)) v0 v1 (RR (List.replicate n ⟨0, 0, none⟩)) (MM (List.replicate n ⟨0, 0, none⟩)) v0 v1 av rv av [t.tb] rv ([List.replicate m ([] : List Int)]) [t] (.slice none 0 0) [] [] ∧ t.rows = List.replicate m [] := by
 have HN := aM (show n ≤ 190 by omega)
 have HN2 := aM hn
 have HM := aM hm
 have HB := aM (Below.refl w.heap.size w)
 have hu63 := Try.underlying63
 have hu30 := Try.underlying30
 clear hn hm
 go_enter Try.func29, Try.ntmps29
 go_upto_region 7 with (first | (go_at_call 12; (refine (poolNew.calls n (by have := HN.out; omega) _).mono ?_); rintro e w1 ⟨g, s, rfl, hp, hg, hs, hb⟩; have P := aM hp; have G := aM hg; have S := aM hs; replace HB := aM (below_step HB.out hb); clear hp hg hs hb) | (go_at_call 38; (refine (blockNew.calls g m HM.out w.heap.size _ (below_size HB.out)).mono ?_); rintro e w2 ⟨tb, trb, rfl, ht, htb, hrb, hb⟩; have T := aM ht; replace P := aM (P.out.below hb); replace HB := aM (below_step HB.out hb); clear ht htb hrb hb))
 replace P := aM (P.out.drew)
 replace T := aM (T.out.drew)
 replace HB := aM (HB.out.drew)
 refine start_ (n := 11) (S := fun w' => True) (ds := []) #[false, false, false, false, false, false, false, false, false, false, false] (by kernel_rfl) rfl rfl trivial (fun hHeld => ?_); refine with_tabW pbeg.tab7 pbeg.bits7 (fun HT_ HW_ => ?_)
 generalize w2.drew = w3 at P T HB hHeld ⊢
 refine pure_ (i := 0) (N := some 32) (v := ?_) (a' := ?_) #[true, false, false, false, false, false, false, false, false, false, false] rfl rfl (any_of HT_.out (by kernel_rfl)) (fun _ _ _ h => h) (Or.inl ⟨by rfl, ?_⟩) ?_ ?_
 rotate_left; exact pI; rotate_left; exact pS
 refine pure_ (i := 1) (N := some 33) (v := ?_) (a' := ?_) #[true, true, false, false, false, false, false, false, false, false, false] rfl rfl (any_of HT_.out (by kernel_rfl)) (fun _ _ _ h => h) (Or.inl ⟨by rfl, ?_⟩) ?_ ?_
 rotate_left; exact pI; rotate_left; exact pS
 refine pure_ (i := 3) (N := some 35) (v := ?_) (a' := ?_) #[true, true, false, true, false, false, false, false, false, false, false] rfl rfl (any_of HT_.out (by kernel_rfl)) (fun _ _ _ h => h) (Or.inl ⟨by rfl, ?_⟩) ?_ ?_
 rotate_left; exact pI; rotate_left; exact pS
 refine pure_ (i := 5) (N := some 37) (v := ?_) (a' := ?_) #[true, true, false, true, false, true, false, false, false, false, false] rfl rfl (any_of HT_.out (by kernel_rfl)) (fun _ _ _ h => h) (Or.inl ⟨by rfl, ?_⟩) ?_ ?_
 rotate_left; exact pI; rotate_left; exact pS
 refine join_ (σ := Value × Value × Value × Value × Value) 3 #[true, true, true, true, true, true, true, true, false, false, false] (fun st => [(34, .agg #[st.1, st.2.1]), (36, st.2.2.1), (38, st.2.2.2.1), (39, st.2.2.2.2)]) (fun st w' => Aside0 (PoolAt w' g s (List.replicate n ⟨0, 0, none⟩) n) ∧ Aside0 (TabAt w.heap.size w' tb g (some ⟨trb, 0, none⟩) m (List.replicate m (.slice none 0 0)) (List.replicate m [])) ∧ Aside0 (Below w.heap.size w w') ∧ Aside0 (XAt w.heap.size w' st.1 st.2.1 (RR (List.replicate n ⟨0, 0, none⟩)) (MM (List.replicate n ⟨0, 0, none⟩))) ∧ Aside0 (Kd.R (Kd.raw 1) 59 w' w.heap.size (fun k_ => some k_ = Value.ownBlock st.2.2.1) st.2.2.1 [[Value.pointer (some ⟨tb, 0, none⟩)]]) ∧ Aside0 (Kd.R (Kd.slice 3 (Kd.int .i64)) 28 w' w.heap.size (fun k_ => some k_ = Value.ownBlock st.2.2.2.1 ∧ ¬ OwnR (some ⟨trb, 0, none⟩) (List.replicate m (.slice none 0 0)) k_) st.2.2.2.1 (List.replicate m ([] : List Int))) ∧ Aside0 (Kd.R (Kd.slice 28 (Kd.slice 3 (Kd.int .i64))) 70 w' w.heap.size (fun k_ => some k_ = Value.ownBlock st.2.2.2.2 ∨ some k_ = Value.ownBlock st.2.2.2.1) st.2.2.2.2 [(List.replicate m ([] : List Int))])) ?_ ?_
 rotate_left
 ·
  intro hCont
  refine three_ (i := 2) (j := 4) (k := 6) (Ni := some 34) (Nj := some 36) (Nk := some 38) #[true, true, true, true, false, true, false, false, false, false, false] #[true, true, false, true, true, true, false, false, false, false, false] #[true, true, false, true, false, true, true, false, false, false, false] rfl rfl rfl rfl rfl rfl (three_of HT_.out (by kernel_rfl)) (by decide) (by decide) (by decide) (fun K hK => ?_) (fun K hK => ?_) (fun K hK => ?_)
  ·
   skip
   refine goes_ Try.func13 (by kernel_rfl) rfl #[.int .i64 (n : Int)] (by rfl) rfl rfl (by simp only [List.map_toArray, List.map_cons, List.map_nil]; rfl) ?_
   with_reducible refine (credenzaref10_New.calls 200 (n : Int) _ _ _ (new_ref n HN.out)).mono ?_
   rintro e wn ⟨v0, v1, rfl, r0, r1, hb⟩
   refine ⟨_, rfl, ?_⟩
   have HB0 := HB
   replace P := aM (P.out.below hb)
   replace T := aM (T.out.below hb)
   replace HB := aM (below_step HB.out hb)
   try replace X := aM (X.out.below hb)
   try replace AA := aM (Kd.R_below AA.out hb)
   try replace DD := aM (Kd.R_below DD.out hb)
   try replace RD := aM (Kd.R_below RD.out hb)
   have X := aM (XAt.of (S := fun _ => True) (Kd.R_mono (Kd.R_lower r0 (below_size HB0.out)) (fun _ h_ => ⟨trivial, h_⟩)) (Kd.R_mono (Kd.R_lower r1 (below_size HB0.out)) (fun _ h_ => ⟨trivial, h_⟩)))
   clear r0 r1 hb HB0
   refine hK.out _ _ trivial (fun hHeld => ?_)
   clear hK K
   refine norm_ (a' := ?_) ?_ ?_
   rotate_left
   ·
    show Act.put _ (some 34) _ = _
    simp only [Act.put, List.setIfInBounds_toArray, List.set_cons_zero, List.set_cons_succ, i64_w, i32_w, IntKind.wrap_u32]
    rfl
   refine two_ (i := 4) (j := 6) (Ni := some 36) (Nj := some 38) #[true, true, true, true, true, true, false, false, false, false, false] #[true, true, true, true, false, true, true, false, false, false, false] rfl rfl rfl rfl (two_of HT_.out (by kernel_rfl)) (by decide) (by decide) (fun K hK => ?_) (fun K hK => ?_)
   ·
    skip
    refine Kd.R_lit_step (Kd.raw 1) _ 59 (by rfl) rfl (xs := [[Value.pointer (some ⟨tb, 0, none⟩)]]) (inner := [Value.pointer (some ⟨tb, 0, none⟩)]) (ok := fun _ => True) (okp := fun _ => True) ?hr ?hp (fun _ hk => hk) trivial (Below.refl _ _) (Nat.le_refl _) (by simp) ?_
    (case hr => first | (go_simp; done) | (go_simp; rfl))
    (case hp => exact (Reps.one (show Kd.M (Kd.raw 1) _ _ _ [Value.pointer (some ⟨tb, 0, none⟩)] [Value.pointer (some ⟨tb, 0, none⟩)] from ⟨rfl, rfl, by simp [Value.oneCell']⟩) (Reps.none _ _)))
    intro av wn ho hb hg hat
    have HB0 := HB
    replace P := aM (P.out.below hb)
    replace T := aM (T.out.below hb)
    replace HB := aM (below_step HB.out hb)
    try replace X := aM (X.out.below hb)
    try replace AA := aM (Kd.R_below AA.out hb)
    try replace DD := aM (Kd.R_below DD.out hb)
    try replace RD := aM (Kd.R_below RD.out hb)
    have AA := aM (Kd.R_tight rfl (Kd.R_lower ho (below_size HB0.out)))
    clear ho hb hg hat HB0
    refine hK.out _ _ trivial (fun hHeld => ?_)
    clear hK K
    refine norm_ (a' := ?_) ?_ ?_
    rotate_left
    ·
     show Act.put _ (some 36) _ = _
     simp only [Act.put, List.setIfInBounds_toArray, List.set_cons_zero, List.set_cons_succ, i64_w, i32_w, IntKind.wrap_u32]
     rfl
    refine one_ (i := 6) (N := some 38) #[true, true, true, true, true, true, true, false, false, false, false] rfl rfl (one_of HT_.out (by kernel_rfl)) (by decide) (fun K hK => ?_)
    obtain ⟨z, hz⟩ := T.out.at_
    refine Kd.R_make_step (Kd.slice 3 (Kd.int .i64)) _ 28 (by rfl) rfl 70 (.tmp 37) (.tmp 37) rfl (m : Int) rfl rfl Try.underlying70 (.slice none 0 0) 24 infoB28 rfl (by decide) (by decide) ([] : List Int) (okp := fun _ => False) ⟨_, rfl, Kd.R_nil _ _ _ _ _⟩ (fun _ hk => hk.elim) (ok := fun k_ => k_ = z) ?hf (by omega) ?hl (Below.refl _ _) (Nat.le_refl _) ?_
    (case hf => exact hz.symm)
    (case hl => have := HM.out; omega)
    intro dv wn ho hb hg hat
    rw [Int.toNat_natCast] at ho
    obtain ⟨Ad, cd, rfl⟩ := Kd.R_slice ho
    obtain ⟨b_, hb1, hb2⟩ := hat
    have hbb := ho.1 b_ hb1
    have hfr : ¬ OwnR (some ⟨trb, 0, none⟩) (List.replicate m (.slice none 0 0)) b_ := fun q_ => by have := T.out.hR.lt q_; omega
    have DD := aM (Kd.R_mono (ok' := fun k_ => some k_ = Value.ownBlock (Value.slice Ad (List.replicate m ([] : List Int)).length cd) ∧ ¬ OwnR (some ⟨trb, 0, none⟩) (List.replicate m (.slice none 0 0)) k_) (Kd.R_lower ho (below_size HB.out)) (fun k_ e_ => by obtain rfl : k_ = b_ := e_.trans hbb.symm; exact ⟨hb1.symm, hfr⟩))
    replace P := aM (P.out.below hb)
    replace T := aM (T.out.below hb)
    replace HB := aM (below_step HB.out hb)
    try replace X := aM (X.out.below hb)
    try replace AA := aM (Kd.R_below AA.out hb)
    try replace RD := aM (Kd.R_below RD.out hb)
    clear ho hb hg hb1 hb2 hbb hfr hz
    refine hK.out _ _ trivial (fun hHeld => ?_)
    clear hK K
    refine norm_ (a' := ?_) ?_ ?_
    rotate_left
    ·
     show Act.put _ (some 38) _ = _
     simp only [Act.put, List.setIfInBounds_toArray, List.set_cons_zero, List.set_cons_succ, i64_w, i32_w, IntKind.wrap_u32]
     rfl
    refine one_ (i := 7) (N := some 39) #[true, true, true, true, true, true, true, true, false, false, false] rfl rfl (one_of HT_.out (by kernel_rfl)) (by decide) (fun K hK => ?_)
    obtain ⟨z, hz⟩ := T.out.at_
    refine Kd.R_lit_step (Kd.slice 28 (Kd.slice 3 (Kd.int .i64))) w.heap.size 70 (by rfl) rfl (xs := [(List.replicate m ([] : List Int))]) (inner := [(Value.slice Ad (List.replicate m ([] : List Int)).length cd)]) (ok := fun k_ => k_ = z ∨ some k_ = Value.ownBlock (Value.slice Ad (List.replicate m ([] : List Int)).length cd)) (okp := fun k_ => some k_ = Value.ownBlock (Value.slice Ad (List.replicate m ([] : List Int)).length cd)) ?hr ?hp (fun _ hk => .inr hk) ?hf HB.out (below_size HB.out) (by simp) ?_
    (case hr => first | (go_simp; done) | (go_simp; rfl))
    (case hp => exact (Reps.one (show Kd.M (Kd.slice 28 (Kd.slice 3 (Kd.int .i64))) _ _ _ (List.replicate m ([] : List Int)) [(Value.slice Ad (List.replicate m ([] : List Int)).length cd)] from ⟨_, rfl, Kd.R_mono DD.out (fun _ h_ => h_.1)⟩) (Reps.none _ _)))
    (case hf => exact .inl hz.symm)
    intro rv wn ho hb0 hg hat
    have hb := below_of_grown HB.out hb0 hg
    obtain ⟨b_, hb1, hb2⟩ := hat
    have hbz : b_ = z := (ho.1 b_ hb1).elim id (fun e_ => by have := Kd.R_lt DD.out b_ e_.symm; omega)
    have RD := aM (Kd.R_mono (ok' := fun k_ => some k_ = Value.ownBlock rv ∨ some k_ = Value.ownBlock (Value.slice Ad (List.replicate m ([] : List Int)).length cd)) ho (fun k_ e_ => e_.elim (fun e_ => .inl (by rw [e_, ← hbz]; exact hb1.symm)) .inr))
    replace P := aM (P.out.below hb)
    replace T := aM (T.out.below hb)
    replace HB := aM (below_step HB.out hb)
    try replace X := aM (X.out.below hb)
    try replace AA := aM (Kd.R_below AA.out hb)
    try replace DD := aM (Kd.R_below DD.out hb)
    clear ho hb hb0 hg hb1 hb2 hbz hz
    refine hK.out _ _ trivial (fun hHeld => ?_)
    clear hK K
    refine norm_ (a' := ?_) ?_ ?_
    rotate_left
    ·
     show Act.put _ (some 39) _ = _
     simp only [Act.put, List.setIfInBounds_toArray, List.set_cons_zero, List.set_cons_succ, i64_w, i32_w, IntKind.wrap_u32]
     rfl
    exact norm_ (by simp only [putAll, Act.put, List.setIfInBounds_toArray, List.set_cons_zero, List.set_cons_succ]) (hCont (v0, v1, av, Value.slice Ad (List.replicate m ([] : List Int)).length cd, rv) _ ⟨P, T, HB, X, AA, DD, RD⟩)
   ·
    skip
    obtain ⟨z, hz⟩ := T.out.at_
    refine Kd.R_make_step (Kd.slice 3 (Kd.int .i64)) _ 28 (by rfl) rfl 70 (.tmp 37) (.tmp 37) rfl (m : Int) rfl rfl Try.underlying70 (.slice none 0 0) 24 infoB28 rfl (by decide) (by decide) ([] : List Int) (okp := fun _ => False) ⟨_, rfl, Kd.R_nil _ _ _ _ _⟩ (fun _ hk => hk.elim) (ok := fun k_ => k_ = z) ?hf (by omega) ?hl (Below.refl _ _) (Nat.le_refl _) ?_
    (case hf => exact hz.symm)
    (case hl => have := HM.out; omega)
    intro dv wn ho hb hg hat
    rw [Int.toNat_natCast] at ho
    obtain ⟨Ad, cd, rfl⟩ := Kd.R_slice ho
    obtain ⟨b_, hb1, hb2⟩ := hat
    have hbb := ho.1 b_ hb1
    have hfr : ¬ OwnR (some ⟨trb, 0, none⟩) (List.replicate m (.slice none 0 0)) b_ := fun q_ => by have := T.out.hR.lt q_; omega
    have DD := aM (Kd.R_mono (ok' := fun k_ => some k_ = Value.ownBlock (Value.slice Ad (List.replicate m ([] : List Int)).length cd) ∧ ¬ OwnR (some ⟨trb, 0, none⟩) (List.replicate m (.slice none 0 0)) k_) (Kd.R_lower ho (below_size HB.out)) (fun k_ e_ => by obtain rfl : k_ = b_ := e_.trans hbb.symm; exact ⟨hb1.symm, hfr⟩))
    replace P := aM (P.out.below hb)
    replace T := aM (T.out.below hb)
    replace HB := aM (below_step HB.out hb)
    try replace X := aM (X.out.below hb)
    try replace AA := aM (Kd.R_below AA.out hb)
    try replace RD := aM (Kd.R_below RD.out hb)
    clear ho hb hg hb1 hb2 hbb hfr hz
    refine hK.out _ _ trivial (fun hHeld => ?_)
    clear hK K
    refine norm_ (a' := ?_) ?_ ?_
    rotate_left
    ·
     show Act.put _ (some 38) _ = _
     simp only [Act.put, List.setIfInBounds_toArray, List.set_cons_zero, List.set_cons_succ, i64_w, i32_w, IntKind.wrap_u32]
     rfl
    refine two_ (i := 4) (j := 7) (Ni := some 36) (Nj := some 39) #[true, true, true, true, true, true, true, false, false, false, false] #[true, true, true, true, false, true, true, true, false, false, false] rfl rfl rfl rfl (two_of HT_.out (by kernel_rfl)) (by decide) (by decide) (fun K hK => ?_) (fun K hK => ?_)
    ·
     skip
     refine Kd.R_lit_step (Kd.raw 1) _ 59 (by rfl) rfl (xs := [[Value.pointer (some ⟨tb, 0, none⟩)]]) (inner := [Value.pointer (some ⟨tb, 0, none⟩)]) (ok := fun _ => True) (okp := fun _ => True) ?hr ?hp (fun _ hk => hk) trivial (Below.refl _ _) (Nat.le_refl _) (by simp) ?_
     (case hr => first | (go_simp; done) | (go_simp; rfl))
     (case hp => exact (Reps.one (show Kd.M (Kd.raw 1) _ _ _ [Value.pointer (some ⟨tb, 0, none⟩)] [Value.pointer (some ⟨tb, 0, none⟩)] from ⟨rfl, rfl, by simp [Value.oneCell']⟩) (Reps.none _ _)))
     intro av wn ho hb hg hat
     have HB0 := HB
     replace P := aM (P.out.below hb)
     replace T := aM (T.out.below hb)
     replace HB := aM (below_step HB.out hb)
     try replace X := aM (X.out.below hb)
     try replace AA := aM (Kd.R_below AA.out hb)
     try replace DD := aM (Kd.R_below DD.out hb)
     try replace RD := aM (Kd.R_below RD.out hb)
     have AA := aM (Kd.R_tight rfl (Kd.R_lower ho (below_size HB0.out)))
     clear ho hb hg hat HB0
     refine hK.out _ _ trivial (fun hHeld => ?_)
     clear hK K
     refine norm_ (a' := ?_) ?_ ?_
     rotate_left
     ·
      show Act.put _ (some 36) _ = _
      simp only [Act.put, List.setIfInBounds_toArray, List.set_cons_zero, List.set_cons_succ, i64_w, i32_w, IntKind.wrap_u32]
      rfl
     refine one_ (i := 7) (N := some 39) #[true, true, true, true, true, true, true, true, false, false, false] rfl rfl (one_of HT_.out (by kernel_rfl)) (by decide) (fun K hK => ?_)
     obtain ⟨z, hz⟩ := T.out.at_
     refine Kd.R_lit_step (Kd.slice 28 (Kd.slice 3 (Kd.int .i64))) w.heap.size 70 (by rfl) rfl (xs := [(List.replicate m ([] : List Int))]) (inner := [(Value.slice Ad (List.replicate m ([] : List Int)).length cd)]) (ok := fun k_ => k_ = z ∨ some k_ = Value.ownBlock (Value.slice Ad (List.replicate m ([] : List Int)).length cd)) (okp := fun k_ => some k_ = Value.ownBlock (Value.slice Ad (List.replicate m ([] : List Int)).length cd)) ?hr ?hp (fun _ hk => .inr hk) ?hf HB.out (below_size HB.out) (by simp) ?_
     (case hr => first | (go_simp; done) | (go_simp; rfl))
     (case hp => exact (Reps.one (show Kd.M (Kd.slice 28 (Kd.slice 3 (Kd.int .i64))) _ _ _ (List.replicate m ([] : List Int)) [(Value.slice Ad (List.replicate m ([] : List Int)).length cd)] from ⟨_, rfl, Kd.R_mono DD.out (fun _ h_ => h_.1)⟩) (Reps.none _ _)))
     (case hf => exact .inl hz.symm)
     intro rv wn ho hb0 hg hat
     have hb := below_of_grown HB.out hb0 hg
     obtain ⟨b_, hb1, hb2⟩ := hat
     have hbz : b_ = z := (ho.1 b_ hb1).elim id (fun e_ => by have := Kd.R_lt DD.out b_ e_.symm; omega)
     have RD := aM (Kd.R_mono (ok' := fun k_ => some k_ = Value.ownBlock rv ∨ some k_ = Value.ownBlock (Value.slice Ad (List.replicate m ([] : List Int)).length cd)) ho (fun k_ e_ => e_.elim (fun e_ => .inl (by rw [e_, ← hbz]; exact hb1.symm)) .inr))
     replace P := aM (P.out.below hb)
     replace T := aM (T.out.below hb)
     replace HB := aM (below_step HB.out hb)
     try replace X := aM (X.out.below hb)
     try replace AA := aM (Kd.R_below AA.out hb)
     try replace DD := aM (Kd.R_below DD.out hb)
     clear ho hb hb0 hg hb1 hb2 hbz hz
     refine hK.out _ _ trivial (fun hHeld => ?_)
     clear hK K
     refine norm_ (a' := ?_) ?_ ?_
     rotate_left
     ·
      show Act.put _ (some 39) _ = _
      simp only [Act.put, List.setIfInBounds_toArray, List.set_cons_zero, List.set_cons_succ, i64_w, i32_w, IntKind.wrap_u32]
      rfl
     exact norm_ (by simp only [putAll, Act.put, List.setIfInBounds_toArray, List.set_cons_zero, List.set_cons_succ]) (hCont (v0, v1, av, Value.slice Ad (List.replicate m ([] : List Int)).length cd, rv) _ ⟨P, T, HB, X, AA, DD, RD⟩)
    ·
     skip
     obtain ⟨z, hz⟩ := T.out.at_
     refine Kd.R_lit_step (Kd.slice 28 (Kd.slice 3 (Kd.int .i64))) w.heap.size 70 (by rfl) rfl (xs := [(List.replicate m ([] : List Int))]) (inner := [(Value.slice Ad (List.replicate m ([] : List Int)).length cd)]) (ok := fun k_ => k_ = z ∨ some k_ = Value.ownBlock (Value.slice Ad (List.replicate m ([] : List Int)).length cd)) (okp := fun k_ => some k_ = Value.ownBlock (Value.slice Ad (List.replicate m ([] : List Int)).length cd)) ?hr ?hp (fun _ hk => .inr hk) ?hf HB.out (below_size HB.out) (by simp) ?_
     (case hr => first | (go_simp; done) | (go_simp; rfl))
     (case hp => exact (Reps.one (show Kd.M (Kd.slice 28 (Kd.slice 3 (Kd.int .i64))) _ _ _ (List.replicate m ([] : List Int)) [(Value.slice Ad (List.replicate m ([] : List Int)).length cd)] from ⟨_, rfl, Kd.R_mono DD.out (fun _ h_ => h_.1)⟩) (Reps.none _ _)))
     (case hf => exact .inl hz.symm)
     intro rv wn ho hb0 hg hat
     have hb := below_of_grown HB.out hb0 hg
     obtain ⟨b_, hb1, hb2⟩ := hat
     have hbz : b_ = z := (ho.1 b_ hb1).elim id (fun e_ => by have := Kd.R_lt DD.out b_ e_.symm; omega)
     have RD := aM (Kd.R_mono (ok' := fun k_ => some k_ = Value.ownBlock rv ∨ some k_ = Value.ownBlock (Value.slice Ad (List.replicate m ([] : List Int)).length cd)) ho (fun k_ e_ => e_.elim (fun e_ => .inl (by rw [e_, ← hbz]; exact hb1.symm)) .inr))
     replace P := aM (P.out.below hb)
     replace T := aM (T.out.below hb)
     replace HB := aM (below_step HB.out hb)
     try replace X := aM (X.out.below hb)
     try replace AA := aM (Kd.R_below AA.out hb)
     try replace DD := aM (Kd.R_below DD.out hb)
     clear ho hb hb0 hg hb1 hb2 hbz hz
     refine hK.out _ _ trivial (fun hHeld => ?_)
     clear hK K
     refine norm_ (a' := ?_) ?_ ?_
     rotate_left
     ·
      show Act.put _ (some 39) _ = _
      simp only [Act.put, List.setIfInBounds_toArray, List.set_cons_zero, List.set_cons_succ, i64_w, i32_w, IntKind.wrap_u32]
      rfl
     refine one_ (i := 4) (N := some 36) #[true, true, true, true, true, true, true, true, false, false, false] rfl rfl (one_of HT_.out (by kernel_rfl)) (by decide) (fun K hK => ?_)
     refine Kd.R_lit_step (Kd.raw 1) _ 59 (by rfl) rfl (xs := [[Value.pointer (some ⟨tb, 0, none⟩)]]) (inner := [Value.pointer (some ⟨tb, 0, none⟩)]) (ok := fun _ => True) (okp := fun _ => True) ?hr ?hp (fun _ hk => hk) trivial (Below.refl _ _) (Nat.le_refl _) (by simp) ?_
     (case hr => first | (go_simp; done) | (go_simp; rfl))
     (case hp => exact (Reps.one (show Kd.M (Kd.raw 1) _ _ _ [Value.pointer (some ⟨tb, 0, none⟩)] [Value.pointer (some ⟨tb, 0, none⟩)] from ⟨rfl, rfl, by simp [Value.oneCell']⟩) (Reps.none _ _)))
     intro av wn ho hb hg hat
     have HB0 := HB
     replace P := aM (P.out.below hb)
     replace T := aM (T.out.below hb)
     replace HB := aM (below_step HB.out hb)
     try replace X := aM (X.out.below hb)
     try replace AA := aM (Kd.R_below AA.out hb)
     try replace DD := aM (Kd.R_below DD.out hb)
     try replace RD := aM (Kd.R_below RD.out hb)
     have AA := aM (Kd.R_tight rfl (Kd.R_lower ho (below_size HB0.out)))
     clear ho hb hg hat HB0
     refine hK.out _ _ trivial (fun hHeld => ?_)
     clear hK K
     refine norm_ (a' := ?_) ?_ ?_
     rotate_left
     ·
      show Act.put _ (some 36) _ = _
      simp only [Act.put, List.setIfInBounds_toArray, List.set_cons_zero, List.set_cons_succ, i64_w, i32_w, IntKind.wrap_u32]
      rfl
     exact norm_ (by simp only [putAll, Act.put, List.setIfInBounds_toArray, List.set_cons_zero, List.set_cons_succ]) (hCont (v0, v1, av, Value.slice Ad (List.replicate m ([] : List Int)).length cd, rv) _ ⟨P, T, HB, X, AA, DD, RD⟩)
  ·
   skip
   refine Kd.R_lit_step (Kd.raw 1) _ 59 (by rfl) rfl (xs := [[Value.pointer (some ⟨tb, 0, none⟩)]]) (inner := [Value.pointer (some ⟨tb, 0, none⟩)]) (ok := fun _ => True) (okp := fun _ => True) ?hr ?hp (fun _ hk => hk) trivial (Below.refl _ _) (Nat.le_refl _) (by simp) ?_
   (case hr => first | (go_simp; done) | (go_simp; rfl))
   (case hp => exact (Reps.one (show Kd.M (Kd.raw 1) _ _ _ [Value.pointer (some ⟨tb, 0, none⟩)] [Value.pointer (some ⟨tb, 0, none⟩)] from ⟨rfl, rfl, by simp [Value.oneCell']⟩) (Reps.none _ _)))
   intro av wn ho hb hg hat
   have HB0 := HB
   replace P := aM (P.out.below hb)
   replace T := aM (T.out.below hb)
   replace HB := aM (below_step HB.out hb)
   try replace X := aM (X.out.below hb)
   try replace AA := aM (Kd.R_below AA.out hb)
   try replace DD := aM (Kd.R_below DD.out hb)
   try replace RD := aM (Kd.R_below RD.out hb)
   have AA := aM (Kd.R_tight rfl (Kd.R_lower ho (below_size HB0.out)))
   clear ho hb hg hat HB0
   refine hK.out _ _ trivial (fun hHeld => ?_)
   clear hK K
   refine norm_ (a' := ?_) ?_ ?_
   rotate_left
   ·
    show Act.put _ (some 36) _ = _
    simp only [Act.put, List.setIfInBounds_toArray, List.set_cons_zero, List.set_cons_succ, i64_w, i32_w, IntKind.wrap_u32]
    rfl
   refine two_ (i := 2) (j := 6) (Ni := some 34) (Nj := some 38) #[true, true, true, true, true, true, false, false, false, false, false] #[true, true, false, true, true, true, true, false, false, false, false] rfl rfl rfl rfl (two_of HT_.out (by kernel_rfl)) (by decide) (by decide) (fun K hK => ?_) (fun K hK => ?_)
   ·
    skip
    refine goes_ Try.func13 (by kernel_rfl) rfl #[.int .i64 (n : Int)] (by rfl) rfl rfl (by simp only [List.map_toArray, List.map_cons, List.map_nil]; rfl) ?_
    with_reducible refine (credenzaref10_New.calls 200 (n : Int) _ _ _ (new_ref n HN.out)).mono ?_
    rintro e wn ⟨v0, v1, rfl, r0, r1, hb⟩
    refine ⟨_, rfl, ?_⟩
    have HB0 := HB
    replace P := aM (P.out.below hb)
    replace T := aM (T.out.below hb)
    replace HB := aM (below_step HB.out hb)
    try replace X := aM (X.out.below hb)
    try replace AA := aM (Kd.R_below AA.out hb)
    try replace DD := aM (Kd.R_below DD.out hb)
    try replace RD := aM (Kd.R_below RD.out hb)
    have X := aM (XAt.of (S := fun _ => True) (Kd.R_mono (Kd.R_lower r0 (below_size HB0.out)) (fun _ h_ => ⟨trivial, h_⟩)) (Kd.R_mono (Kd.R_lower r1 (below_size HB0.out)) (fun _ h_ => ⟨trivial, h_⟩)))
    clear r0 r1 hb HB0
    refine hK.out _ _ trivial (fun hHeld => ?_)
    clear hK K
    refine norm_ (a' := ?_) ?_ ?_
    rotate_left
    ·
     show Act.put _ (some 34) _ = _
     simp only [Act.put, List.setIfInBounds_toArray, List.set_cons_zero, List.set_cons_succ, i64_w, i32_w, IntKind.wrap_u32]
     rfl
    refine one_ (i := 6) (N := some 38) #[true, true, true, true, true, true, true, false, false, false, false] rfl rfl (one_of HT_.out (by kernel_rfl)) (by decide) (fun K hK => ?_)
    obtain ⟨z, hz⟩ := T.out.at_
    refine Kd.R_make_step (Kd.slice 3 (Kd.int .i64)) _ 28 (by rfl) rfl 70 (.tmp 37) (.tmp 37) rfl (m : Int) rfl rfl Try.underlying70 (.slice none 0 0) 24 infoB28 rfl (by decide) (by decide) ([] : List Int) (okp := fun _ => False) ⟨_, rfl, Kd.R_nil _ _ _ _ _⟩ (fun _ hk => hk.elim) (ok := fun k_ => k_ = z) ?hf (by omega) ?hl (Below.refl _ _) (Nat.le_refl _) ?_
    (case hf => exact hz.symm)
    (case hl => have := HM.out; omega)
    intro dv wn ho hb hg hat
    rw [Int.toNat_natCast] at ho
    obtain ⟨Ad, cd, rfl⟩ := Kd.R_slice ho
    obtain ⟨b_, hb1, hb2⟩ := hat
    have hbb := ho.1 b_ hb1
    have hfr : ¬ OwnR (some ⟨trb, 0, none⟩) (List.replicate m (.slice none 0 0)) b_ := fun q_ => by have := T.out.hR.lt q_; omega
    have DD := aM (Kd.R_mono (ok' := fun k_ => some k_ = Value.ownBlock (Value.slice Ad (List.replicate m ([] : List Int)).length cd) ∧ ¬ OwnR (some ⟨trb, 0, none⟩) (List.replicate m (.slice none 0 0)) k_) (Kd.R_lower ho (below_size HB.out)) (fun k_ e_ => by obtain rfl : k_ = b_ := e_.trans hbb.symm; exact ⟨hb1.symm, hfr⟩))
    replace P := aM (P.out.below hb)
    replace T := aM (T.out.below hb)
    replace HB := aM (below_step HB.out hb)
    try replace X := aM (X.out.below hb)
    try replace AA := aM (Kd.R_below AA.out hb)
    try replace RD := aM (Kd.R_below RD.out hb)
    clear ho hb hg hb1 hb2 hbb hfr hz
    refine hK.out _ _ trivial (fun hHeld => ?_)
    clear hK K
    refine norm_ (a' := ?_) ?_ ?_
    rotate_left
    ·
     show Act.put _ (some 38) _ = _
     simp only [Act.put, List.setIfInBounds_toArray, List.set_cons_zero, List.set_cons_succ, i64_w, i32_w, IntKind.wrap_u32]
     rfl
    refine one_ (i := 7) (N := some 39) #[true, true, true, true, true, true, true, true, false, false, false] rfl rfl (one_of HT_.out (by kernel_rfl)) (by decide) (fun K hK => ?_)
    obtain ⟨z, hz⟩ := T.out.at_
    refine Kd.R_lit_step (Kd.slice 28 (Kd.slice 3 (Kd.int .i64))) w.heap.size 70 (by rfl) rfl (xs := [(List.replicate m ([] : List Int))]) (inner := [(Value.slice Ad (List.replicate m ([] : List Int)).length cd)]) (ok := fun k_ => k_ = z ∨ some k_ = Value.ownBlock (Value.slice Ad (List.replicate m ([] : List Int)).length cd)) (okp := fun k_ => some k_ = Value.ownBlock (Value.slice Ad (List.replicate m ([] : List Int)).length cd)) ?hr ?hp (fun _ hk => .inr hk) ?hf HB.out (below_size HB.out) (by simp) ?_
    (case hr => first | (go_simp; done) | (go_simp; rfl))
    (case hp => exact (Reps.one (show Kd.M (Kd.slice 28 (Kd.slice 3 (Kd.int .i64))) _ _ _ (List.replicate m ([] : List Int)) [(Value.slice Ad (List.replicate m ([] : List Int)).length cd)] from ⟨_, rfl, Kd.R_mono DD.out (fun _ h_ => h_.1)⟩) (Reps.none _ _)))
    (case hf => exact .inl hz.symm)
    intro rv wn ho hb0 hg hat
    have hb := below_of_grown HB.out hb0 hg
    obtain ⟨b_, hb1, hb2⟩ := hat
    have hbz : b_ = z := (ho.1 b_ hb1).elim id (fun e_ => by have := Kd.R_lt DD.out b_ e_.symm; omega)
    have RD := aM (Kd.R_mono (ok' := fun k_ => some k_ = Value.ownBlock rv ∨ some k_ = Value.ownBlock (Value.slice Ad (List.replicate m ([] : List Int)).length cd)) ho (fun k_ e_ => e_.elim (fun e_ => .inl (by rw [e_, ← hbz]; exact hb1.symm)) .inr))
    replace P := aM (P.out.below hb)
    replace T := aM (T.out.below hb)
    replace HB := aM (below_step HB.out hb)
    try replace X := aM (X.out.below hb)
    try replace AA := aM (Kd.R_below AA.out hb)
    try replace DD := aM (Kd.R_below DD.out hb)
    clear ho hb hb0 hg hb1 hb2 hbz hz
    refine hK.out _ _ trivial (fun hHeld => ?_)
    clear hK K
    refine norm_ (a' := ?_) ?_ ?_
    rotate_left
    ·
     show Act.put _ (some 39) _ = _
     simp only [Act.put, List.setIfInBounds_toArray, List.set_cons_zero, List.set_cons_succ, i64_w, i32_w, IntKind.wrap_u32]
     rfl
    exact norm_ (by simp only [putAll, Act.put, List.setIfInBounds_toArray, List.set_cons_zero, List.set_cons_succ]) (hCont (v0, v1, av, Value.slice Ad (List.replicate m ([] : List Int)).length cd, rv) _ ⟨P, T, HB, X, AA, DD, RD⟩)
   ·
    skip
    obtain ⟨z, hz⟩ := T.out.at_
    refine Kd.R_make_step (Kd.slice 3 (Kd.int .i64)) _ 28 (by rfl) rfl 70 (.tmp 37) (.tmp 37) rfl (m : Int) rfl rfl Try.underlying70 (.slice none 0 0) 24 infoB28 rfl (by decide) (by decide) ([] : List Int) (okp := fun _ => False) ⟨_, rfl, Kd.R_nil _ _ _ _ _⟩ (fun _ hk => hk.elim) (ok := fun k_ => k_ = z) ?hf (by omega) ?hl (Below.refl _ _) (Nat.le_refl _) ?_
    (case hf => exact hz.symm)
    (case hl => have := HM.out; omega)
    intro dv wn ho hb hg hat
    rw [Int.toNat_natCast] at ho
    obtain ⟨Ad, cd, rfl⟩ := Kd.R_slice ho
    obtain ⟨b_, hb1, hb2⟩ := hat
    have hbb := ho.1 b_ hb1
    have hfr : ¬ OwnR (some ⟨trb, 0, none⟩) (List.replicate m (.slice none 0 0)) b_ := fun q_ => by have := T.out.hR.lt q_; omega
    have DD := aM (Kd.R_mono (ok' := fun k_ => some k_ = Value.ownBlock (Value.slice Ad (List.replicate m ([] : List Int)).length cd) ∧ ¬ OwnR (some ⟨trb, 0, none⟩) (List.replicate m (.slice none 0 0)) k_) (Kd.R_lower ho (below_size HB.out)) (fun k_ e_ => by obtain rfl : k_ = b_ := e_.trans hbb.symm; exact ⟨hb1.symm, hfr⟩))
    replace P := aM (P.out.below hb)
    replace T := aM (T.out.below hb)
    replace HB := aM (below_step HB.out hb)
    try replace X := aM (X.out.below hb)
    try replace AA := aM (Kd.R_below AA.out hb)
    try replace RD := aM (Kd.R_below RD.out hb)
    clear ho hb hg hb1 hb2 hbb hfr hz
    refine hK.out _ _ trivial (fun hHeld => ?_)
    clear hK K
    refine norm_ (a' := ?_) ?_ ?_
    rotate_left
    ·
     show Act.put _ (some 38) _ = _
     simp only [Act.put, List.setIfInBounds_toArray, List.set_cons_zero, List.set_cons_succ, i64_w, i32_w, IntKind.wrap_u32]
     rfl
    refine two_ (i := 2) (j := 7) (Ni := some 34) (Nj := some 39) #[true, true, true, true, true, true, true, false, false, false, false] #[true, true, false, true, true, true, true, true, false, false, false] rfl rfl rfl rfl (two_of HT_.out (by kernel_rfl)) (by decide) (by decide) (fun K hK => ?_) (fun K hK => ?_)
    ·
     skip
     refine goes_ Try.func13 (by kernel_rfl) rfl #[.int .i64 (n : Int)] (by rfl) rfl rfl (by simp only [List.map_toArray, List.map_cons, List.map_nil]; rfl) ?_
     with_reducible refine (credenzaref10_New.calls 200 (n : Int) _ _ _ (new_ref n HN.out)).mono ?_
     rintro e wn ⟨v0, v1, rfl, r0, r1, hb⟩
     refine ⟨_, rfl, ?_⟩
     have HB0 := HB
     replace P := aM (P.out.below hb)
     replace T := aM (T.out.below hb)
     replace HB := aM (below_step HB.out hb)
     try replace X := aM (X.out.below hb)
     try replace AA := aM (Kd.R_below AA.out hb)
     try replace DD := aM (Kd.R_below DD.out hb)
     try replace RD := aM (Kd.R_below RD.out hb)
     have X := aM (XAt.of (S := fun _ => True) (Kd.R_mono (Kd.R_lower r0 (below_size HB0.out)) (fun _ h_ => ⟨trivial, h_⟩)) (Kd.R_mono (Kd.R_lower r1 (below_size HB0.out)) (fun _ h_ => ⟨trivial, h_⟩)))
     clear r0 r1 hb HB0
     refine hK.out _ _ trivial (fun hHeld => ?_)
     clear hK K
     refine norm_ (a' := ?_) ?_ ?_
     rotate_left
     ·
      show Act.put _ (some 34) _ = _
      simp only [Act.put, List.setIfInBounds_toArray, List.set_cons_zero, List.set_cons_succ, i64_w, i32_w, IntKind.wrap_u32]
      rfl
     refine one_ (i := 7) (N := some 39) #[true, true, true, true, true, true, true, true, false, false, false] rfl rfl (one_of HT_.out (by kernel_rfl)) (by decide) (fun K hK => ?_)
     obtain ⟨z, hz⟩ := T.out.at_
     refine Kd.R_lit_step (Kd.slice 28 (Kd.slice 3 (Kd.int .i64))) w.heap.size 70 (by rfl) rfl (xs := [(List.replicate m ([] : List Int))]) (inner := [(Value.slice Ad (List.replicate m ([] : List Int)).length cd)]) (ok := fun k_ => k_ = z ∨ some k_ = Value.ownBlock (Value.slice Ad (List.replicate m ([] : List Int)).length cd)) (okp := fun k_ => some k_ = Value.ownBlock (Value.slice Ad (List.replicate m ([] : List Int)).length cd)) ?hr ?hp (fun _ hk => .inr hk) ?hf HB.out (below_size HB.out) (by simp) ?_
     (case hr => first | (go_simp; done) | (go_simp; rfl))
     (case hp => exact (Reps.one (show Kd.M (Kd.slice 28 (Kd.slice 3 (Kd.int .i64))) _ _ _ (List.replicate m ([] : List Int)) [(Value.slice Ad (List.replicate m ([] : List Int)).length cd)] from ⟨_, rfl, Kd.R_mono DD.out (fun _ h_ => h_.1)⟩) (Reps.none _ _)))
     (case hf => exact .inl hz.symm)
     intro rv wn ho hb0 hg hat
     have hb := below_of_grown HB.out hb0 hg
     obtain ⟨b_, hb1, hb2⟩ := hat
     have hbz : b_ = z := (ho.1 b_ hb1).elim id (fun e_ => by have := Kd.R_lt DD.out b_ e_.symm; omega)
     have RD := aM (Kd.R_mono (ok' := fun k_ => some k_ = Value.ownBlock rv ∨ some k_ = Value.ownBlock (Value.slice Ad (List.replicate m ([] : List Int)).length cd)) ho (fun k_ e_ => e_.elim (fun e_ => .inl (by rw [e_, ← hbz]; exact hb1.symm)) .inr))
     replace P := aM (P.out.below hb)
     replace T := aM (T.out.below hb)
     replace HB := aM (below_step HB.out hb)
     try replace X := aM (X.out.below hb)
     try replace AA := aM (Kd.R_below AA.out hb)
     try replace DD := aM (Kd.R_below DD.out hb)
     clear ho hb hb0 hg hb1 hb2 hbz hz
     refine hK.out _ _ trivial (fun hHeld => ?_)
     clear hK K
     refine norm_ (a' := ?_) ?_ ?_
     rotate_left
     ·
      show Act.put _ (some 39) _ = _
      simp only [Act.put, List.setIfInBounds_toArray, List.set_cons_zero, List.set_cons_succ, i64_w, i32_w, IntKind.wrap_u32]
      rfl
     exact norm_ (by simp only [putAll, Act.put, List.setIfInBounds_toArray, List.set_cons_zero, List.set_cons_succ]) (hCont (v0, v1, av, Value.slice Ad (List.replicate m ([] : List Int)).length cd, rv) _ ⟨P, T, HB, X, AA, DD, RD⟩)
    ·
     skip
     obtain ⟨z, hz⟩ := T.out.at_
     refine Kd.R_lit_step (Kd.slice 28 (Kd.slice 3 (Kd.int .i64))) w.heap.size 70 (by rfl) rfl (xs := [(List.replicate m ([] : List Int))]) (inner := [(Value.slice Ad (List.replicate m ([] : List Int)).length cd)]) (ok := fun k_ => k_ = z ∨ some k_ = Value.ownBlock (Value.slice Ad (List.replicate m ([] : List Int)).length cd)) (okp := fun k_ => some k_ = Value.ownBlock (Value.slice Ad (List.replicate m ([] : List Int)).length cd)) ?hr ?hp (fun _ hk => .inr hk) ?hf HB.out (below_size HB.out) (by simp) ?_
     (case hr => first | (go_simp; done) | (go_simp; rfl))
     (case hp => exact (Reps.one (show Kd.M (Kd.slice 28 (Kd.slice 3 (Kd.int .i64))) _ _ _ (List.replicate m ([] : List Int)) [(Value.slice Ad (List.replicate m ([] : List Int)).length cd)] from ⟨_, rfl, Kd.R_mono DD.out (fun _ h_ => h_.1)⟩) (Reps.none _ _)))
     (case hf => exact .inl hz.symm)
     intro rv wn ho hb0 hg hat
     have hb := below_of_grown HB.out hb0 hg
     obtain ⟨b_, hb1, hb2⟩ := hat
     have hbz : b_ = z := (ho.1 b_ hb1).elim id (fun e_ => by have := Kd.R_lt DD.out b_ e_.symm; omega)
     have RD := aM (Kd.R_mono (ok' := fun k_ => some k_ = Value.ownBlock rv ∨ some k_ = Value.ownBlock (Value.slice Ad (List.replicate m ([] : List Int)).length cd)) ho (fun k_ e_ => e_.elim (fun e_ => .inl (by rw [e_, ← hbz]; exact hb1.symm)) .inr))
     replace P := aM (P.out.below hb)
     replace T := aM (T.out.below hb)
     replace HB := aM (below_step HB.out hb)
     try replace X := aM (X.out.below hb)
     try replace AA := aM (Kd.R_below AA.out hb)
     try replace DD := aM (Kd.R_below DD.out hb)
     clear ho hb hb0 hg hb1 hb2 hbz hz
     refine hK.out _ _ trivial (fun hHeld => ?_)
     clear hK K
     refine norm_ (a' := ?_) ?_ ?_
     rotate_left
     ·
      show Act.put _ (some 39) _ = _
      simp only [Act.put, List.setIfInBounds_toArray, List.set_cons_zero, List.set_cons_succ, i64_w, i32_w, IntKind.wrap_u32]
      rfl
     refine one_ (i := 2) (N := some 34) #[true, true, true, true, true, true, true, true, false, false, false] rfl rfl (one_of HT_.out (by kernel_rfl)) (by decide) (fun K hK => ?_)
     refine goes_ Try.func13 (by kernel_rfl) rfl #[.int .i64 (n : Int)] (by rfl) rfl rfl (by simp only [List.map_toArray, List.map_cons, List.map_nil]; rfl) ?_
     with_reducible refine (credenzaref10_New.calls 200 (n : Int) _ _ _ (new_ref n HN.out)).mono ?_
     rintro e wn ⟨v0, v1, rfl, r0, r1, hb⟩
     refine ⟨_, rfl, ?_⟩
     have HB0 := HB
     replace P := aM (P.out.below hb)
     replace T := aM (T.out.below hb)
     replace HB := aM (below_step HB.out hb)
     try replace X := aM (X.out.below hb)
     try replace AA := aM (Kd.R_below AA.out hb)
     try replace DD := aM (Kd.R_below DD.out hb)
     try replace RD := aM (Kd.R_below RD.out hb)
     have X := aM (XAt.of (S := fun _ => True) (Kd.R_mono (Kd.R_lower r0 (below_size HB0.out)) (fun _ h_ => ⟨trivial, h_⟩)) (Kd.R_mono (Kd.R_lower r1 (below_size HB0.out)) (fun _ h_ => ⟨trivial, h_⟩)))
     clear r0 r1 hb HB0
     refine hK.out _ _ trivial (fun hHeld => ?_)
     clear hK K
     refine norm_ (a' := ?_) ?_ ?_
     rotate_left
     ·
      show Act.put _ (some 34) _ = _
      simp only [Act.put, List.setIfInBounds_toArray, List.set_cons_zero, List.set_cons_succ, i64_w, i32_w, IntKind.wrap_u32]
      rfl
     exact norm_ (by simp only [putAll, Act.put, List.setIfInBounds_toArray, List.set_cons_zero, List.set_cons_succ]) (hCont (v0, v1, av, Value.slice Ad (List.replicate m ([] : List Int)).length cd, rv) _ ⟨P, T, HB, X, AA, DD, RD⟩)
  ·
   skip
   obtain ⟨z, hz⟩ := T.out.at_
   refine Kd.R_make_step (Kd.slice 3 (Kd.int .i64)) _ 28 (by rfl) rfl 70 (.tmp 37) (.tmp 37) rfl (m : Int) rfl rfl Try.underlying70 (.slice none 0 0) 24 infoB28 rfl (by decide) (by decide) ([] : List Int) (okp := fun _ => False) ⟨_, rfl, Kd.R_nil _ _ _ _ _⟩ (fun _ hk => hk.elim) (ok := fun k_ => k_ = z) ?hf (by omega) ?hl (Below.refl _ _) (Nat.le_refl _) ?_
   (case hf => exact hz.symm)
   (case hl => have := HM.out; omega)
   intro dv wn ho hb hg hat
   rw [Int.toNat_natCast] at ho
   obtain ⟨Ad, cd, rfl⟩ := Kd.R_slice ho
   obtain ⟨b_, hb1, hb2⟩ := hat
   have hbb := ho.1 b_ hb1
   have hfr : ¬ OwnR (some ⟨trb, 0, none⟩) (List.replicate m (.slice none 0 0)) b_ := fun q_ => by have := T.out.hR.lt q_; omega
   have DD := aM (Kd.R_mono (ok' := fun k_ => some k_ = Value.ownBlock (Value.slice Ad (List.replicate m ([] : List Int)).length cd) ∧ ¬ OwnR (some ⟨trb, 0, none⟩) (List.replicate m (.slice none 0 0)) k_) (Kd.R_lower ho (below_size HB.out)) (fun k_ e_ => by obtain rfl : k_ = b_ := e_.trans hbb.symm; exact ⟨hb1.symm, hfr⟩))
   replace P := aM (P.out.below hb)
   replace T := aM (T.out.below hb)
   replace HB := aM (below_step HB.out hb)
   try replace X := aM (X.out.below hb)
   try replace AA := aM (Kd.R_below AA.out hb)
   try replace RD := aM (Kd.R_below RD.out hb)
   clear ho hb hg hb1 hb2 hbb hfr hz
   refine hK.out _ _ trivial (fun hHeld => ?_)
   clear hK K
   refine norm_ (a' := ?_) ?_ ?_
   rotate_left
   ·
    show Act.put _ (some 38) _ = _
    simp only [Act.put, List.setIfInBounds_toArray, List.set_cons_zero, List.set_cons_succ, i64_w, i32_w, IntKind.wrap_u32]
    rfl
   refine three_ (i := 2) (j := 4) (k := 7) (Ni := some 34) (Nj := some 36) (Nk := some 39) #[true, true, true, true, false, true, true, false, false, false, false] #[true, true, false, true, true, true, true, false, false, false, false] #[true, true, false, true, false, true, true, true, false, false, false] rfl rfl rfl rfl rfl rfl (three_of HT_.out (by kernel_rfl)) (by decide) (by decide) (by decide) (fun K hK => ?_) (fun K hK => ?_) (fun K hK => ?_)
   ·
    skip
    refine goes_ Try.func13 (by kernel_rfl) rfl #[.int .i64 (n : Int)] (by rfl) rfl rfl (by simp only [List.map_toArray, List.map_cons, List.map_nil]; rfl) ?_
    with_reducible refine (credenzaref10_New.calls 200 (n : Int) _ _ _ (new_ref n HN.out)).mono ?_
    rintro e wn ⟨v0, v1, rfl, r0, r1, hb⟩
    refine ⟨_, rfl, ?_⟩
    have HB0 := HB
    replace P := aM (P.out.below hb)
    replace T := aM (T.out.below hb)
    replace HB := aM (below_step HB.out hb)
    try replace X := aM (X.out.below hb)
    try replace AA := aM (Kd.R_below AA.out hb)
    try replace DD := aM (Kd.R_below DD.out hb)
    try replace RD := aM (Kd.R_below RD.out hb)
    have X := aM (XAt.of (S := fun _ => True) (Kd.R_mono (Kd.R_lower r0 (below_size HB0.out)) (fun _ h_ => ⟨trivial, h_⟩)) (Kd.R_mono (Kd.R_lower r1 (below_size HB0.out)) (fun _ h_ => ⟨trivial, h_⟩)))
    clear r0 r1 hb HB0
    refine hK.out _ _ trivial (fun hHeld => ?_)
    clear hK K
    refine norm_ (a' := ?_) ?_ ?_
    rotate_left
    ·
     show Act.put _ (some 34) _ = _
     simp only [Act.put, List.setIfInBounds_toArray, List.set_cons_zero, List.set_cons_succ, i64_w, i32_w, IntKind.wrap_u32]
     rfl
    refine two_ (i := 4) (j := 7) (Ni := some 36) (Nj := some 39) #[true, true, true, true, true, true, true, false, false, false, false] #[true, true, true, true, false, true, true, true, false, false, false] rfl rfl rfl rfl (two_of HT_.out (by kernel_rfl)) (by decide) (by decide) (fun K hK => ?_) (fun K hK => ?_)
    ·
     skip
     refine Kd.R_lit_step (Kd.raw 1) _ 59 (by rfl) rfl (xs := [[Value.pointer (some ⟨tb, 0, none⟩)]]) (inner := [Value.pointer (some ⟨tb, 0, none⟩)]) (ok := fun _ => True) (okp := fun _ => True) ?hr ?hp (fun _ hk => hk) trivial (Below.refl _ _) (Nat.le_refl _) (by simp) ?_
     (case hr => first | (go_simp; done) | (go_simp; rfl))
     (case hp => exact (Reps.one (show Kd.M (Kd.raw 1) _ _ _ [Value.pointer (some ⟨tb, 0, none⟩)] [Value.pointer (some ⟨tb, 0, none⟩)] from ⟨rfl, rfl, by simp [Value.oneCell']⟩) (Reps.none _ _)))
     intro av wn ho hb hg hat
     have HB0 := HB
     replace P := aM (P.out.below hb)
     replace T := aM (T.out.below hb)
     replace HB := aM (below_step HB.out hb)
     try replace X := aM (X.out.below hb)
     try replace AA := aM (Kd.R_below AA.out hb)
     try replace DD := aM (Kd.R_below DD.out hb)
     try replace RD := aM (Kd.R_below RD.out hb)
     have AA := aM (Kd.R_tight rfl (Kd.R_lower ho (below_size HB0.out)))
     clear ho hb hg hat HB0
     refine hK.out _ _ trivial (fun hHeld => ?_)
     clear hK K
     refine norm_ (a' := ?_) ?_ ?_
     rotate_left
     ·
      show Act.put _ (some 36) _ = _
      simp only [Act.put, List.setIfInBounds_toArray, List.set_cons_zero, List.set_cons_succ, i64_w, i32_w, IntKind.wrap_u32]
      rfl
     refine one_ (i := 7) (N := some 39) #[true, true, true, true, true, true, true, true, false, false, false] rfl rfl (one_of HT_.out (by kernel_rfl)) (by decide) (fun K hK => ?_)
     obtain ⟨z, hz⟩ := T.out.at_
     refine Kd.R_lit_step (Kd.slice 28 (Kd.slice 3 (Kd.int .i64))) w.heap.size 70 (by rfl) rfl (xs := [(List.replicate m ([] : List Int))]) (inner := [(Value.slice Ad (List.replicate m ([] : List Int)).length cd)]) (ok := fun k_ => k_ = z ∨ some k_ = Value.ownBlock (Value.slice Ad (List.replicate m ([] : List Int)).length cd)) (okp := fun k_ => some k_ = Value.ownBlock (Value.slice Ad (List.replicate m ([] : List Int)).length cd)) ?hr ?hp (fun _ hk => .inr hk) ?hf HB.out (below_size HB.out) (by simp) ?_
     (case hr => first | (go_simp; done) | (go_simp; rfl))
     (case hp => exact (Reps.one (show Kd.M (Kd.slice 28 (Kd.slice 3 (Kd.int .i64))) _ _ _ (List.replicate m ([] : List Int)) [(Value.slice Ad (List.replicate m ([] : List Int)).length cd)] from ⟨_, rfl, Kd.R_mono DD.out (fun _ h_ => h_.1)⟩) (Reps.none _ _)))
     (case hf => exact .inl hz.symm)
     intro rv wn ho hb0 hg hat
     have hb := below_of_grown HB.out hb0 hg
     obtain ⟨b_, hb1, hb2⟩ := hat
     have hbz : b_ = z := (ho.1 b_ hb1).elim id (fun e_ => by have := Kd.R_lt DD.out b_ e_.symm; omega)
     have RD := aM (Kd.R_mono (ok' := fun k_ => some k_ = Value.ownBlock rv ∨ some k_ = Value.ownBlock (Value.slice Ad (List.replicate m ([] : List Int)).length cd)) ho (fun k_ e_ => e_.elim (fun e_ => .inl (by rw [e_, ← hbz]; exact hb1.symm)) .inr))
     replace P := aM (P.out.below hb)
     replace T := aM (T.out.below hb)
     replace HB := aM (below_step HB.out hb)
     try replace X := aM (X.out.below hb)
     try replace AA := aM (Kd.R_below AA.out hb)
     try replace DD := aM (Kd.R_below DD.out hb)
     clear ho hb hb0 hg hb1 hb2 hbz hz
     refine hK.out _ _ trivial (fun hHeld => ?_)
     clear hK K
     refine norm_ (a' := ?_) ?_ ?_
     rotate_left
     ·
      show Act.put _ (some 39) _ = _
      simp only [Act.put, List.setIfInBounds_toArray, List.set_cons_zero, List.set_cons_succ, i64_w, i32_w, IntKind.wrap_u32]
      rfl
     exact norm_ (by simp only [putAll, Act.put, List.setIfInBounds_toArray, List.set_cons_zero, List.set_cons_succ]) (hCont (v0, v1, av, Value.slice Ad (List.replicate m ([] : List Int)).length cd, rv) _ ⟨P, T, HB, X, AA, DD, RD⟩)
    ·
     skip
     obtain ⟨z, hz⟩ := T.out.at_
     refine Kd.R_lit_step (Kd.slice 28 (Kd.slice 3 (Kd.int .i64))) w.heap.size 70 (by rfl) rfl (xs := [(List.replicate m ([] : List Int))]) (inner := [(Value.slice Ad (List.replicate m ([] : List Int)).length cd)]) (ok := fun k_ => k_ = z ∨ some k_ = Value.ownBlock (Value.slice Ad (List.replicate m ([] : List Int)).length cd)) (okp := fun k_ => some k_ = Value.ownBlock (Value.slice Ad (List.replicate m ([] : List Int)).length cd)) ?hr ?hp (fun _ hk => .inr hk) ?hf HB.out (below_size HB.out) (by simp) ?_
     (case hr => first | (go_simp; done) | (go_simp; rfl))
     (case hp => exact (Reps.one (show Kd.M (Kd.slice 28 (Kd.slice 3 (Kd.int .i64))) _ _ _ (List.replicate m ([] : List Int)) [(Value.slice Ad (List.replicate m ([] : List Int)).length cd)] from ⟨_, rfl, Kd.R_mono DD.out (fun _ h_ => h_.1)⟩) (Reps.none _ _)))
     (case hf => exact .inl hz.symm)
     intro rv wn ho hb0 hg hat
     have hb := below_of_grown HB.out hb0 hg
     obtain ⟨b_, hb1, hb2⟩ := hat
     have hbz : b_ = z := (ho.1 b_ hb1).elim id (fun e_ => by have := Kd.R_lt DD.out b_ e_.symm; omega)
     have RD := aM (Kd.R_mono (ok' := fun k_ => some k_ = Value.ownBlock rv ∨ some k_ = Value.ownBlock (Value.slice Ad (List.replicate m ([] : List Int)).length cd)) ho (fun k_ e_ => e_.elim (fun e_ => .inl (by rw [e_, ← hbz]; exact hb1.symm)) .inr))
     replace P := aM (P.out.below hb)
     replace T := aM (T.out.below hb)
     replace HB := aM (below_step HB.out hb)
     try replace X := aM (X.out.below hb)
     try replace AA := aM (Kd.R_below AA.out hb)
     try replace DD := aM (Kd.R_below DD.out hb)
     clear ho hb hb0 hg hb1 hb2 hbz hz
     refine hK.out _ _ trivial (fun hHeld => ?_)
     clear hK K
     refine norm_ (a' := ?_) ?_ ?_
     rotate_left
     ·
      show Act.put _ (some 39) _ = _
      simp only [Act.put, List.setIfInBounds_toArray, List.set_cons_zero, List.set_cons_succ, i64_w, i32_w, IntKind.wrap_u32]
      rfl
     refine one_ (i := 4) (N := some 36) #[true, true, true, true, true, true, true, true, false, false, false] rfl rfl (one_of HT_.out (by kernel_rfl)) (by decide) (fun K hK => ?_)
     refine Kd.R_lit_step (Kd.raw 1) _ 59 (by rfl) rfl (xs := [[Value.pointer (some ⟨tb, 0, none⟩)]]) (inner := [Value.pointer (some ⟨tb, 0, none⟩)]) (ok := fun _ => True) (okp := fun _ => True) ?hr ?hp (fun _ hk => hk) trivial (Below.refl _ _) (Nat.le_refl _) (by simp) ?_
     (case hr => first | (go_simp; done) | (go_simp; rfl))
     (case hp => exact (Reps.one (show Kd.M (Kd.raw 1) _ _ _ [Value.pointer (some ⟨tb, 0, none⟩)] [Value.pointer (some ⟨tb, 0, none⟩)] from ⟨rfl, rfl, by simp [Value.oneCell']⟩) (Reps.none _ _)))
     intro av wn ho hb hg hat
     have HB0 := HB
     replace P := aM (P.out.below hb)
     replace T := aM (T.out.below hb)
     replace HB := aM (below_step HB.out hb)
     try replace X := aM (X.out.below hb)
     try replace AA := aM (Kd.R_below AA.out hb)
     try replace DD := aM (Kd.R_below DD.out hb)
     try replace RD := aM (Kd.R_below RD.out hb)
     have AA := aM (Kd.R_tight rfl (Kd.R_lower ho (below_size HB0.out)))
     clear ho hb hg hat HB0
     refine hK.out _ _ trivial (fun hHeld => ?_)
     clear hK K
     refine norm_ (a' := ?_) ?_ ?_
     rotate_left
     ·
      show Act.put _ (some 36) _ = _
      simp only [Act.put, List.setIfInBounds_toArray, List.set_cons_zero, List.set_cons_succ, i64_w, i32_w, IntKind.wrap_u32]
      rfl
     exact norm_ (by simp only [putAll, Act.put, List.setIfInBounds_toArray, List.set_cons_zero, List.set_cons_succ]) (hCont (v0, v1, av, Value.slice Ad (List.replicate m ([] : List Int)).length cd, rv) _ ⟨P, T, HB, X, AA, DD, RD⟩)
   ·
    skip
    refine Kd.R_lit_step (Kd.raw 1) _ 59 (by rfl) rfl (xs := [[Value.pointer (some ⟨tb, 0, none⟩)]]) (inner := [Value.pointer (some ⟨tb, 0, none⟩)]) (ok := fun _ => True) (okp := fun _ => True) ?hr ?hp (fun _ hk => hk) trivial (Below.refl _ _) (Nat.le_refl _) (by simp) ?_
    (case hr => first | (go_simp; done) | (go_simp; rfl))
    (case hp => exact (Reps.one (show Kd.M (Kd.raw 1) _ _ _ [Value.pointer (some ⟨tb, 0, none⟩)] [Value.pointer (some ⟨tb, 0, none⟩)] from ⟨rfl, rfl, by simp [Value.oneCell']⟩) (Reps.none _ _)))
    intro av wn ho hb hg hat
    have HB0 := HB
    replace P := aM (P.out.below hb)
    replace T := aM (T.out.below hb)
    replace HB := aM (below_step HB.out hb)
    try replace X := aM (X.out.below hb)
    try replace AA := aM (Kd.R_below AA.out hb)
    try replace DD := aM (Kd.R_below DD.out hb)
    try replace RD := aM (Kd.R_below RD.out hb)
    have AA := aM (Kd.R_tight rfl (Kd.R_lower ho (below_size HB0.out)))
    clear ho hb hg hat HB0
    refine hK.out _ _ trivial (fun hHeld => ?_)
    clear hK K
    refine norm_ (a' := ?_) ?_ ?_
    rotate_left
    ·
     show Act.put _ (some 36) _ = _
     simp only [Act.put, List.setIfInBounds_toArray, List.set_cons_zero, List.set_cons_succ, i64_w, i32_w, IntKind.wrap_u32]
     rfl
    refine two_ (i := 2) (j := 7) (Ni := some 34) (Nj := some 39) #[true, true, true, true, true, true, true, false, false, false, false] #[true, true, false, true, true, true, true, true, false, false, false] rfl rfl rfl rfl (two_of HT_.out (by kernel_rfl)) (by decide) (by decide) (fun K hK => ?_) (fun K hK => ?_)
    ·
     skip
     refine goes_ Try.func13 (by kernel_rfl) rfl #[.int .i64 (n : Int)] (by rfl) rfl rfl (by simp only [List.map_toArray, List.map_cons, List.map_nil]; rfl) ?_
     with_reducible refine (credenzaref10_New.calls 200 (n : Int) _ _ _ (new_ref n HN.out)).mono ?_
     rintro e wn ⟨v0, v1, rfl, r0, r1, hb⟩
     refine ⟨_, rfl, ?_⟩
     have HB0 := HB
     replace P := aM (P.out.below hb)
     replace T := aM (T.out.below hb)
     replace HB := aM (below_step HB.out hb)
     try replace X := aM (X.out.below hb)
     try replace AA := aM (Kd.R_below AA.out hb)
     try replace DD := aM (Kd.R_below DD.out hb)
     try replace RD := aM (Kd.R_below RD.out hb)
     have X := aM (XAt.of (S := fun _ => True) (Kd.R_mono (Kd.R_lower r0 (below_size HB0.out)) (fun _ h_ => ⟨trivial, h_⟩)) (Kd.R_mono (Kd.R_lower r1 (below_size HB0.out)) (fun _ h_ => ⟨trivial, h_⟩)))
     clear r0 r1 hb HB0
     refine hK.out _ _ trivial (fun hHeld => ?_)
     clear hK K
     refine norm_ (a' := ?_) ?_ ?_
     rotate_left
     ·
      show Act.put _ (some 34) _ = _
      simp only [Act.put, List.setIfInBounds_toArray, List.set_cons_zero, List.set_cons_succ, i64_w, i32_w, IntKind.wrap_u32]
      rfl
     refine one_ (i := 7) (N := some 39) #[true, true, true, true, true, true, true, true, false, false, false] rfl rfl (one_of HT_.out (by kernel_rfl)) (by decide) (fun K hK => ?_)
     obtain ⟨z, hz⟩ := T.out.at_
     refine Kd.R_lit_step (Kd.slice 28 (Kd.slice 3 (Kd.int .i64))) w.heap.size 70 (by rfl) rfl (xs := [(List.replicate m ([] : List Int))]) (inner := [(Value.slice Ad (List.replicate m ([] : List Int)).length cd)]) (ok := fun k_ => k_ = z ∨ some k_ = Value.ownBlock (Value.slice Ad (List.replicate m ([] : List Int)).length cd)) (okp := fun k_ => some k_ = Value.ownBlock (Value.slice Ad (List.replicate m ([] : List Int)).length cd)) ?hr ?hp (fun _ hk => .inr hk) ?hf HB.out (below_size HB.out) (by simp) ?_
     (case hr => first | (go_simp; done) | (go_simp; rfl))
     (case hp => exact (Reps.one (show Kd.M (Kd.slice 28 (Kd.slice 3 (Kd.int .i64))) _ _ _ (List.replicate m ([] : List Int)) [(Value.slice Ad (List.replicate m ([] : List Int)).length cd)] from ⟨_, rfl, Kd.R_mono DD.out (fun _ h_ => h_.1)⟩) (Reps.none _ _)))
     (case hf => exact .inl hz.symm)
     intro rv wn ho hb0 hg hat
     have hb := below_of_grown HB.out hb0 hg
     obtain ⟨b_, hb1, hb2⟩ := hat
     have hbz : b_ = z := (ho.1 b_ hb1).elim id (fun e_ => by have := Kd.R_lt DD.out b_ e_.symm; omega)
     have RD := aM (Kd.R_mono (ok' := fun k_ => some k_ = Value.ownBlock rv ∨ some k_ = Value.ownBlock (Value.slice Ad (List.replicate m ([] : List Int)).length cd)) ho (fun k_ e_ => e_.elim (fun e_ => .inl (by rw [e_, ← hbz]; exact hb1.symm)) .inr))
     replace P := aM (P.out.below hb)
     replace T := aM (T.out.below hb)
     replace HB := aM (below_step HB.out hb)
     try replace X := aM (X.out.below hb)
     try replace AA := aM (Kd.R_below AA.out hb)
     try replace DD := aM (Kd.R_below DD.out hb)
     clear ho hb hb0 hg hb1 hb2 hbz hz
     refine hK.out _ _ trivial (fun hHeld => ?_)
     clear hK K
     refine norm_ (a' := ?_) ?_ ?_
     rotate_left
     ·
      show Act.put _ (some 39) _ = _
      simp only [Act.put, List.setIfInBounds_toArray, List.set_cons_zero, List.set_cons_succ, i64_w, i32_w, IntKind.wrap_u32]
      rfl
     exact norm_ (by simp only [putAll, Act.put, List.setIfInBounds_toArray, List.set_cons_zero, List.set_cons_succ]) (hCont (v0, v1, av, Value.slice Ad (List.replicate m ([] : List Int)).length cd, rv) _ ⟨P, T, HB, X, AA, DD, RD⟩)
    ·
     skip
     obtain ⟨z, hz⟩ := T.out.at_
     refine Kd.R_lit_step (Kd.slice 28 (Kd.slice 3 (Kd.int .i64))) w.heap.size 70 (by rfl) rfl (xs := [(List.replicate m ([] : List Int))]) (inner := [(Value.slice Ad (List.replicate m ([] : List Int)).length cd)]) (ok := fun k_ => k_ = z ∨ some k_ = Value.ownBlock (Value.slice Ad (List.replicate m ([] : List Int)).length cd)) (okp := fun k_ => some k_ = Value.ownBlock (Value.slice Ad (List.replicate m ([] : List Int)).length cd)) ?hr ?hp (fun _ hk => .inr hk) ?hf HB.out (below_size HB.out) (by simp) ?_
     (case hr => first | (go_simp; done) | (go_simp; rfl))
     (case hp => exact (Reps.one (show Kd.M (Kd.slice 28 (Kd.slice 3 (Kd.int .i64))) _ _ _ (List.replicate m ([] : List Int)) [(Value.slice Ad (List.replicate m ([] : List Int)).length cd)] from ⟨_, rfl, Kd.R_mono DD.out (fun _ h_ => h_.1)⟩) (Reps.none _ _)))
     (case hf => exact .inl hz.symm)
     intro rv wn ho hb0 hg hat
     have hb := below_of_grown HB.out hb0 hg
     obtain ⟨b_, hb1, hb2⟩ := hat
     have hbz : b_ = z := (ho.1 b_ hb1).elim id (fun e_ => by have := Kd.R_lt DD.out b_ e_.symm; omega)
     have RD := aM (Kd.R_mono (ok' := fun k_ => some k_ = Value.ownBlock rv ∨ some k_ = Value.ownBlock (Value.slice Ad (List.replicate m ([] : List Int)).length cd)) ho (fun k_ e_ => e_.elim (fun e_ => .inl (by rw [e_, ← hbz]; exact hb1.symm)) .inr))
     replace P := aM (P.out.below hb)
     replace T := aM (T.out.below hb)
     replace HB := aM (below_step HB.out hb)
     try replace X := aM (X.out.below hb)
     try replace AA := aM (Kd.R_below AA.out hb)
     try replace DD := aM (Kd.R_below DD.out hb)
     clear ho hb hb0 hg hb1 hb2 hbz hz
     refine hK.out _ _ trivial (fun hHeld => ?_)
     clear hK K
     refine norm_ (a' := ?_) ?_ ?_
     rotate_left
     ·
      show Act.put _ (some 39) _ = _
      simp only [Act.put, List.setIfInBounds_toArray, List.set_cons_zero, List.set_cons_succ, i64_w, i32_w, IntKind.wrap_u32]
      rfl
     refine one_ (i := 2) (N := some 34) #[true, true, true, true, true, true, true, true, false, false, false] rfl rfl (one_of HT_.out (by kernel_rfl)) (by decide) (fun K hK => ?_)
     refine goes_ Try.func13 (by kernel_rfl) rfl #[.int .i64 (n : Int)] (by rfl) rfl rfl (by simp only [List.map_toArray, List.map_cons, List.map_nil]; rfl) ?_
     with_reducible refine (credenzaref10_New.calls 200 (n : Int) _ _ _ (new_ref n HN.out)).mono ?_
     rintro e wn ⟨v0, v1, rfl, r0, r1, hb⟩
     refine ⟨_, rfl, ?_⟩
     have HB0 := HB
     replace P := aM (P.out.below hb)
     replace T := aM (T.out.below hb)
     replace HB := aM (below_step HB.out hb)
     try replace X := aM (X.out.below hb)
     try replace AA := aM (Kd.R_below AA.out hb)
     try replace DD := aM (Kd.R_below DD.out hb)
     try replace RD := aM (Kd.R_below RD.out hb)
     have X := aM (XAt.of (S := fun _ => True) (Kd.R_mono (Kd.R_lower r0 (below_size HB0.out)) (fun _ h_ => ⟨trivial, h_⟩)) (Kd.R_mono (Kd.R_lower r1 (below_size HB0.out)) (fun _ h_ => ⟨trivial, h_⟩)))
     clear r0 r1 hb HB0
     refine hK.out _ _ trivial (fun hHeld => ?_)
     clear hK K
     refine norm_ (a' := ?_) ?_ ?_
     rotate_left
     ·
      show Act.put _ (some 34) _ = _
      simp only [Act.put, List.setIfInBounds_toArray, List.set_cons_zero, List.set_cons_succ, i64_w, i32_w, IntKind.wrap_u32]
      rfl
     exact norm_ (by simp only [putAll, Act.put, List.setIfInBounds_toArray, List.set_cons_zero, List.set_cons_succ]) (hCont (v0, v1, av, Value.slice Ad (List.replicate m ([] : List Int)).length cd, rv) _ ⟨P, T, HB, X, AA, DD, RD⟩)
   ·
    skip
    obtain ⟨z, hz⟩ := T.out.at_
    refine Kd.R_lit_step (Kd.slice 28 (Kd.slice 3 (Kd.int .i64))) w.heap.size 70 (by rfl) rfl (xs := [(List.replicate m ([] : List Int))]) (inner := [(Value.slice Ad (List.replicate m ([] : List Int)).length cd)]) (ok := fun k_ => k_ = z ∨ some k_ = Value.ownBlock (Value.slice Ad (List.replicate m ([] : List Int)).length cd)) (okp := fun k_ => some k_ = Value.ownBlock (Value.slice Ad (List.replicate m ([] : List Int)).length cd)) ?hr ?hp (fun _ hk => .inr hk) ?hf HB.out (below_size HB.out) (by simp) ?_
    (case hr => first | (go_simp; done) | (go_simp; rfl))
    (case hp => exact (Reps.one (show Kd.M (Kd.slice 28 (Kd.slice 3 (Kd.int .i64))) _ _ _ (List.replicate m ([] : List Int)) [(Value.slice Ad (List.replicate m ([] : List Int)).length cd)] from ⟨_, rfl, Kd.R_mono DD.out (fun _ h_ => h_.1)⟩) (Reps.none _ _)))
    (case hf => exact .inl hz.symm)
    intro rv wn ho hb0 hg hat
    have hb := below_of_grown HB.out hb0 hg
    obtain ⟨b_, hb1, hb2⟩ := hat
    have hbz : b_ = z := (ho.1 b_ hb1).elim id (fun e_ => by have := Kd.R_lt DD.out b_ e_.symm; omega)
    have RD := aM (Kd.R_mono (ok' := fun k_ => some k_ = Value.ownBlock rv ∨ some k_ = Value.ownBlock (Value.slice Ad (List.replicate m ([] : List Int)).length cd)) ho (fun k_ e_ => e_.elim (fun e_ => .inl (by rw [e_, ← hbz]; exact hb1.symm)) .inr))
    replace P := aM (P.out.below hb)
    replace T := aM (T.out.below hb)
    replace HB := aM (below_step HB.out hb)
    try replace X := aM (X.out.below hb)
    try replace AA := aM (Kd.R_below AA.out hb)
    try replace DD := aM (Kd.R_below DD.out hb)
    clear ho hb hb0 hg hb1 hb2 hbz hz
    refine hK.out _ _ trivial (fun hHeld => ?_)
    clear hK K
    refine norm_ (a' := ?_) ?_ ?_
    rotate_left
    ·
     show Act.put _ (some 39) _ = _
     simp only [Act.put, List.setIfInBounds_toArray, List.set_cons_zero, List.set_cons_succ, i64_w, i32_w, IntKind.wrap_u32]
     rfl
    refine two_ (i := 2) (j := 4) (Ni := some 34) (Nj := some 36) #[true, true, true, true, false, true, true, true, false, false, false] #[true, true, false, true, true, true, true, true, false, false, false] rfl rfl rfl rfl (two_of HT_.out (by kernel_rfl)) (by decide) (by decide) (fun K hK => ?_) (fun K hK => ?_)
    ·
     skip
     refine goes_ Try.func13 (by kernel_rfl) rfl #[.int .i64 (n : Int)] (by rfl) rfl rfl (by simp only [List.map_toArray, List.map_cons, List.map_nil]; rfl) ?_
     with_reducible refine (credenzaref10_New.calls 200 (n : Int) _ _ _ (new_ref n HN.out)).mono ?_
     rintro e wn ⟨v0, v1, rfl, r0, r1, hb⟩
     refine ⟨_, rfl, ?_⟩
     have HB0 := HB
     replace P := aM (P.out.below hb)
     replace T := aM (T.out.below hb)
     replace HB := aM (below_step HB.out hb)
     try replace X := aM (X.out.below hb)
     try replace AA := aM (Kd.R_below AA.out hb)
     try replace DD := aM (Kd.R_below DD.out hb)
     try replace RD := aM (Kd.R_below RD.out hb)
     have X := aM (XAt.of (S := fun _ => True) (Kd.R_mono (Kd.R_lower r0 (below_size HB0.out)) (fun _ h_ => ⟨trivial, h_⟩)) (Kd.R_mono (Kd.R_lower r1 (below_size HB0.out)) (fun _ h_ => ⟨trivial, h_⟩)))
     clear r0 r1 hb HB0
     refine hK.out _ _ trivial (fun hHeld => ?_)
     clear hK K
     refine norm_ (a' := ?_) ?_ ?_
     rotate_left
     ·
      show Act.put _ (some 34) _ = _
      simp only [Act.put, List.setIfInBounds_toArray, List.set_cons_zero, List.set_cons_succ, i64_w, i32_w, IntKind.wrap_u32]
      rfl
     refine one_ (i := 4) (N := some 36) #[true, true, true, true, true, true, true, true, false, false, false] rfl rfl (one_of HT_.out (by kernel_rfl)) (by decide) (fun K hK => ?_)
     refine Kd.R_lit_step (Kd.raw 1) _ 59 (by rfl) rfl (xs := [[Value.pointer (some ⟨tb, 0, none⟩)]]) (inner := [Value.pointer (some ⟨tb, 0, none⟩)]) (ok := fun _ => True) (okp := fun _ => True) ?hr ?hp (fun _ hk => hk) trivial (Below.refl _ _) (Nat.le_refl _) (by simp) ?_
     (case hr => first | (go_simp; done) | (go_simp; rfl))
     (case hp => exact (Reps.one (show Kd.M (Kd.raw 1) _ _ _ [Value.pointer (some ⟨tb, 0, none⟩)] [Value.pointer (some ⟨tb, 0, none⟩)] from ⟨rfl, rfl, by simp [Value.oneCell']⟩) (Reps.none _ _)))
     intro av wn ho hb hg hat
     have HB0 := HB
     replace P := aM (P.out.below hb)
     replace T := aM (T.out.below hb)
     replace HB := aM (below_step HB.out hb)
     try replace X := aM (X.out.below hb)
     try replace AA := aM (Kd.R_below AA.out hb)
     try replace DD := aM (Kd.R_below DD.out hb)
     try replace RD := aM (Kd.R_below RD.out hb)
     have AA := aM (Kd.R_tight rfl (Kd.R_lower ho (below_size HB0.out)))
     clear ho hb hg hat HB0
     refine hK.out _ _ trivial (fun hHeld => ?_)
     clear hK K
     refine norm_ (a' := ?_) ?_ ?_
     rotate_left
     ·
      show Act.put _ (some 36) _ = _
      simp only [Act.put, List.setIfInBounds_toArray, List.set_cons_zero, List.set_cons_succ, i64_w, i32_w, IntKind.wrap_u32]
      rfl
     exact norm_ (by simp only [putAll, Act.put, List.setIfInBounds_toArray, List.set_cons_zero, List.set_cons_succ]) (hCont (v0, v1, av, Value.slice Ad (List.replicate m ([] : List Int)).length cd, rv) _ ⟨P, T, HB, X, AA, DD, RD⟩)
    ·
     skip
     refine Kd.R_lit_step (Kd.raw 1) _ 59 (by rfl) rfl (xs := [[Value.pointer (some ⟨tb, 0, none⟩)]]) (inner := [Value.pointer (some ⟨tb, 0, none⟩)]) (ok := fun _ => True) (okp := fun _ => True) ?hr ?hp (fun _ hk => hk) trivial (Below.refl _ _) (Nat.le_refl _) (by simp) ?_
     (case hr => first | (go_simp; done) | (go_simp; rfl))
     (case hp => exact (Reps.one (show Kd.M (Kd.raw 1) _ _ _ [Value.pointer (some ⟨tb, 0, none⟩)] [Value.pointer (some ⟨tb, 0, none⟩)] from ⟨rfl, rfl, by simp [Value.oneCell']⟩) (Reps.none _ _)))
     intro av wn ho hb hg hat
     have HB0 := HB
     replace P := aM (P.out.below hb)
     replace T := aM (T.out.below hb)
     replace HB := aM (below_step HB.out hb)
     try replace X := aM (X.out.below hb)
     try replace AA := aM (Kd.R_below AA.out hb)
     try replace DD := aM (Kd.R_below DD.out hb)
     try replace RD := aM (Kd.R_below RD.out hb)
     have AA := aM (Kd.R_tight rfl (Kd.R_lower ho (below_size HB0.out)))
     clear ho hb hg hat HB0
     refine hK.out _ _ trivial (fun hHeld => ?_)
     clear hK K
     refine norm_ (a' := ?_) ?_ ?_
     rotate_left
     ·
      show Act.put _ (some 36) _ = _
      simp only [Act.put, List.setIfInBounds_toArray, List.set_cons_zero, List.set_cons_succ, i64_w, i32_w, IntKind.wrap_u32]
      rfl
     refine one_ (i := 2) (N := some 34) #[true, true, true, true, true, true, true, true, false, false, false] rfl rfl (one_of HT_.out (by kernel_rfl)) (by decide) (fun K hK => ?_)
     refine goes_ Try.func13 (by kernel_rfl) rfl #[.int .i64 (n : Int)] (by rfl) rfl rfl (by simp only [List.map_toArray, List.map_cons, List.map_nil]; rfl) ?_
     with_reducible refine (credenzaref10_New.calls 200 (n : Int) _ _ _ (new_ref n HN.out)).mono ?_
     rintro e wn ⟨v0, v1, rfl, r0, r1, hb⟩
     refine ⟨_, rfl, ?_⟩
     have HB0 := HB
     replace P := aM (P.out.below hb)
     replace T := aM (T.out.below hb)
     replace HB := aM (below_step HB.out hb)
     try replace X := aM (X.out.below hb)
     try replace AA := aM (Kd.R_below AA.out hb)
     try replace DD := aM (Kd.R_below DD.out hb)
     try replace RD := aM (Kd.R_below RD.out hb)
     have X := aM (XAt.of (S := fun _ => True) (Kd.R_mono (Kd.R_lower r0 (below_size HB0.out)) (fun _ h_ => ⟨trivial, h_⟩)) (Kd.R_mono (Kd.R_lower r1 (below_size HB0.out)) (fun _ h_ => ⟨trivial, h_⟩)))
     clear r0 r1 hb HB0
     refine hK.out _ _ trivial (fun hHeld => ?_)
     clear hK K
     refine norm_ (a' := ?_) ?_ ?_
     rotate_left
     ·
      show Act.put _ (some 34) _ = _
      simp only [Act.put, List.setIfInBounds_toArray, List.set_cons_zero, List.set_cons_succ, i64_w, i32_w, IntKind.wrap_u32]
      rfl
     exact norm_ (by simp only [putAll, Act.put, List.setIfInBounds_toArray, List.set_cons_zero, List.set_cons_succ]) (hCont (v0, v1, av, Value.slice Ad (List.replicate m ([] : List Int)).length cd, rv) _ ⟨P, T, HB, X, AA, DD, RD⟩)
 clear P T HB
 rintro ⟨v0, v1, av, dv, rv⟩ w5 ⟨P, T, HB, X, AA, DD, RD⟩
 have hHeld : True := trivial
 dsimp only at X AA DD RD ⊢
 obtain ⟨A0, c0, rfl⟩ := Kd.R_slice X.out.r0
 obtain ⟨A1, c1, rfl⟩ := Kd.R_slice X.out.r1
 obtain ⟨A2, c2, rfl⟩ := Kd.R_slice AA.out
 obtain ⟨A3, c3, rfl⟩ := Kd.R_slice RD.out
 refine norm_ (a' := ?_) ?_ ?_
 rotate_left
 ·
  simp only [putAll, Act.put, List.setIfInBounds_toArray, List.set_cons_zero, List.set_cons_succ]
  rfl
 refine pure_ (i := 8) (N := some 40) (v := ?_) (a' := ?_) #[true, true, true, true, true, true, true, true, true, false, false] rfl rfl (any_of HT_.out (by kernel_rfl)) (fun _ _ _ h => h) (Or.inl ⟨by rfl, ?_⟩) ?_ ?_
 rotate_left; exact pI; rotate_left; exact pS
 refine one_ (i := 9) (N := some 41) #[true, true, true, true, true, true, true, true, true, true, false] rfl rfl (one_of HT_.out (by kernel_rfl)) (by decide) (fun K hK => ?_)
 refine box_step (by rfl) rfl (cs := #[.pointer (some ⟨g, 0, none⟩), .slice A0 (RR (List.replicate n ⟨0, 0, none⟩)).length c0, .slice A1 (MM (List.replicate n ⟨0, 0, none⟩)).length c1, .slice A2 1 c2, .slice A3 1 c3]) (t := 63) ?hr ?_
 (case hr => first | (go_simp; done) | (go_simp; rfl))
 intro pb hge w6 hbox hb
 have BP := aM hbox
 have GE := aM (show w.heap.size ≤ pb by rw [hge]; exact below_size HB.out)
 replace P := aM (P.out.below hb)
 replace T := aM (T.out.below hb)
 replace HB := aM (below_step HB.out hb)
 try replace X := aM (X.out.below hb)
 try replace AA := aM (Kd.R_below AA.out hb)
 try replace DD := aM (Kd.R_below DD.out hb)
 try replace RD := aM (Kd.R_below RD.out hb)
 clear hge hbox hb
 refine hK.out _ _ trivial (fun hHeld => ?_)
 clear hK K
 refine norm_ (a' := ?_) ?_ ?_
 rotate_left
 ·
  show Act.put _ (some 41) _ = _
  simp only [Act.put, List.setIfInBounds_toArray, List.set_cons_zero, List.set_cons_succ, i64_w, i32_w, IntKind.wrap_u32]
  rfl
 refine pure_ (i := 10) (N := some 4) (v := ?_) (a' := ?_) #[true, true, true, true, true, true, true, true, true, true, true] rfl rfl (any_of HT_.out (by kernel_rfl)) (fun _ _ _ h => h) (Or.inl ⟨by rfl, ?_⟩) ?_ ?_
 rotate_left; exact pI; rotate_left; exact pS
 refine done_ (done_of HT_.out (by kernel_rfl)) ?_
 try go_wp2
 go_ret
 have hT := T.out
 have hX := X.out
 have hD := DD.out
 have hR := RD.out
 obtain ⟨cst, htt⟩ := hT.hR.outer
 have ho : ∀ k, OwnR (some ⟨trb, 0, none⟩) (List.replicate m (.slice none 0 0)) k → k = trb := fun k h => OwnR.new h
 have hD28 : ∀ k, some k = Value.ownBlock dv → ∃ cs, w6.heap[k]? = some (.cells cs 28 (0, 0)) := fun k e => Kd.R_typed hD k e.symm
 have hR70 : ∀ k, some k = Value.ownBlock (.slice A3 [List.replicate m ([] : List Int)].length c3) → ∃ cs, w6.heap[k]? = some (.cells cs 70 (0, 0)) := fun k e => Kd.R_typed hR k e.symm
 refine ⟨fun k => if k = tb ∨ OwnR (some ⟨trb, 0, none⟩) (List.replicate m (.slice none 0 0)) k then 2 else if some k = Value.ownBlock (.slice A3 [List.replicate m ([] : List Int)].length c3) ∨ some k = Value.ownBlock dv then 1 else 0, pb, g, s, _, _, _, _, ⟨tb, some ⟨trb, 0, none⟩, m, List.replicate m (.slice none 0 0), List.replicate m []⟩, rfl, ⟨P.out, hX, BP.out, AA.out, Kd.R_mono hR (fun k hk => ?_), Kd.R_nil _ _ _ _ _, fun i t hi => ?_, fun i t hi => ?_, fun k hk => ?_, fun b cs hm => (by cases hm), HB.out, G.out, S.out, GE.out⟩, rfl⟩
 ·
  show (if _ then 2 else if _ then 1 else 0) = 1
  rw [if_neg, if_pos hk]
  rintro (rfl | h)
  ·
   rcases hk with hk | hk
   ·
    obtain ⟨cs, hc⟩ := hR70 _ hk
    exact blk_ne hc hT.ht (by decide) rfl
   ·
    obtain ⟨cs, hc⟩ := hD28 _ hk
    exact blk_ne hc hT.ht (by decide) rfl
  ·
   rcases hk with hk | hk
   ·
    obtain ⟨cs, hc⟩ := hR70 _ hk
    exact blk_ne hc htt (by decide) (ho k h)
   ·
    exact (hD.1 k hk.symm).2 h
 ·
  cases i with
  | zero => obtain rfl := Option.some.inj hi; exact hT
  | succ i => simp at hi
 ·
  cases i with
  | zero => obtain rfl := Option.some.inj hi; exact ⟨if_pos (.inl rfl), fun k hk => if_pos (.inr hk)⟩
  | succ i => simp at hi
 ·
  obtain ⟨cs, hc⟩ : ∃ cs, w6.heap[k]? = some (.cells cs 3 (0, 0)) := hk.elim hX.typed0 hX.typed1
  show (if _ then 2 else if _ then 1 else 0) = 0
  rw [if_neg, if_neg]
  ·
   rintro (h | h)
   ·
    obtain ⟨cs', hc'⟩ := hR70 _ h
    exact blk_ne hc hc' (by decide) rfl
   ·
    obtain ⟨cs', hc'⟩ := hD28 _ h
    exact blk_ne hc hc' (by decide) rfl
  ·
   rintro (rfl | h)
   ·
    exact blk_ne hc hT.ht (by decide) rfl
   ·
    exact blk_ne hc htt (by decide) (ho k h)
-- calls: credenzalaw11_awake credenzaref10_New credenzaref10_Pool_Put credenzaref10_Pool_Change credenzaref10_Pool_Free credenzalaw11_copied

end Go.Proofs.Ytoofkemhikigoaa.PBlockPlays
