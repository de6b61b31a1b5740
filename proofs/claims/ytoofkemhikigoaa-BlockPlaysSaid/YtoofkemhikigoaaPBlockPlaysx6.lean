-- Written by a program of this session (wip/tools/mkprint.py over the kit's print).
import Derived.Test.YtoofkemhikigoaaPBlockPlaysx0
import Derived.Test.YtoofkemhikigoaaPBlockPlaysx5
namespace Go.Proofs.Ytoofkemhikigoaa.PBlockPlays
open Go.RowKit Go.Proofs.YtoofkemhikigoaaW.PrintWords Go.Proofs.YtoofkemhikigoaaW.PrintLast Go.Proofs.YtoofkemhikigoaaW.PrintMore
attribute [local go_sem] max2_int min2_int max_two min_two max_three min_three max_four min_four   -- for this text's walks alone
set_option linter.unusedVariables false
set_option linter.unusedSimpArgs false

/-! ### credenzalaw11_awake: function 28 -/
theorem pS {p : Prop} (h : p := by simp only [Act.put, List.setIfInBounds_toArray, List.set_cons_zero, List.set_cons_succ, i64_w, i32_w, IntKind.wrap_u32]; rfl) : p := h
theorem aM {p : Prop} (h : p) : Aside0 p := ⟨h⟩
theorem pI {p : Prop} (h : p := by intro w'; go_simp; with_reducible rfl) : p := h
/-- A slot: how often it is held, its page's mark, the block in which its page lies. -/
structure Slot where
 refs : Int
 mark : Int
 pg : Option Nat
def Slot.ptr (x : Slot) : Value := .pointer (x.pg.map fun b => ⟨b, 0, none⟩)
def slotCells : List Slot → List Value
 | [] => []
 | x :: l => x.ptr :: .int .i32 x.refs :: slotCells l
theorem slotCells_0 : ∀ (l : List Slot) (i : Nat) (x : Slot), l[i]? = some x → (slotCells l)[i * 2]? = some x.ptr
 | [], i, x, h => by simp at h
 | y :: l, 0, x, h => by simp at h; subst h; rfl
 | y :: l, i + 1, x, h => by
  have h1 := slotCells_0 l i x (by simpa using h)
  rw [show (i + 1) * 2 = i * 2 + 1 + 1 from by omega]
  simpa [slotCells] using h1
theorem slotCells_1 : ∀ (l : List Slot) (i : Nat) (x : Slot), l[i]? = some x → (slotCells l)[i * 2 + 1]? = some (.int .i32 x.refs)
 | [], i, x, h => by simp at h
 | y :: l, 0, x, h => by simp at h; subst h; rfl
 | y :: l, i + 1, x, h => by
  have h1 := slotCells_1 l i x (by simpa using h)
  rw [show (i + 1) * 2 + 1 = i * 2 + 1 + 1 + 1 from by omega]
  simpa [slotCells] using h1
theorem slotCells_set0 (p : Option Nat) : ∀ (l : List Slot) (i : Nat) (x : Slot), l[i]? = some x → (slotCells l).set (i * 2) (.pointer (p.map fun b => ⟨b, 0, none⟩)) = slotCells (l.set i ⟨x.refs, x.mark, p⟩)
 | [], i, x, h => by simp at h
 | y :: l, 0, x, h => by simp at h; subst h; rfl
 | y :: l, i + 1, x, h => by
  have h1 := slotCells_set0 p l i x (by simpa using h)
  rw [show (i + 1) * 2 = i * 2 + 1 + 1 from by omega]
  simpa [slotCells] using h1
theorem slotCells_set1 (r : Int) : ∀ (l : List Slot) (i : Nat) (x : Slot), l[i]? = some x → (slotCells l).set (i * 2 + 1) (.int .i32 r) = slotCells (l.set i ⟨r, x.mark, x.pg⟩)
 | [], i, x, h => by simp at h
 | y :: l, 0, x, h => by simp at h; subst h; rfl
 | y :: l, i + 1, x, h => by
  have h1 := slotCells_set1 r l i x (by simpa using h)
  rw [show (i + 1) * 2 + 1 = i * 2 + 1 + 1 + 1 from by omega]
  simpa [slotCells] using h1
theorem slotCells_marks (m : Int) : ∀ (l : List Slot) (i : Nat) (x : Slot), l[i]? = some x → slotCells (l.set i ⟨x.refs, m, x.pg⟩) = slotCells l
 | [], i, x, h => by simp at h
 | y :: l, 0, x, h => by simp at h; subst h; rfl
 | y :: l, i + 1, x, h => by
  have h1 := slotCells_marks m l i x (by simpa using h)
  simpa [slotCells] using h1
theorem slotCells_zero : ∀ n : Nat, (madeCells #[.pointer none, .int .i32 0] (n * 2)).toList = slotCells (List.replicate n ⟨0, 0, none⟩)
 | 0 => by simp [madeCells, slotCells]
 | n + 1 => by
  have ih := slotCells_zero n
  simp only [madeCells, Array.toList_map, Array.toList_range] at ih ⊢
  have hs : ∀ (a : List Slot) (b : List Slot), slotCells (a ++ b) = slotCells a ++ slotCells b := by
   intro a b
   induction a with
   | nil => rfl
   | cons x a ih => simp [slotCells, ih]
  rw [show (n + 1) * 2 = n * 2 + 1 + 1 from by omega, List.range_succ, List.range_succ, List.map_append, List.map_append, ih, List.replicate_succ', hs]
  simp [slotCells, Slot.ptr, Nat.mul_mod_left, Nat.add_mod]
/-- A page with this mark lies at the head of block b. -/
def PgAt (W : World) (b : Nat) (m : Int) : Prop := ∃ h0 h1 h2 h3 h4 h5 : Int, W.cell? ⟨b, 0, none⟩ = some (.int .i64 h0) ∧ W.cell? ⟨b, 1, none⟩ = some (.int .i64 h1) ∧ W.cell? ⟨b, 2, none⟩ = some (.int .i64 h2) ∧ W.cell? ⟨b, 3, none⟩ = some (.int .i64 h3) ∧ W.cell? ⟨b, 4, none⟩ = some (.int .i64 h4) ∧ W.cell? ⟨b, 5, none⟩ = some (.int .i64 h5) ∧ W.cell? ⟨b, 6, none⟩ = some (.int .i64 m) ∧ ∃ cs, W.heap[b]? = some (.cells cs 96 (0, 0))
theorem PgAt.lt {W : World} {b : Nat} {m : Int} (h : PgAt W b m) : b < W.heap.size := by
 obtain ⟨h0, h1, h2, h3, h4, h5, e0, -⟩ := h
 exact World.block_lt_of_cell? W _ e0
theorem PgAt.same {W W' : World} {b : Nat} {m : Int} (h : PgAt W b m) (hb : W'.heap[b]? = W.heap[b]?) : PgAt W' b m := by
 obtain ⟨h0, h1, h2, h3, h4, h5, e0, e1, e2, e3, e4, e5, e6, cs, e7⟩ := h
 have hc : ∀ i, W'.cell? ⟨b, i, none⟩ = W.cell? ⟨b, i, none⟩ := fun i => World.cell?_of_block (w := W) (a := ⟨b, i, none⟩) hb
 exact ⟨h0, h1, h2, h3, h4, h5, (hc 0).trans e0, (hc 1).trans e1, (hc 2).trans e2, (hc 3).trans e3, (hc 4).trans e4, (hc 5).trans e5, (hc 6).trans e6, cs, hb.trans e7⟩
/-- A pool: its block g, its slots' block s. -/
structure PoolAt (W : World) (g s : Nat) (L : List Slot) (f : Int) : Prop where
 ne : g ≠ s
 hg : W.heap[g]? = some (.cells #[.slice (some ⟨s, 0, none⟩) L.length L.length, .int .i32 f] 77 (0, 0))
 hs : W.heap[s]? = some (.cells (slotCells L).toArray 88 (0, 0))
 hp : ∀ x ∈ L, x.refs ≠ 0 → ∃ b, x.pg = some b ∧ PgAt W b x.mark ∧ b ≠ g ∧ b ≠ s
 hn : L.length ≤ 16384
 hr : ∀ x ∈ L, 0 ≤ x.refs ∧ x.refs ≤ 1000000
 hf : -1000000 ≤ f ∧ f ≤ 1000000
/-- Nothing but the pool's blocks has turned. -/
structure Mv (g s : Nat) (W W' : World) : Prop where
 bel : ∀ B, B ≤ g → B ≤ s → B ≤ W.heap.size → Below B W W'
 kept : Kept W W' (fun k => k = g ∨ k = s)
theorem Mv.refl (g s : Nat) (W : World) : Mv g s W W := ⟨fun B _ _ _ => Below.refl B W, Kept.refl _ _⟩
theorem Mv.trans {g s : Nat} {a b c : World} (h : Mv g s a b) (k : Mv g s b c) : Mv g s a c :=
 ⟨fun B h1 h2 h3 => (h.bel B h1 h2 h3).trans (k.bel B h1 h2 (Nat.le_trans h3 h.kept.1)), h.kept.then_ k.kept (fun _ hk => .inl hk)⟩
theorem Mv.below {g s : Nat} {W W' : World} (h : Below W.heap.size W W') : Mv g s W W' := ⟨fun B _ _ h3 => h.mono h3, Kept.of_below h _⟩
theorem Mv.set {g s : Nat} {W : World} (b i : Nat) (hb : b = g ∨ b = s) (u : Value) : Mv g s W (W.setCell ⟨b, i, none⟩ u) :=
 ⟨fun B h1 h2 h3 => (Below.refl B W).setCell (p := ⟨b, i, none⟩) (by rcases hb with rfl | rfl <;> assumption) u, (Kept.refl W _).setCell (p := ⟨b, i, none⟩) (.inl hb) u⟩
theorem PoolAt.below {W W' : World} {g s : Nat} {L : List Slot} {f : Int} (h : PoolAt W g s L f) (hb : Below W.heap.size W W') : PoolAt W' g s L f :=
 ⟨h.ne, blk_below h.hg hb, blk_below h.hs hb, fun x hx hr => by obtain ⟨b, e, hp, n⟩ := h.hp x hx hr; exact ⟨b, e, hp.same (hb.block b hp.lt), n⟩, h.hn, h.hr, h.hf⟩
theorem PgAt.mv {g s : Nat} {W W' : World} {b : Nat} {m : Int} (h : PgAt W b m) (hm : Mv g s W W') (h1 : b ≠ g) (h2 : b ≠ s) : PgAt W' b m := h.same (hm.kept.2 b h.lt (fun e => e.elim h1 h2))
theorem PoolAt.free {W : World} {g s : Nat} {L : List Slot} {f : Int} (h : PoolAt W g s L f) (f' : Int) (hf : -1000000 ≤ f' ∧ f' ≤ 1000000) : PoolAt (W.setCell ⟨g, 1, none⟩ (.int .i32 f')) g s L f' :=
 have hm := Mv.set (g := g) (s := s) (W := W) g 1 (.inl rfl) (.int .i32 f')
 ⟨h.ne, blk_put h.hg 1 _ rfl, blk_far h.hs (p := ⟨g, 1, none⟩) (fun e => h.ne e.symm) _, fun x hx hr => by obtain ⟨b, e, hp, n1, n2⟩ := h.hp x hx hr; exact ⟨b, e, hp.mv hm n1 n2, n1, n2⟩, h.hn, h.hr, hf⟩
theorem PoolAt.refs {W : World} {g s : Nat} {L : List Slot} {f : Int} (h : PoolAt W g s L f) {i : Nat} {x : Slot} (hx : L[i]? = some x) (r : Int) (h0 : 0 ≤ r ∧ r ≤ 1000000) (hz : x.refs = 0 → r = 0) : PoolAt (W.setCell ⟨s, i * 2 + 1, none⟩ (.int .i32 r)) g s (L.set i ⟨r, x.mark, x.pg⟩) f := by
 have hm := Mv.set (g := g) (s := s) (W := W) s (i * 2 + 1) (.inr rfl) (.int .i32 r)
 refine ⟨h.ne, ?_, ?_, ?_, by simpa using h.hn, ?_, h.hf⟩
 ·
  rw [List.length_set]
  exact blk_far h.hg (p := ⟨s, i * 2 + 1, none⟩) h.ne _
 ·
  exact blk_put h.hs (i * 2 + 1) _ (by rw [← slotCells_set1 r L i x hx]; simp)
 ·
  intro y hy hr
  have hxm : x ∈ L := List.mem_of_getElem? hx
  rcases List.mem_or_eq_of_mem_set hy with hy | rfl
  ·
   obtain ⟨b, e, hp, n1, n2⟩ := h.hp y hy hr
   exact ⟨b, e, hp.mv hm n1 n2, n1, n2⟩
  ·
   obtain ⟨b, e, hp, n1, n2⟩ := h.hp x hxm (fun e => hr (hz e))
   exact ⟨b, e, hp.mv hm n1 n2, n1, n2⟩
 ·
  intro y hy
  rcases List.mem_or_eq_of_mem_set hy with hy | rfl
  ·
   exact h.hr y hy
  ·
   exact h0
set_option maxHeartbeats 8000000 in
set_option maxRecDepth 100000 in
theorem atomLoad.calls (b o : Nat) (v : Int) (w : World) (hc : w.cell? ⟨b, o, none⟩ = some (.int .i32 v)) :
  Calls Try.prog 44 #[.pointer (some ⟨b, o, none⟩)] w fun e w' => e = .returned (.int .i32 v) ∧ w = w' := by
 have hl := run_call_load (P := Try.prog) Try.func57 (by kernel_rfl) (by kernel_rfl) (by kernel_rfl) .i32 (by kernel_rfl) hc
 go_enter Try.func44, Try.ntmps44
 go_wp2
 go_ret
 exact ⟨rfl, rfl⟩
set_option maxHeartbeats 8000000 in
set_option maxRecDepth 100000 in
theorem atomStore.calls (b o : Nat) (v : Int) (u : Value) (w : World) (hc : w.cell? ⟨b, o, none⟩ = some u) (hz : w.frozen? ⟨b, o, none⟩ = false) :
  Calls Try.prog 40 #[.pointer (some ⟨b, o, none⟩), .int .i32 v] w fun e w' => e = .returned (.tuple #[]) ∧ w' = w.setCell ⟨b, o, none⟩ (.int .i32 v) := by
 have hl := run_call_store (P := Try.prog) Try.func55 (by kernel_rfl) (by kernel_rfl) (by kernel_rfl) (by kernel_rfl) (k := .i32) (y := v) hc hz
 go_enter Try.func40, Try.ntmps40
 go_wp2
 refine bodyPost_end (results_none rfl _ _ _) rfl ?_
 exact ⟨rfl, rfl⟩
set_option maxHeartbeats 8000000 in
set_option maxRecDepth 100000 in
theorem atomAdd.calls (b o : Nat) (v d : Int) (w : World) (hc : w.cell? ⟨b, o, none⟩ = some (.int .i32 v)) (hz : w.frozen? ⟨b, o, none⟩ = false) (hb : -2147483648 ≤ v + d ∧ v + d ≤ 2147483647) :
  Calls Try.prog 47 #[.pointer (some ⟨b, o, none⟩), .int .i32 d] w fun e w' => e = .returned (.int .i32 (v + d)) ∧ w' = w.setCell ⟨b, o, none⟩ (.int .i32 (v + d)) := by
 have hs : (Op.intArith .add .i32 v d).run Try.prog w = .ok (.int .i32 (v + d)) w := by
  have e : IntKind.i32.wrap (v + d) = v + d := by
   rw [IntKind.wrap_i32]
   omega
  simp [Op.intArith, e]
 have hl := run_call_add (P := Try.prog) Try.func59 (by kernel_rfl) (by kernel_rfl) (by kernel_rfl) .i32 (by kernel_rfl) hc hz hs
 go_enter Try.func47, Try.ntmps47
 go_wp2
 go_ret
 exact ⟨rfl, rfl⟩
set_option maxHeartbeats 8000000 in
set_option maxRecDepth 100000 in
theorem atomHit.calls (b o : Nat) (w : World) (hc : w.cell? ⟨b, o, none⟩ = some (.int .i32 0)) (hz : w.frozen? ⟨b, o, none⟩ = false) :
  Calls Try.prog 46 #[.pointer (some ⟨b, o, none⟩), .int .i32 0, .int .i32 1] w fun e w' => e = .returned (.bool true) ∧ w' = w.setCell ⟨b, o, none⟩ (.int .i32 1) := by
 have hl := run_call_cas_hit (P := Try.prog) Try.func58 (by kernel_rfl) (by kernel_rfl) (by kernel_rfl) .i32 (by kernel_rfl) (y := 1) hc hz
 go_enter Try.func46, Try.ntmps46
 go_wp2
 go_ret
 exact ⟨rfl, rfl⟩
set_option maxHeartbeats 8000000 in
set_option maxRecDepth 100000 in
theorem atomMiss.calls (b o : Nat) (v : Int) (w : World) (hc : w.cell? ⟨b, o, none⟩ = some (.int .i32 v)) (hz : w.frozen? ⟨b, o, none⟩ = false) (hv : ¬ v = 0) :
  Calls Try.prog 46 #[.pointer (some ⟨b, o, none⟩), .int .i32 0, .int .i32 1] w fun e w' => e = .returned (.bool false) ∧ w = w' := by
 have hl := run_call_cas_miss (P := Try.prog) Try.func58 (by kernel_rfl) (by kernel_rfl) (by kernel_rfl) .i32 (by kernel_rfl) (y := 1) hc hz hv
 go_enter Try.func46, Try.ntmps46
 go_wp2
 go_ret
 exact ⟨rfl, rfl⟩
theorem pool_made (n : Nat) (hn : n ≤ 16384) (W : World) : (Instr.makeSlice 71 (.int .i64 (n : Int)) (.int .i64 (n : Int))).run Try.prog W = .ok (.slice (some ⟨W.heap.size, 0, none⟩) n n) (W.alloc (.cells (slotCells (List.replicate n ⟨0, 0, none⟩)).toArray 88)) := by
 obtain ⟨i0, hi⟩ : ∃ i, Try.prog.info? 88 = some i := Option.isSome_iff_exists.mp (by kernel_rfl)
 have hb : (Try.prog.info? 88).map (fun i => (i.size, i.bytes)) = some (2, 16) := by kernel_rfl
 have hz : ((Try.prog.info? 88).bind (fun i => i.zero)) = some (.agg #[.pointer none, .int .i32 0]) := by kernel_rfl
 rw [hi] at hb hz
 have hb1 : i0.size = 2 := congrArg Prod.fst (Option.some.inj hb)
 have hb2 : i0.bytes = 16 := congrArg Prod.snd (Option.some.inj hb)
 have hr := run_make (P := Try.prog) W 71 88 i0 (.agg #[.pointer none, .int .i32 0]) Try.underlying71 hi hz .i64 .i64 (n : Int) (n : Int) (by omega) (Int.le_refl _) (by rw [hb2]; omega) (by omega)
 simp only [Int.toNat_natCast] at hr
 rw [hb1] at hr
 have e : madeCells (Value.agg #[.pointer none, .int .i32 0]).cells (n * 2) = (slotCells (List.replicate n ⟨0, 0, none⟩)).toArray := by
  have h := slotCells_zero n
  rw [← h]
  simp [Value.cells]
 rw [e] at hr
 exact hr
set_option maxHeartbeats 8000000 in
set_option maxRecDepth 100000 in
theorem poolNew.bad (n : Int) (hn : n < 0 ∨ 16384 < n) (w : World) :
  Calls Try.prog 12 #[.int .i64 n] w fun e w' => e = .returned (.tuple #[.pointer none, .int .i64 11]) ∧ w = w' := by
 by_cases c : n < 0
 ·
  have d1 : decide (n < 0) = true := decide_eq_true c
  go_enter Try.func12, Try.ntmps12
  go_wp2
  go_ret2
  exact ⟨rfl, rfl⟩
 ·
  have d1 : decide (n < 0) = false := decide_eq_false c
  have d2 : decide (16384 < n) = true := decide_eq_true (by omega)
  go_enter Try.func12, Try.ntmps12
  go_wp2
  go_ret2
  exact ⟨rfl, rfl⟩
set_option maxHeartbeats 8000000 in
set_option maxRecDepth 100000 in
theorem poolNew.calls (n : Nat) (hn : n ≤ 16384) (w : World) :
  Calls Try.prog 12 #[.int .i64 (n : Int)] w fun e w' => ∃ g s, e = .returned (.tuple #[.pointer (some ⟨g, 0, none⟩), .int .i64 0]) ∧ PoolAt w' g s (List.replicate n ⟨0, 0, none⟩) n ∧ w.heap.size ≤ g ∧ w.heap.size ≤ s ∧ Below w.heap.size w w' := by
 have d1 : decide ((n : Int) < 0) = false := decide_eq_false (by omega)
 have d2 : decide (16384 < (n : Int)) = false := decide_eq_false (by omega)
 have hmk := pool_made n hn w
 have hu77 := Try.underlying77
 go_enter Try.func12, Try.ntmps12
 go_upto_region 4 with (first | ((with_reducible refine gate_dst (N := 14) rfl ?_); refine box_event ?hg (N := 14) ?hd (cs := #[.slice (some ⟨w.heap.size, 0, none⟩) n n, .int .i32 0]) (t := 77) ?hr ?_; (case hd => rfl); (case hg => rfl); (case hr => first | (go_simp; done) | (go_simp; rfl)); intro g hg w1 hbox hb; have BK := aM hbox; have HB := aM hb; have HG := aM hg; clear hbox hb hg))
 have hlt : w.heap.size < (w.alloc (Obj.cells (slotCells (List.replicate n ⟨0, 0, none⟩)).toArray 88)).heap.size := by simp
 have hs := blk_below (blk_new w (.cells (slotCells (List.replicate n ⟨0, 0, none⟩)).toArray 88)) HB.out
 have hbel : Below w.heap.size w w1 := below_step (below_alloc (Below.refl w.heap.size w) _) HB.out
 have hP : PoolAt w1 g w.heap.size (List.replicate n ⟨0, 0, none⟩) 0 := ⟨by rw [HG.out]; omega, by rw [List.length_replicate]; exact BK.out, hs, fun x hx hr => absurd (by rw [(List.mem_replicate.mp hx).2]) hr, by rw [List.length_replicate]; exact hn, fun x hx => by rw [(List.mem_replicate.mp hx).2]; exact ⟨Int.le_refl _, by decide⟩, by omega⟩
 have hle : w.heap.size ≤ g := by rw [HG.out]; omega
 have hc := (blk_cell BK.out 1).trans rfl
 have hz := blk_frozen BK.out 1
 have HP := aM hP
 have HBL := aM hbel
 clear hs hlt hbel hP HB BK HG hmk
 have hcv : wrap32 (n : Int) = n := by simp only [wrap32]; omega
 go_wp2_with (first | (go_at_call 40; (refine (atomStore.calls g 1 _ _ w1 hc hz).mono ?_); rintro e w2 ⟨rfl, rfl⟩; skip))
 go_ret2
 exact ⟨g, w.heap.size, rfl, HP.out.free n (by omega), hle, Nat.le_refl _, HBL.out.setCell (p := ⟨g, 1, none⟩) hle _⟩

set_option maxHeartbeats 8000000 in
set_option maxRecDepth 100000 in
theorem held.calls (g s : Nat) (L : List Slot) (f : Int) (id : Nat) (x : Slot) (hx : L[id]? = some x) (hr : ¬ x.refs = 0) (W : World) (h : PoolAt W g s L f) :
  Calls Try.prog 45 #[.pointer (some ⟨g, 0, none⟩), .int .i64 (id : Int)] W fun e w' => e = .returned (.pointer (some ⟨s, id * 2, none⟩)) ∧ W = w' := by
 have hlt : id < L.length := (List.getElem?_eq_some_iff.mp hx).1
 have d1 : decide ((id : Int) < 0) = false := decide_eq_false (by omega)
 have d2 : decide ((L.length : Int) ≤ (id : Int)) = false := decide_eq_false (by omega)
 have d3 : decide (L.length ≤ id) = false := decide_eq_false (by omega)
 have d4 : (x.refs == 0) = false := beq_eq_false_iff_ne.mpr hr
 have c0 : W.cell? ⟨g, 0, none⟩ = some (.slice (some ⟨s, 0, none⟩) L.length L.length) := (blk_cell h.hg 0).trans rfl
 have c1 : W.cell? ⟨s, id * 2 + 1, none⟩ = some (.int .i32 x.refs) := (blk_cell h.hs _).trans (by rw [List.getElem?_toArray]; exact slotCells_1 L id x hx)
 have p1 : (0 : Int) ≤ (id : Int) := by omega
 have p2 : (id : Int) < (L.length : Int) := by omega
 clear h
 go_enter Try.func45, Try.ntmps45
 go_wp2_with (first | (go_at_call 44; (refine (atomLoad.calls s (id * 2 + 1) x.refs W c1).mono ?_); rintro e w2 ⟨rfl, rfl⟩; skip))
 go_ret
 exact ⟨rfl, rfl⟩
set_option maxHeartbeats 8000000 in
set_option maxRecDepth 100000 in
theorem heldNo.calls (g s : Nat) (L : List Slot) (f : Int) (id : Int) (hid : ∀ x, 0 ≤ id → L[id.toNat]? = some x → x.refs = 0) (W : World) (h : PoolAt W g s L f) :
  Calls Try.prog 45 #[.pointer (some ⟨g, 0, none⟩), .int .i64 id] W fun e w' => e = .returned (.pointer none) ∧ W = w' := by
 have c0 : W.cell? ⟨g, 0, none⟩ = some (.slice (some ⟨s, 0, none⟩) L.length L.length) := (blk_cell h.hg 0).trans rfl
 by_cases q1 : id < 0
 ·
  have d1 : decide (id < 0) = true := decide_eq_true q1
  go_enter Try.func45, Try.ntmps45
  go_wp2
  go_ret
  exact ⟨rfl, rfl⟩
 obtain ⟨n, rfl⟩ := Int.eq_ofNat_of_zero_le (Int.not_lt.mp q1)
 have d1 : decide ((n : Int) < 0) = false := decide_eq_false q1
 by_cases q2 : L.length ≤ n
 ·
  have d2 : decide ((L.length : Int) ≤ (n : Int)) = true := decide_eq_true (by omega)
  have d3 : decide (L.length ≤ n) = true := decide_eq_true q2
  go_enter Try.func45, Try.ntmps45
  go_wp2
  go_ret
  exact ⟨rfl, rfl⟩
 have hlt : n < L.length := by omega
 obtain ⟨x, hx⟩ : ∃ x, L[n]? = some x := ⟨_, List.getElem?_eq_getElem hlt⟩
 have hr := hid x (by omega) (by simpa using hx)
 have d2 : decide ((L.length : Int) ≤ (n : Int)) = false := decide_eq_false (by omega)
 have d3 : decide (L.length ≤ n) = false := decide_eq_false q2
 have c1 : W.cell? ⟨s, n * 2 + 1, none⟩ = some (.int .i32 x.refs) := (blk_cell h.hs _).trans (by rw [List.getElem?_toArray]; exact slotCells_1 L n x hx)
 rw [hr] at c1
 have p1 : (0 : Int) ≤ (n : Int) := by omega
 have p2 : (n : Int) < (L.length : Int) := by omega
 clear h
 go_enter Try.func45, Try.ntmps45
 go_wp2_with (first | (go_at_call 44; (refine (atomLoad.calls s (n * 2 + 1) 0 W c1).mono ?_); rintro e w2 ⟨rfl, rfl⟩; skip))
 go_ret
 exact ⟨rfl, rfl⟩
theorem bx7 {w : World} {g : Nat} {t : TypeId} {a0 a1 a2 a3 a4 a5 a6 : Value} (h : w.heap[g]? = some (.cells #[a0, a1, a2, a3, a4, a5, a6] t (0, 0))) : w.cell? ⟨g, 0, none⟩ = some a0 ∧ w.cell? ⟨g, 1, none⟩ = some a1 ∧ w.cell? ⟨g, 2, none⟩ = some a2 ∧ w.cell? ⟨g, 3, none⟩ = some a3 ∧ w.cell? ⟨g, 4, none⟩ = some a4 ∧ w.cell? ⟨g, 5, none⟩ = some a5 ∧ w.cell? ⟨g, 6, none⟩ = some a6 ∧ (∀ i, w.frozen? ⟨g, i, none⟩ = false) := ⟨(blk_cell h 0).trans rfl, (blk_cell h 1).trans rfl, (blk_cell h 2).trans rfl, (blk_cell h 3).trans rfl, (blk_cell h 4).trans rfl, (blk_cell h 5).trans rfl, (blk_cell h 6).trans rfl, blk_frozen h⟩
set_option maxHeartbeats 8000000 in
set_option maxRecDepth 100000 in
theorem poolFree.calls (g s : Nat) (L : List Slot) (f : Int) (W : World) (h : PoolAt W g s L f) :
  Calls Try.prog 15 #[.pointer (some ⟨g, 0, none⟩)] W fun e w' => e = .returned (.int .i64 f) ∧ W = w' := by
 have c1 : W.cell? ⟨g, 1, none⟩ = some (.int .i32 f) := (blk_cell h.hg 1).trans rfl
 have hw : wrap64 f = f := by have := h.hf; simp only [wrap64]; omega
 clear h
 go_enter Try.func15, Try.ntmps15
 go_wp2_with (first | (go_at_call 44; (refine (atomLoad.calls g 1 f W c1).mono ?_); rintro e w2 ⟨rfl, rfl⟩; skip))
 go_ret
 exact ⟨by simp [*], rfl⟩
set_option maxHeartbeats 8000000 in
set_option maxRecDepth 100000 in
theorem poolSlots.calls (g s : Nat) (L : List Slot) (f : Int) (W : World) (h : PoolAt W g s L f) :
  Calls Try.prog 17 #[.pointer (some ⟨g, 0, none⟩)] W fun e w' => e = .returned (.int .i64 L.length) ∧ W = w' := by
 have c0 : W.cell? ⟨g, 0, none⟩ = some (.slice (some ⟨s, 0, none⟩) L.length L.length) := (blk_cell h.hg 0).trans rfl
 clear h
 go_enter Try.func17, Try.ntmps17
 go_wp2
 go_ret
 exact ⟨rfl, rfl⟩
set_option maxHeartbeats 8000000 in
set_option maxRecDepth 100000 in
theorem poolGet.calls (g s : Nat) (L : List Slot) (f : Int) (id : Nat) (x : Slot) (b : Nat) (hx : L[id]? = some x) (hr : ¬ x.refs = 0) (hb : x.pg = some b) (W : World) (h : PoolAt W g s L f) :
  Calls Try.prog 24 #[.pointer (some ⟨g, 0, none⟩), .int .i64 (id : Int)] W fun e w' => e = .returned (.tuple #[.pointer (some ⟨b, 0, none⟩), .int .i64 0]) ∧ W = w' := by
 have c1 : W.cell? ⟨s, id * 2, none⟩ = some (.pointer (some ⟨b, 0, none⟩)) := (blk_cell h.hs _).trans (by rw [List.getElem?_toArray, slotCells_0 L id x hx, Slot.ptr, hb]; rfl)
 have H := aM h
 clear h
 go_enter Try.func24, Try.ntmps24
 go_wp2_with (first | (go_at_call 45; (refine (held.calls g s L f id x hx hr W H.out).mono ?_); rintro e w2 ⟨rfl, rfl⟩; skip))
 go_ret2
 exact ⟨rfl, rfl⟩
set_option maxHeartbeats 8000000 in
set_option maxRecDepth 100000 in
theorem poolGetNo.calls (g s : Nat) (L : List Slot) (f : Int) (id : Int) (hid : ∀ x, 0 ≤ id → L[id.toNat]? = some x → x.refs = 0) (W : World) (h : PoolAt W g s L f) :
  Calls Try.prog 24 #[.pointer (some ⟨g, 0, none⟩), .int .i64 id] W fun e w' => e = .returned (.tuple #[.pointer none, .int .i64 14]) ∧ W = w' := by
 have H := aM h
 have HI := aM hid
 clear h hid
 go_enter Try.func24, Try.ntmps24
 go_wp2_with (first | (go_at_call 45; (refine (heldNo.calls g s L f id HI.out W H.out).mono ?_); rintro e w2 ⟨rfl, rfl⟩; skip))
 go_ret2
 exact ⟨rfl, rfl⟩
set_option maxHeartbeats 8000000 in
set_option maxRecDepth 100000 in
theorem poolRefs.calls (g s : Nat) (L : List Slot) (f : Int) (id : Nat) (x : Slot) (hx : L[id]? = some x) (hr : ¬ x.refs = 0) (W : World) (h : PoolAt W g s L f) :
  Calls Try.prog 26 #[.pointer (some ⟨g, 0, none⟩), .int .i64 (id : Int)] W fun e w' => e = .returned (.int .i64 x.refs) ∧ W = w' := by
 have c1 : W.cell? ⟨s, id * 2 + 1, none⟩ = some (.int .i32 x.refs) := (blk_cell h.hs _).trans (by rw [List.getElem?_toArray]; exact slotCells_1 L id x hx)
 have hw : wrap64 x.refs = x.refs := by have := h.hr x (List.mem_of_getElem? hx); simp only [wrap64]; omega
 have H := aM h
 clear h
 go_enter Try.func26, Try.ntmps26
 go_wp2_with (first | (go_at_call 45; (refine (held.calls g s L f id x hx hr W H.out).mono ?_); rintro e w2 ⟨rfl, rfl⟩; skip) | (go_at_call 44; (refine (atomLoad.calls s (id * 2 + 1) x.refs W c1).mono ?_); rintro e w2 ⟨rfl, rfl⟩; skip))
 go_ret
 exact ⟨by simp [*], rfl⟩
set_option maxHeartbeats 8000000 in
set_option maxRecDepth 100000 in
theorem poolRefsNo.calls (g s : Nat) (L : List Slot) (f : Int) (id : Int) (hid : ∀ x, 0 ≤ id → L[id.toNat]? = some x → x.refs = 0) (W : World) (h : PoolAt W g s L f) :
  Calls Try.prog 26 #[.pointer (some ⟨g, 0, none⟩), .int .i64 id] W fun e w' => e = .returned (.int .i64 0) ∧ W = w' := by
 have H := aM h
 have HI := aM hid
 clear h hid
 go_enter Try.func26, Try.ntmps26
 go_wp2_with (first | (go_at_call 45; (refine (heldNo.calls g s L f id HI.out W H.out).mono ?_); rintro e w2 ⟨rfl, rfl⟩; skip))
 go_ret
 exact ⟨rfl, rfl⟩
set_option maxHeartbeats 8000000 in
set_option maxRecDepth 100000 in
theorem poolHold.calls (g s : Nat) (L : List Slot) (f : Int) (id : Nat) (x : Slot) (hx : L[id]? = some x) (hr : ¬ x.refs = 0) (hm : x.refs ≤ 999999) (W : World) (h : PoolAt W g s L f) :
  Calls Try.prog 23 #[.pointer (some ⟨g, 0, none⟩), .int .i64 (id : Int)] W fun e w' => e = .returned (.int .i64 0) ∧ PoolAt w' g s (L.set id ⟨x.refs + 1, x.mark, x.pg⟩) f ∧ Mv g s W w' := by
 have c1 : W.cell? ⟨s, id * 2 + 1, none⟩ = some (.int .i32 x.refs) := (blk_cell h.hs _).trans (by rw [List.getElem?_toArray]; exact slotCells_1 L id x hx)
 have z1 := blk_frozen h.hs (id * 2 + 1)
 have hb := h.hr x (List.mem_of_getElem? hx)
 have H := aM h
 have H1 := aM (h.refs hx (x.refs + 1) (by omega) (fun e => absurd e hr))
 clear h
 go_enter Try.func23, Try.ntmps23
 go_wp2_with (first | (go_at_call 45; (refine (held.calls g s L f id x hx hr W H.out).mono ?_); rintro e w2 ⟨rfl, rfl⟩; skip) | (go_at_call 47; (refine (atomAdd.calls s (id * 2 + 1) x.refs 1 W c1 z1 (by omega)).mono ?_); rintro e w2 ⟨rfl, rfl⟩; skip))
 go_ret
 exact ⟨rfl, H1.out, Mv.set s (id * 2 + 1) (.inr rfl) _⟩
set_option maxHeartbeats 8000000 in
set_option maxRecDepth 100000 in
theorem poolHoldNo.calls (g s : Nat) (L : List Slot) (f : Int) (id : Int) (hid : ∀ x, 0 ≤ id → L[id.toNat]? = some x → x.refs = 0) (W : World) (h : PoolAt W g s L f) :
  Calls Try.prog 23 #[.pointer (some ⟨g, 0, none⟩), .int .i64 id] W fun e w' => e = .returned (.int .i64 14) ∧ W = w' := by
 have H := aM h
 have HI := aM hid
 clear h hid
 go_enter Try.func23, Try.ntmps23
 go_wp2_with (first | (go_at_call 45; (refine (heldNo.calls g s L f id HI.out W H.out).mono ?_); rintro e w2 ⟨rfl, rfl⟩; skip))
 go_ret
 exact ⟨rfl, rfl⟩
set_option maxHeartbeats 8000000 in
set_option maxRecDepth 100000 in
theorem poolDropNo.calls (g s : Nat) (L : List Slot) (f : Int) (id : Int) (hid : ∀ x, 0 ≤ id → L[id.toNat]? = some x → x.refs = 0) (W : World) (h : PoolAt W g s L f) :
  Calls Try.prog 27 #[.pointer (some ⟨g, 0, none⟩), .int .i64 id] W fun e w' => e = .returned (.int .i64 14) ∧ W = w' := by
 have H := aM h
 have HI := aM hid
 clear h hid
 go_enter Try.func27, Try.ntmps27
 go_wp2_with (first | (go_at_call 45; (refine (heldNo.calls g s L f id HI.out W H.out).mono ?_); rintro e w2 ⟨rfl, rfl⟩; skip))
 go_ret
 exact ⟨rfl, rfl⟩
set_option maxHeartbeats 8000000 in
set_option maxRecDepth 100000 in
/-- A page's head: its mark. -/
theorem poolHead.calls (b : Nat) (m : Int) (W : World) (h : PgAt W b m) :
  Calls Try.prog 25 #[.pointer (some ⟨b, 0, none⟩)] W fun e w' => ∃ h0 h1 h2 h3 h4 h5 : Int, e = .returned (.agg #[.int .i64 h0, .int .i64 h1, .int .i64 h2, .int .i64 h3, .int .i64 h4, .int .i64 h5, .int .i64 m]) ∧ Below W.heap.size W w' := by
 obtain ⟨h0, h1, h2, h3, h4, h5, e0, e1, e2, e3, e4, e5, e6, -⟩ := h
 have hl := World.block_lt_of_cell? W _ e0
 have hu48 := Try.underlying48
 have HB := aM (Below.refl W.heap.size W)
 go_enter Try.func25, Try.ntmps25
 go_wp2_with (first | ((with_reducible refine gate_dst (N := 2) rfl ?_); refine box_event ?hg (N := 2) ?hd (cs := #[.int .i64 0, .int .i64 0, .int .i64 0, .int .i64 0, .int .i64 0, .int .i64 0, .int .i64 0]) (t := 48) ?hr ?_; (case hd => rfl); (case hg => rfl); (case hr => first | (go_simp; done) | (go_simp; rfl)); intro gx hg w3 hbox hb; have HX := aM hbox; have GE := aM (by rw [hg]; exact (below_size HB.out) : W.heap.size ≤ gx); have hc : ∀ i, w3.cell? ⟨b, i, none⟩ = W.cell? ⟨b, i, none⟩ := (fun i => hb.cell (p := ⟨b, i, none⟩) hl); rw [← hc] at e0 e1 e2 e3 e4 e5 e6; replace HB := aM (below_step HB.out hb); have hz := bx7 hbox; clear hbox hb hg hc))
 refine bodyPost_ret (results_cell_row rfl _ _ gx 48 #[.int .i64 h0, .int .i64 h1, .int .i64 h2, .int .i64 h3, .int .i64 h4, .int .i64 h5, .int .i64 m] (0, 0) _ rfl (blk_put (blk_put (blk_put (blk_put (blk_put (blk_put (blk_put HX.out 0 (.int .i64 h0) rfl) 1 (.int .i64 h1) rfl) 2 (.int .i64 h2) rfl) 3 (.int .i64 h3) rfl) 4 (.int .i64 h4) rfl) 5 (.int .i64 h5) rfl) 6 (.int .i64 m) rfl) Try.underlying48 rfl (by kernel_rfl)) rfl ?_
 exact ⟨⟨h0, h1, h2, h3, h4, h5, rfl⟩, by repeat (first | (with_reducible exact HB.out) | with_reducible refine below_set ?_ GE.out)⟩

theorem PoolAt.dropped {W : World} {g s : Nat} {L : List Slot} {f : Int} (h : PoolAt W g s L f) {i : Nat} {x : Slot} (hx : L[i]? = some x) (hf : -1000000 ≤ f + 1 ∧ f + 1 ≤ 1000000) : PoolAt (((W.setCell ⟨s, i * 2, none⟩ (.pointer none)).setCell ⟨g, 1, none⟩ (.int .i32 (f + 1))).setCell ⟨s, i * 2 + 1, none⟩ (.int .i32 0)) g s (L.set i ⟨0, x.mark, none⟩) (f + 1) ∧ Mv g s W (((W.setCell ⟨s, i * 2, none⟩ (.pointer none)).setCell ⟨g, 1, none⟩ (.int .i32 (f + 1))).setCell ⟨s, i * 2 + 1, none⟩ (.int .i32 0)) := by
 have hm := ((Mv.set (g := g) (s := s) (W := W) s (i * 2) (.inr rfl) (.pointer none)).trans (Mv.set g 1 (.inl rfl) (.int .i32 (f + 1)))).trans (Mv.set s (i * 2 + 1) (.inr rfl) (.int .i32 0))
 have hlt := (List.getElem?_eq_some_iff.mp hx).1
 have e0 := slotCells_set0 none L i x hx
 have hx1 : (L.set i ⟨x.refs, x.mark, none⟩)[i]? = some ⟨x.refs, x.mark, none⟩ := by rw [List.getElem?_set_self hlt]
 have e1 := slotCells_set1 0 _ i _ hx1
 rw [List.set_set] at e1
 refine ⟨⟨h.ne, ?_, ?_, ?_, by simpa using h.hn, ?_, hf⟩, hm⟩
 ·
  rw [List.length_set]
  exact blk_far (blk_put (blk_far h.hg (p := ⟨s, i * 2, none⟩) h.ne _) 1 _ rfl) (p := ⟨s, i * 2 + 1, none⟩) h.ne _
 ·
  exact blk_put (blk_far (blk_put h.hs (i * 2) _ (cs' := (slotCells (L.set i ⟨x.refs, x.mark, none⟩)).toArray) (by rw [← e0]; simp)) (p := ⟨g, 1, none⟩) (fun e => h.ne e.symm) _) (i * 2 + 1) _ (by rw [← e1]; simp)
 ·
  intro y hy hr
  rcases List.mem_or_eq_of_mem_set hy with hy | rfl
  ·
   obtain ⟨b, e, hp, n1, n2⟩ := h.hp y hy hr
   exact ⟨b, e, hp.mv hm n1 n2, n1, n2⟩
  ·
   exact absurd rfl hr
 ·
  intro y hy
  rcases List.mem_or_eq_of_mem_set hy with hy | rfl
  ·
   exact h.hr y hy
  ·
   exact ⟨Int.le_refl _, by show (0 : Int) ≤ 1000000; decide⟩
theorem PoolAt.put {W : World} {g s : Nat} {L : List Slot} {f : Int} (h : PoolAt W g s L f) {i : Nat} {x : Slot} (hx : L[i]? = some x) {b : Nat} {m : Int} (hp : PgAt W b m) (n1 : b ≠ g) (n2 : b ≠ s) (hf : -1000000 ≤ f + -1 ∧ f + -1 ≤ 1000000) : PoolAt (((W.setCell ⟨s, i * 2 + 1, none⟩ (.int .i32 1)).setCell ⟨s, i * 2, none⟩ (.pointer (some ⟨b, 0, none⟩))).setCell ⟨g, 1, none⟩ (.int .i32 (f + -1))) g s (L.set i ⟨1, m, some b⟩) (f + -1) ∧ Mv g s W (((W.setCell ⟨s, i * 2 + 1, none⟩ (.int .i32 1)).setCell ⟨s, i * 2, none⟩ (.pointer (some ⟨b, 0, none⟩))).setCell ⟨g, 1, none⟩ (.int .i32 (f + -1))) := by
 have hm := ((Mv.set (g := g) (s := s) (W := W) s (i * 2 + 1) (.inr rfl) (.int .i32 1)).trans (Mv.set s (i * 2) (.inr rfl) (.pointer (some ⟨b, 0, none⟩)))).trans (Mv.set g 1 (.inl rfl) (.int .i32 (f + -1)))
 have hlt := (List.getElem?_eq_some_iff.mp hx).1
 have e0 := slotCells_set1 1 L i x hx
 have hx1 : (L.set i ⟨1, x.mark, x.pg⟩)[i]? = some ⟨1, x.mark, x.pg⟩ := by rw [List.getElem?_set_self hlt]
 have e1 := slotCells_set0 (some b) _ i _ hx1
 rw [List.set_set] at e1
 have hx2 : (L.set i ⟨1, x.mark, some b⟩)[i]? = some ⟨1, x.mark, some b⟩ := by rw [List.getElem?_set_self hlt]
 have e2 := slotCells_marks m _ i _ hx2
 rw [List.set_set] at e2
 refine ⟨⟨h.ne, ?_, ?_, ?_, by simpa using h.hn, ?_, hf⟩, hm⟩
 ·
  rw [List.length_set]
  exact blk_put (blk_far (blk_far h.hg (p := ⟨s, i * 2 + 1, none⟩) h.ne _) (p := ⟨s, i * 2, none⟩) h.ne _) 1 _ rfl
 ·
  refine blk_far ?_ (p := ⟨g, 1, none⟩) (fun e => h.ne e.symm) _
  exact blk_put (blk_put h.hs (i * 2 + 1) _ (cs' := (slotCells (L.set i ⟨1, x.mark, x.pg⟩)).toArray) (by rw [← e0]; simp)) (i * 2) _ (by rw [e2, ← e1]; simp)
 ·
  intro y hy hr
  rcases List.mem_or_eq_of_mem_set hy with hy | rfl
  ·
   obtain ⟨b, e, hp, n1, n2⟩ := h.hp y hy hr
   exact ⟨b, e, hp.mv hm n1 n2, n1, n2⟩
  ·
   exact ⟨b, rfl, hp.mv hm n1 n2, n1, n2⟩
 ·
  intro y hy
  rcases List.mem_or_eq_of_mem_set hy with hy | rfl
  ·
   exact h.hr y hy
  ·
   exact ⟨by show (0 : Int) ≤ 1; decide, by show (1 : Int) ≤ 1000000; decide⟩
/-- A slot that is held once less. -/
def Slot.less (x : Slot) : Slot := if x.refs = 1 then ⟨0, x.mark, none⟩ else ⟨x.refs + -1, x.mark, x.pg⟩
set_option maxHeartbeats 8000000 in
set_option maxRecDepth 100000 in
theorem poolDrop.calls (g s : Nat) (L : List Slot) (f : Int) (id : Nat) (x : Slot) (hx : L[id]? = some x) (hr : ¬ x.refs = 0) (hf : f ≤ 999999) (W : World) (h : PoolAt W g s L f) :
  Calls Try.prog 27 #[.pointer (some ⟨g, 0, none⟩), .int .i64 (id : Int)] W fun e w' => e = .returned (.int .i64 0) ∧ PoolAt w' g s (L.set id x.less) (if x.refs = 1 then f + 1 else f) ∧ Mv g s W w' := by
 have c1 : W.cell? ⟨s, id * 2 + 1, none⟩ = some (.int .i32 x.refs) := (blk_cell h.hs _).trans (by rw [List.getElem?_toArray]; exact slotCells_1 L id x hx)
 have c0 : W.cell? ⟨s, id * 2, none⟩ = some x.ptr := (blk_cell h.hs _).trans (by rw [List.getElem?_toArray]; exact slotCells_0 L id x hx)
 have z0 := blk_frozen h.hs (id * 2)
 have z1 := blk_frozen h.hs (id * 2 + 1)
 have z2 := blk_frozen h.hg 1
 have c2 : W.cell? ⟨g, 1, none⟩ = some (.int .i32 f) := (blk_cell h.hg 1).trans rfl
 have hb := h.hr x (List.mem_of_getElem? hx)
 have hff := h.hf
 have hne := h.ne
 have H := aM h
 unfold Slot.less
 by_cases hq : x.refs = 1
 ·
  rw [if_pos hq, if_pos hq]
  have H1 := aM (h.dropped hx (by omega))
  have d1 : (x.refs == 1) = true := beq_iff_eq.mpr hq
  clear h
  have c2' : (W.setCell ⟨s, id * 2, none⟩ (.pointer none)).cell? ⟨g, 1, none⟩ = some (.int .i32 f) := (World.cell?_of_block (w := W) (a := ⟨g, 1, none⟩) (Below.heap_setCell W ⟨s, id * 2, none⟩ _ g hne)).trans c2
  have z2' : (W.setCell ⟨s, id * 2, none⟩ (.pointer none)).frozen? ⟨g, 1, none⟩ = false := (World.frozen?_of_block (w := W) (a := ⟨g, 1, none⟩) (Below.heap_setCell W ⟨s, id * 2, none⟩ _ g hne)).trans z2
  have hs' := blk_far (blk_put (H.out).hs (id * 2) (.pointer none) rfl) (p := ⟨g, 1, none⟩) (fun e => hne e.symm) (.int .i32 (f + 1))
  have c1' : ((W.setCell ⟨s, id * 2, none⟩ (.pointer none)).setCell ⟨g, 1, none⟩ (.int .i32 (f + 1))).cell? ⟨s, id * 2 + 1, none⟩ = some (.int .i32 1) := (blk_cell hs' _).trans (by rw [Array.getElem?_setIfInBounds_ne (by omega), List.getElem?_toArray, ← hq]; exact slotCells_1 L id x hx)
  have z1' := blk_frozen hs' (id * 2 + 1)
  rw [hq] at c1
  rw [Slot.ptr] at c0
  clear hs'
  go_enter Try.func27, Try.ntmps27
  go_wp2_with (first | (go_at_call 45; (refine (held.calls g s L f id x hx hr W H.out).mono ?_); rintro e w2 ⟨rfl, rfl⟩; skip) | (go_at_call 44; (refine (atomLoad.calls s (id * 2 + 1) 1 W c1).mono ?_); rintro e w2 ⟨rfl, rfl⟩; skip) | (go_at_call 47; (refine (atomAdd.calls g 1 f 1 _ c2' z2' (by omega)).mono ?_); clear c2'; rintro e w2 ⟨rfl, rfl⟩; skip) | (go_at_call 47; (refine (atomAdd.calls s (id * 2 + 1) 1 (-1) _ c1' z1' (by omega)).mono ?_); rintro e w2 ⟨rfl, rfl⟩; skip))
  go_ret
  exact ⟨rfl, H1.out.1, H1.out.2⟩
 ·
  rw [if_neg hq, if_neg hq]
  have d1 : (x.refs == 1) = false := beq_eq_false_iff_ne.mpr hq
  have H1 := aM (h.refs hx (x.refs + -1) (by omega) (fun e => absurd e hr))
  clear h
  go_enter Try.func27, Try.ntmps27
  go_wp2_with (first | (go_at_call 45; (refine (held.calls g s L f id x hx hr W H.out).mono ?_); rintro e w2 ⟨rfl, rfl⟩; skip) | (go_at_call 44; (refine (atomLoad.calls s (id * 2 + 1) x.refs W c1).mono ?_); rintro e w2 ⟨rfl, rfl⟩; skip) | (go_at_call 47; (refine (atomAdd.calls s (id * 2 + 1) x.refs (-1) W c1 z1 (by omega)).mono ?_); rintro e w2 ⟨rfl, rfl⟩; skip))
  go_ret
  exact ⟨rfl, H1.out, Mv.set s (id * 2 + 1) (.inr rfl) _⟩
set_option maxHeartbeats 8000000 in
set_option maxRecDepth 100000 in
theorem poolPutFull.calls (g s : Nat) (L : List Slot) (f : Int) (p : Option Addr) (hfull : ∀ x ∈ L, ¬ x.refs = 0) (W : World) (h : PoolAt W g s L f) :
  Calls Try.prog 21 #[.pointer (some ⟨g, 0, none⟩), .pointer p] W fun e w' => e = .returned (.tuple #[.int .i64 0, .int .i64 23]) ∧ W = w' := by
 have c0 : W.cell? ⟨g, 0, none⟩ = some (.slice (some ⟨s, 0, none⟩) L.length L.length) := (blk_cell h.hg 0).trans rfl
 have HS := aM h.hs
 have HN := aM h.hn
 have HF := aM hfull
 clear h hfull
 go_enter Try.func21, Try.ntmps21
 go_wp2
 go_loopw [13] (fun i W' => ∃ n : Nat, n ≤ L.length ∧ i = .int .i64 n ∧ Aside0 (W = W')) (fun i _ => L.length - (intOf i).toNat)
 case atStart => exact ⟨0, Nat.zero_le _, rfl, ⟨rfl⟩⟩
 case round =>
  obtain ⟨n, hn, rfl, HW⟩ := hrel
  obtain rfl := HW.out
  by_cases q : n < L.length
  ·
   have d1 : decide ((n : Int) < (L.length : Int)) = true := decide_eq_true (by omega)
   have d2 : decide (n < L.length) = true := decide_eq_true q
   have p0 : (0 : Int) ≤ (n : Int) := by omega
   have p1 : (n : Int) < (L.length : Int) := by omega
   obtain ⟨x, hx⟩ : ∃ x, L[n]? = some x := ⟨_, List.getElem?_eq_getElem q⟩
   have hr := HF.out x (List.mem_of_getElem? hx)
   have c1 : W.cell? ⟨s, n * 2 + 1, none⟩ = some (.int .i32 x.refs) := (blk_cell HS.out _).trans (by rw [List.getElem?_toArray]; exact slotCells_1 L n x hx)
   have z1 := blk_frozen HS.out (n * 2 + 1)
   have hw : wrap64 ((n : Int) + 1) = (n : Int) + 1 := by have := HN.out; simp only [wrap64]; omega
   go_wp2_with (first | (go_at_call 46; (refine (atomMiss.calls s (n * 2 + 1) x.refs W c1 z1 hr).mono ?_); rintro e w2 ⟨rfl, rfl⟩; skip))
   rw [hw]; exact ⟨⟨n + 1, by omega, rfl, ⟨trivial⟩⟩, by simp only [intOf]; omega⟩
  ·
   have d1 : decide ((n : Int) < (L.length : Int)) = false := decide_eq_false (by omega)
   have d2 : decide (n < L.length) = false := decide_eq_false q
   go_wp2
   go_ret2
   exact ⟨rfl, rfl⟩
set_option maxHeartbeats 8000000 in
set_option maxRecDepth 100000 in
theorem poolPut.calls (g s : Nat) (L : List Slot) (f : Int) (b : Nat) (m : Int) (k : Nat) (y : Slot) (hk : L[k]? = some y) (hy : y.refs = 0) (hbef : ∀ j x, j < k → L[j]? = some x → ¬ x.refs = 0) (W : World) (h : PoolAt W g s L f) (hp : PgAt W b m) (n1 : b ≠ g) (n2 : b ≠ s) (hf : -999999 ≤ f) :
  Calls Try.prog 21 #[.pointer (some ⟨g, 0, none⟩), .pointer (some ⟨b, 0, none⟩)] W fun e w' => e = .returned (.tuple #[.int .i64 (k : Int), .int .i64 0]) ∧ PoolAt w' g s (L.set k ⟨1, m, some b⟩) (f + -1) ∧ Mv g s W w' := by
 have c0 : W.cell? ⟨g, 0, none⟩ = some (.slice (some ⟨s, 0, none⟩) L.length L.length) := (blk_cell h.hg 0).trans rfl
 have HS := aM h.hs
 have HN := aM h.hn
 have HF := aM hbef
 have hff := h.hf
 have H1 := aM (h.put hk hp n1 n2 (by omega))
 have hkl := (List.getElem?_eq_some_iff.mp hk).1
 have hc1 : W.cell? ⟨s, k * 2 + 1, none⟩ = some (.int .i32 0) := (blk_cell h.hs _).trans (by rw [List.getElem?_toArray, slotCells_1 L k y hk, hy])
 have c1 := aM hc1
 have z1 := blk_frozen h.hs (k * 2 + 1)
 have hs1 := blk_put h.hs (k * 2 + 1) (.int .i32 1) rfl
 have c2 : (W.setCell ⟨s, k * 2 + 1, none⟩ (.int .i32 1)).cell? ⟨s, k * 2, none⟩ = some y.ptr := (blk_cell hs1 _).trans (by rw [Array.getElem?_setIfInBounds_ne (by omega), List.getElem?_toArray]; exact slotCells_0 L k y hk)
 rw [Slot.ptr] at c2
 have z2 := blk_frozen hs1 (k * 2)
 have c0' : (W.setCell ⟨s, k * 2 + 1, none⟩ (.int .i32 1)).cell? ⟨g, 0, none⟩ = some (.slice (some ⟨s, 0, none⟩) L.length L.length) := (blk_cell (blk_far h.hg (p := ⟨s, k * 2 + 1, none⟩) h.ne _) 0).trans rfl
 have hg2 := blk_far (blk_far h.hg (p := ⟨s, k * 2 + 1, none⟩) h.ne (.int .i32 1)) (p := ⟨s, k * 2, none⟩) h.ne (.pointer (some ⟨b, 0, none⟩))
 have hc3 := (blk_cell hg2 1).trans rfl
 have hz3 := blk_frozen hg2 1
 have c3 := aM hc3
 have z3 := aM hz3
 clear h hbef hp hk hs1 hg2 hc1 hc3 hz3
 go_enter Try.func21, Try.ntmps21
 go_wp2
 go_loopw [13] (fun i W' => ∃ n : Nat, n ≤ k ∧ i = .int .i64 n ∧ Aside0 (W = W')) (fun i _ => L.length - (intOf i).toNat)
 case atStart => exact ⟨0, Nat.zero_le _, rfl, ⟨rfl⟩⟩
 case round =>
  obtain ⟨n, hn, rfl, HW⟩ := hrel
  obtain rfl := HW.out
  have q : n < L.length := by omega
  have d1 : decide ((n : Int) < (L.length : Int)) = true := decide_eq_true (by omega)
  have d2 : decide (n < L.length) = true := decide_eq_true q
  have p0 : (0 : Int) ≤ (n : Int) := by omega
  have p1 : (n : Int) < (L.length : Int) := by omega
  by_cases e : n = k
  ·
   subst e
   go_wp2_with (first | (go_at_call 46; (refine (atomHit.calls s (n * 2 + 1) W c1.out z1).mono ?_); rintro e w2 ⟨rfl, rfl⟩; skip) | (go_at_call 47; (refine (atomAdd.calls g 1 f (-1) _ c3.out z3.out (by omega)).mono ?_); rintro e w2 ⟨rfl, rfl⟩; skip))
   go_ret2
   exact ⟨rfl, H1.out.1, H1.out.2⟩
  ·
   obtain ⟨x, hx⟩ : ∃ x, L[n]? = some x := ⟨_, List.getElem?_eq_getElem q⟩
   have hr := HF.out n x (by omega) hx
   have c1 : W.cell? ⟨s, n * 2 + 1, none⟩ = some (.int .i32 x.refs) := (blk_cell HS.out _).trans (by rw [List.getElem?_toArray]; exact slotCells_1 L n x hx)
   have z1 := blk_frozen HS.out (n * 2 + 1)
   have hw : wrap64 ((n : Int) + 1) = (n : Int) + 1 := by have := HN.out; simp only [wrap64]; omega
   go_wp2_with (first | (go_at_call 46; (refine (atomMiss.calls s (n * 2 + 1) x.refs W c1 z1 hr).mono ?_); rintro e w2 ⟨rfl, rfl⟩; skip))
   rw [hw]; exact ⟨⟨n + 1, by omega, rfl, ⟨trivial⟩⟩, by simp only [intOf]; omega⟩
def usedTo (L : List Slot) : Nat → List Int
 | 0 => []
 | n + 1 => if (L.getD n ⟨0, 0, none⟩).refs = 0 then usedTo L n else usedTo L n ++ [(n : Int)]
theorem usedTo_le (L : List Slot) : ∀ n, (usedTo L n).length ≤ n
 | 0 => Nat.le_refl _
 | n + 1 => by
  have ih := usedTo_le L n
  unfold usedTo
  split
  ·
   omega
  ·
   simp; omega
set_option maxHeartbeats 8000000 in
set_option maxRecDepth 100000 in
theorem poolUsed.calls (g s : Nat) (L : List Slot) (f : Int) (w : World) (h : PoolAt w g s L f) :
  Calls Try.prog 19 #[.pointer (some ⟨g, 0, none⟩)] w fun e w' => ∃ v0_ : Value, e = .returned (v0_) ∧ Kd.R (Kd.int .i64) 3 w' w.heap.size (fun _ => True) v0_ (usedTo L L.length) ∧ Below w.heap.size w w' := by
 have c0 : w.cell? ⟨g, 0, none⟩ = some (.slice (some ⟨s, 0, none⟩) L.length L.length) := (blk_cell h.hg 0).trans rfl
 have H := aM h
 have HN := aM h.hn
 have HB := aM (Below.refl w.heap.size w)
 clear h
 go_enter Try.func19, Try.ntmps19
 go_wp2
 go_loopw [3, 10] (fun v3 i W' => ∃ n : Nat, n ≤ L.length ∧ i = .int .i64 n ∧ Aside0 (Kd.R (Kd.int .i64) 3 W' w.heap.size (fun _ => True) v3 (usedTo L n)) ∧ Aside0 (Below w.heap.size w W')) (fun _ i _ => L.length - (intOf i).toNat)
 case atStart => exact ⟨0, Nat.zero_le _, rfl, ⟨Kd.R_nil _ _ _ _ _⟩, HB⟩
 case round =>
  clear HB
  obtain ⟨n, hn, rfl, HO, HB⟩ := hrel
  by_cases q : n < L.length
  ·
   have d1 : decide ((n : Int) < (L.length : Int)) = true := decide_eq_true (by omega)
   have d2 : decide (n < L.length) = true := decide_eq_true q
   have hw : wrap64 ((n : Int) + 1) = (n : Int) + 1 := by have := HN.out; simp only [wrap64]; omega
   obtain ⟨x, hx⟩ : ∃ x, L[n]? = some x := ⟨_, List.getElem?_eq_getElem q⟩
   by_cases hr : x.refs = 0
   ·
    have hu : usedTo L (n + 1) = usedTo L n := by rw [usedTo, if_pos (by rw [List.getD_eq_getElem?_getD, hx]; exact hr)]
    go_wp2_with (first | (go_at_call 45; (refine (heldNo.calls g s L f n (fun y _ hy => by rw [Int.toNat_natCast, hx] at hy; obtain rfl := Option.some.inj hy; exact hr) _ (H.out.below HB.out)).mono ?_); rintro e w2 ⟨rfl, rfl⟩; skip))
    rw [hw]
    exact ⟨⟨n + 1, by omega, rfl, ⟨by rw [hu]; exact HO.out⟩, HB⟩, by simp only [intOf]; omega⟩
   ·
    have hu : usedTo L (n + 1) = usedTo L n ++ [(n : Int)] := by rw [usedTo, if_neg (by rw [List.getD_eq_getElem?_getD, hx]; exact hr)]
    have hul := usedTo_le L n
    go_wp2_with (first | (go_at_call 45; (refine (held.calls g s L f n x hx hr _ (H.out.below HB.out)).mono ?_); rintro e w2 ⟨rfl, rfl⟩; skip) | ((with_reducible refine gate_builtin (b := .append) (xs := #[.tmp 17, .tmp 19]) rfl ?_); at_builtin; refine Kd.R_append (Kd.int .i64) (w0 := w) w.heap.size rfl (.tmp 17) (.tmp 19) 28 3 (.int .i64 0) 8 rfl Try.underlying28 info3 rfl (by decide) (by omega) u3 (usedTo L n) (n : Int) [.int .i64 (n : Int)] (fun _ => True) (fun _ => False) rfl rfl ?aP (fun _ hk => hk.elim) ?aF ?aO ?aB ?aS ?aL ?_; (case aP => exact rfl); (case aB => exact (by with_reducible exact HB.out)); (case aF => exact (fun _ _ => trivial)); (case aO => exact (by exact HO.out)); (case aS => exact (below_size (by with_reducible exact HB.out))); (case aL => have := HN.out; omega); intro v245 w8 ho hb hg hat; have HO1 := aM ho; have HB1 := aM hb; clear ho hb hg hat))
    rw [hw]
    exact ⟨⟨n + 1, by omega, rfl, ⟨by rw [hu]; exact HO1.out⟩, HB1⟩, by simp only [intOf]; omega⟩
  ·
   have d1 : decide ((n : Int) < (L.length : Int)) = false := decide_eq_false (by omega)
   have d2 : decide (n < L.length) = false := decide_eq_false q
   obtain rfl : n = L.length := by omega
   go_wp2
   go_ret
   exact ⟨_, rfl, HO.out, HB.out⟩
theorem PoolAt.drew {W : World} {g s : Nat} {L : List Slot} {f : Int} (h : PoolAt W g s L f) : PoolAt W.drew g s L f := h.below (below_drew1 (Below.refl _ _))
/-- The document's pool: two rows of the call's own. -/
structure XAt (B : Nat) (W : World) (v0 v1 : Value) (l0 l1 : List Int) : Prop where
 r0 : Kd.R (Kd.int .i64) 3 W B (fun k => some k = v0.ownBlock) v0 l0
 r1 : Kd.R (Kd.int .i64) 3 W B (fun k => some k = v1.ownBlock) v1 l1
 ne : ∀ k, some k = v0.ownBlock → ¬ some k = v1.ownBlock
theorem XAt.typed0 {B : Nat} {W : World} {v0 v1 : Value} {l0 l1 : List Int} (h : XAt B W v0 v1 l0 l1) {k : Nat} (hk : some k = v0.ownBlock) : ∃ cs, W.heap[k]? = some (.cells cs 3 (0, 0)) := Kd.R_typed h.r0 k hk.symm
theorem XAt.typed1 {B : Nat} {W : World} {v0 v1 : Value} {l0 l1 : List Int} (h : XAt B W v0 v1 l0 l1) {k : Nat} (hk : some k = v1.ownBlock) : ∃ cs, W.heap[k]? = some (.cells cs 3 (0, 0)) := Kd.R_typed h.r1 k hk.symm
theorem XAt.step {B : Nat} {W W' : World} {v0 v1 : Value} {l0 l1 : List Int} (h : XAt B W v0 v1 l0 l1) (hs : ∀ k, k < W.heap.size → (∃ cs, W.heap[k]? = some (.cells cs 3 (0, 0))) → W'.heap[k]? = W.heap[k]?) : XAt B W' v0 v1 l0 l1 :=
 ⟨Kd.R_step h.r0 (fun k hk hlt => hs k hlt (h.typed0 hk)), Kd.R_step h.r1 (fun k hk hlt => hs k hlt (h.typed1 hk)), h.ne⟩
theorem XAt.below {B : Nat} {W W' : World} {v0 v1 : Value} {l0 l1 : List Int} (h : XAt B W v0 v1 l0 l1) (hb : Below W.heap.size W W') : XAt B W' v0 v1 l0 l1 := h.step (fun k hlt _ => hb.block k hlt)
theorem XAt.drew {B : Nat} {W : World} {v0 v1 : Value} {l0 l1 : List Int} (h : XAt B W v0 v1 l0 l1) : XAt B W.drew v0 v1 l0 l1 := h.below (below_drew1 (Below.refl _ _))
theorem XAt.mv {B : Nat} {W W' : World} {v0 v1 : Value} {l0 l1 : List Int} {g s : Nat} {L : List Slot} {f : Int} (h : XAt B W v0 v1 l0 l1) (hp : PoolAt W g s L f) (hm : Mv g s W W') : XAt B W' v0 v1 l0 l1 :=
 h.step (fun k hlt ⟨cs, hc⟩ => hm.kept.2 k hlt (fun e => e.elim (blk_ne hc hp.hg (by decide)) (blk_ne hc hp.hs (by decide))))
theorem XAt.aside {B : Nat} {W : World} {v0 v1 : Value} {l0 l1 : List Int} (h : XAt B W v0 v1 l0 l1) {b t : Nat} {ds : Array Value} (hb : W.heap[b]? = some (.cells ds t (0, 0))) (ht : t ≠ 3) (i : Nat) (u : Value) : XAt B (W.setCell ⟨b, i, none⟩ u) v0 v1 l0 l1 :=
 h.step (fun k hlt ⟨cs, hc⟩ => Below.heap_setCell W ⟨b, i, none⟩ u k (blk_ne hc hb (fun e => ht e.symm)))
/-- A call that writes to these two rows alone keeps what is no row of whole numbers. -/
theorem XAt.keeps {B : Nat} {W W' : World} {v0 v1 : Value} {l0 l1 : List Int} (h : XAt B W v0 v1 l0 l1) (hk : Kept W W' (fun k => some k = v0.ownBlock ∨ some k = v1.ownBlock)) {b t : Nat} {ds : Array Value} (hb : W.heap[b]? = some (.cells ds t (0, 0))) (ht : t ≠ 3) : W'.heap[b]? = some (.cells ds t (0, 0)) :=
 blk_kept hb hk (fun e => e.elim (fun e => by obtain ⟨cs, hc⟩ := h.typed0 e; exact blk_ne hb hc ht rfl) (fun e => by obtain ⟨cs, hc⟩ := h.typed1 e; exact blk_ne hb hc ht rfl))
theorem PoolAt.keeps {B : Nat} {W W' : World} {v0 v1 : Value} {l0 l1 : List Int} {g s : Nat} {L : List Slot} {f : Int} (hp : PoolAt W g s L f) (h : XAt B W v0 v1 l0 l1) (hk : Kept W W' (fun k => some k = v0.ownBlock ∨ some k = v1.ownBlock)) : PoolAt W' g s L f := by
 refine ⟨hp.ne, h.keeps hk hp.hg (by decide), h.keeps hk hp.hs (by decide), fun x hx hr => ?_, hp.hn, hp.hr, hp.hf⟩
 obtain ⟨p, e, hq, n⟩ := hp.hp x hx hr
 obtain ⟨-, -, -, -, -, -, -, -, -, -, -, -, -, ds, hd⟩ := id hq
 exact ⟨p, e, hq.same ((h.keeps hk hd (by decide)).trans hd.symm), n⟩
theorem PoolAt.beside {W : World} {g s b t : Nat} {L : List Slot} {f : Int} (h : PoolAt W g s L f) {ds : Array Value} (hb : W.heap[b]? = some (.cells ds t (0, 0))) (h1 : t ≠ 77 ∧ t ≠ 88 ∧ t ≠ 96) (i : Nat) (u : Value) : PoolAt (W.setCell ⟨b, i, none⟩ u) g s L f := by
 refine ⟨h.ne, blk_far h.hg (p := ⟨b, i, none⟩) (blk_ne h.hg hb (fun e => h1.1 e.symm)) u, blk_far h.hs (p := ⟨b, i, none⟩) (blk_ne h.hs hb (fun e => h1.2.1 e.symm)) u, fun x hx hr => ?_, h.hn, h.hr, h.hf⟩
 obtain ⟨p, e, hp, n⟩ := h.hp x hx hr
 obtain ⟨-, -, -, -, -, -, -, -, -, -, -, -, -, cs, hd⟩ := id hp
 exact ⟨p, e, hp.same (Below.heap_setCell W ⟨b, i, none⟩ u p (blk_ne hd hb (fun e => h1.2.2 e.symm))), n⟩
theorem blk_mv {W W' : World} {g s b t : Nat} {L : List Slot} {f : Int} {ds : Array Value} (hb : W.heap[b]? = some (.cells ds t (0, 0))) (h : PoolAt W g s L f) (hm : Mv g s W W') (h1 : t ≠ 77) (h2 : t ≠ 88) : W'.heap[b]? = some (.cells ds t (0, 0)) :=
 (hm.kept.2 b (blk_lt hb) (fun e => e.elim (blk_ne hb h.hg h1) (blk_ne hb h.hs h2))).trans hb
theorem first_zero : ∀ L : List Slot, (∀ x ∈ L, ¬ x.refs = 0) ∨ ∃ (k : Nat) (y : Slot), L[k]? = some y ∧ y.refs = 0 ∧ ∀ (j : Nat) (x : Slot), j < k → L[j]? = some x → ¬ x.refs = 0
 | [] => .inl (fun x hx => by cases hx)
 | y :: L => by
  by_cases h : y.refs = 0
  ·
   exact .inr ⟨0, y, rfl, h, fun j x hj _ => absurd hj (Nat.not_lt_zero _)⟩
  ·
   rcases first_zero L with h1 | ⟨k, z, hz, h0, hb⟩
   ·
    refine .inl (fun x hx => ?_)
    rcases List.mem_cons.mp hx with rfl | hx
    ·
     exact h
    ·
     exact h1 x hx
   ·
    refine .inr ⟨k + 1, z, by simpa using hz, h0, fun j x hj hx => ?_⟩
    cases j with
    | zero => simp at hx; subst hx; exact h
    | succ j => exact hb j x (by omega) (by simpa using hx)
def PutR (L : List Slot) (f m : Int) (L' : List Slot) (f' i e : Int) : Prop :=
 (∃ (k : Nat) (y : Slot) (b : Nat), L[k]? = some y ∧ y.refs = 0 ∧ (∀ (j : Nat) (x : Slot), j < k → L[j]? = some x → ¬ x.refs = 0) ∧ L' = L.set k ⟨1, m, some b⟩ ∧ f' = f + -1 ∧ i = (k : Int) ∧ e = 0) ∨ ((∀ x ∈ L, ¬ x.refs = 0) ∧ L' = L ∧ f' = f ∧ i = 0 ∧ e = 23)
theorem poolPutAny.calls (g s : Nat) (L : List Slot) (f : Int) (b : Nat) (m : Int) (W : World) (h : PoolAt W g s L f) (hp : PgAt W b m) (n1 : b ≠ g) (n2 : b ≠ s) (hf : -999999 ≤ f) :
  Calls Try.prog 21 #[.pointer (some ⟨g, 0, none⟩), .pointer (some ⟨b, 0, none⟩)] W fun e w' => ∃ L' f' i2 e2, e = .returned (.tuple #[.int .i64 i2, .int .i64 e2]) ∧ PoolAt w' g s L' f' ∧ Mv g s W w' ∧ PutR L f m L' f' i2 e2 := by
 rcases first_zero L with h1 | ⟨k, y, hy, h0, hb⟩
 ·
  refine (poolPutFull.calls g s L f _ h1 W h).mono ?_
  rintro e w' ⟨rfl, rfl⟩
  exact ⟨L, f, 0, 23, rfl, h, Mv.refl _ _ _, .inr ⟨h1, rfl, rfl, rfl, rfl⟩⟩
 ·
  refine (poolPut.calls g s L f b m k y hy h0 hb W h hp n1 n2 hf).mono ?_
  rintro e w' ⟨rfl, h2, h3⟩
  exact ⟨_, _, _, _, rfl, h2, h3, .inl ⟨k, y, b, hy, h0, hb, rfl, rfl, rfl, rfl⟩⟩
/-- Is a slot there, and not free? -/
def Held (L : List Slot) (N : Int) : Prop := ∃ (n : Nat) (x : Slot), N = (n : Int) ∧ L[n]? = some x ∧ ¬ x.refs = 0
theorem not_held {L : List Slot} {N : Int} (h : ¬ Held L N) : ∀ x, 0 ≤ N → L[N.toNat]? = some x → x.refs = 0 := by
 intro x h0 hx
 obtain ⟨n, rfl⟩ := Int.eq_ofNat_of_zero_le h0
 rw [Int.toNat_natCast] at hx
 exact Decidable.byContradiction (fun hr => h ⟨n, x, rfl, hx, hr⟩)
def HoldR (L : List Slot) (f N : Int) (L' : List Slot) (f' e : Int) : Prop :=
 (∃ (n : Nat) (x : Slot), N = (n : Int) ∧ L[n]? = some x ∧ ¬ x.refs = 0 ∧ L' = L.set n ⟨x.refs + 1, x.mark, x.pg⟩ ∧ f' = f ∧ e = 0) ∨ (¬ Held L N ∧ L' = L ∧ f' = f ∧ e = 14)
def DropR (L : List Slot) (f N : Int) (L' : List Slot) (f' e : Int) : Prop :=
 (∃ (n : Nat) (x : Slot), N = (n : Int) ∧ L[n]? = some x ∧ ¬ x.refs = 0 ∧ L' = L.set n x.less ∧ f' = (if x.refs = 1 then f + 1 else f) ∧ e = 0) ∨ (¬ Held L N ∧ L' = L ∧ f' = f ∧ e = 14)
open Classical in
theorem poolHoldAny.calls (g s : Nat) (L : List Slot) (f N : Int) (W : World) (h : PoolAt W g s L f) (hm : ∀ x ∈ L, x.refs ≤ 999999) :
  Calls Try.prog 23 #[.pointer (some ⟨g, 0, none⟩), .int .i64 N] W fun e w' => ∃ L' f' e2, e = .returned (.int .i64 e2) ∧ PoolAt w' g s L' f' ∧ Mv g s W w' ∧ HoldR L f N L' f' e2 := by
 by_cases hh : Held L N
 ·
  obtain ⟨n, x, rfl, hx, hr⟩ := hh
  refine (poolHold.calls g s L f n x hx hr (hm x (List.mem_of_getElem? hx)) W h).mono ?_
  rintro e w' ⟨rfl, h2, h3⟩
  exact ⟨_, _, _, rfl, h2, h3, .inl ⟨n, x, rfl, hx, hr, rfl, rfl, rfl⟩⟩
 ·
  refine (poolHoldNo.calls g s L f N (not_held hh) W h).mono ?_
  rintro e w' ⟨rfl, rfl⟩
  exact ⟨L, f, 14, rfl, h, Mv.refl _ _ _, .inr ⟨hh, rfl, rfl, rfl⟩⟩
open Classical in
theorem poolDropAny.calls (g s : Nat) (L : List Slot) (f N : Int) (W : World) (h : PoolAt W g s L f) (hf : f ≤ 999999) :
  Calls Try.prog 27 #[.pointer (some ⟨g, 0, none⟩), .int .i64 N] W fun e w' => ∃ L' f' e2, e = .returned (.int .i64 e2) ∧ PoolAt w' g s L' f' ∧ Mv g s W w' ∧ DropR L f N L' f' e2 := by
 by_cases hh : Held L N
 ·
  obtain ⟨n, x, rfl, hx, hr⟩ := hh
  refine (poolDrop.calls g s L f n x hx hr hf W h).mono ?_
  rintro e w' ⟨rfl, h2, h3⟩
  exact ⟨_, _, _, rfl, h2, h3, .inl ⟨n, x, rfl, hx, hr, rfl, rfl, rfl⟩⟩
 ·
  refine (poolDropNo.calls g s L f N (not_held hh) W h).mono ?_
  rintro e w' ⟨rfl, rfl⟩
  exact ⟨L, f, 14, rfl, h, Mv.refl _ _ _, .inr ⟨hh, rfl, rfl, rfl⟩⟩
/-- The rows of a result of the document's. -/
theorem XAt.of {B : Nat} {W : World} {v0 v1 : Value} {l0 l1 : List Int} {S : Nat → Prop} (h0 : Kd.R (Kd.int .i64) 3 W B (fun k_ => S k_ ∧ some k_ ≠ (v1 : Value).ownBlock) v0 l0) (h1 : Kd.R (Kd.int .i64) 3 W B (fun k_ => S k_ ∧ some k_ ≠ (v0 : Value).ownBlock) v1 l1) : XAt B W v0 v1 l0 l1 :=
 ⟨Kd.R_tight rfl h0, Kd.R_tight rfl h1, fun k hk => (h0.1 k hk.symm).2⟩
/-- The blocks that rows of rows own. -/
def OwnR (rp : Option Addr) (vs : List Value) (k : Nat) : Prop := (∃ o, rp = some ⟨k, o, none⟩) ∨ ∃ v ∈ vs, some k = v.ownBlock
/-- Rows of whole numbers, of the call's own, in a row of the call's own. -/
structure RowsAt (B : Nat) (W : World) (rp : Option Addr) (vs : List Value) (rows : List (List Int)) : Prop where
 hl : vs.length = rows.length
 hc : 0 < rows.length → ∃ rb cs, rp = some ⟨rb, 0, none⟩ ∧ W.heap[rb]? = some (.cells cs 28 (0, 0)) ∧ B ≤ rb ∧ ∀ (i : Nat) (v : Value), vs[i]? = some v → cs[i]? = some v
 hz : rows.length = 0 → ∀ k o, rp = some ⟨k, o, none⟩ → ∃ cs, W.heap[k]? = some (.cells cs 28 (0, 0))
 hv : ∀ (i : Nat) (v : Value) (l : List Int), vs[i]? = some v → rows[i]? = some l → Kd.R (Kd.int .i64) 3 W B (fun k => some k = v.ownBlock) v l
 ha : ∀ (i j : Nat) (v u : Value), i ≠ j → vs[i]? = some v → vs[j]? = some u → ∀ k, some k = v.ownBlock → ¬ some k = u.ownBlock
theorem RowsAt.row {B : Nat} {W : World} {rp : Option Addr} {vs : List Value} {rows : List (List Int)} (h : RowsAt B W rp vs rows) {i : Nat} {v : Value} (hi : vs[i]? = some v) : ∃ l, rows[i]? = some l := ⟨_, List.getElem?_eq_getElem (by rw [← h.hl]; exact (List.getElem?_eq_some_iff.mp hi).1)⟩
theorem RowsAt.val {B : Nat} {W : World} {rp : Option Addr} {vs : List Value} {rows : List (List Int)} (h : RowsAt B W rp vs rows) {i : Nat} {l : List Int} (hi : rows[i]? = some l) : ∃ v, vs[i]? = some v := ⟨_, List.getElem?_eq_getElem (by rw [h.hl]; exact (List.getElem?_eq_some_iff.mp hi).1)⟩
theorem RowsAt.typed {B : Nat} {W : World} {rp : Option Addr} {vs : List Value} {rows : List (List Int)} (h : RowsAt B W rp vs rows) {k : Nat} (hk : OwnR rp vs k) : ∃ cs t, W.heap[k]? = some (.cells cs t (0, 0)) ∧ (t = 28 ∨ t = 3) := by
 rcases hk with ⟨o, ho⟩ | ⟨v, hv, hk⟩
 ·
  by_cases hn : 0 < rows.length
  ·
   obtain ⟨rb, cs, e, hb, -⟩ := h.hc hn
   rw [ho] at e
   obtain rfl : k = rb := by injection e with e; injection e
   exact ⟨cs, 28, hb, .inl rfl⟩
  ·
   obtain ⟨cs, hb⟩ := h.hz (by omega) k o ho
   exact ⟨cs, 28, hb, .inl rfl⟩
 ·
  obtain ⟨i, hi, rfl⟩ := List.getElem_of_mem hv
  have hvi := List.getElem?_eq_getElem hi
  obtain ⟨l, hl⟩ := h.row hvi
  obtain ⟨cs, hc⟩ := Kd.R_typed (h.hv i _ l hvi hl) k hk.symm
  exact ⟨cs, 3, hc, .inr rfl⟩
theorem RowsAt.lt {B : Nat} {W : World} {rp : Option Addr} {vs : List Value} {rows : List (List Int)} (h : RowsAt B W rp vs rows) {k : Nat} (hk : OwnR rp vs k) : k < W.heap.size := by
 obtain ⟨cs, t, hb, -⟩ := h.typed hk
 exact blk_lt hb
theorem RowsAt.step {B : Nat} {W W' : World} {rp : Option Addr} {vs : List Value} {rows : List (List Int)} (h : RowsAt B W rp vs rows) (hs : ∀ k, OwnR rp vs k → W'.heap[k]? = W.heap[k]?) : RowsAt B W' rp vs rows := by
 refine ⟨h.hl, fun hn => ?_, fun hn k o e => ?_, fun i v l hi hl => ?_, h.ha⟩
 ·
  obtain ⟨rb, cs, e, hb, hB, hcs⟩ := h.hc hn
  exact ⟨rb, cs, e, (hs rb (.inl ⟨0, e⟩)).trans hb, hB, hcs⟩
 ·
  obtain ⟨cs, hb⟩ := h.hz hn k o e
  exact ⟨cs, (hs k (.inl ⟨o, e⟩)).trans hb⟩
 ·
  exact Kd.R_step (h.hv i v l hi hl) (fun k hk _ => hs k (.inr ⟨v, List.mem_of_getElem? hi, hk⟩))
theorem RowsAt.below {B : Nat} {W W' : World} {rp : Option Addr} {vs : List Value} {rows : List (List Int)} (h : RowsAt B W rp vs rows) (hb : Below W.heap.size W W') : RowsAt B W' rp vs rows := h.step (fun k hk => hb.block k (h.lt hk))
theorem RowsAt.mv {B : Nat} {W W' : World} {rp : Option Addr} {vs : List Value} {rows : List (List Int)} {g s : Nat} {L : List Slot} {f : Int} (h : RowsAt B W rp vs rows) (hp : PoolAt W g s L f) (hm : Mv g s W W') : RowsAt B W' rp vs rows := h.step (fun k hk => by
 obtain ⟨cs, t, hb, ht⟩ := h.typed hk
 exact hm.kept.2 k (blk_lt hb) (fun e => e.elim (blk_ne hb hp.hg (by rcases ht with rfl | rfl <;> decide)) (blk_ne hb hp.hs (by rcases ht with rfl | rfl <;> decide))))
theorem RowsAt.aside {B : Nat} {W : World} {rp : Option Addr} {vs : List Value} {rows : List (List Int)} (h : RowsAt B W rp vs rows) {b t : Nat} {ds : Array Value} (hb : W.heap[b]? = some (.cells ds t (0, 0))) (ht : t ≠ 28 ∧ t ≠ 3) (i : Nat) (u : Value) : RowsAt B (W.setCell ⟨b, i, none⟩ u) rp vs rows := h.step (fun k hk => by
 obtain ⟨cs, q, hc, hq⟩ := h.typed hk
 exact Below.heap_setCell W ⟨b, i, none⟩ u k (blk_ne hc hb (by rcases hq with rfl | rfl; exact fun e => ht.1 e.symm; exact fun e => ht.2 e.symm)))
theorem RowsAt.drew {B : Nat} {W : World} {rp : Option Addr} {vs : List Value} {rows : List (List Int)} (h : RowsAt B W rp vs rows) : RowsAt B W.drew rp vs rows := h.below (below_drew1 (Below.refl _ _))
/-- A number behind one of the rows. -/
theorem RowsAt.put {B : Nat} {W W1 : World} {rb : Nat} {vs : List Value} {rows : List (List Int)} (h : RowsAt B W (some ⟨rb, 0, none⟩) vs rows) {i : Nat} {v v1 : Value} {l l1 : List Int} (hi : vs[i]? = some v) (hl : rows[i]? = some l) (hg : W.grownBy W1 v.ownBlock) (ho : Kd.R (Kd.int .i64) 3 W1 B (fun _ => True) v1 l1) (hat : v1.ownBlock = v.ownBlock ∨ ∃ b, v1.ownBlock = some b ∧ W.heap.size ≤ b) :
  RowsAt B (W1.setCell ⟨rb, i, none⟩ v1) (some ⟨rb, 0, none⟩) (vs.set i v1) (rows.set i l1) ∧ Kept W (W1.setCell ⟨rb, i, none⟩ v1) (OwnR (some ⟨rb, 0, none⟩) vs) ∧ ∀ k, OwnR (some ⟨rb, 0, none⟩) (vs.set i v1) k → OwnR (some ⟨rb, 0, none⟩) vs k ∨ W.heap.size ≤ k := by
 have hlt := (List.getElem?_eq_some_iff.mp hl).1
 have hiv := (List.getElem?_eq_some_iff.mp hi).1
 obtain ⟨rb', cs, e, hb, hB, hcs⟩ := h.hc (by omega)
 obtain rfl : rb = rb' := by injection e with e; injection e
 have hR := h.hv i v l hi hl
 have hne : some rb ≠ v.ownBlock := Kd.R_ne hR hb (by decide)
 have hb1 := blk_grown hb hg hne
 have hne1 : some rb ≠ v1.ownBlock := Kd.R_ne ho hb1 (by decide)
 have hT := Kd.R_tight rfl ho
 refine ⟨⟨by simpa using h.hl, fun _ => ⟨rb, _, rfl, blk_put hb1 i v1 rfl, hB, fun j u hu => ?_⟩, fun hn => by rw [List.length_set] at hn; omega, fun j u q hu hq => ?_, fun a b u1 u2 hab h1 h2 k hk => ?_⟩, ?_, fun k hk => ?_⟩
 ·
  by_cases e : j = i
  ·
   subst e
   rw [List.getElem?_set_self hiv] at hu
   obtain rfl := Option.some.inj hu
   have := (Array.getElem?_eq_some_iff.1 (hcs j v hi)).1
   rw [Array.getElem?_setIfInBounds_self_of_lt this]
  ·
   rw [List.getElem?_set_ne (fun q => e q.symm)] at hu
   rw [Array.getElem?_setIfInBounds_ne (fun q => e q.symm)]
   exact hcs j u hu
 ·
  by_cases e : j = i
  ·
   subst e
   rw [List.getElem?_set_self hiv] at hu
   rw [List.getElem?_set_self hlt] at hq
   obtain rfl := Option.some.inj hu
   obtain rfl := Option.some.inj hq
   exact Kd.R_far hT (fun k hk e => hne1 (by rw [← hk]; exact congrArg some e.symm)) _
  ·
   rw [List.getElem?_set_ne (fun q => e q.symm)] at hu hq
   have hR2 := h.hv j u q hu hq
   refine Kd.R_far (Kd.R_grown hR2 hg (fun k hk he => h.ha j i u v e hu hi k hk he)) (fun k hk e => ?_) _
   have := Kd.R_ne hR2 hb (by decide)
   exact this (by rw [← hk]; exact congrArg some e.symm)
 ·
  by_cases ea : a = i
  ·
   subst ea
   rw [List.getElem?_set_self hiv] at h1
   obtain rfl := Option.some.inj h1
   rw [List.getElem?_set_ne hab] at h2
   rcases hat with e | ⟨b', e, hge⟩
   ·
    rw [e] at hk
    exact h.ha _ _ _ _ hab hi h2 k hk
   ·
    intro hk2
    obtain ⟨q, hq⟩ := h.row h2
    have := Kd.R_lt (h.hv b u2 q h2 hq) k hk2.symm
    rw [e] at hk
    obtain rfl := Option.some.inj hk
    omega
  ·
   rw [List.getElem?_set_ne (fun q => ea q.symm)] at h1
   by_cases eb : b = i
   ·
    subst eb
    rw [List.getElem?_set_self hiv] at h2
    obtain rfl := Option.some.inj h2
    rcases hat with e | ⟨b', e, hge⟩
    ·
     rw [e]
     exact h.ha _ _ _ _ hab h1 hi k hk
    ·
     rw [e]
     intro hk2
     obtain ⟨q, hq⟩ := h.row h1
     have := Kd.R_lt (h.hv a u1 q h1 hq) k hk.symm
     obtain rfl := Option.some.inj hk2
     omega
   ·
    rw [List.getElem?_set_ne (fun q => eb q.symm)] at h2
    exact h.ha a b u1 u2 hab h1 h2 k hk
 ·
  have h1 : Kept W W1 (OwnR (some ⟨rb, 0, none⟩) vs) := ⟨hg.size, fun k hk hn => hg.block k hk (fun e => hn (.inr ⟨v, List.mem_of_getElem? hi, e⟩))⟩
  exact h1.setCell (p := ⟨rb, i, none⟩) (.inl (.inl ⟨0, rfl⟩)) v1
 ·
  rcases hk with hk | ⟨u, hu, hk⟩
  ·
   exact .inl (.inl hk)
  ·
   rcases List.mem_or_eq_of_mem_set hu with hu | rfl
   ·
    exact .inl (.inr ⟨u, hu, hk⟩)
   ·
    rcases hat with e | ⟨b', e, hge⟩
    ·
     rw [e] at hk
     exact .inl (.inr ⟨v, List.mem_of_getElem? hi, hk⟩)
    ·
     rw [e] at hk
     obtain rfl := Option.some.inj hk
     exact .inr hge
/-- A table over the pool in block g. -/
structure TabAt (B : Nat) (W : World) (tb g : Nat) (rp : Option Addr) (rc : Nat) (vs : List Value) (rows : List (List Int)) : Prop where
 ht : W.heap[tb]? = some (.cells #[.pointer (some ⟨g, 0, none⟩), .slice rp rows.length rc] 100 (0, 0))
 hR : RowsAt B W rp vs rows
 hn : rows.length ≤ 16
 hB : B ≤ tb
theorem TabAt.below {B : Nat} {W W' : World} {tb g : Nat} {rp : Option Addr} {rc : Nat} {vs : List Value} {rows : List (List Int)} (h : TabAt B W tb g rp rc vs rows) (hb : Below W.heap.size W W') : TabAt B W' tb g rp rc vs rows := ⟨blk_below h.ht hb, h.hR.below hb, h.hn, h.hB⟩
theorem TabAt.mv {B : Nat} {W W' : World} {tb g s : Nat} {L : List Slot} {f : Int} {g' : Nat} {rp : Option Addr} {rc : Nat} {vs : List Value} {rows : List (List Int)} (h : TabAt B W tb g' rp rc vs rows) (hp : PoolAt W g s L f) (hm : Mv g s W W') : TabAt B W' tb g' rp rc vs rows := ⟨blk_mv h.ht hp hm (by decide) (by decide), h.hR.mv hp hm, h.hn, h.hB⟩
theorem TabAt.cells {B : Nat} {W : World} {tb g : Nat} {rp : Option Addr} {rc : Nat} {vs : List Value} {rows : List (List Int)} (h : TabAt B W tb g rp rc vs rows) : W.cell? ⟨tb, 0, none⟩ = some (.pointer (some ⟨g, 0, none⟩)) ∧ W.cell? ⟨tb, 1, none⟩ = some (.slice rp rows.length rc) ∧ (∀ i, W.frozen? ⟨tb, i, none⟩ = false) := ⟨(blk_cell h.ht 0).trans rfl, (blk_cell h.ht 1).trans rfl, blk_frozen h.ht⟩
theorem RowsAt.cell {B : Nat} {W : World} {rp : Option Addr} {vs : List Value} {rows : List (List Int)} (h : RowsAt B W rp vs rows) {i : Nat} {v : Value} (hi : vs[i]? = some v) : ∃ rb, rp = some ⟨rb, 0, none⟩ ∧ W.cell? ⟨rb, i, none⟩ = some v ∧ W.frozen? ⟨rb, i, none⟩ = false := by
 obtain ⟨l, hl⟩ := h.row hi
 obtain ⟨rb, cs, e, hb, -, hcs⟩ := h.hc (by have := (List.getElem?_eq_some_iff.mp hl).1; omega)
 exact ⟨rb, e, (blk_cell hb i).trans (hcs i v hi), blk_frozen hb i⟩
theorem rows_made (n : Nat) (hn : n ≤ 16384) (W : World) : (Instr.makeSlice 70 (.int .i64 (n : Int)) (.int .i64 (n : Int))).run Try.prog W = .ok (.slice (some ⟨W.heap.size, 0, none⟩) n n) (W.alloc (.cells (Array.replicate n (Value.slice none 0 0)) 28)) := by
 obtain ⟨i0, hi⟩ : ∃ i, Try.prog.info? 28 = some i := Option.isSome_iff_exists.mp (by kernel_rfl)
 have hb : (Try.prog.info? 28).map (fun i => (i.size, i.bytes)) = some (1, 24) := by kernel_rfl
 have hz : ((Try.prog.info? 28).bind (fun i => i.zero)) = some (.slice none 0 0) := by kernel_rfl
 rw [hi] at hb hz
 have hb1 : i0.size = 1 := congrArg Prod.fst (Option.some.inj hb)
 have hb2 : i0.bytes = 24 := congrArg Prod.snd (Option.some.inj hb)
 have hr := run_make (P := Try.prog) W 70 28 i0 (.slice none 0 0) Try.underlying70 hi hz .i64 .i64 (n : Int) (n : Int) (by omega) (Int.le_refl _) (by rw [hb2]; omega) (by omega)
 simp only [Int.toNat_natCast] at hr
 rw [hb1] at hr
 have e : madeCells (Value.slice none 0 0).cells (n * 1) = Array.replicate n (Value.slice none 0 0) := by
  apply Array.ext
  ·
   simp [madeCells]
  ·
   intro i h1 h2
   simp [madeCells, Value.cells, Nat.mod_one]
 rw [e] at hr
 exact hr
theorem RowsAt.new {B : Nat} {W : World} {rb : Nat} (n : Nat) (hb : W.heap[rb]? = some (.cells (Array.replicate n (Value.slice none 0 0)) 28 (0, 0))) (hB : B ≤ rb) : RowsAt B W (some ⟨rb, 0, none⟩) (List.replicate n (.slice none 0 0)) (List.replicate n []) := by
 refine ⟨by simp, fun _ => ⟨rb, _, rfl, hb, hB, fun i v hv => ?_⟩, fun _ k o e => ?_, fun i v l hv hl => ?_, fun i j v u _ hv hu k hk => ?_⟩
 ·
  have hi := (List.getElem?_eq_some_iff.mp hv).1
  obtain rfl := List.eq_of_mem_replicate (List.mem_of_getElem? hv)
  rw [List.length_replicate] at hi
  simp [hi]
 ·
  obtain rfl : rb = k := by injection e with e; injection e
  exact ⟨_, hb⟩
 ·
  obtain rfl := List.eq_of_mem_replicate (List.mem_of_getElem? hv)
  obtain rfl := List.eq_of_mem_replicate (List.mem_of_getElem? hl)
  exact Kd.R_nil _ _ _ _ _
 ·
  obtain rfl := List.eq_of_mem_replicate (List.mem_of_getElem? hv)
  simp [Value.ownBlock] at hk
theorem OwnR.new {rb n k : Nat} (h : OwnR (some ⟨rb, 0, none⟩) (List.replicate n (.slice none 0 0)) k) : k = rb := by
 rcases h with ⟨o, e⟩ | ⟨v, hv, hk⟩
 ·
  injection e with e; injection e with e1; exact e1.symm
 ·
  obtain rfl := List.eq_of_mem_replicate hv
  simp [Value.ownBlock] at hk
set_option maxHeartbeats 8000000 in
set_option maxRecDepth 100000 in
theorem blockNew.calls (g : Nat) (n : Nat) (hn : n ≤ 16) (B : Nat) (w : World) (hB : B ≤ w.heap.size) :
  Calls Try.prog 38 #[.pointer (some ⟨g, 0, none⟩), .int .i64 (n : Int)] w fun e w' => ∃ tb rb, e = .returned (.tuple #[.pointer (some ⟨tb, 0, none⟩), .int .i64 0]) ∧ TabAt B w' tb g (some ⟨rb, 0, none⟩) n (List.replicate n (.slice none 0 0)) (List.replicate n []) ∧ w.heap.size ≤ tb ∧ w.heap.size ≤ rb ∧ Below w.heap.size w w' := by
 have d1 : decide ((n : Int) < 0) = false := decide_eq_false (by omega)
 have d2 : decide (16 < (n : Int)) = false := decide_eq_false (by omega)
 have d3 : decide (16 < n) = false := decide_eq_false (by omega)
 have hmk := rows_made n (by omega) w
 have hu100 := Try.underlying100
 go_enter Try.func38, Try.ntmps38
 go_wp2_with (first | ((with_reducible refine gate_dst (N := 16) rfl ?_); refine box_event ?hg (N := 16) ?hd (cs := #[.pointer (some ⟨g, 0, none⟩), .slice (some ⟨w.heap.size, 0, none⟩) n n]) (t := 100) ?hr ?_; (case hd => rfl); (case hg => rfl); (case hr => first | (go_simp; done) | (go_simp; rfl)); intro tb hg w1 hbox hb; have BK := aM hbox; have HB := aM hb; have HG := aM hg; clear hbox hb hg))
 go_ret2
 have hs := blk_below (blk_new w (.cells (Array.replicate n (Value.slice none 0 0)) 28)) HB.out
 have hge : w.heap.size ≤ tb := by rw [HG.out]; simp
 exact ⟨tb, w.heap.size, rfl, ⟨by rw [List.length_replicate]; exact BK.out, RowsAt.new n hs hB, by rw [List.length_replicate]; exact hn, Nat.le_trans hB hge⟩, hge, Nat.le_refl _, below_step (below_alloc (Below.refl w.heap.size w) _) HB.out⟩
set_option maxHeartbeats 8000000 in
set_option maxRecDepth 100000 in
theorem blockNew.bad (g : Nat) (n : Int) (hn : n < 0 ∨ 16 < n) (w : World) :
  Calls Try.prog 38 #[.pointer (some ⟨g, 0, none⟩), .int .i64 n] w fun e w' => e = .returned (.tuple #[.pointer none, .int .i64 11]) ∧ w = w' := by
 by_cases c : n < 0
 ·
  have d1 : decide (n < 0) = true := decide_eq_true c
  go_enter Try.func38, Try.ntmps38
  go_wp2
  go_ret2
  exact ⟨rfl, rfl⟩
 ·
  have d1 : decide (n < 0) = false := decide_eq_false c
  have d2 : decide (16 < n) = true := decide_eq_true (by omega)
  go_enter Try.func38, Try.ntmps38
  go_wp2
  go_ret2
  exact ⟨rfl, rfl⟩
section
variable {B : Nat} {w : World} {tb g : Nat} {rp : Option Addr} {rc : Nat} {vs : List Value} {rows : List (List Int)}
set_option maxHeartbeats 8000000 in
set_option maxRecDepth 100000 in
theorem blockRow.calls (h : TabAt B w tb g rp rc vs rows) (i : Nat) (v : Value) (l : List Int) (hi : vs[i]? = some v) (hl : rows[i]? = some l) :
  Calls Try.prog 54 #[.pointer (some ⟨tb, 0, none⟩), .int .i64 (i : Int)] w fun e w' => e = .returned (.tuple #[v, .bool true]) ∧ w = w' := by
 obtain ⟨A, c, rfl⟩ := Kd.R_slice (h.hR.hv i v l hi hl)
 have hlt : i < rows.length := (List.getElem?_eq_some_iff.mp hl).1
 have d1 : decide ((i : Int) < 0) = false := decide_eq_false (by omega)
 have d2 : decide ((rows.length : Int) ≤ (i : Int)) = false := decide_eq_false (by omega)
 have d3 : decide (rows.length ≤ i) = false := decide_eq_false (by omega)
 have p1 : (0 : Int) ≤ (i : Int) := by omega
 have p2 : (i : Int) < (rows.length : Int) := by omega
 obtain ⟨rb, e, hc, -⟩ := h.hR.cell hi
 subst e
 have hz := h.cells
 clear h
 go_enter Try.func54, Try.ntmps54
 go_wp2
 go_ret2
 exact ⟨rfl, rfl⟩
set_option maxHeartbeats 8000000 in
set_option maxRecDepth 100000 in
theorem blockRowNo.calls (h : TabAt B w tb g rp rc vs rows) (i : Int) (hi : i < 0 ∨ (rows.length : Int) ≤ i) :
  Calls Try.prog 54 #[.pointer (some ⟨tb, 0, none⟩), .int .i64 i] w fun e w' => e = .returned (.tuple #[.slice none 0 0, .bool false]) ∧ w = w' := by
 have hz := h.cells
 clear h
 by_cases c : i < 0
 ·
  have d1 : decide (i < 0) = true := decide_eq_true c
  go_enter Try.func54, Try.ntmps54
  go_wp2
  go_ret2
  exact ⟨rfl, rfl⟩
 ·
  have d1 : decide (i < 0) = false := decide_eq_false c
  have d2 : decide ((rows.length : Int) ≤ i) = true := decide_eq_true (by omega)
  go_enter Try.func54, Try.ntmps54
  go_wp2
  go_ret2
  exact ⟨rfl, rfl⟩
set_option maxHeartbeats 8000000 in
set_option maxRecDepth 100000 in
theorem blockRows.calls (h : TabAt B w tb g rp rc vs rows) :
  Calls Try.prog 49 #[.pointer (some ⟨tb, 0, none⟩)] w fun e w' => e = .returned (.int .i64 rows.length) ∧ w = w' := by
 have hz := h.cells
 clear h
 go_enter Try.func49, Try.ntmps49
 go_wp2
 go_ret
 exact ⟨rfl, rfl⟩
set_option maxHeartbeats 8000000 in
set_option maxRecDepth 100000 in
theorem blockLen.calls (h : TabAt B w tb g rp rc vs rows) (i : Nat) (l : List Int) (hl : rows[i]? = some l) :
  Calls Try.prog 36 #[.pointer (some ⟨tb, 0, none⟩), .int .i64 (i : Int)] w fun e w' => e = .returned (.int .i64 l.length) ∧ w = w' := by
 obtain ⟨v, hv⟩ := h.hR.val hl
 obtain ⟨A, c, rfl⟩ := Kd.R_slice (h.hR.hv i v l hv hl)
 have T := aM h
 have HL := aM hl
 have HV := aM hv
 clear h hl hv
 go_enter Try.func36, Try.ntmps36
 go_wp2_with (go_at_call 54; (refine (blockRow.calls T.out i _ l HV.out HL.out).mono ?_); rintro e w1 ⟨rfl, rfl⟩; skip)
 go_ret
 exact ⟨rfl, rfl⟩
set_option maxHeartbeats 8000000 in
set_option maxRecDepth 100000 in
theorem blockLenNo.calls (h : TabAt B w tb g rp rc vs rows) (i : Int) (hi : i < 0 ∨ (rows.length : Int) ≤ i) :
  Calls Try.prog 36 #[.pointer (some ⟨tb, 0, none⟩), .int .i64 i] w fun e w' => e = .returned (.int .i64 0) ∧ w = w' := by
 have T := aM h
 have HI := aM hi
 clear h hi
 go_enter Try.func36, Try.ntmps36
 go_wp2_with (go_at_call 54; (refine (blockRowNo.calls T.out i HI.out).mono ?_); rintro e w1 ⟨rfl, rfl⟩; skip)
 go_ret
 exact ⟨rfl, rfl⟩
set_option maxHeartbeats 8000000 in
set_option maxRecDepth 100000 in
theorem blockAtNo.calls (h : TabAt B w tb g rp rc vs rows) (i : Int) (hi : i < 0 ∨ (rows.length : Int) ≤ i) (j : Int) :
  Calls Try.prog 37 #[.pointer (some ⟨tb, 0, none⟩), .int .i64 i, .int .i64 j] w fun e w' => e = .returned (.tuple #[.pointer none, .int .i64 11]) ∧ w = w' := by
 have T := aM h
 have HI := aM hi
 clear h hi
 go_enter Try.func37, Try.ntmps37
 go_wp2_with (go_at_call 54; (refine (blockRowNo.calls T.out i HI.out).mono ?_); rintro e w1 ⟨rfl, rfl⟩; skip)
 go_ret2
 exact ⟨rfl, rfl⟩
set_option maxHeartbeats 8000000 in
set_option maxRecDepth 100000 in
theorem blockAtBad.calls (h : TabAt B w tb g rp rc vs rows) (i : Nat) (l : List Int) (hl : rows[i]? = some l) (j : Int) (hj : j < 0 ∨ (l.length : Int) ≤ j) :
  Calls Try.prog 37 #[.pointer (some ⟨tb, 0, none⟩), .int .i64 (i : Int), .int .i64 j] w fun e w' => e = .returned (.tuple #[.pointer none, .int .i64 11]) ∧ w = w' := by
 obtain ⟨v, hv⟩ := h.hR.val hl
 obtain ⟨A, c, rfl⟩ := Kd.R_slice (h.hR.hv i v l hv hl)
 have T := aM h
 have HL := aM hl
 have HV := aM hv
 clear h hl hv
 by_cases q : j < 0
 ·
  have d1 : decide (j < 0) = true := decide_eq_true q
  go_enter Try.func37, Try.ntmps37
  go_wp2_with (go_at_call 54; (refine (blockRow.calls T.out i _ l HV.out HL.out).mono ?_); rintro e w1 ⟨rfl, rfl⟩; skip)
  go_ret2
  exact ⟨rfl, rfl⟩
 ·
  have d1 : decide (j < 0) = false := decide_eq_false q
  have d2 : decide ((l.length : Int) ≤ j) = true := decide_eq_true (by omega)
  go_enter Try.func37, Try.ntmps37
  go_wp2_with (go_at_call 54; (refine (blockRow.calls T.out i _ l HV.out HL.out).mono ?_); rintro e w1 ⟨rfl, rfl⟩; skip)
  go_ret2
  exact ⟨rfl, rfl⟩
set_option maxHeartbeats 8000000 in
set_option maxRecDepth 100000 in
theorem blockAddNo.calls (h : TabAt B w tb g rp rc vs rows) (i : Int) (hi : i < 0 ∨ (rows.length : Int) ≤ i) (p : Option Addr) :
  Calls Try.prog 33 #[.pointer (some ⟨tb, 0, none⟩), .int .i64 i, .pointer p] w fun e w' => e = .returned (.int .i64 11) ∧ w = w' := by
 have T := aM h
 have HI := aM hi
 clear h hi
 go_enter Try.func33, Try.ntmps33
 go_wp2_with (go_at_call 54; (refine (blockRowNo.calls T.out i HI.out).mono ?_); rintro e w1 ⟨rfl, rfl⟩; skip)
 go_ret
 exact ⟨rfl, rfl⟩
set_option maxHeartbeats 8000000 in
set_option maxRecDepth 100000 in
theorem blockAddFull.calls {s : Nat} {L : List Slot} {f : Int} (h : TabAt B w tb g rp rc vs rows) (hp : PoolAt w g s L f) (hfull : ∀ x ∈ L, ¬ x.refs = 0) (i : Nat) (l : List Int) (hl : rows[i]? = some l) (p : Option Addr) :
  Calls Try.prog 33 #[.pointer (some ⟨tb, 0, none⟩), .int .i64 (i : Int), .pointer p] w fun e w' => e = .returned (.int .i64 23) ∧ w = w' := by
 obtain ⟨v, hv⟩ := h.hR.val hl
 obtain ⟨A, c, rfl⟩ := Kd.R_slice (h.hR.hv i v l hv hl)
 have hz := h.cells
 have T := aM h
 have HL := aM hl
 have HV := aM hv
 have P := aM hp
 have HF := aM hfull
 clear h hl hv hp hfull
 go_enter Try.func33, Try.ntmps33
 go_wp2_with (first | (go_at_call 54; (refine (blockRow.calls T.out i _ l HV.out HL.out).mono ?_); rintro e w1 ⟨rfl, rfl⟩; skip) | (go_at_call 21; (refine (poolPutFull.calls g s L f p HF.out _ P.out).mono ?_); rintro e w2 ⟨rfl, rfl⟩; skip))
 go_ret
 exact ⟨rfl, rfl⟩
end
def bat.T4 : Bool × List (List Nat × List Nat) := (true, [([], []), ([0], [0]), ([1], [1]), ([2], [2]), ([], []), ([], []), ([4, 5], [4, 5]), ([6], [6]), ([3, 7], [3, 7]), ([8], [8]), ([8], [8]), ([9, 8, 0, 1, 2, 3, 4, 5, 6, 7, 8, 9, 10], [9]), ([10, 11, 0, 1, 2, 3, 4, 5, 6, 7, 8, 9, 10, 11], [10])])
def bat.B4 : List Nat := [0, 1, 3, 7, 0, 0, 48, 112, 255, 511, 511, 2047, 4095]
theorem bat.tab4 : rtab .any (opsOf Try.f37 4) = bat.T4 := by kernel_rfl
theorem bat.bits4 : waitsOk bat.T4.2 bat.B4 = true := by kernel_rfl
def badd.T6 : Bool × List (List Nat × List Nat) := (true, [([], []), ([0], [0]), ([1], [1]), ([2], [2]), ([], []), ([], []), ([5], [5]), ([6], [6]), ([7], [7]), ([], []), ([8, 9], [8, 9]), ([10], [10]), ([], []), ([12], [12]), ([11, 13], [11, 13]), ([3, 4, 0, 1, 2, 3, 4, 5, 6, 7, 8, 9, 10, 11, 12, 13, 14], [3, 4]), ([15, 14, 14, 0, 1, 2, 3, 4, 5, 6, 7, 8, 9, 10, 11, 12, 13, 14], [14, 15])])
def badd.B6 : List Nat := [0, 1, 3, 7, 0, 0, 32, 96, 224, 0, 992, 2016, 0, 4096, 16352, 32767, 65535]
theorem badd.tab6 : rtab .any (opsOf Try.f33 6) = badd.T6 := by kernel_rfl
theorem badd.bits6 : waitsOk badd.T6.2 badd.B6 = true := by kernel_rfl
theorem TabAt.drew {B : Nat} {W : World} {tb g : Nat} {rp : Option Addr} {rc : Nat} {vs : List Value} {rows : List (List Int)} (h : TabAt B W tb g rp rc vs rows) : TabAt B W.drew tb g rp rc vs rows := h.below (below_drew1 (Below.refl _ _))
theorem RowsAt.item {B : Nat} {W : World} {rp : Option Addr} {vs : List Value} {rows : List (List Int)} (h : RowsAt B W rp vs rows) {i : Nat} {l : List Int} {ad : Addr} {c : Nat} (hv : vs[i]? = some (.slice (some ad) l.length c)) (hl : rows[i]? = some l) {j : Nat} {x : Int} (hx : l[j]? = some x) : W.cell? (ad.add j) = some (.int .i64 x) := by
 have hn := (List.getElem?_eq_some_iff.mp hx).1
 obtain ⟨a, e, hc⟩ := Kd.at_int (Kd.R_reads' (h.hv i _ l hv hl)).2.2 (j : Int) (by omega) (by omega)
 obtain rfl := Option.some.inj e
 rw [Int.toNat_natCast] at hc
 rw [hc]
 simp [rd, List.getD_eq_getElem?_getD, hx]
theorem PoolAt.grown {B : Nat} {W W1 : World} {g s : Nat} {L : List Slot} {f : Int} {v : Value} {l : List Int} {ok : Nat → Prop} (h : PoolAt W g s L f) (hR : Kd.R (Kd.int .i64) 3 W B ok v l) (hg : W.grownBy W1 v.ownBlock) : PoolAt W1 g s L f := by
 refine ⟨h.ne, blk_grown h.hg hg (Kd.R_ne hR h.hg (by decide)), blk_grown h.hs hg (Kd.R_ne hR h.hs (by decide)), fun x hx hr => ?_, h.hn, h.hr, h.hf⟩
 obtain ⟨p, e, hp, n⟩ := h.hp x hx hr
 obtain ⟨-, -, -, -, -, -, -, -, -, -, -, -, -, cs, hd⟩ := id hp
 exact ⟨p, e, hp.same ((blk_grown hd hg (Kd.R_ne hR hd (by decide))).trans hd.symm), n⟩
set_option maxHeartbeats 8000000 in
set_option maxRecDepth 100000 in
theorem blockAt.calls {B : Nat} {w : World} {tb g s : Nat} {L : List Slot} {f : Int} {rp : Option Addr} {rc : Nat} {vs : List Value} {rows : List (List Int)} (h : TabAt B w tb g rp rc vs rows) (hp : PoolAt w g s L f) (i : Nat) (l : List Int) (hl : rows[i]? = some l) (j m : Nat) (hj : l[j]? = some (m : Int)) (x : Slot) (b : Nat) (hx : L[m]? = some x) (hr : ¬ x.refs = 0) (hb : x.pg = some b) :
  Calls Try.prog 37 #[.pointer (some ⟨tb, 0, none⟩), .int .i64 (i : Int), .int .i64 (j : Int)] w fun e w' => e = .returned (.tuple #[.pointer (some ⟨b, 0, none⟩), .int .i64 0]) ∧ Below w.heap.size w w' := by
 obtain ⟨v, hv⟩ := h.hR.val hl
 have hR := h.hR.hv i v l hv hl
 obtain ⟨A, c, rfl⟩ := Kd.R_slice hR
 have hlt : j < l.length := (List.getElem?_eq_some_iff.mp hj).1
 obtain ⟨ad, ea, -⟩ := Kd.at_int (Kd.R_reads' hR).2.2 (j : Int) (by omega) (by omega)
 subst ea
 have d1 : decide ((j : Int) < 0) = false := decide_eq_false (by omega)
 have d2 : decide ((l.length : Int) ≤ (j : Int)) = false := decide_eq_false (by omega)
 have d3 : decide (l.length ≤ j) = false := decide_eq_false (by omega)
 have p1 : (0 : Int) ≤ (j : Int) := by omega
 have p2 : (j : Int) < (l.length : Int) := by omega
 have T := aM h
 have P := aM hp
 have HL := aM hl
 have HV := aM hv
 have HJ := aM hj
 have HX := aM hx
 have HRR := aM hr
 have HBB := aM hb
 have HB := aM (Below.refl w.heap.size w)
 clear h hp hl hv hj hx hr hb hR
 go_enter Try.func37, Try.ntmps37
 go_upto_region 4 with (go_at_call 54; (refine (blockRow.calls T.out i _ l HV.out HL.out).mono ?_); rintro e w1 ⟨rfl, rfl⟩; skip)
 replace T := aM (T.out.drew)
 replace P := aM (P.out.drew)
 replace HB := aM (HB.out.drew)
 refine start_ (n := 13) (S := fun w' => w'.cell? ⟨tb, 0, none⟩ = some (.pointer (some ⟨g, 0, none⟩)) ∧ w'.cell? (ad.add j) = some (.int .i64 (m : Int))) (ds := []) #[false, false, false, false, false, false, false, false, false, false, false, false, false] (by kernel_rfl) rfl rfl ⟨T.out.cells.1, T.out.hR.item HV.out HL.out HJ.out⟩ (fun hHeld => ?_); refine with_tabW bat.tab4 bat.bits4 (fun HT_ HW_ => ?_)
 obtain ⟨w2, hw2⟩ : ∃ w2, w.drew = w2 := ⟨_, rfl⟩; rw [hw2] at T P HB hHeld ⊢; clear hw2
 refine pure_ (i := 0) (N := some 28) (v := ?_) (a' := ?_) #[true, false, false, false, false, false, false, false, false, false, false, false, false] rfl rfl (any_of HT_.out (by kernel_rfl)) (fun _ _ _ h => h) (Or.inl ⟨by rfl, ?_⟩) ?_ ?_
 rotate_left; exact pI; rotate_left; exact pS
 refine pure_ (i := 1) (N := some 29) (v := ?_) (a' := ?_) #[true, true, false, false, false, false, false, false, false, false, false, false, false] rfl rfl (any_of HT_.out (by kernel_rfl)) (fun _ _ _ h => h) (Or.inl ⟨by rfl, ?_⟩) ?_ ?_
 rotate_left; exact pI; rotate_left; exact pS
 refine pure_ (i := 2) (N := some 30) (v := ?_) (a' := ?_) #[true, true, true, false, false, false, false, false, false, false, false, false, false] rfl rfl (any_of HT_.out (by kernel_rfl)) (fun _ _ _ h => h) (Or.inl ⟨by rfl, ?_⟩) ?_ ?_
 rotate_left; exact pI; rotate_left; exact pS
 refine pure_ (i := 4) (N := some 32) (v := ?_) (a' := ?_) #[true, true, true, false, true, false, false, false, false, false, false, false, false] rfl rfl (any_of HT_.out (by kernel_rfl)) (fun _ _ _ h => h) (Or.inl ⟨by rfl, ?_⟩) ?_ ?_
 rotate_left; exact pI; rotate_left; exact pS
 refine pure_ (i := 5) (N := some 33) (v := ?_) (a' := ?_) #[true, true, true, false, true, true, false, false, false, false, false, false, false] rfl rfl (any_of HT_.out (by kernel_rfl)) (fun _ _ _ h => h) (Or.inl ⟨by rfl, ?_⟩) ?_ ?_
 rotate_left; exact pI; rotate_left; exact pS
 refine pure_ (i := 6) (N := some 34) (v := ?_) (a' := ?_) #[true, true, true, false, true, true, true, false, false, false, false, false, false] rfl rfl (any_of HT_.out (by kernel_rfl)) (fun _ _ _ h => h) (Or.inl ⟨by rfl, ?_⟩) ?_ ?_
 rotate_left; exact pI; rotate_left; exact pS
 refine take_ (i := 3) (N := some 31) (v := ?_) (a' := ?_) #[true, true, true, true, true, true, true, false, false, false, false, false, false] rfl rfl (take_ofW HT_.out HW_.out (by kernel_rfl)) (fun _ _ _ h => h) (Or.inl ⟨by rfl, ?_⟩) hHeld ?_ ?_
 rotate_left
 ·
  rintro w' ⟨s0, s1⟩
  go_simp
  with_reducible rfl
 rotate_left
 ·
  exact pS
 refine take_ (i := 7) (N := some 35) (v := ?_) (a' := ?_) #[true, true, true, true, true, true, true, true, false, false, false, false, false] rfl rfl (take_ofW HT_.out HW_.out (by kernel_rfl)) (fun _ _ _ h => h) (Or.inl ⟨by rfl, ?_⟩) hHeld ?_ ?_
 rotate_left
 ·
  rintro w' ⟨s0, s1⟩
  go_simp
  with_reducible rfl
 rotate_left
 ·
  exact pS
 refine one_ (i := 8) (N := some 36) #[true, true, true, true, true, true, true, true, true, false, false, false, false] rfl rfl (one_of HT_.out (by kernel_rfl)) (by decide) (fun K hK => ?_)
 refine goes_ Try.func24 (by kernel_rfl) rfl #[.pointer (some ⟨g, 0, none⟩), .int .i64 (m : Int)] (by rfl) rfl rfl (by simp only [List.map_toArray, List.map_cons, List.map_nil]; rfl) ?_
 with_reducible refine (poolGet.calls g s L f m x b HX.out HRR.out HBB.out _ P.out).mono ?_
 rintro e w7 ⟨rfl, rfl⟩
 refine ⟨_, rfl, ?_⟩
 refine hK.out _ _ ⟨T.out.cells.1, T.out.hR.item HV.out HL.out HJ.out⟩ (fun hHeld => ?_)
 clear hK K
 refine norm_ (a' := ?_) ?_ ?_
 rotate_left
 ·
  show Act.put _ (some 36) _ = _
  simp only [Act.put, List.setIfInBounds_toArray, List.set_cons_zero, List.set_cons_succ, i64_w, i32_w, IntKind.wrap_u32]
  rfl
 refine pure_ (i := 9) (N := some 37) (v := ?_) (a' := ?_) #[true, true, true, true, true, true, true, true, true, true, false, false, false] rfl rfl (any_of HT_.out (by kernel_rfl)) (fun _ _ _ h => h) (Or.inl ⟨by rfl, ?_⟩) ?_ ?_
 rotate_left; exact pI; rotate_left; exact pS
 refine pure_ (i := 10) (N := some 38) (v := ?_) (a' := ?_) #[true, true, true, true, true, true, true, true, true, true, true, false, false] rfl rfl (any_of HT_.out (by kernel_rfl)) (fun _ _ _ h => h) (Or.inl ⟨by rfl, ?_⟩) ?_ ?_
 rotate_left; exact pI; rotate_left; exact pS
 refine pure_ (i := 11) (N := some 6) (v := ?_) (a' := ?_) #[true, true, true, true, true, true, true, true, true, true, true, true, false] rfl rfl (any_of HT_.out (by kernel_rfl)) (fun _ _ _ h => h) (Or.inl ⟨by rfl, ?_⟩) ?_ ?_
 rotate_left; exact pI; rotate_left; exact pS
 refine pure_ (i := 12) (N := some 7) (v := ?_) (a' := ?_) #[true, true, true, true, true, true, true, true, true, true, true, true, true] rfl rfl (any_of HT_.out (by kernel_rfl)) (fun _ _ _ h => h) (Or.inl ⟨by rfl, ?_⟩) ?_ ?_
 rotate_left; exact pI; rotate_left; exact pS
 refine done_ (done_of HT_.out (by kernel_rfl)) ?_
 try go_wp2
 go_ret2
 exact ⟨rfl, HB.out⟩
set_option maxHeartbeats 8000000 in
set_option maxRecDepth 100000 in
theorem blockAdd.calls {B : Nat} {w : World} {tb g s : Nat} {L : List Slot} {f : Int} {rp : Option Addr} {rc : Nat} {vs : List Value} {rows : List (List Int)} (h : TabAt B w tb g rp rc vs rows) (hp : PoolAt w g s L f) (hBw : B ≤ w.heap.size) (hBg : B ≤ g) (hBs : B ≤ s) (i : Nat) (l : List Int) (hl : rows[i]? = some l) (hll : l.length ≤ 100000) (b : Nat) (mk_ : Int) (k : Nat) (y : Slot) (hk : L[k]? = some y) (hy : y.refs = 0) (hbef : ∀ j x, j < k → L[j]? = some x → ¬ x.refs = 0) (hq : PgAt w b mk_) (n1 : b ≠ g) (n2 : b ≠ s) (hf : -999999 ≤ f) :
  Calls Try.prog 33 #[.pointer (some ⟨tb, 0, none⟩), .int .i64 (i : Int), .pointer (some ⟨b, 0, none⟩)] w fun e w' => ∃ vs', e = .returned (.int .i64 0) ∧ PoolAt w' g s (L.set k ⟨1, mk_, some b⟩) (f + -1) ∧ TabAt B w' tb g rp rc vs' (rows.set i (l ++ [(k : Int)])) ∧ Below B w w' ∧ Kept w w' (fun q => (q = g ∨ q = s) ∨ OwnR rp vs q) ∧ ∀ q, OwnR rp vs' q → OwnR rp vs q ∨ w.heap.size ≤ q := by
 obtain ⟨v, hv⟩ := h.hR.val hl
 have hR := h.hR.hv i v l hv hl
 obtain ⟨A, c, rfl⟩ := Kd.R_slice hR
 have hlt : i < rows.length := (List.getElem?_eq_some_iff.mp hl).1
 have d1 : decide ((i : Int) < 0) = false := decide_eq_false (by omega)
 have d2 : decide ((rows.length : Int) ≤ (i : Int)) = false := decide_eq_false (by omega)
 have d3 : decide (rows.length ≤ i) = false := decide_eq_false (by omega)
 have p1 : (0 : Int) ≤ (i : Int) := by omega
 have p2 : (i : Int) < (rows.length : Int) := by omega
 obtain ⟨rb, cs, er, hrb, hBrb, hcs⟩ := h.hR.hc (by omega)
 subst er
 have hz := h.cells
 have T := aM h
 have P := aM hp
 have HL := aM hl
 have HV := aM hv
 have HCS := aM (hcs i _ hv)
 have HRB := aM hrb
 have HLL := aM hll
 have HK := aM hk
 have HY := aM hy
 have HF := aM hbef
 have Q := aM hq
 have N1 : Aside0 (b ≠ g ∧ b ≠ s) := ⟨n1, n2⟩
 have HFF := aM hf
 have HB := aM (Below.refl B w)
 have KP := aM (Kept.refl w (fun q => (q = g ∨ q = s) ∨ OwnR (some ⟨rb, 0, none⟩) vs q))
 have HBB : Aside0 (B ≤ g ∧ B ≤ s ∧ B ≤ w.heap.size ∧ B ≤ rb) := ⟨hBg, hBs, hBw, hBrb⟩
 clear h hp hl hv hR hcs hrb hll hk hy hbef hq n1 n2 hf hBg hBs hBw hBrb
 go_enter Try.func33, Try.ntmps33
 go_upto_region 6 with (first | (go_at_call 54; (refine (blockRow.calls T.out i _ l HV.out HL.out).mono ?_); rintro e w1 ⟨rfl, rfl⟩; skip) | (go_at_call 21; (refine (poolPut.calls g s L f b mk_ k y HK.out HY.out HF.out _ P.out Q.out N1.out.1 N1.out.2 HFF.out).mono ?_); rintro e w3 ⟨rfl, hp, hm⟩; replace HRB := aM (blk_mv HRB.out P.out hm (by decide) (by decide)); replace T := aM (T.out.mv P.out hm); replace HB := aM (HB.out.trans (hm.bel _ HBB.out.1 HBB.out.2.1 HBB.out.2.2.1)); replace KP := aM (KP.out.then_ hm.kept (fun _ hk_ => .inl (.inl hk_))); replace P := aM hp; clear hz hp hm; have hz := T.out.cells))
 have HBS : Aside0 (B ≤ w3.heap.size) := ⟨Nat.le_trans HBB.out.2.2.1 KP.out.1⟩
 clear Q
 clear hz
 replace T := aM (T.out.drew)
 replace P := aM (P.out.drew)
 replace HRB := aM (blk_drew HRB.out)
 replace HB := aM (HB.out.drew)
 replace KP := aM (KP.out.drew)
 refine start_ (n := 17) (S := fun w' => w'.cell? ⟨tb, 1, none⟩ = some (.slice (some ⟨rb, 0, none⟩) rows.length rc) ∧ w'.cell? ⟨rb, i, none⟩ = some (.slice A l.length c)) (ds := [16]) #[false, false, false, false, false, false, false, false, false, false, false, false, false, false, false, false, false] (by kernel_rfl) rfl rfl ⟨T.out.cells.2.1, (blk_cell HRB.out i).trans HCS.out⟩ (fun hHeld => ?_); refine with_tabW badd.tab6 badd.bits6 (fun HT_ HW_ => ?_)
 have HBS4 : Aside0 (B ≤ w3.drew.heap.size) := ⟨HBS.out⟩; generalize w3.drew = w4 at HBS4 T P HRB HB KP hHeld ⊢
 refine pure_ (i := 0) (N := some 30) (v := ?_) (a' := ?_) #[true, false, false, false, false, false, false, false, false, false, false, false, false, false, false, false, false] rfl rfl (any_of HT_.out (by kernel_rfl)) (fun _ _ _ h => h) (Or.inl ⟨by rfl, ?_⟩) ?_ ?_
 rotate_left; exact pI; rotate_left; exact pS
 refine pure_ (i := 1) (N := some 31) (v := ?_) (a' := ?_) #[true, true, false, false, false, false, false, false, false, false, false, false, false, false, false, false, false] rfl rfl (any_of HT_.out (by kernel_rfl)) (fun _ _ _ h => h) (Or.inl ⟨by rfl, ?_⟩) ?_ ?_
 rotate_left; exact pI; rotate_left; exact pS
 refine pure_ (i := 2) (N := some 32) (v := ?_) (a' := ?_) #[true, true, true, false, false, false, false, false, false, false, false, false, false, false, false, false, false] rfl rfl (any_of HT_.out (by kernel_rfl)) (fun _ _ _ h => h) (Or.inl ⟨by rfl, ?_⟩) ?_ ?_
 rotate_left; exact pI; rotate_left; exact pS
 refine pure_ (i := 4) (N := some 34) (v := ?_) (a' := ?_) #[true, true, true, false, true, false, false, false, false, false, false, false, false, false, false, false, false] rfl rfl (any_of HT_.out (by kernel_rfl)) (fun _ _ _ h => h) (Or.inl ⟨by rfl, ?_⟩) ?_ ?_
 rotate_left; exact pI; rotate_left; exact pS
 refine pure_ (i := 5) (N := some 35) (v := ?_) (a' := ?_) #[true, true, true, false, true, true, false, false, false, false, false, false, false, false, false, false, false] rfl rfl (any_of HT_.out (by kernel_rfl)) (fun _ _ _ h => h) (Or.inl ⟨by rfl, ?_⟩) ?_ ?_
 rotate_left; exact pI; rotate_left; exact pS
 refine pure_ (i := 6) (N := some 36) (v := ?_) (a' := ?_) #[true, true, true, false, true, true, true, false, false, false, false, false, false, false, false, false, false] rfl rfl (any_of HT_.out (by kernel_rfl)) (fun _ _ _ h => h) (Or.inl ⟨by rfl, ?_⟩) ?_ ?_
 rotate_left; exact pI; rotate_left; exact pS
 refine pure_ (i := 7) (N := some 37) (v := ?_) (a' := ?_) #[true, true, true, false, true, true, true, true, false, false, false, false, false, false, false, false, false] rfl rfl (any_of HT_.out (by kernel_rfl)) (fun _ _ _ h => h) (Or.inl ⟨by rfl, ?_⟩) ?_ ?_
 rotate_left; exact pI; rotate_left; exact pS
 refine pure_ (i := 9) (N := some 39) (v := ?_) (a' := ?_) #[true, true, true, false, true, true, true, true, false, true, false, false, false, false, false, false, false] rfl rfl (any_of HT_.out (by kernel_rfl)) (fun _ _ _ h => h) (Or.inl ⟨by rfl, ?_⟩) ?_ ?_
 rotate_left; exact pI; rotate_left; exact pS
 refine pure_ (i := 12) (N := some 42) (v := ?_) (a' := ?_) #[true, true, true, false, true, true, true, true, false, true, false, false, true, false, false, false, false] rfl rfl (any_of HT_.out (by kernel_rfl)) (fun _ _ _ h => h) (Or.inl ⟨by rfl, ?_⟩) ?_ ?_
 rotate_left; exact pI; rotate_left; exact pS
 refine take_ (i := 3) (N := some 33) (v := ?_) (a' := ?_) #[true, true, true, true, true, true, true, true, false, true, false, false, true, false, false, false, false] rfl rfl (take_ofW HT_.out HW_.out (by kernel_rfl)) (fun _ _ _ h => h) (Or.inl ⟨by rfl, ?_⟩) hHeld ?_ ?_
 rotate_left
 ·
  rintro w' ⟨s0, s1⟩
  go_simp
  with_reducible rfl
 rotate_left
 ·
  exact pS
 refine take_ (i := 8) (N := some 38) (v := ?_) (a' := ?_) #[true, true, true, true, true, true, true, true, true, true, false, false, true, false, false, false, false] rfl rfl (take_ofW HT_.out HW_.out (by kernel_rfl)) (fun _ _ _ h => h) (Or.inl ⟨by rfl, ?_⟩) hHeld ?_ ?_
 rotate_left
 ·
  rintro w' ⟨s0, s1⟩
  go_simp
  with_reducible rfl
 rotate_left
 ·
  exact pS
 refine pure_ (i := 10) (N := some 40) (v := ?_) (a' := ?_) #[true, true, true, true, true, true, true, true, true, true, true, false, true, false, false, false, false] rfl rfl (any_of HT_.out (by kernel_rfl)) (fun _ _ _ h => h) (Or.inl ⟨by rfl, ?_⟩) ?_ ?_
 rotate_left; exact pI; rotate_left; exact pS
 refine take_ (i := 11) (N := some 41) (v := ?_) (a' := ?_) #[true, true, true, true, true, true, true, true, true, true, true, true, true, false, false, false, false] rfl rfl (take_ofW HT_.out HW_.out (by kernel_rfl)) (fun _ _ _ h => h) (Or.inl ⟨by rfl, ?_⟩) hHeld ?_ ?_
 rotate_left
 ·
  rintro w' ⟨s0, s1⟩
  go_simp
  with_reducible rfl
 rotate_left
 ·
  exact pS
 refine one_ (i := 13) (N := some 43) #[true, true, true, true, true, true, true, true, true, true, true, true, true, true, false, false, false] rfl rfl (one_of HT_.out (by kernel_rfl)) (by decide) (fun K hK => ?_)
 refine value_ (w1 := ?_) (v := ?_) (by rfl) rfl ?_ ?_
 rotate_left 2
 ·
  go_simp
  constructor
  ·
   rfl
  ·
   rfl
 refine hK.out _ _ ⟨(T.out.below (below_alloc (Below.refl _ _) _)).cells.2.1, (blk_cell (blk_alloc HRB.out _) i).trans HCS.out⟩ (fun hHeld => ?_)
 clear hK K
 refine norm_ (a' := ?_) ?_ ?_
 rotate_left
 ·
  show Act.put _ (some 43) _ = _
  simp only [Act.put, List.setIfInBounds_toArray, List.set_cons_zero, List.set_cons_succ, i64_w, i32_w, IntKind.wrap_u32]
  rfl
 refine one_ (i := 14) (N := some 44) #[true, true, true, true, true, true, true, true, true, true, true, true, true, true, true, false, false] rfl rfl (one_of HT_.out (by kernel_rfl)) (by decide) (fun K hK => ?_)
 refine Kd.R_append_step (Kd.int .i64) (w0 := w4) B (by rfl) (.tmp 41) (.tmp 43) 28 3 (.int .i64 0) 8 rfl Try.underlying28 info3 rfl (by decide) (by omega) (.slice A l.length c) l (k : Int) [.int .i64 (k : Int)] (fun _ => True) (fun _ => False) rfl rfl ?aP (fun _ hk => hk.elim) ?aF ?aO (Below.refl _ _) ?aS ?aL ?_
 (case aP => exact rfl)
 (case aF => exact (fun _ _ => trivial))
 (case aO => exact Kd.R_mono (T.out.hR.hv i _ l HV.out HL.out) (fun _ _ => trivial))
 (case aS => exact HBS4.out)
 (case aL => have := HLL.out; omega)
 intro v1 w5 ho hb hg hat
 have ht2 := aM (blk_grown T.out.ht hg (Kd.R_ne (T.out.hR.hv i _ l HV.out HL.out) T.out.ht (by decide)))
 have hr2 := aM (blk_grown HRB.out hg (Kd.R_ne (T.out.hR.hv i _ l HV.out HL.out) HRB.out (by decide)))
 have HRB2 := aM (blk_frozen hr2.out i)
 have P2 := aM (P.out.grown (T.out.hR.hv i _ l HV.out HL.out) hg)
 have HO := aM ho
 have HG := aM hg
 have HAT := aM hat
 obtain ⟨Aw, cw, rfl⟩ := Kd.R_slice ho
 clear ho hb hg hat
 refine hK.out _ _ ⟨(blk_cell ht2.out 1).trans rfl, (blk_cell hr2.out i).trans HCS.out⟩ (fun hHeld => ?_)
 clear hK K
 refine norm_ (a' := ?_) ?_ ?_
 rotate_left
 ·
  show Act.put _ (some 44) _ = _
  simp only [Act.put, List.setIfInBounds_toArray, List.set_cons_zero, List.set_cons_succ, i64_w, i32_w, IntKind.wrap_u32]
  rfl
 refine pure_ (i := 15) (N := some 45) (v := ?_) (a' := ?_) #[true, true, true, true, true, true, true, true, true, true, true, true, true, true, true, true, false] rfl rfl (any_of HT_.out (by kernel_rfl)) (fun _ _ _ h => h) (Or.inl ⟨by rfl, ?_⟩) ?_ ?_
 rotate_left; exact pI; rotate_left; exact pS
 refine last_ (i := 16) (N := none) #[true, true, true, true, true, true, true, true, true, true, true, true, true, true, true, true, true] rfl rfl (one_of HT_.out (by kernel_rfl)) (by decide) (fun K hK => ?_)
 have hcc := (blk_cell hr2.out i).trans HCS.out
 have hcz := HRB2.out
 refine skip_ (w1 := ?_) (by rfl) rfl ?_ ?_
 rotate_left
 ·
  go_simp
  rfl
 refine hK.out _ _ ?_
 clear hK K
 refine done_ (done_of HT_.out (by kernel_rfl)) ?_
 obtain ⟨hT, hkp, hown⟩ := RowsAt.put T.out.hR HV.out HL.out HG.out HO.out HAT.out
 have hcell : (w5.setCell ⟨rb, i, none⟩ (.slice Aw (l ++ [(k : Int)]).length cw)).heap[tb]? = some (.cells #[.pointer (some ⟨g, 0, none⟩), .slice (some ⟨rb, 0, none⟩) rows.length rc] 100 (0, 0)) := blk_far ht2.out (p := ⟨rb, i, none⟩) (blk_ne ht2.out hr2.out (by decide)) _
 have TT : Aside0 (TabAt B (w5.setCell ⟨rb, i, none⟩ (.slice Aw (l ++ [(k : Int)]).length cw)) tb g (some ⟨rb, 0, none⟩) rc (vs.set i (.slice Aw (l ++ [(k : Int)]).length cw)) (rows.set i (l ++ [(k : Int)]))) := ⟨by rw [List.length_set]; exact hcell, hT, by rw [List.length_set]; exact T.out.hn, T.out.hB⟩
 have PP := aM (P2.out.beside hr2.out (by decide) i (.slice Aw (l ++ [(k : Int)]).length cw))
 have HBE : Aside0 (Below B w (w5.setCell ⟨rb, i, none⟩ (.slice Aw (l ++ [(k : Int)]).length cw))) := ⟨(HB.out.grown HG.out HBS4.out (fun q hq => Kd.R_base (T.out.hR.hv i _ l HV.out HL.out) q hq)).setCell (p := ⟨rb, i, none⟩) HBB.out.2.2.2 _⟩
 have KK := aM (KP.out.then_ hkp (fun _ hk_ => .inl (.inr hk_)))
 have OO := aM (fun q (hq : OwnR (some ⟨rb, 0, none⟩) (vs.set i (.slice Aw (l ++ [(k : Int)]).length cw)) q) => (hown q hq).imp id (fun h_ => Nat.le_trans KP.out.1 h_))
 clear hT hkp hown hcell
 try go_wp2
 go_ret
 have hlen : (l ++ [(k : Int)]).length = l.length + 1 := by simp
 rw [hlen] at PP TT HBE KK OO
 exact ⟨_, rfl, PP.out, TT.out, HBE.out, KK.out, OO.out⟩
def clone28.f (l0 : List Int) : Option (List Int) := if l0.length < 17592186044416 then some l0 else none
set_option maxHeartbeats 8000000 in
set_option maxRecDepth 100000 in
theorem clone28.calls (A0 : Option Addr) (c0 : Nat) (l0 : List Int) (r : List Int) (w : World) (hr0 : Kd.C (Kd.int .i64) w A0 l0.length l0) (hc0 : l0.length ≤ c0) (h : clone28.f l0 = some r) :
  Calls Try.prog 52 #[.slice A0 l0.length c0] w fun e w' => ∃ v0_ : Value, e = .returned (v0_) ∧ Kd.R (Kd.int .i64) 3 w' w.heap.size (fun _ => True) v0_ r ∧ Below w.heap.size w w' := by
 unfold clone28.f at h
 by_cases hlim : l0.length < 17592186044416
 ·
  rw [if_pos hlim] at h
  obtain rfl := Option.some.inj h
  clear h
  have HR0 := aM hr0
  have HL := aM hlim
  have hz := hr0.2.2
  clear hr0 hlim hc0
  have hcmp : ∀ W : World, (binOp .eql 28 (.slice A0 l0.length c0) (.slice none 0 0)).run Try.prog W = .ok (.bool A0.isNone) W := fun W => Lib.run_eql_slice_nil W _ _ A0 _ _ _ _ Try.underlying28
  cases A0 with
  | none =>
   have hl0 : l0 = [] := by
    rcases Nat.eq_zero_or_pos l0.length with h0 | h0
    ·
     exact List.eq_nil_of_length_eq_zero h0
    ·
     obtain ⟨ad, had, _⟩ := hz h0
     cases had
   subst hl0
   clear hz
   simp only [List.length_nil, Option.isNone_none] at hcmp
   have HB := aM (Below.refl w.heap.size w)
   go_enter Try.func52, Try.ntmps52
   go_wp2
   go_ret
   exact ⟨_, rfl, Kd.R_nil _ _ _ _ _, HB.out⟩
  | some ad =>
   clear hz
   simp only [Option.isNone_some] at hcmp
   have HB := aM (Below.refl w.heap.size w)
   go_enter Try.func52, Try.ntmps52
   go_wp2_with (first | ((with_reducible refine gate_dst (N := 5) rfl ?_); (try (refine gate_guard (by rfl) ?_; dsimp only)); refine Kd.R_lit (Kd.int .i64) _ 3 ?hg (N := 5) ?hd (xs := ([] : List Int)) (inner := []) (ok := fun _ => True) (okp := fun _ => True) ?hr ?hp (fun _ hk => hk) trivial (Below.refl _ _) (Nat.le_refl _) (by simp) ?_; (case hd => rfl); (case hg => rfl); (case hr => first | (go_simp; done) | (go_simp; rfl)); (case hp => exact (Reps.none _ _)); intro v188 w10 ho11 hb hg_ hnew_; clear hg_ hnew_; have n0_ := aM (Kd.R_lower ho11 (below_size HB.out)); have n1_ := aM (below_step HB.out hb); clear HB; have HO189 := n0_; have HB := n1_; clear n0_ n1_; clear hb ho11) | ((with_reducible refine gate_builtin (b := .append) (xs := #[.tmp 5, .tmp 6]) rfl ?_); (try (refine gate_guard (by rfl) ?_; dsimp only)); at_builtin; refine Kd.R_append_rows (Kd.int .i64) (w0 := w) w.heap.size rfl (.tmp 5) (.tmp 6) 28 3 (.int .i64 0) 8 rfl Try.underlying28 info3 rfl (by decide) (by omega) v188 [] l0 _ _ _ (fun _ => True) (fun _ => False) rfl rfl ?aO ?aR (fun _ _ h => h) (fun _ h => h.elim) ?aF ?aB ?aS ?aL ?_; (case aR => exact (Kd.C_below HR0.out HB.out)); (case aB => exact HB.out); (case aF => exact (fun _ _ => trivial)); (case aO => exact HO189.out); (case aS => exact (below_size HB.out)); (case aL => have := HL.out; simp; omega); intro v191 w12 ho hb hg hat; have n0_ := aM (hb); have n1_ := aM (ho); clear HB; clear HO189; have HB := n0_; have HO192 := n1_; clear n0_ n1_; clear ho hb hg hat))
   go_ret
   exact ⟨_, rfl, by simpa using HO192.out, HB.out⟩
 ·
  rw [if_neg hlim] at h
  cases h
set_option maxHeartbeats 8000000 in
set_option maxRecDepth 100000 in
theorem growNil.calls (n : Nat) (hn : n ≤ 1000000) (w : World) :
  Calls Try.prog 64 #[.slice none 0 0, .int .i64 (n : Int)] w fun e w' => ∃ v0_ : Value, e = .returned v0_ ∧ Kd.R (Kd.int .i64) 3 w' w.heap.size (fun _ => True) v0_ [] ∧ Below w.heap.size w w' := by
 have d1 : decide ((n : Int) < 0) = false := decide_eq_false (by omega)
 have hw : wrap64 (n : Int) = n := by simp only [wrap64]; omega
 have HN := aM hn
 by_cases q : n = 0
 ·
  subst q
  go_enter Try.func64, Try.ntmps64
  go_wp2
  go_ret
  exact ⟨_, rfl, Kd.R_nil _ _ _ _ _, Below.refl _ _⟩
 ·
  have d2 : decide (0 < (n : Int)) = true := decide_eq_true (by omega)
  have d3 : decide (0 < n) = true := decide_eq_true (by omega)
  have hu28 := Try.underlying28
  go_enter Try.func64, Try.ntmps64
  go_wp2_with (first | ((with_reducible refine gate_builtin (b := .append) (xs := #[.tmp 20, .tmp 21]) rfl ?_); at_builtin; refine Kd.R_append_zeros (Kd.int .i64) (w0 := w) w.heap.size rfl (.tmp 20) (.tmp 21) 28 3 3 (.int .i64 0) 8 rfl Try.underlying28 Try.underlying3 info3 rfl (by decide) (by omega) (.slice none 0 0) [] 0 (n : Int) (fun _ => True) rfl rfl rfl (fun _ _ => trivial) (Kd.R_nil _ _ _ _ _) (by omega) (Below.refl _ _) (Nat.le_refl _) (by have := HN.out; simp; omega) ?_; intro v1 w1 ho hb hg hat; obtain ⟨Aw, cw, rfl⟩ := Kd.R_slice ho; have HO := aM ho; have HB := aM hb; clear ho hb hg hat))
  go_ret
  exact ⟨_, rfl, by have h := Kd.R_take (m := 0) HO.out (Nat.zero_le _); rwa [List.take_zero] at h, HB.out⟩
theorem flat_take {rows : List (List Int)} {i : Nat} {l : List Int} (h : rows[i]? = some l) : (rows.take (i + 1)).flatten = (rows.take i).flatten ++ l := by
 have hi := (List.getElem?_eq_some_iff.mp h).1
 rw [List.take_succ_eq_append_getElem hi, List.flatten_append]
 congr 1
 rw [List.getElem?_eq_getElem hi] at h
 rw [Option.some.inj h]
 simp
theorem flat_le (rows : List (List Int)) (i : Nat) : (rows.take i).flatten.length ≤ rows.flatten.length := by
 have h : rows.flatten = (rows.take i).flatten ++ (rows.drop i).flatten := by rw [← List.flatten_append, List.take_append_drop]
 rw [h, List.length_append]
 omega
set_option maxHeartbeats 8000000 in
set_option maxRecDepth 100000 in
theorem concat.calls {B : Nat} {w : World} {rp : Option Addr} {rc : Nat} {vs : List Value} {rows : List (List Int)} (h : RowsAt B w rp vs rows) (hn : rows.length ≤ 1000) (hf : rows.flatten.length ≤ 100000) :
  Calls Try.prog 53 #[.slice rp rows.length rc] w fun e w' => ∃ v0_ : Value, e = .returned v0_ ∧ Kd.R (Kd.int .i64) 3 w' w.heap.size (fun _ => True) v0_ rows.flatten ∧ Below w.heap.size w w' := by
 have T := aM h
 have T0 := aM h
 have HN := aM hn
 have HF := aM hf
 have HB := aM (Below.refl w.heap.size w)
 clear h hn hf
 go_enter Try.func53, Try.ntmps53
 go_wp2
 go_loopw [3, 11] (fun z i W' => ∃ (j c : Nat), j ≤ rows.length ∧ i = .int .i64 j ∧ z = .int .i64 c ∧ Aside0 (c = (rows.take j).flatten.length) ∧ Aside0 (w = W')) (fun _ i _ => rows.length - (intOf i).toNat)
 case atStart => exact ⟨0, 0, Nat.zero_le _, rfl, rfl, ⟨rfl⟩, ⟨rfl⟩⟩
 case round =>
  obtain ⟨j, z, hj, rfl, rfl, HZ, HW⟩ := hrel
  obtain rfl := HW.out
  by_cases q : j < rows.length
  ·
   have d1 : decide ((j : Int) < (rows.length : Int)) = true := decide_eq_true (by omega)
   have d2 : decide (j < rows.length) = true := decide_eq_true q
   have p0 : (0 : Int) ≤ (j : Int) := by omega
   have p1 : (j : Int) < (rows.length : Int) := by omega
   obtain ⟨l, hl⟩ : ∃ l, rows[j]? = some l := ⟨_, List.getElem?_eq_getElem q⟩
   obtain ⟨v, hv⟩ := T.out.val hl
   obtain ⟨A, c, rfl⟩ := Kd.R_slice (T.out.hv j v l hv hl)
   obtain ⟨rb, e, hc, -⟩ := T.out.cell hv
   subst e
   have hw : wrap64 ((j : Int) + 1) = (j : Int) + 1 := by have := HN.out; simp only [wrap64]; omega
   have HZ1 : Aside0 (z + l.length = (rows.take (j + 1)).flatten.length) := ⟨by rw [HZ.out, flat_take hl, List.length_append]⟩
   have hzl : z + l.length ≤ 100000 := by rw [HZ1.out]; exact Nat.le_trans (flat_le rows (j + 1)) HF.out
   have hw2 : wrap64 ((z : Int) + (l.length : Int)) = ((z + l.length : Nat) : Int) := by simp only [wrap64]; omega
   have d3 : decide (((z + l.length : Nat) : Int) < 0) = false := decide_eq_false (by omega)
   clear hl hv hzl
   obtain ⟨z1, hz1⟩ : ∃ z1, z + l.length = z1 := ⟨_, rfl⟩
   rw [hz1] at hw2 d3 HZ1
   clear hz1
   go_wp2
   rw [hw, hw2]
   exact ⟨⟨j + 1, z1, by omega, rfl, rfl, HZ1, ⟨trivial⟩⟩, by simp only [intOf]; omega⟩
  ·
   have d1 : decide ((j : Int) < (rows.length : Int)) = false := decide_eq_false (by omega)
   have d2 : decide (j < rows.length) = false := decide_eq_false q
   obtain rfl : j = rows.length := by omega
   rw [List.take_length] at HZ
   have hzb : z ≤ 1000000 := by rw [HZ.out]; have := HF.out; omega
   clear HZ
   go_upto_region 10 with (go_at_call 64; (refine (growNil.calls z hzb _).mono ?_); rintro e w1 ⟨v0, rfl, hr, hb⟩; have HO := aM hr; replace HB := aM (below_step HB.out hb); replace T := aM (T.out.below hb); clear hr hb)
   replace HO := aM (Kd.R_lower HO.out (below_size (Below.refl w.heap.size w)))
   clear d1 d2 hzb HW
   go_wp2
   go_loopw [6, 27] (fun v i W' => ∃ (j : Nat), j ≤ rows.length ∧ i = .int .i64 j ∧ Aside0 (Kd.R (Kd.int .i64) 3 W' w.heap.size (fun _ => True) v (rows.take j).flatten) ∧ Aside0 (RowsAt B W' rp vs rows) ∧ Aside0 (Below w.heap.size w W')) (fun _ i _ => rows.length - (intOf i).toNat)
   case atStart => exact ⟨0, Nat.zero_le _, rfl, HO, T, HB⟩
   case round =>
    clear HB T HO
    obtain ⟨j, hj, rfl, HO, T, HB⟩ := hrel
    by_cases q : j < rows.length
    ·
     have d1 : decide ((j : Int) < (rows.length : Int)) = true := decide_eq_true (by omega)
     have d2 : decide (j < rows.length) = true := decide_eq_true q
     have p0 : (0 : Int) ≤ (j : Int) := by omega
     have p1 : (j : Int) < (rows.length : Int) := by omega
     obtain ⟨l, hl⟩ : ∃ l, rows[j]? = some l := ⟨_, List.getElem?_eq_getElem q⟩
     obtain ⟨v, hv⟩ := T.out.val hl
     obtain ⟨A, c, rfl⟩ := Kd.R_slice (T.out.hv j v l hv hl)
     obtain ⟨rb, e, hc, -⟩ := T.out.cell hv
     subst e
     have hw : wrap64 ((j : Int) + 1) = (j : Int) + 1 := by have := HN.out; simp only [wrap64]; omega
     have HFT := aM (flat_take hl)
     have HLL : Aside0 ((rows.take j).flatten.length + l.length ≤ 100000) := ⟨by have h_ := flat_le rows (j + 1); rw [flat_take hl, List.length_append] at h_; exact Nat.le_trans h_ HF.out⟩
     have HC := aM (Kd.R_reads' (T.out.hv j _ l hv hl)).2.2
     obtain ⟨acc, ha⟩ : ∃ acc, (rows.take j).flatten = acc := ⟨_, rfl⟩
     rw [ha] at HO HFT HLL
     clear hl hv ha
     go_upto_region 14 with ((with_reducible refine gate_builtin (b := .append) (xs := #[.tmp 31, .tmp 32]) rfl ?_); at_builtin; refine Kd.R_append_rows (Kd.int .i64) (w0 := w) w.heap.size rfl (.tmp 31) (.tmp 32) 28 3 (.int .i64 0) 8 rfl Try.underlying28 info3 rfl (by decide) (by omega) u6 acc l _ _ _ (fun _ => True) (fun _ => False) rfl rfl ?aO ?aR (fun _ _ h => h) (fun _ h => h.elim) ?aF ?aB ?aS ?aL ?_; (case aR => exact HC.out); (case aB => exact HB.out); (case aF => exact (fun _ _ => trivial)); (case aO => exact HO.out); (case aS => exact (below_size HB.out)); (case aL => have := HLL.out; omega); intro v191 w12 ho hb hg hat; have HO1 := aM ho; replace HB := aM hb; have HG := aM hg; clear ho hb hg hat)
     go_wp2
     rw [hw]
     exact ⟨⟨j + 1, by omega, rfl, ⟨by rw [HFT.out]; exact HO1.out⟩, ⟨T0.out.below HB.out⟩, HB⟩, by simp only [intOf]; omega⟩
    ·
     have d1 : decide ((j : Int) < (rows.length : Int)) = false := decide_eq_false (by omega)
     have d2 : decide (j < rows.length) = false := decide_eq_false q
     obtain rfl : j = rows.length := by omega
     rw [List.take_length] at HO
     go_wp2
     go_ret
     exact ⟨_, rfl, HO.out, HB.out⟩
section
variable {B : Nat} {w : World} {tb g : Nat} {rp : Option Addr} {rc : Nat} {vs : List Value} {rows : List (List Int)}
set_option maxHeartbeats 8000000 in
set_option maxRecDepth 100000 in
theorem blockSlots.calls (h : TabAt B w tb g rp rc vs rows) (hf : rows.flatten.length ≤ 100000) :
  Calls Try.prog 32 #[.pointer (some ⟨tb, 0, none⟩)] w fun e w' => ∃ v0_ : Value, e = .returned v0_ ∧ Kd.R (Kd.int .i64) 3 w' w.heap.size (fun _ => True) v0_ rows.flatten ∧ Below w.heap.size w w' := by
 have hz := h.cells
 have T := aM h
 have HF := aM hf
 clear h hf
 go_enter Try.func32, Try.ntmps32
 go_wp2_with (go_at_call 53; (refine (concat.calls (rc := rc) T.out.hR (by have := T.out.hn; omega) HF.out).mono ?_); rintro e w1 ⟨v0, rfl, hr, hb⟩; have HO := aM hr; have HB := aM hb; clear hr hb)
 go_ret
 exact ⟨_, rfl, HO.out, HB.out⟩
end
/-- Calls of Drop, one for each number. -/
inductive DropsI (L : List Slot) (f : Int) : List Int → List Slot → Int → Prop
 | nil : DropsI L f [] L f
 | snoc {ids : List Int} {L1 : List Slot} {f1 id : Int} {L2 : List Slot} {f2 e : Int} : DropsI L f ids L1 f1 → DropR L1 f1 id L2 f2 e → DropsI L f (ids ++ [id]) L2 f2
inductive HoldsI (L : List Slot) (f : Int) : List Int → List Slot → Int → Prop
 | nil : HoldsI L f [] L f
 | snoc {ids : List Int} {L1 : List Slot} {f1 id : Int} {L2 : List Slot} {f2 e : Int} : HoldsI L f ids L1 f1 → HoldR L1 f1 id L2 f2 e → HoldsI L f (ids ++ [id]) L2 f2
theorem DropsI.top {L L' : List Slot} {f f' : Int} {ids : List Int} (h : DropsI L f ids L' f') : f' ≤ f + ids.length := by
 induction h with
 | nil => simp
 | snoc _ hd ih =>
  rw [List.length_append]
  rcases hd with ⟨n, x, rfl, hx, hz, rfl, rfl, -⟩ | ⟨-, rfl, rfl, -⟩
  ·
   split <;> simp <;> omega
  ·
   simp; omega
theorem HoldsI.top {L L' : List Slot} {f f' : Int} {ids : List Int} (h : HoldsI L f ids L' f') : f' = f ∧ ∀ c : Int, 0 ≤ c → (∀ x ∈ L, x.refs ≤ c) → ∀ x ∈ L', x.refs ≤ c + ids.length := by
 induction h with
 | nil => exact ⟨rfl, fun c _ h x hx => by have := h x hx; simp; omega⟩
 | snoc _ hd ih =>
  rcases hd with ⟨n, x, rfl, hx, hz, rfl, rfl, -⟩ | ⟨-, rfl, rfl, -⟩
  ·
   refine ⟨ih.1, fun c h0 h y hy => ?_⟩
   rw [List.length_append]
   rcases List.mem_or_eq_of_mem_set hy with hy | rfl
   ·
    have := ih.2 c h0 h y hy; simp; omega
   ·
    have := ih.2 c h0 h x (List.mem_of_getElem? hx); simp; omega
  ·
   exact ⟨ih.1, fun c h0 h y hy => by have := ih.2 c h0 h y hy; rw [List.length_append]; simp; omega⟩
theorem R_mv {W W' : World} {B : Nat} {ok : Nat → Prop} {v : Value} {l : List Int} {g s : Nat} {L : List Slot} {f : Int} (h : Kd.R (Kd.int .i64) 3 W B ok v l) (hp : PoolAt W g s L f) (hm : Mv g s W W') : Kd.R (Kd.int .i64) 3 W' B (fun k => some k = v.ownBlock) v l :=
 Kd.R_kept (Kd.R_tight rfl h) hm.kept (fun k hk e => e.elim (fun e => Kd.R_ne h hp.hg (by decide) (by rw [← e]; exact hk)) (fun e => Kd.R_ne h hp.hs (by decide) (by rw [← e]; exact hk)))
theorem take_next {l : List Int} {j : Nat} {x : Int} (h : l[j]? = some x) : l.take (j + 1) = l.take j ++ [x] := by
 have hj := (List.getElem?_eq_some_iff.mp h).1
 rw [List.take_succ_eq_append_getElem hj]
 rw [List.getElem?_eq_getElem hj] at h
 rw [Option.some.inj h]
section
variable {B : Nat} {w : World} {tb g s : Nat} {L : List Slot} {f : Int} {rp : Option Addr} {rc : Nat} {vs : List Value} {rows : List (List Int)}
set_option maxHeartbeats 8000000 in
set_option maxRecDepth 100000 in
theorem blockClear.calls (h : TabAt B w tb g rp rc vs rows) (hp : PoolAt w g s L f) (hBw : B ≤ w.heap.size) (hBg : B ≤ g) (hBs : B ≤ s) (hf : rows.flatten.length ≤ 1000) (hff : f ≤ 100000) :
  Calls Try.prog 35 #[.pointer (some ⟨tb, 0, none⟩)] w fun e w' => ∃ L' f' rb', e = .returned (.tuple #[]) ∧ DropsI L f rows.flatten L' f' ∧ PoolAt w' g s L' f' ∧ TabAt B w' tb g (some ⟨rb', 0, none⟩) rows.length (List.replicate rows.length (.slice none 0 0)) (List.replicate rows.length []) ∧ Below B w w' ∧ Kept w w' (fun q => (q = g ∨ q = s) ∨ q = tb) ∧ w.heap.size ≤ rb' := by
 have T := aM h
 have P := aM hp
 have HF := aM hf
 have HFF := aM hff
 have HBB : Aside0 (B ≤ g ∧ B ≤ s ∧ B ≤ w.heap.size) := ⟨hBg, hBs, hBw⟩
 have HB := aM (Below.refl B w)
 have KP := aM (Kept.refl w (fun q => (q = g ∨ q = s) ∨ q = tb))
 clear h hp hf hff hBw hBg hBs
 obtain ⟨ids, hids⟩ : ∃ ids, rows.flatten = ids := ⟨_, rfl⟩
 rw [hids] at HF ⊢
 have HID := aM hids
 clear hids
 go_enter Try.func35, Try.ntmps35
 go_wp2_with (go_at_call 32; (refine (blockSlots.calls T.out (by rw [HID.out]; have := HF.out; omega)).mono ?_); rintro e w1 ⟨v0, rfl, hr, hb⟩; rw [HID.out] at hr; obtain ⟨Ai, ci, rfl⟩ := Kd.R_slice hr; have HO := aM (Kd.R_tight rfl (Kd.R_lower hr HBB.out.2.2)); replace T := aM (T.out.below hb); replace P := aM (P.out.below hb); replace HB := aM (HB.out.trans (hb.mono HBB.out.2.2)); replace KP := aM (KP.out.below hb); clear hr hb)
 go_loopw [7] (fun i W' => ∃ (j : Nat) (L1 : List Slot) (f1 : Int), i = .int .i64 j ∧ Aside0 (j ≤ ids.length ∧ DropsI L f (ids.take j) L1 f1) ∧ Aside0 (PoolAt W' g s L1 f1) ∧ Aside0 (TabAt B W' tb g rp rc vs rows) ∧ Aside0 (Kd.R (Kd.int .i64) 3 W' B (fun k => some k = (Value.slice Ai ids.length ci).ownBlock) (.slice Ai ids.length ci) ids) ∧ Aside0 (Below B w W') ∧ Aside0 (Kept w W' (fun q => (q = g ∨ q = s) ∨ q = tb))) (fun i _ => ids.length - (intOf i).toNat)
 case atStart => exact ⟨0, L, f, rfl, ⟨Nat.zero_le _, by rw [List.take_zero]; exact DropsI.nil⟩, P, T, HO, HB, KP⟩
 case round =>
  clear HB P T HO KP
  obtain ⟨j, L1, f1, rfl, HJ, P, T, HO, HB, KP⟩ := hrel
  have hz := T.out.cells
  by_cases q : j < ids.length
  ·
   have d1 : decide ((j : Int) < (ids.length : Int)) = true := decide_eq_true (by omega)
   have d2 : decide (j < ids.length) = true := decide_eq_true q
   have p0 : (0 : Int) ≤ (j : Int) := by omega
   have p1 : (j : Int) < (ids.length : Int) := by omega
   have hw : wrap64 ((j : Int) + 1) = (j : Int) + 1 := by have := HF.out; simp only [wrap64]; omega
   obtain ⟨x, hx⟩ : ∃ x, ids[j]? = some x := ⟨_, List.getElem?_eq_getElem q⟩
   obtain ⟨ad, ea, hc⟩ := Kd.at_int (Kd.R_reads' HO.out).2.2 (j : Int) p0 p1
   subst ea
   have hrd : rd ids (j : Int) = x := by simp [rd, List.getD_eq_getElem?_getD, hx]
   rw [hrd, Int.toNat_natCast] at hc
   have HX := aM hx
   have HDT := aM (DropsI.top HJ.out.2)
   clear hx hrd
   go_upto_region 4 with (go_at_call 27; (refine (poolDropAny.calls g s L1 f1 x _ P.out (by have h_ := HDT.out; rw [List.length_take] at h_; have := HF.out; have := HFF.out; omega)).mono ?_); rintro e w3 ⟨L2, f2, e2, rfl, hp, hm, hrel2⟩; replace HO := aM (R_mv HO.out P.out hm); replace T := aM (T.out.mv P.out hm); replace HB := aM (HB.out.trans (hm.bel _ HBB.out.1 HBB.out.2.1 (Nat.le_trans HBB.out.2.2 KP.out.1))); replace KP := aM (KP.out.then_ hm.kept (fun _ hk_ => .inl (.inl hk_))); replace P := aM hp; have REL := aM hrel2; clear hz hc hp hm hrel2)
   go_wp2
   rw [hw]
   exact ⟨⟨j + 1, L2, f2, rfl, ⟨by omega, by rw [take_next HX.out]; exact DropsI.snoc HJ.out.2 REL.out⟩, P, T, HO, HB, KP⟩, by simp only [intOf]; omega⟩
  ·
   have d1 : decide ((j : Int) < (ids.length : Int)) = false := decide_eq_false (by omega)
   have d2 : decide (j < ids.length) = false := decide_eq_false q
   obtain rfl : j = ids.length := by have := HJ.out.1; omega
   have HD : Aside0 (DropsI L f ids L1 f1) := ⟨by have h_ := HJ.out.2; rwa [List.take_length] at h_⟩
   clear HJ q
   have hmk := rows_made rows.length (by have := T.out.hn; omega) wr
   have hz2 : (wr.alloc (.cells (Array.replicate rows.length (Value.slice none 0 0)) 28)).cell? ⟨tb, 1, none⟩ = some (.slice rp rows.length rc) := (T.out.below (below_alloc (Below.refl _ _) _)).cells.2.1
   have hz3 : (wr.alloc (.cells (Array.replicate rows.length (Value.slice none 0 0)) 28)).frozen? ⟨tb, 1, none⟩ = false := (T.out.below (below_alloc (Below.refl _ _) _)).cells.2.2 1
   go_wp2
   refine bodyPost_end (results_none rfl _ _ _) rfl ?_
   have T2 := T.out.below (below_alloc (Below.refl wr.heap.size wr) (.cells (Array.replicate rows.length (Value.slice none 0 0)) 28))
   have hnew := blk_new wr (.cells (Array.replicate rows.length (Value.slice none 0 0)) 28)
   have hBle : B ≤ wr.heap.size := Nat.le_trans HBB.out.2.2 KP.out.1
   have hput := blk_put T2.ht 1 (.slice (some ⟨wr.heap.size, 0, none⟩) rows.length rows.length) (cs' := #[.pointer (some ⟨g, 0, none⟩), .slice (some ⟨wr.heap.size, 0, none⟩) rows.length rows.length]) rfl
   have hfar := blk_far hnew (p := ⟨tb, 1, none⟩) (blk_ne hnew T2.ht (by decide)) (.slice (some ⟨wr.heap.size, 0, none⟩) rows.length rows.length)
   exact ⟨L1, f1, wr.heap.size, rfl, HD.out, (P.out.below (below_alloc (Below.refl _ _) _)).beside T2.ht (by decide) 1 _, ⟨by rw [List.length_replicate]; exact hput, RowsAt.new _ hfar hBle, by rw [List.length_replicate]; exact T.out.hn, T.out.hB⟩, (HB.out.trans ((below_alloc (Below.refl wr.heap.size wr) _).mono hBle)).setCell (p := ⟨tb, 1, none⟩) T.out.hB _, (KP.out.alloc _).setCell (p := ⟨tb, 1, none⟩) (.inl (.inr rfl)) _, KP.out.1⟩
end
theorem infoB28 : (Try.prog.info? 28).map (fun i => (i.zero, i.size, i.bytes)) = some (some (.slice none 0 0), 1, 24) := by kernel_rfl
/-- Rows of rows that are being built. -/
structure RowsIn (B : Nat) (W : World) (ov : Value) (us : List Value) (rows : List (List Int)) : Prop where
 ho : Kd.R (Kd.raw 1) 28 W B (fun k => some k = ov.ownBlock) ov (us.map fun v => [v])
 hl : us.length = rows.length
 hv : ∀ (i : Nat) (v : Value) (l : List Int), us[i]? = some v → rows[i]? = some l → Kd.R (Kd.int .i64) 3 W B (fun k => some k = v.ownBlock) v l
 ha : ∀ (i j : Nat) (v u : Value), i ≠ j → us[i]? = some v → us[j]? = some u → ∀ k, some k = v.ownBlock → ¬ some k = u.ownBlock
theorem RowsIn.step {B : Nat} {W W' : World} {ov : Value} {us : List Value} {rows : List (List Int)} (h : RowsIn B W ov us rows) (hs : ∀ k cs t, (t = 28 ∨ t = 3) → k < W.heap.size → B ≤ k → W.heap[k]? = some (.cells cs t (0, 0)) → W'.heap[k]? = W.heap[k]?) : RowsIn B W' ov us rows :=
 ⟨Kd.R_step h.ho (fun k hk hlt => by obtain ⟨cs, hc⟩ := Kd.R_typed h.ho k hk.symm; exact hs k cs 28 (.inl rfl) hlt (Kd.R_base h.ho k hk.symm) hc), h.hl, fun i v l hi hl => Kd.R_step (h.hv i v l hi hl) (fun k hk hlt => by obtain ⟨cs, hc⟩ := Kd.R_typed (h.hv i v l hi hl) k hk.symm; exact hs k cs 3 (.inr rfl) hlt (Kd.R_base (h.hv i v l hi hl) k hk.symm) hc), h.ha⟩
theorem RowsIn.below {B : Nat} {W W' : World} {ov : Value} {us : List Value} {rows : List (List Int)} (h : RowsIn B W ov us rows) (hb : Below W.heap.size W W') : RowsIn B W' ov us rows := h.step (fun k _ _ _ hlt _ _ => hb.block k hlt)
theorem RowsIn.drew {B : Nat} {W : World} {ov : Value} {us : List Value} {rows : List (List Int)} (h : RowsIn B W ov us rows) : RowsIn B W.drew ov us rows := h.below (below_drew1 (Below.refl _ _))
theorem RowsIn.mv {B : Nat} {W W' : World} {ov : Value} {us : List Value} {rows : List (List Int)} {g s : Nat} {L : List Slot} {f : Int} (h : RowsIn B W ov us rows) (hp : PoolAt W g s L f) (hm : Mv g s W W') : RowsIn B W' ov us rows := h.step (fun k cs t ht hlt _ hc => hm.kept.2 k hlt (fun e => e.elim (blk_ne hc hp.hg (by rcases ht with rfl | rfl <;> decide)) (blk_ne hc hp.hs (by rcases ht with rfl | rfl <;> decide))))
theorem RowsIn.snoc {B : Nat} {W W1 : World} {ov ov1 u : Value} {us : List Value} {rows : List (List Int)} {l : List Int} {ob : Nat} {ds : Array Value} {n0 : Nat} (h : RowsIn B W ov us rows) (hu : Kd.R (Kd.int .i64) 3 W B (fun k => some k = u.ownBlock) u l) (hn : ∀ k, some k = u.ownBlock → n0 ≤ k) (ho0 : ∀ (i : Nat) (v : Value), us[i]? = some v → ∀ k, some k = v.ownBlock → k < n0) (hg : W.grownBy W1 ov.ownBlock) (ho : Kd.R (Kd.raw 1) 28 W1 B (fun _ => True) ov1 ((us.map fun v => [v]) ++ [[u]])) (hob : W1.heap[ob]? = some (.cells ds 100 (0, 0))) :
  RowsIn B (W1.setCell ⟨ob, 1, none⟩ ov1) ov1 (us ++ [u]) (rows ++ [l]) := by
 have hT := Kd.R_tight rfl ho
 have hov : ∀ (v : Value) (q : List Int), Kd.R (Kd.int .i64) 3 W B (fun k => some k = v.ownBlock) v q → Kd.R (Kd.int .i64) 3 (W1.setCell ⟨ob, 1, none⟩ ov1) B (fun k => some k = v.ownBlock) v q := by
  intro v q hq
  have h1 := Kd.R_grown hq hg (fun k hk he => by
   obtain ⟨c1, hc1⟩ := Kd.R_typed hq k hk.symm
   exact Kd.R_ne h.ho hc1 (by decide) he)
  exact Kd.R_far h1 (fun k hk e => Kd.R_ne h1 hob (by decide) (by rw [← hk]; exact congrArg some e.symm)) _
 refine ⟨?_, by simp [h.hl], fun i v q hi hq => ?_, fun i j v z hij hi hj k hk => ?_⟩
 ·
  rw [List.map_append]
  exact Kd.R_far hT (fun k hk e => Kd.R_ne ho hob (by decide) (by rw [← hk]; exact congrArg some e.symm)) _
 ·
  by_cases e : i < us.length
  ·
   rw [List.getElem?_append_left e] at hi
   rw [List.getElem?_append_left (by rw [← h.hl]; exact e)] at hq
   exact hov v q (h.hv i v q hi hq)
  ·
   have hi2 : i = us.length := by
    have := (List.getElem?_eq_some_iff.mp hi).1
    simp at this
    omega
   subst hi2
   rw [List.getElem?_append_right (Nat.le_refl _), Nat.sub_self] at hi
   rw [h.hl, List.getElem?_append_right (Nat.le_refl _), Nat.sub_self] at hq
   obtain rfl := Option.some.inj hi
   obtain rfl := Option.some.inj hq
   exact hov _ _ hu
 ·
  have side : ∀ a x, (us ++ [u])[a]? = some x → (a < us.length ∧ us[a]? = some x) ∨ (a = us.length ∧ x = u) := by
   intro a x hx
   by_cases e : a < us.length
   ·
    exact .inl ⟨e, by rwa [List.getElem?_append_left e] at hx⟩
   ·
    have ha2 : a = us.length := by
     have := (List.getElem?_eq_some_iff.mp hx).1
     simp at this
     omega
    subst ha2
    rw [List.getElem?_append_right (Nat.le_refl _), Nat.sub_self] at hx
    exact .inr ⟨rfl, (Option.some.inj hx).symm⟩
  rcases side i v hi with ⟨a1, a2⟩ | ⟨a1, rfl⟩
  ·
   rcases side j z hj with ⟨b1, b2⟩ | ⟨b1, rfl⟩
   ·
    exact h.ha i j v z hij a2 b2 k hk
   ·
    intro hk2
    have := hn k hk2
    have := ho0 i v a2 k hk
    omega
  ·
   rcases side j z hj with ⟨b1, b2⟩ | ⟨b1, rfl⟩
   ·
    intro hk2
    have := hn k hk
    have := ho0 j z b2 k hk2
    omega
   ·
    omega
theorem RowsIn.done {B B' : Nat} {W : World} {ov : Value} {us : List Value} {rows : List (List Int)} (h : RowsIn B W ov us rows) (hB : B' ≤ B) : ∃ rp rc, ov = .slice rp rows.length rc ∧ RowsAt B' W rp us rows ∧ ∀ k, OwnR rp us k → B ≤ k := by
 obtain ⟨rp, rc, e⟩ := Kd.R_slice h.ho
 rw [List.length_map, h.hl] at e
 subst e
 have hown : ∀ k o, rp = some ⟨k, o, none⟩ → (Value.slice rp rows.length rc).ownBlock = some k := by
  rintro k o rfl
  rfl
 refine ⟨rp, rc, rfl, ⟨h.hl, fun hn => ?_, fun _ k o e => Kd.R_typed h.ho k (hown k o e), fun i v l hi hl => Kd.R_lower (h.hv i v l hi hl) hB, h.ha⟩, fun k hk => ?_⟩
 ·
  obtain ⟨rb, cap, e, hge, -, cs, hb⟩ := Kd.R_form h.ho (by rw [List.length_map, h.hl]; exact hn)
  injection e with e1 e2 e3
  subst e1
  refine ⟨rb, cs, rfl, hb, Nat.le_trans hB hge, fun i v hv => ?_⟩
  have hi := (List.getElem?_eq_some_iff.mp hv).1
  obtain ⟨c, -, ⟨hc, -⟩, hcc, -⟩ := Kd.R_elem (h.ho) [] (i : Int) (by omega) (by rw [← h.hl]; omega)
  have hx : (us.map fun v => [v]).getD (i : Int).toNat [] = [v] := by simp [List.getD_eq_getElem?_getD, hv]
  rw [hx] at hc
  subst hc
  have := hcc 0 v rfl
  rw [blk_cell hb] at this
  simpa [Kd.raw] using this
 ·
  rcases hk with ⟨o, e⟩ | ⟨v, hv, hk⟩
  ·
   exact Kd.R_base h.ho k (hown k o e)
  ·
   obtain ⟨i, hi, rfl⟩ := List.getElem_of_mem hv
   have hvi := List.getElem?_eq_getElem hi
   obtain ⟨l, hl⟩ : ∃ l, rows[i]? = some l := ⟨_, List.getElem?_eq_getElem (by rw [← h.hl]; exact hi)⟩
   exact Kd.R_base (h.hv i _ l hvi hl) k hk.symm
theorem PoolAt.grownT {W W1 : World} {g s : Nat} {L : List Slot} {f : Int} {v : Value} {e : Nat} (h : PoolAt W g s L f) (hT : ∀ k, v.ownBlock = some k → ∃ cs, W.heap[k]? = some (.cells cs e (0, 0))) (h1 : e ≠ 77 ∧ e ≠ 88 ∧ e ≠ 96) (hg : W.grownBy W1 v.ownBlock) : PoolAt W1 g s L f := by
 have ne : ∀ (b t : Nat) (ds : Array Value), W.heap[b]? = some (.cells ds t (0, 0)) → e ≠ t → some b ≠ v.ownBlock := fun b t ds hb ht he => by
  obtain ⟨cs, hc⟩ := hT b he.symm
  exact blk_ne hc hb ht rfl
 refine ⟨h.ne, blk_grown h.hg hg (ne _ _ _ h.hg h1.1), blk_grown h.hs hg (ne _ _ _ h.hs h1.2.1), fun x hx hr => ?_, h.hn, h.hr, h.hf⟩
 obtain ⟨p, e1, hp, n⟩ := h.hp x hx hr
 obtain ⟨-, -, -, -, -, -, -, -, -, -, -, -, -, cs, hd⟩ := id hp
 exact ⟨p, e1, hp.same ((blk_grown hd hg (ne _ _ _ hd h1.2.2)).trans hd.symm), n⟩
theorem TabAt.of_kept {B : Nat} {W W' : World} {tb g g' s : Nat} {L : List Slot} {f : Int} {rp : Option Addr} {rc : Nat} {vs : List Value} {rows : List (List Int)} (h : TabAt B W tb g' rp rc vs rows) (hp : PoolAt W g s L f) (hk : Kept W W' (fun q => q = g ∨ q = s)) : TabAt B W' tb g' rp rc vs rows :=
 ⟨blk_kept h.ht hk (fun e => e.elim (blk_ne h.ht hp.hg (by decide)) (blk_ne h.ht hp.hs (by decide))), h.hR.step (fun k hk2 => by
  obtain ⟨cs, t, hb, ht⟩ := h.hR.typed hk2
  exact hk.2 k (blk_lt hb) (fun e => e.elim (blk_ne hb hp.hg (by rcases ht with rfl | rfl <;> decide)) (blk_ne hb hp.hs (by rcases ht with rfl | rfl <;> decide)))), h.hn, h.hB⟩
theorem clone28_ok (l : List Int) (hl : l.length ≤ 100000) : clone28.f l = some l := by
 unfold clone28.f
 rw [if_pos (by omega)]
def bfork.T10 : Bool × List (List Nat × List Nat) := (true, [([], []), ([], []), ([1], [1]), ([2], [2]), ([3], [3]), ([], []), ([5], [5]), ([6], [6]), ([4, 7, 6], [4, 7]), ([0, 0, 1, 2, 3, 4, 5, 6, 7, 8], [0]), ([9, 0, 1, 2, 3, 4, 5, 6, 7, 8], [9]), ([10, 8, 8, 0, 1, 2, 3, 4, 5, 6, 7, 8], [8, 10])])
def bfork.B10 : List Nat := [0, 0, 2, 6, 14, 0, 32, 96, 254, 511, 1023, 2047]
theorem bfork.tab10 : rtab .any (opsOf Try.f31 10) = bfork.T10 := by kernel_rfl
theorem bfork.bits10 : waitsOk bfork.T10.2 bfork.B10 = true := by kernel_rfl
set_option maxHeartbeats 8000000 in
set_option maxRecDepth 100000 in
theorem blockFork.calls {B : Nat} {w : World} {tb g s : Nat} {L : List Slot} {f : Int} {rp : Option Addr} {rc : Nat} {vs : List Value} {rows : List (List Int)} (h : TabAt B w tb g rp rc vs rows) (hp : PoolAt w g s L f) (hBw : B ≤ w.heap.size) (hBg : B ≤ g) (hBs : B ≤ s) (hf : rows.flatten.length ≤ 1000) (hm : ∀ x ∈ L, x.refs ≤ 1000) :
  Calls Try.prog 31 #[.pointer (some ⟨tb, 0, none⟩)] w fun e w' => ∃ L' ob rp' rc' us, e = .returned (.pointer (some ⟨ob, 0, none⟩)) ∧ HoldsI L f rows.flatten L' f ∧ PoolAt w' g s L' f ∧ TabAt B w' tb g rp rc vs rows ∧ TabAt B w' ob g rp' rc' us rows ∧ w.heap.size ≤ ob ∧ (∀ k, OwnR rp' us k → w.heap.size ≤ k) ∧ Below B w w' ∧ Kept w w' (fun q => q = g ∨ q = s) := by
 have T := aM h
 have T0 := aM h
 have P0 := aM hp
 have P := aM hp
 have HF := aM hf
 have HM := aM hm
 have HBB : Aside0 (B ≤ g ∧ B ≤ s ∧ B ≤ w.heap.size) := ⟨hBg, hBs, hBw⟩
 have HB := aM (Below.refl B w)
 have KP := aM (Kept.refl w (fun q => q = g ∨ q = s))
 have hz := h.cells
 have HLN := aM h.hn
 clear h hp hf hm hBw hBg hBs
 have hu100 := Try.underlying100
 go_enter Try.func31, Try.ntmps31
 go_upto_region 2 with ((with_reducible refine gate_dst (N := 13) rfl ?_); refine box_event ?hg (N := 13) ?hd (cs := #[.pointer (some ⟨g, 0, none⟩), .slice none 0 0]) (t := 100) ?hr ?_; (case hd => rfl); (case hg => rfl); (case hr => first | (go_simp; done) | (go_simp; rfl)); intro ob hg_ w1 hbox hb; have BO := aM hbox; have GO := aM (by rw [hg_]; exact Nat.le_refl _ : w.heap.size ≤ ob); replace T := aM (T.out.below hb); replace P := aM (P.out.below hb); replace HB := aM (HB.out.trans (hb.mono HBB.out.2.2)); replace KP := aM (KP.out.below hb); clear hbox hb hg_ hz; have hz := T.out.cells)
 have OI : Aside0 (RowsIn w.heap.size w1 (.slice none 0 0) [] []) := ⟨⟨Kd.R_nil _ _ _ _ _, rfl, fun i v l hi _ => by simp at hi, fun i j v u _ hi _ => by simp at hi⟩⟩
 go_wp2
 go_loopw [19] (fun i W' => ∃ (j : Nat) (L1 : List Slot) (ov : Value) (us : List Value), i = .int .i64 j ∧ Aside0 (j ≤ rows.length ∧ HoldsI L f (rows.take j).flatten L1 f) ∧ Aside0 (PoolAt W' g s L1 f) ∧ Aside0 (TabAt B W' tb g rp rc vs rows) ∧ Aside0 (W'.heap[ob]? = some (.cells #[.pointer (some ⟨g, 0, none⟩), ov] 100 (0, 0))) ∧ Aside0 (RowsIn w.heap.size W' ov us (rows.take j)) ∧ Aside0 (Below B w W') ∧ Aside0 (Kept w W' (fun q => q = g ∨ q = s))) (fun i _ => rows.length - (intOf i).toNat)
 case atStart => exact ⟨0, L, .slice none 0 0, [], rfl, ⟨Nat.zero_le _, HoldsI.nil⟩, P, T, BO, OI, HB, KP⟩
 case round =>
  clear HB P T BO KP OI hz
  obtain ⟨j, L1, ov, us, rfl, HJ, P, T, BO, OI, HB, KP⟩ := hrel
  by_cases q : j < rows.length
  ·
   have d1 : decide ((j : Int) < (rows.length : Int)) = true := decide_eq_true (by omega)
   have d2 : decide (j < rows.length) = true := decide_eq_true q
   have p0 : (0 : Int) ≤ (j : Int) := by omega
   have p1 : (j : Int) < (rows.length : Int) := by omega
   have hw : wrap64 ((j : Int) + 1) = (j : Int) + 1 := by have := HLN.out; simp only [wrap64]; omega
   obtain ⟨l, hl⟩ : ∃ l, rows[j]? = some l := ⟨_, List.getElem?_eq_getElem q⟩
   obtain ⟨v, hv⟩ := T.out.hR.val hl
   obtain ⟨A, c, rfl⟩ := Kd.R_slice (T.out.hR.hv j v l hv hl)
   obtain ⟨rb, er, hc, -⟩ := T.out.hR.cell hv
   subst er
   have HLL : Aside0 ((rows.take j).flatten.length + l.length ≤ 1000) := ⟨by have h_ := flat_le rows (j + 1); rw [flat_take hl, List.length_append] at h_; exact Nat.le_trans h_ HF.out⟩
   have HFT := aM (flat_take hl)
   have HL := aM hl
   have HV := aM hv
   have HTK : Aside0 (rows.take (j + 1) = rows.take j ++ [l]) := ⟨by rw [List.take_succ_eq_append_getElem q]; congr 1; rw [List.getElem?_eq_getElem q] at hl; rw [Option.some.inj hl]⟩
   clear hl hv
   obtain ⟨pre, hpre⟩ : ∃ pre, (rows.take j).flatten = pre := ⟨_, rfl⟩
   rw [hpre] at HJ HLL HFT
   clear hpre
   go_upto_region 5 with (fail)
   clear hc
   go_wp2
   go_loopw [25] (fun i W' => ∃ (t : Nat) (L2 : List Slot), i = .int .i64 t ∧ Aside0 (t ≤ l.length ∧ HoldsI L f (pre ++ l.take t) L2 f) ∧ Aside0 (PoolAt W' g s L2 f) ∧ Aside0 (TabAt B W' tb g (some ⟨rb, 0, none⟩) rc vs rows) ∧ Aside0 (W'.heap[ob]? = some (.cells #[.pointer (some ⟨g, 0, none⟩), ov] 100 (0, 0))) ∧ Aside0 (RowsIn w.heap.size W' ov us (rows.take j)) ∧ Aside0 (Below B w W') ∧ Aside0 (Kept w W' (fun q => q = g ∨ q = s))) (fun i _ => l.length - (intOf i).toNat)
   case atStart => exact ⟨0, L1, rfl, ⟨Nat.zero_le _, by rw [List.take_zero, List.append_nil]; exact HJ.out.2⟩, P, T, BO, OI, HB, KP⟩
   case round =>
    clear HB P T BO KP OI
    obtain ⟨t, L2, rfl, HI, P, T, BO, OI, HB, KP⟩ := hrel
    have hz := T.out.cells
    by_cases q2 : t < l.length
    ·
     have e1 : decide ((t : Int) < (l.length : Int)) = true := decide_eq_true (by omega)
     have e2 : decide (t < l.length) = true := decide_eq_true q2
     have t0 : (0 : Int) ≤ (t : Int) := by omega
     have t1 : (t : Int) < (l.length : Int) := by omega
     have hwt : wrap64 ((t : Int) + 1) = (t : Int) + 1 := by have := HLL.out; simp only [wrap64]; omega
     obtain ⟨x, hx⟩ : ∃ x, l[t]? = some x := ⟨_, List.getElem?_eq_getElem q2⟩
     obtain ⟨ad, ea, -⟩ := Kd.at_int (Kd.R_reads' (T.out.hR.hv j _ l HV.out HL.out)).2.2 (t : Int) t0 t1
     subst ea
     have hcx := T.out.hR.item HV.out HL.out hx
     have HX := aM hx
     have HTP := aM ((HoldsI.top HI.out.2).2 1000 (by decide) HM.out)
     clear hx
     go_upto_region 9 with (go_at_call 23; (refine (poolHoldAny.calls g s L2 f x _ P.out (fun y hy => by have h_ := HTP.out y hy; rw [List.length_append, List.length_take] at h_; have := HLL.out; omega)).mono ?_); rintro e w3 ⟨L3, f3, e3, rfl, hp, hm, hrel2⟩; have hff : f3 = f := (HoldsI.top (HoldsI.snoc HI.out.2 hrel2)).1; subst hff; replace BO := aM (blk_mv BO.out P.out hm (by decide) (by decide)); replace OI := aM (OI.out.mv P.out hm); replace T := aM (T.out.mv P.out hm); replace HB := aM (HB.out.trans (hm.bel _ HBB.out.1 HBB.out.2.1 (Nat.le_trans HBB.out.2.2 KP.out.1))); replace KP := aM (KP.out.then_ hm.kept (fun _ hk_ => .inl hk_)); replace P := aM hp; have REL := aM hrel2; clear hz hcx hp hm hrel2)
     go_wp2
     rw [hwt]
     exact ⟨⟨t + 1, L3, rfl, ⟨by omega, by rw [take_next HX.out, ← List.append_assoc]; exact HoldsI.snoc HI.out.2 REL.out⟩, P, T, BO, OI, HB, KP⟩, by simp only [intOf]; omega⟩
    ·
     have e1 : decide ((t : Int) < (l.length : Int)) = false := decide_eq_false (by omega)
     have e2 : decide (t < l.length) = false := decide_eq_false q2
     obtain rfl : t = l.length := by have := HI.out.1; omega
     have HD : Aside0 (HoldsI L f (rows.take (j + 1)).flatten L2 f) := ⟨by have h_ := HI.out.2; rw [List.take_length] at h_; rw [HFT.out]; exact h_⟩
     clear HI q2 hz
     go_upto_region 10 with (fail)
     have HBS : Aside0 (w.heap.size ≤ wr.heap.size) := ⟨KP.out.1⟩
     obtain ⟨Ov, cv, rfl⟩ := Kd.R_slice OI.out.ho
     rw [List.length_map] at BO OI
     replace T := aM (T.out.drew)
     replace P := aM (P.out.drew)
     replace BO := aM (blk_drew BO.out)
     replace OI := aM (OI.out.drew)
     replace HB := aM (HB.out.drew)
     replace KP := aM (KP.out.drew)
     refine start_ (n := 12) (S := fun w' => w'.cell? ⟨ob, 1, none⟩ = some (.slice Ov us.length cv)) (ds := [11]) #[false, false, false, false, false, false, false, false, false, false, false, false] (by kernel_rfl) rfl rfl ((blk_cell BO.out 1).trans rfl) (fun hHeld => ?_); refine with_tabW bfork.tab10 bfork.bits10 (fun HT_ HW_ => ?_)
     replace HBS : Aside0 (w.heap.size ≤ wr.drew.heap.size) := ⟨HBS.out⟩; generalize wr.drew = w6 at HBS T P BO OI HB KP hHeld ⊢
     refine pure_ (i := 0) (N := some 36) (v := ?_) (a' := ?_) #[true, false, false, false, false, false, false, false, false, false, false, false] rfl rfl (any_of HT_.out (by kernel_rfl)) (fun _ _ _ h => h) (Or.inl ⟨by rfl, ?_⟩) ?_ ?_
     rotate_left; exact pI; rotate_left; exact pS
     refine pure_ (i := 1) (N := some 37) (v := ?_) (a' := ?_) #[true, true, false, false, false, false, false, false, false, false, false, false] rfl rfl (any_of HT_.out (by kernel_rfl)) (fun _ _ _ h => h) (Or.inl ⟨by rfl, ?_⟩) ?_ ?_
     rotate_left; exact pI; rotate_left; exact pS
     refine pure_ (i := 2) (N := some 38) (v := ?_) (a' := ?_) #[true, true, true, false, false, false, false, false, false, false, false, false] rfl rfl (any_of HT_.out (by kernel_rfl)) (fun _ _ _ h => h) (Or.inl ⟨by rfl, ?_⟩) ?_ ?_
     rotate_left; exact pI; rotate_left; exact pS
     refine pure_ (i := 3) (N := some 39) (v := ?_) (a' := ?_) #[true, true, true, true, false, false, false, false, false, false, false, false] rfl rfl (any_of HT_.out (by kernel_rfl)) (fun _ _ _ h => h) (Or.inl ⟨by rfl, ?_⟩) ?_ ?_
     rotate_left; exact pI; rotate_left; exact pS
     refine pure_ (i := 5) (N := some 41) (v := ?_) (a' := ?_) #[true, true, true, true, false, true, false, false, false, false, false, false] rfl rfl (any_of HT_.out (by kernel_rfl)) (fun _ _ _ h => h) (Or.inl ⟨by rfl, ?_⟩) ?_ ?_
     rotate_left; exact pI; rotate_left; exact pS
     refine take_ (i := 4) (N := some 40) (v := ?_) (a' := ?_) #[true, true, true, true, true, true, false, false, false, false, false, false] rfl rfl (take_ofW HT_.out HW_.out (by kernel_rfl)) (fun _ _ _ h => h) (Or.inl ⟨by rfl, ?_⟩) hHeld ?_ ?_
     rotate_left
     ·
      intro w' s0
      go_simp
      with_reducible rfl
     rotate_left
     ·
      exact pS
     refine one_ (i := 6) (N := some 42) #[true, true, true, true, true, true, true, false, false, false, false, false] rfl rfl (one_of HT_.out (by kernel_rfl)) (by decide) (fun K hK => ?_)
     refine goes_ Try.func52 (by kernel_rfl) rfl #[.slice A l.length c] (by rfl) rfl rfl (by simp only [List.map_toArray, List.map_cons, List.map_nil]; rfl) ?_
     with_reducible refine (clone28.calls A c l l _ (Kd.R_reads' (T.out.hR.hv j _ l HV.out HL.out)).2.2 (Kd.R_reads' (T.out.hR.hv j _ l HV.out HL.out)).2.1 (clone28_ok l (by have := HLL.out; omega))).mono ?_
     rintro e w7 ⟨u, rfl, hr, hb⟩
     refine ⟨_, rfl, ?_⟩
     obtain ⟨Au, cu, rfl⟩ := Kd.R_slice hr
     have HNEW := aM (fun k_ (hk_ : some k_ = (Value.slice Au l.length cu).ownBlock) => Kd.R_base hr k_ hk_.symm)
     have HOLD := aM (fun (i_ : Nat) (v_ : Value) (hv_ : us[i_]? = some v_) (k_ : Nat) (hk_ : some k_ = v_.ownBlock) => by obtain ⟨q_, hq_⟩ : ∃ q_, (rows.take j)[i_]? = some q_ := ⟨_, List.getElem?_eq_getElem (by rw [← OI.out.hl]; exact (List.getElem?_eq_some_iff.mp hv_).1)⟩; exact Kd.R_lt (OI.out.hv i_ v_ q_ hv_ hq_) k_ hk_.symm)
     have HCL := aM (Kd.R_tight rfl (Kd.R_lower hr HBS.out))
     replace T := aM (T.out.below hb)
     replace P := aM (P.out.below hb)
     replace BO := aM (blk_below BO.out hb)
     replace OI := aM (OI.out.below hb)
     replace HB := aM (HB.out.trans (hb.mono (Nat.le_trans HBB.out.2.2 HBS.out)))
     replace KP := aM (KP.out.below hb)
     have HBS2 : Aside0 (w.heap.size ≤ w7.heap.size) := ⟨KP.out.1⟩
     clear hr hb
     refine hK.out _ _ ((blk_cell BO.out 1).trans rfl) (fun hHeld => ?_)
     clear hK K
     refine norm_ (a' := ?_) ?_ ?_
     rotate_left
     ·
      show Act.put _ (some 42) _ = _
      simp only [Act.put, List.setIfInBounds_toArray, List.set_cons_zero, List.set_cons_succ, i64_w, i32_w, IntKind.wrap_u32]
      rfl
     refine one_ (i := 7) (N := some 43) #[true, true, true, true, true, true, true, true, false, false, false, false] rfl rfl (one_of HT_.out (by kernel_rfl)) (by decide) (fun K hK => ?_)
     refine value_ (w1 := ?_) (v := ?_) (by rfl) rfl ?_ ?_
     rotate_left 2
     ·
      go_simp
      constructor
      ·
       rfl
      ·
       rfl
     refine hK.out _ _ ((blk_cell (blk_alloc BO.out _) 1).trans rfl) (fun hHeld => ?_)
     clear hK K
     refine norm_ (a' := ?_) ?_ ?_
     rotate_left
     ·
      show Act.put _ (some 43) _ = _
      simp only [Act.put, List.setIfInBounds_toArray, List.set_cons_zero, List.set_cons_succ, i64_w, i32_w, IntKind.wrap_u32]
      rfl
     refine one_ (i := 8) (N := some 44) #[true, true, true, true, true, true, true, true, true, false, false, false] rfl rfl (one_of HT_.out (by kernel_rfl)) (by decide) (fun K hK => ?_)
     refine Kd.R_append_step (Kd.raw 1) (w0 := w7) w.heap.size (by rfl) (.tmp 40) (.tmp 43) 70 28 (.slice none 0 0) 24 rfl Try.underlying70 infoB28 rfl (by decide) (by omega) (.slice Ov us.length cv) (us.map fun v => [v]) [.slice Au l.length cu] [.slice Au l.length cu] (fun _ => True) (fun _ => False) rfl rfl ?aP (fun _ hk => hk.elim) ?aF ?aO (Below.refl _ _) ?aS ?aL ?_
     (case aP => exact ⟨rfl, rfl, fun z_ hz_ => by obtain rfl := List.mem_singleton.mp hz_; rfl⟩)
     (case aF => exact (fun _ _ => trivial))
     (case aO => exact Kd.R_mono OI.out.ho (fun _ _ => trivial))
     (case aS => exact HBS2.out)
     (case aL => rw [List.length_map, OI.out.hl, List.length_take]; have := HLN.out; omega)
     intro ov1 w9 ho hb hg hat
     have BO2 := aM (blk_grown BO.out hg (Kd.R_ne OI.out.ho BO.out (by decide)))
     have HO := aM ho
     have HG := aM hg
     have HBE := aM hb
     obtain ⟨Ow, cw, rfl⟩ := Kd.R_slice ho
     clear ho hb hg hat
     refine hK.out _ _ ((blk_cell BO2.out 1).trans rfl) (fun hHeld => ?_)
     clear hK K
     refine norm_ (a' := ?_) ?_ ?_
     rotate_left
     ·
      show Act.put _ (some 44) _ = _
      simp only [Act.put, List.setIfInBounds_toArray, List.set_cons_zero, List.set_cons_succ, i64_w, i32_w, IntKind.wrap_u32]
      rfl
     refine pure_ (i := 9) (N := some 45) (v := ?_) (a' := ?_) #[true, true, true, true, true, true, true, true, true, true, false, false] rfl rfl (any_of HT_.out (by kernel_rfl)) (fun _ _ _ h => h) (Or.inl ⟨by rfl, ?_⟩) ?_ ?_
     rotate_left; exact pI; rotate_left; exact pS
     refine pure_ (i := 10) (N := some 46) (v := ?_) (a' := ?_) #[true, true, true, true, true, true, true, true, true, true, true, false] rfl rfl (any_of HT_.out (by kernel_rfl)) (fun _ _ _ h => h) (Or.inl ⟨by rfl, ?_⟩) ?_ ?_
     rotate_left; exact pI; rotate_left; exact pS
     refine last_ (i := 11) (N := none) #[true, true, true, true, true, true, true, true, true, true, true, true] rfl rfl (one_of HT_.out (by kernel_rfl)) (by decide) (fun K hK => ?_)
     have hcc := (blk_cell BO2.out 1).trans rfl
     have hcz := blk_frozen BO2.out 1
     refine skip_ (w1 := ?_) (by rfl) rfl ?_ ?_
     rotate_left
     ·
      go_simp
      rfl
     refine hK.out _ _ ?_
     clear hK K
     refine done_ (done_of HT_.out (by kernel_rfl)) ?_
     have HU := aM (OI.out.snoc HCL.out (n0 := w6.heap.size) (fun k_ hk_ => HNEW.out k_ hk_) (fun i_ v_ hv_ k_ hk_ => HOLD.out i_ v_ hv_ k_ hk_) HG.out HO.out BO2.out)
     rw [← HTK.out] at HU
     have hov : ∀ k_, (Value.slice Ov us.length cv).ownBlock = some k_ → w.heap.size ≤ k_ := fun k_ hk_ => Kd.R_base OI.out.ho k_ hk_
     replace KP := aM ((Kept.of_grown HG.out KP.out (fun k_ hk_ => .inr (hov k_ hk_))).setCell (p := ⟨ob, 1, none⟩) (.inr GO.out) (Value.slice Ow ((us.map fun v => [v]) ++ [[Value.slice Au l.length cu]]).length cw))
     replace P := aM ((P.out.grownT (Kd.R_typed OI.out.ho) (by decide) HG.out).beside BO2.out (by decide) 1 (Value.slice Ow ((us.map fun v => [v]) ++ [[Value.slice Au l.length cu]]).length cw))
     replace HB := aM ((HB.out.grown HG.out (Nat.le_trans HBB.out.2.2 HBS2.out) (fun k_ hk_ => Nat.le_trans HBB.out.2.2 (hov k_ hk_))).setCell (p := ⟨ob, 1, none⟩) (Nat.le_trans HBB.out.2.2 GO.out) (Value.slice Ow ((us.map fun v => [v]) ++ [[Value.slice Au l.length cu]]).length cw))
     have BO3 := aM (blk_put BO2.out 1 (Value.slice Ow ((us.map fun v => [v]) ++ [[Value.slice Au l.length cu]]).length cw) (cs' := #[.pointer (some ⟨g, 0, none⟩), (Value.slice Ow ((us.map fun v => [v]) ++ [[Value.slice Au l.length cu]]).length cw)]) rfl)
     have hlen : ((us.map fun v => [v]) ++ [[Value.slice Au l.length cu]]).length = us.length + 1 := by simp
     rw [hlen] at HU KP P HB BO3
     replace T := aM (T0.out.of_kept P0.out KP.out)
     clear hcc hcz hHeld hov
     go_wp2
     rw [hw]
     exact ⟨⟨j + 1, L2, _, us ++ [.slice Au l.length cu], rfl, ⟨by omega, HD.out⟩, P, T, BO3, HU, HB, KP⟩, by simp only [intOf]; omega⟩
  ·
   have d1 : decide ((j : Int) < (rows.length : Int)) = false := decide_eq_false (by omega)
   have d2 : decide (j < rows.length) = false := decide_eq_false q
   obtain rfl : j = rows.length := by have := HJ.out.1; omega
   have HD : Aside0 (HoldsI L f rows.flatten L1 f) := ⟨by have h_ := HJ.out.2; rwa [List.take_length] at h_⟩
   have OJ : Aside0 (RowsIn w.heap.size wr ov us rows) := ⟨by have h_ := OI.out; rwa [List.take_length] at h_⟩
   clear HJ q OI
   go_wp2
   go_ret
   obtain ⟨rp', rc', rfl, hR, hown⟩ := OJ.out.done HBB.out.2.2
   exact ⟨L1, ob, rp', rc', us, rfl, HD.out, P.out, T.out, ⟨BO.out, hR, T.out.hn, Nat.le_trans HBB.out.2.2 GO.out⟩, GO.out, hown, HB.out, KP.out⟩
theorem mask_ok (a : Int) : 0 ≤ Go.bits .and .i64 a 1023 ∧ Go.bits .and .i64 a 1023 ≤ 1023 ∧ Go.bits .and .i64 (Go.bits .and .i64 a 1023) 1023 = Go.bits .and .i64 a 1023 := by
 have hz : ∀ x : Int, Go.bits .and .i64 x 1023 = ((BitVec.ofInt 64 x &&& 1023#64).toNat : Int) := by
  intro x
  have h1 : (BitVec.ofInt 64 x &&& 1023#64).toNat ≤ 1023 := by
   rw [BitVec.toNat_and]
   exact Nat.and_le_right
  show IntKind.i64.wrap ((BitVec.ofInt 64 x &&& BitVec.ofInt 64 1023).toNat : Int) = _
  rw [show BitVec.ofInt 64 1023 = 1023#64 from by decide, IntKind.wrap_i64]
  omega
 have h1 : (BitVec.ofInt 64 a &&& 1023#64).toNat ≤ 1023 := by
  rw [BitVec.toNat_and]
  exact Nat.and_le_right
 refine ⟨by rw [hz]; omega, by rw [hz]; omega, ?_⟩
 rw [hz (Go.bits .and .i64 a 1023), hz a]
 congr 1
 rw [show BitVec.ofInt 64 ((BitVec.ofInt 64 a &&& 1023#64).toNat : Int) = BitVec.ofInt 64 a &&& 1023#64 from by rw [BitVec.ofInt_natCast, BitVec.ofNat_toNat, BitVec.setWidth_eq], BitVec.and_assoc, BitVec.and_self]
def madeOne (k : Nat) (i : Int) : Bool := match credenzalaw11_made.f k i with
 | some [pg] => pg.f0.f6 == i
 | _ => false
/-- Every mark makes a page that has it, in k rounds. -/
def madeAll (k : Nat) : Bool := (List.range 1024).all fun i => madeOne k (i : Int)
theorem madeOne_up (k : Nat) (i : Int) (h : madeOne k i = true) : madeOne (k + 1) i = true := by
 unfold madeOne at h ⊢
 cases e : credenzalaw11_made.f k i with
 | none => rw [e] at h; cases h
 | some l =>
  rw [credenzalaw11_made.mono i k l e]
  rw [e] at h
  exact h
theorem madeAll_up (k : Nat) (h : madeAll k = true) : madeAll (k + 1) = true := by
 unfold madeAll at h ⊢
 rw [List.all_eq_true] at h ⊢
 exact fun i hi => madeOne_up k _ (h i hi)
def mk (a : Int) : Int := Go.bits .and .i64 a 1023
theorem made_of (k : Nat) (h : madeAll k = true) (a : Int) : ∃ pg, credenzalaw11_made.f k a = some [pg] ∧ pg.f0.f6 = mk a := by
 obtain ⟨h0, h1, h2⟩ := mask_ok a
 have e : credenzalaw11_made.f k a = credenzalaw11_made.f k (mk a) := by
  unfold credenzalaw11_made.f mk
  rw [h2]
 obtain ⟨n, hn⟩ := Int.eq_ofNat_of_zero_le h0
 have hone := (List.all_eq_true.mp h) n (List.mem_range.mpr (by omega))
 rw [e]
 unfold mk
 rw [hn]
 unfold madeOne at hone
 split at hone
 ·
  rename_i pg he
  exact ⟨pg, he, by simpa using hone⟩
 ·
  cases hone
theorem pgAt_of {W : World} {b : Nat} {pg : S96} (h : Kd.C k96 W (some ⟨b, 0, none⟩) 1 [pg]) (hb : ∃ cs, W.heap[b]? = some (.cells cs 96 (0, 0))) : PgAt W b pg.f0.f6 := by
 obtain ⟨ad, A7, c7, A8, c8, e, e0, e1, e2, e3, e4, e5, e6, -⟩ := at_T96 h 0 (Int.le_refl _) (by decide)
 cases e
 exact ⟨_, _, _, _, _, _, e0, e1, e2, e3, e4, e5, e6, hb⟩
theorem madeP.calls (k : Nat) (hk : madeAll k = true) (a : Int) (W : World) :
  Calls Try.prog 34 #[.int .i64 a] W fun e w' => ∃ b, e = .returned (.pointer (some ⟨b, 0, none⟩)) ∧ PgAt w' b (mk a) ∧ W.heap.size ≤ b ∧ Below W.heap.size W w' := by
 obtain ⟨pg, h1, h2⟩ := made_of k hk a
 refine (credenzalaw11_made.calls k a [pg] W h1).mono ?_
 rintro e w' ⟨v, rfl, hN, hb⟩
 obtain ⟨g, cap, rfl, hge, -, hcs⟩ := Kd.N_form hN (by simp)
 obtain ⟨-, -, hC⟩ := Kd.N_reads' hN
 exact ⟨g, by simp [asPtr], by rw [← h2]; exact pgAt_of hC hcs, hge, hb⟩
theorem HoldsI.none_ {L L' : List Slot} {f f' : Int} {ids : List Int} (h : HoldsI L f ids L' f') (he : ids = []) : L' = L ∧ f' = f := by
 cases h with
 | nil => exact ⟨rfl, rfl⟩
 | snoc h1 h2 => simp at he
theorem HoldsI.one {L L' : List Slot} {f f' x : Int} {ids : List Int} (h : HoldsI L f ids L' f') (he : ids = [x]) : ∃ e, HoldR L f x L' f' e := by
 cases h with
 | nil => cases he
 | @snoc ids0 L1 f1 id L2 f2 e h1 h2 =>
  have h3 : ids0 = [] ∧ id = x := by
   cases ids0 with
   | nil => exact ⟨rfl, by simpa using he⟩
   | cons a r => simp at he
  obtain ⟨rfl, rfl⟩ := h1.none_ h3.1
  rw [h3.2] at h2
  exact ⟨e, h2⟩
theorem DropsI.none_ {L L' : List Slot} {f f' : Int} {ids : List Int} (h : DropsI L f ids L' f') (he : ids = []) : L' = L ∧ f' = f := by
 cases h with
 | nil => exact ⟨rfl, rfl⟩
 | snoc h1 h2 => simp at he
theorem DropsI.one {L L' : List Slot} {f f' x : Int} {ids : List Int} (h : DropsI L f ids L' f') (he : ids = [x]) : ∃ e, DropR L f x L' f' e := by
 cases h with
 | nil => cases he
 | @snoc ids0 L1 f1 id L2 f2 e h1 h2 =>
  have h3 : ids0 = [] ∧ id = x := by
   cases ids0 with
   | nil => exact ⟨rfl, by simpa using he⟩
   | cons a r => simp at he
  obtain ⟨rfl, rfl⟩ := h1.none_ h3.1
  rw [h3.2] at h2
  exact ⟨e, h2⟩
theorem hold_at0 {x z : Slot} {f : Int} {L' : List Slot} {f' e : Int} (hr : ¬ x.refs = 0) (h : HoldR [x, z] f 0 L' f' e) : L' = [⟨x.refs + 1, x.mark, x.pg⟩, z] ∧ f' = f := by
 rcases h with ⟨n, y, hn, hy, -, rfl, rfl, -⟩ | ⟨hh, -⟩
 ·
  obtain rfl : n = 0 := by omega
  obtain rfl := Option.some.inj hy
  exact ⟨rfl, rfl⟩
 ·
  exact absurd ⟨0, x, rfl, rfl, hr⟩ hh
theorem drop_at0 {x z : Slot} {f : Int} {L' : List Slot} {f' e : Int} (hr : ¬ x.refs = 0) (h : DropR [x, z] f 0 L' f' e) : L' = [x.less, z] ∧ f' = if x.refs = 1 then f + 1 else f := by
 rcases h with ⟨n, y, hn, hy, -, rfl, rfl, -⟩ | ⟨hh, -⟩
 ·
  obtain rfl : n = 0 := by omega
  obtain rfl := Option.some.inj hy
  exact ⟨rfl, rfl⟩
 ·
  exact absurd ⟨0, x, rfl, rfl, hr⟩ hh
theorem TabAt.of_clear {B : Nat} {W W' : World} {ob tb g g' s : Nat} {L : List Slot} {f : Int} {rp : Option Addr} {rc : Nat} {vs : List Value} {rows : List (List Int)} {ds : Array Value} (h : TabAt B W ob g' rp rc vs rows) (hp : PoolAt W g s L f) (ht : W.heap[tb]? = some (.cells ds 100 (0, 0))) (hne : ob ≠ tb) (hk : Kept W W' (fun q => (q = g ∨ q = s) ∨ q = tb)) : TabAt B W' ob g' rp rc vs rows :=
 ⟨blk_kept h.ht hk (fun e => e.elim (fun e => e.elim (blk_ne h.ht hp.hg (by decide)) (blk_ne h.ht hp.hs (by decide))) hne), h.hR.step (fun k hk2 => by
  obtain ⟨cs, t, hb, hq⟩ := h.hR.typed hk2
  exact hk.2 k (blk_lt hb) (fun e => e.elim (fun e => e.elim (blk_ne hb hp.hg (by rcases hq with rfl | rfl <;> decide)) (blk_ne hb hp.hs (by rcases hq with rfl | rfl <;> decide))) (blk_ne hb ht (by rcases hq with rfl | rfl <;> decide)))), h.hn, h.hB⟩
theorem poolNew2.calls (w : World) : Calls Try.prog 12 #[.int .i64 2] w fun e w' => ∃ g s, e = .returned (.tuple #[.pointer (some ⟨g, 0, none⟩), .int .i64 0]) ∧ PoolAt w' g s [⟨0, 0, none⟩, ⟨0, 0, none⟩] 2 ∧ w.heap.size ≤ g ∧ w.heap.size ≤ s ∧ Below w.heap.size w w' := poolNew.calls 2 (by decide) w
theorem blockNew2.calls (g : Nat) (B : Nat) (w : World) (hB : B ≤ w.heap.size) : Calls Try.prog 38 #[.pointer (some ⟨g, 0, none⟩), .int .i64 2] w fun e w' => ∃ tb rb, e = .returned (.tuple #[.pointer (some ⟨tb, 0, none⟩), .int .i64 0]) ∧ TabAt B w' tb g (some ⟨rb, 0, none⟩) 2 [.slice none 0 0, .slice none 0 0] [[], []] ∧ w.heap.size ≤ tb ∧ w.heap.size ≤ rb ∧ Below w.heap.size w w' := blockNew.calls g 2 (by decide) B w hB
theorem PoolAt.gl {W : World} {g s : Nat} {L : List Slot} {f : Int} (h : PoolAt W g s L f) : g < W.heap.size := blk_lt h.hg
theorem PoolAt.sl {W : World} {g s : Nat} {L : List Slot} {f : Int} (h : PoolAt W g s L f) : s < W.heap.size := blk_lt h.hs
theorem n10 : ¬ (1 : Int) = 0 := by decide
theorem n20 : ¬ (2 : Int) = 0 := by decide
set_option maxRecDepth 100000 in
theorem field6 (h0 h1 h2 h3 h4 h5 m : Int) (w : World) : (Instr.field 48 (Value.agg #[.int .i64 h0, .int .i64 h1, .int .i64 h2, .int .i64 h3, .int .i64 h4, .int .i64 h5, .int .i64 m]) 6).run Try.prog w = .ok (.int .i64 m) w := by kernel_rfl
theorem mk3 : mk 3 = 3 := by decide +kernel
set_option maxHeartbeats 8000000 in
set_option maxRecDepth 100000 in
theorem blockAwake.calls (k : Nat) (hk : madeAll k = true) (w : World) :
  Calls Try.prog 28 #[] w fun e w' => e = .returned (.bool true) ∧ Below w.heap.size w w' := by
 have HK := aM hk
 clear hk
 have HB := aM (Below.refl w.heap.size w)
 have hfd := field6
 have A1 := aM True.intro
 have A2 := aM True.intro
 go_enter Try.func28, Try.ntmps28
 go_upto_region 2 with (go_at_call 12; (refine (poolNew2.calls _).mono ?_); rintro e w1 ⟨g, s, rfl, hp, hg, hs, hb⟩; have P := aM hp; have G := aM hg; have S := aM hs; replace HB := aM (below_step HB.out hb); clear hp hg hs hb)
 go_upto_region 4 with (go_at_call 34; (refine (madeP.calls k HK.out 3 _).mono ?_); rintro e w2 ⟨b0, rfl, -, -, hb⟩; replace P := aM (P.out.below hb); replace HB := aM (below_step HB.out hb); clear hb)
 go_upto_region 5 with (go_at_call 38; (refine (blockNew2.calls g w.heap.size _ (below_size HB.out)).mono ?_); rintro e w3 ⟨tb, rb, rfl, ht, -, -, hb⟩; have T := aM ht; replace P := aM (P.out.below hb); replace HB := aM (below_step HB.out hb); clear ht hb)
 go_upto_region 6 with (go_at_call 38; (refine (blockNew.bad g 17 (.inr (by decide)) _).mono ?_); rintro e w4 ⟨rfl, rfl⟩; skip)
 go_upto_region 8 with (first | (go_at_call 34; first | (have q_ := A1.out; clear A1; (refine (madeP.calls k HK.out 3 _).mono ?_); clear q_; rintro e w5 ⟨b1, rfl, hp, hge, hb⟩; have hgl := P.out.gl; have hsl := P.out.sl; have Q := aM hp; have N1 : Aside0 (b1 ≠ g ∧ b1 ≠ s) := ⟨by omega, by omega⟩; clear hgl hsl hge; replace P := aM (P.out.below hb); replace T := aM (T.out.below hb); replace HB := aM (below_step HB.out hb); clear hb hp) | ((refine (madeP.calls k HK.out 3 _).mono ?_); rintro e w7 ⟨b2, rfl, -, -, hb⟩; replace P := aM (P.out.below hb); replace T := aM (T.out.below hb); replace HB := aM (below_step HB.out hb); clear hb)) | (go_at_call 33; first | (have q_ := A2.out; clear A2; (refine (blockAdd.calls T.out P.out (below_size HB.out) G.out S.out 1 [] rfl (by decide) b1 (mk 3) 0 ⟨0, 0, none⟩ rfl rfl (by intro j x hj; omega) Q.out N1.out.1 N1.out.2 (by decide)).mono ?_); clear q_; rintro e w6 ⟨vs1, rfl, hp, ht, hb, -, -⟩; replace P : Aside0 (PoolAt w6 g s [⟨1, mk 3, some b1⟩, ⟨0, 0, none⟩] 1) := ⟨hp⟩; replace T : Aside0 (TabAt w.heap.size w6 tb g (some ⟨rb, 0, none⟩) 2 vs1 [[], [0]]) := ⟨ht⟩; replace HB := aM (HB.out.trans hb); clear Q N1 hp ht hb) | ((refine (blockAddNo.calls T.out 2 (.inr (by decide)) (some ⟨b2, 0, none⟩)).mono ?_); rintro e w8 ⟨rfl, rfl⟩; skip)))
 go_upto_region 9 with (go_at_call 31; (refine (blockFork.calls T.out P.out (below_size HB.out) G.out S.out (by decide) (by intro x hx; rcases List.mem_cons.mp hx with rfl | hx; (show (1 : Int) ≤ 1000; decide); obtain rfl := List.mem_singleton.mp hx; decide)).mono ?_); rintro e w9 ⟨L', ob, rp', rc', us, rfl, hh, hp, ht, hu, hge, -, hb, -⟩; obtain ⟨e_, hone⟩ := hh.one rfl; obtain ⟨rfl, -⟩ := hold_at0 n10 hone; have NE : Aside0 (ob ≠ tb) := ⟨by have := blk_lt T.out.ht; omega⟩; replace P : Aside0 (PoolAt w9 g s [⟨2, mk 3, some b1⟩, ⟨0, 0, none⟩] 1) := ⟨hp⟩; replace T := aM ht; have U := aM hu; replace HB := aM (HB.out.trans hb); clear hh hone hp ht hu hge hb)
 go_upto_region 11 with (go_at_call 26; (refine (poolRefs.calls g s _ _ 0 ⟨2, mk 3, some b1⟩ rfl n20 _ P.out).mono ?_); rintro e w10 ⟨rfl, rfl⟩; skip)
 go_upto_region 12 with (go_at_call 35; (refine (blockClear.calls T.out P.out (below_size HB.out) G.out S.out (by decide) (by decide)).mono ?_); rintro e w11 ⟨L', f', rb', rfl, hd, hp, ht, hb, hk, -⟩; obtain ⟨e_, hone⟩ := hd.one rfl; obtain ⟨rfl, rfl⟩ := drop_at0 n20 hone; replace U := aM (U.out.of_clear P.out T.out.ht NE.out hk); replace P : Aside0 (PoolAt w11 g s [⟨1, mk 3, some b1⟩, ⟨0, 0, none⟩] 1) := ⟨hp⟩; replace T : Aside0 (TabAt w.heap.size w11 tb g (some ⟨rb', 0, none⟩) 2 [.slice none 0 0, .slice none 0 0] [[], []]) := ⟨ht⟩; replace HB := aM (HB.out.trans hb); clear hd hone hp ht hb hk)
 go_upto_region 13 with (go_at_call 37; (refine (blockAt.calls U.out P.out 1 [0] rfl 0 0 rfl ⟨1, mk 3, some b1⟩ b1 rfl n10 rfl).mono ?_); rintro e w12 ⟨rfl, hb⟩; replace P := aM (P.out.below hb); replace T := aM (T.out.below hb); replace U := aM (U.out.below hb); replace HB := aM (below_step HB.out hb); clear hb)
 go_upto_region 14 with (go_at_call 37; (refine (blockAtBad.calls U.out 1 [0] rfl 1 (.inr (by decide))).mono ?_); rintro e w13 ⟨rfl, rfl⟩; skip)
 have Q := P.out.hp ⟨1, mk 3, some b1⟩ List.mem_cons_self n10
 obtain ⟨bq, eq, hq, -⟩ := Q
 obtain rfl := Option.some.inj eq
 have Q := aM hq
 clear hq eq
 have A3 := aM True.intro
 go_wp2_with (first | (go_at_call 25; (refine (poolHead.calls b1 (mk 3) _ Q.out).mono ?_); rintro e w14 ⟨h0, h1, h2, h3, h4, h5, rfl, hb⟩; rw [mk3]; replace P := aM (P.out.below hb); replace T := aM (T.out.below hb); replace U := aM (U.out.below hb); replace HB := aM (below_step HB.out hb); clear hb Q) | (go_at_call 36; first | (have q_ := A3.out; clear A3; (refine (blockLen.calls U.out 1 [0] rfl).mono ?_); clear q_; rintro e w15 ⟨rfl, rfl⟩; skip) | ((refine (blockLen.calls T.out 1 [] rfl).mono ?_); rintro e w16 ⟨rfl, rfl⟩; skip)) | (go_at_call 32; (refine (blockSlots.calls U.out (by decide)).mono ?_); rintro e w17 ⟨v, rfl, hr, hb⟩; obtain ⟨Av, cv, rfl⟩ := Kd.R_slice hr; have hlen : ([[], [0]] : List (List Int)).flatten.length = 1 := rfl; replace P := aM (P.out.below hb); replace T := aM (T.out.below hb); replace U := aM (U.out.below hb); replace HB := aM (below_step HB.out hb); clear hb hr) | (go_at_call 26; (refine (poolRefs.calls g s _ _ 0 ⟨1, mk 3, some b1⟩ rfl n10 _ P.out).mono ?_); rintro e w18 ⟨rfl, rfl⟩; skip) | (go_at_call 49; (refine (blockRows.calls U.out).mono ?_); rintro e w19 ⟨rfl, rfl⟩; skip))
 go_ret
 exact ⟨by simp, HB.out⟩
theorem poolNew60.calls (w : World) : Calls Try.prog 12 #[.int .i64 60] w fun e w' => ∃ g s, e = .returned (.tuple #[.pointer (some ⟨g, 0, none⟩), .int .i64 0]) ∧ PoolAt w' g s (List.replicate 60 ⟨0, 0, none⟩) 60 ∧ w.heap.size ≤ g ∧ w.heap.size ≤ s ∧ Below w.heap.size w w' := poolNew.calls 60 (by decide) w
theorem used_all (L : List Slot) (h : ∀ x ∈ L, ¬ x.refs = 0) : ∀ n, n ≤ L.length → (usedTo L n).length = n
 | 0, _ => rfl
 | n + 1, hn => by
  have ih := used_all L h n (by omega)
  obtain ⟨x, hx⟩ : ∃ x, L[n]? = some x := ⟨_, List.getElem?_eq_getElem (by omega)⟩
  rw [usedTo, if_neg (by rw [List.getD_eq_getElem?_getD, hx]; exact h x (List.mem_of_getElem? hx))]
  simp [ih]
/-- What is so of a row's place behind one of them is put. -/
theorem set_at {L : List Slot} {k i : Nat} {y x : Slot} (h : (L.set k y)[i]? = some x) : (i = k ∧ x = y) ∨ (i ≠ k ∧ L[i]? = some x) := by
 by_cases e : i = k
 ·
  subst e
  rw [List.getElem?_set_self' ] at h
  cases q : L[i]? with
  | none => rw [q] at h; cases h
  | some z => rw [q] at h; exact .inl ⟨rfl, (Option.some.inj h).symm⟩
 ·
  rw [List.getElem?_set_ne (fun q => e q.symm)] at h
  exact .inr ⟨e, h⟩

theorem allLe (k : Nat) : LeO (if madeAll k = true then some true else none) (if madeAll (k + 1) = true then some true else none) := by
 by_cases h : madeAll k = true
 ·
  rw [if_pos h, if_pos (madeAll_up k h)]
  exact LeO.refl _
 ·
  rw [if_neg h]
  exact LeO.none _
theorem allOf {k : Nat} {r : Bool} (h : (if madeAll k = true then some true else none) = some r) : madeAll k = true ∧ r = true := by
 by_cases c : madeAll k = true
 ·
  rw [if_pos c] at h
  exact ⟨c, (Option.some.inj h).symm⟩
 ·
  rw [if_neg c] at h
  cases h
def credenzalaw11_awake.f (k : Nat) : Option Bool := if madeAll k = true then some true else none
theorem credenzalaw11_awake.mono : ∀ k, LeO (credenzalaw11_awake.f k) (credenzalaw11_awake.f (k + 1)) := fun k => allLe k
theorem credenzalaw11_awake.calls (k : Nat) (r : Bool) (w : World) (h : credenzalaw11_awake.f k = some r) :
  Calls Try.prog 28 #[] w fun e w' => e = .returned (.bool r) ∧ Below w.heap.size w w' := by
 obtain ⟨h1, rfl⟩ := allOf h
 exact blockAwake.calls k h1 w

end Go.Proofs.Ytoofkemhikigoaa.PBlockPlays
