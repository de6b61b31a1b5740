-- Written by a program of this session (wip/tools/mkprint.py over the kit's print).
import Derived.Test.YtoofkemhikigoaaPPoolPlaysx0
import Derived.Test.YtoofkemhikigoaaPPoolPlaysx5
namespace Go.Proofs.Ytoofkemhikigoaa.PPoolPlays
open Go.RowKit Go.Proofs.YtoofkemhikigoaaW.PrintWords Go.Proofs.YtoofkemhikigoaaW.PrintLast Go.Proofs.YtoofkemhikigoaaW.PrintMore
attribute [local go_sem] max2_int min2_int max_two min_two max_three min_three max_four min_four   -- for this text's walks alone
set_option linter.unusedVariables false
set_option linter.unusedSimpArgs false

/-! ### credenzalaw10_awake: function 11 -/
/-- A slot: how often it is held, its page's mark, the block in which its page lies. -/
structure Slot where
  refs : Int
  mark : Int
  pg : Option Nat
def Slot.ptr (x : Slot) : Value := .pointer (x.pg.map fun b => ⟨b, 0, none⟩)
def slotCells : List Slot → List Value
  | [] => []
  | x :: l => x.ptr :: .int .i32 x.refs :: slotCells l
theorem slotCells_0 : ∀ (l : List Slot) (i : Nat) (x : Slot), l[i]? = some x → (slotCells l)[i * 2]? = some x.ptr
  | [], i, x, h => by simp at h
  | y :: l, 0, x, h => by simp at h; subst h; rfl
  | y :: l, i + 1, x, h => by
    have h1 := slotCells_0 l i x (by simpa using h)
    rw [show (i + 1) * 2 = i * 2 + 1 + 1 from by omega]
    simpa [slotCells] using h1
theorem slotCells_1 : ∀ (l : List Slot) (i : Nat) (x : Slot), l[i]? = some x → (slotCells l)[i * 2 + 1]? = some (.int .i32 x.refs)
  | [], i, x, h => by simp at h
  | y :: l, 0, x, h => by simp at h; subst h; rfl
  | y :: l, i + 1, x, h => by
    have h1 := slotCells_1 l i x (by simpa using h)
    rw [show (i + 1) * 2 + 1 = i * 2 + 1 + 1 + 1 from by omega]
    simpa [slotCells] using h1
theorem slotCells_set0 (p : Option Nat) : ∀ (l : List Slot) (i : Nat) (x : Slot), l[i]? = some x → (slotCells l).set (i * 2) (.pointer (p.map fun b => ⟨b, 0, none⟩)) = slotCells (l.set i ⟨x.refs, x.mark, p⟩)
  | [], i, x, h => by simp at h
  | y :: l, 0, x, h => by simp at h; subst h; rfl
  | y :: l, i + 1, x, h => by
    have h1 := slotCells_set0 p l i x (by simpa using h)
    rw [show (i + 1) * 2 = i * 2 + 1 + 1 from by omega]
    simpa [slotCells] using h1
theorem slotCells_set1 (r : Int) : ∀ (l : List Slot) (i : Nat) (x : Slot), l[i]? = some x → (slotCells l).set (i * 2 + 1) (.int .i32 r) = slotCells (l.set i ⟨r, x.mark, x.pg⟩)
  | [], i, x, h => by simp at h
  | y :: l, 0, x, h => by simp at h; subst h; rfl
  | y :: l, i + 1, x, h => by
    have h1 := slotCells_set1 r l i x (by simpa using h)
    rw [show (i + 1) * 2 + 1 = i * 2 + 1 + 1 + 1 from by omega]
    simpa [slotCells] using h1
theorem slotCells_marks (m : Int) : ∀ (l : List Slot) (i : Nat) (x : Slot), l[i]? = some x → slotCells (l.set i ⟨x.refs, m, x.pg⟩) = slotCells l
  | [], i, x, h => by simp at h
  | y :: l, 0, x, h => by simp at h; subst h; rfl
  | y :: l, i + 1, x, h => by
    have h1 := slotCells_marks m l i x (by simpa using h)
    simpa [slotCells] using h1
theorem slotCells_zero : ∀ n : Nat, (madeCells #[.pointer none, .int .i32 0] (n * 2)).toList = slotCells (List.replicate n ⟨0, 0, none⟩)
  | 0 => by simp [madeCells, slotCells]
  | n + 1 => by
    have ih := slotCells_zero n
    simp only [madeCells, Array.toList_map, Array.toList_range] at ih ⊢
    have hs : ∀ (a : List Slot) (b : List Slot), slotCells (a ++ b) = slotCells a ++ slotCells b := by
      intro a b
      induction a with
      | nil => rfl
      | cons x a ih => simp [slotCells, ih]
    rw [show (n + 1) * 2 = n * 2 + 1 + 1 from by omega, List.range_succ, List.range_succ, List.map_append, List.map_append, ih, List.replicate_succ', hs]
    simp [slotCells, Slot.ptr, Nat.mul_mod_left, Nat.add_mod]
/-- A page with this mark lies at the head of block b. -/
def PgAt (W : World) (b : Nat) (m : Int) : Prop := ∃ h0 h1 h2 h3 h4 h5 : Int, W.cell? ⟨b, 0, none⟩ = some (.int .i64 h0) ∧ W.cell? ⟨b, 1, none⟩ = some (.int .i64 h1) ∧ W.cell? ⟨b, 2, none⟩ = some (.int .i64 h2) ∧ W.cell? ⟨b, 3, none⟩ = some (.int .i64 h3) ∧ W.cell? ⟨b, 4, none⟩ = some (.int .i64 h4) ∧ W.cell? ⟨b, 5, none⟩ = some (.int .i64 h5) ∧ W.cell? ⟨b, 6, none⟩ = some (.int .i64 m) ∧ ∃ cs, W.heap[b]? = some (.cells cs 96 (0, 0))
theorem PgAt.lt {W : World} {b : Nat} {m : Int} (h : PgAt W b m) : b < W.heap.size := by
  obtain ⟨h0, h1, h2, h3, h4, h5, e0, -⟩ := h
  exact World.block_lt_of_cell? W _ e0
theorem PgAt.same {W W' : World} {b : Nat} {m : Int} (h : PgAt W b m) (hb : W'.heap[b]? = W.heap[b]?) : PgAt W' b m := by
  obtain ⟨h0, h1, h2, h3, h4, h5, e0, e1, e2, e3, e4, e5, e6, cs, e7⟩ := h
  have hc : ∀ i, W'.cell? ⟨b, i, none⟩ = W.cell? ⟨b, i, none⟩ := fun i => World.cell?_of_block (w := W) (a := ⟨b, i, none⟩) hb
  exact ⟨h0, h1, h2, h3, h4, h5, (hc 0).trans e0, (hc 1).trans e1, (hc 2).trans e2, (hc 3).trans e3, (hc 4).trans e4, (hc 5).trans e5, (hc 6).trans e6, cs, hb.trans e7⟩
/-- A pool: its block g, its slots' block s. -/
structure PoolAt (W : World) (g s : Nat) (L : List Slot) (f : Int) : Prop where
  ne : g ≠ s
  hg : W.heap[g]? = some (.cells #[.slice (some ⟨s, 0, none⟩) L.length L.length, .int .i32 f] 77 (0, 0))
  hs : W.heap[s]? = some (.cells (slotCells L).toArray 88 (0, 0))
  hp : ∀ x ∈ L, x.refs ≠ 0 → ∃ b, x.pg = some b ∧ PgAt W b x.mark ∧ b ≠ g ∧ b ≠ s
  hn : L.length ≤ 16384
  hr : ∀ x ∈ L, 0 ≤ x.refs ∧ x.refs ≤ 1000000
  hf : -1000000 ≤ f ∧ f ≤ 1000000
/-- Nothing but the pool's blocks has turned. -/
structure Mv (g s : Nat) (W W' : World) : Prop where
  bel : ∀ B, B ≤ g → B ≤ s → B ≤ W.heap.size → Below B W W'
  kept : Kept W W' (fun k => k = g ∨ k = s)
theorem Mv.refl (g s : Nat) (W : World) : Mv g s W W := ⟨fun B _ _ _ => Below.refl B W, Kept.refl _ _⟩
theorem Mv.trans {g s : Nat} {a b c : World} (h : Mv g s a b) (k : Mv g s b c) : Mv g s a c :=
  ⟨fun B h1 h2 h3 => (h.bel B h1 h2 h3).trans (k.bel B h1 h2 (Nat.le_trans h3 h.kept.1)), h.kept.then_ k.kept (fun _ hk => .inl hk)⟩
theorem Mv.below {g s : Nat} {W W' : World} (h : Below W.heap.size W W') : Mv g s W W' := ⟨fun B _ _ h3 => h.mono h3, Kept.of_below h _⟩
theorem Mv.set {g s : Nat} {W : World} (b i : Nat) (hb : b = g ∨ b = s) (u : Value) : Mv g s W (W.setCell ⟨b, i, none⟩ u) :=
  ⟨fun B h1 h2 h3 => (Below.refl B W).setCell (p := ⟨b, i, none⟩) (by rcases hb with rfl | rfl <;> assumption) u, (Kept.refl W _).setCell (p := ⟨b, i, none⟩) (.inl hb) u⟩
theorem PoolAt.below {W W' : World} {g s : Nat} {L : List Slot} {f : Int} (h : PoolAt W g s L f) (hb : Below W.heap.size W W') : PoolAt W' g s L f :=
  ⟨h.ne, blk_below h.hg hb, blk_below h.hs hb, fun x hx hr => by obtain ⟨b, e, hp, n⟩ := h.hp x hx hr; exact ⟨b, e, hp.same (hb.block b hp.lt), n⟩, h.hn, h.hr, h.hf⟩
theorem PgAt.mv {g s : Nat} {W W' : World} {b : Nat} {m : Int} (h : PgAt W b m) (hm : Mv g s W W') (h1 : b ≠ g) (h2 : b ≠ s) : PgAt W' b m := h.same (hm.kept.2 b h.lt (fun e => e.elim h1 h2))
theorem PoolAt.free {W : World} {g s : Nat} {L : List Slot} {f : Int} (h : PoolAt W g s L f) (f' : Int) (hf : -1000000 ≤ f' ∧ f' ≤ 1000000) : PoolAt (W.setCell ⟨g, 1, none⟩ (.int .i32 f')) g s L f' :=
  have hm := Mv.set (g := g) (s := s) (W := W) g 1 (.inl rfl) (.int .i32 f')
  ⟨h.ne, blk_put h.hg 1 _ rfl, blk_far h.hs (p := ⟨g, 1, none⟩) (fun e => h.ne e.symm) _, fun x hx hr => by obtain ⟨b, e, hp, n1, n2⟩ := h.hp x hx hr; exact ⟨b, e, hp.mv hm n1 n2, n1, n2⟩, h.hn, h.hr, hf⟩
theorem PoolAt.refs {W : World} {g s : Nat} {L : List Slot} {f : Int} (h : PoolAt W g s L f) {i : Nat} {x : Slot} (hx : L[i]? = some x) (r : Int) (h0 : 0 ≤ r ∧ r ≤ 1000000) (hz : x.refs = 0 → r = 0) : PoolAt (W.setCell ⟨s, i * 2 + 1, none⟩ (.int .i32 r)) g s (L.set i ⟨r, x.mark, x.pg⟩) f := by
  have hm := Mv.set (g := g) (s := s) (W := W) s (i * 2 + 1) (.inr rfl) (.int .i32 r)
  refine ⟨h.ne, ?_, ?_, ?_, by simpa using h.hn, ?_, h.hf⟩
  · rw [List.length_set]
    exact blk_far h.hg (p := ⟨s, i * 2 + 1, none⟩) h.ne _
  · exact blk_put h.hs (i * 2 + 1) _ (by rw [← slotCells_set1 r L i x hx]; simp)
  · intro y hy hr
    have hxm : x ∈ L := List.mem_of_getElem? hx
    rcases List.mem_or_eq_of_mem_set hy with hy | rfl
    · obtain ⟨b, e, hp, n1, n2⟩ := h.hp y hy hr
      exact ⟨b, e, hp.mv hm n1 n2, n1, n2⟩
    · obtain ⟨b, e, hp, n1, n2⟩ := h.hp x hxm (fun e => hr (hz e))
      exact ⟨b, e, hp.mv hm n1 n2, n1, n2⟩
  · intro y hy
    rcases List.mem_or_eq_of_mem_set hy with hy | rfl
    · exact h.hr y hy
    · exact h0
set_option maxHeartbeats 8000000 in
set_option maxRecDepth 100000 in
theorem atomLoad.calls (b o : Nat) (v : Int) (w : World) (hc : w.cell? ⟨b, o, none⟩ = some (.int .i32 v)) :
    Calls Try.prog 44 #[.pointer (some ⟨b, o, none⟩)] w fun e w' => e = .returned (.int .i32 v) ∧ w = w' := by
  have hl := run_call_load (P := Try.prog) Try.func57 (by kernel_rfl) (by kernel_rfl) (by kernel_rfl) .i32 (by kernel_rfl) hc
  go_enter Try.func44, Try.ntmps44
  go_wp2
  go_ret
  exact ⟨rfl, rfl⟩
set_option maxHeartbeats 8000000 in
set_option maxRecDepth 100000 in
theorem atomStore.calls (b o : Nat) (v : Int) (u : Value) (w : World) (hc : w.cell? ⟨b, o, none⟩ = some u) (hz : w.frozen? ⟨b, o, none⟩ = false) :
    Calls Try.prog 40 #[.pointer (some ⟨b, o, none⟩), .int .i32 v] w fun e w' => e = .returned (.tuple #[]) ∧ w' = w.setCell ⟨b, o, none⟩ (.int .i32 v) := by
  have hl := run_call_store (P := Try.prog) Try.func55 (by kernel_rfl) (by kernel_rfl) (by kernel_rfl) (by kernel_rfl) (k := .i32) (y := v) hc hz
  go_enter Try.func40, Try.ntmps40
  go_wp2
  refine bodyPost_end (results_none rfl _ _ _) rfl ?_
  exact ⟨rfl, rfl⟩
set_option maxHeartbeats 8000000 in
set_option maxRecDepth 100000 in
theorem atomAdd.calls (b o : Nat) (v d : Int) (w : World) (hc : w.cell? ⟨b, o, none⟩ = some (.int .i32 v)) (hz : w.frozen? ⟨b, o, none⟩ = false) (hb : -2147483648 ≤ v + d ∧ v + d ≤ 2147483647) :
    Calls Try.prog 47 #[.pointer (some ⟨b, o, none⟩), .int .i32 d] w fun e w' => e = .returned (.int .i32 (v + d)) ∧ w' = w.setCell ⟨b, o, none⟩ (.int .i32 (v + d)) := by
  have hs : (Op.intArith .add .i32 v d).run Try.prog w = .ok (.int .i32 (v + d)) w := by
    have e : IntKind.i32.wrap (v + d) = v + d := by
      rw [IntKind.wrap_i32]
      omega
    simp [Op.intArith, e]
  have hl := run_call_add (P := Try.prog) Try.func59 (by kernel_rfl) (by kernel_rfl) (by kernel_rfl) .i32 (by kernel_rfl) hc hz hs
  go_enter Try.func47, Try.ntmps47
  go_wp2
  go_ret
  exact ⟨rfl, rfl⟩
set_option maxHeartbeats 8000000 in
set_option maxRecDepth 100000 in
theorem atomHit.calls (b o : Nat) (w : World) (hc : w.cell? ⟨b, o, none⟩ = some (.int .i32 0)) (hz : w.frozen? ⟨b, o, none⟩ = false) :
    Calls Try.prog 46 #[.pointer (some ⟨b, o, none⟩), .int .i32 0, .int .i32 1] w fun e w' => e = .returned (.bool true) ∧ w' = w.setCell ⟨b, o, none⟩ (.int .i32 1) := by
  have hl := run_call_cas_hit (P := Try.prog) Try.func58 (by kernel_rfl) (by kernel_rfl) (by kernel_rfl) .i32 (by kernel_rfl) (y := 1) hc hz
  go_enter Try.func46, Try.ntmps46
  go_wp2
  go_ret
  exact ⟨rfl, rfl⟩
set_option maxHeartbeats 8000000 in
set_option maxRecDepth 100000 in
theorem atomMiss.calls (b o : Nat) (v : Int) (w : World) (hc : w.cell? ⟨b, o, none⟩ = some (.int .i32 v)) (hz : w.frozen? ⟨b, o, none⟩ = false) (hv : ¬ v = 0) :
    Calls Try.prog 46 #[.pointer (some ⟨b, o, none⟩), .int .i32 0, .int .i32 1] w fun e w' => e = .returned (.bool false) ∧ w = w' := by
  have hl := run_call_cas_miss (P := Try.prog) Try.func58 (by kernel_rfl) (by kernel_rfl) (by kernel_rfl) .i32 (by kernel_rfl) (y := 1) hc hz hv
  go_enter Try.func46, Try.ntmps46
  go_wp2
  go_ret
  exact ⟨rfl, rfl⟩
theorem pool_made (n : Nat) (hn : n ≤ 16384) (W : World) : (Instr.makeSlice 71 (.int .i64 (n : Int)) (.int .i64 (n : Int))).run Try.prog W = .ok (.slice (some ⟨W.heap.size, 0, none⟩) n n) (W.alloc (.cells (slotCells (List.replicate n ⟨0, 0, none⟩)).toArray 88)) := by
  obtain ⟨i0, hi⟩ : ∃ i, Try.prog.info? 88 = some i := Option.isSome_iff_exists.mp (by kernel_rfl)
  have hb : (Try.prog.info? 88).map (fun i => (i.size, i.bytes)) = some (2, 16) := by kernel_rfl
  have hz : ((Try.prog.info? 88).bind (fun i => i.zero)) = some (.agg #[.pointer none, .int .i32 0]) := by kernel_rfl
  rw [hi] at hb hz
  have hb1 : i0.size = 2 := congrArg Prod.fst (Option.some.inj hb)
  have hb2 : i0.bytes = 16 := congrArg Prod.snd (Option.some.inj hb)
  have hr := run_make (P := Try.prog) W 71 88 i0 (.agg #[.pointer none, .int .i32 0]) Try.underlying71 hi hz .i64 .i64 (n : Int) (n : Int) (by omega) (Int.le_refl _) (by rw [hb2]; omega) (by omega)
  simp only [Int.toNat_natCast] at hr
  rw [hb1] at hr
  have e : madeCells (Value.agg #[.pointer none, .int .i32 0]).cells (n * 2) = (slotCells (List.replicate n ⟨0, 0, none⟩)).toArray := by
    have h := slotCells_zero n
    rw [← h]
    simp [Value.cells]
  rw [e] at hr
  exact hr
set_option maxHeartbeats 8000000 in
set_option maxRecDepth 100000 in
theorem poolNew.bad (n : Int) (hn : n < 0 ∨ 16384 < n) (w : World) :
    Calls Try.prog 12 #[.int .i64 n] w fun e w' => e = .returned (.tuple #[.pointer none, .int .i64 11]) ∧ w = w' := by
  by_cases c : n < 0
  · have d1 : decide (n < 0) = true := decide_eq_true c
    go_enter Try.func12, Try.ntmps12
    go_wp2
    go_ret2
    exact ⟨rfl, rfl⟩
  · have d1 : decide (n < 0) = false := decide_eq_false c
    have d2 : decide (16384 < n) = true := decide_eq_true (by omega)
    go_enter Try.func12, Try.ntmps12
    go_wp2
    go_ret2
    exact ⟨rfl, rfl⟩
set_option maxHeartbeats 8000000 in
set_option maxRecDepth 100000 in
theorem poolNew.calls (n : Nat) (hn : n ≤ 16384) (w : World) :
    Calls Try.prog 12 #[.int .i64 (n : Int)] w fun e w' => ∃ g s, e = .returned (.tuple #[.pointer (some ⟨g, 0, none⟩), .int .i64 0]) ∧ PoolAt w' g s (List.replicate n ⟨0, 0, none⟩) n ∧ w.heap.size ≤ g ∧ w.heap.size ≤ s ∧ Below w.heap.size w w' := by
  have d1 : decide ((n : Int) < 0) = false := decide_eq_false (by omega)
  have d2 : decide (16384 < (n : Int)) = false := decide_eq_false (by omega)
  have hmk := pool_made n hn w
  have hu77 := Try.underlying77
  go_enter Try.func12, Try.ntmps12
  go_upto_region 4 with (first | ((with_reducible refine gate_dst (N := 14) rfl ?_); refine box_event ?hg (N := 14) ?hd (cs := #[.slice (some ⟨w.heap.size, 0, none⟩) n n, .int .i32 0]) (t := 77) ?hr ?_; (case hd => rfl); (case hg => rfl); (case hr => first | (go_simp; done) | (go_simp; rfl)); intro g hg w1 hbox hb; have BK := Aside0.mk hbox; have HB := Aside0.mk hb; have HG := Aside0.mk hg; clear hbox hb hg))
  have hlt : w.heap.size < (w.alloc (Obj.cells (slotCells (List.replicate n ⟨0, 0, none⟩)).toArray 88)).heap.size := by simp
  have hs := blk_below (blk_new w (.cells (slotCells (List.replicate n ⟨0, 0, none⟩)).toArray 88)) HB.out
  have hbel : Below w.heap.size w w1 := below_step (below_alloc (Below.refl w.heap.size w) _) HB.out
  have hP : PoolAt w1 g w.heap.size (List.replicate n ⟨0, 0, none⟩) 0 := ⟨by rw [HG.out]; omega, by rw [List.length_replicate]; exact BK.out, hs, fun x hx hr => absurd (by rw [(List.mem_replicate.mp hx).2]) hr, by rw [List.length_replicate]; exact hn, fun x hx => by rw [(List.mem_replicate.mp hx).2]; exact ⟨Int.le_refl _, by decide⟩, by omega⟩
  have hle : w.heap.size ≤ g := by rw [HG.out]; omega
  have hc := (blk_cell BK.out 1).trans rfl
  have hz := blk_frozen BK.out 1
  have HP := Aside0.mk hP
  have HBL := Aside0.mk hbel
  clear hs hlt hbel hP HB BK HG hmk
  have hcv : wrap32 (n : Int) = n := by simp only [wrap32]; omega
  go_wp2_with (first | (go_at_call 40; (refine (atomStore.calls g 1 _ _ w1 hc hz).mono ?_); rintro e w2 ⟨rfl, rfl⟩; skip))
  go_ret2
  exact ⟨g, w.heap.size, rfl, HP.out.free n (by omega), hle, Nat.le_refl _, HBL.out.setCell (p := ⟨g, 1, none⟩) hle _⟩

set_option maxHeartbeats 8000000 in
set_option maxRecDepth 100000 in
theorem held.calls (g s : Nat) (L : List Slot) (f : Int) (id : Nat) (x : Slot) (hx : L[id]? = some x) (hr : ¬ x.refs = 0) (W : World) (h : PoolAt W g s L f) :
    Calls Try.prog 45 #[.pointer (some ⟨g, 0, none⟩), .int .i64 (id : Int)] W fun e w' => e = .returned (.pointer (some ⟨s, id * 2, none⟩)) ∧ W = w' := by
  have hlt : id < L.length := (List.getElem?_eq_some_iff.mp hx).1
  have d1 : decide ((id : Int) < 0) = false := decide_eq_false (by omega)
  have d2 : decide ((L.length : Int) ≤ (id : Int)) = false := decide_eq_false (by omega)
  have d3 : decide (L.length ≤ id) = false := decide_eq_false (by omega)
  have d4 : (x.refs == 0) = false := beq_eq_false_iff_ne.mpr hr
  have c0 : W.cell? ⟨g, 0, none⟩ = some (.slice (some ⟨s, 0, none⟩) L.length L.length) := (blk_cell h.hg 0).trans rfl
  have c1 : W.cell? ⟨s, id * 2 + 1, none⟩ = some (.int .i32 x.refs) := (blk_cell h.hs _).trans (by rw [List.getElem?_toArray]; exact slotCells_1 L id x hx)
  have p1 : (0 : Int) ≤ (id : Int) := by omega
  have p2 : (id : Int) < (L.length : Int) := by omega
  clear h
  go_enter Try.func45, Try.ntmps45
  go_wp2_with (first | (go_at_call 44; (refine (atomLoad.calls s (id * 2 + 1) x.refs W c1).mono ?_); rintro e w2 ⟨rfl, rfl⟩; skip))
  go_ret
  exact ⟨rfl, rfl⟩
set_option maxHeartbeats 8000000 in
set_option maxRecDepth 100000 in
theorem heldNo.calls (g s : Nat) (L : List Slot) (f : Int) (id : Int) (hid : ∀ x, 0 ≤ id → L[id.toNat]? = some x → x.refs = 0) (W : World) (h : PoolAt W g s L f) :
    Calls Try.prog 45 #[.pointer (some ⟨g, 0, none⟩), .int .i64 id] W fun e w' => e = .returned (.pointer none) ∧ W = w' := by
  have c0 : W.cell? ⟨g, 0, none⟩ = some (.slice (some ⟨s, 0, none⟩) L.length L.length) := (blk_cell h.hg 0).trans rfl
  by_cases q1 : id < 0
  · have d1 : decide (id < 0) = true := decide_eq_true q1
    go_enter Try.func45, Try.ntmps45
    go_wp2
    go_ret
    exact ⟨rfl, rfl⟩
  obtain ⟨n, rfl⟩ := Int.eq_ofNat_of_zero_le (Int.not_lt.mp q1)
  have d1 : decide ((n : Int) < 0) = false := decide_eq_false q1
  by_cases q2 : L.length ≤ n
  · have d2 : decide ((L.length : Int) ≤ (n : Int)) = true := decide_eq_true (by omega)
    have d3 : decide (L.length ≤ n) = true := decide_eq_true q2
    go_enter Try.func45, Try.ntmps45
    go_wp2
    go_ret
    exact ⟨rfl, rfl⟩
  have hlt : n < L.length := by omega
  obtain ⟨x, hx⟩ : ∃ x, L[n]? = some x := ⟨_, List.getElem?_eq_getElem hlt⟩
  have hr := hid x (by omega) (by simpa using hx)
  have d2 : decide ((L.length : Int) ≤ (n : Int)) = false := decide_eq_false (by omega)
  have d3 : decide (L.length ≤ n) = false := decide_eq_false q2
  have c1 : W.cell? ⟨s, n * 2 + 1, none⟩ = some (.int .i32 x.refs) := (blk_cell h.hs _).trans (by rw [List.getElem?_toArray]; exact slotCells_1 L n x hx)
  rw [hr] at c1
  have p1 : (0 : Int) ≤ (n : Int) := by omega
  have p2 : (n : Int) < (L.length : Int) := by omega
  clear h
  go_enter Try.func45, Try.ntmps45
  go_wp2_with (first | (go_at_call 44; (refine (atomLoad.calls s (n * 2 + 1) 0 W c1).mono ?_); rintro e w2 ⟨rfl, rfl⟩; skip))
  go_ret
  exact ⟨rfl, rfl⟩
theorem bx7 {w : World} {g : Nat} {t : TypeId} {a0 a1 a2 a3 a4 a5 a6 : Value} (h : w.heap[g]? = some (.cells #[a0, a1, a2, a3, a4, a5, a6] t (0, 0))) : w.cell? ⟨g, 0, none⟩ = some a0 ∧ w.cell? ⟨g, 1, none⟩ = some a1 ∧ w.cell? ⟨g, 2, none⟩ = some a2 ∧ w.cell? ⟨g, 3, none⟩ = some a3 ∧ w.cell? ⟨g, 4, none⟩ = some a4 ∧ w.cell? ⟨g, 5, none⟩ = some a5 ∧ w.cell? ⟨g, 6, none⟩ = some a6 ∧ (∀ i, w.frozen? ⟨g, i, none⟩ = false) := ⟨(blk_cell h 0).trans rfl, (blk_cell h 1).trans rfl, (blk_cell h 2).trans rfl, (blk_cell h 3).trans rfl, (blk_cell h 4).trans rfl, (blk_cell h 5).trans rfl, (blk_cell h 6).trans rfl, blk_frozen h⟩
set_option maxHeartbeats 8000000 in
set_option maxRecDepth 100000 in
theorem poolFree.calls (g s : Nat) (L : List Slot) (f : Int) (W : World) (h : PoolAt W g s L f) :
    Calls Try.prog 15 #[.pointer (some ⟨g, 0, none⟩)] W fun e w' => e = .returned (.int .i64 f) ∧ W = w' := by
  have c1 : W.cell? ⟨g, 1, none⟩ = some (.int .i32 f) := (blk_cell h.hg 1).trans rfl
  have hw : wrap64 f = f := by have := h.hf; simp only [wrap64]; omega
  clear h
  go_enter Try.func15, Try.ntmps15
  go_wp2_with (first | (go_at_call 44; (refine (atomLoad.calls g 1 f W c1).mono ?_); rintro e w2 ⟨rfl, rfl⟩; skip))
  go_ret
  exact ⟨by simp [*], rfl⟩
set_option maxHeartbeats 8000000 in
set_option maxRecDepth 100000 in
theorem poolSlots.calls (g s : Nat) (L : List Slot) (f : Int) (W : World) (h : PoolAt W g s L f) :
    Calls Try.prog 17 #[.pointer (some ⟨g, 0, none⟩)] W fun e w' => e = .returned (.int .i64 L.length) ∧ W = w' := by
  have c0 : W.cell? ⟨g, 0, none⟩ = some (.slice (some ⟨s, 0, none⟩) L.length L.length) := (blk_cell h.hg 0).trans rfl
  clear h
  go_enter Try.func17, Try.ntmps17
  go_wp2
  go_ret
  exact ⟨rfl, rfl⟩
set_option maxHeartbeats 8000000 in
set_option maxRecDepth 100000 in
theorem poolGet.calls (g s : Nat) (L : List Slot) (f : Int) (id : Nat) (x : Slot) (b : Nat) (hx : L[id]? = some x) (hr : ¬ x.refs = 0) (hb : x.pg = some b) (W : World) (h : PoolAt W g s L f) :
    Calls Try.prog 24 #[.pointer (some ⟨g, 0, none⟩), .int .i64 (id : Int)] W fun e w' => e = .returned (.tuple #[.pointer (some ⟨b, 0, none⟩), .int .i64 0]) ∧ W = w' := by
  have c1 : W.cell? ⟨s, id * 2, none⟩ = some (.pointer (some ⟨b, 0, none⟩)) := (blk_cell h.hs _).trans (by rw [List.getElem?_toArray, slotCells_0 L id x hx, Slot.ptr, hb]; rfl)
  have H := Aside0.mk h
  clear h
  go_enter Try.func24, Try.ntmps24
  go_wp2_with (first | (go_at_call 45; (refine (held.calls g s L f id x hx hr W H.out).mono ?_); rintro e w2 ⟨rfl, rfl⟩; skip))
  go_ret2
  exact ⟨rfl, rfl⟩
set_option maxHeartbeats 8000000 in
set_option maxRecDepth 100000 in
theorem poolGetNo.calls (g s : Nat) (L : List Slot) (f : Int) (id : Int) (hid : ∀ x, 0 ≤ id → L[id.toNat]? = some x → x.refs = 0) (W : World) (h : PoolAt W g s L f) :
    Calls Try.prog 24 #[.pointer (some ⟨g, 0, none⟩), .int .i64 id] W fun e w' => e = .returned (.tuple #[.pointer none, .int .i64 14]) ∧ W = w' := by
  have H := Aside0.mk h
  have HI := Aside0.mk hid
  clear h hid
  go_enter Try.func24, Try.ntmps24
  go_wp2_with (first | (go_at_call 45; (refine (heldNo.calls g s L f id HI.out W H.out).mono ?_); rintro e w2 ⟨rfl, rfl⟩; skip))
  go_ret2
  exact ⟨rfl, rfl⟩
set_option maxHeartbeats 8000000 in
set_option maxRecDepth 100000 in
theorem poolRefs.calls (g s : Nat) (L : List Slot) (f : Int) (id : Nat) (x : Slot) (hx : L[id]? = some x) (hr : ¬ x.refs = 0) (W : World) (h : PoolAt W g s L f) :
    Calls Try.prog 26 #[.pointer (some ⟨g, 0, none⟩), .int .i64 (id : Int)] W fun e w' => e = .returned (.int .i64 x.refs) ∧ W = w' := by
  have c1 : W.cell? ⟨s, id * 2 + 1, none⟩ = some (.int .i32 x.refs) := (blk_cell h.hs _).trans (by rw [List.getElem?_toArray]; exact slotCells_1 L id x hx)
  have hw : wrap64 x.refs = x.refs := by have := h.hr x (List.mem_of_getElem? hx); simp only [wrap64]; omega
  have H := Aside0.mk h
  clear h
  go_enter Try.func26, Try.ntmps26
  go_wp2_with (first | (go_at_call 45; (refine (held.calls g s L f id x hx hr W H.out).mono ?_); rintro e w2 ⟨rfl, rfl⟩; skip) | (go_at_call 44; (refine (atomLoad.calls s (id * 2 + 1) x.refs W c1).mono ?_); rintro e w2 ⟨rfl, rfl⟩; skip))
  go_ret
  exact ⟨by simp [*], rfl⟩
set_option maxHeartbeats 8000000 in
set_option maxRecDepth 100000 in
theorem poolRefsNo.calls (g s : Nat) (L : List Slot) (f : Int) (id : Int) (hid : ∀ x, 0 ≤ id → L[id.toNat]? = some x → x.refs = 0) (W : World) (h : PoolAt W g s L f) :
    Calls Try.prog 26 #[.pointer (some ⟨g, 0, none⟩), .int .i64 id] W fun e w' => e = .returned (.int .i64 0) ∧ W = w' := by
  have H := Aside0.mk h
  have HI := Aside0.mk hid
  clear h hid
  go_enter Try.func26, Try.ntmps26
  go_wp2_with (first | (go_at_call 45; (refine (heldNo.calls g s L f id HI.out W H.out).mono ?_); rintro e w2 ⟨rfl, rfl⟩; skip))
  go_ret
  exact ⟨rfl, rfl⟩
set_option maxHeartbeats 8000000 in
set_option maxRecDepth 100000 in
theorem poolHold.calls (g s : Nat) (L : List Slot) (f : Int) (id : Nat) (x : Slot) (hx : L[id]? = some x) (hr : ¬ x.refs = 0) (hm : x.refs ≤ 999999) (W : World) (h : PoolAt W g s L f) :
    Calls Try.prog 23 #[.pointer (some ⟨g, 0, none⟩), .int .i64 (id : Int)] W fun e w' => e = .returned (.int .i64 0) ∧ PoolAt w' g s (L.set id ⟨x.refs + 1, x.mark, x.pg⟩) f ∧ Mv g s W w' := by
  have c1 : W.cell? ⟨s, id * 2 + 1, none⟩ = some (.int .i32 x.refs) := (blk_cell h.hs _).trans (by rw [List.getElem?_toArray]; exact slotCells_1 L id x hx)
  have z1 := blk_frozen h.hs (id * 2 + 1)
  have hb := h.hr x (List.mem_of_getElem? hx)
  have H := Aside0.mk h
  have H1 := Aside0.mk (h.refs hx (x.refs + 1) (by omega) (fun e => absurd e hr))
  clear h
  go_enter Try.func23, Try.ntmps23
  go_wp2_with (first | (go_at_call 45; (refine (held.calls g s L f id x hx hr W H.out).mono ?_); rintro e w2 ⟨rfl, rfl⟩; skip) | (go_at_call 47; (refine (atomAdd.calls s (id * 2 + 1) x.refs 1 W c1 z1 (by omega)).mono ?_); rintro e w2 ⟨rfl, rfl⟩; skip))
  go_ret
  exact ⟨rfl, H1.out, Mv.set s (id * 2 + 1) (.inr rfl) _⟩
set_option maxHeartbeats 8000000 in
set_option maxRecDepth 100000 in
theorem poolHoldNo.calls (g s : Nat) (L : List Slot) (f : Int) (id : Int) (hid : ∀ x, 0 ≤ id → L[id.toNat]? = some x → x.refs = 0) (W : World) (h : PoolAt W g s L f) :
    Calls Try.prog 23 #[.pointer (some ⟨g, 0, none⟩), .int .i64 id] W fun e w' => e = .returned (.int .i64 14) ∧ W = w' := by
  have H := Aside0.mk h
  have HI := Aside0.mk hid
  clear h hid
  go_enter Try.func23, Try.ntmps23
  go_wp2_with (first | (go_at_call 45; (refine (heldNo.calls g s L f id HI.out W H.out).mono ?_); rintro e w2 ⟨rfl, rfl⟩; skip))
  go_ret
  exact ⟨rfl, rfl⟩
set_option maxHeartbeats 8000000 in
set_option maxRecDepth 100000 in
theorem poolDropNo.calls (g s : Nat) (L : List Slot) (f : Int) (id : Int) (hid : ∀ x, 0 ≤ id → L[id.toNat]? = some x → x.refs = 0) (W : World) (h : PoolAt W g s L f) :
    Calls Try.prog 27 #[.pointer (some ⟨g, 0, none⟩), .int .i64 id] W fun e w' => e = .returned (.int .i64 14) ∧ W = w' := by
  have H := Aside0.mk h
  have HI := Aside0.mk hid
  clear h hid
  go_enter Try.func27, Try.ntmps27
  go_wp2_with (first | (go_at_call 45; (refine (heldNo.calls g s L f id HI.out W H.out).mono ?_); rintro e w2 ⟨rfl, rfl⟩; skip))
  go_ret
  exact ⟨rfl, rfl⟩
set_option maxHeartbeats 8000000 in
set_option maxRecDepth 100000 in
/-- A page's head: its mark. -/
theorem poolHead.calls (b : Nat) (m : Int) (W : World) (h : PgAt W b m) :
    Calls Try.prog 25 #[.pointer (some ⟨b, 0, none⟩)] W fun e w' => ∃ h0 h1 h2 h3 h4 h5 : Int, e = .returned (.agg #[.int .i64 h0, .int .i64 h1, .int .i64 h2, .int .i64 h3, .int .i64 h4, .int .i64 h5, .int .i64 m]) ∧ Below W.heap.size W w' := by
  obtain ⟨h0, h1, h2, h3, h4, h5, e0, e1, e2, e3, e4, e5, e6, -⟩ := h
  have hl := World.block_lt_of_cell? W _ e0
  have hu48 := Try.underlying48
  have HB := Aside0.mk (Below.refl W.heap.size W)
  go_enter Try.func25, Try.ntmps25
  go_wp2_with (first | ((with_reducible refine gate_dst (N := 2) rfl ?_); refine box_event ?hg (N := 2) ?hd (cs := #[.int .i64 0, .int .i64 0, .int .i64 0, .int .i64 0, .int .i64 0, .int .i64 0, .int .i64 0]) (t := 48) ?hr ?_; (case hd => rfl); (case hg => rfl); (case hr => first | (go_simp; done) | (go_simp; rfl)); intro gx hg w3 hbox hb; have HX := Aside0.mk hbox; have GE := Aside0.mk (by rw [hg]; exact (below_size HB.out) : W.heap.size ≤ gx); have hc : ∀ i, w3.cell? ⟨b, i, none⟩ = W.cell? ⟨b, i, none⟩ := (fun i => hb.cell (p := ⟨b, i, none⟩) hl); rw [← hc] at e0 e1 e2 e3 e4 e5 e6; replace HB := Aside0.mk (below_step HB.out hb); have hz := bx7 hbox; clear hbox hb hg hc))
  refine bodyPost_ret (results_cell_row rfl _ _ gx 48 #[.int .i64 h0, .int .i64 h1, .int .i64 h2, .int .i64 h3, .int .i64 h4, .int .i64 h5, .int .i64 m] (0, 0) _ rfl (blk_put (blk_put (blk_put (blk_put (blk_put (blk_put (blk_put HX.out 0 (.int .i64 h0) rfl) 1 (.int .i64 h1) rfl) 2 (.int .i64 h2) rfl) 3 (.int .i64 h3) rfl) 4 (.int .i64 h4) rfl) 5 (.int .i64 h5) rfl) 6 (.int .i64 m) rfl) Try.underlying48 rfl (by kernel_rfl)) rfl ?_
  exact ⟨⟨h0, h1, h2, h3, h4, h5, rfl⟩, by repeat (first | (with_reducible exact HB.out) | with_reducible refine below_set ?_ GE.out)⟩

theorem PoolAt.dropped {W : World} {g s : Nat} {L : List Slot} {f : Int} (h : PoolAt W g s L f) {i : Nat} {x : Slot} (hx : L[i]? = some x) (hf : -1000000 ≤ f + 1 ∧ f + 1 ≤ 1000000) : PoolAt (((W.setCell ⟨s, i * 2, none⟩ (.pointer none)).setCell ⟨g, 1, none⟩ (.int .i32 (f + 1))).setCell ⟨s, i * 2 + 1, none⟩ (.int .i32 0)) g s (L.set i ⟨0, x.mark, none⟩) (f + 1) ∧ Mv g s W (((W.setCell ⟨s, i * 2, none⟩ (.pointer none)).setCell ⟨g, 1, none⟩ (.int .i32 (f + 1))).setCell ⟨s, i * 2 + 1, none⟩ (.int .i32 0)) := by
  have hm := ((Mv.set (g := g) (s := s) (W := W) s (i * 2) (.inr rfl) (.pointer none)).trans (Mv.set g 1 (.inl rfl) (.int .i32 (f + 1)))).trans (Mv.set s (i * 2 + 1) (.inr rfl) (.int .i32 0))
  have hlt := (List.getElem?_eq_some_iff.mp hx).1
  have e0 := slotCells_set0 none L i x hx
  have hx1 : (L.set i ⟨x.refs, x.mark, none⟩)[i]? = some ⟨x.refs, x.mark, none⟩ := by rw [List.getElem?_set_self hlt]
  have e1 := slotCells_set1 0 _ i _ hx1
  rw [List.set_set] at e1
  refine ⟨⟨h.ne, ?_, ?_, ?_, by simpa using h.hn, ?_, hf⟩, hm⟩
  · rw [List.length_set]
    exact blk_far (blk_put (blk_far h.hg (p := ⟨s, i * 2, none⟩) h.ne _) 1 _ rfl) (p := ⟨s, i * 2 + 1, none⟩) h.ne _
  · exact blk_put (blk_far (blk_put h.hs (i * 2) _ (cs' := (slotCells (L.set i ⟨x.refs, x.mark, none⟩)).toArray) (by rw [← e0]; simp)) (p := ⟨g, 1, none⟩) (fun e => h.ne e.symm) _) (i * 2 + 1) _ (by rw [← e1]; simp)
  · intro y hy hr
    rcases List.mem_or_eq_of_mem_set hy with hy | rfl
    · obtain ⟨b, e, hp, n1, n2⟩ := h.hp y hy hr
      exact ⟨b, e, hp.mv hm n1 n2, n1, n2⟩
    · exact absurd rfl hr
  · intro y hy
    rcases List.mem_or_eq_of_mem_set hy with hy | rfl
    · exact h.hr y hy
    · exact ⟨Int.le_refl _, by show (0 : Int) ≤ 1000000; decide⟩
theorem PoolAt.put {W : World} {g s : Nat} {L : List Slot} {f : Int} (h : PoolAt W g s L f) {i : Nat} {x : Slot} (hx : L[i]? = some x) {b : Nat} {m : Int} (hp : PgAt W b m) (n1 : b ≠ g) (n2 : b ≠ s) (hf : -1000000 ≤ f + -1 ∧ f + -1 ≤ 1000000) : PoolAt (((W.setCell ⟨s, i * 2 + 1, none⟩ (.int .i32 1)).setCell ⟨s, i * 2, none⟩ (.pointer (some ⟨b, 0, none⟩))).setCell ⟨g, 1, none⟩ (.int .i32 (f + -1))) g s (L.set i ⟨1, m, some b⟩) (f + -1) ∧ Mv g s W (((W.setCell ⟨s, i * 2 + 1, none⟩ (.int .i32 1)).setCell ⟨s, i * 2, none⟩ (.pointer (some ⟨b, 0, none⟩))).setCell ⟨g, 1, none⟩ (.int .i32 (f + -1))) := by
  have hm := ((Mv.set (g := g) (s := s) (W := W) s (i * 2 + 1) (.inr rfl) (.int .i32 1)).trans (Mv.set s (i * 2) (.inr rfl) (.pointer (some ⟨b, 0, none⟩)))).trans (Mv.set g 1 (.inl rfl) (.int .i32 (f + -1)))
  have hlt := (List.getElem?_eq_some_iff.mp hx).1
  have e0 := slotCells_set1 1 L i x hx
  have hx1 : (L.set i ⟨1, x.mark, x.pg⟩)[i]? = some ⟨1, x.mark, x.pg⟩ := by rw [List.getElem?_set_self hlt]
  have e1 := slotCells_set0 (some b) _ i _ hx1
  rw [List.set_set] at e1
  have hx2 : (L.set i ⟨1, x.mark, some b⟩)[i]? = some ⟨1, x.mark, some b⟩ := by rw [List.getElem?_set_self hlt]
  have e2 := slotCells_marks m _ i _ hx2
  rw [List.set_set] at e2
  refine ⟨⟨h.ne, ?_, ?_, ?_, by simpa using h.hn, ?_, hf⟩, hm⟩
  · rw [List.length_set]
    exact blk_put (blk_far (blk_far h.hg (p := ⟨s, i * 2 + 1, none⟩) h.ne _) (p := ⟨s, i * 2, none⟩) h.ne _) 1 _ rfl
  · refine blk_far ?_ (p := ⟨g, 1, none⟩) (fun e => h.ne e.symm) _
    exact blk_put (blk_put h.hs (i * 2 + 1) _ (cs' := (slotCells (L.set i ⟨1, x.mark, x.pg⟩)).toArray) (by rw [← e0]; simp)) (i * 2) _ (by rw [e2, ← e1]; simp)
  · intro y hy hr
    rcases List.mem_or_eq_of_mem_set hy with hy | rfl
    · obtain ⟨b, e, hp, n1, n2⟩ := h.hp y hy hr
      exact ⟨b, e, hp.mv hm n1 n2, n1, n2⟩
    · exact ⟨b, rfl, hp.mv hm n1 n2, n1, n2⟩
  · intro y hy
    rcases List.mem_or_eq_of_mem_set hy with hy | rfl
    · exact h.hr y hy
    · exact ⟨by show (0 : Int) ≤ 1; decide, by show (1 : Int) ≤ 1000000; decide⟩
/-- A slot that is held once less. -/
def Slot.less (x : Slot) : Slot := if x.refs = 1 then ⟨0, x.mark, none⟩ else ⟨x.refs + -1, x.mark, x.pg⟩
set_option maxHeartbeats 8000000 in
set_option maxRecDepth 100000 in
theorem poolDrop.calls (g s : Nat) (L : List Slot) (f : Int) (id : Nat) (x : Slot) (hx : L[id]? = some x) (hr : ¬ x.refs = 0) (hf : f ≤ 999999) (W : World) (h : PoolAt W g s L f) :
    Calls Try.prog 27 #[.pointer (some ⟨g, 0, none⟩), .int .i64 (id : Int)] W fun e w' => e = .returned (.int .i64 0) ∧ PoolAt w' g s (L.set id x.less) (if x.refs = 1 then f + 1 else f) ∧ Mv g s W w' := by
  have c1 : W.cell? ⟨s, id * 2 + 1, none⟩ = some (.int .i32 x.refs) := (blk_cell h.hs _).trans (by rw [List.getElem?_toArray]; exact slotCells_1 L id x hx)
  have c0 : W.cell? ⟨s, id * 2, none⟩ = some x.ptr := (blk_cell h.hs _).trans (by rw [List.getElem?_toArray]; exact slotCells_0 L id x hx)
  have z0 := blk_frozen h.hs (id * 2)
  have z1 := blk_frozen h.hs (id * 2 + 1)
  have z2 := blk_frozen h.hg 1
  have c2 : W.cell? ⟨g, 1, none⟩ = some (.int .i32 f) := (blk_cell h.hg 1).trans rfl
  have hb := h.hr x (List.mem_of_getElem? hx)
  have hff := h.hf
  have hne := h.ne
  have H := Aside0.mk h
  unfold Slot.less
  by_cases hq : x.refs = 1
  · rw [if_pos hq, if_pos hq]
    have H1 := Aside0.mk (h.dropped hx (by omega))
    have d1 : (x.refs == 1) = true := beq_iff_eq.mpr hq
    clear h
    have c2' : (W.setCell ⟨s, id * 2, none⟩ (.pointer none)).cell? ⟨g, 1, none⟩ = some (.int .i32 f) := (World.cell?_of_block (w := W) (a := ⟨g, 1, none⟩) (Below.heap_setCell W ⟨s, id * 2, none⟩ _ g hne)).trans c2
    have z2' : (W.setCell ⟨s, id * 2, none⟩ (.pointer none)).frozen? ⟨g, 1, none⟩ = false := (World.frozen?_of_block (w := W) (a := ⟨g, 1, none⟩) (Below.heap_setCell W ⟨s, id * 2, none⟩ _ g hne)).trans z2
    have hs' := blk_far (blk_put (H.out).hs (id * 2) (.pointer none) rfl) (p := ⟨g, 1, none⟩) (fun e => hne e.symm) (.int .i32 (f + 1))
    have c1' : ((W.setCell ⟨s, id * 2, none⟩ (.pointer none)).setCell ⟨g, 1, none⟩ (.int .i32 (f + 1))).cell? ⟨s, id * 2 + 1, none⟩ = some (.int .i32 1) := (blk_cell hs' _).trans (by rw [Array.getElem?_setIfInBounds_ne (by omega), List.getElem?_toArray, ← hq]; exact slotCells_1 L id x hx)
    have z1' := blk_frozen hs' (id * 2 + 1)
    rw [hq] at c1
    rw [Slot.ptr] at c0
    clear hs'
    go_enter Try.func27, Try.ntmps27
    go_wp2_with (first | (go_at_call 45; (refine (held.calls g s L f id x hx hr W H.out).mono ?_); rintro e w2 ⟨rfl, rfl⟩; skip) | (go_at_call 44; (refine (atomLoad.calls s (id * 2 + 1) 1 W c1).mono ?_); rintro e w2 ⟨rfl, rfl⟩; skip) | (go_at_call 47; (refine (atomAdd.calls g 1 f 1 _ c2' z2' (by omega)).mono ?_); clear c2'; rintro e w2 ⟨rfl, rfl⟩; skip) | (go_at_call 47; (refine (atomAdd.calls s (id * 2 + 1) 1 (-1) _ c1' z1' (by omega)).mono ?_); rintro e w2 ⟨rfl, rfl⟩; skip))
    go_ret
    exact ⟨rfl, H1.out.1, H1.out.2⟩
  · rw [if_neg hq, if_neg hq]
    have d1 : (x.refs == 1) = false := beq_eq_false_iff_ne.mpr hq
    have H1 := Aside0.mk (h.refs hx (x.refs + -1) (by omega) (fun e => absurd e hr))
    clear h
    go_enter Try.func27, Try.ntmps27
    go_wp2_with (first | (go_at_call 45; (refine (held.calls g s L f id x hx hr W H.out).mono ?_); rintro e w2 ⟨rfl, rfl⟩; skip) | (go_at_call 44; (refine (atomLoad.calls s (id * 2 + 1) x.refs W c1).mono ?_); rintro e w2 ⟨rfl, rfl⟩; skip) | (go_at_call 47; (refine (atomAdd.calls s (id * 2 + 1) x.refs (-1) W c1 z1 (by omega)).mono ?_); rintro e w2 ⟨rfl, rfl⟩; skip))
    go_ret
    exact ⟨rfl, H1.out, Mv.set s (id * 2 + 1) (.inr rfl) _⟩
set_option maxHeartbeats 8000000 in
set_option maxRecDepth 100000 in
theorem poolPutFull.calls (g s : Nat) (L : List Slot) (f : Int) (p : Option Addr) (hfull : ∀ x ∈ L, ¬ x.refs = 0) (W : World) (h : PoolAt W g s L f) :
    Calls Try.prog 21 #[.pointer (some ⟨g, 0, none⟩), .pointer p] W fun e w' => e = .returned (.tuple #[.int .i64 0, .int .i64 23]) ∧ W = w' := by
  have c0 : W.cell? ⟨g, 0, none⟩ = some (.slice (some ⟨s, 0, none⟩) L.length L.length) := (blk_cell h.hg 0).trans rfl
  have HS := Aside0.mk h.hs
  have HN := Aside0.mk h.hn
  have HF := Aside0.mk hfull
  clear h hfull
  go_enter Try.func21, Try.ntmps21
  go_wp2
  go_loopw [13] (fun i W' => ∃ n : Nat, n ≤ L.length ∧ i = .int .i64 n ∧ Aside0 (W = W')) (fun i _ => L.length - (intOf i).toNat)
  case atStart => exact ⟨0, Nat.zero_le _, rfl, ⟨rfl⟩⟩
  case round =>
    obtain ⟨n, hn, rfl, HW⟩ := hrel
    obtain rfl := HW.out
    by_cases q : n < L.length
    · have d1 : decide ((n : Int) < (L.length : Int)) = true := decide_eq_true (by omega)
      have d2 : decide (n < L.length) = true := decide_eq_true q
      have p0 : (0 : Int) ≤ (n : Int) := by omega
      have p1 : (n : Int) < (L.length : Int) := by omega
      obtain ⟨x, hx⟩ : ∃ x, L[n]? = some x := ⟨_, List.getElem?_eq_getElem q⟩
      have hr := HF.out x (List.mem_of_getElem? hx)
      have c1 : W.cell? ⟨s, n * 2 + 1, none⟩ = some (.int .i32 x.refs) := (blk_cell HS.out _).trans (by rw [List.getElem?_toArray]; exact slotCells_1 L n x hx)
      have z1 := blk_frozen HS.out (n * 2 + 1)
      have hw : wrap64 ((n : Int) + 1) = (n : Int) + 1 := by have := HN.out; simp only [wrap64]; omega
      go_wp2_with (first | (go_at_call 46; (refine (atomMiss.calls s (n * 2 + 1) x.refs W c1 z1 hr).mono ?_); rintro e w2 ⟨rfl, rfl⟩; skip))
      rw [hw]; exact ⟨⟨n + 1, by omega, rfl, ⟨trivial⟩⟩, by simp only [intOf]; omega⟩
    · have d1 : decide ((n : Int) < (L.length : Int)) = false := decide_eq_false (by omega)
      have d2 : decide (n < L.length) = false := decide_eq_false q
      go_wp2
      go_ret2
      exact ⟨rfl, rfl⟩
set_option maxHeartbeats 8000000 in
set_option maxRecDepth 100000 in
theorem poolPut.calls (g s : Nat) (L : List Slot) (f : Int) (b : Nat) (m : Int) (k : Nat) (y : Slot) (hk : L[k]? = some y) (hy : y.refs = 0) (hbef : ∀ j x, j < k → L[j]? = some x → ¬ x.refs = 0) (W : World) (h : PoolAt W g s L f) (hp : PgAt W b m) (n1 : b ≠ g) (n2 : b ≠ s) (hf : -999999 ≤ f) :
    Calls Try.prog 21 #[.pointer (some ⟨g, 0, none⟩), .pointer (some ⟨b, 0, none⟩)] W fun e w' => e = .returned (.tuple #[.int .i64 (k : Int), .int .i64 0]) ∧ PoolAt w' g s (L.set k ⟨1, m, some b⟩) (f + -1) ∧ Mv g s W w' := by
  have c0 : W.cell? ⟨g, 0, none⟩ = some (.slice (some ⟨s, 0, none⟩) L.length L.length) := (blk_cell h.hg 0).trans rfl
  have HS := Aside0.mk h.hs
  have HN := Aside0.mk h.hn
  have HF := Aside0.mk hbef
  have hff := h.hf
  have H1 := Aside0.mk (h.put hk hp n1 n2 (by omega))
  have hkl := (List.getElem?_eq_some_iff.mp hk).1
  have hc1 : W.cell? ⟨s, k * 2 + 1, none⟩ = some (.int .i32 0) := (blk_cell h.hs _).trans (by rw [List.getElem?_toArray, slotCells_1 L k y hk, hy])
  have c1 := Aside0.mk hc1
  have z1 := blk_frozen h.hs (k * 2 + 1)
  have hs1 := blk_put h.hs (k * 2 + 1) (.int .i32 1) rfl
  have c2 : (W.setCell ⟨s, k * 2 + 1, none⟩ (.int .i32 1)).cell? ⟨s, k * 2, none⟩ = some y.ptr := (blk_cell hs1 _).trans (by rw [Array.getElem?_setIfInBounds_ne (by omega), List.getElem?_toArray]; exact slotCells_0 L k y hk)
  rw [Slot.ptr] at c2
  have z2 := blk_frozen hs1 (k * 2)
  have c0' : (W.setCell ⟨s, k * 2 + 1, none⟩ (.int .i32 1)).cell? ⟨g, 0, none⟩ = some (.slice (some ⟨s, 0, none⟩) L.length L.length) := (blk_cell (blk_far h.hg (p := ⟨s, k * 2 + 1, none⟩) h.ne _) 0).trans rfl
  have hg2 := blk_far (blk_far h.hg (p := ⟨s, k * 2 + 1, none⟩) h.ne (.int .i32 1)) (p := ⟨s, k * 2, none⟩) h.ne (.pointer (some ⟨b, 0, none⟩))
  have hc3 := (blk_cell hg2 1).trans rfl
  have hz3 := blk_frozen hg2 1
  have c3 := Aside0.mk hc3
  have z3 := Aside0.mk hz3
  clear h hbef hp hk hs1 hg2 hc1 hc3 hz3
  go_enter Try.func21, Try.ntmps21
  go_wp2
  go_loopw [13] (fun i W' => ∃ n : Nat, n ≤ k ∧ i = .int .i64 n ∧ Aside0 (W = W')) (fun i _ => L.length - (intOf i).toNat)
  case atStart => exact ⟨0, Nat.zero_le _, rfl, ⟨rfl⟩⟩
  case round =>
    obtain ⟨n, hn, rfl, HW⟩ := hrel
    obtain rfl := HW.out
    have q : n < L.length := by omega
    have d1 : decide ((n : Int) < (L.length : Int)) = true := decide_eq_true (by omega)
    have d2 : decide (n < L.length) = true := decide_eq_true q
    have p0 : (0 : Int) ≤ (n : Int) := by omega
    have p1 : (n : Int) < (L.length : Int) := by omega
    by_cases e : n = k
    · subst e
      go_wp2_with (first | (go_at_call 46; (refine (atomHit.calls s (n * 2 + 1) W c1.out z1).mono ?_); rintro e w2 ⟨rfl, rfl⟩; skip) | (go_at_call 47; (refine (atomAdd.calls g 1 f (-1) _ c3.out z3.out (by omega)).mono ?_); rintro e w2 ⟨rfl, rfl⟩; skip))
      go_ret2
      exact ⟨rfl, H1.out.1, H1.out.2⟩
    · obtain ⟨x, hx⟩ : ∃ x, L[n]? = some x := ⟨_, List.getElem?_eq_getElem q⟩
      have hr := HF.out n x (by omega) hx
      have c1 : W.cell? ⟨s, n * 2 + 1, none⟩ = some (.int .i32 x.refs) := (blk_cell HS.out _).trans (by rw [List.getElem?_toArray]; exact slotCells_1 L n x hx)
      have z1 := blk_frozen HS.out (n * 2 + 1)
      have hw : wrap64 ((n : Int) + 1) = (n : Int) + 1 := by have := HN.out; simp only [wrap64]; omega
      go_wp2_with (first | (go_at_call 46; (refine (atomMiss.calls s (n * 2 + 1) x.refs W c1 z1 hr).mono ?_); rintro e w2 ⟨rfl, rfl⟩; skip))
      rw [hw]; exact ⟨⟨n + 1, by omega, rfl, ⟨trivial⟩⟩, by simp only [intOf]; omega⟩
def usedTo (L : List Slot) : Nat → List Int
  | 0 => []
  | n + 1 => if (L.getD n ⟨0, 0, none⟩).refs = 0 then usedTo L n else usedTo L n ++ [(n : Int)]
theorem usedTo_le (L : List Slot) : ∀ n, (usedTo L n).length ≤ n
  | 0 => Nat.le_refl _
  | n + 1 => by
    have ih := usedTo_le L n
    unfold usedTo
    split
    · omega
    · simp; omega
set_option maxHeartbeats 8000000 in
set_option maxRecDepth 100000 in
theorem poolUsed.calls (g s : Nat) (L : List Slot) (f : Int) (w : World) (h : PoolAt w g s L f) :
    Calls Try.prog 19 #[.pointer (some ⟨g, 0, none⟩)] w fun e w' => ∃ v0_ : Value, e = .returned (v0_) ∧ Kd.R (Kd.int .i64) 3 w' w.heap.size (fun _ => True) v0_ (usedTo L L.length) ∧ Below w.heap.size w w' := by
  have c0 : w.cell? ⟨g, 0, none⟩ = some (.slice (some ⟨s, 0, none⟩) L.length L.length) := (blk_cell h.hg 0).trans rfl
  have H := Aside0.mk h
  have HN := Aside0.mk h.hn
  have HB := Aside0.mk (Below.refl w.heap.size w)
  clear h
  go_enter Try.func19, Try.ntmps19
  go_wp2
  go_loopw [3, 10] (fun v3 i W' => ∃ n : Nat, n ≤ L.length ∧ i = .int .i64 n ∧ Aside0 (Kd.R (Kd.int .i64) 3 W' w.heap.size (fun _ => True) v3 (usedTo L n)) ∧ Aside0 (Below w.heap.size w W')) (fun _ i _ => L.length - (intOf i).toNat)
  case atStart => exact ⟨0, Nat.zero_le _, rfl, ⟨Kd.R_nil _ _ _ _ _⟩, HB⟩
  case round =>
    clear HB
    obtain ⟨n, hn, rfl, HO, HB⟩ := hrel
    by_cases q : n < L.length
    · have d1 : decide ((n : Int) < (L.length : Int)) = true := decide_eq_true (by omega)
      have d2 : decide (n < L.length) = true := decide_eq_true q
      have hw : wrap64 ((n : Int) + 1) = (n : Int) + 1 := by have := HN.out; simp only [wrap64]; omega
      obtain ⟨x, hx⟩ : ∃ x, L[n]? = some x := ⟨_, List.getElem?_eq_getElem q⟩
      by_cases hr : x.refs = 0
      · have hu : usedTo L (n + 1) = usedTo L n := by rw [usedTo, if_pos (by rw [List.getD_eq_getElem?_getD, hx]; exact hr)]
        go_wp2_with (first | (go_at_call 45; (refine (heldNo.calls g s L f n (fun y _ hy => by rw [Int.toNat_natCast, hx] at hy; obtain rfl := Option.some.inj hy; exact hr) _ (H.out.below HB.out)).mono ?_); rintro e w2 ⟨rfl, rfl⟩; skip))
        rw [hw]
        exact ⟨⟨n + 1, by omega, rfl, ⟨by rw [hu]; exact HO.out⟩, HB⟩, by simp only [intOf]; omega⟩
      · have hu : usedTo L (n + 1) = usedTo L n ++ [(n : Int)] := by rw [usedTo, if_neg (by rw [List.getD_eq_getElem?_getD, hx]; exact hr)]
        have hul := usedTo_le L n
        go_wp2_with (first | (go_at_call 45; (refine (held.calls g s L f n x hx hr _ (H.out.below HB.out)).mono ?_); rintro e w2 ⟨rfl, rfl⟩; skip) | ((with_reducible refine gate_builtin (b := .append) (xs := #[.tmp 17, .tmp 19]) rfl ?_); at_builtin; refine Kd.R_append (Kd.int .i64) (w0 := w) w.heap.size rfl (.tmp 17) (.tmp 19) 28 3 (.int .i64 0) 8 rfl Try.underlying28 info3 rfl (by decide) (by omega) u3 (usedTo L n) (n : Int) [.int .i64 (n : Int)] (fun _ => True) (fun _ => False) rfl rfl ?aP (fun _ hk => hk.elim) ?aF ?aO ?aB ?aS ?aL ?_; (case aP => exact rfl); (case aB => exact (by with_reducible exact HB.out)); (case aF => exact (fun _ _ => trivial)); (case aO => exact (by exact HO.out)); (case aS => exact (below_size (by with_reducible exact HB.out))); (case aL => have := HN.out; omega); intro v245 w8 ho hb hg hat; have HO1 := Aside0.mk ho; have HB1 := Aside0.mk hb; clear ho hb hg hat))
        rw [hw]
        exact ⟨⟨n + 1, by omega, rfl, ⟨by rw [hu]; exact HO1.out⟩, HB1⟩, by simp only [intOf]; omega⟩
    · have d1 : decide ((n : Int) < (L.length : Int)) = false := decide_eq_false (by omega)
      have d2 : decide (n < L.length) = false := decide_eq_false q
      obtain rfl : n = L.length := by omega
      go_wp2
      go_ret
      exact ⟨_, rfl, HO.out, HB.out⟩
theorem mask_ok (a : Int) : 0 ≤ Go.bits .and .i64 a 1023 ∧ Go.bits .and .i64 a 1023 ≤ 1023 ∧ Go.bits .and .i64 (Go.bits .and .i64 a 1023) 1023 = Go.bits .and .i64 a 1023 := by
  have hz : ∀ x : Int, Go.bits .and .i64 x 1023 = ((BitVec.ofInt 64 x &&& 1023#64).toNat : Int) := by
    intro x
    have h1 : (BitVec.ofInt 64 x &&& 1023#64).toNat ≤ 1023 := by
      rw [BitVec.toNat_and]
      exact Nat.and_le_right
    show IntKind.i64.wrap ((BitVec.ofInt 64 x &&& BitVec.ofInt 64 1023).toNat : Int) = _
    rw [show BitVec.ofInt 64 1023 = 1023#64 from by decide, IntKind.wrap_i64]
    omega
  have h1 : (BitVec.ofInt 64 a &&& 1023#64).toNat ≤ 1023 := by
    rw [BitVec.toNat_and]
    exact Nat.and_le_right
  refine ⟨by rw [hz]; omega, by rw [hz]; omega, ?_⟩
  rw [hz (Go.bits .and .i64 a 1023), hz a]
  congr 1
  rw [show BitVec.ofInt 64 ((BitVec.ofInt 64 a &&& 1023#64).toNat : Int) = BitVec.ofInt 64 a &&& 1023#64 from by rw [BitVec.ofInt_natCast, BitVec.ofNat_toNat, BitVec.setWidth_eq], BitVec.and_assoc, BitVec.and_self]
def madeOne (k : Nat) (i : Int) : Bool := match credenzalaw10_made.f k i with
  | some [pg] => pg.f0.f6 == i
  | _ => false
/-- Every mark makes a page that has it, in k rounds. -/
def madeAll (k : Nat) : Bool := (List.range 1024).all fun i => madeOne k (i : Int)
theorem madeOne_up (k : Nat) (i : Int) (h : madeOne k i = true) : madeOne (k + 1) i = true := by
  unfold madeOne at h ⊢
  cases e : credenzalaw10_made.f k i with
  | none => rw [e] at h; cases h
  | some l =>
    rw [credenzalaw10_made.mono i k l e]
    rw [e] at h
    exact h
theorem madeAll_up (k : Nat) (h : madeAll k = true) : madeAll (k + 1) = true := by
  unfold madeAll at h ⊢
  rw [List.all_eq_true] at h ⊢
  exact fun i hi => madeOne_up k _ (h i hi)
def mk (a : Int) : Int := Go.bits .and .i64 a 1023
theorem made_of (k : Nat) (h : madeAll k = true) (a : Int) : ∃ pg, credenzalaw10_made.f k a = some [pg] ∧ pg.f0.f6 = mk a := by
  obtain ⟨h0, h1, h2⟩ := mask_ok a
  have e : credenzalaw10_made.f k a = credenzalaw10_made.f k (mk a) := by
    unfold credenzalaw10_made.f mk
    rw [h2]
  obtain ⟨n, hn⟩ := Int.eq_ofNat_of_zero_le h0
  have hone := (List.all_eq_true.mp h) n (List.mem_range.mpr (by omega))
  rw [e]
  unfold mk
  rw [hn]
  unfold madeOne at hone
  split at hone
  · rename_i pg he
    exact ⟨pg, he, by simpa using hone⟩
  · cases hone
theorem pgAt_of {W : World} {b : Nat} {pg : S96} (h : Kd.C k96 W (some ⟨b, 0, none⟩) 1 [pg]) (hb : ∃ cs, W.heap[b]? = some (.cells cs 96 (0, 0))) : PgAt W b pg.f0.f6 := by
  obtain ⟨ad, A7, c7, A8, c8, e, e0, e1, e2, e3, e4, e5, e6, -⟩ := at_T96 h 0 (Int.le_refl _) (by decide)
  cases e
  exact ⟨_, _, _, _, _, _, e0, e1, e2, e3, e4, e5, e6, hb⟩
theorem madeP.calls (k : Nat) (hk : madeAll k = true) (a : Int) (W : World) :
    Calls Try.prog 22 #[.int .i64 a] W fun e w' => ∃ b, e = .returned (.pointer (some ⟨b, 0, none⟩)) ∧ PgAt w' b (mk a) ∧ W.heap.size ≤ b ∧ Below W.heap.size W w' := by
  obtain ⟨pg, h1, h2⟩ := made_of k hk a
  refine (credenzalaw10_made.calls k a [pg] W h1).mono ?_
  rintro e w' ⟨v, rfl, hN, hb⟩
  obtain ⟨g, cap, rfl, hge, -, hcs⟩ := Kd.N_form hN (by simp)
  obtain ⟨-, -, hC⟩ := Kd.N_reads' hN
  exact ⟨g, by simp [asPtr], by rw [← h2]; exact pgAt_of hC hcs, hge, hb⟩
theorem poolNew2.calls (w : World) : Calls Try.prog 12 #[.int .i64 2] w fun e w' => ∃ g s, e = .returned (.tuple #[.pointer (some ⟨g, 0, none⟩), .int .i64 0]) ∧ PoolAt w' g s [⟨0, 0, none⟩, ⟨0, 0, none⟩] 2 ∧ w.heap.size ≤ g ∧ w.heap.size ≤ s ∧ Below w.heap.size w w' := poolNew.calls 2 (by decide) w
theorem PoolAt.gl {W : World} {g s : Nat} {L : List Slot} {f : Int} (h : PoolAt W g s L f) : g < W.heap.size := blk_lt h.hg
theorem PoolAt.sl {W : World} {g s : Nat} {L : List Slot} {f : Int} (h : PoolAt W g s L f) : s < W.heap.size := blk_lt h.hs
theorem n10 : ¬ (1 : Int) = 0 := by decide
theorem n20 : ¬ (2 : Int) = 0 := by decide
set_option maxRecDepth 100000 in
theorem field6 (h0 h1 h2 h3 h4 h5 m : Int) (w : World) : (Instr.field 48 (Value.agg #[.int .i64 h0, .int .i64 h1, .int .i64 h2, .int .i64 h3, .int .i64 h4, .int .i64 h5, .int .i64 m]) 6).run Try.prog w = .ok (.int .i64 m) w := by kernel_rfl
theorem mk7 : mk 7 = 7 := by decide +kernel
set_option maxHeartbeats 8000000 in
set_option maxRecDepth 100000 in
theorem poolAwake.calls (k : Nat) (hk : madeAll k = true) (w : World) :
    Calls Try.prog 11 #[] w fun e w' => e = .returned (.bool true) ∧ Below w.heap.size w w' := by
  have HK := Aside0.mk hk
  clear hk
  have HB := Aside0.mk (Below.refl w.heap.size w)
  go_enter Try.func11, Try.ntmps11
  go_upto_region 2 with (go_at_call 12; (refine (poolNew2.calls _).mono ?_); rintro e w1 ⟨g, s, rfl, hp, hg, hs, hb⟩; have P := Aside0.mk hp; have G := Aside0.mk hg; have S := Aside0.mk hs; replace HB := Aside0.mk (below_step HB.out hb); clear hp hg hs hb)
  go_upto_region 3 with (go_at_call 12; (refine (poolNew.bad (-1) (.inl (by decide)) _).mono ?_); rintro e w2 ⟨rfl, rfl⟩; skip)
  go_upto_region 5 with (go_at_call 22; (refine (madeP.calls k HK.out 7 _).mono ?_); rintro e w2 ⟨b, rfl, -, -, hb⟩; replace P := Aside0.mk (P.out.below hb); replace HB := Aside0.mk (below_step HB.out hb); clear hb)
  go_upto_region 6 with (first | (go_at_call 22; (refine (madeP.calls k HK.out 7 _).mono ?_); rintro e w2 ⟨b1, rfl, hp, hge, hb⟩; have hgl := P.out.gl; have hsl := P.out.sl; have Q := Aside0.mk hp; have N1 : Aside0 (b1 ≠ g ∧ b1 ≠ s) := ⟨by omega, by omega⟩; clear hgl hsl hge; replace P := Aside0.mk (P.out.below hb); replace HB := Aside0.mk (below_step HB.out hb); clear hb hp) | (go_at_call 21; (refine (poolPut.calls g s _ _ b1 (mk 7) 0 ⟨0, 0, none⟩ rfl rfl (by intro j x hj; omega) _ P.out Q.out N1.out.1 N1.out.2 (by decide)).mono ?_); rintro e w3 ⟨rfl, hp, hm⟩; replace P : Aside0 (PoolAt w3 g s [⟨1, mk 7, some b1⟩, ⟨0, 0, none⟩] 1) := ⟨hp⟩; replace HB := Aside0.mk (HB.out.trans (hm.bel _ G.out S.out (below_size HB.out))); clear Q N1 hp hm))
  go_upto_region 7 with (first | (go_at_call 22; (refine (madeP.calls k HK.out 8 _).mono ?_); rintro e w4 ⟨b2, rfl, hp, hge, hb⟩; have hgl := P.out.gl; have hsl := P.out.sl; have Q := Aside0.mk hp; have N1 : Aside0 (b2 ≠ g ∧ b2 ≠ s) := ⟨by omega, by omega⟩; clear hgl hsl hge; replace P := Aside0.mk (P.out.below hb); replace HB := Aside0.mk (below_step HB.out hb); clear hb hp) | (go_at_call 21; (refine (poolPut.calls g s _ _ b2 (mk 8) 1 ⟨0, 0, none⟩ rfl rfl (by intro j x hj hx; obtain rfl : j = 0 := (by omega); obtain rfl := Option.some.inj hx; exact n10) _ P.out Q.out N1.out.1 N1.out.2 (by decide)).mono ?_); rintro e w5 ⟨rfl, hp, hm⟩; replace P : Aside0 (PoolAt w5 g s [⟨1, mk 7, some b1⟩, ⟨1, mk 8, some b2⟩] 0) := ⟨hp⟩; replace HB := Aside0.mk (HB.out.trans (hm.bel _ G.out S.out (below_size HB.out))); clear Q N1 hp hm))
  go_upto_region 8 with (first | (go_at_call 22; (refine (madeP.calls k HK.out 9 _).mono ?_); rintro e w6 ⟨b3, rfl, -, -, hb⟩; replace P := Aside0.mk (P.out.below hb); replace HB := Aside0.mk (below_step HB.out hb); clear hb) | (go_at_call 21; (refine (poolPutFull.calls g s _ _ (some ⟨b3, 0, none⟩) (by intro x hx; rcases List.mem_cons.mp hx with rfl | hx; exact n10; obtain rfl := List.mem_singleton.mp hx; exact n10) _ P.out).mono ?_); rintro e w7 ⟨rfl, rfl⟩; skip))
  go_upto_region 9 with (first | (go_at_call 23; (refine (poolHold.calls g s _ _ 0 ⟨1, mk 7, some b1⟩ rfl n10 (by show (1 : Int) ≤ 999999; decide) _ P.out).mono ?_); rintro e w8 ⟨rfl, hp, hm⟩; replace P : Aside0 (PoolAt w8 g s [⟨2, mk 7, some b1⟩, ⟨1, mk 8, some b2⟩] 0) := ⟨hp⟩; replace HB := Aside0.mk (HB.out.trans (hm.bel _ G.out S.out (below_size HB.out))); clear hp hm) | (go_at_call 27; (refine (poolDrop.calls g s _ _ 0 ⟨2, mk 7, some b1⟩ rfl n20 (by decide) _ P.out).mono ?_); rintro e w9 ⟨rfl, hp, hm⟩; replace P : Aside0 (PoolAt w9 g s [⟨1, mk 7, some b1⟩, ⟨1, mk 8, some b2⟩] 0) := ⟨hp⟩; replace HB := Aside0.mk (HB.out.trans (hm.bel _ G.out S.out (below_size HB.out))); clear hp hm))
  go_upto_region 10 with (go_at_call 24; (refine (poolGet.calls g s _ _ 0 ⟨1, mk 7, some b1⟩ b1 rfl n10 rfl _ P.out).mono ?_); rintro e w10 ⟨rfl, rfl⟩; skip)
  have Q := P.out.hp ⟨1, mk 7, some b1⟩ List.mem_cons_self n10
  obtain ⟨bq, eq, hq, -⟩ := Q
  obtain rfl := Option.some.inj eq
  have Q := Aside0.mk hq
  clear hq eq
  have A1 := Aside0.mk (True.intro)
  have hfd := field6
  go_wp2_with (first | (go_at_call 25; (refine (poolHead.calls b1 (mk 7) _ Q.out).mono ?_); rintro e w11 ⟨h0, h1, h2, h3, h4, h5, rfl, hb⟩; replace P := Aside0.mk (P.out.below hb); replace HB := Aside0.mk (below_step HB.out hb); rw [mk7]; clear hb) | (go_at_call 26; (refine (poolRefs.calls g s _ _ 0 ⟨1, mk 7, some b1⟩ rfl n10 _ P.out).mono ?_); rintro e w12 ⟨rfl, rfl⟩; skip) | (go_at_call 15; (refine (poolFree.calls g s _ _ _ P.out).mono ?_); rintro e w13 ⟨rfl, rfl⟩; skip) | (go_at_call 27; first | (have q_ := A1.out; clear A1; (refine (poolDrop.calls g s _ _ 1 ⟨1, mk 8, some b2⟩ rfl n10 (by decide) _ P.out).mono ?_); clear q_; rintro e w14 ⟨rfl, hp, hm⟩; replace P : Aside0 (PoolAt w14 g s [⟨1, mk 7, some b1⟩, ⟨0, mk 8, none⟩] 1) := ⟨hp⟩; replace HB := Aside0.mk (HB.out.trans (hm.bel _ G.out S.out (below_size HB.out))); clear hp hm) | ((refine (poolDropNo.calls g s _ _ 1 (by intro x _ hx; obtain rfl := Option.some.inj hx; rfl) _ P.out).mono ?_); rintro e w15 ⟨rfl, rfl⟩; skip)) | (go_at_call 19; (refine (poolUsed.calls g s _ _ _ P.out).mono ?_); rintro e w16 ⟨v, rfl, hr, hb⟩; obtain ⟨Av, cv, rfl⟩ := Kd.R_slice hr; have hlen : (usedTo [⟨1, mk 7, some b1⟩, ⟨0, mk 8, none⟩] 2).length = 1 := rfl; replace P := Aside0.mk (P.out.below hb); replace HB := Aside0.mk (below_step HB.out hb); clear hb hr) | (go_at_call 17; (refine (poolSlots.calls g s _ _ _ P.out).mono ?_); rintro e w17 ⟨rfl, rfl⟩; skip))
  go_ret
  exact ⟨rfl, HB.out⟩
theorem used_all (L : List Slot) (h : ∀ x ∈ L, ¬ x.refs = 0) : ∀ n, n ≤ L.length → (usedTo L n).length = n
  | 0, _ => rfl
  | n + 1, hn => by
    have ih := used_all L h n (by omega)
    obtain ⟨x, hx⟩ : ∃ x, L[n]? = some x := ⟨_, List.getElem?_eq_getElem (by omega)⟩
    rw [usedTo, if_neg (by rw [List.getD_eq_getElem?_getD, hx]; exact h x (List.mem_of_getElem? hx))]
    simp [ih]
/-- What is so of a row's place behind one of them is put. -/
theorem set_at {L : List Slot} {k i : Nat} {y x : Slot} (h : (L.set k y)[i]? = some x) : (i = k ∧ x = y) ∨ (i ≠ k ∧ L[i]? = some x) := by
  by_cases e : i = k
  · subst e
    rw [List.getElem?_set_self' ] at h
    cases q : L[i]? with
    | none => rw [q] at h; cases h
    | some z => rw [q] at h; exact .inl ⟨rfl, (Option.some.inj h).symm⟩
  · rw [List.getElem?_set_ne (fun q => e q.symm)] at h
    exact .inr ⟨e, h⟩

def credenzalaw10_awake.f (k : Nat) : Option Bool := if madeAll k = true then some true else none
theorem allLe (k : Nat) : LeO (if madeAll k = true then some true else none) (if madeAll (k + 1) = true then some true else none) := by
  by_cases h : madeAll k = true
  · rw [if_pos h, if_pos (madeAll_up k h)]
    exact LeO.refl _
  · rw [if_neg h]
    exact LeO.none _
theorem credenzalaw10_awake.mono : ∀ k, LeO (credenzalaw10_awake.f k) (credenzalaw10_awake.f (k + 1)) := fun k => allLe k
theorem allOf {k : Nat} {r : Bool} (h : (if madeAll k = true then some true else none) = some r) : madeAll k = true ∧ r = true := by
  by_cases c : madeAll k = true
  · rw [if_pos c] at h
    exact ⟨c, (Option.some.inj h).symm⟩
  · rw [if_neg c] at h
    cases h
theorem credenzalaw10_awake.calls (k : Nat) (r : Bool) (w : World) (h : credenzalaw10_awake.f k = some r) :
    Calls Try.prog 11 #[] w fun e w' => e = .returned (.bool r) ∧ Below w.heap.size w w' := by
  obtain ⟨h1, rfl⟩ := allOf h
  exact poolAwake.calls k h1 w

/-! ### credenzaref10_New: function 13 -/
def credenzaref10_New.l0 : Nat → Int → Int → List Int → List Int → Option (List Int × List Int)
  | 0, _, _, _, _ => none
  | k + 1, x0, x4, x210000, x210001 => if x4 < x0 then (if x210000.length < 17592186044416 then (if x210001.length < 17592186044416 then (credenzaref10_New.l0 k x0 (wrap64 (x4 + 1)) (x210000 ++ [0]) (x210001 ++ [0])) else (none)) else (none)) else (some (x210000, x210001))
def credenzaref10_New.f (k : Nat) (a0 : Int) : Option (List Int × List Int) := credenzaref10_New.l0 k a0 0 ([] : List Int) ([] : List Int)
theorem credenzaref10_New.mono_l : ∀ k, (∀ y0 y1 y2 y3, LeO (credenzaref10_New.l0 k y0 y1 y2 y3) (credenzaref10_New.l0 (k + 1) y0 y1 y2 y3))
  | 0 => fun _ _ _ _ r h => by simp [credenzaref10_New.l0] at h
  | k + 1 => by
    have ih0 := credenzaref10_New.mono_l k
    · intro y0 y1 y2 y3
      unfold credenzaref10_New.l0
      repeat' first
      | (with_reducible exact ih0 _ _ _ _)
      | (with_reducible exact LeO.refl _)
      | (with_reducible exact LeO.none _)
      | (with_reducible refine LeO.ite ?_ ?_)
      | (with_reducible refine LeO.bind ?_ (fun _ => ?_))
      | exact ih0 _ _ _ _
      | exact LeO.none _
      | refine LeO.ite ?_ ?_
      | refine LeO.bind ?_ (fun _ => ?_)
theorem credenzaref10_New.mono : ∀ a0 k, LeO (credenzaref10_New.f k a0) (credenzaref10_New.f (k + 1) a0) := by
  intro a0 k
  have ih0 := credenzaref10_New.mono_l k
  unfold credenzaref10_New.f
  repeat' first
      | (with_reducible exact ih0 _ _ _ _)
      | (with_reducible exact LeO.refl _)
      | (with_reducible exact LeO.none _)
      | (with_reducible refine LeO.ite ?_ ?_)
      | (with_reducible refine LeO.bind ?_ (fun _ => ?_))
      | exact ih0 _ _ _ _
      | exact LeO.none _
      | refine LeO.ite ?_ ?_
      | refine LeO.bind ?_ (fun _ => ?_)
set_option maxHeartbeats 8000000 in
set_option maxRecDepth 100000 in
theorem credenzaref10_New.calls (k : Nat) (a0 : Int) (r1 : List Int) (r2 : List Int) (w : World) (h : credenzaref10_New.f k a0 = some (r1, r2)) :
    Calls Try.prog 13 #[.int .i64 a0] w fun e w' => ∃ v0_ v1_ : Value, e = .returned (.agg #[v0_, v1_]) ∧ Kd.R (Kd.int .i64) 3 w' w.heap.size (fun k_ => some k_ ≠ (v1_ : Value).ownBlock) v0_ r1 ∧ Kd.R (Kd.int .i64) 3 w' w.heap.size (fun k_ => some k_ ≠ (v0_ : Value).ownBlock) v1_ r2 ∧ Below w.heap.size w w' := by
  have hu30 := Try.underlying30
  have HB := Aside0.mk (Below.refl w.heap.size w)
  have H : (credenzaref10_New.l0 k a0 0 ([] : List Int) ([] : List Int)) = some (r1, r2) := h
  clear h
  have H' := Aside0.mk H
  clear H
  go_enter Try.func13, Try.ntmps13
  go_wp2_with (first | ((with_reducible refine gate_dst (N := 2) rfl ?_); refine box_event ?hg (N := 2) ?hd (cs := #[.slice none 0 0, .slice none 0 0]) (t := 30) ?hr ?_; (case hd => rfl); (case hg => rfl); (case hr => first | (go_simp; done) | (go_simp; rfl)); intro gb208 hg w2 hbox hb; have n0_ := Aside0.mk (below_step (by with_reducible exact HB.out) hb); have n1_ := Aside0.mk (hbox); have n2_ := Aside0.mk ((by rw [hg]; exact (below_size (by with_reducible exact HB.out)) : w.heap.size ≤ gb208)); have n3_ := Aside0.mk ((by rw [hg]; exact (below_size (by with_reducible exact HB.out)) : w.heap.size ≤ gb208)); clear HB; have HB := n0_; have BK208 := n1_; have GW208 := n2_; have GE208 := n3_; clear n0_ n1_ n2_ n3_; clear hb hbox hg) | ((with_reducible refine gate_dst (N := 3) rfl ?_); refine box_event ?hg (N := 3) ?hd (cs := #[.slice none 0 0, .slice none 0 0]) (t := 30) ?hr ?_; (case hd => rfl); (case hg => rfl); (case hr => first | (go_simp; done) | (go_simp; rfl)); intro gb209 hg w3 hbox hb; have n0_ := Aside0.mk (blk_below (g := gb208) (o := .cells #[.slice none 0 0, .slice none 0 0] 30 (0, 0)) (by exact BK208.out) hb); have n1_ := Aside0.mk (below_step (by with_reducible exact HB.out) hb); have n2_ := Aside0.mk (hbox); have n3_ := Aside0.mk ((by rw [hg]; exact (below_size (by with_reducible exact HB.out)) : w.heap.size ≤ gb209)); have n4_ := Aside0.mk ((by rw [hg]; exact (below_size (by with_reducible exact HB.out)) : w.heap.size ≤ gb209)); have n5_ := Aside0.mk ((by rw [hg]; exact Nat.ne_of_lt (blk_lt (g := gb208) (o := .cells #[.slice none 0 0, .slice none 0 0] 30 (0, 0)) (by exact BK208.out)) : gb208 ≠ gb209)); have n6_ := Aside0.mk ((by rw [hg]; exact Nat.ne_of_gt (blk_lt (g := gb208) (o := .cells #[.slice none 0 0, .slice none 0 0] 30 (0, 0)) (by exact BK208.out)) : gb209 ≠ gb208)); clear BK208; clear HB; have BK208 := n0_; have HB := n1_; have BK209 := n2_; have GW209 := n3_; have GE209 := n4_; have NB208_209 := n5_; have NB209_208 := n6_; clear n0_ n1_ n2_ n3_ n4_ n5_ n6_; clear hb hbox hg; have hnb4 := NB209_208.out; have hnc4 := NB208_209.out; have hcz5_0 : w3.cell? ⟨gb209, 0, none⟩ = some (.slice none 0 0) := (blk_cell BK209.out 0).trans rfl; have hcz5_1 : w3.cell? ⟨gb209, 1, none⟩ = some (.slice none 0 0) := (blk_cell BK209.out 1).trans rfl; have hfz5_0 := blk_frozen BK209.out 0; have hfz5_1 := blk_frozen BK209.out 1))
  go_loopg [4] k (fun kq v4 w' => ∃ (x4_1 : Int) (x210000_1 : List Int) (x210001_1 : List Int) (u210000 : Value) (u210001 : Value), v4 = .int .i64 x4_1 ∧ Aside0 (credenzaref10_New.l0 kq a0 x4_1 x210000_1 x210001_1 = some (r1, r2)) ∧ Aside0 (kq ≤ k) ∧ Aside0 (Kd.R (Kd.int .i64) 3 w' w.heap.size (fun k_ => some k_ ≠ (u210001 : Value).ownBlock) u210000 x210000_1) ∧ Aside0 (Kd.R (Kd.int .i64) 3 w' w.heap.size (fun k_ => some k_ ≠ (u210000 : Value).ownBlock) u210001 x210001_1) ∧ Aside0 (w'.heap[gb208]? = some (.cells #[(.slice none 0 0), (.slice none 0 0)] 30 (0, 0))) ∧ Aside0 (w'.heap[gb209]? = some (.cells #[u210000, u210001] 30 (0, 0))) ∧ Aside0 (Below w.heap.size w w'))
  case atStart => exact ⟨(0), (([] : List Int)), (([] : List Int)), (.slice none 0 0), (.slice none 0 0), (by first | rfl | (simp; done) | (simp [*]; done)), H', ⟨Nat.le_refl _⟩, ⟨by first | exact Kd.R_nil _ _ _ _ _ | exact Kd.N_nil _ _ _ _ _ | exact Kd.V_nil _ _ _ _ _ | exact Kd.Q_nil _ _ _ _ _ | exact Kd.S_nil _ _ _ _ _⟩, ⟨by first | exact Kd.R_nil _ _ _ _ _ | exact Kd.N_nil _ _ _ _ _ | exact Kd.V_nil _ _ _ _ _ | exact Kd.Q_nil _ _ _ _ _ | exact Kd.S_nil _ _ _ _ _⟩, ⟨by (with_reducible repeat (first | refine blk_drewN ?_ _ | refine blk_drew ?_ | refine blk_alloc ?_ _)); refine blk_far ?_ NB208_209.out _; (with_reducible repeat (first | refine blk_drewN ?_ _ | refine blk_drew ?_ | refine blk_alloc ?_ _)); refine blk_far ?_ NB208_209.out _; (with_reducible repeat (first | refine blk_drewN ?_ _ | refine blk_drew ?_ | refine blk_alloc ?_ _)); exact BK208.out⟩, ⟨by (with_reducible repeat (first | refine blk_drewN ?_ _ | refine blk_drew ?_ | refine blk_alloc ?_ _)); refine blk_put (cs := #[.slice none 0 0, .slice none 0 0]) ?_ 1 _ rfl; (with_reducible repeat (first | refine blk_drewN ?_ _ | refine blk_drew ?_ | refine blk_alloc ?_ _)); refine blk_put (cs := #[.slice none 0 0, .slice none 0 0]) ?_ 0 _ rfl; (with_reducible repeat (first | refine blk_drewN ?_ _ | refine blk_drew ?_ | refine blk_alloc ?_ _)); exact BK209.out⟩, ⟨by repeat (first | (with_reducible first | exact HB.out | apply below_alloc | apply pw_below_drewN | apply below_drew1 | refine below_set ?_ GE208.out | refine below_set ?_ GE209.out) | exact HB.out)⟩⟩
  case round =>
    clear H'
    try clear c1
    try clear p2
    try clear c4
    try clear hcz5_0
    try clear hcz5_1
    try clear hfz5_0
    try clear hfz5_1
    obtain ⟨x4_1, x210000_1, x210001_1, u210000, u210001, rfl, HA, HK1, HO_210000, HO_210001, BK208, BK209, HB⟩ := hrel
    cases gk with
    | zero => exact absurd HA.out (by simp [credenzaref10_New.l0])
    | succ k1 =>
      have H := HA.out
      clear HA
      simp only [credenzaref10_New.l0] at H
      by_cases c6 : x4_1 < a0
      · rw [if_pos c6] at H
        have c6b0 : decide (x4_1 < a0) = true := decide_eq_true c6
        clear c6
        by_cases c7 : x210000_1.length < 17592186044416
        case neg => (rw [if_neg c7] at H; exact absurd H (by simp))
        rw [if_pos c7] at H
        have LMc7 := Aside0.mk c7
        clear c7
        obtain ⟨y210, hy210⟩ : ∃ y_ : List Int, y_ = (x210000_1 ++ [0]) := ⟨_, rfl⟩
        replace H : (if x210001_1.length < 17592186044416 then (credenzaref10_New.l0 k1 a0 (wrap64 (x4_1 + 1)) y210 (x210001_1 ++ [0])) else (none)) = some (r1, r2) := by first | (rw [hy210]; with_reducible exact H) | (have H2_ := (Option.bind_some _ _).symm.trans H; rw [hy210]; with_reducible exact H2_) | (have H2_ := (Option.bind_some _ _).symm.trans H; with_reducible exact H2_) | with_reducible exact H | (rw [hy210]; exact H) | exact H
        have Ny210 := Aside0.mk hy210
        clear hy210
        by_cases c8 : x210001_1.length < 17592186044416
        case neg => (rw [if_neg c8] at H; exact absurd H (by simp))
        rw [if_pos c8] at H
        have LMc8 := Aside0.mk c8
        clear c8
        obtain ⟨y213, hy213⟩ : ∃ y_ : List Int, y_ = (x210001_1 ++ [0]) := ⟨_, rfl⟩
        replace H : (credenzaref10_New.l0 k1 a0 (wrap64 (x4_1 + 1)) y210 y213) = some (r1, r2) := by first | (rw [hy213]; with_reducible exact H) | (have H2_ := (Option.bind_some _ _).symm.trans H; rw [hy213]; with_reducible exact H2_) | (have H2_ := (Option.bind_some _ _).symm.trans H; with_reducible exact H2_) | with_reducible exact H | (rw [hy213]; exact H) | exact H
        have Ny213 := Aside0.mk hy213
        clear hy213
        have H' := Aside0.mk H
        clear H
        have hnb9 := NB209_208.out
        have hnc9 := NB208_209.out
        have hcz10_0 : wr.cell? ⟨gb209, 0, none⟩ = some (u210000) := (blk_cell BK209.out 0).trans rfl
        have hcz10_1 : wr.cell? ⟨gb209, 1, none⟩ = some (u210001) := (blk_cell BK209.out 1).trans rfl
        have hfz10_0 := blk_frozen BK209.out 0
        have hfz10_1 := blk_frozen BK209.out 1
        go_wp2_with (first | ((with_reducible refine gate_builtin (b := .append) (xs := #[.tmp 12, .tmp 13]) rfl ?_); at_builtin; refine Kd.R_append (Kd.int .i64) (w0 := w) w.heap.size rfl (.tmp 12) (.tmp 13) 28 3 (.int .i64 0) 8 rfl Try.underlying28 info3 rfl (by decide) (by omega) u210000 x210000_1 0 [.int .i64 0] (fun k_ => some k_ ≠ (u210001 : Value).ownBlock) (fun _ => False) rfl rfl ?aP (fun _ hk => hk.elim) ?aF ?aO ?aB ?aS ?aL ?_; (case aP => exact rfl); (case aB => exact (by with_reducible exact HB.out)); (case aF => exact (fun k_ hk => Kd.fresh' (Kd.R_lt (by exact HO_210001.out)) k_ hk)); (case aO => exact (by exact HO_210000.out)); (case aS => exact (below_size (by with_reducible exact HB.out))); (case aL => have := LMc7.out; omega); intro v211 w11 ho hb hg hat; rw [← Ny210.out] at ho; have n0_ := Aside0.mk (Kd.R_after (ok := (fun _ => True)) (by exact Kd.R_mono HO_210001.out (fun _ hk => ⟨trivial, hk⟩)) hg hat); have n1_ := Aside0.mk (blk_grown (g := gb208) (o := .cells #[.slice none 0 0, .slice none 0 0] 30 (0, 0)) (by exact BK208.out) hg (Kd.R_ne HO_210000.out BK208.out (by decide))); have n2_ := Aside0.mk (blk_grown (g := gb209) (o := .cells #[u210000, u210001] 30 (0, 0)) (by exact BK209.out) hg (Kd.R_ne HO_210000.out BK209.out (by decide))); have n3_ := Aside0.mk (hb); have n4_ := Aside0.mk (ho); clear HO_210001; clear BK208; clear BK209; clear HB; clear HO_210000; have HO_210001 := n0_; have BK208 := n1_; have BK209 := n2_; have HB := n3_; have HO212 := n4_; clear n0_ n1_ n2_ n3_ n4_; clear ho hb hg hat; obtain ⟨Ao12, co12, eo12⟩ := Kd.R_slice HO212.out; subst eo12; have hcz13_0 : w11.cell? ⟨gb209, 0, none⟩ = some (u210000) := (blk_cell BK209.out 0).trans rfl; have hcz13_1 : w11.cell? ⟨gb209, 1, none⟩ = some (u210001) := (blk_cell BK209.out 1).trans rfl; have hfz13_0 := blk_frozen BK209.out 0; have hfz13_1 := blk_frozen BK209.out 1) | ((with_reducible refine gate_builtin (b := .append) (xs := #[.tmp 17, .tmp 18]) rfl ?_); at_builtin; refine Kd.R_append (Kd.int .i64) (w0 := w) w.heap.size rfl (.tmp 17) (.tmp 18) 28 3 (.int .i64 0) 8 rfl Try.underlying28 info3 rfl (by decide) (by omega) u210001 x210001_1 0 [.int .i64 0] (fun k_ => some k_ ≠ (.slice Ao12 y210.length co12 : Value).ownBlock) (fun _ => False) rfl (by first | (go_simp; done) | (go_simp; rfl)) ?aP (fun _ hk => hk.elim) ?aF ?aO ?aB ?aS ?aL ?_; (case aP => exact rfl); (case aB => exact (by repeat (first | (with_reducible first | exact HB.out | apply below_alloc | apply pw_below_drewN | apply below_drew1 | refine below_set ?_ GE208.out | refine below_set ?_ GE209.out) | exact HB.out))); (case aF => exact (fun k_ hk => Kd.fresh' (Kd.R_lt (by (with_reducible repeat (first | apply Kd.R_alloc | apply Kd.R_drewN | apply Kd.R_drew)); exact (Kd.R_mono (Kd.R_far (p := ⟨gb209, 0, none⟩) (Kd.R_types HO212.out BK209.out (by decide)) (fun _ hk => hk.2) (.slice Ao12 y210.length co12)) (fun _ h_ => h_.1)))) k_ hk)); (case aO => exact (by (with_reducible repeat (first | apply Kd.R_alloc | apply Kd.R_drewN | apply Kd.R_drew)); exact Kd.R_mono (Kd.R_far (p := ⟨gb209, 0, none⟩) (Kd.R_types HO_210001.out BK209.out (by decide)) (fun _ hk => hk.2) (.slice Ao12 y210.length co12)) (fun _ hk => hk.1.2))); (case aS => exact (below_size (by repeat (first | (with_reducible first | exact HB.out | apply below_alloc | apply pw_below_drewN | apply below_drew1 | refine below_set ?_ GE208.out | refine below_set ?_ GE209.out) | exact HB.out)))); (case aL => have := LMc8.out; omega); intro v214 w14 ho hb hg hat; rw [← Ny213.out] at ho; have n0_ := Aside0.mk (blk_grown (g := gb208) (o := .cells #[.slice none 0 0, .slice none 0 0] 30 (0, 0)) (by (with_reducible repeat (first | refine blk_drewN ?_ _ | refine blk_drew ?_ | refine blk_alloc ?_ _)); refine blk_far ?_ NB208_209.out _; (with_reducible repeat (first | refine blk_drewN ?_ _ | refine blk_drew ?_ | refine blk_alloc ?_ _)); exact BK208.out) hg (Kd.R_ne HO_210001.out BK208.out (by decide))); have n1_ := Aside0.mk (blk_grown (g := gb209) (o := .cells #[.slice Ao12 y210.length co12, u210001] 30 (0, 0)) (by (with_reducible repeat (first | refine blk_drewN ?_ _ | refine blk_drew ?_ | refine blk_alloc ?_ _)); refine blk_put (cs := #[u210000, u210001]) ?_ 0 _ rfl; (with_reducible repeat (first | refine blk_drewN ?_ _ | refine blk_drew ?_ | refine blk_alloc ?_ _)); exact BK209.out) hg (Kd.R_ne HO_210001.out BK209.out (by decide))); have n2_ := Aside0.mk (Kd.R_after (ok := (fun _ => True)) (by (with_reducible repeat (first | apply Kd.R_alloc | apply Kd.R_drewN | apply Kd.R_drew)); exact Kd.R_mono (Kd.R_far (p := ⟨gb209, 0, none⟩) (Kd.R_types HO212.out BK209.out (by decide)) (fun _ hk => hk.2) (.slice Ao12 y210.length co12)) (fun _ hk => ⟨trivial, hk.1⟩)) hg hat); have n3_ := Aside0.mk (hb); have n4_ := Aside0.mk (ho); clear BK208; clear BK209; clear HO212; clear HB; clear HO_210001; have BK208 := n0_; have BK209 := n1_; have HO212 := n2_; have HB := n3_; have HO215 := n4_; clear n0_ n1_ n2_ n3_ n4_; clear ho hb hg hat; obtain ⟨Ao15, co15, eo15⟩ := Kd.R_slice HO215.out; subst eo15; have hcz16_0 : w14.cell? ⟨gb209, 0, none⟩ = some (.slice Ao12 y210.length co12) := (blk_cell BK209.out 0).trans rfl; have hcz16_1 : w14.cell? ⟨gb209, 1, none⟩ = some (u210001) := (blk_cell BK209.out 1).trans rfl; have hfz16_0 := blk_frozen BK209.out 0; have hfz16_1 := blk_frozen BK209.out 1))
        go_roundg k1
        case measure => have := HK1.out; omega
        case rel => exact ⟨(wrap64 (x4_1 + 1)), (y210), (y213), (.slice Ao12 y210.length co12), (.slice Ao15 y213.length co15), (by first | rfl | (simp; done) | (simp [*]; done)), H', ⟨by have := HK1.out; omega⟩, ⟨by (with_reducible repeat (first | apply Kd.R_alloc | apply Kd.R_drewN | apply Kd.R_drew)); exact Kd.R_mono (Kd.R_far (p := ⟨gb209, 1, none⟩) (Kd.R_types HO212.out BK209.out (by decide)) (fun _ hk => hk.2) (.slice Ao15 y213.length co15)) (fun _ hk => hk.1.2)⟩, ⟨by (with_reducible repeat (first | apply Kd.R_alloc | apply Kd.R_drewN | apply Kd.R_drew)); exact Kd.R_mono (Kd.R_far (p := ⟨gb209, 1, none⟩) (Kd.R_types HO215.out BK209.out (by decide)) (fun _ hk => hk.2) (.slice Ao15 y213.length co15)) (fun _ hk => hk.1)⟩, ⟨by (with_reducible repeat (first | refine blk_drewN ?_ _ | refine blk_drew ?_ | refine blk_alloc ?_ _)); refine blk_far ?_ NB208_209.out _; (with_reducible repeat (first | refine blk_drewN ?_ _ | refine blk_drew ?_ | refine blk_alloc ?_ _)); exact BK208.out⟩, ⟨by (with_reducible repeat (first | refine blk_drewN ?_ _ | refine blk_drew ?_ | refine blk_alloc ?_ _)); refine blk_put (cs := #[.slice Ao12 y210.length co12, u210001]) ?_ 1 _ rfl; (with_reducible repeat (first | refine blk_drewN ?_ _ | refine blk_drew ?_ | refine blk_alloc ?_ _)); exact BK209.out⟩, ⟨by repeat (first | (with_reducible first | exact HB.out | apply below_alloc | apply pw_below_drewN | apply below_drew1 | refine below_set ?_ GE208.out | refine below_set ?_ GE209.out) | exact HB.out)⟩⟩
      · rw [if_neg c6] at H
        have c6b0 : decide (x4_1 < a0) = false := decide_eq_false c6
        clear c6
        simp only [Option.some.injEq, Prod.mk.injEq] at H
        obtain ⟨rfl, rfl⟩ := H
        have hnb17 := NB209_208.out
        have hnc17 := NB208_209.out
        have hcz18_0 : wr.cell? ⟨gb209, 0, none⟩ = some (u210000) := (blk_cell BK209.out 0).trans rfl
        have hcz18_1 : wr.cell? ⟨gb209, 1, none⟩ = some (u210001) := (blk_cell BK209.out 1).trans rfl
        have hfz18_0 := blk_frozen BK209.out 0
        have hfz18_1 := blk_frozen BK209.out 1
        obtain ⟨Ao19, co19, eo19⟩ := Kd.R_slice HO_210000.out
        subst eo19
        have hcz20_0 : wr.cell? ⟨gb208, 0, none⟩ = some (.slice none 0 0) := (blk_cell BK208.out 0).trans rfl
        have hcz20_1 : wr.cell? ⟨gb208, 1, none⟩ = some (.slice none 0 0) := (blk_cell BK208.out 1).trans rfl
        have hfz20_0 := blk_frozen BK208.out 0
        have hfz20_1 := blk_frozen BK208.out 1
        obtain ⟨Ao21, co21, eo21⟩ := Kd.R_slice HO_210001.out
        subst eo21
        go_wp2
        refine bodyPost_ret (results_cell_row rfl _ _ gb208 30 #[.slice Ao19 x210000_1.length co19, .slice Ao21 x210001_1.length co21] (0, 0) _ rfl (by (with_reducible repeat (first | refine blk_drewN ?_ _ | refine blk_drew ?_ | refine blk_alloc ?_ _)); refine blk_put (cs := #[.slice Ao19 x210000_1.length co19, .slice none 0 0]) ?_ 1 _ rfl; (with_reducible repeat (first | refine blk_drewN ?_ _ | refine blk_drew ?_ | refine blk_alloc ?_ _)); refine blk_put (cs := #[.slice none 0 0, .slice none 0 0]) ?_ 0 _ rfl; (with_reducible repeat (first | refine blk_drewN ?_ _ | refine blk_drew ?_ | refine blk_alloc ?_ _)); exact BK208.out) Try.underlying30 rfl (by kernel_rfl)) rfl ?_
        exact ⟨_, _, by first | rfl | (simp [errW_none, errW_some] <;> rfl) | (simp [*, errW_none, errW_some] <;> rfl), by (with_reducible repeat (first | apply Kd.R_alloc | apply Kd.R_drewN | apply Kd.R_drew)); exact Kd.R_mono (Kd.R_far (p := ⟨gb208, 1, none⟩) (Kd.R_far (p := ⟨gb208, 0, none⟩) (Kd.R_types HO_210000.out BK208.out (by decide)) (fun _ hk => hk.2) (.slice Ao19 x210000_1.length co19)) (fun _ hk => hk.2) (.slice Ao21 x210001_1.length co21)) (fun _ hk => hk.1), by (with_reducible repeat (first | apply Kd.R_alloc | apply Kd.R_drewN | apply Kd.R_drew)); exact Kd.R_mono (Kd.R_far (p := ⟨gb208, 1, none⟩) (Kd.R_far (p := ⟨gb208, 0, none⟩) (Kd.R_types HO_210001.out BK208.out (by decide)) (fun _ hk => hk.2) (.slice Ao19 x210000_1.length co19)) (fun _ hk => hk.2) (.slice Ao21 x210001_1.length co21)) (fun _ hk => hk.1), by repeat (first | (with_reducible first | exact HB.out | apply below_alloc | apply pw_below_drewN | apply below_drew1 | refine below_set ?_ GE208.out | refine below_set ?_ GE209.out) | exact HB.out)⟩

/-! ### credenzaref10_with: function 56 -/
def credenzaref10_with.f (l0 : List Int) (a1 : Int) (a2 : Int) : Option (List Int) := if ([] : List Int).length + l0.length < 17592186044416 then ((some (([] : List Int) ++ l0 : List Int)).bind fun y216 => (if 0 ≤ a1 then (if a1 < (y216.length : Int) then (some (y216.set (a1 : Int).toNat a2)) else (none)) else (none))) else (none)
set_option maxHeartbeats 8000000 in
set_option maxRecDepth 100000 in
theorem credenzaref10_with.calls (A0 : Option Addr) (c0 : Nat) (l0 : List Int) (a1 : Int) (a2 : Int) (r : List Int) (w : World) (hr0 : Kd.C (Kd.int .i64) w A0 l0.length l0) (hc0 : l0.length ≤ c0) (h : credenzaref10_with.f l0 a1 a2 = some r) :
    Calls Try.prog 56 #[.slice A0 l0.length c0, .int .i64 a1, .int .i64 a2] w fun e w' => ∃ v0_ : Value, e = .returned (v0_) ∧ Kd.R (Kd.int .i64) 3 w' w.heap.size (fun _ => True) v0_ r ∧ Below w.heap.size w w' := by
  have HR0 := Aside0.mk hr0
  have HC0 := Aside0.mk hc0
  clear hr0 hc0
  have HB := Aside0.mk (Below.refl w.heap.size w)
  have H : (if ([] : List Int).length + l0.length < 17592186044416 then ((some (([] : List Int) ++ l0 : List Int)).bind fun y216 => (if 0 ≤ a1 then (if a1 < (y216.length : Int) then (some (y216.set (a1 : Int).toNat a2)) else (none)) else (none))) else (none)) = some r := h
  clear h
  by_cases c4 : ([] : List Int).length + l0.length < 17592186044416
  case neg => (rw [if_neg c4] at H; exact absurd H (by simp))
  rw [if_pos c4] at H
  have LMc4 := Aside0.mk c4
  clear c4
  obtain ⟨y216, hy216⟩ : ∃ y_ : List Int, y_ = (([] : List Int) ++ l0) := ⟨_, rfl⟩
  replace H : (if 0 ≤ a1 then (if a1 < (y216.length : Int) then (some (y216.set (a1 : Int).toNat a2)) else (none)) else (none)) = some r := by first | (rw [hy216]; with_reducible exact H) | (have H2_ := (Option.bind_some _ _).symm.trans H; rw [hy216]; with_reducible exact H2_) | (have H2_ := (Option.bind_some _ _).symm.trans H; with_reducible exact H2_) | with_reducible exact H | (rw [hy216]; exact H) | exact H
  have Ny216 := Aside0.mk hy216
  clear hy216
  by_cases c5 : 0 ≤ a1
  case neg => (rw [if_neg c5] at H; exact absurd H (by simp))
  rw [if_pos c5] at H
  have c5b0 : decide (0 ≤ a1) = true := decide_eq_true c5
  clear c5
  by_cases c6 : a1 < (y216.length : Int)
  case neg => (rw [if_neg c6] at H; exact absurd H (by simp))
  rw [if_pos c6] at H
  have c6b0 : decide (a1 < (y216.length : Int)) = true := decide_eq_true c6
  clear c6
  obtain ⟨y219, hy219⟩ : ∃ y_ : List Int, y_ = (y216.set (a1 : Int).toNat a2) := ⟨_, rfl⟩
  replace H : (some y219) = some r := by first | (rw [hy219]; with_reducible exact H) | (have H2_ := (Option.bind_some _ _).symm.trans H; rw [hy219]; with_reducible exact H2_) | (have H2_ := (Option.bind_some _ _).symm.trans H; with_reducible exact H2_) | with_reducible exact H | (rw [hy219]; exact H) | exact H
  have Ny219 := Aside0.mk hy219
  clear hy219
  obtain rfl := Option.some.inj H
  go_enter Try.func56, Try.ntmps56
  go_wp2_with (first | ((with_reducible refine gate_builtin (b := .append) (xs := #[.tmp 8, .tmp 9]) rfl ?_); at_builtin; refine Kd.R_append_rows (Kd.int .i64) (w0 := w) w.heap.size rfl (.tmp 8) (.tmp 9) 28 3 (.int .i64 0) 8 rfl Try.underlying28 info3 rfl (by decide) (by omega) (.slice none 0 0) ([] : List Int) l0 _ _ _ (fun _ => True) (fun _ => False) rfl rfl ?aO ?aR (fun _ _ h => h) (fun _ h => h.elim) ?aF ?aB ?aS ?aL ?_; (case aR => repeat (first | exact HR0.out | (with_reducible refine Kd.C_alloc ?_ _) | (with_reducible refine Kd.C_drewN ?_ _) | (with_reducible refine Kd.C_drew ?_))); (case aB => exact (by with_reducible exact HB.out)); (case aF => exact (fun _ _ => trivial)); (case aO => exact ((Kd.R_nil _ _ _ _ (fun _ => True)))); (case aS => exact (below_size (by with_reducible exact HB.out))); (case aL => have := LMc4.out; omega); intro v217 w8 ho hb hg hat; rw [← Ny216.out] at ho; have n0_ := Aside0.mk (hb); have n1_ := Aside0.mk (ho); clear HB; have HB := n0_; have HO218 := n1_; clear n0_ n1_; clear ho hb hg hat; have p7 : 0 ≤ (a1 : Int) := of_decide_eq_true (by first | (with_reducible assumption) | assumption); have q7 : (a1 : Int) < ((y216.length : Int) : Int) := of_decide_eq_true (by first | (with_reducible assumption) | assumption); obtain ⟨go7, co7, eo7, gb7, gl7, cl7, HG7⟩ := Kd.R_form HO218.out (by omega); (first | cases eo7 | (injection eo7 with ea_ en_ ec_; (first | subst ea_ | (injection ea_ with ea_; subst ea_)); subst ec_; clear en_)); have GB7 := Aside0.mk gb7; have GG7 := Aside0.mk HG7; clear gb7 gl7 HG7; obtain ⟨hx7_0, hf7_0⟩ := Kd.R_celln 0 HO218.out (a1 : Int) p7 q7; replace p7 := eq_true p7; replace q7 := eq_true q7; obtain ⟨hy9_, hz9_⟩ := Kd.R_celln 0 HO218.out (a1 : Int) (of_decide_eq_true (by first | (with_reducible assumption) | assumption)) (of_decide_eq_true (by first | (with_reducible assumption) | assumption)); have HP9 := Kd.R_putg HO218.out (a1 : Int) a2) | ((with_reducible refine gate_store (t := 3) (p := 14) rfl ?_); refine store_event (t := 3) (p := 14) (v := ?vo_w10) (w1 := (w8.setCell ⟨go7, (a1 : Int).toNat, none⟩ (.int .i64 a2))) ?hg ?ho ?hn ?hr ?_; (case ho => rfl); (case hg => rfl); (case hn => rfl); (case hr => first | (go_simp; done) | (go_simp; rfl)); intro w10 hw; have hg : w8.grownBy w10 (some go7) := (by rw [hw]; exact HP9.2); have hp_ : Kd.R (Kd.int .i64) 3 w10 w.heap.size (fun _ => True) (.slice (some ⟨go7, 0, none⟩) y216.length co7) y219 := (by rw [hw, Ny219.out]; exact HP9.1); clear HP9; have n0_ := Aside0.mk (hp_); have n1_ := Aside0.mk ((by rw [hw]; exact below_set (HB.out) GB7.out : Below w.heap.size w w10)); clear HO218; clear HB; have HO218 := n0_; have HB := n1_; clear n0_ n1_; clear hg hw hp_))
  go_ret
  exact ⟨_, by first | rfl | (simp [errW_none, errW_some] <;> rfl) | (simp [*, errW_none, errW_some] <;> rfl), by exact HO218.out, by with_reducible exact HB.out⟩

end Go.Proofs.Ytoofkemhikigoaa.PPoolPlays
