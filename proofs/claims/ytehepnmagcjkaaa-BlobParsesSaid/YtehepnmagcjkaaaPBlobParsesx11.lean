-- Written by a program of this session (wip/tools/mkprint.py over the kit's print).
import Derived.Test.YtehepnmagcjkaaaPBlobParsesx0
import Derived.Test.YtehepnmagcjkaaaPBlobParsesx3
import Derived.Test.YtehepnmagcjkaaaPBlobParsesx7
import Derived.Test.YtehepnmagcjkaaaPBlobParsesx8
import Derived.Test.YtehepnmagcjkaaaPBlobParsesx10
namespace Go.Proofs.Ytehepnmagcjkaaa.PBlobParses
open Go.RowKit Go.Proofs.YtehepnmagcjkaaaW.PrintWords Go.Proofs.YtehepnmagcjkaaaW.PrintLast Go.Proofs.YtehepnmagcjkaaaW.PrintMore
attribute [local go_sem] max2_int min2_int max_two min_two max_three min_three max_four min_four   -- for this text's walks alone
set_option linter.unusedVariables false
set_option linter.unusedSimpArgs false

/-! ### credenzalaw18_ref: function 32 -/
/-- A struct is read where its cells are told one by one. -/
theorem run_loadVar_at {P : Program} (w : World) (a : Addr) (ty : TypeId) (vs : List Value) (d : TypeDesc) (hc : ∀ j v, vs[j]? = some v → w.cell? (a.add j) = some v) (hu : P.underlying ty = some d) (hd : (match d with | .struct _ | .array _ _ => true | _ => false) = true) (hi : (P.info? ty).map (·.size) = some vs.length) : (loadVar ty a).run P w = .ok (.agg vs.toArray) w := by
 obtain ⟨info, hq, hs⟩ := Option.map_eq_some_iff.1 hi
 have hl := run_loadCells_list (P := P) w a vs hc
 rw [← hs] at hl
 have hagg : (isAgg ty).run P w = .ok true w := by
  unfold isAgg
  rw [Sem.run_bind, run_underlying hu w]
  cases d <;> simp_all
 simp [loadVar, Sem.run_bind, hagg, sizeOf, typeInfo, hq, hl]
theorem load_event {P : Program} {ops : Array Oper} {rest : List Oper} {o : Oper} {a : Act} {Q : Exit → Act → World → Prop} {W : World} (hgd : o.guard = none) {N : Tmp} (_hd : o.dst = some N) (ty : TypeId) (x : Operand) (ho : o.op = .load ty x) (ad : Addr) (hx : a.eval x = .pointer (some ad)) (vs : List Value) (hc : ∀ j v, vs[j]? = some v → W.cell? (ad.add j) = some v) (d : TypeDesc) (hu : P.underlying ty = some d) (hd : (match d with | .struct _ | .array _ _ => true | _ => false) = true) (hi : (P.info? ty).map (·.size) = some vs.length) (h : wpList P ops Q rest (a.put o.dst (.agg vs.toArray)) W) : wpList P ops Q (o :: rest) a W := by
 refine Kd.event_run hgd ?_ h
 unfold execOp
 simp only [ho, hx, Instr.loadAt, Instr.sureAddr, Sem.run_bind, Sem.run_pure, Result.andThen_ok, run_loadVar_at W ad ty vs d hc hu hd hi]
/-- A struct is written whole over a block; behind it only the block is told. -/
theorem store_event {P : Program} {ops : Array Oper} {rest : List Oper} {o : Oper} {a : Act} {Q : Exit → Act → World → Prop} {W : World} (hgd : o.guard = none) (hd : o.dst = none) (ty : TypeId) (x y : Operand) (ho : o.op = .store ty x y) (g : Nat) (cells : Array Value) (hx : a.eval x = .pointer (some ⟨g, 0, none⟩)) (hy : a.eval y = .agg cells) (t : TypeId) (old : Array Value) (hg : W.heap[g]? = some (.cells old t (0, 0))) (hi : (P.info? ty).map (·.size) = some cells.size) (hold : old.size = cells.size) (h1 : cells.all (·.oneCell') = true) (h : ∀ w1, w1.heap[g]? = some (.cells cells t (0, 0)) → (∀ w0 : World, Below w0.heap.size w0 W → w0.heap.size ≤ g → Below w0.heap.size w0 w1) → (∀ k, k ≠ g → w1.heap[k]? = W.heap[k]?) → wpList P ops Q rest a w1) : wpList P ops Q (o :: rest) a W := by
 refine wpList_store_row hgd ty x y ho g cells hx hy t old hg hi hold h1 ?_
 rw [hd]
 exact h _ (setRow_heap _ _ _ _ _ _ hg) (fun w0 hb hge => hb.trans ⟨rfl, rfl, rfl, by simp [World.setRow], fun k hk => setRow_other _ _ k _ (by omega)⟩) (fun k hk => setRow_other _ _ k _ hk)
theorem blk_cells {W : World} {g : Nat} {t : TypeId} {cs : List Value} (h : W.heap[g]? = some (.cells cs.toArray t (0, 0))) (j : Nat) (v : Value) (hj : cs[j]? = some v) : W.cell? ((⟨g, 0, none⟩ : Addr).add j) = some v := by
 have h1 := blk_cell h j
 have h2 : ((⟨g, 0, none⟩ : Addr).add j) = ⟨g, j, none⟩ := by
  unfold Addr.add
  by_cases h0 : j = 0
  ·
   subst h0; rfl
  ·
   rw [if_neg h0]; simp
 rw [h2, h1]
 simpa using hj
theorem r_far {α : Type} {d : Kd α} {e B : Nat} {W W' : World} {gb t : Nat} {cs : Array Value} {ok : Nat → Prop} {u : Value} {xs : List α} (h : d.R e W B ok u xs) (hb : W.heap[gb]? = some (.cells cs t (0, 0))) (ht : ∀ q, q ∈ e :: d.E → q ≠ t) (far : ∀ k, k ≠ gb → W'.heap[k]? = W.heap[k]?) : d.R e W' B ok u xs := Kd.R_mono (Kd.R_step (Kd.R_types h hb ht) (fun k hk _ => far k hk.2)) (fun k hk => hk.1)
theorem bx3b {w : World} {g : Nat} {t : TypeId} {a0 a1 a2 : Value} (h : w.heap[g]? = some (.cells #[a0, a1, a2] t (0, 0))) : w.cell? ⟨g, 0, none⟩ = some a0 ∧ w.cell? ⟨g, 1, none⟩ = some a1 ∧ w.cell? ⟨g, 2, none⟩ = some a2 ∧ (∀ i, w.frozen? ⟨g, i, none⟩ = false) := ⟨(blk_cell h 0).trans rfl, (blk_cell h 1).trans rfl, (blk_cell h 2).trans rfl, blk_frozen h⟩
set_option maxHeartbeats 8000000 in
set_option maxRecDepth 100000 in
theorem btable.calls (r c : Int) (A : Option Addr) (n cap : Nat) (w : World) :
  Calls Try.prog 64 #[.agg #[.int .i64 r, .int .i64 c, .slice A n cap]] w fun e w' => e = .returned (.agg #[.int .i64 r, .int .i64 c, .slice A n cap]) ∧ Below w.heap.size w w' := by
 have hu64 := Try.underlying64
 have hu111 := Try.underlying111
 have HB := aM (Below.refl w.heap.size w)
 go_enter Try.func64, Try.ntmps64
 go_wp2_with (first | ((with_reducible refine gate_dst (N := 1) rfl ?_); refine box_event ?hg (N := 1) ?hd (cs := #[.int .i64 r, .int .i64 c, .slice A n cap]) (t := 64) ?hr ?_; (case hd => rfl); (case hg => rfl); (case hr => first | (go_simp; done) | (go_simp; rfl)); intro gp hg_ w1 hbox hb; have BP := aM hbox; have hzp := bx3b hbox; replace HB := aM (below_step HB.out hb); clear hbox hb hg_) | ((with_reducible refine gate_dst (N := 2) rfl ?_); refine box_event ?hg (N := 2) ?hd (cs := #[.int .i64 0, .int .i64 0, .slice none 0 0]) (t := 111) ?hr ?_; (case hd => rfl); (case hg => rfl); (case hr => first | (go_simp; done) | (go_simp; rfl)); intro gq hg_ w2 hbox hb; have BQ := aM hbox; have GQ := aM (by rw [hg_]; exact below_size HB.out : w.heap.size ≤ gq); have hzq := bx3b hbox; replace BP := aM (blk_below BP.out hb); clear hzp; have hzp := bx3b BP.out; replace HB := aM (below_step HB.out hb); clear hbox hb hg_))
 refine bodyPost_ret (results_cell_row rfl _ _ gq 111 #[.int .i64 r, .int .i64 c, .slice A n cap] (0, 0) _ rfl (blk_put (blk_put (blk_put BQ.out 0 _ rfl) 1 _ rfl) 2 _ rfl) Try.underlying111 rfl (by kernel_rfl)) rfl ?_
 exact ⟨rfl, ((HB.out.setCell (p := ⟨gq, 0, none⟩) GQ.out _).setCell (p := ⟨gq, 1, none⟩) GQ.out _).setCell (p := ⟨gq, 2, none⟩) GQ.out _⟩
set_option maxHeartbeats 8000000 in
set_option maxRecDepth 100000 in
theorem blist.calls (A : Option Addr) (n cap : Nat) (w : World) :
  Calls Try.prog 65 #[.slice A n cap] w fun e w' => e = .returned (.agg #[.int .i64 0, .int .i64 0, .slice A n cap]) ∧ Below w.heap.size w w' := by
 have hu111 := Try.underlying111
 have HB := aM (Below.refl w.heap.size w)
 go_enter Try.func65, Try.ntmps65
 go_wp2_with (first | ((with_reducible refine gate_dst (N := 2) rfl ?_); refine box_event ?hg (N := 2) ?hd (cs := #[.int .i64 0, .int .i64 0, .slice none 0 0]) (t := 111) ?hr ?_; (case hd => rfl); (case hg => rfl); (case hr => first | (go_simp; done) | (go_simp; rfl)); intro gq hg_ w2 hbox hb; have BQ := aM hbox; have GQ := aM (by rw [hg_]; exact below_size HB.out : w.heap.size ≤ gq); have hzq := bx3b hbox; replace HB := aM (below_step HB.out hb); clear hbox hb hg_))
 refine bodyPost_ret (results_cell_row rfl _ _ gq 111 #[.int .i64 0, .int .i64 0, .slice A n cap] (0, 0) _ rfl (blk_put (blk_put (blk_put BQ.out 0 _ rfl) 1 _ rfl) 2 _ rfl) Try.underlying111 rfl (by kernel_rfl)) rfl ?_
 exact ⟨rfl, ((HB.out.setCell (p := ⟨gq, 0, none⟩) GQ.out _).setCell (p := ⟨gq, 1, none⟩) GQ.out _).setCell (p := ⟨gq, 2, none⟩) GQ.out _⟩
/-- A blob's parts, as the document has them. -/
def layR (x : S120) : List S111 := [⟨0, 0, x.f0⟩, ⟨x.f1.f0, x.f1.f1, x.f1.f2⟩, ⟨x.f2.f0, x.f2.f1, x.f2.f2⟩, ⟨x.f3.f0, x.f3.f1, x.f3.f2⟩, ⟨x.f4.f0, x.f4.f1, x.f4.f2⟩, ⟨0, 0, x.f5⟩, ⟨x.f6.f0, x.f6.f1, x.f6.f2⟩, ⟨x.f7.f0, x.f7.f1, x.f7.f2⟩, ⟨x.f8.f0, x.f8.f1, x.f8.f2⟩]
def refT (l : List S115) : List Int := l.flatMap fun t => [t.f0, t.f1]
def refP (a7 a8 : Int) (l9 : List Int) (l10 : List S120) (l11 : List Int) (a12 a13 : Int) (l14 : List Int) : List S111 := ([⟨a7, a8, l9⟩] ++ l10.flatMap layR) ++ [⟨0, 0, l11⟩, ⟨a12, a13, l14⟩]
/-- Rows of parts, each with what it leads to (which lay there before). -/
def RowsP (w : World) (rows : List (List Value)) (P : List S111) : Prop := rows.length = P.length ∧ ∀ (j : Nat) (row : List Value) (x : S111), rows[j]? = some row → P[j]? = some x → k111.K w x row
theorem RowsP.app {w : World} {r1 r2 : List (List Value)} {P1 P2 : List S111} (h1 : RowsP w r1 P1) (h2 : RowsP w r2 P2) : RowsP w (r1 ++ r2) (P1 ++ P2) := by
 refine ⟨by rw [List.length_append, List.length_append, h1.1, h2.1], fun j row x hr hx => ?_⟩
 by_cases hj : j < r1.length
 ·
  rw [List.getElem?_append_left hj] at hr
  rw [List.getElem?_append_left (by rw [← h1.1]; exact hj)] at hx
  exact h1.2 j row x hr hx
 ·
  rw [List.getElem?_append_right (by omega)] at hr
  rw [List.getElem?_append_right (by rw [← h1.1]; omega), ← h1.1] at hx
  exact h2.2 _ row x hr hx
theorem RowsP.nil (w : World) : RowsP w [] [] := ⟨rfl, fun j row x h => by simp at h⟩
theorem RowsP.cons {w : World} {row : List Value} {x : S111} {rs : List (List Value)} {P : List S111} (h1 : k111.K w x row) (h2 : RowsP w rs P) : RowsP w (row :: rs) (x :: P) :=
 RowsP.app (r1 := [row]) (P1 := [x]) ⟨rfl, fun j r y hr hy => by
  cases j with
  | zero => obtain rfl := Option.some.inj hr; obtain rfl := Option.some.inj hy; exact h1
  | succ j => simp at hr⟩ h2
/-- The rows, read as parts. -/
theorem RowsP.reads {w W : World} {B : Nat} {ok : Nat → Prop} {A : Option Addr} {n c : Nat} {rows : List (List Value)} {P : List S111} (h : (Kd.raw 3).R 111 W B ok (.slice A n c) rows) (hP : RowsP w rows P) (hB : Below w.heap.size w W) : Kd.C k111 W A P.length P ∧ n = P.length ∧ P.length ≤ c := by
 obtain ⟨h1, h2, h3, h4, h5⟩ := Kd.R_reads' h
 have hn : n = P.length := h1.trans hP.1
 refine ⟨⟨rfl, by rw [← hP.1]; exact h4, fun h0 => ?_⟩, hn, by rw [← hn]; exact h2⟩
 obtain ⟨ad, e, hc⟩ := h5 (by omega)
 refine ⟨ad, e, fun j x hx => ?_⟩
 obtain ⟨row, hr⟩ : ∃ row, rows[j]? = some row := ⟨_, List.getElem?_eq_getElem (by rw [hP.1]; exact (List.getElem?_eq_some_iff.mp hx).1)⟩
 obtain ⟨cs, hcl, hK, hcell⟩ := hc j row hr
 obtain ⟨rfl, -, -⟩ := hK
 exact ⟨_, hcl, k111.K_below hB (hP.2 j _ x hr hx), hcell⟩
theorem nextcap_quarter {need old : Nat} (h : old < need) : Builtin.nextslicecap need old ≤ need + need / 4 + 512 := by
 unfold Builtin.nextslicecap
 split
 ·
  omega
 ·
  split
  ·
   omega
  ·
   rw [growBy_four]
   repeat' split
   all_goals omega
theorem raw_one {n : Nat} {W : World} {base : Nat} {ok : Nat → Prop} {ys : List (List Value)} {cs : List Value} (hn : 0 < n) (h : Reps ((Kd.raw n).K W) n ys cs) : ∀ u ∈ cs, u.oneCell' = true := by
 intro u hu
 obtain ⟨q, hq, rfl⟩ := List.mem_iff_getElem.1 hu
 have hlt : q / n < ys.length := by rw [Nat.div_lt_iff_lt_mul hn, ← h.1]; exact hq
 obtain ⟨-, -, h3⟩ := h.2 (q / n) _ (List.getElem?_eq_getElem hlt)
 refine h3 _ ?_
 rw [List.mem_iff_getElem?]
 exact ⟨q % n, by rw [List.getElem?_take, if_pos (Nat.mod_lt _ hn), List.getElem?_drop, Nat.mul_comm, Nat.div_add_mod, List.getElem?_eq_getElem hq]⟩
/-- Some rows of plain cells behind very many: the new row still fits where its bytes and a quarter do. -/
theorem raw_append_big {P : Program} {ops : Array Oper} {o : Oper} {a : Act} {Kc : Act → World → Prop} {Q : Exit → Act → World → Prop} (n : Nat) {w0 W : World} (base : Nat) (hw : Region.wanted o (yielded ops a.tmps) = true) (s x : Operand) (t e : TypeId) (z : Value) (bytes : Nat)
  (ho : o.op = .call { callee := .builtin .append, args := #[s, x], argTypes := #[t, t] })
  (ht : P.underlying t = some (.slice e)) (hinfo : (P.info? e).map (fun i => (i.zero, i.size, i.bytes)) = some (some z, n, bytes)) (hz : z.cells.size = n) (hs0 : 0 < n) (hb0 : 0 < bytes) (hb1 : bytes ≤ 1000)
  (v : Value) (xs ys : List (List Value)) (A : Option Addr) (m c : Nat) (hs : a.eval s = v) (hx : a.eval x = .slice A m c)
  (HO : (Kd.raw n).R e W base (fun _ => True) v xs) (HR : (Kd.raw n).C W A m ys) (HB : Below base w0 W) (hbase : base ≤ W.heap.size) (hm9 : m ≤ 9) (hl : (xs.length + m) * bytes ≤ 160000000000000)
  (h : ∀ v1 w1, (Kd.raw n).R e w1 base (fun _ => True) v1 (xs ++ ys) → Below base w0 w1 → W.grownBy w1 v.ownBlock → (v1.ownBlock = v.ownBlock ∨ ∃ b, v1.ownBlock = some b ∧ W.heap.size ≤ b) → Kc (a.put o.dst v1) w1) :
  if Region.wanted o (yielded ops a.tmps) = true then Oper.wp P o a W Kc Q else Kc (a.put o.dst undef) W := by
 by_cases hsm : (xs.length + m) * bytes ≤ 140737488355328
 ·
  exact Kd.R_append_rows_step (Kd.raw n) base hw s x t e z bytes ho ht hinfo hz hs0 hb0 v xs ys A m c (fun _ => True) (fun _ => False) hs hx HO HR (fun _ _ h => h) (fun _ h => h.elim) (fun _ _ => trivial) HB hbase hsm h
 have hbig : 1000 < xs.length := by
  refine Nat.lt_of_not_le fun hle => hsm ?_
  exact Nat.le_trans (Nat.mul_le_mul (show xs.length + m ≤ 1009 by omega) hb1) (by decide)
 have hle : xs.length + m ≤ 160000000000000 := Nat.le_trans (Nat.le_mul_of_pos_right _ hb0) hl
 obtain ⟨i0, hi, hzz⟩ := Option.map_eq_some_iff.1 hinfo
 simp only [Prod.mk.injEq] at hzz
 obtain ⟨hz0, hz1, hz2⟩ := hzz
 have hym : ys.length = m := HR.1
 obtain ⟨hok, inner, hown, hr⟩ := HO
 have hrun : ∃ v1 w1, (Builtin.append_ #[t, t] o.type #[v, .slice A m c]).run P W = .ok v1 w1 ∧ (Kd.raw n).R e w1 base (fun _ => True) v1 (xs ++ ys) ∧ W.grownBy w1 v.ownBlock ∧ (v1.ownBlock = v.ownBlock ∨ ∃ b, v1.ownBlock = some b ∧ W.heap.size ≤ b) := by
  rcases hown.2 with ⟨rfl, hn⟩ | ⟨g, cap, cur, rfl, hbg, hg, hnc, hcm, hcs, htake⟩
  ·
   omega
  rcases A with _ | ad
  ·
   have h0 : m = 0 := by
    rcases Nat.eq_zero_or_pos m with h0 | h0
    ·
     exact h0
    ·
     obtain ⟨ad, h, _⟩ := HR.2.2 h0
     cases h
   subst h0
   obtain rfl : ys = [] := List.eq_nil_of_length_eq_zero hym
   refine ⟨_, W, ?_, by rw [List.append_nil]; exact ⟨hok, inner, hown, hr⟩, World.grownBy.refl W _, .inl rfl⟩
   simp [Builtin.append_, run_underlying ht, sizeOf, typeInfo, hi, Builtin.lenOf, Builtin.firstCells, hnc, storeCells]
  obtain ⟨news, hnr, hnews⟩ := ReadsRow.inner_ HR
  have hone := raw_one (base := 0) (ok := fun _ => True) hs0 hnr
  have hnl : news.length = m * i0.size := by rw [hz1, ← hym]; exact hnr.1
  have hall : Reps ((Kd.raw n).M W base (fun _ => True)) n (xs ++ ys) (inner ++ news) := Kd.reps_append (hr.imp_ (fun _ _ hq => hq)) (hnr.imp_ (fun _ _ hq => hq))
  have hlen : (inner ++ news).length = (xs ++ ys).length * n := hall.1
  have hxy : (xs ++ ys).length = xs.length + m := by rw [List.length_append, hym]
  have hil : inner.length = xs.length * i0.size := by rw [hz1]; exact hown.1
  by_cases hroom : xs.length + m ≤ cap
  ·
   have hfit : xs.length * i0.size + news.length ≤ cur.size := by rw [hnl, hcs, ← Nat.add_mul, hz1]; exact Nat.mul_le_mul_right _ hroom
   refine ⟨_, _, run_append_room (P := P) W t o.type e i0 ht hi g xs.length cap cur hg ad m c news hnl hnews hone hroom hfit, ⟨fun _ _ => trivial, inner ++ news, ⟨hlen, .inr ⟨g, cap, _, by rw [hxy], hbg, setRow_heap W g cur _ e _ hg, by rw [hxy]; exact hroom, hcm, ?_, ?_⟩⟩, hall⟩, ⟨rfl, rfl, rfl, by simp, fun k _ hk => setRow_other W g k _ (fun e_ => hk (by simp [Value.ownBlock, e_]))⟩, .inl rfl⟩
   ·
    simp only [List.size_toArray, List.length_append, List.length_take, List.length_drop, Array.length_toList]
    rw [← hcs]
    omega
   ·
    show List.take ((xs ++ ys).length * n) _ = _
    rw [← hlen, hz1]
    rw [show cur.toList.take (xs.length * n) = inner from htake, List.append_assoc, ← List.append_assoc]
    exact List.take_left
  ·
   have holds : ∀ j u, inner[j]? = some u → W.cell? ((⟨g, 0, none⟩ : Addr).add j) = some u := World.ownsRow.cells hown (g := g) rfl
   have hfit : Builtin.nextslicecap (xs.length + m) cap * i0.bytes ≤ 281474976710656 := by
    have h1 : Builtin.nextslicecap (xs.length + m) cap ≤ (xs.length + m) + (xs.length + m) / 4 + 512 := nextcap_quarter (by omega)
    have h2 : ((xs.length + m) + (xs.length + m) / 4 + 512) * bytes ≤ 281474976710656 := by
     have h3 : (xs.length + m) / 4 * bytes ≤ (xs.length + m) * bytes / 4 := by
      rw [Nat.le_div_iff_mul_le (by decide), Nat.mul_assoc, Nat.mul_comm bytes 4, ← Nat.mul_assoc]
      exact Nat.mul_le_mul_right _ (Nat.div_mul_le_self _ _)
     rw [Nat.add_mul, Nat.add_mul]
     have h4 : 512 * bytes ≤ 512000 := by omega
     omega
    rw [hz2]
    exact Nat.le_trans (Nat.mul_le_mul_right _ h1) h2
   have hge := grownCap_ge W (xs.length + m) cap e
   have hcm2 : grownCap W (xs.length + m) cap e ≤ maxLen := grownCap_le_maxLen W _ _ e (by simp only [maxLen]; omega)
   refine ⟨_, _, run_append_grow (P := P) W t o.type e i0 z ht hi hz0 ⟨g, 0, none⟩ xs.length cap inner hil holds ad m c news hnl hnews (by omega) (by omega) hfit, ⟨fun _ _ => trivial, inner ++ news, ⟨hlen, .inr ⟨W.heap.size, _, _, by rw [hxy], hbase, heap_alloc_new W.drew _, by rw [hxy]; exact hge, hcm2, ?_, ?_⟩⟩, hall⟩, ⟨rfl, rfl, rfl, by simp, fun k hk _ => heap_alloc_old W.drew _ (show k < W.drew.heap.size from hk)⟩, .inr ⟨_, rfl, Nat.le_refl _⟩⟩
   ·
    simp only [Array.size_append, List.size_toArray, size_zeroCells, hz, hil, hnl, hz1, ← Nat.add_mul]
    congr 1
    omega
   ·
    simp only [Array.toList_append, List.append_assoc]
    show List.take ((xs ++ ys).length * n) _ = _
    rw [← List.append_assoc, ← hlen]
    exact List.take_left
 obtain ⟨v1, w1, hr1, h1, hg, hat⟩ := hrun
 rw [if_pos hw]
 unfold Oper.wp execOp
 simp only [ho, resolve, invoke, builtin, Sem.run_bind, Sem.run_pure, Result.andThen_ok, List.map_toArray, List.map_cons, List.map_nil, hs, hx, hr1]
 exact h v1 w1 h1 (HB.grown hg hbase (own_base hown)) hg hat
theorem add_add2 (a : Addr) (i j : Nat) : (a.add i).add j = a.add (i + j) := by
 unfold Addr.add
 by_cases hi : i = 0
 ·
  subst hi; simp
 ·
  by_cases hj : j = 0
  ·
   subst hj; simp [hi]
  ·
   rw [if_neg hi, if_neg hj, if_neg (by omega)]; simp [Nat.add_assoc]
theorem tt_len (l : List S115) (n : Nat) : ((l.take n).flatMap (fun t_ : S115 => [t_.f0, t_.f1])).length ≤ 2 * l.length := by
 have h : ∀ l : List S115, (l.flatMap (fun t_ : S115 => [t_.f0, t_.f1])).length = 2 * l.length := by
  intro l
  induction l with
  | nil => rfl
  | cons x l ih => rw [List.flatMap_cons, List.length_append, ih]; simp only [List.length_cons, List.length_nil]; omega
 rw [h, List.length_take]
 omega
theorem tt_len2 (l : List S115) (n : Nat) : ((l.take n).flatMap (fun t_ : S115 => [t_.f0, t_.f1])).length ≤ 2 * n := by
 have h := tt_len (l.take n) n
 rw [List.take_take, Nat.min_self, List.length_take] at h
 omega
theorem slice_one {α : Type} {d : Kd α} {e B : Nat} {W : World} {ok : Nat → Prop} {v : Value} {x : α} (h : d.R e W B ok v [x]) : ∃ A c, v = .slice A 1 c := Kd.R_slice h
theorem fm_succ0 {α β : Type} (f : α → List β) {l : List α} {i : Nat} {x : α} (h : l[i]? = some x) : (l.take (i + 1)).flatMap f = (l.take i).flatMap f ++ f x := by
 rw [List.take_add_one, h, List.flatMap_append]
 simp
theorem bx9 {w : World} {g : Nat} {t : TypeId} {a0 a1 a2 a3 a4 a5 a6 a7 a8 : Value} (h : w.heap[g]? = some (.cells #[a0, a1, a2, a3, a4, a5, a6, a7, a8] t (0, 0))) : w.cell? ⟨g, 0, none⟩ = some a0 ∧ w.cell? ⟨g, 1, none⟩ = some a1 ∧ w.cell? ⟨g, 2, none⟩ = some a2 ∧ w.cell? ⟨g, 3, none⟩ = some a3 ∧ w.cell? ⟨g, 4, none⟩ = some a4 ∧ w.cell? ⟨g, 5, none⟩ = some a5 ∧ w.cell? ⟨g, 6, none⟩ = some a6 ∧ w.cell? ⟨g, 7, none⟩ = some a7 ∧ w.cell? ⟨g, 8, none⟩ = some a8 ∧ (∀ i, w.frozen? ⟨g, i, none⟩ = false) := ⟨(blk_cell h 0).trans rfl, (blk_cell h 1).trans rfl, (blk_cell h 2).trans rfl, (blk_cell h 3).trans rfl, (blk_cell h 4).trans rfl, (blk_cell h 5).trans rfl, (blk_cell h 6).trans rfl, (blk_cell h 7).trans rfl, (blk_cell h 8).trans rfl, blk_frozen h⟩
def fset9 (W : World) (gb : Nat) (x0 x1 x2 x3 x4 x5 x6 x7 x8 : Value) : World := (((((((((W.setCell ⟨gb, 0, none⟩ x0).setCell ⟨gb, 1, none⟩ x1).setCell ⟨gb, 2, none⟩ x2).setCell ⟨gb, 3, none⟩ x3).setCell ⟨gb, 4, none⟩ x4).setCell ⟨gb, 5, none⟩ x5).setCell ⟨gb, 6, none⟩ x6).setCell ⟨gb, 7, none⟩ x7).setCell ⟨gb, 8, none⟩ x8)
theorem fset9_blk {W : World} {gb t : Nat} {y0 y1 y2 y3 y4 y5 y6 y7 y8 x0 x1 x2 x3 x4 x5 x6 x7 x8 : Value} (BK : W.heap[gb]? = some (.cells #[y0, y1, y2, y3, y4, y5, y6, y7, y8] t (0, 0))) : (fset9 W gb x0 x1 x2 x3 x4 x5 x6 x7 x8).heap[gb]? = some (.cells #[x0, x1, x2, x3, x4, x5, x6, x7, x8] t (0, 0)) := (blk_put (blk_put (blk_put (blk_put (blk_put (blk_put (blk_put (blk_put (blk_put BK 0 x0 (cs' := #[x0, y1, y2, y3, y4, y5, y6, y7, y8]) rfl) 1 x1 (cs' := #[x0, x1, y2, y3, y4, y5, y6, y7, y8]) rfl) 2 x2 (cs' := #[x0, x1, x2, y3, y4, y5, y6, y7, y8]) rfl) 3 x3 (cs' := #[x0, x1, x2, x3, y4, y5, y6, y7, y8]) rfl) 4 x4 (cs' := #[x0, x1, x2, x3, x4, y5, y6, y7, y8]) rfl) 5 x5 (cs' := #[x0, x1, x2, x3, x4, x5, y6, y7, y8]) rfl) 6 x6 (cs' := #[x0, x1, x2, x3, x4, x5, x6, y7, y8]) rfl) 7 x7 (cs' := #[x0, x1, x2, x3, x4, x5, x6, x7, y8]) rfl) 8 x8 (cs' := #[x0, x1, x2, x3, x4, x5, x6, x7, x8]) rfl)
theorem fset9_far (W : World) (gb : Nat) (x0 x1 x2 x3 x4 x5 x6 x7 x8 : Value) (k : Nat) (hk : k ≠ gb) : (fset9 W gb x0 x1 x2 x3 x4 x5 x6 x7 x8).heap[k]? = W.heap[k]? := (Below.heap_setCell _ ⟨gb, 8, none⟩ _ k hk).trans ((Below.heap_setCell _ ⟨gb, 7, none⟩ _ k hk).trans ((Below.heap_setCell _ ⟨gb, 6, none⟩ _ k hk).trans ((Below.heap_setCell _ ⟨gb, 5, none⟩ _ k hk).trans ((Below.heap_setCell _ ⟨gb, 4, none⟩ _ k hk).trans ((Below.heap_setCell _ ⟨gb, 3, none⟩ _ k hk).trans ((Below.heap_setCell _ ⟨gb, 2, none⟩ _ k hk).trans ((Below.heap_setCell _ ⟨gb, 1, none⟩ _ k hk).trans ((Below.heap_setCell _ ⟨gb, 0, none⟩ _ k hk).trans (rfl)))))))))
theorem fset9_below {w W : World} {gb : Nat} {x0 x1 x2 x3 x4 x5 x6 x7 x8 : Value} (HB : Below w.heap.size w W) (GE : w.heap.size ≤ gb) : Below w.heap.size w (fset9 W gb x0 x1 x2 x3 x4 x5 x6 x7 x8) := (((((((((HB.setCell (p := ⟨gb, 0, none⟩) GE x0).setCell (p := ⟨gb, 1, none⟩) GE x1).setCell (p := ⟨gb, 2, none⟩) GE x2).setCell (p := ⟨gb, 3, none⟩) GE x3).setCell (p := ⟨gb, 4, none⟩) GE x4).setCell (p := ⟨gb, 5, none⟩) GE x5).setCell (p := ⟨gb, 6, none⟩) GE x6).setCell (p := ⟨gb, 7, none⟩) GE x7).setCell (p := ⟨gb, 8, none⟩) GE x8)
theorem r_fset9 {α : Type} {d : Kd α} {e B : Nat} {W : World} {gb t : Nat} {cs : Array Value} {ok : Nat → Prop} {u : Value} {xs : List α} {x0 x1 x2 x3 x4 x5 x6 x7 x8 : Value} (h : d.R e W B ok u xs) (hb : W.heap[gb]? = some (.cells cs t (0, 0))) (ht : ∀ q, q ∈ e :: d.E → q ≠ t) : d.R e (fset9 W gb x0 x1 x2 x3 x4 x5 x6 x7 x8) B ok u xs := Kd.R_mono (Kd.R_step (Kd.R_types h hb ht) (fun k hk _ => fset9_far W gb _ _ _ _ _ _ _ _ _ k hk.2)) (fun k hk => hk.1)
theorem r_grownT {α β : Type} {d : Kd α} {d' : Kd β} {e e' B B' : Nat} {W W' : World} {ok ok' : Nat → Prop} {u v : Value} {xs : List α} {ys : List β} (h : d.R e W B ok u xs) (hv : d'.R e' W B' ok' v ys) (hg : W.grownBy W' v.ownBlock) (ht : ∀ q, q ∈ e :: d.E → q ≠ e') : d.R e W' B ok u xs :=
 Kd.R_mono (Kd.R_step (Kd.R_bound h) (fun k hk _ => by
  obtain ⟨h1, h2, h3, q, hq, cs, hc⟩ := hk
  exact hg.block k h3 (fun e_ => by
   obtain ⟨cs', hc'⟩ := Kd.R_typed hv k e_.symm
   exact blk_ne hc hc' (ht q hq) rfl))) (fun k hk => hk.1)
theorem info111 : (Try.prog.info? 111).map (fun i => (i.zero, i.size, i.bytes)) = some (some (.agg #[.int .i64 0, .int .i64 0, .slice none 0 0]), 3, 40) := by kernel_rfl
def RefR (w w' : World) (e : Ending) (a0_0 : Int) (a0_1 : Int) (a0_2 : Int) (a0_3 : Int) (a0_4 : Int) (a0_5 : Int) (l0_6 : List (S115)) (a0_7 : Int) (a0_8 : Int) (l0_9 : List Int) (l0_10 : List (S120)) (l0_11 : List Int) (a0_12 : Int) (a0_13 : Int) (l0_14 : List Int) : Prop := ∃ AT cT AP cP rows, e = .returned (.agg #[.int .i64 a0_0, .int .i64 a0_1, .int .i64 a0_2, .int .i64 a0_3, .int .i64 a0_4, .int .i64 a0_5, .int .i64 (l0_10.length : Int), .slice AT (refT l0_6).length cT, .slice AP (refP a0_7 a0_8 l0_9 l0_10 l0_11 a0_12 a0_13 l0_14).length cP]) ∧ Kd.R (Kd.int .i32) 21 w' w.heap.size (fun _ => True) (.slice AT (refT l0_6).length cT) (refT l0_6) ∧ (Kd.raw 3).R 111 w' w.heap.size (fun _ => True) (.slice AP (refP a0_7 a0_8 l0_9 l0_10 l0_11 a0_12 a0_13 l0_14).length cP) rows ∧ RowsP w rows (refP a0_7 a0_8 l0_9 l0_10 l0_11 a0_12 a0_13 l0_14) ∧ Below w.heap.size w w'
def brf1.T1 : Bool × List (List Nat × List Nat) := (true, [([], []), ([0], [0]), ([1], [1]), ([], []), ([3], [3]), ([4], [4]), ([], []), ([6], [6]), ([7, 2], [7]), ([8], [8]), ([2, 5, 9], [2, 5, 9]), ([], []), ([11, 10, 8, 0, 1, 2, 3, 4, 5, 6, 7, 8, 9, 10, 11], [10, 11])])
def brf1.B1 : List Nat := [0, 1, 3, 0, 8, 24, 0, 64, 199, 455, 1023, 0, 4095]
theorem brf1.tab1 : rtab .any (opsOf Try.f32 1) = brf1.T1 := by kernel_rfl
theorem brf1.bits1 : waitsOk brf1.T1.2 brf1.B1 = true := by kernel_rfl
def brf2.T10 : Bool × List (List Nat × List Nat) := (true, [([], []), ([0], [0]), ([], []), ([2], [2]), ([3], [3]), ([], []), ([5], [5]), ([6, 4], [6]), ([], []), ([8], [8]), ([9, 7], [9]), ([], []), ([11], [11]), ([12, 10], [12]), ([], []), ([14], [14]), ([15, 13], [15]), ([], []), ([17], [17]), ([18, 16], [18]), ([], []), ([20], [20]), ([21, 19], [21]), ([], []), ([23], [23]), ([24, 22], [24]), ([], []), ([26], [26]), ([27, 25], [27]), ([4, 7, 10, 13, 16, 19, 22, 25, 28], [4, 7, 10, 13, 16, 19, 22, 25, 28]), ([1, 29, 28], [1, 29]), ([0, 1, 2, 3, 4, 5, 6, 7, 8, 9, 10, 11, 12, 13, 14, 15, 16, 17, 18, 19, 20, 21, 22, 23, 24, 25, 26, 27, 28, 29, 30], []), ([31, 30, 30, 0, 1, 2, 3, 4, 5, 6, 7, 8, 9, 10, 11, 12, 13, 14, 15, 16, 17, 18, 19, 20, 21, 22, 23, 24, 25, 26, 27, 28, 29, 30], [30, 31])])
def brf2.B10 : List Nat := [0, 1, 0, 4, 12, 0, 32, 124, 0, 256, 1020, 0, 2048, 8188, 0, 16384, 65532, 0, 131072, 524284, 0, 1048576, 4194300, 0, 8388608, 33554428, 0, 67108864, 268435452, 536870908, 1073741823, 2147483647, 4294967295]
theorem brf2.tab10 : rtab .any (opsOf Try.f32 10) = brf2.T10 := by kernel_rfl
theorem brf2.bits10 : waitsOk brf2.T10.2 brf2.B10 = true := by kernel_rfl
def brf3.T12 : Bool × List (List Nat × List Nat) := (true, [([], []), ([0], [0]), ([], []), ([2], [2]), ([3], [3]), ([], []), ([5], [5]), ([6, 4], [6]), ([4, 7], [4, 7]), ([1, 8, 7], [1, 8]), ([0, 1, 2, 3, 4, 5, 6, 7, 8, 9], []), ([10, 9, 9, 0, 1, 2, 3, 4, 5, 6, 7, 8, 9], [9, 10])])
def brf3.B12 : List Nat := [0, 1, 0, 4, 12, 0, 32, 124, 252, 511, 1023, 2047]
theorem brf3.tab12 : rtab .any (opsOf Try.f32 12) = brf3.T12 := by kernel_rfl
theorem brf3.bits12 : waitsOk brf3.T12.2 brf3.B12 = true := by kernel_rfl
set_option maxHeartbeats 8000000 in
set_option maxRecDepth 100000 in
theorem bref.calls (a0_0 : Int) (a0_1 : Int) (a0_2 : Int) (a0_3 : Int) (a0_4 : Int) (a0_5 : Int) (A0_6 : Option Addr) (c0_6 : Nat) (l0_6 : List (S115)) (a0_7 : Int) (a0_8 : Int) (A0_9 : Option Addr) (c0_9 : Nat) (l0_9 : List Int) (A0_10 : Option Addr) (c0_10 : Nat) (l0_10 : List (S120)) (A0_11 : Option Addr) (c0_11 : Nat) (l0_11 : List Int) (a0_12 : Int) (a0_13 : Int) (A0_14 : Option Addr) (c0_14 : Nat) (l0_14 : List Int) (w : World) (hr0_6 : Kd.C k115 w A0_6 l0_6.length l0_6) (hc0_6 : l0_6.length ≤ c0_6) (hr0_9 : Kd.C (Kd.int .i32) w A0_9 l0_9.length l0_9) (hc0_9 : l0_9.length ≤ c0_9) (hr0_10 : Kd.C k120 w A0_10 l0_10.length l0_10) (hc0_10 : l0_10.length ≤ c0_10) (hr0_11 : Kd.C (Kd.int .i32) w A0_11 l0_11.length l0_11) (hc0_11 : l0_11.length ≤ c0_11) (hr0_14 : Kd.C (Kd.int .i32) w A0_14 l0_14.length l0_14) (hc0_14 : l0_14.length ≤ c0_14) (h6 : l0_6.length ≤ 17592186043904) (h10 : l0_10.length ≤ 430000000000) :
  Calls Try.prog 32 #[.agg #[.int .i64 a0_0, .int .i64 a0_1, .int .i64 a0_2, .int .i64 a0_3, .int .i64 a0_4, .int .i64 a0_5, .slice A0_6 l0_6.length c0_6, .int .i64 a0_7, .int .i64 a0_8, .slice A0_9 l0_9.length c0_9, .slice A0_10 l0_10.length c0_10, .slice A0_11 l0_11.length c0_11, .int .i64 a0_12, .int .i64 a0_13, .slice A0_14 l0_14.length c0_14]] w fun e w' => RefR w w' e a0_0 a0_1 a0_2 a0_3 a0_4 a0_5 l0_6 a0_7 a0_8 l0_9 l0_10 l0_11 a0_12 a0_13 l0_14 := by
 have hu54 := Try.underlying54
 have hu64 := Try.underlying64
 have hu67 := Try.underlying67
 have hu73 := Try.underlying73
 have hu111 := Try.underlying111
 have hu115 := Try.underlying115
 have hu120 := Try.underlying120
 have HB := aM (Below.refl w.heap.size w)
 have HR6 := aM hr0_6
 have HC6 := aM hc0_6
 clear hr0_6 hc0_6
 have HR9 := aM hr0_9
 have HC9 := aM hc0_9
 clear hr0_9 hc0_9
 have HR10 := aM hr0_10
 have HC10 := aM hc0_10
 clear hr0_10 hc0_10
 have HR11 := aM hr0_11
 have HC11 := aM hc0_11
 clear hr0_11 hc0_11
 have HR14 := aM hr0_14
 have HC14 := aM hc0_14
 clear hr0_14 hc0_14
 have H6 := aM h6
 have H10 := aM h10
 clear h6 h10
 go_enter Try.func32, Try.ntmps32
 go_upto_region 1 with (first | ((with_reducible refine gate_dst (N := 1) rfl ?_); refine box_event ?hg (N := 1) ?hd (cs := #[.int .i64 a0_0, .int .i64 a0_1, .int .i64 a0_2, .int .i64 a0_3, .int .i64 a0_4, .int .i64 a0_5, .slice A0_6 l0_6.length c0_6, .int .i64 a0_7, .int .i64 a0_8, .slice A0_9 l0_9.length c0_9, .slice A0_10 l0_10.length c0_10, .slice A0_11 l0_11.length c0_11, .int .i64 a0_12, .int .i64 a0_13, .slice A0_14 l0_14.length c0_14]) (t := 67) ?hr ?_; (case hd => rfl); (case hg => rfl); (case hr => first | (go_simp; done) | (go_simp; rfl)); intro gb hg w1 hbox hb; have BK := aM hbox; replace HB := aM hb; clear hbox hb hg) | ((with_reducible refine gate_dst (N := 2) rfl ?_); refine box_event ?hg (N := 2) ?hd (cs := #[.int .i64 0, .int .i64 0, .int .i64 0, .int .i64 0, .int .i64 0, .int .i64 0, .int .i64 0, .slice none 0 0, .slice none 0 0]) (t := 73) ?hr ?_; (case hd => rfl); (case hg => rfl); (case hr => first | (go_simp; done) | (go_simp; rfl)); intro g2 hg w2 hbox hb; have B2 := aM hbox; have GE2 := aM ((by rw [hg]; exact below_size HB.out) : w.heap.size ≤ g2); replace BK := aM (blk_below BK.out hb); replace HB := aM (below_step HB.out hb); clear hg hbox hb))
 replace BK := aM (blk_drew BK.out)
 replace B2 := aM (blk_drew B2.out)
 replace HB := aM (HB.out.drew)
 refine start_ (n := 13) (S := fun w' => w'.cell? ⟨gb, 0, none⟩ = some (.int .i64 a0_0) ∧ w'.cell? ⟨gb, 1, none⟩ = some (.int .i64 a0_1) ∧ w'.cell? ⟨gb, 2, none⟩ = some (.int .i64 a0_2) ∧ w'.cell? ⟨gb, 3, none⟩ = some (.int .i64 a0_3) ∧ w'.cell? ⟨gb, 4, none⟩ = some (.int .i64 a0_4) ∧ w'.cell? ⟨gb, 5, none⟩ = some (.int .i64 a0_5) ∧ w'.cell? ⟨gb, 6, none⟩ = some (.slice A0_6 l0_6.length c0_6) ∧ w'.cell? ⟨gb, 7, none⟩ = some (.int .i64 a0_7) ∧ w'.cell? ⟨gb, 8, none⟩ = some (.int .i64 a0_8) ∧ w'.cell? ⟨gb, 9, none⟩ = some (.slice A0_9 l0_9.length c0_9) ∧ w'.cell? ⟨gb, 10, none⟩ = some (.slice A0_10 l0_10.length c0_10)) (ds := [12]) #[false, false, false, false, false, false, false, false, false, false, false, false, false] (by kernel_rfl) rfl rfl ⟨((blk_cell BK.out 0).trans rfl), ((blk_cell BK.out 1).trans rfl), ((blk_cell BK.out 2).trans rfl), ((blk_cell BK.out 3).trans rfl), ((blk_cell BK.out 4).trans rfl), ((blk_cell BK.out 5).trans rfl), ((blk_cell BK.out 6).trans rfl), ((blk_cell BK.out 7).trans rfl), ((blk_cell BK.out 8).trans rfl), ((blk_cell BK.out 9).trans rfl), ((blk_cell BK.out 10).trans rfl)⟩ (fun hHeld => ?_); refine with_tabW brf1.tab1 brf1.bits1 (fun HT_ HW_ => ?_)
 generalize w2.drew = w3 at BK B2 HB hHeld ⊢
 refine pure_ (i := 0) (N := some 8) (v := ?_) (a' := ?_) #[true, false, false, false, false, false, false, false, false, false, false, false, false] rfl rfl (any_of HT_.out (by kernel_rfl)) (fun _ _ _ h => h) (Or.inl ⟨by rfl, ?_⟩) ?_ ?_
 rotate_left; exact pI; rotate_left; exact pS
 refine pure_ (i := 3) (N := some 11) (v := ?_) (a' := ?_) #[true, false, false, true, false, false, false, false, false, false, false, false, false] rfl rfl (any_of HT_.out (by kernel_rfl)) (fun _ _ _ h => h) (Or.inl ⟨by rfl, ?_⟩) ?_ ?_
 rotate_left; exact pI; rotate_left; exact pS
 refine pure_ (i := 6) (N := some 14) (v := ?_) (a' := ?_) #[true, false, false, true, false, false, true, false, false, false, false, false, false] rfl rfl (any_of HT_.out (by kernel_rfl)) (fun _ _ _ h => h) (Or.inl ⟨by rfl, ?_⟩) ?_ ?_
 rotate_left; exact pI; rotate_left; exact pS
 refine take_ (i := 1) (N := some 9) (v := ?_) (a' := ?_) #[true, true, false, true, false, false, true, false, false, false, false, false, false] rfl rfl (take_ofW HT_.out HW_.out (by kernel_rfl)) (fun _ _ _ h => h) (Or.inl ⟨by rfl, ?_⟩) hHeld ?_ ?_
 rotate_left
 ·
  rintro w' ⟨s0, s1, s2, s3, s4, s5, s6, s7, s8, s9, s10⟩
  go_simp
  with_reducible rfl
 rotate_left
 ·
  exact pS
 refine take_ (i := 4) (N := some 12) (v := ?_) (a' := ?_) #[true, true, false, true, true, false, true, false, false, false, false, false, false] rfl rfl (take_ofW HT_.out HW_.out (by kernel_rfl)) (fun _ _ _ h => h) (Or.inl ⟨by rfl, ?_⟩) hHeld ?_ ?_
 rotate_left
 ·
  rintro w' ⟨s0, s1, s2, s3, s4, s5, s6, s7, s8, s9, s10⟩
  go_simp
  with_reducible rfl
 rotate_left
 ·
  exact pS
 refine pure_ (i := 5) (N := some 13) (v := ?_) (a' := ?_) #[true, true, false, true, true, true, true, false, false, false, false, false, false] rfl rfl (any_of HT_.out (by kernel_rfl)) (fun _ _ _ h => h) (Or.inl ⟨by rfl, ?_⟩) ?_ ?_
 rotate_left; exact pI; rotate_left; exact pS
 refine take_ (i := 7) (N := some 15) (v := ?_) (a' := ?_) #[true, true, false, true, true, true, true, true, false, false, false, false, false] rfl rfl (take_ofW HT_.out HW_.out (by kernel_rfl)) (fun _ _ _ h => h) (Or.inl ⟨by rfl, ?_⟩) hHeld ?_ ?_
 rotate_left
 ·
  rintro w' ⟨s0, s1, s2, s3, s4, s5, s6, s7, s8, s9, s10⟩
  go_simp
  with_reducible rfl
 rotate_left
 ·
  exact pS
 refine join_ (σ := Nat × Option Addr × Nat) 1 #[true, true, true, true, true, true, true, true, true, true, true, true, false] (fun st => [(10, .agg #[.int .i64 a0_0, .int .i64 a0_1, .int .i64 a0_2, .int .i64 a0_3, .int .i64 a0_4, .int .i64 a0_5]), (16, .agg #[.int .i64 a0_7, .int .i64 a0_8, .slice A0_9 l0_9.length c0_9]), (17, .slice st.2.1 1 st.2.2), (18, .agg #[.int .i64 a0_0, .int .i64 a0_1, .int .i64 a0_2, .int .i64 a0_3, .int .i64 a0_4, .int .i64 a0_5, .int .i64 (l0_10.length : Int), .slice none 0 0, .slice st.2.1 1 st.2.2]), (3, .pointer (some ⟨st.1, 0, none⟩))]) (fun st w' => Aside0 (w'.heap[gb]? = some (.cells #[.int .i64 a0_0, .int .i64 a0_1, .int .i64 a0_2, .int .i64 a0_3, .int .i64 a0_4, .int .i64 a0_5, .slice A0_6 l0_6.length c0_6, .int .i64 a0_7, .int .i64 a0_8, .slice A0_9 l0_9.length c0_9, .slice A0_10 l0_10.length c0_10, .slice A0_11 l0_11.length c0_11, .int .i64 a0_12, .int .i64 a0_13, .slice A0_14 l0_14.length c0_14] 67 (0, 0))) ∧ Aside0 (w'.heap[g2]? = some (.cells #[.int .i64 0, .int .i64 0, .int .i64 0, .int .i64 0, .int .i64 0, .int .i64 0, .int .i64 0, .slice none 0 0, .slice none 0 0] 73 (0, 0))) ∧ Aside0 (Below w.heap.size w w') ∧ Aside0 (w'.heap[st.1]? = some (.cells #[.int .i64 0, .int .i64 0, .int .i64 0, .int .i64 0, .int .i64 0, .int .i64 0, .int .i64 0, .slice none 0 0, .slice none 0 0] 73 (0, 0))) ∧ Aside0 (w.heap.size ≤ st.1) ∧ Aside0 (g2 ≠ st.1) ∧ Aside0 ((Kd.raw 3).R 111 w' w.heap.size (fun _ => True) (.slice st.2.1 1 st.2.2) [([.int .i64 a0_7, .int .i64 a0_8, .slice A0_9 l0_9.length c0_9] : List Value)])) ?_ ?_
 rotate_left
 ·
  intro hCont
  refine two_ (i := 2) (j := 11) (Ni := some 10) (Nj := some 3) #[true, true, true, true, true, true, true, true, false, false, false, false, false] #[true, true, false, true, true, true, true, true, false, false, false, true, false] rfl rfl rfl rfl (two_of HT_.out (by kernel_rfl)) (by decide) (by decide) (fun K hK => ?_) (fun K hK => ?_)
  ·
   skip
   refine goes_ Try.func23 (by kernel_rfl) rfl #[.agg #[.int .i64 a0_0, .int .i64 a0_1, .int .i64 a0_2, .int .i64 a0_3, .int .i64 a0_4, .int .i64 a0_5]] (by rfl) rfl rfl (by simp only [List.map_toArray, List.map_cons, List.map_nil]; rfl) ?_
   with_reducible refine (credenzalaw18_config.calls a0_0 a0_1 a0_2 a0_3 a0_4 a0_5 a0_0 a0_1 a0_2 a0_3 a0_4 a0_5 _ rfl).mono ?_
   rintro e wa ⟨rfl, hb⟩
   refine ⟨_, rfl, ?_⟩
   replace BK := aM (blk_below BK.out hb)
   replace B2 := aM (blk_below B2.out hb)
   replace HB := aM (below_step HB.out hb)
   try replace B3 := aM (blk_below B3.out hb)
   try replace RP := aM (Kd.R_below RP.out hb)
   clear hb
   refine hK.out _ _ ⟨((blk_cell BK.out 0).trans rfl), ((blk_cell BK.out 1).trans rfl), ((blk_cell BK.out 2).trans rfl), ((blk_cell BK.out 3).trans rfl), ((blk_cell BK.out 4).trans rfl), ((blk_cell BK.out 5).trans rfl), ((blk_cell BK.out 6).trans rfl), ((blk_cell BK.out 7).trans rfl), ((blk_cell BK.out 8).trans rfl), ((blk_cell BK.out 9).trans rfl), ((blk_cell BK.out 10).trans rfl)⟩ (fun hHeld => ?_)
   clear hK K
   refine norm_ (a' := ?_) ?_ ?_
   rotate_left
   ·
    show Act.put _ (some 10) _ = _
    simp only [Act.put, List.setIfInBounds_toArray, List.set_cons_zero, List.set_cons_succ, i64_w, i32_w, IntKind.wrap_u32]
    rfl
   refine two_ (i := 8) (j := 11) (Ni := some 16) (Nj := some 3) #[true, true, true, true, true, true, true, true, true, false, false, false, false] #[true, true, true, true, true, true, true, true, false, false, false, true, false] rfl rfl rfl rfl (two_of HT_.out (by kernel_rfl)) (by decide) (by decide) (fun K hK => ?_) (fun K hK => ?_)
   ·
    skip
    refine goes_ Try.func64 (by kernel_rfl) rfl #[.agg #[.int .i64 a0_7, .int .i64 a0_8, .slice A0_9 l0_9.length c0_9]] (by rfl) rfl rfl (by simp only [List.map_toArray, List.map_cons, List.map_nil]; rfl) ?_
    with_reducible refine (btable.calls a0_7 a0_8 A0_9 l0_9.length c0_9 _).mono ?_
    rintro e wb ⟨rfl, hb⟩
    refine ⟨_, rfl, ?_⟩
    replace BK := aM (blk_below BK.out hb)
    replace B2 := aM (blk_below B2.out hb)
    replace HB := aM (below_step HB.out hb)
    try replace B3 := aM (blk_below B3.out hb)
    try replace RP := aM (Kd.R_below RP.out hb)
    clear hb
    refine hK.out _ _ ⟨((blk_cell BK.out 0).trans rfl), ((blk_cell BK.out 1).trans rfl), ((blk_cell BK.out 2).trans rfl), ((blk_cell BK.out 3).trans rfl), ((blk_cell BK.out 4).trans rfl), ((blk_cell BK.out 5).trans rfl), ((blk_cell BK.out 6).trans rfl), ((blk_cell BK.out 7).trans rfl), ((blk_cell BK.out 8).trans rfl), ((blk_cell BK.out 9).trans rfl), ((blk_cell BK.out 10).trans rfl)⟩ (fun hHeld => ?_)
    clear hK K
    refine norm_ (a' := ?_) ?_ ?_
    rotate_left
    ·
     show Act.put _ (some 16) _ = _
     simp only [Act.put, List.setIfInBounds_toArray, List.set_cons_zero, List.set_cons_succ, i64_w, i32_w, IntKind.wrap_u32]
     rfl
    refine two_ (i := 9) (j := 11) (Ni := some 17) (Nj := some 3) #[true, true, true, true, true, true, true, true, true, true, false, false, false] #[true, true, true, true, true, true, true, true, true, false, false, true, false] rfl rfl rfl rfl (two_of HT_.out (by kernel_rfl)) (by decide) (by decide) (fun K hK => ?_) (fun K hK => ?_)
    ·
     skip
     refine Kd.R_lit_step (Kd.raw 3) _ 111 (by rfl) rfl (xs := [([.int .i64 a0_7, .int .i64 a0_8, .slice A0_9 l0_9.length c0_9] : List Value)]) (inner := [.int .i64 a0_7, .int .i64 a0_8, .slice A0_9 l0_9.length c0_9]) (ok := fun _ => True) (okp := fun _ => True) ?hr ?hp (fun _ hk => hk) trivial (Below.refl _ _) (Nat.le_refl _) (by simp) ?_
     (case hr => first | (go_simp; done) | (go_simp; rfl))
     (case hp => exact (Reps.c3 ⟨rfl, rfl, by simp [Value.oneCell']⟩ (Reps.none _ _)))
     intro vp wc ho hb hg hat
     have HB0 := HB
     replace BK := aM (blk_below BK.out hb)
     replace B2 := aM (blk_below B2.out hb)
     replace HB := aM (below_step HB.out hb)
     try replace B3 := aM (blk_below B3.out hb)
     try replace RP := aM (Kd.R_below RP.out hb)
     obtain ⟨AP, cP, rfl⟩ := slice_one ho
     have RP := aM (show (Kd.raw 3).R 111 wc w.heap.size (fun _ => True) (.slice AP 1 cP) [([.int .i64 a0_7, .int .i64 a0_8, .slice A0_9 l0_9.length c0_9] : List Value)] from Kd.R_lower ho (below_size HB0.out))
     clear ho hg hat hb HB0
     refine hK.out _ _ ⟨((blk_cell BK.out 0).trans rfl), ((blk_cell BK.out 1).trans rfl), ((blk_cell BK.out 2).trans rfl), ((blk_cell BK.out 3).trans rfl), ((blk_cell BK.out 4).trans rfl), ((blk_cell BK.out 5).trans rfl), ((blk_cell BK.out 6).trans rfl), ((blk_cell BK.out 7).trans rfl), ((blk_cell BK.out 8).trans rfl), ((blk_cell BK.out 9).trans rfl), ((blk_cell BK.out 10).trans rfl)⟩ (fun hHeld => ?_)
     clear hK K
     refine norm_ (a' := ?_) ?_ ?_
     rotate_left
     ·
      show Act.put _ (some 17) _ = _
      simp only [Act.put, List.setIfInBounds_toArray, List.set_cons_zero, List.set_cons_succ, i64_w, i32_w, IntKind.wrap_u32]
      rfl
     refine pure_ (i := 10) (N := some 18) (v := ?_) (a' := ?_) #[true, true, true, true, true, true, true, true, true, true, true, false, false] rfl rfl (any_of HT_.out (by kernel_rfl)) (fun _ _ _ h => h) (Or.inl ⟨by rfl, ?_⟩) ?_ ?_
     rotate_left; exact pI; rotate_left; exact pS
     refine one_ (i := 11) (N := some 3) #[true, true, true, true, true, true, true, true, true, true, true, true, false] rfl rfl (one_of HT_.out (by kernel_rfl)) (by decide) (fun K hK => ?_)
     refine box_step (by rfl) rfl (cs := #[.int .i64 0, .int .i64 0, .int .i64 0, .int .i64 0, .int .i64 0, .int .i64 0, .int .i64 0, .slice none 0 0, .slice none 0 0]) (t := 73) ?hr ?_
     (case hr => first | (go_simp; done) | (go_simp; rfl))
     intro g3 hge wq hbox hb
     have GE3 := aM (show w.heap.size ≤ g3 by rw [hge]; exact below_size HB.out)
     have NE := aM (show g2 ≠ g3 by have h_ := blk_lt B2.out; omega)
     replace BK := aM (blk_below BK.out hb)
     replace B2 := aM (blk_below B2.out hb)
     replace HB := aM (below_step HB.out hb)
     try replace B3 := aM (blk_below B3.out hb)
     try replace RP := aM (Kd.R_below RP.out hb)
     have B3 := aM hbox
     clear hge hbox hb
     refine hK.out _ _ ⟨((blk_cell BK.out 0).trans rfl), ((blk_cell BK.out 1).trans rfl), ((blk_cell BK.out 2).trans rfl), ((blk_cell BK.out 3).trans rfl), ((blk_cell BK.out 4).trans rfl), ((blk_cell BK.out 5).trans rfl), ((blk_cell BK.out 6).trans rfl), ((blk_cell BK.out 7).trans rfl), ((blk_cell BK.out 8).trans rfl), ((blk_cell BK.out 9).trans rfl), ((blk_cell BK.out 10).trans rfl)⟩ (fun hHeld => ?_)
     clear hK K
     refine norm_ (a' := ?_) ?_ ?_
     rotate_left
     ·
      show Act.put _ (some 3) _ = _
      simp only [Act.put, List.setIfInBounds_toArray, List.set_cons_zero, List.set_cons_succ, i64_w, i32_w, IntKind.wrap_u32]
      rfl
     exact norm_ (by simp only [putAll, Act.put, List.setIfInBounds_toArray, List.set_cons_zero, List.set_cons_succ]) (hCont (g3, AP, cP) _ ⟨BK, B2, HB, B3, GE3, NE, RP⟩)
    ·
     skip
     refine box_step (by rfl) rfl (cs := #[.int .i64 0, .int .i64 0, .int .i64 0, .int .i64 0, .int .i64 0, .int .i64 0, .int .i64 0, .slice none 0 0, .slice none 0 0]) (t := 73) ?hr ?_
     (case hr => first | (go_simp; done) | (go_simp; rfl))
     intro g3 hge wq hbox hb
     have GE3 := aM (show w.heap.size ≤ g3 by rw [hge]; exact below_size HB.out)
     have NE := aM (show g2 ≠ g3 by have h_ := blk_lt B2.out; omega)
     replace BK := aM (blk_below BK.out hb)
     replace B2 := aM (blk_below B2.out hb)
     replace HB := aM (below_step HB.out hb)
     try replace B3 := aM (blk_below B3.out hb)
     try replace RP := aM (Kd.R_below RP.out hb)
     have B3 := aM hbox
     clear hge hbox hb
     refine hK.out _ _ ⟨((blk_cell BK.out 0).trans rfl), ((blk_cell BK.out 1).trans rfl), ((blk_cell BK.out 2).trans rfl), ((blk_cell BK.out 3).trans rfl), ((blk_cell BK.out 4).trans rfl), ((blk_cell BK.out 5).trans rfl), ((blk_cell BK.out 6).trans rfl), ((blk_cell BK.out 7).trans rfl), ((blk_cell BK.out 8).trans rfl), ((blk_cell BK.out 9).trans rfl), ((blk_cell BK.out 10).trans rfl)⟩ (fun hHeld => ?_)
     clear hK K
     refine norm_ (a' := ?_) ?_ ?_
     rotate_left
     ·
      show Act.put _ (some 3) _ = _
      simp only [Act.put, List.setIfInBounds_toArray, List.set_cons_zero, List.set_cons_succ, i64_w, i32_w, IntKind.wrap_u32]
      rfl
     refine one_ (i := 9) (N := some 17) #[true, true, true, true, true, true, true, true, true, true, false, true, false] rfl rfl (one_of HT_.out (by kernel_rfl)) (by decide) (fun K hK => ?_)
     refine Kd.R_lit_step (Kd.raw 3) _ 111 (by rfl) rfl (xs := [([.int .i64 a0_7, .int .i64 a0_8, .slice A0_9 l0_9.length c0_9] : List Value)]) (inner := [.int .i64 a0_7, .int .i64 a0_8, .slice A0_9 l0_9.length c0_9]) (ok := fun _ => True) (okp := fun _ => True) ?hr ?hp (fun _ hk => hk) trivial (Below.refl _ _) (Nat.le_refl _) (by simp) ?_
     (case hr => first | (go_simp; done) | (go_simp; rfl))
     (case hp => exact (Reps.c3 ⟨rfl, rfl, by simp [Value.oneCell']⟩ (Reps.none _ _)))
     intro vp wc ho hb hg hat
     have HB0 := HB
     replace BK := aM (blk_below BK.out hb)
     replace B2 := aM (blk_below B2.out hb)
     replace HB := aM (below_step HB.out hb)
     try replace B3 := aM (blk_below B3.out hb)
     try replace RP := aM (Kd.R_below RP.out hb)
     obtain ⟨AP, cP, rfl⟩ := slice_one ho
     have RP := aM (show (Kd.raw 3).R 111 wc w.heap.size (fun _ => True) (.slice AP 1 cP) [([.int .i64 a0_7, .int .i64 a0_8, .slice A0_9 l0_9.length c0_9] : List Value)] from Kd.R_lower ho (below_size HB0.out))
     clear ho hg hat hb HB0
     refine hK.out _ _ ⟨((blk_cell BK.out 0).trans rfl), ((blk_cell BK.out 1).trans rfl), ((blk_cell BK.out 2).trans rfl), ((blk_cell BK.out 3).trans rfl), ((blk_cell BK.out 4).trans rfl), ((blk_cell BK.out 5).trans rfl), ((blk_cell BK.out 6).trans rfl), ((blk_cell BK.out 7).trans rfl), ((blk_cell BK.out 8).trans rfl), ((blk_cell BK.out 9).trans rfl), ((blk_cell BK.out 10).trans rfl)⟩ (fun hHeld => ?_)
     clear hK K
     refine norm_ (a' := ?_) ?_ ?_
     rotate_left
     ·
      show Act.put _ (some 17) _ = _
      simp only [Act.put, List.setIfInBounds_toArray, List.set_cons_zero, List.set_cons_succ, i64_w, i32_w, IntKind.wrap_u32]
      rfl
     refine pure_ (i := 10) (N := some 18) (v := ?_) (a' := ?_) #[true, true, true, true, true, true, true, true, true, true, true, true, false] rfl rfl (any_of HT_.out (by kernel_rfl)) (fun _ _ _ h => h) (Or.inl ⟨by rfl, ?_⟩) ?_ ?_
     rotate_left; exact pI; rotate_left; exact pS
     exact norm_ (by simp only [putAll, Act.put, List.setIfInBounds_toArray, List.set_cons_zero, List.set_cons_succ]) (hCont (g3, AP, cP) _ ⟨BK, B2, HB, B3, GE3, NE, RP⟩)
   ·
    skip
    refine box_step (by rfl) rfl (cs := #[.int .i64 0, .int .i64 0, .int .i64 0, .int .i64 0, .int .i64 0, .int .i64 0, .int .i64 0, .slice none 0 0, .slice none 0 0]) (t := 73) ?hr ?_
    (case hr => first | (go_simp; done) | (go_simp; rfl))
    intro g3 hge wq hbox hb
    have GE3 := aM (show w.heap.size ≤ g3 by rw [hge]; exact below_size HB.out)
    have NE := aM (show g2 ≠ g3 by have h_ := blk_lt B2.out; omega)
    replace BK := aM (blk_below BK.out hb)
    replace B2 := aM (blk_below B2.out hb)
    replace HB := aM (below_step HB.out hb)
    try replace B3 := aM (blk_below B3.out hb)
    try replace RP := aM (Kd.R_below RP.out hb)
    have B3 := aM hbox
    clear hge hbox hb
    refine hK.out _ _ ⟨((blk_cell BK.out 0).trans rfl), ((blk_cell BK.out 1).trans rfl), ((blk_cell BK.out 2).trans rfl), ((blk_cell BK.out 3).trans rfl), ((blk_cell BK.out 4).trans rfl), ((blk_cell BK.out 5).trans rfl), ((blk_cell BK.out 6).trans rfl), ((blk_cell BK.out 7).trans rfl), ((blk_cell BK.out 8).trans rfl), ((blk_cell BK.out 9).trans rfl), ((blk_cell BK.out 10).trans rfl)⟩ (fun hHeld => ?_)
    clear hK K
    refine norm_ (a' := ?_) ?_ ?_
    rotate_left
    ·
     show Act.put _ (some 3) _ = _
     simp only [Act.put, List.setIfInBounds_toArray, List.set_cons_zero, List.set_cons_succ, i64_w, i32_w, IntKind.wrap_u32]
     rfl
    refine one_ (i := 8) (N := some 16) #[true, true, true, true, true, true, true, true, true, false, false, true, false] rfl rfl (one_of HT_.out (by kernel_rfl)) (by decide) (fun K hK => ?_)
    refine goes_ Try.func64 (by kernel_rfl) rfl #[.agg #[.int .i64 a0_7, .int .i64 a0_8, .slice A0_9 l0_9.length c0_9]] (by rfl) rfl rfl (by simp only [List.map_toArray, List.map_cons, List.map_nil]; rfl) ?_
    with_reducible refine (btable.calls a0_7 a0_8 A0_9 l0_9.length c0_9 _).mono ?_
    rintro e wb ⟨rfl, hb⟩
    refine ⟨_, rfl, ?_⟩
    replace BK := aM (blk_below BK.out hb)
    replace B2 := aM (blk_below B2.out hb)
    replace HB := aM (below_step HB.out hb)
    try replace B3 := aM (blk_below B3.out hb)
    try replace RP := aM (Kd.R_below RP.out hb)
    clear hb
    refine hK.out _ _ ⟨((blk_cell BK.out 0).trans rfl), ((blk_cell BK.out 1).trans rfl), ((blk_cell BK.out 2).trans rfl), ((blk_cell BK.out 3).trans rfl), ((blk_cell BK.out 4).trans rfl), ((blk_cell BK.out 5).trans rfl), ((blk_cell BK.out 6).trans rfl), ((blk_cell BK.out 7).trans rfl), ((blk_cell BK.out 8).trans rfl), ((blk_cell BK.out 9).trans rfl), ((blk_cell BK.out 10).trans rfl)⟩ (fun hHeld => ?_)
    clear hK K
    refine norm_ (a' := ?_) ?_ ?_
    rotate_left
    ·
     show Act.put _ (some 16) _ = _
     simp only [Act.put, List.setIfInBounds_toArray, List.set_cons_zero, List.set_cons_succ, i64_w, i32_w, IntKind.wrap_u32]
     rfl
    refine one_ (i := 9) (N := some 17) #[true, true, true, true, true, true, true, true, true, true, false, true, false] rfl rfl (one_of HT_.out (by kernel_rfl)) (by decide) (fun K hK => ?_)
    refine Kd.R_lit_step (Kd.raw 3) _ 111 (by rfl) rfl (xs := [([.int .i64 a0_7, .int .i64 a0_8, .slice A0_9 l0_9.length c0_9] : List Value)]) (inner := [.int .i64 a0_7, .int .i64 a0_8, .slice A0_9 l0_9.length c0_9]) (ok := fun _ => True) (okp := fun _ => True) ?hr ?hp (fun _ hk => hk) trivial (Below.refl _ _) (Nat.le_refl _) (by simp) ?_
    (case hr => first | (go_simp; done) | (go_simp; rfl))
    (case hp => exact (Reps.c3 ⟨rfl, rfl, by simp [Value.oneCell']⟩ (Reps.none _ _)))
    intro vp wc ho hb hg hat
    have HB0 := HB
    replace BK := aM (blk_below BK.out hb)
    replace B2 := aM (blk_below B2.out hb)
    replace HB := aM (below_step HB.out hb)
    try replace B3 := aM (blk_below B3.out hb)
    try replace RP := aM (Kd.R_below RP.out hb)
    obtain ⟨AP, cP, rfl⟩ := slice_one ho
    have RP := aM (show (Kd.raw 3).R 111 wc w.heap.size (fun _ => True) (.slice AP 1 cP) [([.int .i64 a0_7, .int .i64 a0_8, .slice A0_9 l0_9.length c0_9] : List Value)] from Kd.R_lower ho (below_size HB0.out))
    clear ho hg hat hb HB0
    refine hK.out _ _ ⟨((blk_cell BK.out 0).trans rfl), ((blk_cell BK.out 1).trans rfl), ((blk_cell BK.out 2).trans rfl), ((blk_cell BK.out 3).trans rfl), ((blk_cell BK.out 4).trans rfl), ((blk_cell BK.out 5).trans rfl), ((blk_cell BK.out 6).trans rfl), ((blk_cell BK.out 7).trans rfl), ((blk_cell BK.out 8).trans rfl), ((blk_cell BK.out 9).trans rfl), ((blk_cell BK.out 10).trans rfl)⟩ (fun hHeld => ?_)
    clear hK K
    refine norm_ (a' := ?_) ?_ ?_
    rotate_left
    ·
     show Act.put _ (some 17) _ = _
     simp only [Act.put, List.setIfInBounds_toArray, List.set_cons_zero, List.set_cons_succ, i64_w, i32_w, IntKind.wrap_u32]
     rfl
    refine pure_ (i := 10) (N := some 18) (v := ?_) (a' := ?_) #[true, true, true, true, true, true, true, true, true, true, true, true, false] rfl rfl (any_of HT_.out (by kernel_rfl)) (fun _ _ _ h => h) (Or.inl ⟨by rfl, ?_⟩) ?_ ?_
    rotate_left; exact pI; rotate_left; exact pS
    exact norm_ (by simp only [putAll, Act.put, List.setIfInBounds_toArray, List.set_cons_zero, List.set_cons_succ]) (hCont (g3, AP, cP) _ ⟨BK, B2, HB, B3, GE3, NE, RP⟩)
  ·
   skip
   refine box_step (by rfl) rfl (cs := #[.int .i64 0, .int .i64 0, .int .i64 0, .int .i64 0, .int .i64 0, .int .i64 0, .int .i64 0, .slice none 0 0, .slice none 0 0]) (t := 73) ?hr ?_
   (case hr => first | (go_simp; done) | (go_simp; rfl))
   intro g3 hge wq hbox hb
   have GE3 := aM (show w.heap.size ≤ g3 by rw [hge]; exact below_size HB.out)
   have NE := aM (show g2 ≠ g3 by have h_ := blk_lt B2.out; omega)
   replace BK := aM (blk_below BK.out hb)
   replace B2 := aM (blk_below B2.out hb)
   replace HB := aM (below_step HB.out hb)
   try replace B3 := aM (blk_below B3.out hb)
   try replace RP := aM (Kd.R_below RP.out hb)
   have B3 := aM hbox
   clear hge hbox hb
   refine hK.out _ _ ⟨((blk_cell BK.out 0).trans rfl), ((blk_cell BK.out 1).trans rfl), ((blk_cell BK.out 2).trans rfl), ((blk_cell BK.out 3).trans rfl), ((blk_cell BK.out 4).trans rfl), ((blk_cell BK.out 5).trans rfl), ((blk_cell BK.out 6).trans rfl), ((blk_cell BK.out 7).trans rfl), ((blk_cell BK.out 8).trans rfl), ((blk_cell BK.out 9).trans rfl), ((blk_cell BK.out 10).trans rfl)⟩ (fun hHeld => ?_)
   clear hK K
   refine norm_ (a' := ?_) ?_ ?_
   rotate_left
   ·
    show Act.put _ (some 3) _ = _
    simp only [Act.put, List.setIfInBounds_toArray, List.set_cons_zero, List.set_cons_succ, i64_w, i32_w, IntKind.wrap_u32]
    rfl
   refine one_ (i := 2) (N := some 10) #[true, true, true, true, true, true, true, true, false, false, false, true, false] rfl rfl (one_of HT_.out (by kernel_rfl)) (by decide) (fun K hK => ?_)
   refine goes_ Try.func23 (by kernel_rfl) rfl #[.agg #[.int .i64 a0_0, .int .i64 a0_1, .int .i64 a0_2, .int .i64 a0_3, .int .i64 a0_4, .int .i64 a0_5]] (by rfl) rfl rfl (by simp only [List.map_toArray, List.map_cons, List.map_nil]; rfl) ?_
   with_reducible refine (credenzalaw18_config.calls a0_0 a0_1 a0_2 a0_3 a0_4 a0_5 a0_0 a0_1 a0_2 a0_3 a0_4 a0_5 _ rfl).mono ?_
   rintro e wa ⟨rfl, hb⟩
   refine ⟨_, rfl, ?_⟩
   replace BK := aM (blk_below BK.out hb)
   replace B2 := aM (blk_below B2.out hb)
   replace HB := aM (below_step HB.out hb)
   try replace B3 := aM (blk_below B3.out hb)
   try replace RP := aM (Kd.R_below RP.out hb)
   clear hb
   refine hK.out _ _ ⟨((blk_cell BK.out 0).trans rfl), ((blk_cell BK.out 1).trans rfl), ((blk_cell BK.out 2).trans rfl), ((blk_cell BK.out 3).trans rfl), ((blk_cell BK.out 4).trans rfl), ((blk_cell BK.out 5).trans rfl), ((blk_cell BK.out 6).trans rfl), ((blk_cell BK.out 7).trans rfl), ((blk_cell BK.out 8).trans rfl), ((blk_cell BK.out 9).trans rfl), ((blk_cell BK.out 10).trans rfl)⟩ (fun hHeld => ?_)
   clear hK K
   refine norm_ (a' := ?_) ?_ ?_
   rotate_left
   ·
    show Act.put _ (some 10) _ = _
    simp only [Act.put, List.setIfInBounds_toArray, List.set_cons_zero, List.set_cons_succ, i64_w, i32_w, IntKind.wrap_u32]
    rfl
   refine one_ (i := 8) (N := some 16) #[true, true, true, true, true, true, true, true, true, false, false, true, false] rfl rfl (one_of HT_.out (by kernel_rfl)) (by decide) (fun K hK => ?_)
   refine goes_ Try.func64 (by kernel_rfl) rfl #[.agg #[.int .i64 a0_7, .int .i64 a0_8, .slice A0_9 l0_9.length c0_9]] (by rfl) rfl rfl (by simp only [List.map_toArray, List.map_cons, List.map_nil]; rfl) ?_
   with_reducible refine (btable.calls a0_7 a0_8 A0_9 l0_9.length c0_9 _).mono ?_
   rintro e wb ⟨rfl, hb⟩
   refine ⟨_, rfl, ?_⟩
   replace BK := aM (blk_below BK.out hb)
   replace B2 := aM (blk_below B2.out hb)
   replace HB := aM (below_step HB.out hb)
   try replace B3 := aM (blk_below B3.out hb)
   try replace RP := aM (Kd.R_below RP.out hb)
   clear hb
   refine hK.out _ _ ⟨((blk_cell BK.out 0).trans rfl), ((blk_cell BK.out 1).trans rfl), ((blk_cell BK.out 2).trans rfl), ((blk_cell BK.out 3).trans rfl), ((blk_cell BK.out 4).trans rfl), ((blk_cell BK.out 5).trans rfl), ((blk_cell BK.out 6).trans rfl), ((blk_cell BK.out 7).trans rfl), ((blk_cell BK.out 8).trans rfl), ((blk_cell BK.out 9).trans rfl), ((blk_cell BK.out 10).trans rfl)⟩ (fun hHeld => ?_)
   clear hK K
   refine norm_ (a' := ?_) ?_ ?_
   rotate_left
   ·
    show Act.put _ (some 16) _ = _
    simp only [Act.put, List.setIfInBounds_toArray, List.set_cons_zero, List.set_cons_succ, i64_w, i32_w, IntKind.wrap_u32]
    rfl
   refine one_ (i := 9) (N := some 17) #[true, true, true, true, true, true, true, true, true, true, false, true, false] rfl rfl (one_of HT_.out (by kernel_rfl)) (by decide) (fun K hK => ?_)
   refine Kd.R_lit_step (Kd.raw 3) _ 111 (by rfl) rfl (xs := [([.int .i64 a0_7, .int .i64 a0_8, .slice A0_9 l0_9.length c0_9] : List Value)]) (inner := [.int .i64 a0_7, .int .i64 a0_8, .slice A0_9 l0_9.length c0_9]) (ok := fun _ => True) (okp := fun _ => True) ?hr ?hp (fun _ hk => hk) trivial (Below.refl _ _) (Nat.le_refl _) (by simp) ?_
   (case hr => first | (go_simp; done) | (go_simp; rfl))
   (case hp => exact (Reps.c3 ⟨rfl, rfl, by simp [Value.oneCell']⟩ (Reps.none _ _)))
   intro vp wc ho hb hg hat
   have HB0 := HB
   replace BK := aM (blk_below BK.out hb)
   replace B2 := aM (blk_below B2.out hb)
   replace HB := aM (below_step HB.out hb)
   try replace B3 := aM (blk_below B3.out hb)
   try replace RP := aM (Kd.R_below RP.out hb)
   obtain ⟨AP, cP, rfl⟩ := slice_one ho
   have RP := aM (show (Kd.raw 3).R 111 wc w.heap.size (fun _ => True) (.slice AP 1 cP) [([.int .i64 a0_7, .int .i64 a0_8, .slice A0_9 l0_9.length c0_9] : List Value)] from Kd.R_lower ho (below_size HB0.out))
   clear ho hg hat hb HB0
   refine hK.out _ _ ⟨((blk_cell BK.out 0).trans rfl), ((blk_cell BK.out 1).trans rfl), ((blk_cell BK.out 2).trans rfl), ((blk_cell BK.out 3).trans rfl), ((blk_cell BK.out 4).trans rfl), ((blk_cell BK.out 5).trans rfl), ((blk_cell BK.out 6).trans rfl), ((blk_cell BK.out 7).trans rfl), ((blk_cell BK.out 8).trans rfl), ((blk_cell BK.out 9).trans rfl), ((blk_cell BK.out 10).trans rfl)⟩ (fun hHeld => ?_)
   clear hK K
   refine norm_ (a' := ?_) ?_ ?_
   rotate_left
   ·
    show Act.put _ (some 17) _ = _
    simp only [Act.put, List.setIfInBounds_toArray, List.set_cons_zero, List.set_cons_succ, i64_w, i32_w, IntKind.wrap_u32]
    rfl
   refine pure_ (i := 10) (N := some 18) (v := ?_) (a' := ?_) #[true, true, true, true, true, true, true, true, true, true, true, true, false] rfl rfl (any_of HT_.out (by kernel_rfl)) (fun _ _ _ h => h) (Or.inl ⟨by rfl, ?_⟩) ?_ ?_
   rotate_left; exact pI; rotate_left; exact pS
   exact norm_ (by simp only [putAll, Act.put, List.setIfInBounds_toArray, List.set_cons_zero, List.set_cons_succ]) (hCont (g3, AP, cP) _ ⟨BK, B2, HB, B3, GE3, NE, RP⟩)
 clear BK B2 HB
 rintro ⟨g3, AP, cP⟩ w5 ⟨BK, B2, HB, B3, GE3, NE, RP⟩
 have hHeld : w5.cell? ⟨gb, 0, none⟩ = some (.int .i64 a0_0) ∧ w5.cell? ⟨gb, 1, none⟩ = some (.int .i64 a0_1) ∧ w5.cell? ⟨gb, 2, none⟩ = some (.int .i64 a0_2) ∧ w5.cell? ⟨gb, 3, none⟩ = some (.int .i64 a0_3) ∧ w5.cell? ⟨gb, 4, none⟩ = some (.int .i64 a0_4) ∧ w5.cell? ⟨gb, 5, none⟩ = some (.int .i64 a0_5) ∧ w5.cell? ⟨gb, 6, none⟩ = some (.slice A0_6 l0_6.length c0_6) ∧ w5.cell? ⟨gb, 7, none⟩ = some (.int .i64 a0_7) ∧ w5.cell? ⟨gb, 8, none⟩ = some (.int .i64 a0_8) ∧ w5.cell? ⟨gb, 9, none⟩ = some (.slice A0_9 l0_9.length c0_9) ∧ w5.cell? ⟨gb, 10, none⟩ = some (.slice A0_10 l0_10.length c0_10) := ⟨((blk_cell BK.out 0).trans rfl), ((blk_cell BK.out 1).trans rfl), ((blk_cell BK.out 2).trans rfl), ((blk_cell BK.out 3).trans rfl), ((blk_cell BK.out 4).trans rfl), ((blk_cell BK.out 5).trans rfl), ((blk_cell BK.out 6).trans rfl), ((blk_cell BK.out 7).trans rfl), ((blk_cell BK.out 8).trans rfl), ((blk_cell BK.out 9).trans rfl), ((blk_cell BK.out 10).trans rfl)⟩
 dsimp only at B3 GE3 NE RP ⊢
 refine norm_ (a' := ?_) ?_ ?_
 rotate_left
 ·
  simp only [putAll, Act.put, List.setIfInBounds_toArray, List.set_cons_zero, List.set_cons_succ]
  rfl
 refine last_ (i := 12) (N := none) #[true, true, true, true, true, true, true, true, true, true, true, true, true] rfl rfl (one_of HT_.out (by kernel_rfl)) (by decide) (fun K hK => ?_)
 have hz3 := bx9 B3.out
 refine skip_ (w1 := ?_) (by rfl) rfl ?_ ?_
 rotate_left
 ·
  go_simp
  rfl
 clear hz3
 refine hK.out _ _ ?_
 clear hK K
 refine done_ (done_of HT_.out (by kernel_rfl)) ?_
 obtain ⟨w6, hw6⟩ : ∃ x_, fset9 w5 g3 (.int .i64 a0_0) (.int .i64 a0_1) (.int .i64 a0_2) (.int .i64 a0_3) (.int .i64 a0_4) (.int .i64 a0_5) (.int .i64 (l0_10.length : Int)) (.slice none 0 0) (.slice AP 1 cP) = x_ := ⟨_, rfl⟩
 have b3 : (fset9 w5 g3 (.int .i64 a0_0) (.int .i64 a0_1) (.int .i64 a0_2) (.int .i64 a0_3) (.int .i64 a0_4) (.int .i64 a0_5) (.int .i64 (l0_10.length : Int)) (.slice none 0 0) (.slice AP 1 cP)).heap[g3]? = some (.cells #[.int .i64 a0_0, .int .i64 a0_1, .int .i64 a0_2, .int .i64 a0_3, .int .i64 a0_4, .int .i64 a0_5, .int .i64 (l0_10.length : Int), .slice none 0 0, .slice AP 1 cP] 73 (0, 0)) := fset9_blk B3.out
 have bk : (fset9 w5 g3 (.int .i64 a0_0) (.int .i64 a0_1) (.int .i64 a0_2) (.int .i64 a0_3) (.int .i64 a0_4) (.int .i64 a0_5) (.int .i64 (l0_10.length : Int)) (.slice none 0 0) (.slice AP 1 cP)).heap[gb]? = some (.cells #[.int .i64 a0_0, .int .i64 a0_1, .int .i64 a0_2, .int .i64 a0_3, .int .i64 a0_4, .int .i64 a0_5, .slice A0_6 l0_6.length c0_6, .int .i64 a0_7, .int .i64 a0_8, .slice A0_9 l0_9.length c0_9, .slice A0_10 l0_10.length c0_10, .slice A0_11 l0_11.length c0_11, .int .i64 a0_12, .int .i64 a0_13, .slice A0_14 l0_14.length c0_14] 67 (0, 0)) := (fset9_far _ _ _ _ _ _ _ _ _ _ _ gb (blk_ne BK.out B3.out (by decide))).trans BK.out
 have b2 : (fset9 w5 g3 (.int .i64 a0_0) (.int .i64 a0_1) (.int .i64 a0_2) (.int .i64 a0_3) (.int .i64 a0_4) (.int .i64 a0_5) (.int .i64 (l0_10.length : Int)) (.slice none 0 0) (.slice AP 1 cP)).heap[g2]? = some (.cells #[.int .i64 0, .int .i64 0, .int .i64 0, .int .i64 0, .int .i64 0, .int .i64 0, .int .i64 0, .slice none 0 0, .slice none 0 0] 73 (0, 0)) := (fset9_far _ _ _ _ _ _ _ _ _ _ _ g2 NE.out).trans B2.out
 have rp : (Kd.raw 3).R 111 (fset9 w5 g3 (.int .i64 a0_0) (.int .i64 a0_1) (.int .i64 a0_2) (.int .i64 a0_3) (.int .i64 a0_4) (.int .i64 a0_5) (.int .i64 (l0_10.length : Int)) (.slice none 0 0) (.slice AP 1 cP)) w.heap.size (fun _ => True) (.slice AP 1 cP) [([.int .i64 a0_7, .int .i64 a0_8, .slice A0_9 l0_9.length c0_9] : List Value)] := r_fset9 RP.out B3.out (by decide)
 have hb9 : Below w.heap.size w (fset9 w5 g3 (.int .i64 a0_0) (.int .i64 a0_1) (.int .i64 a0_2) (.int .i64 a0_3) (.int .i64 a0_4) (.int .i64 a0_5) (.int .i64 (l0_10.length : Int)) (.slice none 0 0) (.slice AP 1 cP)) := fset9_below HB.out GE3.out
 rw [hw6] at b3 bk b2 rp hb9
 have hw6 : (((((((((w5.setCell ⟨g3, 0, none⟩ (.int .i64 a0_0)).setCell ⟨g3, 1, none⟩ (.int .i64 a0_1)).setCell ⟨g3, 2, none⟩ (.int .i64 a0_2)).setCell ⟨g3, 3, none⟩ (.int .i64 a0_3)).setCell ⟨g3, 4, none⟩ (.int .i64 a0_4)).setCell ⟨g3, 5, none⟩ (.int .i64 a0_5)).setCell ⟨g3, 6, none⟩ (.int .i64 (l0_10.length : Int))).setCell ⟨g3, 7, none⟩ (.slice none 0 0)).setCell ⟨g3, 8, none⟩ (.slice AP 1 cP)) = w6 := hw6
 rw [hw6]
 clear hw6
 replace B3 := aM b3
 replace BK := aM bk
 replace B2 := aM b2
 replace RP := aM rp
 replace HB := aM hb9
 clear b3 bk b2 rp hb9
 obtain ⟨rw0, hrw0⟩ : ∃ x_, ([.int .i64 a0_7, .int .i64 a0_8, .slice A0_9 l0_9.length c0_9] : List Value) = x_ := ⟨_, rfl⟩
 have HW0 : Aside0 (RowsP w [rw0] [⟨a0_7, a0_8, l0_9⟩]) := ⟨RowsP.cons (by rw [← hrw0]; exact k111_mk w ⟨a0_7, a0_8, l0_9⟩ HC9.out HR9.out) (RowsP.nil w)⟩
 rw [hrw0] at RP
 clear hrw0
 have hz := bx15 BK.out
 go_wp2
 clear hz
 go_loopw [22] (fun i_ W' => ∃ (n_ : Nat) (v_ : Value), i_ = .int .i64 n_ ∧ Aside0 (n_ ≤ l0_6.length) ∧ Aside0 (W'.heap[gb]? = some (.cells #[.int .i64 a0_0, .int .i64 a0_1, .int .i64 a0_2, .int .i64 a0_3, .int .i64 a0_4, .int .i64 a0_5, .slice A0_6 l0_6.length c0_6, .int .i64 a0_7, .int .i64 a0_8, .slice A0_9 l0_9.length c0_9, .slice A0_10 l0_10.length c0_10, .slice A0_11 l0_11.length c0_11, .int .i64 a0_12, .int .i64 a0_13, .slice A0_14 l0_14.length c0_14] 67 (0, 0))) ∧ Aside0 (W'.heap[g2]? = some (.cells #[.int .i64 0, .int .i64 0, .int .i64 0, .int .i64 0, .int .i64 0, .int .i64 0, .int .i64 0, .slice none 0 0, .slice none 0 0] 73 (0, 0))) ∧ Aside0 (W'.heap[g3]? = some (.cells #[.int .i64 a0_0, .int .i64 a0_1, .int .i64 a0_2, .int .i64 a0_3, .int .i64 a0_4, .int .i64 a0_5, .int .i64 (l0_10.length : Int), v_, .slice AP 1 cP] 73 (0, 0))) ∧ Aside0 (Kd.R (Kd.int .i32) 21 W' w.heap.size (fun _ => True) v_ ((l0_6.take n_).flatMap (fun t_ : S115 => [t_.f0, t_.f1]))) ∧ Aside0 ((Kd.raw 3).R 111 W' w.heap.size (fun _ => True) (.slice AP 1 cP) [rw0]) ∧ Aside0 (Below w.heap.size w W')) (fun i_ _ => l0_6.length - (intOf i_).toNat)
 case atStart => exact ⟨0, _, rfl, ⟨Nat.zero_le _⟩, BK, B2, B3, ⟨Kd.R_nil _ _ _ _ _⟩, RP, HB⟩
 case round =>
  clear BK B2 B3 RP HB
  obtain ⟨n, v, rfl, HJ, BK, B2, B3, RT, RP, HB⟩ := hrel
  by_cases q : n < l0_6.length
  ·
   have f1 : decide ((n : Int) < (l0_6.length : Int)) = true := decide_eq_true (by omega)
   have f2 : decide (n < l0_6.length) = true := decide_eq_true q
   have hl63 := HR6.out.2.1
   have p0 : (0 : Int) ≤ (n : Int) := by omega
   have p1 : (n : Int) < (l0_6.length : Int) := by omega
   obtain ⟨t, ht⟩ : ∃ t, l0_6[n]? = some t := ⟨_, List.getElem?_eq_getElem q⟩
   have hrd : rd_T115 l0_6 (n : Int) = t := by unfold rd_T115; rw [List.getD_eq_getElem?_getD, Int.toNat_natCast, ht]; rfl
   obtain ⟨ad, he, hx0, hx1⟩ := at_T115 HR6.out (n : Int) p0 p1
   cases he
   rw [hrd] at hx0 hx1
   simp only [Int.toNat_natCast] at hx0 hx1
   replace hx0 := (HB.out.cell (World.block_lt_of_cell? w _ hx0)).trans hx0
   replace hx1 := (HB.out.cell (World.block_lt_of_cell? w _ hx1)).trans hx1
   obtain ⟨tc, hc⟩ : ∃ x_, t.f0 = x_ := ⟨_, rfl⟩
   obtain ⟨ts, hs_⟩ : ∃ x_, t.f1 = x_ := ⟨_, rfl⟩
   have HTK : Aside0 ((l0_6.take (n + 1)).flatMap (fun t_ : S115 => [t_.f0, t_.f1]) = (l0_6.take n).flatMap (fun t_ : S115 => [t_.f0, t_.f1]) ++ [tc, ts]) := ⟨by rw [fm_succ (fun t_ : S115 => [t_.f0, t_.f1]) ht, ← hc, ← hs_]⟩
   rw [hc] at hx0
   rw [hs_] at hx1
   obtain ⟨xs, hxs⟩ : ∃ x_, (l0_6.take n).flatMap (fun t_ : S115 => [t_.f0, t_.f1]) = x_ := ⟨_, rfl⟩
   have HXL : Aside0 (xs.length + 2 ≤ 35184372087808) := ⟨by rw [← hxs]; have h_ := tt_len2 l0_6 n; have h2_ := H6.out; omega⟩
   rw [hxs] at RT HTK
   obtain ⟨Av, cv, rfl⟩ := Kd.R_slice RT.out
   clear hrd ht hc hs_ hxs
   go_upto_region 5 with (fail)
   clear hx0 hx1
   have h_new := blk_new wr (.cells #[.int .i32 tc, .int .i32 ts] 115)
   have h_al := below_alloc (Below.refl wr.heap.size wr) (.cells #[.int .i32 tc, .int .i32 ts] 115)
   obtain ⟨g5, hg_⟩ : ∃ g_, g_ = wr.heap.size := ⟨_, rfl⟩
   rw [← hg_] at h_new ⊢
   have G5 := aM h_new
   replace BK := aM (blk_below BK.out h_al)
   replace B2 := aM (blk_below B2.out h_al)
   replace B3 := aM (blk_below B3.out h_al)
   replace RT := aM (Kd.R_below RT.out h_al)
   replace RP := aM (Kd.R_below RP.out h_al)
   replace HB := aM (below_step HB.out h_al)
   clear h_new h_al hg_
   generalize wr.alloc (.cells #[.int .i32 tc, .int .i32 ts] 115) = w7 at G5 BK B2 B3 RT RP HB ⊢
   have hz5 := bx2b G5.out
   have hz3 := bx9 B3.out
   go_wp2_with (first | ((with_reducible refine gate_dst (N := 32) rfl ?_); refine Kd.R_lit (Kd.int .i32) _ 21 ?hg (N := 32) ?hd (xs := ([tc, ts] : List Int)) (inner := [.int .i32 tc, .int .i32 ts]) (ok := fun _ => True) (okp := fun _ => True) ?hr ?hp (fun _ hk => hk) trivial (Below.refl _ _) (Nat.le_refl _) (by simp) ?_; (case hd => rfl); (case hg => rfl); (case hr => first | (go_simp; done) | (go_simp; rfl)); (case hp => exact (Reps.one rfl (Reps.one rfl (Reps.none _ _)))); intro v1 w8 ho1 hb hg_ hnew_; obtain ⟨A1, c1, rfl⟩ := Kd.R_slice ho1; have HC1 := aM (Kd.R_reads' ho1).2.2; replace BK := aM (blk_below BK.out hb); replace B2 := aM (blk_below B2.out hb); replace B3 := aM (blk_below B3.out hb); replace RT := aM (Kd.R_below RT.out hb); replace RP := aM (Kd.R_below RP.out hb); replace HB := aM (below_step HB.out hb); clear ho1 hb hg_ hnew_ hz5 hz3 G5) | ((with_reducible refine gate_builtin (b := .append) (xs := #[.tmp 27, .tmp 32]) rfl ?_); at_builtin; refine Kd.R_append_rows (Kd.int .i32) (w0 := w) w.heap.size rfl (.tmp 27) (.tmp 32) 62 21 (.int .i32 0) 4 rfl Try.underlying62 info21 rfl (by decide) (by decide) (.slice Av xs.length cv) xs [tc, ts] _ _ _ (fun _ => True) (fun _ => False) rfl rfl ?aO ?aR (fun _ _ h => h) (fun _ h => h.elim) ?aF ?aB ?aS ?aL ?_; (case aR => exact HC1.out); (case aB => exact HB.out); (case aF => exact (fun _ _ => trivial)); (case aO => exact RT.out); (case aS => exact (below_size HB.out)); (case aL => have := HXL.out; simp; omega); intro v2 w9 ho hb hg hat; replace BK := aM (blk_grown BK.out hg (Kd.R_ne RT.out BK.out (by decide))); replace B2 := aM (blk_grown B2.out hg (Kd.R_ne RT.out B2.out (by decide))); replace B3 := aM (blk_grown B3.out hg (Kd.R_ne RT.out B3.out (by decide))); replace RP := aM (r_grownT RP.out RT.out hg (by decide)); obtain ⟨A2, c2_, rfl⟩ := Kd.R_slice ho; obtain ⟨nL, hnL⟩ : ∃ m_, (xs ++ [tc, ts]).length = m_ := ⟨_, rfl⟩; rw [hnL] at ho ⊢; replace RT := aM ho; replace HB := aM hb; clear ho hb hg hat hnL; have hz3 := bx9 B3.out))
   go_roundw
   case rel => exact ⟨n + 1, _, by go_num, ⟨q⟩, ⟨blk_far BK.out (p := ⟨g3, 7, none⟩) (blk_ne BK.out B3.out (by decide)) _⟩, ⟨blk_far B2.out (p := ⟨g3, 7, none⟩) NE.out _⟩, ⟨blk_put B3.out 7 _ rfl⟩, ⟨by rw [HTK.out]; exact r_aside RT.out B3.out (by decide) 7 _⟩, ⟨r_aside RP.out B3.out (by decide) 7 _⟩, ⟨HB.out.setCell (p := ⟨g3, 7, none⟩) GE3.out _⟩⟩
   case measure => simp [intOf]; omega
  ·
   have f1 : decide ((n : Int) < (l0_6.length : Int)) = false := decide_eq_false (by omega)
   have f2 : decide (n < l0_6.length) = false := decide_eq_false q
   obtain rfl : n = l0_6.length := by have := HJ.out; omega
   rw [List.take_length] at RT
   obtain ⟨lt, hlt⟩ : ∃ x_, l0_6.flatMap (fun t_ : S115 => [t_.f0, t_.f1]) = x_ := ⟨_, rfl⟩
   have HLT : Aside0 (refT l0_6 = lt) := ⟨hlt⟩
   rw [hlt] at RT
   obtain ⟨AT, cT, rfl⟩ := Kd.R_slice RT.out
   clear hlt HJ q
   have hz := bx15 BK.out
   go_wp2
   clear hz f1 f2
   go_loopw [39] (fun i_ W' => ∃ (n_ m_ c_ : Nat) (A_ : Option Addr) (rs_ : List (List Value)), i_ = .int .i64 n_ ∧ Aside0 (n_ ≤ l0_10.length ∧ m_ ≤ 1 + 9 * n_) ∧ Aside0 (W'.heap[gb]? = some (.cells #[.int .i64 a0_0, .int .i64 a0_1, .int .i64 a0_2, .int .i64 a0_3, .int .i64 a0_4, .int .i64 a0_5, .slice A0_6 l0_6.length c0_6, .int .i64 a0_7, .int .i64 a0_8, .slice A0_9 l0_9.length c0_9, .slice A0_10 l0_10.length c0_10, .slice A0_11 l0_11.length c0_11, .int .i64 a0_12, .int .i64 a0_13, .slice A0_14 l0_14.length c0_14] 67 (0, 0))) ∧ Aside0 (W'.heap[g2]? = some (.cells #[.int .i64 0, .int .i64 0, .int .i64 0, .int .i64 0, .int .i64 0, .int .i64 0, .int .i64 0, .slice none 0 0, .slice none 0 0] 73 (0, 0))) ∧ Aside0 (W'.heap[g3]? = some (.cells #[.int .i64 a0_0, .int .i64 a0_1, .int .i64 a0_2, .int .i64 a0_3, .int .i64 a0_4, .int .i64 a0_5, .int .i64 (l0_10.length : Int), .slice AT lt.length cT, .slice A_ m_ c_] 73 (0, 0))) ∧ Aside0 (Kd.R (Kd.int .i32) 21 W' w.heap.size (fun _ => True) (.slice AT lt.length cT) lt) ∧ Aside0 ((Kd.raw 3).R 111 W' w.heap.size (fun _ => True) (.slice A_ m_ c_) rs_) ∧ Aside0 (RowsP w rs_ ([⟨a0_7, a0_8, l0_9⟩] ++ (l0_10.take n_).flatMap layR)) ∧ Aside0 (Below w.heap.size w W')) (fun i_ _ => l0_10.length - (intOf i_).toNat)
   case atStart => exact ⟨0, _, _, _, _, rfl, ⟨Nat.zero_le _, Nat.le_refl _⟩, BK, B2, B3, RT, RP, ⟨by rw [List.take_zero, List.flatMap_nil, List.append_nil]; exact HW0.out⟩, HB⟩
   case round =>
    clear BK B2 B3 RT RP HB
    obtain ⟨n, mP, cP2, AP2, rs, rfl, HJ, BK, B2, B3, RT, RP, HRW, HB⟩ := hrel
    by_cases q : n < l0_10.length
    ·
     have f1 : decide ((n : Int) < (l0_10.length : Int)) = true := decide_eq_true (by omega)
     have f2 : decide (n < l0_10.length) = true := decide_eq_true q
     have hl64 := HR10.out.2.1
     have p0 : (0 : Int) ≤ (n : Int) := by omega
     have p1 : (n : Int) < (l0_10.length : Int) := by omega
     obtain ⟨x, hx⟩ : ∃ x_, l0_10[n]? = some x_ := ⟨_, List.getElem?_eq_getElem q⟩
     obtain ⟨ad, cs, he, hcl, hK, hcell⟩ := Kd.C_get HR10.out z120 (n : Int) p0 p1
     cases he
     have hgx : l0_10.getD (n : Int).toNat z120 = x := by rw [List.getD_eq_getElem?_getD, Int.toNat_natCast, hx]; rfl
     rw [hgx] at hK
     obtain ⟨E0, e0, E3, e3, E6, e6, E9, e9, E12, e12, E13, e13, E16, e16, E19, e19, E22, e22, rfl, l0, g0, l3, g3, l6, g6, l9, g9, l12, g12, l13, g13, l16, g16, l19, g19, l22, g22⟩ := k120_open hK
     have hce := fun (j : Nat) (v : Value) (h_ : _) => (HB.out.cell (World.block_lt_of_cell? w _ (hcell j v h_))).trans (hcell j v h_)
     clear hcell hcl hK hgx
     have HNINE : Aside0 (RowsP w [([.int .i64 0, .int .i64 0, .slice E0 x.f0.length e0] : List Value), ([.int .i64 x.f1.f0, .int .i64 x.f1.f1, .slice E3 x.f1.f2.length e3] : List Value), ([.int .i64 x.f2.f0, .int .i64 x.f2.f1, .slice E6 x.f2.f2.length e6] : List Value), ([.int .i64 x.f3.f0, .int .i64 x.f3.f1, .slice E9 x.f3.f2.length e9] : List Value), ([.int .i64 x.f4.f0, .int .i64 x.f4.f1, .slice E12 x.f4.f2.length e12] : List Value), ([.int .i64 0, .int .i64 0, .slice E13 x.f5.length e13] : List Value), ([.int .i64 x.f6.f0, .int .i64 x.f6.f1, .slice E16 x.f6.f2.length e16] : List Value), ([.int .i64 x.f7.f0, .int .i64 x.f7.f1, .slice E19 x.f7.f2.length e19] : List Value), ([.int .i64 x.f8.f0, .int .i64 x.f8.f1, .slice E22 x.f8.f2.length e22] : List Value)] (layR x)) := ⟨RowsP.cons (k111_mk w ⟨0, 0, x.f0⟩ l0 g0) (RowsP.cons (k111_mk w ⟨x.f1.f0, x.f1.f1, x.f1.f2⟩ l3 g3) (RowsP.cons (k111_mk w ⟨x.f2.f0, x.f2.f1, x.f2.f2⟩ l6 g6) (RowsP.cons (k111_mk w ⟨x.f3.f0, x.f3.f1, x.f3.f2⟩ l9 g9) (RowsP.cons (k111_mk w ⟨x.f4.f0, x.f4.f1, x.f4.f2⟩ l12 g12) (RowsP.cons (k111_mk w ⟨0, 0, x.f5⟩ l13 g13) (RowsP.cons (k111_mk w ⟨x.f6.f0, x.f6.f1, x.f6.f2⟩ l16 g16) (RowsP.cons (k111_mk w ⟨x.f7.f0, x.f7.f1, x.f7.f2⟩ l19 g19) (RowsP.cons (k111_mk w ⟨x.f8.f0, x.f8.f1, x.f8.f2⟩ l22 g22) (RowsP.nil w)))))))))⟩
     obtain ⟨L0, hL0⟩ : ∃ x_, x.f0 = x_ := ⟨_, rfl⟩
     obtain ⟨L3, hL3⟩ : ∃ x_, x.f1.f2 = x_ := ⟨_, rfl⟩
     obtain ⟨r3, hr3⟩ : ∃ x_, x.f1.f0 = x_ := ⟨_, rfl⟩
     obtain ⟨s3, hs3⟩ : ∃ x_, x.f1.f1 = x_ := ⟨_, rfl⟩
     obtain ⟨L6, hL6⟩ : ∃ x_, x.f2.f2 = x_ := ⟨_, rfl⟩
     obtain ⟨r6, hr6⟩ : ∃ x_, x.f2.f0 = x_ := ⟨_, rfl⟩
     obtain ⟨s6, hs6⟩ : ∃ x_, x.f2.f1 = x_ := ⟨_, rfl⟩
     obtain ⟨L9, hL9⟩ : ∃ x_, x.f3.f2 = x_ := ⟨_, rfl⟩
     obtain ⟨r9, hr9⟩ : ∃ x_, x.f3.f0 = x_ := ⟨_, rfl⟩
     obtain ⟨s9, hs9⟩ : ∃ x_, x.f3.f1 = x_ := ⟨_, rfl⟩
     obtain ⟨L12, hL12⟩ : ∃ x_, x.f4.f2 = x_ := ⟨_, rfl⟩
     obtain ⟨r12, hr12⟩ : ∃ x_, x.f4.f0 = x_ := ⟨_, rfl⟩
     obtain ⟨s12, hs12⟩ : ∃ x_, x.f4.f1 = x_ := ⟨_, rfl⟩
     obtain ⟨L13, hL13⟩ : ∃ x_, x.f5 = x_ := ⟨_, rfl⟩
     obtain ⟨L16, hL16⟩ : ∃ x_, x.f6.f2 = x_ := ⟨_, rfl⟩
     obtain ⟨r16, hr16⟩ : ∃ x_, x.f6.f0 = x_ := ⟨_, rfl⟩
     obtain ⟨s16, hs16⟩ : ∃ x_, x.f6.f1 = x_ := ⟨_, rfl⟩
     obtain ⟨L19, hL19⟩ : ∃ x_, x.f7.f2 = x_ := ⟨_, rfl⟩
     obtain ⟨r19, hr19⟩ : ∃ x_, x.f7.f0 = x_ := ⟨_, rfl⟩
     obtain ⟨s19, hs19⟩ : ∃ x_, x.f7.f1 = x_ := ⟨_, rfl⟩
     obtain ⟨L22, hL22⟩ : ∃ x_, x.f8.f2 = x_ := ⟨_, rfl⟩
     obtain ⟨r22, hr22⟩ : ∃ x_, x.f8.f0 = x_ := ⟨_, rfl⟩
     obtain ⟨s22, hs22⟩ : ∃ x_, x.f8.f1 = x_ := ⟨_, rfl⟩
     rw [hL0, hr3, hs3, hL3, hr6, hs6, hL6, hr9, hs9, hL9, hr12, hs12, hL12, hL13, hr16, hs16, hL16, hr19, hs19, hL19, hr22, hs22, hL22] at HNINE
     rw [hL0, hr3, hs3, hL3, hr6, hs6, hL6, hr9, hs9, hL9, hr12, hs12, hL12, hL13, hr16, hs16, hL16, hr19, hs19, hL19, hr22, hs22, hL22] at hce
     have HCE : Aside0 (∀ (j_ : Nat) (v_ : Value), ([.slice E0 L0.length e0, .int .i64 r3, .int .i64 s3, .slice E3 L3.length e3, .int .i64 r6, .int .i64 s6, .slice E6 L6.length e6, .int .i64 r9, .int .i64 s9, .slice E9 L9.length e9, .int .i64 r12, .int .i64 s12, .slice E12 L12.length e12, .slice E13 L13.length e13, .int .i64 r16, .int .i64 s16, .slice E16 L16.length e16, .int .i64 r19, .int .i64 s19, .slice E19 L19.length e19, .int .i64 r22, .int .i64 s22, .slice E22 L22.length e22] : List Value)[j_]? = some v_ → wr.cell? ((ad.add (n * 23)).add j_) = some v_) := ⟨fun j_ v_ h_ => by rw [add_add2]; exact hce j_ v_ h_⟩
     clear hce
     have HTK : Aside0 ((l0_10.take (n + 1)).flatMap layR = (l0_10.take n).flatMap layR ++ layR x) := ⟨fm_succ0 layR hx⟩
     clear hx l0 g0 l3 g3 l6 g6 l9 g9 l12 g12 l13 g13 l16 g16 l19 g19 l22 g22 hL0 hL3 hr3 hs3 hL6 hr6 hs6 hL9 hr9 hs9 hL12 hr12 hs12 hL13 hL16 hr16 hs16 hL19 hr19 hs19 hL22 hr22 hs22
     go_upto_region 10 with (first | ((with_reducible refine gate_dst (N := 42) rfl ?_); refine load_event ?hg (N := 42) ?hd 120 (.tmp 41) rfl (ad.add (n * 23)) ?hx [.slice E0 L0.length e0, .int .i64 r3, .int .i64 s3, .slice E3 L3.length e3, .int .i64 r6, .int .i64 s6, .slice E6 L6.length e6, .int .i64 r9, .int .i64 s9, .slice E9 L9.length e9, .int .i64 r12, .int .i64 s12, .slice E12 L12.length e12, .slice E13 L13.length e13, .int .i64 r16, .int .i64 s16, .slice E16 L16.length e16, .int .i64 r19, .int .i64 s19, .slice E19 L19.length e19, .int .i64 r22, .int .i64 s22, .slice E22 L22.length e22] HCE.out _ Try.underlying120 rfl (by kernel_rfl) ?_; (case hg => rfl); (case hd => rfl); (case hx => rfl)) | ((with_reducible refine gate_dst (N := 7) rfl ?_); refine box_event ?hg (N := 7) ?hd (cs := #[.slice none 0 0, .int .i64 0, .int .i64 0, .slice none 0 0, .int .i64 0, .int .i64 0, .slice none 0 0, .int .i64 0, .int .i64 0, .slice none 0 0, .int .i64 0, .int .i64 0, .slice none 0 0, .slice none 0 0, .int .i64 0, .int .i64 0, .slice none 0 0, .int .i64 0, .int .i64 0, .slice none 0 0, .int .i64 0, .int .i64 0, .slice none 0 0]) (t := 120) ?hr ?_; (case hd => rfl); (case hg => rfl); (case hr => first | (go_simp; done) | (go_simp; rfl)); intro g7 hg_ wb hbox hb; have G7 := aM hbox; have GE7 := aM (show wr.heap.size ≤ g7 by rw [hg_]; exact Nat.le_refl _); have HAL := aM hb; clear hbox hb hg_) | ((with_reducible refine gate_store (t := 120) (p := 7) (v := .tmp 42) rfl ?_); refine store_event ?hg ?hd 120 (.tmp 7) (.tmp 42) rfl g7 #[.slice E0 L0.length e0, .int .i64 r3, .int .i64 s3, .slice E3 L3.length e3, .int .i64 r6, .int .i64 s6, .slice E6 L6.length e6, .int .i64 r9, .int .i64 s9, .slice E9 L9.length e9, .int .i64 r12, .int .i64 s12, .slice E12 L12.length e12, .slice E13 L13.length e13, .int .i64 r16, .int .i64 s16, .slice E16 L16.length e16, .int .i64 r19, .int .i64 s19, .slice E19 L19.length e19, .int .i64 r22, .int .i64 s22, .slice E22 L22.length e22] ?hx ?hy 120 _ G7.out ?hi ?ho ?h1 ?_; (case hg => rfl); (case hd => rfl); (case hx => rfl); (case hy => rfl); (case hi => kernel_rfl); (case ho => rfl); (case h1 => simp [Value.oneCell']); intro wx hnew hal far_; replace G7 := aM hnew; replace HAL := aM (hal wr HAL.out GE7.out); clear hnew hal far_))
     clear HCE GE7
     replace BK := aM (blk_below BK.out HAL.out)
     replace B2 := aM (blk_below B2.out HAL.out)
     replace B3 := aM (blk_below B3.out HAL.out)
     replace RT := aM (Kd.R_below RT.out HAL.out)
     replace RP := aM (Kd.R_below RP.out HAL.out)
     replace HB := aM (below_step HB.out HAL.out)
     clear HAL
     simp only [Act.put, List.setIfInBounds_toArray, List.set_cons_zero, List.set_cons_succ]
     replace G7 := aM (blk_drew G7.out)
     replace BK := aM (blk_drew BK.out)
     replace B2 := aM (blk_drew B2.out)
     replace B3 := aM (blk_drew B3.out)
     replace RT := aM (Kd.R_drew RT.out)
     replace RP := aM (Kd.R_drew RP.out)
     replace HB := aM (HB.out.drew)
     refine start_ (n := 33) (S := fun w' => w'.cell? ⟨g7, 0, none⟩ = some (.slice E0 L0.length e0) ∧ w'.cell? ⟨g7, 1, none⟩ = some (.int .i64 r3) ∧ w'.cell? ⟨g7, 2, none⟩ = some (.int .i64 s3) ∧ w'.cell? ⟨g7, 3, none⟩ = some (.slice E3 L3.length e3) ∧ w'.cell? ⟨g7, 4, none⟩ = some (.int .i64 r6) ∧ w'.cell? ⟨g7, 5, none⟩ = some (.int .i64 s6) ∧ w'.cell? ⟨g7, 6, none⟩ = some (.slice E6 L6.length e6) ∧ w'.cell? ⟨g7, 7, none⟩ = some (.int .i64 r9) ∧ w'.cell? ⟨g7, 8, none⟩ = some (.int .i64 s9) ∧ w'.cell? ⟨g7, 9, none⟩ = some (.slice E9 L9.length e9) ∧ w'.cell? ⟨g7, 10, none⟩ = some (.int .i64 r12) ∧ w'.cell? ⟨g7, 11, none⟩ = some (.int .i64 s12) ∧ w'.cell? ⟨g7, 12, none⟩ = some (.slice E12 L12.length e12) ∧ w'.cell? ⟨g7, 13, none⟩ = some (.slice E13 L13.length e13) ∧ w'.cell? ⟨g7, 14, none⟩ = some (.int .i64 r16) ∧ w'.cell? ⟨g7, 15, none⟩ = some (.int .i64 s16) ∧ w'.cell? ⟨g7, 16, none⟩ = some (.slice E16 L16.length e16) ∧ w'.cell? ⟨g7, 17, none⟩ = some (.int .i64 r19) ∧ w'.cell? ⟨g7, 18, none⟩ = some (.int .i64 s19) ∧ w'.cell? ⟨g7, 19, none⟩ = some (.slice E19 L19.length e19) ∧ w'.cell? ⟨g7, 20, none⟩ = some (.int .i64 r22) ∧ w'.cell? ⟨g7, 21, none⟩ = some (.int .i64 s22) ∧ w'.cell? ⟨g7, 22, none⟩ = some (.slice E22 L22.length e22) ∧ w'.cell? ⟨g3, 8, none⟩ = some (.slice AP2 mP cP2)) (ds := [32]) #[false, false, false, false, false, false, false, false, false, false, false, false, false, false, false, false, false, false, false, false, false, false, false, false, false, false, false, false, false, false, false, false, false] (by kernel_rfl) rfl rfl ⟨((blk_cell G7.out 0).trans rfl), ((blk_cell G7.out 1).trans rfl), ((blk_cell G7.out 2).trans rfl), ((blk_cell G7.out 3).trans rfl), ((blk_cell G7.out 4).trans rfl), ((blk_cell G7.out 5).trans rfl), ((blk_cell G7.out 6).trans rfl), ((blk_cell G7.out 7).trans rfl), ((blk_cell G7.out 8).trans rfl), ((blk_cell G7.out 9).trans rfl), ((blk_cell G7.out 10).trans rfl), ((blk_cell G7.out 11).trans rfl), ((blk_cell G7.out 12).trans rfl), ((blk_cell G7.out 13).trans rfl), ((blk_cell G7.out 14).trans rfl), ((blk_cell G7.out 15).trans rfl), ((blk_cell G7.out 16).trans rfl), ((blk_cell G7.out 17).trans rfl), ((blk_cell G7.out 18).trans rfl), ((blk_cell G7.out 19).trans rfl), ((blk_cell G7.out 20).trans rfl), ((blk_cell G7.out 21).trans rfl), ((blk_cell G7.out 22).trans rfl), ((blk_cell B3.out 8).trans rfl)⟩ (fun hHeld => ?_); refine with_tabW brf2.tab10 brf2.bits10 (fun HT_ HW_ => ?_)
     generalize wx.drew = wy at G7 BK B2 B3 RT RP HB hHeld ⊢
     refine pure_ (i := 0) (N := some 43) (v := ?_) (a' := ?_) #[true, false, false, false, false, false, false, false, false, false, false, false, false, false, false, false, false, false, false, false, false, false, false, false, false, false, false, false, false, false, false, false, false] rfl rfl (any_of HT_.out (by kernel_rfl)) (fun _ _ _ h => h) (Or.inl ⟨by rfl, ?_⟩) ?_ ?_
     rotate_left; exact pI; rotate_left; exact pS
     refine pure_ (i := 2) (N := some 45) (v := ?_) (a' := ?_) #[true, false, true, false, false, false, false, false, false, false, false, false, false, false, false, false, false, false, false, false, false, false, false, false, false, false, false, false, false, false, false, false, false] rfl rfl (any_of HT_.out (by kernel_rfl)) (fun _ _ _ h => h) (Or.inl ⟨by rfl, ?_⟩) ?_ ?_
     rotate_left; exact pI; rotate_left; exact pS
     refine pure_ (i := 5) (N := some 48) (v := ?_) (a' := ?_) #[true, false, true, false, false, true, false, false, false, false, false, false, false, false, false, false, false, false, false, false, false, false, false, false, false, false, false, false, false, false, false, false, false] rfl rfl (any_of HT_.out (by kernel_rfl)) (fun _ _ _ h => h) (Or.inl ⟨by rfl, ?_⟩) ?_ ?_
     rotate_left; exact pI; rotate_left; exact pS
     refine pure_ (i := 8) (N := some 51) (v := ?_) (a' := ?_) #[true, false, true, false, false, true, false, false, true, false, false, false, false, false, false, false, false, false, false, false, false, false, false, false, false, false, false, false, false, false, false, false, false] rfl rfl (any_of HT_.out (by kernel_rfl)) (fun _ _ _ h => h) (Or.inl ⟨by rfl, ?_⟩) ?_ ?_
     rotate_left; exact pI; rotate_left; exact pS
     refine pure_ (i := 11) (N := some 54) (v := ?_) (a' := ?_) #[true, false, true, false, false, true, false, false, true, false, false, true, false, false, false, false, false, false, false, false, false, false, false, false, false, false, false, false, false, false, false, false, false] rfl rfl (any_of HT_.out (by kernel_rfl)) (fun _ _ _ h => h) (Or.inl ⟨by rfl, ?_⟩) ?_ ?_
     rotate_left; exact pI; rotate_left; exact pS
     refine pure_ (i := 14) (N := some 57) (v := ?_) (a' := ?_) #[true, false, true, false, false, true, false, false, true, false, false, true, false, false, true, false, false, false, false, false, false, false, false, false, false, false, false, false, false, false, false, false, false] rfl rfl (any_of HT_.out (by kernel_rfl)) (fun _ _ _ h => h) (Or.inl ⟨by rfl, ?_⟩) ?_ ?_
     rotate_left; exact pI; rotate_left; exact pS
     refine pure_ (i := 17) (N := some 60) (v := ?_) (a' := ?_) #[true, false, true, false, false, true, false, false, true, false, false, true, false, false, true, false, false, true, false, false, false, false, false, false, false, false, false, false, false, false, false, false, false] rfl rfl (any_of HT_.out (by kernel_rfl)) (fun _ _ _ h => h) (Or.inl ⟨by rfl, ?_⟩) ?_ ?_
     rotate_left; exact pI; rotate_left; exact pS
     refine pure_ (i := 20) (N := some 63) (v := ?_) (a' := ?_) #[true, false, true, false, false, true, false, false, true, false, false, true, false, false, true, false, false, true, false, false, true, false, false, false, false, false, false, false, false, false, false, false, false] rfl rfl (any_of HT_.out (by kernel_rfl)) (fun _ _ _ h => h) (Or.inl ⟨by rfl, ?_⟩) ?_ ?_
     rotate_left; exact pI; rotate_left; exact pS
     refine pure_ (i := 23) (N := some 66) (v := ?_) (a' := ?_) #[true, false, true, false, false, true, false, false, true, false, false, true, false, false, true, false, false, true, false, false, true, false, false, true, false, false, false, false, false, false, false, false, false] rfl rfl (any_of HT_.out (by kernel_rfl)) (fun _ _ _ h => h) (Or.inl ⟨by rfl, ?_⟩) ?_ ?_
     rotate_left; exact pI; rotate_left; exact pS
     refine pure_ (i := 26) (N := some 69) (v := ?_) (a' := ?_) #[true, false, true, false, false, true, false, false, true, false, false, true, false, false, true, false, false, true, false, false, true, false, false, true, false, false, true, false, false, false, false, false, false] rfl rfl (any_of HT_.out (by kernel_rfl)) (fun _ _ _ h => h) (Or.inl ⟨by rfl, ?_⟩) ?_ ?_
     rotate_left; exact pI; rotate_left; exact pS
     refine take_ (i := 1) (N := some 44) (v := ?_) (a' := ?_) #[true, true, true, false, false, true, false, false, true, false, false, true, false, false, true, false, false, true, false, false, true, false, false, true, false, false, true, false, false, false, false, false, false] rfl rfl (take_ofW HT_.out HW_.out (by kernel_rfl)) (fun _ _ _ h => h) (Or.inl ⟨by rfl, ?_⟩) hHeld ?_ ?_
     rotate_left
     ·
      rintro w' ⟨s0, s1, s2, s3, s4, s5, s6, s7, s8, s9, s10, s11, s12, s13, s14, s15, s16, s17, s18, s19, s20, s21, s22, s23⟩
      go_simp
      with_reducible rfl
     rotate_left
     ·
      exact pS
     refine take_ (i := 3) (N := some 46) (v := ?_) (a' := ?_) #[true, true, true, true, false, true, false, false, true, false, false, true, false, false, true, false, false, true, false, false, true, false, false, true, false, false, true, false, false, false, false, false, false] rfl rfl (take_ofW HT_.out HW_.out (by kernel_rfl)) (fun _ _ _ h => h) (Or.inl ⟨by rfl, ?_⟩) hHeld ?_ ?_
     rotate_left
     ·
      rintro w' ⟨s0, s1, s2, s3, s4, s5, s6, s7, s8, s9, s10, s11, s12, s13, s14, s15, s16, s17, s18, s19, s20, s21, s22, s23⟩
      go_simp
      with_reducible rfl
     rotate_left
     ·
      exact pS
     refine take_ (i := 6) (N := some 49) (v := ?_) (a' := ?_) #[true, true, true, true, false, true, true, false, true, false, false, true, false, false, true, false, false, true, false, false, true, false, false, true, false, false, true, false, false, false, false, false, false] rfl rfl (take_ofW HT_.out HW_.out (by kernel_rfl)) (fun _ _ _ h => h) (Or.inl ⟨by rfl, ?_⟩) hHeld ?_ ?_
     rotate_left
     ·
      rintro w' ⟨s0, s1, s2, s3, s4, s5, s6, s7, s8, s9, s10, s11, s12, s13, s14, s15, s16, s17, s18, s19, s20, s21, s22, s23⟩
      go_simp
      with_reducible rfl
     rotate_left
     ·
      exact pS
     refine take_ (i := 9) (N := some 52) (v := ?_) (a' := ?_) #[true, true, true, true, false, true, true, false, true, true, false, true, false, false, true, false, false, true, false, false, true, false, false, true, false, false, true, false, false, false, false, false, false] rfl rfl (take_ofW HT_.out HW_.out (by kernel_rfl)) (fun _ _ _ h => h) (Or.inl ⟨by rfl, ?_⟩) hHeld ?_ ?_
     rotate_left
     ·
      rintro w' ⟨s0, s1, s2, s3, s4, s5, s6, s7, s8, s9, s10, s11, s12, s13, s14, s15, s16, s17, s18, s19, s20, s21, s22, s23⟩
      go_simp
      with_reducible rfl
     rotate_left
     ·
      exact pS
     refine take_ (i := 12) (N := some 55) (v := ?_) (a' := ?_) #[true, true, true, true, false, true, true, false, true, true, false, true, true, false, true, false, false, true, false, false, true, false, false, true, false, false, true, false, false, false, false, false, false] rfl rfl (take_ofW HT_.out HW_.out (by kernel_rfl)) (fun _ _ _ h => h) (Or.inl ⟨by rfl, ?_⟩) hHeld ?_ ?_
     rotate_left
     ·
      rintro w' ⟨s0, s1, s2, s3, s4, s5, s6, s7, s8, s9, s10, s11, s12, s13, s14, s15, s16, s17, s18, s19, s20, s21, s22, s23⟩
      go_simp
      with_reducible rfl
     rotate_left
     ·
      exact pS
     refine take_ (i := 15) (N := some 58) (v := ?_) (a' := ?_) #[true, true, true, true, false, true, true, false, true, true, false, true, true, false, true, true, false, true, false, false, true, false, false, true, false, false, true, false, false, false, false, false, false] rfl rfl (take_ofW HT_.out HW_.out (by kernel_rfl)) (fun _ _ _ h => h) (Or.inl ⟨by rfl, ?_⟩) hHeld ?_ ?_
     rotate_left
     ·
      rintro w' ⟨s0, s1, s2, s3, s4, s5, s6, s7, s8, s9, s10, s11, s12, s13, s14, s15, s16, s17, s18, s19, s20, s21, s22, s23⟩
      go_simp
      with_reducible rfl
     rotate_left
     ·
      exact pS
     refine take_ (i := 18) (N := some 61) (v := ?_) (a' := ?_) #[true, true, true, true, false, true, true, false, true, true, false, true, true, false, true, true, false, true, true, false, true, false, false, true, false, false, true, false, false, false, false, false, false] rfl rfl (take_ofW HT_.out HW_.out (by kernel_rfl)) (fun _ _ _ h => h) (Or.inl ⟨by rfl, ?_⟩) hHeld ?_ ?_
     rotate_left
     ·
      rintro w' ⟨s0, s1, s2, s3, s4, s5, s6, s7, s8, s9, s10, s11, s12, s13, s14, s15, s16, s17, s18, s19, s20, s21, s22, s23⟩
      go_simp
      with_reducible rfl
     rotate_left
     ·
      exact pS
     refine take_ (i := 21) (N := some 64) (v := ?_) (a' := ?_) #[true, true, true, true, false, true, true, false, true, true, false, true, true, false, true, true, false, true, true, false, true, true, false, true, false, false, true, false, false, false, false, false, false] rfl rfl (take_ofW HT_.out HW_.out (by kernel_rfl)) (fun _ _ _ h => h) (Or.inl ⟨by rfl, ?_⟩) hHeld ?_ ?_
     rotate_left
     ·
      rintro w' ⟨s0, s1, s2, s3, s4, s5, s6, s7, s8, s9, s10, s11, s12, s13, s14, s15, s16, s17, s18, s19, s20, s21, s22, s23⟩
      go_simp
      with_reducible rfl
     rotate_left
     ·
      exact pS
     refine take_ (i := 24) (N := some 67) (v := ?_) (a' := ?_) #[true, true, true, true, false, true, true, false, true, true, false, true, true, false, true, true, false, true, true, false, true, true, false, true, true, false, true, false, false, false, false, false, false] rfl rfl (take_ofW HT_.out HW_.out (by kernel_rfl)) (fun _ _ _ h => h) (Or.inl ⟨by rfl, ?_⟩) hHeld ?_ ?_
     rotate_left
     ·
      rintro w' ⟨s0, s1, s2, s3, s4, s5, s6, s7, s8, s9, s10, s11, s12, s13, s14, s15, s16, s17, s18, s19, s20, s21, s22, s23⟩
      go_simp
      with_reducible rfl
     rotate_left
     ·
      exact pS
     refine take_ (i := 27) (N := some 70) (v := ?_) (a' := ?_) #[true, true, true, true, false, true, true, false, true, true, false, true, true, false, true, true, false, true, true, false, true, true, false, true, true, false, true, true, false, false, false, false, false] rfl rfl (take_ofW HT_.out HW_.out (by kernel_rfl)) (fun _ _ _ h => h) (Or.inl ⟨by rfl, ?_⟩) hHeld ?_ ?_
     rotate_left
     ·
      rintro w' ⟨s0, s1, s2, s3, s4, s5, s6, s7, s8, s9, s10, s11, s12, s13, s14, s15, s16, s17, s18, s19, s20, s21, s22, s23⟩
      go_simp
      with_reducible rfl
     rotate_left
     ·
      exact pS
     refine one_ (i := 4) (N := some 47) #[true, true, true, true, true, true, true, false, true, true, false, true, true, false, true, true, false, true, true, false, true, true, false, true, true, false, true, true, false, false, false, false, false] rfl rfl (one_of HT_.out (by kernel_rfl)) (by decide) (fun K hK => ?_)
     refine goes_ Try.func65 (by kernel_rfl) rfl #[.slice E0 L0.length e0] (by rfl) rfl rfl (by simp only [List.map_toArray, List.map_cons, List.map_nil]; rfl) ?_
     with_reducible refine (blist.calls E0 L0.length e0 _).mono ?_
     rintro e wc0 ⟨rfl, hb⟩
     refine ⟨_, rfl, ?_⟩
     replace G7 := aM (blk_below G7.out hb)
     replace BK := aM (blk_below BK.out hb)
     replace B2 := aM (blk_below B2.out hb)
     replace B3 := aM (blk_below B3.out hb)
     replace RT := aM (Kd.R_below RT.out hb)
     replace RP := aM (Kd.R_below RP.out hb)
     replace HB := aM (below_step HB.out hb)
     clear hb
     refine hK.out _ _ ⟨((blk_cell G7.out 0).trans rfl), ((blk_cell G7.out 1).trans rfl), ((blk_cell G7.out 2).trans rfl), ((blk_cell G7.out 3).trans rfl), ((blk_cell G7.out 4).trans rfl), ((blk_cell G7.out 5).trans rfl), ((blk_cell G7.out 6).trans rfl), ((blk_cell G7.out 7).trans rfl), ((blk_cell G7.out 8).trans rfl), ((blk_cell G7.out 9).trans rfl), ((blk_cell G7.out 10).trans rfl), ((blk_cell G7.out 11).trans rfl), ((blk_cell G7.out 12).trans rfl), ((blk_cell G7.out 13).trans rfl), ((blk_cell G7.out 14).trans rfl), ((blk_cell G7.out 15).trans rfl), ((blk_cell G7.out 16).trans rfl), ((blk_cell G7.out 17).trans rfl), ((blk_cell G7.out 18).trans rfl), ((blk_cell G7.out 19).trans rfl), ((blk_cell G7.out 20).trans rfl), ((blk_cell G7.out 21).trans rfl), ((blk_cell G7.out 22).trans rfl), ((blk_cell B3.out 8).trans rfl)⟩ (fun hHeld => ?_)
     clear hK K
     refine norm_ (a' := ?_) ?_ ?_
     rotate_left
     ·
      show Act.put _ (some 47) _ = _
      simp only [Act.put, List.setIfInBounds_toArray, List.set_cons_zero, List.set_cons_succ, i64_w, i32_w, IntKind.wrap_u32]
      rfl
     refine one_ (i := 7) (N := some 50) #[true, true, true, true, true, true, true, true, true, true, false, true, true, false, true, true, false, true, true, false, true, true, false, true, true, false, true, true, false, false, false, false, false] rfl rfl (one_of HT_.out (by kernel_rfl)) (by decide) (fun K hK => ?_)
     refine goes_ Try.func64 (by kernel_rfl) rfl #[.agg #[.int .i64 r3, .int .i64 s3, .slice E3 L3.length e3]] (by rfl) rfl rfl (by simp only [List.map_toArray, List.map_cons, List.map_nil]; rfl) ?_
     with_reducible refine (btable.calls r3 s3 E3 L3.length e3 _).mono ?_
     rintro e wc1 ⟨rfl, hb⟩
     refine ⟨_, rfl, ?_⟩
     replace G7 := aM (blk_below G7.out hb)
     replace BK := aM (blk_below BK.out hb)
     replace B2 := aM (blk_below B2.out hb)
     replace B3 := aM (blk_below B3.out hb)
     replace RT := aM (Kd.R_below RT.out hb)
     replace RP := aM (Kd.R_below RP.out hb)
     replace HB := aM (below_step HB.out hb)
     clear hb
     refine hK.out _ _ ⟨((blk_cell G7.out 0).trans rfl), ((blk_cell G7.out 1).trans rfl), ((blk_cell G7.out 2).trans rfl), ((blk_cell G7.out 3).trans rfl), ((blk_cell G7.out 4).trans rfl), ((blk_cell G7.out 5).trans rfl), ((blk_cell G7.out 6).trans rfl), ((blk_cell G7.out 7).trans rfl), ((blk_cell G7.out 8).trans rfl), ((blk_cell G7.out 9).trans rfl), ((blk_cell G7.out 10).trans rfl), ((blk_cell G7.out 11).trans rfl), ((blk_cell G7.out 12).trans rfl), ((blk_cell G7.out 13).trans rfl), ((blk_cell G7.out 14).trans rfl), ((blk_cell G7.out 15).trans rfl), ((blk_cell G7.out 16).trans rfl), ((blk_cell G7.out 17).trans rfl), ((blk_cell G7.out 18).trans rfl), ((blk_cell G7.out 19).trans rfl), ((blk_cell G7.out 20).trans rfl), ((blk_cell G7.out 21).trans rfl), ((blk_cell G7.out 22).trans rfl), ((blk_cell B3.out 8).trans rfl)⟩ (fun hHeld => ?_)
     clear hK K
     refine norm_ (a' := ?_) ?_ ?_
     rotate_left
     ·
      show Act.put _ (some 50) _ = _
      simp only [Act.put, List.setIfInBounds_toArray, List.set_cons_zero, List.set_cons_succ, i64_w, i32_w, IntKind.wrap_u32]
      rfl
     refine one_ (i := 10) (N := some 53) #[true, true, true, true, true, true, true, true, true, true, true, true, true, false, true, true, false, true, true, false, true, true, false, true, true, false, true, true, false, false, false, false, false] rfl rfl (one_of HT_.out (by kernel_rfl)) (by decide) (fun K hK => ?_)
     refine goes_ Try.func64 (by kernel_rfl) rfl #[.agg #[.int .i64 r6, .int .i64 s6, .slice E6 L6.length e6]] (by rfl) rfl rfl (by simp only [List.map_toArray, List.map_cons, List.map_nil]; rfl) ?_
     with_reducible refine (btable.calls r6 s6 E6 L6.length e6 _).mono ?_
     rintro e wc2 ⟨rfl, hb⟩
     refine ⟨_, rfl, ?_⟩
     replace G7 := aM (blk_below G7.out hb)
     replace BK := aM (blk_below BK.out hb)
     replace B2 := aM (blk_below B2.out hb)
     replace B3 := aM (blk_below B3.out hb)
     replace RT := aM (Kd.R_below RT.out hb)
     replace RP := aM (Kd.R_below RP.out hb)
     replace HB := aM (below_step HB.out hb)
     clear hb
     refine hK.out _ _ ⟨((blk_cell G7.out 0).trans rfl), ((blk_cell G7.out 1).trans rfl), ((blk_cell G7.out 2).trans rfl), ((blk_cell G7.out 3).trans rfl), ((blk_cell G7.out 4).trans rfl), ((blk_cell G7.out 5).trans rfl), ((blk_cell G7.out 6).trans rfl), ((blk_cell G7.out 7).trans rfl), ((blk_cell G7.out 8).trans rfl), ((blk_cell G7.out 9).trans rfl), ((blk_cell G7.out 10).trans rfl), ((blk_cell G7.out 11).trans rfl), ((blk_cell G7.out 12).trans rfl), ((blk_cell G7.out 13).trans rfl), ((blk_cell G7.out 14).trans rfl), ((blk_cell G7.out 15).trans rfl), ((blk_cell G7.out 16).trans rfl), ((blk_cell G7.out 17).trans rfl), ((blk_cell G7.out 18).trans rfl), ((blk_cell G7.out 19).trans rfl), ((blk_cell G7.out 20).trans rfl), ((blk_cell G7.out 21).trans rfl), ((blk_cell G7.out 22).trans rfl), ((blk_cell B3.out 8).trans rfl)⟩ (fun hHeld => ?_)
     clear hK K
     refine norm_ (a' := ?_) ?_ ?_
     rotate_left
     ·
      show Act.put _ (some 53) _ = _
      simp only [Act.put, List.setIfInBounds_toArray, List.set_cons_zero, List.set_cons_succ, i64_w, i32_w, IntKind.wrap_u32]
      rfl
     refine one_ (i := 13) (N := some 56) #[true, true, true, true, true, true, true, true, true, true, true, true, true, true, true, true, false, true, true, false, true, true, false, true, true, false, true, true, false, false, false, false, false] rfl rfl (one_of HT_.out (by kernel_rfl)) (by decide) (fun K hK => ?_)
     refine goes_ Try.func64 (by kernel_rfl) rfl #[.agg #[.int .i64 r9, .int .i64 s9, .slice E9 L9.length e9]] (by rfl) rfl rfl (by simp only [List.map_toArray, List.map_cons, List.map_nil]; rfl) ?_
     with_reducible refine (btable.calls r9 s9 E9 L9.length e9 _).mono ?_
     rintro e wc3 ⟨rfl, hb⟩
     refine ⟨_, rfl, ?_⟩
     replace G7 := aM (blk_below G7.out hb)
     replace BK := aM (blk_below BK.out hb)
     replace B2 := aM (blk_below B2.out hb)
     replace B3 := aM (blk_below B3.out hb)
     replace RT := aM (Kd.R_below RT.out hb)
     replace RP := aM (Kd.R_below RP.out hb)
     replace HB := aM (below_step HB.out hb)
     clear hb
     refine hK.out _ _ ⟨((blk_cell G7.out 0).trans rfl), ((blk_cell G7.out 1).trans rfl), ((blk_cell G7.out 2).trans rfl), ((blk_cell G7.out 3).trans rfl), ((blk_cell G7.out 4).trans rfl), ((blk_cell G7.out 5).trans rfl), ((blk_cell G7.out 6).trans rfl), ((blk_cell G7.out 7).trans rfl), ((blk_cell G7.out 8).trans rfl), ((blk_cell G7.out 9).trans rfl), ((blk_cell G7.out 10).trans rfl), ((blk_cell G7.out 11).trans rfl), ((blk_cell G7.out 12).trans rfl), ((blk_cell G7.out 13).trans rfl), ((blk_cell G7.out 14).trans rfl), ((blk_cell G7.out 15).trans rfl), ((blk_cell G7.out 16).trans rfl), ((blk_cell G7.out 17).trans rfl), ((blk_cell G7.out 18).trans rfl), ((blk_cell G7.out 19).trans rfl), ((blk_cell G7.out 20).trans rfl), ((blk_cell G7.out 21).trans rfl), ((blk_cell G7.out 22).trans rfl), ((blk_cell B3.out 8).trans rfl)⟩ (fun hHeld => ?_)
     clear hK K
     refine norm_ (a' := ?_) ?_ ?_
     rotate_left
     ·
      show Act.put _ (some 56) _ = _
      simp only [Act.put, List.setIfInBounds_toArray, List.set_cons_zero, List.set_cons_succ, i64_w, i32_w, IntKind.wrap_u32]
      rfl
     refine one_ (i := 16) (N := some 59) #[true, true, true, true, true, true, true, true, true, true, true, true, true, true, true, true, true, true, true, false, true, true, false, true, true, false, true, true, false, false, false, false, false] rfl rfl (one_of HT_.out (by kernel_rfl)) (by decide) (fun K hK => ?_)
     refine goes_ Try.func64 (by kernel_rfl) rfl #[.agg #[.int .i64 r12, .int .i64 s12, .slice E12 L12.length e12]] (by rfl) rfl rfl (by simp only [List.map_toArray, List.map_cons, List.map_nil]; rfl) ?_
     with_reducible refine (btable.calls r12 s12 E12 L12.length e12 _).mono ?_
     rintro e wc4 ⟨rfl, hb⟩
     refine ⟨_, rfl, ?_⟩
     replace G7 := aM (blk_below G7.out hb)
     replace BK := aM (blk_below BK.out hb)
     replace B2 := aM (blk_below B2.out hb)
     replace B3 := aM (blk_below B3.out hb)
     replace RT := aM (Kd.R_below RT.out hb)
     replace RP := aM (Kd.R_below RP.out hb)
     replace HB := aM (below_step HB.out hb)
     clear hb
     refine hK.out _ _ ⟨((blk_cell G7.out 0).trans rfl), ((blk_cell G7.out 1).trans rfl), ((blk_cell G7.out 2).trans rfl), ((blk_cell G7.out 3).trans rfl), ((blk_cell G7.out 4).trans rfl), ((blk_cell G7.out 5).trans rfl), ((blk_cell G7.out 6).trans rfl), ((blk_cell G7.out 7).trans rfl), ((blk_cell G7.out 8).trans rfl), ((blk_cell G7.out 9).trans rfl), ((blk_cell G7.out 10).trans rfl), ((blk_cell G7.out 11).trans rfl), ((blk_cell G7.out 12).trans rfl), ((blk_cell G7.out 13).trans rfl), ((blk_cell G7.out 14).trans rfl), ((blk_cell G7.out 15).trans rfl), ((blk_cell G7.out 16).trans rfl), ((blk_cell G7.out 17).trans rfl), ((blk_cell G7.out 18).trans rfl), ((blk_cell G7.out 19).trans rfl), ((blk_cell G7.out 20).trans rfl), ((blk_cell G7.out 21).trans rfl), ((blk_cell G7.out 22).trans rfl), ((blk_cell B3.out 8).trans rfl)⟩ (fun hHeld => ?_)
     clear hK K
     refine norm_ (a' := ?_) ?_ ?_
     rotate_left
     ·
      show Act.put _ (some 59) _ = _
      simp only [Act.put, List.setIfInBounds_toArray, List.set_cons_zero, List.set_cons_succ, i64_w, i32_w, IntKind.wrap_u32]
      rfl
     refine one_ (i := 19) (N := some 62) #[true, true, true, true, true, true, true, true, true, true, true, true, true, true, true, true, true, true, true, true, true, true, false, true, true, false, true, true, false, false, false, false, false] rfl rfl (one_of HT_.out (by kernel_rfl)) (by decide) (fun K hK => ?_)
     refine goes_ Try.func65 (by kernel_rfl) rfl #[.slice E13 L13.length e13] (by rfl) rfl rfl (by simp only [List.map_toArray, List.map_cons, List.map_nil]; rfl) ?_
     with_reducible refine (blist.calls E13 L13.length e13 _).mono ?_
     rintro e wc5 ⟨rfl, hb⟩
     refine ⟨_, rfl, ?_⟩
     replace G7 := aM (blk_below G7.out hb)
     replace BK := aM (blk_below BK.out hb)
     replace B2 := aM (blk_below B2.out hb)
     replace B3 := aM (blk_below B3.out hb)
     replace RT := aM (Kd.R_below RT.out hb)
     replace RP := aM (Kd.R_below RP.out hb)
     replace HB := aM (below_step HB.out hb)
     clear hb
     refine hK.out _ _ ⟨((blk_cell G7.out 0).trans rfl), ((blk_cell G7.out 1).trans rfl), ((blk_cell G7.out 2).trans rfl), ((blk_cell G7.out 3).trans rfl), ((blk_cell G7.out 4).trans rfl), ((blk_cell G7.out 5).trans rfl), ((blk_cell G7.out 6).trans rfl), ((blk_cell G7.out 7).trans rfl), ((blk_cell G7.out 8).trans rfl), ((blk_cell G7.out 9).trans rfl), ((blk_cell G7.out 10).trans rfl), ((blk_cell G7.out 11).trans rfl), ((blk_cell G7.out 12).trans rfl), ((blk_cell G7.out 13).trans rfl), ((blk_cell G7.out 14).trans rfl), ((blk_cell G7.out 15).trans rfl), ((blk_cell G7.out 16).trans rfl), ((blk_cell G7.out 17).trans rfl), ((blk_cell G7.out 18).trans rfl), ((blk_cell G7.out 19).trans rfl), ((blk_cell G7.out 20).trans rfl), ((blk_cell G7.out 21).trans rfl), ((blk_cell G7.out 22).trans rfl), ((blk_cell B3.out 8).trans rfl)⟩ (fun hHeld => ?_)
     clear hK K
     refine norm_ (a' := ?_) ?_ ?_
     rotate_left
     ·
      show Act.put _ (some 62) _ = _
      simp only [Act.put, List.setIfInBounds_toArray, List.set_cons_zero, List.set_cons_succ, i64_w, i32_w, IntKind.wrap_u32]
      rfl
     refine one_ (i := 22) (N := some 65) #[true, true, true, true, true, true, true, true, true, true, true, true, true, true, true, true, true, true, true, true, true, true, true, true, true, false, true, true, false, false, false, false, false] rfl rfl (one_of HT_.out (by kernel_rfl)) (by decide) (fun K hK => ?_)
     refine goes_ Try.func64 (by kernel_rfl) rfl #[.agg #[.int .i64 r16, .int .i64 s16, .slice E16 L16.length e16]] (by rfl) rfl rfl (by simp only [List.map_toArray, List.map_cons, List.map_nil]; rfl) ?_
     with_reducible refine (btable.calls r16 s16 E16 L16.length e16 _).mono ?_
     rintro e wc6 ⟨rfl, hb⟩
     refine ⟨_, rfl, ?_⟩
     replace G7 := aM (blk_below G7.out hb)
     replace BK := aM (blk_below BK.out hb)
     replace B2 := aM (blk_below B2.out hb)
     replace B3 := aM (blk_below B3.out hb)
     replace RT := aM (Kd.R_below RT.out hb)
     replace RP := aM (Kd.R_below RP.out hb)
     replace HB := aM (below_step HB.out hb)
     clear hb
     refine hK.out _ _ ⟨((blk_cell G7.out 0).trans rfl), ((blk_cell G7.out 1).trans rfl), ((blk_cell G7.out 2).trans rfl), ((blk_cell G7.out 3).trans rfl), ((blk_cell G7.out 4).trans rfl), ((blk_cell G7.out 5).trans rfl), ((blk_cell G7.out 6).trans rfl), ((blk_cell G7.out 7).trans rfl), ((blk_cell G7.out 8).trans rfl), ((blk_cell G7.out 9).trans rfl), ((blk_cell G7.out 10).trans rfl), ((blk_cell G7.out 11).trans rfl), ((blk_cell G7.out 12).trans rfl), ((blk_cell G7.out 13).trans rfl), ((blk_cell G7.out 14).trans rfl), ((blk_cell G7.out 15).trans rfl), ((blk_cell G7.out 16).trans rfl), ((blk_cell G7.out 17).trans rfl), ((blk_cell G7.out 18).trans rfl), ((blk_cell G7.out 19).trans rfl), ((blk_cell G7.out 20).trans rfl), ((blk_cell G7.out 21).trans rfl), ((blk_cell G7.out 22).trans rfl), ((blk_cell B3.out 8).trans rfl)⟩ (fun hHeld => ?_)
     clear hK K
     refine norm_ (a' := ?_) ?_ ?_
     rotate_left
     ·
      show Act.put _ (some 65) _ = _
      simp only [Act.put, List.setIfInBounds_toArray, List.set_cons_zero, List.set_cons_succ, i64_w, i32_w, IntKind.wrap_u32]
      rfl
     refine one_ (i := 25) (N := some 68) #[true, true, true, true, true, true, true, true, true, true, true, true, true, true, true, true, true, true, true, true, true, true, true, true, true, true, true, true, false, false, false, false, false] rfl rfl (one_of HT_.out (by kernel_rfl)) (by decide) (fun K hK => ?_)
     refine goes_ Try.func64 (by kernel_rfl) rfl #[.agg #[.int .i64 r19, .int .i64 s19, .slice E19 L19.length e19]] (by rfl) rfl rfl (by simp only [List.map_toArray, List.map_cons, List.map_nil]; rfl) ?_
     with_reducible refine (btable.calls r19 s19 E19 L19.length e19 _).mono ?_
     rintro e wc7 ⟨rfl, hb⟩
     refine ⟨_, rfl, ?_⟩
     replace G7 := aM (blk_below G7.out hb)
     replace BK := aM (blk_below BK.out hb)
     replace B2 := aM (blk_below B2.out hb)
     replace B3 := aM (blk_below B3.out hb)
     replace RT := aM (Kd.R_below RT.out hb)
     replace RP := aM (Kd.R_below RP.out hb)
     replace HB := aM (below_step HB.out hb)
     clear hb
     refine hK.out _ _ ⟨((blk_cell G7.out 0).trans rfl), ((blk_cell G7.out 1).trans rfl), ((blk_cell G7.out 2).trans rfl), ((blk_cell G7.out 3).trans rfl), ((blk_cell G7.out 4).trans rfl), ((blk_cell G7.out 5).trans rfl), ((blk_cell G7.out 6).trans rfl), ((blk_cell G7.out 7).trans rfl), ((blk_cell G7.out 8).trans rfl), ((blk_cell G7.out 9).trans rfl), ((blk_cell G7.out 10).trans rfl), ((blk_cell G7.out 11).trans rfl), ((blk_cell G7.out 12).trans rfl), ((blk_cell G7.out 13).trans rfl), ((blk_cell G7.out 14).trans rfl), ((blk_cell G7.out 15).trans rfl), ((blk_cell G7.out 16).trans rfl), ((blk_cell G7.out 17).trans rfl), ((blk_cell G7.out 18).trans rfl), ((blk_cell G7.out 19).trans rfl), ((blk_cell G7.out 20).trans rfl), ((blk_cell G7.out 21).trans rfl), ((blk_cell G7.out 22).trans rfl), ((blk_cell B3.out 8).trans rfl)⟩ (fun hHeld => ?_)
     clear hK K
     refine norm_ (a' := ?_) ?_ ?_
     rotate_left
     ·
      show Act.put _ (some 68) _ = _
      simp only [Act.put, List.setIfInBounds_toArray, List.set_cons_zero, List.set_cons_succ, i64_w, i32_w, IntKind.wrap_u32]
      rfl
     refine one_ (i := 28) (N := some 71) #[true, true, true, true, true, true, true, true, true, true, true, true, true, true, true, true, true, true, true, true, true, true, true, true, true, true, true, true, true, false, false, false, false] rfl rfl (one_of HT_.out (by kernel_rfl)) (by decide) (fun K hK => ?_)
     refine goes_ Try.func64 (by kernel_rfl) rfl #[.agg #[.int .i64 r22, .int .i64 s22, .slice E22 L22.length e22]] (by rfl) rfl rfl (by simp only [List.map_toArray, List.map_cons, List.map_nil]; rfl) ?_
     with_reducible refine (btable.calls r22 s22 E22 L22.length e22 _).mono ?_
     rintro e wc8 ⟨rfl, hb⟩
     refine ⟨_, rfl, ?_⟩
     replace G7 := aM (blk_below G7.out hb)
     replace BK := aM (blk_below BK.out hb)
     replace B2 := aM (blk_below B2.out hb)
     replace B3 := aM (blk_below B3.out hb)
     replace RT := aM (Kd.R_below RT.out hb)
     replace RP := aM (Kd.R_below RP.out hb)
     replace HB := aM (below_step HB.out hb)
     clear hb
     refine hK.out _ _ ⟨((blk_cell G7.out 0).trans rfl), ((blk_cell G7.out 1).trans rfl), ((blk_cell G7.out 2).trans rfl), ((blk_cell G7.out 3).trans rfl), ((blk_cell G7.out 4).trans rfl), ((blk_cell G7.out 5).trans rfl), ((blk_cell G7.out 6).trans rfl), ((blk_cell G7.out 7).trans rfl), ((blk_cell G7.out 8).trans rfl), ((blk_cell G7.out 9).trans rfl), ((blk_cell G7.out 10).trans rfl), ((blk_cell G7.out 11).trans rfl), ((blk_cell G7.out 12).trans rfl), ((blk_cell G7.out 13).trans rfl), ((blk_cell G7.out 14).trans rfl), ((blk_cell G7.out 15).trans rfl), ((blk_cell G7.out 16).trans rfl), ((blk_cell G7.out 17).trans rfl), ((blk_cell G7.out 18).trans rfl), ((blk_cell G7.out 19).trans rfl), ((blk_cell G7.out 20).trans rfl), ((blk_cell G7.out 21).trans rfl), ((blk_cell G7.out 22).trans rfl), ((blk_cell B3.out 8).trans rfl)⟩ (fun hHeld => ?_)
     clear hK K
     refine norm_ (a' := ?_) ?_ ?_
     rotate_left
     ·
      show Act.put _ (some 71) _ = _
      simp only [Act.put, List.setIfInBounds_toArray, List.set_cons_zero, List.set_cons_succ, i64_w, i32_w, IntKind.wrap_u32]
      rfl
     refine one_ (i := 29) (N := some 72) #[true, true, true, true, true, true, true, true, true, true, true, true, true, true, true, true, true, true, true, true, true, true, true, true, true, true, true, true, true, true, false, false, false] rfl rfl (one_of HT_.out (by kernel_rfl)) (by decide) (fun K hK => ?_)
     refine Kd.R_lit_step (Kd.raw 3) _ 111 (by rfl) rfl (xs := [([.int .i64 0, .int .i64 0, .slice E0 L0.length e0] : List Value), ([.int .i64 r3, .int .i64 s3, .slice E3 L3.length e3] : List Value), ([.int .i64 r6, .int .i64 s6, .slice E6 L6.length e6] : List Value), ([.int .i64 r9, .int .i64 s9, .slice E9 L9.length e9] : List Value), ([.int .i64 r12, .int .i64 s12, .slice E12 L12.length e12] : List Value), ([.int .i64 0, .int .i64 0, .slice E13 L13.length e13] : List Value), ([.int .i64 r16, .int .i64 s16, .slice E16 L16.length e16] : List Value), ([.int .i64 r19, .int .i64 s19, .slice E19 L19.length e19] : List Value), ([.int .i64 r22, .int .i64 s22, .slice E22 L22.length e22] : List Value)]) (inner := [.int .i64 0, .int .i64 0, .slice E0 L0.length e0, .int .i64 r3, .int .i64 s3, .slice E3 L3.length e3, .int .i64 r6, .int .i64 s6, .slice E6 L6.length e6, .int .i64 r9, .int .i64 s9, .slice E9 L9.length e9, .int .i64 r12, .int .i64 s12, .slice E12 L12.length e12, .int .i64 0, .int .i64 0, .slice E13 L13.length e13, .int .i64 r16, .int .i64 s16, .slice E16 L16.length e16, .int .i64 r19, .int .i64 s19, .slice E19 L19.length e19, .int .i64 r22, .int .i64 s22, .slice E22 L22.length e22]) (ok := fun _ => True) (okp := fun _ => True) ?hr ?hp (fun _ hk => hk) trivial (Below.refl _ _) (Nat.le_refl _) (by simp) ?_
     (case hr => first | (go_simp; done) | (go_simp; rfl))
     (case hp => exact (Reps.c3 ⟨rfl, rfl, by simp [Value.oneCell']⟩ (Reps.c3 ⟨rfl, rfl, by simp [Value.oneCell']⟩ (Reps.c3 ⟨rfl, rfl, by simp [Value.oneCell']⟩ (Reps.c3 ⟨rfl, rfl, by simp [Value.oneCell']⟩ (Reps.c3 ⟨rfl, rfl, by simp [Value.oneCell']⟩ (Reps.c3 ⟨rfl, rfl, by simp [Value.oneCell']⟩ (Reps.c3 ⟨rfl, rfl, by simp [Value.oneCell']⟩ (Reps.c3 ⟨rfl, rfl, by simp [Value.oneCell']⟩ (Reps.c3 ⟨rfl, rfl, by simp [Value.oneCell']⟩ (Reps.none _ _)))))))))))
     intro vl wl ho hb hg hat
     replace G7 := aM (blk_below G7.out hb)
     replace BK := aM (blk_below BK.out hb)
     replace B2 := aM (blk_below B2.out hb)
     replace B3 := aM (blk_below B3.out hb)
     replace RT := aM (Kd.R_below RT.out hb)
     replace RP := aM (Kd.R_below RP.out hb)
     replace HB := aM (below_step HB.out hb)
     obtain ⟨AL, cL, rfl⟩ : ∃ A c, vl = .slice A 9 c := Kd.R_slice ho
     have HC9L := aM (Kd.R_reads' ho).2.2
     clear ho hb hg hat
     refine hK.out _ _ ⟨((blk_cell G7.out 0).trans rfl), ((blk_cell G7.out 1).trans rfl), ((blk_cell G7.out 2).trans rfl), ((blk_cell G7.out 3).trans rfl), ((blk_cell G7.out 4).trans rfl), ((blk_cell G7.out 5).trans rfl), ((blk_cell G7.out 6).trans rfl), ((blk_cell G7.out 7).trans rfl), ((blk_cell G7.out 8).trans rfl), ((blk_cell G7.out 9).trans rfl), ((blk_cell G7.out 10).trans rfl), ((blk_cell G7.out 11).trans rfl), ((blk_cell G7.out 12).trans rfl), ((blk_cell G7.out 13).trans rfl), ((blk_cell G7.out 14).trans rfl), ((blk_cell G7.out 15).trans rfl), ((blk_cell G7.out 16).trans rfl), ((blk_cell G7.out 17).trans rfl), ((blk_cell G7.out 18).trans rfl), ((blk_cell G7.out 19).trans rfl), ((blk_cell G7.out 20).trans rfl), ((blk_cell G7.out 21).trans rfl), ((blk_cell G7.out 22).trans rfl), ((blk_cell B3.out 8).trans rfl)⟩ (fun hHeld => ?_)
     clear hK K
     refine norm_ (a' := ?_) ?_ ?_
     rotate_left
     ·
      show Act.put _ (some 72) _ = _
      simp only [Act.put, List.setIfInBounds_toArray, List.set_cons_zero, List.set_cons_succ, i64_w, i32_w, IntKind.wrap_u32]
      rfl
     refine one_ (i := 30) (N := some 73) #[true, true, true, true, true, true, true, true, true, true, true, true, true, true, true, true, true, true, true, true, true, true, true, true, true, true, true, true, true, true, true, false, false] rfl rfl (one_of HT_.out (by kernel_rfl)) (by decide) (fun K hK => ?_)
     refine raw_append_big 3 (w0 := w) w.heap.size (by rfl) (.tmp 44) (.tmp 72) 71 111 (.agg #[.int .i64 0, .int .i64 0, .slice none 0 0]) 40 rfl Try.underlying71 info111 rfl (by decide) (by decide) (by decide) (.slice AP2 mP cP2) rs [([.int .i64 0, .int .i64 0, .slice E0 L0.length e0] : List Value), ([.int .i64 r3, .int .i64 s3, .slice E3 L3.length e3] : List Value), ([.int .i64 r6, .int .i64 s6, .slice E6 L6.length e6] : List Value), ([.int .i64 r9, .int .i64 s9, .slice E9 L9.length e9] : List Value), ([.int .i64 r12, .int .i64 s12, .slice E12 L12.length e12] : List Value), ([.int .i64 0, .int .i64 0, .slice E13 L13.length e13] : List Value), ([.int .i64 r16, .int .i64 s16, .slice E16 L16.length e16] : List Value), ([.int .i64 r19, .int .i64 s19, .slice E19 L19.length e19] : List Value), ([.int .i64 r22, .int .i64 s22, .slice E22 L22.length e22] : List Value)] _ _ _ rfl rfl ?aO ?aR ?aB ?aS (by decide) ?aL ?_
     (case aR => exact HC9L.out)
     (case aB => exact HB.out)
     (case aO => exact RP.out)
     (case aS => exact (below_size HB.out))
     (case aL => have h1_ := (Kd.R_reads' RP.out).1; have h2_ := HJ.out; have h3_ := H10.out; omega)
     intro vA wA ho hb hg hat
     replace BK := aM (blk_grown BK.out hg (Kd.R_ne RP.out BK.out (by decide)))
     replace B2 := aM (blk_grown B2.out hg (Kd.R_ne RP.out B2.out (by decide)))
     replace B3 := aM (blk_grown B3.out hg (Kd.R_ne RP.out B3.out (by decide)))
     replace G7 := aM (blk_grown G7.out hg (Kd.R_ne RP.out G7.out (by decide)))
     replace RT := aM (r_grownT RT.out RP.out hg (by decide))
     have HLR := aM (Kd.R_reads' RP.out).1
     obtain ⟨A3, nP, c3_, hnP, rfl⟩ : ∃ A n c, n = (rs ++ [([.int .i64 0, .int .i64 0, .slice E0 L0.length e0] : List Value), ([.int .i64 r3, .int .i64 s3, .slice E3 L3.length e3] : List Value), ([.int .i64 r6, .int .i64 s6, .slice E6 L6.length e6] : List Value), ([.int .i64 r9, .int .i64 s9, .slice E9 L9.length e9] : List Value), ([.int .i64 r12, .int .i64 s12, .slice E12 L12.length e12] : List Value), ([.int .i64 0, .int .i64 0, .slice E13 L13.length e13] : List Value), ([.int .i64 r16, .int .i64 s16, .slice E16 L16.length e16] : List Value), ([.int .i64 r19, .int .i64 s19, .slice E19 L19.length e19] : List Value), ([.int .i64 r22, .int .i64 s22, .slice E22 L22.length e22] : List Value)]).length ∧ vA = .slice A n c := by obtain ⟨A, c, e⟩ := Kd.R_slice ho; exact ⟨A, _, c, rfl, e⟩
     have HNP := aM (show nP = rs.length + 9 from hnP.trans List.length_append)
     replace RP := aM ho
     replace HB := aM hb
     clear ho hb hg hat hnP HC9L
     refine hK.out _ _ ⟨((blk_cell G7.out 0).trans rfl), ((blk_cell G7.out 1).trans rfl), ((blk_cell G7.out 2).trans rfl), ((blk_cell G7.out 3).trans rfl), ((blk_cell G7.out 4).trans rfl), ((blk_cell G7.out 5).trans rfl), ((blk_cell G7.out 6).trans rfl), ((blk_cell G7.out 7).trans rfl), ((blk_cell G7.out 8).trans rfl), ((blk_cell G7.out 9).trans rfl), ((blk_cell G7.out 10).trans rfl), ((blk_cell G7.out 11).trans rfl), ((blk_cell G7.out 12).trans rfl), ((blk_cell G7.out 13).trans rfl), ((blk_cell G7.out 14).trans rfl), ((blk_cell G7.out 15).trans rfl), ((blk_cell G7.out 16).trans rfl), ((blk_cell G7.out 17).trans rfl), ((blk_cell G7.out 18).trans rfl), ((blk_cell G7.out 19).trans rfl), ((blk_cell G7.out 20).trans rfl), ((blk_cell G7.out 21).trans rfl), ((blk_cell G7.out 22).trans rfl), ((blk_cell B3.out 8).trans rfl)⟩ (fun hHeld => ?_)
     clear hK K
     refine norm_ (a' := ?_) ?_ ?_
     rotate_left
     ·
      show Act.put _ (some 73) _ = _
      simp only [Act.put, List.setIfInBounds_toArray, List.set_cons_zero, List.set_cons_succ, i64_w, i32_w, IntKind.wrap_u32]
      rfl
     refine pure_ (i := 31) (N := some 74) (v := ?_) (a' := ?_) #[true, true, true, true, true, true, true, true, true, true, true, true, true, true, true, true, true, true, true, true, true, true, true, true, true, true, true, true, true, true, true, true, false] rfl rfl (any_of HT_.out (by kernel_rfl)) (fun _ _ _ h => h) (Or.inl ⟨by rfl, ?_⟩) ?_ ?_
     rotate_left; exact pI; rotate_left; exact pS
     refine last_ (i := 32) (N := none) #[true, true, true, true, true, true, true, true, true, true, true, true, true, true, true, true, true, true, true, true, true, true, true, true, true, true, true, true, true, true, true, true, true] rfl rfl (one_of HT_.out (by kernel_rfl)) (by decide) (fun K hK => ?_)
     have hz3 := bx9 B3.out
     refine skip_ (w1 := ?_) (by rfl) rfl ?_ ?_
     rotate_left
     ·
      go_simp
      rfl
     clear hz3
     refine hK.out _ _ ?_
     clear hK K
     refine done_ (done_of HT_.out (by kernel_rfl)) ?_
     clear hHeld
     try go_wp2
     go_roundw
     case rel => exact ⟨n + 1, nP, c3_, A3, rs ++ [([.int .i64 0, .int .i64 0, .slice E0 L0.length e0] : List Value), ([.int .i64 r3, .int .i64 s3, .slice E3 L3.length e3] : List Value), ([.int .i64 r6, .int .i64 s6, .slice E6 L6.length e6] : List Value), ([.int .i64 r9, .int .i64 s9, .slice E9 L9.length e9] : List Value), ([.int .i64 r12, .int .i64 s12, .slice E12 L12.length e12] : List Value), ([.int .i64 0, .int .i64 0, .slice E13 L13.length e13] : List Value), ([.int .i64 r16, .int .i64 s16, .slice E16 L16.length e16] : List Value), ([.int .i64 r19, .int .i64 s19, .slice E19 L19.length e19] : List Value), ([.int .i64 r22, .int .i64 s22, .slice E22 L22.length e22] : List Value)], by go_num, ⟨⟨q, by have h1_ := HJ.out.2; have h2_ := HNP.out; have h3_ := HLR.out; omega⟩⟩, ⟨blk_far BK.out (p := ⟨g3, 8, none⟩) (blk_ne BK.out B3.out (by decide)) _⟩, ⟨blk_far B2.out (p := ⟨g3, 8, none⟩) NE.out _⟩, ⟨blk_put B3.out 8 _ rfl⟩, ⟨r_aside RT.out B3.out (by decide) 8 _⟩, ⟨r_aside RP.out B3.out (by decide) 8 _⟩, ⟨by rw [HTK.out, ← List.append_assoc]; exact HRW.out.app HNINE.out⟩, ⟨HB.out.setCell (p := ⟨g3, 8, none⟩) GE3.out _⟩⟩
     case measure => simp [intOf]; omega
    ·
     have f1 : decide ((n : Int) < (l0_10.length : Int)) = false := decide_eq_false (by have := HJ.out.1; omega)
     have f2 : decide (n < l0_10.length) = false := decide_eq_false q
     obtain rfl : n = l0_10.length := by have := HJ.out.1; omega
     rw [List.take_length] at HRW
     go_upto_region 12 with (fail)
     clear f1 f2 q
     have HTWO : Aside0 (RowsP w [([.int .i64 0, .int .i64 0, .slice A0_11 l0_11.length c0_11] : List Value), ([.int .i64 a0_12, .int .i64 a0_13, .slice A0_14 l0_14.length c0_14] : List Value)] [⟨0, 0, l0_11⟩, ⟨a0_12, a0_13, l0_14⟩]) := ⟨RowsP.cons (k111_mk w ⟨0, 0, l0_11⟩ HC11.out HR11.out) (RowsP.cons (k111_mk w ⟨a0_12, a0_13, l0_14⟩ HC14.out HR14.out) (RowsP.nil w))⟩
     replace BK := aM (blk_drew BK.out)
     replace B2 := aM (blk_drew B2.out)
     replace B3 := aM (blk_drew B3.out)
     replace RT := aM (Kd.R_drew RT.out)
     replace RP := aM (Kd.R_drew RP.out)
     replace HB := aM (HB.out.drew)
     refine start_ (n := 12) (S := fun w' => w'.cell? ⟨gb, 11, none⟩ = some (.slice A0_11 l0_11.length c0_11) ∧ w'.cell? ⟨gb, 12, none⟩ = some (.int .i64 a0_12) ∧ w'.cell? ⟨gb, 13, none⟩ = some (.int .i64 a0_13) ∧ w'.cell? ⟨gb, 14, none⟩ = some (.slice A0_14 l0_14.length c0_14) ∧ w'.cell? ⟨g3, 8, none⟩ = some (.slice AP2 mP cP2)) (ds := [11]) #[false, false, false, false, false, false, false, false, false, false, false, false] (by kernel_rfl) rfl rfl ⟨((blk_cell BK.out 11).trans rfl), ((blk_cell BK.out 12).trans rfl), ((blk_cell BK.out 13).trans rfl), ((blk_cell BK.out 14).trans rfl), ((blk_cell B3.out 8).trans rfl)⟩ (fun hHeld => ?_); refine with_tabW brf3.tab12 brf3.bits12 (fun HT_ HW_ => ?_)
     generalize wr.drew = wy at BK B2 B3 RT RP HB hHeld ⊢
     refine pure_ (i := 0) (N := some 76) (v := ?_) (a' := ?_) #[true, false, false, false, false, false, false, false, false, false, false, false] rfl rfl (any_of HT_.out (by kernel_rfl)) (fun _ _ _ h => h) (Or.inl ⟨by rfl, ?_⟩) ?_ ?_
     rotate_left; exact pI; rotate_left; exact pS
     refine pure_ (i := 2) (N := some 78) (v := ?_) (a' := ?_) #[true, false, true, false, false, false, false, false, false, false, false, false] rfl rfl (any_of HT_.out (by kernel_rfl)) (fun _ _ _ h => h) (Or.inl ⟨by rfl, ?_⟩) ?_ ?_
     rotate_left; exact pI; rotate_left; exact pS
     refine pure_ (i := 5) (N := some 81) (v := ?_) (a' := ?_) #[true, false, true, false, false, true, false, false, false, false, false, false] rfl rfl (any_of HT_.out (by kernel_rfl)) (fun _ _ _ h => h) (Or.inl ⟨by rfl, ?_⟩) ?_ ?_
     rotate_left; exact pI; rotate_left; exact pS
     refine take_ (i := 1) (N := some 77) (v := ?_) (a' := ?_) #[true, true, true, false, false, true, false, false, false, false, false, false] rfl rfl (take_ofW HT_.out HW_.out (by kernel_rfl)) (fun _ _ _ h => h) (Or.inl ⟨by rfl, ?_⟩) hHeld ?_ ?_
     rotate_left
     ·
      rintro w' ⟨s0, s1, s2, s3, s4⟩
      go_simp
      with_reducible rfl
     rotate_left
     ·
      exact pS
     refine take_ (i := 3) (N := some 79) (v := ?_) (a' := ?_) #[true, true, true, true, false, true, false, false, false, false, false, false] rfl rfl (take_ofW HT_.out HW_.out (by kernel_rfl)) (fun _ _ _ h => h) (Or.inl ⟨by rfl, ?_⟩) hHeld ?_ ?_
     rotate_left
     ·
      rintro w' ⟨s0, s1, s2, s3, s4⟩
      go_simp
      with_reducible rfl
     rotate_left
     ·
      exact pS
     refine take_ (i := 6) (N := some 82) (v := ?_) (a' := ?_) #[true, true, true, true, false, true, true, false, false, false, false, false] rfl rfl (take_ofW HT_.out HW_.out (by kernel_rfl)) (fun _ _ _ h => h) (Or.inl ⟨by rfl, ?_⟩) hHeld ?_ ?_
     rotate_left
     ·
      rintro w' ⟨s0, s1, s2, s3, s4⟩
      go_simp
      with_reducible rfl
     rotate_left
     ·
      exact pS
     refine one_ (i := 4) (N := some 80) #[true, true, true, true, true, true, true, false, false, false, false, false] rfl rfl (one_of HT_.out (by kernel_rfl)) (by decide) (fun K hK => ?_)
     refine goes_ Try.func65 (by kernel_rfl) rfl #[.slice A0_11 l0_11.length c0_11] (by rfl) rfl rfl (by simp only [List.map_toArray, List.map_cons, List.map_nil]; rfl) ?_
     with_reducible refine (blist.calls A0_11 l0_11.length c0_11 _).mono ?_
     rintro e wd0 ⟨rfl, hb⟩
     refine ⟨_, rfl, ?_⟩
     replace BK := aM (blk_below BK.out hb)
     replace B2 := aM (blk_below B2.out hb)
     replace B3 := aM (blk_below B3.out hb)
     replace RT := aM (Kd.R_below RT.out hb)
     replace RP := aM (Kd.R_below RP.out hb)
     replace HB := aM (below_step HB.out hb)
     clear hb
     refine hK.out _ _ ⟨((blk_cell BK.out 11).trans rfl), ((blk_cell BK.out 12).trans rfl), ((blk_cell BK.out 13).trans rfl), ((blk_cell BK.out 14).trans rfl), ((blk_cell B3.out 8).trans rfl)⟩ (fun hHeld => ?_)
     clear hK K
     refine norm_ (a' := ?_) ?_ ?_
     rotate_left
     ·
      show Act.put _ (some 80) _ = _
      simp only [Act.put, List.setIfInBounds_toArray, List.set_cons_zero, List.set_cons_succ, i64_w, i32_w, IntKind.wrap_u32]
      rfl
     refine one_ (i := 7) (N := some 83) #[true, true, true, true, true, true, true, true, false, false, false, false] rfl rfl (one_of HT_.out (by kernel_rfl)) (by decide) (fun K hK => ?_)
     refine goes_ Try.func64 (by kernel_rfl) rfl #[.agg #[.int .i64 a0_12, .int .i64 a0_13, .slice A0_14 l0_14.length c0_14]] (by rfl) rfl rfl (by simp only [List.map_toArray, List.map_cons, List.map_nil]; rfl) ?_
     with_reducible refine (btable.calls a0_12 a0_13 A0_14 l0_14.length c0_14 _).mono ?_
     rintro e wd1 ⟨rfl, hb⟩
     refine ⟨_, rfl, ?_⟩
     replace BK := aM (blk_below BK.out hb)
     replace B2 := aM (blk_below B2.out hb)
     replace B3 := aM (blk_below B3.out hb)
     replace RT := aM (Kd.R_below RT.out hb)
     replace RP := aM (Kd.R_below RP.out hb)
     replace HB := aM (below_step HB.out hb)
     clear hb
     refine hK.out _ _ ⟨((blk_cell BK.out 11).trans rfl), ((blk_cell BK.out 12).trans rfl), ((blk_cell BK.out 13).trans rfl), ((blk_cell BK.out 14).trans rfl), ((blk_cell B3.out 8).trans rfl)⟩ (fun hHeld => ?_)
     clear hK K
     refine norm_ (a' := ?_) ?_ ?_
     rotate_left
     ·
      show Act.put _ (some 83) _ = _
      simp only [Act.put, List.setIfInBounds_toArray, List.set_cons_zero, List.set_cons_succ, i64_w, i32_w, IntKind.wrap_u32]
      rfl
     refine one_ (i := 8) (N := some 84) #[true, true, true, true, true, true, true, true, true, false, false, false] rfl rfl (one_of HT_.out (by kernel_rfl)) (by decide) (fun K hK => ?_)
     refine Kd.R_lit_step (Kd.raw 3) _ 111 (by rfl) rfl (xs := [([.int .i64 0, .int .i64 0, .slice A0_11 l0_11.length c0_11] : List Value), ([.int .i64 a0_12, .int .i64 a0_13, .slice A0_14 l0_14.length c0_14] : List Value)]) (inner := [.int .i64 0, .int .i64 0, .slice A0_11 l0_11.length c0_11, .int .i64 a0_12, .int .i64 a0_13, .slice A0_14 l0_14.length c0_14]) (ok := fun _ => True) (okp := fun _ => True) ?hr ?hp (fun _ hk => hk) trivial (Below.refl _ _) (Nat.le_refl _) (by simp) ?_
     (case hr => first | (go_simp; done) | (go_simp; rfl))
     (case hp => exact (Reps.c3 ⟨rfl, rfl, by simp [Value.oneCell']⟩ (Reps.c3 ⟨rfl, rfl, by simp [Value.oneCell']⟩ (Reps.none _ _))))
     intro vl wl ho hb hg hat
     replace BK := aM (blk_below BK.out hb)
     replace B2 := aM (blk_below B2.out hb)
     replace B3 := aM (blk_below B3.out hb)
     replace RT := aM (Kd.R_below RT.out hb)
     replace RP := aM (Kd.R_below RP.out hb)
     replace HB := aM (below_step HB.out hb)
     obtain ⟨AL, cL, rfl⟩ : ∃ A c, vl = .slice A 2 c := Kd.R_slice ho
     have HC9L := aM (Kd.R_reads' ho).2.2
     clear ho hb hg hat
     refine hK.out _ _ ⟨((blk_cell BK.out 11).trans rfl), ((blk_cell BK.out 12).trans rfl), ((blk_cell BK.out 13).trans rfl), ((blk_cell BK.out 14).trans rfl), ((blk_cell B3.out 8).trans rfl)⟩ (fun hHeld => ?_)
     clear hK K
     refine norm_ (a' := ?_) ?_ ?_
     rotate_left
     ·
      show Act.put _ (some 84) _ = _
      simp only [Act.put, List.setIfInBounds_toArray, List.set_cons_zero, List.set_cons_succ, i64_w, i32_w, IntKind.wrap_u32]
      rfl
     refine one_ (i := 9) (N := some 85) #[true, true, true, true, true, true, true, true, true, true, false, false] rfl rfl (one_of HT_.out (by kernel_rfl)) (by decide) (fun K hK => ?_)
     refine raw_append_big 3 (w0 := w) w.heap.size (by rfl) (.tmp 77) (.tmp 84) 71 111 (.agg #[.int .i64 0, .int .i64 0, .slice none 0 0]) 40 rfl Try.underlying71 info111 rfl (by decide) (by decide) (by decide) (.slice AP2 mP cP2) rs [([.int .i64 0, .int .i64 0, .slice A0_11 l0_11.length c0_11] : List Value), ([.int .i64 a0_12, .int .i64 a0_13, .slice A0_14 l0_14.length c0_14] : List Value)] _ _ _ rfl rfl ?aO ?aR ?aB ?aS (by decide) ?aL ?_
     (case aR => exact HC9L.out)
     (case aB => exact HB.out)
     (case aO => exact RP.out)
     (case aS => exact (below_size HB.out))
     (case aL => have h1_ := (Kd.R_reads' RP.out).1; have h2_ := HJ.out; have h3_ := H10.out; omega)
     intro vA wA ho hb hg hat
     replace BK := aM (blk_grown BK.out hg (Kd.R_ne RP.out BK.out (by decide)))
     replace B2 := aM (blk_grown B2.out hg (Kd.R_ne RP.out B2.out (by decide)))
     replace B3 := aM (blk_grown B3.out hg (Kd.R_ne RP.out B3.out (by decide)))
     replace RT := aM (r_grownT RT.out RP.out hg (by decide))
     have HLR := aM (Kd.R_reads' RP.out).1
     obtain ⟨A3, nP, c3_, hnP, rfl⟩ : ∃ A n c, n = (rs ++ [([.int .i64 0, .int .i64 0, .slice A0_11 l0_11.length c0_11] : List Value), ([.int .i64 a0_12, .int .i64 a0_13, .slice A0_14 l0_14.length c0_14] : List Value)]).length ∧ vA = .slice A n c := by obtain ⟨A, c, e⟩ := Kd.R_slice ho; exact ⟨A, _, c, rfl, e⟩
     have HNP := aM (show nP = rs.length + 2 from hnP.trans List.length_append)
     replace RP := aM ho
     replace HB := aM hb
     clear ho hb hg hat hnP HC9L
     refine hK.out _ _ ⟨((blk_cell BK.out 11).trans rfl), ((blk_cell BK.out 12).trans rfl), ((blk_cell BK.out 13).trans rfl), ((blk_cell BK.out 14).trans rfl), ((blk_cell B3.out 8).trans rfl)⟩ (fun hHeld => ?_)
     clear hK K
     refine norm_ (a' := ?_) ?_ ?_
     rotate_left
     ·
      show Act.put _ (some 85) _ = _
      simp only [Act.put, List.setIfInBounds_toArray, List.set_cons_zero, List.set_cons_succ, i64_w, i32_w, IntKind.wrap_u32]
      rfl
     refine pure_ (i := 10) (N := some 86) (v := ?_) (a' := ?_) #[true, true, true, true, true, true, true, true, true, true, true, false] rfl rfl (any_of HT_.out (by kernel_rfl)) (fun _ _ _ h => h) (Or.inl ⟨by rfl, ?_⟩) ?_ ?_
     rotate_left; exact pI; rotate_left; exact pS
     refine last_ (i := 11) (N := none) #[true, true, true, true, true, true, true, true, true, true, true, true] rfl rfl (one_of HT_.out (by kernel_rfl)) (by decide) (fun K hK => ?_)
     have hz3 := bx9 B3.out
     refine skip_ (w1 := ?_) (by rfl) rfl ?_ ?_
     rotate_left
     ·
      go_simp
      rfl
     clear hz3
     refine hK.out _ _ ?_
     clear hK K
     refine done_ (done_of HT_.out (by kernel_rfl)) ?_
     clear hHeld
     have HRW2 := aM (HRW.out.app HTWO.out)
     have bk : (wA.setCell ⟨g3, 8, none⟩ (.slice A3 nP c3_)).heap[gb]? = some (.cells #[.int .i64 a0_0, .int .i64 a0_1, .int .i64 a0_2, .int .i64 a0_3, .int .i64 a0_4, .int .i64 a0_5, .slice A0_6 l0_6.length c0_6, .int .i64 a0_7, .int .i64 a0_8, .slice A0_9 l0_9.length c0_9, .slice A0_10 l0_10.length c0_10, .slice A0_11 l0_11.length c0_11, .int .i64 a0_12, .int .i64 a0_13, .slice A0_14 l0_14.length c0_14] 67 (0, 0)) := blk_far BK.out (p := ⟨g3, 8, none⟩) (blk_ne BK.out B3.out (by decide)) _
     have b2 : (wA.setCell ⟨g3, 8, none⟩ (.slice A3 nP c3_)).heap[g2]? = some (.cells #[.int .i64 0, .int .i64 0, .int .i64 0, .int .i64 0, .int .i64 0, .int .i64 0, .int .i64 0, .slice none 0 0, .slice none 0 0] 73 (0, 0)) := blk_far B2.out (p := ⟨g3, 8, none⟩) NE.out _
     have b3 : (wA.setCell ⟨g3, 8, none⟩ (.slice A3 nP c3_)).heap[g3]? = some (.cells #[.int .i64 a0_0, .int .i64 a0_1, .int .i64 a0_2, .int .i64 a0_3, .int .i64 a0_4, .int .i64 a0_5, .int .i64 (l0_10.length : Int), .slice AT lt.length cT, .slice A3 nP c3_] 73 (0, 0)) := blk_put B3.out 8 _ rfl
     have rt := r_aside RT.out B3.out (by decide) 8 (.slice A3 nP c3_)
     have rp := r_aside RP.out B3.out (by decide) 8 (.slice A3 nP c3_)
     have hb9 := HB.out.setCell (p := ⟨g3, 8, none⟩) GE3.out (.slice A3 nP c3_)
     generalize (wA.setCell ⟨g3, 8, none⟩ (.slice A3 nP c3_)) = wz at bk b2 b3 rt rp hb9 ⊢
     clear HB RT RP BK B2 B3 HJ HRW HTWO HR6 HR9 HR10 HR11 HR14 HC6 HC9 HC10 HC11 HC14
     have B3 := aM b3
     have B2 := aM b2
     have RT := aM rt
     have RP := aM rp
     have HB := aM hb9
     clear bk b2 b3 rt rp hb9
     go_wp2_with (first | ((with_reducible refine gate_dst (N := 87) rfl ?_); refine load_event ?hg (N := 87) ?hd 73 (.tmp 3) rfl ⟨g3, 0, none⟩ ?hx [.int .i64 a0_0, .int .i64 a0_1, .int .i64 a0_2, .int .i64 a0_3, .int .i64 a0_4, .int .i64 a0_5, .int .i64 (l0_10.length : Int), .slice AT lt.length cT, .slice A3 nP c3_] (blk_cells (cs := [.int .i64 a0_0, .int .i64 a0_1, .int .i64 a0_2, .int .i64 a0_3, .int .i64 a0_4, .int .i64 a0_5, .int .i64 (l0_10.length : Int), .slice AT lt.length cT, .slice A3 nP c3_]) B3.out) _ Try.underlying73 rfl (by kernel_rfl) ?_; (case hg => rfl); (case hd => rfl); (case hx => rfl)) | ((with_reducible refine gate_store (t := 73) (p := 2) (v := .tmp 87) rfl ?_); refine store_event ?hg ?hd 73 (.tmp 2) (.tmp 87) rfl g2 #[.int .i64 a0_0, .int .i64 a0_1, .int .i64 a0_2, .int .i64 a0_3, .int .i64 a0_4, .int .i64 a0_5, .int .i64 (l0_10.length : Int), .slice AT lt.length cT, .slice A3 nP c3_] ?hx ?hy 73 _ B2.out ?hi ?ho ?h1 ?_; (case hg => rfl); (case hd => rfl); (case hx => rfl); (case hy => rfl); (case hi => kernel_rfl); (case ho => rfl); (case h1 => simp [Value.oneCell']); intro wv hnew hal far_; have RT2 := aM (r_far RT.out B2.out (by decide) far_); have RP2 := aM (r_far RP.out B2.out (by decide) far_); replace B2 := aM hnew; have HB2 := aM (hal w HB.out GE2.out); clear hnew hal far_ HB RT RP B3))
     refine bodyPost_ret (results_cell_row rfl _ _ g2 73 #[.int .i64 a0_0, .int .i64 a0_1, .int .i64 a0_2, .int .i64 a0_3, .int .i64 a0_4, .int .i64 a0_5, .int .i64 (l0_10.length : Int), .slice AT lt.length cT, .slice A3 nP c3_] (0, 0) _ rfl B2.out Try.underlying73 rfl (by kernel_rfl)) rfl ?_
     have hnP : nP = (refP a0_7 a0_8 l0_9 l0_10 l0_11 a0_12 a0_13 l0_14).length := ((Kd.R_reads' RP2.out).1).trans HRW2.out.1
     unfold RefR
     refine ⟨AT, cT, A3, c3_, rs ++ [([.int .i64 0, .int .i64 0, .slice A0_11 l0_11.length c0_11] : List Value), ([.int .i64 a0_12, .int .i64 a0_13, .slice A0_14 l0_14.length c0_14] : List Value)], ?_, ?_, ?_, HRW2.out, HB2.out⟩
     ·
      rw [HLT.out, ← hnP]
     ·
      rw [HLT.out]; exact RT2.out
     ·
      rw [← hnP]; exact RP2.out
-- calls: blob_Parse blob_Bytes blob_Blob_read credenzalaw18_config

end Go.Proofs.Ytehepnmagcjkaaa.PBlobParses
