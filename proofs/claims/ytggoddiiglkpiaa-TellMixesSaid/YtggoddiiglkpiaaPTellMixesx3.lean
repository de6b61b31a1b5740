-- Written by a program of this session (wip/tools/mkprint.py over the kit's print).
import Derived.Test.YtggoddiiglkpiaaPTellMixesx0
import Derived.Test.YtggoddiiglkpiaaPTellMixesx2
namespace Go.Proofs.Ytggoddiiglkpiaa.PTellMixes
open Go.RowKit Go.Proofs.YtggoddiiglkpiaaW.PrintWords Go.Proofs.YtggoddiiglkpiaaW.PrintLast Go.Proofs.YtggoddiiglkpiaaW.PrintMore
attribute [local go_sem] max2_int min2_int max_two min_two max_three min_three max_four min_four   -- for this text's walks alone
set_option linter.unusedVariables false
set_option linter.unusedSimpArgs false

/-- A reader at block g of W: its bytes lie in an elder block, which nobody writes. -/
def Arr99 (w0 W : World) (g : Nat) (A0 : Option Addr) (f0 : List Int) : Prop :=
  f0.length ≤ 9223372036854775807 ∧ (0 < f0.length → ∃ k cells off, A0 = some ⟨k, off, none⟩ ∧ k < g ∧ w0.heap.size ≤ k ∧ W.heap[k]? = some (.cells cells 5 (0, 0)) ∧ ∀ j, j < f0.length → cells[off + j]? = some (.int .u8 (f0.getD j 0)))
def Ap99 (W : World) (g : Nat) (row : Option Nat) : Prop := some g ≠ row ∧ ∀ k cells, W.heap[k]? = some (.cells cells 5 (0, 0)) → some k ≠ row
@[simp] theorem Ap99_none (W : World) (g : Nat) : Ap99 W g none = True := by simp [Ap99]
def IsS99 (w0 W : World) (g : Nat) (f0 : List Int) (f1 : Bool) : Prop :=
  ∃ A0 c0, W.heap[g]? = some (.cells #[.slice A0 f0.length c0, .bool f1] 99 (0, 0)) ∧ w0.heap.size ≤ g ∧ f0.length ≤ c0 ∧ Arr99 w0 W g A0 f0
theorem Arr99.move {w0 W W1 : World} {g : Nat} {A0 : Option Addr} {f0 : List Int} (h : Arr99 w0 W g A0 f0) (hm : ∀ k cells, k < g → W.heap[k]? = some (.cells cells 5 (0, 0)) → W1.heap[k]? = some (.cells cells 5 (0, 0))) : Arr99 w0 W1 g A0 f0 := by
  refine ⟨h.1, fun hp => ?_⟩
  obtain ⟨k, cells, off, h1, h2, h3, h4, h5⟩ := h.2 hp
  exact ⟨k, cells, off, h1, h2, h3, hm _ _ h2 h4, h5⟩
theorem IsS99.move {w0 W W1 : World} {g : Nat} {f0 : List Int} {f1 : Bool} (h : IsS99 w0 W g f0 f1) (h1 : ∀ o, W.heap[g]? = some o → W1.heap[g]? = some o) (h2 : ∀ k cells, k < g → W.heap[k]? = some (.cells cells 5 (0, 0)) → W1.heap[k]? = some (.cells cells 5 (0, 0))) : IsS99 w0 W1 g f0 f1 := by
  obtain ⟨A0, c0, hb, hg, hl, hr0⟩ := h
  exact ⟨A0, c0, h1 _ hb, hg, hl, hr0.move h2⟩
theorem IsS99.grown {w0 W : World} {g : Nat} {f0 : List Int} {f1 : Bool} {W1 : World} {row : Option Nat} (h : IsS99 w0 W g f0 f1) (hw : W.grownBy W1 row) (hne : Ap99 W g row) : IsS99 w0 W1 g f0 f1 :=
  h.move (fun _ hb => blk_grown hb hw hne.1) (fun _ _ _ hb => blk_grown hb hw (hne.2 _ _ hb))
theorem IsS99.own_neN {w0 W : World} {g : Nat} {f0 : List Int} {f1 : Bool} {α : Type} {d : Kd α} {e : Nat} {base : Nat} {ok : Nat → Prop} {v : Value} {xs : List α} (h : IsS99 w0 W g f0 f1) (ho : Kd.N d e W base ok v xs) (ht : e ≠ 99) : some g ≠ v.ownBlock := by
  obtain ⟨A0, c0, hb, _⟩ := h
  exact Kd.N_ne ho hb ht
theorem IsS99.own_apN {w0 W : World} {g : Nat} {f0 : List Int} {f1 : Bool} {α : Type} {d : Kd α} {e : Nat} {base : Nat} {ok : Nat → Prop} {v : Value} {xs : List α} (h : IsS99 w0 W g f0 f1) (ho : Kd.N d e W base ok v xs) (ht : e ≠ 99 ∧ e ≠ 5) : Ap99 W g v.ownBlock :=
  ⟨h.own_neN ho ht.1, fun _ _ hc => Kd.N_ne ho hc ht.2⟩
theorem IsS99.fresh {w0 W : World} {g : Nat} {f0 : List Int} {f1 : Bool} (h : IsS99 w0 W g f0 f1) : ∀ k, W.heap.size ≤ k → k ≠ g := by
  obtain ⟨A0, c0, hb, _⟩ := h
  exact Kd.freshB hb
theorem IsS99.kept {w0 W : World} {g : Nat} {f0 : List Int} {f1 : Bool} {W1 : World} {S : Nat → Prop} (h : IsS99 w0 W g f0 f1) (hk : Kept W W1 S) (hne : ¬ S g) (hne2 : ∀ k cells, W.heap[k]? = some (.cells cells 5 (0, 0)) → ¬ S k) : IsS99 w0 W1 g f0 f1 :=
  h.move (fun _ hb => blk_kept hb hk hne) (fun _ _ _ hb => blk_kept hb hk (hne2 _ _ hb))
theorem IsS99.below {w0 W : World} {g : Nat} {f0 : List Int} {f1 : Bool} {W1 : World} (h : IsS99 w0 W g f0 f1) (hw : Below W.heap.size W W1) : IsS99 w0 W1 g f0 f1 := h.grown (grown_of_below hw none) (by simp)
theorem IsS99.alloc {w0 W : World} {g : Nat} {f0 : List Int} {f1 : Bool} (h : IsS99 w0 W g f0 f1) (o : Obj) : IsS99 w0 (W.alloc o) g f0 f1 := h.below (below_alloc (Below.refl _ _) o)
theorem IsS99.drewN {w0 W : World} {g : Nat} {f0 : List Int} {f1 : Bool} (h : IsS99 w0 W g f0 f1) (m : Nat) : IsS99 w0 (W.drewN m) g f0 f1 := h
theorem IsS99.drew {w0 W : World} {g : Nat} {f0 : List Int} {f1 : Bool} (h : IsS99 w0 W g f0 f1) : IsS99 w0 W.drew g f0 f1 := h
theorem IsS99.at_ {w0 W : World} {g : Nat} {f0 : List Int} {f1 : Bool} {w' : World} {m : Nat} (hq : W.drewN m = w') (h : IsS99 w0 W g f0 f1) : IsS99 w0 w' g f0 f1 := by subst hq; exact IsS99.drewN h m
theorem IsS99.apart {w0 W : World} {g : Nat} {f0 : List Int} {f1 : Bool} {α : Type} {d : Kd α} {e : Nat} {base : Nat} {ok : Nat → Prop} {v : Value} {xs : List α} (h : IsS99 w0 W g f0 f1) (ho : d.R e W base ok v xs) (ht : ∀ q, q ∈ e :: d.E → q ≠ 99) : d.R e W base (fun k => ok k ∧ k ≠ g) v xs := by
  obtain ⟨A0, c0, hb, _⟩ := h
  exact Kd.R_types ho hb ht
theorem IsS99.own_ne {w0 W : World} {g : Nat} {f0 : List Int} {f1 : Bool} {α : Type} {d : Kd α} {e : Nat} {base : Nat} {ok : Nat → Prop} {v : Value} {xs : List α} (h : IsS99 w0 W g f0 f1) (ho : d.R e W base ok v xs) (ht : e ≠ 99) : some g ≠ v.ownBlock := by
  obtain ⟨A0, c0, hb, _⟩ := h
  exact Kd.R_ne ho hb ht
theorem IsS99.own_ap {w0 W : World} {g : Nat} {f0 : List Int} {f1 : Bool} {α : Type} {d : Kd α} {e : Nat} {base : Nat} {ok : Nat → Prop} {v : Value} {xs : List α} (h : IsS99 w0 W g f0 f1) (ho : d.R e W base ok v xs) (ht : e ≠ 99 ∧ e ≠ 5) : Ap99 W g v.ownBlock :=
  ⟨h.own_ne ho ht.1, fun _ _ hc => Kd.R_ne ho hc ht.2⟩
theorem IsS99.apartQ {w0 W : World} {g : Nat} {f0 : List Int} {f1 : Bool} {α : Type} {d : Kd α} {e : Nat} {base : Nat} {ok : Nat → Prop} {v : Value} {xs : List α} (h : IsS99 w0 W g f0 f1) (ho : d.Q e W base ok v xs) (ht : ∀ q, q ∈ e :: d.E → q ≠ 99) : d.Q e W base (fun k => ok k ∧ k ≠ g) v xs := by
  obtain ⟨A0, c0, hb, _⟩ := h
  exact Kd.Q_types ho hb ht
theorem IsS99.own_neQ {w0 W : World} {g : Nat} {f0 : List Int} {f1 : Bool} {α : Type} {d : Kd α} {e : Nat} {base : Nat} {ok : Nat → Prop} {v : Value} {xs : List α} (h : IsS99 w0 W g f0 f1) (ho : d.Q e W base ok v xs) (ht : e ≠ 99) : some g ≠ v.ownBlock := by
  obtain ⟨A0, c0, hb, _⟩ := h
  exact Kd.Q_ne ho hb ht
theorem IsS99.own_apQ {w0 W : World} {g : Nat} {f0 : List Int} {f1 : Bool} {α : Type} {d : Kd α} {e : Nat} {base : Nat} {ok : Nat → Prop} {v : Value} {xs : List α} (h : IsS99 w0 W g f0 f1) (ho : d.Q e W base ok v xs) (ht : e ≠ 99 ∧ e ≠ 5) : Ap99 W g v.ownBlock :=
  ⟨h.own_neQ ho ht.1, fun _ _ hc => Kd.Q_ne ho hc ht.2⟩
theorem IsS99.lt {w0 W : World} {g : Nat} {f0 : List Int} {f1 : Bool} (h : IsS99 w0 W g f0 f1) : g < W.heap.size := by
  obtain ⟨A0, c0, hb, _⟩ := h
  exact blk_lt hb
theorem IsS99.ge {w0 W : World} {g : Nat} {f0 : List Int} {f1 : Bool} (h : IsS99 w0 W g f0 f1) : w0.heap.size ≤ g := by
  obtain ⟨A0, c0, hb, hg, _⟩ := h
  exact hg
theorem IsS99.ne_blk {w0 W : World} {g : Nat} {f0 : List Int} {f1 : Bool} {a : Nat} {cs : Array Value} {t : TypeId} {fr : Nat × Nat} (h : IsS99 w0 W g f0 f1) (hb2 : W.heap[a]? = some (.cells cs t fr)) (ht : t ≠ 99) : g ≠ a := by
  obtain ⟨A0, c0, hb, _⟩ := h
  rintro rfl
  rw [hb] at hb2
  injection hb2 with hb2
  injection hb2 with _ ht2
  exact ht ht2.symm
theorem IsS99.far {w0 W : World} {g : Nat} {f0 : List Int} {f1 : Bool} {p : Addr} (h : IsS99 w0 W g f0 f1) (hne : g ≠ p.block) (hlt : g < p.block) (u : Value) : IsS99 w0 (W.setCell p u) g f0 f1 := by
  obtain ⟨A0, c0, hb, hg, hl, hr0, hr1⟩ := h
  refine ⟨A0, c0, blk_far hb hne u, hg, hl, hr0, fun hp => ?_⟩
  obtain ⟨k, cells, off, h1, h2, h3, h4, h5⟩ := hr1 hp
  exact ⟨k, cells, off, h1, h2, h3, blk_far h4 (by omega) u, h5⟩
theorem cellS99_0 {W : World} {g : Nat} {A0 : Option Addr} {c0 : Nat} {f0 : List Int} {f1 : Bool} (h : W.heap[g]? = some (.cells #[.slice A0 f0.length c0, .bool f1] 99 (0, 0))) : W.cell? ⟨g, 0, none⟩ = some (.slice A0 f0.length c0) := (blk_cell h 0).trans rfl
theorem cellS99_1 {W : World} {g : Nat} {A0 : Option Addr} {c0 : Nat} {f0 : List Int} {f1 : Bool} (h : W.heap[g]? = some (.cells #[.slice A0 f0.length c0, .bool f1] 99 (0, 0))) : W.cell? ⟨g, 1, none⟩ = some (.bool f1) := (blk_cell h 1).trans rfl
theorem IsS99.set_1 {w0 W : World} {g : Nat} {f0 : List Int} {f1 : Bool} (h : IsS99 w0 W g f0 f1) (x : Bool) : IsS99 w0 (W.setCell ⟨g, 1, none⟩ (.bool x)) g f0 x := by
  obtain ⟨A0, c0, hb, hg, hl, hr0, hr1⟩ := h
  refine ⟨A0, c0, by simpa using blk_set hb 1 (.bool x), hg, hl, hr0, fun hp => ?_⟩
  obtain ⟨k, cells, off, h1, h2, h3, h4, h5⟩ := hr1 hp
  exact ⟨k, cells, off, h1, h2, h3, blk_far h4 (by show k ≠ g; omega) _, h5⟩
/-- Its bytes, read where they lie now. -/
theorem IsS99.reads {w0 W : World} {g : Nat} {f0 : List Int} {f1 : Bool} (h : IsS99 w0 W g f0 f1) : ∃ A0 c0, W.heap[g]? = some (.cells #[.slice A0 f0.length c0, .bool f1] 99 (0, 0)) ∧ f0.length ≤ c0 ∧ Kd.C (Kd.int .u8) W A0 f0.length f0 ∧ (0 < f0.length → ∃ k off, A0 = some ⟨k, off, none⟩ ∧ k < g) := by
  obtain ⟨A0, c0, hb, hg, hl, hr0, hr1⟩ := h
  refine ⟨A0, c0, hb, hl, ⟨rfl, hr0, fun hp => ?_⟩, fun hp => ?_⟩
  · obtain ⟨k, cells, off, h1, h2, h3, h4, h5⟩ := hr1 hp
    refine ⟨_, h1, fun j p hj => ⟨[.int .u8 p], rfl, rfl, fun i u hu => ?_⟩⟩
    have hjl := (List.getElem?_eq_some_iff.1 hj).1
    have hi : i = 0 := by
      have := (List.getElem?_eq_some_iff.1 hu).1
      simpa using this
    subst hi
    have hu' : Value.int .u8 p = u := by simpa using hu
    subst hu'
    have ha : (Addr.mk k off none).add (j * (Kd.int .u8).sz + 0) = ⟨k, off + j, none⟩ := by
      show (Addr.mk k off none).add (j * 1 + 0) = _
      unfold Addr.add
      by_cases h : j = 0 <;> simp [h]
    rw [ha, blk_cell h4, h5 j hjl]
    rw [List.getD_eq_getElem?_getD, hj]
    rfl
  · obtain ⟨k, cells, off, h1, h2, _⟩ := hr1 hp
    exact ⟨k, off, h1, h2⟩
/-- A row of the call's own, made before the reader. -/
theorem Arr99.of_R {w0 W : World} {base g : Nat} {ok : Nat → Prop} {A : Option Addr} {c : Nat} {xs : List Int} (h : Kd.R (Kd.int .u8) 5 W base ok (.slice A xs.length c) xs) (hb : w0.heap.size ≤ base) (hg : W.heap.size ≤ g) : Arr99 w0 W g A xs := by
  have ho := Kd.own_of_R h
  rcases ho.2 with ⟨h1, h2⟩ | ⟨k, cap, cur, he, hbk, hh, hnc, hcm, hsz, htk⟩
  · exact ⟨by omega, fun hp => by omega⟩
  · injection he with he1 he2 he3
    refine ⟨by simp only [maxLen] at hcm; omega, fun _ => ⟨k, cur, 0, he1, Nat.lt_of_lt_of_le (blk_lt hh) hg, Nat.le_trans hb hbk, hh, fun j hj => ?_⟩⟩
    have hj2 : (encs (Value.int .u8) xs)[j]? = some (.int .u8 (xs.getD j 0)) := by
      simp [encs, List.getElem?_eq_getElem hj, List.getD_eq_getElem?_getD]
    rw [← htk, List.getElem?_take] at hj2
    split at hj2
    · rw [Nat.zero_add, ← Array.getElem?_toList]
      exact hj2
    · cases hj2
theorem IsS99.grown_far {w0 W : World} {g : Nat} {f0 : List Int} {f1 : Bool} {W1 : World} {row : Option Nat} (h : IsS99 w0 W g f0 f1) (hw : W.grownBy W1 row) (hne : some g ≠ row) (hlt : ∀ k, row = some k → k < w0.heap.size) : IsS99 w0 W1 g f0 f1 := by
  obtain ⟨A0, c0, hb, hg, hl, hr0, hr1⟩ := h
  refine ⟨A0, c0, blk_grown hb hw hne, hg, hl, hr0, fun hp => ?_⟩
  obtain ⟨k, cells, off, h1, h2, h3, h4, h5⟩ := hr1 hp
  exact ⟨k, cells, off, h1, h2, h3, blk_grown h4 hw (fun e => by have := hlt k e.symm; omega), h5⟩
theorem IsS99.lower {w w0 W : World} {g : Nat} {f0 : List Int} {f1 : Bool} (hle : w.heap.size ≤ w0.heap.size) (h : IsS99 w0 W g f0 f1) : IsS99 w W g f0 f1 := by
  obtain ⟨A0, c0, hb, hg, hl, hr0, hr1⟩ := h
  refine ⟨A0, c0, hb, Nat.le_trans hle hg, hl, hr0, fun hp => ?_⟩
  obtain ⟨k, cells, off, h1, h2, h3, h4, h5⟩ := hr1 hp
  exact ⟨k, cells, off, h1, h2, Nat.le_trans hle h3, h4, h5⟩

/-! ### seal_NewReader: function 58 -/
def seal_NewReader.f (l0 : List Int) : Option (List Int × Bool) := (bytes_Clone.f l0).bind fun c => some (c, false)
set_option maxHeartbeats 8000000 in
set_option maxRecDepth 100000 in
theorem seal_NewReader.calls (A0 : Option Addr) (c0 : Nat) (l0 : List Int) (r1 : List Int) (r2 : Bool) (w0 w : World) (hB : Below w0.heap.size w0 w) (hr0 : Kd.C (Kd.int .u8) w A0 l0.length l0) (hc0 : l0.length ≤ c0) (h : seal_NewReader.f l0 = some (r1, r2)) :
    Calls Try.prog 58 #[.slice A0 l0.length c0] w fun e w' => ∃ g_ : Nat, e = .returned (.pointer (some ⟨g_, 0, none⟩)) ∧ IsS99 w0 w' g_ r1 r2 ∧ Below w0.heap.size w0 w' ∧ Below w.heap.size w w' := by
  unfold seal_NewReader.f at h
  obtain ⟨c, hc, h⟩ := Option.bind_eq_some_iff.mp h
  injection h with h
  injection h with h1 h2
  subst h1 h2
  have A1 := Aside0.mk hc
  have HR0 := Aside0.mk hr0
  have HC0 := Aside0.mk hc0
  have HB := Aside0.mk hB
  clear hc hr0 hc0 hB
  go_enter Try.func58, Try.ntmps58
  go_wp2_with (go_at_call 69; (with_reducible refine (bytes_Clone.calls _ _ l0 c _ HR0.out HC0.out A1.out).mono ?_); rintro e w' ⟨v, rfl, ho, hb⟩; have HO := Aside0.mk ho; have HW := Aside0.mk hb; clear ho hb; obtain ⟨Ao, co, eo⟩ := Kd.R_slice HO.out; subst eo)
  go_ret
  refine ⟨_, rfl, ?_, ?_, ?_⟩
  · have hs : w0.heap.size ≤ w'.heap.size := Nat.le_trans HB.out.size HW.out.size
    refine ⟨Ao, co, heap_alloc_new w' _, hs, (Kd.R_reads' HO.out).2.1, ?_⟩
    exact (Arr99.of_R (w0 := w0) HO.out HB.out.size (Nat.le_refl _)).move (fun k cells hk hc => blk_alloc hc _)
  · exact below_alloc (below_step HB.out HW.out) _
  · exact below_alloc HW.out _

/-! ### seal_Reader_Take: function 70 -/
def seal_Reader_Take.f (s0_0 : List Int) (s0_1 : Bool) (a1 : Int) : Option (List Int × List Int × Bool) :=
  if (s0_0.length : Int) < a1 then some ([], [], true) else (bytes_Clone.f (s0_0.take a1.toNat)).bind fun c => some (c, s0_0.drop a1.toNat, s0_1)
theorem seal_Reader_Take.set_0 {w0 W : World} {g : Nat} {f0 : List Int} {f1 : Bool} (h : IsS99 w0 W g f0 f1) (A : Option Addr) (c : Nat) (xs : List Int) (hc : xs.length ≤ c) (ha : Arr99 w0 W g A xs) : IsS99 w0 (W.setCell ⟨g, 0, none⟩ (.slice A xs.length c)) g xs f1 := by
  obtain ⟨A0, c0, hb, hg, hl, hr⟩ := h
  refine ⟨A, c, by simpa using blk_set hb 0 (.slice A xs.length c), hg, hc, ha.move fun k cells hk hcell => blk_far hcell (by show k ≠ g; omega) _⟩
theorem seal_Reader_Take.arr_drop {w0 W : World} {g : Nat} {A0 : Option Addr} {f0 : List Int} (h : Arr99 w0 W g A0 f0) (m c : Nat) (hm : m ≤ f0.length) (hc : f0.length ≤ c) : Arr99 w0 W g (if c = m then A0 else A0.map (·.add m)) (f0.drop m) := by
  refine ⟨by have := h.1; rw [List.length_drop]; omega, fun hp => ?_⟩
  rw [List.length_drop] at hp
  obtain ⟨k, cells, off, h1, h2, h3, h4, h5⟩ := h.2 (by omega)
  refine ⟨k, cells, off + m, ?_, h2, h3, h4, fun j hj => ?_⟩
  · rw [if_neg (by omega), h1]
    simp only [Option.map_some, Addr.add]
    by_cases h : m = 0 <;> simp [h]
  · rw [List.length_drop] at hj
    rw [Nat.add_assoc, h5 (m + j) (by omega)]
    simp [List.getD_eq_getElem?_getD, List.getElem?_drop]
set_option maxHeartbeats 8000000 in
set_option maxRecDepth 100000 in
theorem seal_Reader_Take.calls (g : Nat) (s0_0 : List Int) (s0_1 : Bool) (a1 : Int) (r1 : List Int) (r2 : List Int) (r3 : Bool) (w0 w : World) (hI : IsS99 w0 w g s0_0 s0_1) (hB : Below w0.heap.size w0 w) (h : seal_Reader_Take.f s0_0 s0_1 a1 = some (r1, r2, r3)) :
    Calls Try.prog 70 #[.pointer (some ⟨g, 0, none⟩), .int .i64 a1] w fun e w' => ∃ v0_ : Value, e = .returned (v0_) ∧ Kd.R (Kd.int .u8) 5 w' w.heap.size (fun _ => True) v0_ r1 ∧ IsS99 w0 w' g r2 r3 ∧ Below w0.heap.size w0 w' ∧ KeepBut w w' g none := by
  unfold seal_Reader_Take.f at h
  have hn : (if (s0_0.length : Int) < a1 then some (([], [], true) : List Int × List Int × Bool) else (bytes_Clone.f (s0_0.take a1.toNat)).bind fun c => some (c, s0_0.drop a1.toNat, s0_1)) = some (r1, r2, r3) := h
  clear h
  have hI2 := hI
  obtain ⟨A0, c0, HG, hl0, hC, hAt⟩ := hI2.reads
  have HI := Aside0.mk hI
  have HB := Aside0.mk hB
  have hcell0 := cellS99_0 HG
  have hcell1 := cellS99_1 HG
  have hfz0 := blk_frozen HG 0
  have hfz1 := blk_frozen HG 1
  by_cases hlt : (s0_0.length : Int) < a1
  · rw [if_pos hlt] at hn
    simp only [Option.some.injEq, Prod.mk.injEq] at hn
    obtain ⟨rfl, rfl, rfl⟩ := hn
    have hmx : (if a1 < 0 then 0 else a1) = a1 := by rw [if_neg (by omega)]
    have hb1 : decide ((s0_0.length : Int) < a1) = true := decide_eq_true hlt
    clear hI hI2 hB HG hC hAt hlt
    go_enter Try.func70, Try.ntmps70
    go_wp2
    go_ret
    refine ⟨_, rfl, Kd.R_nil _ _ _ _ _, ?_, ?_, ?_⟩
    · have h1 := seal_Reader_Take.set_0 HI.out none 0 [] (Nat.le_refl _) ⟨by simp, fun hp => absurd hp (by simp)⟩
      exact h1.set_1 true
    · exact below_set (below_set HB.out HI.out.ge) HI.out.ge
    · exact ((KeepBut.refl w g none).set_ 0 _).set_ 1 _
  · rw [if_neg hlt] at hn
    obtain ⟨c, hc, hn⟩ := Option.bind_eq_some_iff.mp hn
    simp only [Option.some.injEq, Prod.mk.injEq] at hn
    obtain ⟨rfl, rfl, rfl⟩ := hn
    have A1 := Aside0.mk hc
    have HC := Aside0.mk hC
    have HAt := Aside0.mk (show Arr99 w0 w g A0 s0_0 from by
      obtain ⟨A', c', hb', _, _, hr'⟩ := hI2
      rw [HG] at hb'
      injection hb' with hb'
      injection hb' with hb' _
      injection hb' with hb'
      injection hb' with hb' _
      injection hb' with hb' _ _
      rw [hb']
      exact hr')
    have HL := Aside0.mk hl0
    have hmx0 : 0 ≤ mx a1 0 := by unfold mx; omega
    have hmxl : mx a1 0 ≤ (s0_0.length : Int) := by unfold mx; omega
    have hmxn : (mx a1 0).toNat = a1.toNat := by unfold mx; omega
    obtain ⟨m, hm⟩ : ∃ m : Int, mx a1 0 = m := ⟨_, rfl⟩
    rw [hm] at hmx0 hmxl hmxn
    have hm2 : (if a1 < 0 then 0 else a1) = m := hm
    clear hm
    have HM := Aside0.mk hmxn
    have hlt2 : decide ((s0_0.length : Int) < m) = false := decide_eq_false (by omega)
    have hml : m.toNat ≤ s0_0.length := by omega
    have HML := Aside0.mk hml
    have cut1 := cut_to (P := Try.prog) 50 5 .i64 Try.underlying50 rfl A0 s0_0.length c0 m hmx0 hmxl hl0
    have cut2 := cut_from (P := Try.prog) 50 5 .i64 Try.underlying50 rfl 1 rfl A0 s0_0.length c0 m hmx0 hmxl
    obtain ⟨A', hA'⟩ : ∃ A' : Option Addr, (if c0 = m.toNat then A0 else A0.map (·.add (m.toNat * 1))) = A' := ⟨_, rfl⟩
    rw [hA'] at cut2
    have HA' := Aside0.mk hA'
    clear hA'
    have HG0 := Aside0.mk HG
    have hlen : (s0_0.take m.toNat).length = m.toNat := by rw [List.length_take]; omega
    have hdl : (s0_0.drop m.toNat).length = s0_0.length - m.toNat := List.length_drop ..
    have hg1 : s0_0.length - m.toNat ≤ c0 - m.toNat := by omega
    have HD := Aside0.mk (And.intro hdl hg1)
    have CC := Aside0.mk (fun (W : World) (hR : Kd.C (Kd.int .u8) W A0 m.toNat (s0_0.take m.toNat)) => by
      have h1 := bytes_Clone.calls A0 c0 (s0_0.take m.toNat) c W (by rw [hlen]; exact hR) (by rw [hlen]; omega) (by rw [HM.out]; exact A1.out)
      rw [hlen] at h1
      exact h1)
    have HC1 := Aside0.mk (show Kd.C (Kd.int .u8) w A0 m.toNat (s0_0.take m.toNat) from by have h1 := Kd.C_take HC.out HML.out; rw [hlen] at h1; exact h1)
    rw [← HM.out]
    clear hI hI2 hB HG hC hAt hlt hc hl0 hmxn hml hlen hdl hg1
    go_enter Try.func70, Try.ntmps70
    go_wp2_with (go_at_call 69; (with_reducible refine (CC.out _ HC1.out).mono ?_); rintro e w1 ⟨v, rfl, ho, hb⟩; have HO := Aside0.mk ho; have HW := Aside0.mk hb; have HG1 := blk_below HG0.out hb; have hcell2 := cellS99_0 HG1; have hfz2 := blk_frozen HG1 0; clear ho hb HG1)
    go_ret
    have hI1 := HI.out.below HW.out
    refine ⟨_, rfl, Kd.R_set HO.out (blk_below HG0.out HW.out) (by decide) 0 _, ?_, ?_, ?_⟩
    · have h1 := seal_Reader_Take.set_0 hI1 A' (c0 - m.toNat) (s0_0.drop m.toNat) (by rw [HD.out.1]; exact HD.out.2) (by rw [← HA'.out, Nat.mul_one]; exact (seal_Reader_Take.arr_drop HAt.out m.toNat c0 HML.out HL.out).move (fun k cells hk hcl => blk_below hcl HW.out))
      rw [HD.out.1] at h1
      exact h1
    · exact below_set (HB.out.trans (HW.out.mono HB.out.size)) HI.out.ge
    · exact (KeepBut.of_below HW.out g none).set_ 0 _

/-! ### seal_Reader_Num: function 59 -/
def seal_Reader_Num.l0 : Nat → Int → List Int → Int → Int → List Int → Bool → Option (Int × List Int × Bool)
  | 0, _, _, _, _, _, _ => none
  | k + 1, x5, x11, x12, x13, x1000, x1001 => if x13 < x12 then (if 0 ≤ x13 then (if x13 < (x11.length : Int) then (seal_Reader_Num.l0 k (Go.bits .or .u64 (IntKind.u64.wrap (x5 * 256)) (IntKind.u64.wrap (rd x11 x13))) x11 x12 (wrap64 (x13 + 1)) x1000 x1001) else (none)) else (none)) else (some (x5, x1000, x1001))
def seal_Reader_Num.f (k : Nat) (s0_0 : List Int) (s0_1 : Bool) (a1 : Int) : Option (Int × List Int × Bool) := (seal_wide.f a1).bind fun t138 => ((seal_Reader_Take.f s0_0 s0_1 t138).bind fun bt139 => (seal_Reader_Num.l0 k 0 bt139.1 (bt139.1.length : Int) 0 bt139.2.1 bt139.2.2))
theorem seal_Reader_Num.mono_l : ∀ k, (∀ y0 y1 y2 y3 y4 y5, LeO (seal_Reader_Num.l0 k y0 y1 y2 y3 y4 y5) (seal_Reader_Num.l0 (k + 1) y0 y1 y2 y3 y4 y5))
  | 0 => fun _ _ _ _ _ _ r h => by simp [seal_Reader_Num.l0] at h
  | k + 1 => by
    have ih0 := seal_Reader_Num.mono_l k
    · intro y0 y1 y2 y3 y4 y5
      unfold seal_Reader_Num.l0
      repeat' first
      | (with_reducible exact ih0 _ _ _ _ _ _)
      | (with_reducible exact LeO.refl _)
      | (with_reducible exact LeO.none _)
      | (with_reducible refine LeO.ite ?_ ?_)
      | (with_reducible refine LeO.bind ?_ (fun _ => ?_))
      | exact ih0 _ _ _ _ _ _
      | exact LeO.none _
      | refine LeO.ite ?_ ?_
      | refine LeO.bind ?_ (fun _ => ?_)
theorem seal_Reader_Num.mono : ∀ a0 a1 a2 k, LeO (seal_Reader_Num.f k a0 a1 a2) (seal_Reader_Num.f (k + 1) a0 a1 a2) := by
  intro a0 a1 a2 k
  have ih0 := seal_Reader_Num.mono_l k
  unfold seal_Reader_Num.f
  repeat' first
      | (with_reducible exact ih0 _ _ _ _ _ _)
      | (with_reducible exact LeO.refl _)
      | (with_reducible exact LeO.none _)
      | (with_reducible refine LeO.ite ?_ ?_)
      | (with_reducible refine LeO.bind ?_ (fun _ => ?_))
      | exact ih0 _ _ _ _ _ _
      | exact LeO.none _
      | refine LeO.ite ?_ ?_
      | refine LeO.bind ?_ (fun _ => ?_)
set_option maxHeartbeats 8000000 in
set_option maxRecDepth 100000 in
theorem seal_Reader_Num.calls (k : Nat) (g : Nat) (s0_0 : List Int) (s0_1 : Bool) (a1 : Int) (r1 : Int) (r2 : List Int) (r3 : Bool) (w0 w : World) (hI : IsS99 w0 w g s0_0 s0_1) (hB : Below w0.heap.size w0 w) (h : seal_Reader_Num.f k s0_0 s0_1 a1 = some (r1, r2, r3)) :
    Calls Try.prog 59 #[.pointer (some ⟨g, 0, none⟩), .int .i64 a1] w fun e w' => e = .returned (.int .u64 r1) ∧ IsS99 w0 w' g r2 r3 ∧ Below w0.heap.size w0 w' ∧ KeepBut w w' g none := by
  have HI0 := Aside0.mk hI
  have HK := Aside0.mk (KeepBut.refl w g none)
  have HL := Aside0.mk hB.size
  clear hI
  have HW0 := Aside0.mk hB.size
  have HB := Aside0.mk hB
  clear hB
  have H : ((seal_wide.f a1).bind fun t138 => ((seal_Reader_Take.f s0_0 s0_1 t138).bind fun bt139 => (seal_Reader_Num.l0 k 0 bt139.1 (bt139.1.length : Int) 0 bt139.2.1 bt139.2.2))) = some (r1, r2, r3) := h
  clear h
  replace H := Option.bind_eq_some_iff.mp H
  obtain ⟨t138, A30, H⟩ := H
  replace H : ((seal_Reader_Take.f s0_0 s0_1 t138).bind fun bt139 => (seal_Reader_Num.l0 k 0 bt139.1 (bt139.1.length : Int) 0 bt139.2.1 bt139.2.2)) = some (r1, r2, r3) := H
  have A3 := Aside0.mk A30
  clear A30
  replace H := Option.bind_eq_some_iff.mp H
  obtain ⟨⟨t139, t142, t143⟩, A40, H⟩ := H
  replace H : (seal_Reader_Num.l0 k 0 t139 (t139.length : Int) 0 t142 t143) = some (r1, r2, r3) := H
  have A4 := Aside0.mk A40
  clear A40
  have H' := Aside0.mk H
  clear H
  go_enter Try.func59, Try.ntmps59
  go_wp2_with (first | ((with_reducible refine gate_callee (f := 68) rfl ?_); refine goesL_ (some 10) rfl rfl Try.func68 (by kernel_rfl) rfl #[.int .i64 a1] rfl (by (try simp only [List.map_toArray, List.map_cons, List.map_nil]); first | done | rfl | (simp only [List.length_drop, List.length_take]; rfl)) ?_; (with_reducible refine (seal_wide.calls a1 t138 _ A3.out).mono ?_); rintro e w5 ⟨rfl, hb⟩; refine ⟨_, rfl, ?_⟩; have n0_ := Aside0.mk (IsS99.below (by repeat (first | (with_reducible first | exact HI0.out | apply IsS99.alloc | apply IsS99.drewN | apply IsS99.drew | apply IsS99.set_1) | exact HI0.out)) hb); have n1_ := Aside0.mk (KeepBut.trans (by repeat (first | (with_reducible first | exact HK.out | apply KeepBut.set_ | apply keep_drewN | apply keep_drew | apply keep_alloc) | exact HK.out)) (KeepBut.of_below hb g none) (.inl rfl)); have n2_ := Aside0.mk (below_step (by repeat (first | (with_reducible first | exact HB.out | apply below_alloc | apply pw_below_drewN | apply below_drew1 | refine below_set ?_ (IsS99.ge HI0.out)) | exact HB.out)) hb); clear HI0; clear HK; clear HB; have HI0 := n0_; have HK := n1_; have HB := n2_; clear n0_ n1_ n2_; (try clear hb); (try clear hb2); (try clear hk); (try clear hi)) | ((with_reducible refine gate_callee (f := 70) rfl ?_); refine goesL_ (some 11) rfl rfl Try.func70 (by kernel_rfl) rfl #[.pointer (some ⟨g, 0, none⟩), .int .i64 t138] rfl (by (try simp only [List.map_toArray, List.map_cons, List.map_nil]); first | done | rfl | (simp only [List.length_drop, List.length_take]; rfl)) ?_; (with_reducible refine (seal_Reader_Take.calls g s0_0 s0_1 t138 t139 t142 t143 w0 _ ?side1 ?side2 A4.out).mono ?_); (case side1 => repeat (first | (with_reducible first | exact HI0.out | apply IsS99.alloc | apply IsS99.drewN | apply IsS99.drew | apply IsS99.set_1) | exact HI0.out)); (case side2 => repeat (first | (with_reducible first | exact HB.out | apply below_alloc | apply pw_below_drewN | apply below_drew1 | refine below_set ?_ (IsS99.ge HI0.out)) | exact HB.out)); rintro e w6 ⟨v140, rfl, ho0, hi, hb, hk⟩; refine ⟨_, rfl, ?_⟩; have n0_ := Aside0.mk (Kd.R_lower ho0 (keep_size (w := w) (g := g) (row := none) (by repeat (first | (with_reducible first | exact HK.out | apply KeepBut.set_ | apply keep_drewN | apply keep_drew | apply keep_alloc) | exact HK.out)))); have n1_ := Aside0.mk (KeepBut.trans (by repeat (first | (with_reducible first | exact HK.out | apply KeepBut.set_ | apply keep_drewN | apply keep_drew | apply keep_alloc) | exact HK.out)) hk (.inl rfl)); have n2_ := Aside0.mk (hb); have n3_ := Aside0.mk (hi); clear HK; clear HB; clear HI0; have HO141 := n0_; have HK := n1_; have HB := n2_; have HI0 := n3_; clear n0_ n1_ n2_ n3_; (try clear hb); (try clear hb2); (try clear hk); (try clear hi); (try clear ho0); obtain ⟨Ao7, co7, eo7⟩ := Kd.R_slice HO141.out; subst eo7))
  go_loopg [5, 13] k (fun kq v5 v13 w' => ∃ (x5_1 : Int) (x13_1 : Int), v5 = .int .u64 x5_1 ∧ v13 = .int .i64 x13_1 ∧ Aside0 (seal_Reader_Num.l0 kq x5_1 t139 (t139.length : Int) x13_1 t142 t143 = some (r1, r2, r3)) ∧ Aside0 (kq ≤ k) ∧ Aside0 (Kd.R (Kd.int .u8) 5 w' w.heap.size (fun _ => True) (.slice Ao7 t139.length co7) t139) ∧ Aside0 (IsS99 w0 w' g t142 t143) ∧ Aside0 (KeepBut w w' g none) ∧ Aside0 (Below w0.heap.size w0 w'))
  case atStart => exact ⟨(0), (0), (by first | rfl | (simp; done) | (simp [*]; done)), (by first | rfl | (simp; done) | (simp [*]; done)), H', ⟨Nat.le_refl _⟩, ⟨by (with_reducible repeat (first | apply Kd.R_alloc | apply Kd.R_drewN | apply Kd.R_drew)); exact HO141.out⟩, ⟨by repeat (first | (with_reducible first | exact HI0.out | apply IsS99.alloc | apply IsS99.drewN | apply IsS99.drew | apply IsS99.set_1) | exact HI0.out)⟩, ⟨by repeat (first | (with_reducible first | exact HK.out | apply KeepBut.set_ | apply keep_drewN | apply keep_drew | apply keep_alloc) | exact HK.out)⟩, ⟨by repeat (first | (with_reducible first | exact HB.out | apply below_alloc | apply pw_below_drewN | apply below_drew1 | refine below_set ?_ (IsS99.ge HI0.out)) | exact HB.out)⟩⟩
  case round =>
    clear H'
    try clear p2
    try clear c5
    try clear c6
    try clear c7
    obtain ⟨x5_1, x13_1, rfl, rfl, HA, HK1, HO_11, HI0, HK, HB⟩ := hrel
    cases gk with
    | zero => exact absurd HA.out (by simp [seal_Reader_Num.l0])
    | succ k1 =>
      have H := HA.out
      clear HA
      simp only [seal_Reader_Num.l0] at H
      by_cases c8 : x13_1 < (t139.length : Int)
      · rw [if_pos c8] at H
        have c8b0 : decide (x13_1 < (t139.length : Int)) = true := decide_eq_true c8
        clear c8
        by_cases c9 : 0 ≤ x13_1
        · rw [if_pos c9] at H
          have c9b0 : decide (0 ≤ x13_1) = true := decide_eq_true c9
          clear c9
          by_cases c10 : x13_1 < (t139.length : Int)
          · rw [if_pos c10] at H
            have c10b0 : decide (x13_1 < (t139.length : Int)) = true := decide_eq_true c10
            clear c10
            have H' := Aside0.mk H
            clear H
            have p144 : 0 ≤ (x13_1 : Int) := of_decide_eq_true (by first | (with_reducible assumption) | assumption)
            have q144 : x13_1 < (t139.length : Int) := of_decide_eq_true (by first | (with_reducible assumption) | assumption)
            obtain ⟨ad144, e144, hx144_0⟩ := Kd.at_int (Kd.R_reads' HO_11.out).2.2 x13_1 p144 q144
            cases e144
            replace p144 := eq_true p144
            replace q144 := eq_true q144
            go_wp2
            go_roundg k1
            case measure => have := HK1.out; omega
            case rel => exact ⟨(Go.bits .or .u64 (IntKind.u64.wrap (x5_1 * 256)) (IntKind.u64.wrap (rd t139 x13_1))), (wrap64 (x13_1 + 1)), (by first | rfl | (simp; done) | (simp [*]; done)), (by first | rfl | (simp; done) | (simp [*]; done)), H', ⟨by have := HK1.out; omega⟩, ⟨by (with_reducible repeat (first | apply Kd.R_alloc | apply Kd.R_drewN | apply Kd.R_drew)); exact HO_11.out⟩, ⟨by repeat (first | (with_reducible first | exact HI0.out | apply IsS99.alloc | apply IsS99.drewN | apply IsS99.drew | apply IsS99.set_1) | exact HI0.out)⟩, ⟨by repeat (first | (with_reducible first | exact HK.out | apply KeepBut.set_ | apply keep_drewN | apply keep_drew | apply keep_alloc) | exact HK.out)⟩, ⟨by repeat (first | (with_reducible first | exact HB.out | apply below_alloc | apply pw_below_drewN | apply below_drew1 | refine below_set ?_ (IsS99.ge HI0.out)) | exact HB.out)⟩⟩
          · rw [if_neg c10] at H
            exact absurd H (by simp)
        · rw [if_neg c9] at H
          exact absurd H (by simp)
      · rw [if_neg c8] at H
        have c8b0 : decide (x13_1 < (t139.length : Int)) = false := decide_eq_false c8
        clear c8
        simp only [Option.some.injEq, Prod.mk.injEq] at H
        obtain ⟨rfl, rfl, rfl⟩ := H
        go_wp2
        go_ret
        exact ⟨by first | rfl | (simp [errW_none, errW_some] <;> rfl) | (simp [*, errW_none, errW_some] <;> rfl), by repeat (first | (with_reducible first | exact HI0.out | apply IsS99.alloc | apply IsS99.drewN | apply IsS99.drew | apply IsS99.set_1) | exact HI0.out), by repeat (first | (with_reducible first | exact HB.out | apply below_alloc | apply pw_below_drewN | apply below_drew1 | refine below_set ?_ (IsS99.ge HI0.out)) | exact HB.out), by repeat (first | (with_reducible first | exact HK.out | apply KeepBut.set_ | apply keep_drewN | apply keep_drew | apply keep_alloc) | exact HK.out)⟩

/-! ### tell_Parse: function 33 -/
def tell_Parse.f (k : Nat) (l0 : List Int) : Option (Int × Int × Int × Int × Int × Int) := if (l0.length : Int) < 9 then (some (0, 0, 0, 0, 0, 16)) else (if (l0.length : Int) > 9 then (some (0, 0, 0, 0, 0, 17)) else ((seal_NewReader.f l0).bind fun bt146 => ((seal_Reader_Num.f k bt146.1 bt146.2 1).bind fun bt149 => ((seal_Reader_Num.f k bt149.2.1 bt149.2.2 4).bind fun bt152 => ((seal_Reader_Num.f k bt152.2.1 bt152.2.2 2).bind fun bt155 => ((seal_Reader_Num.f k bt155.2.1 bt155.2.2 1).bind fun bt158 => ((seal_Reader_Num.f k bt158.2.1 bt158.2.2 1).bind fun bt161 => ((tell_Right.f (wrap64 (bt149.1)) ((bt152.1) % 4294967296) (wrap64 (bt155.1)) (wrap64 (bt158.1)) (wrap64 (bt161.1))).bind fun t165 => (if t165 = 0 then (some (wrap64 (bt149.1), (bt152.1) % 4294967296, wrap64 (bt155.1), wrap64 (bt158.1), wrap64 (bt161.1), 0)) else (some (0, 0, 0, 0, 0, t165)))))))))))
theorem tell_Parse.mono : ∀ a0 k, LeO (tell_Parse.f k a0) (tell_Parse.f (k + 1) a0) := by
  intro a0 k
  unfold tell_Parse.f
  repeat' first
      | (with_reducible exact seal_Reader_Num.mono _ _ _ _)
      | (with_reducible exact LeO.refl _)
      | (with_reducible exact LeO.none _)
      | (with_reducible refine LeO.ite ?_ ?_)
      | (with_reducible refine LeO.bind ?_ (fun _ => ?_))
      | exact seal_Reader_Num.mono _ _ _ _
      | exact LeO.none _
      | refine LeO.ite ?_ ?_
      | refine LeO.bind ?_ (fun _ => ?_)
set_option maxHeartbeats 8000000 in
set_option maxRecDepth 100000 in
theorem tell_Parse.calls (k : Nat) (A0 : Option Addr) (c0 : Nat) (l0 : List Int) (r1 : Int) (r2 : Int) (r3 : Int) (r4 : Int) (r5 : Int) (r6 : Int) (w : World) (hr0 : Kd.C (Kd.int .u8) w A0 l0.length l0) (hc0 : l0.length ≤ c0) (h : tell_Parse.f k l0 = some (r1, r2, r3, r4, r5, r6)) :
    Calls Try.prog 33 #[.slice A0 l0.length c0] w fun e w' => e = .returned (.tuple #[.agg #[.int .i64 r1, .int .u32 r2, .int .i64 r3, .int .i64 r4, .int .i64 r5], .int .i64 r6]) ∧ Below w.heap.size w w' := by
  have hu49 := Try.underlying49
  have HR0 := Aside0.mk hr0
  have HC0 := Aside0.mk hc0
  clear hr0 hc0
  have HB := Aside0.mk (Below.refl w.heap.size w)
  have H : (if (l0.length : Int) < 9 then (some (0, 0, 0, 0, 0, 16)) else (if (l0.length : Int) > 9 then (some (0, 0, 0, 0, 0, 17)) else ((seal_NewReader.f l0).bind fun bt146 => ((seal_Reader_Num.f k bt146.1 bt146.2 1).bind fun bt149 => ((seal_Reader_Num.f k bt149.2.1 bt149.2.2 4).bind fun bt152 => ((seal_Reader_Num.f k bt152.2.1 bt152.2.2 2).bind fun bt155 => ((seal_Reader_Num.f k bt155.2.1 bt155.2.2 1).bind fun bt158 => ((seal_Reader_Num.f k bt158.2.1 bt158.2.2 1).bind fun bt161 => ((tell_Right.f (wrap64 (bt149.1)) ((bt152.1) % 4294967296) (wrap64 (bt155.1)) (wrap64 (bt158.1)) (wrap64 (bt161.1))).bind fun t165 => (if t165 = 0 then (some (wrap64 (bt149.1), (bt152.1) % 4294967296, wrap64 (bt155.1), wrap64 (bt158.1), wrap64 (bt161.1), 0)) else (some (0, 0, 0, 0, 0, t165)))))))))))) = some (r1, r2, r3, r4, r5, r6) := h
  clear h
  by_cases c2 : (l0.length : Int) < 9
  · rw [if_pos c2] at H
    have c2b0 : decide ((l0.length : Int) < 9) = true := decide_eq_true c2
    have c2b1 : decide (l0.length < 9) = true := decide_eq_true (by omega)
    clear c2
    simp only [Option.some.injEq, Prod.mk.injEq] at H
    obtain ⟨rfl, rfl, rfl, rfl, rfl, rfl⟩ := H
    go_enter Try.func33, Try.ntmps33
    go_wp2_with (first | ((with_reducible refine gate_dst (N := 2) rfl ?_); refine box_event ?hg (N := 2) ?hd (cs := #[.int .i64 0, .int .u32 0, .int .i64 0, .int .i64 0, .int .i64 0]) (t := 49) ?hr ?_; (case hd => rfl); (case hg => rfl); (case hr => first | (go_simp; done) | (go_simp; rfl)); intro gb145 hg w3 hbox hb; have n0_ := Aside0.mk (below_step (by repeat (first | (with_reducible first | exact HB.out | apply below_alloc | apply pw_below_drewN | apply below_drew1) | exact HB.out)) hb); have n1_ := Aside0.mk (hbox); have n2_ := Aside0.mk ((by rw [hg]; exact (below_size (by repeat (first | (with_reducible first | exact HB.out | apply below_alloc | apply pw_below_drewN | apply below_drew1) | exact HB.out))) : w.heap.size ≤ gb145)); have n3_ := Aside0.mk ((by rw [hg]; exact (below_size (by repeat (first | (with_reducible first | exact HB.out | apply below_alloc | apply pw_below_drewN | apply below_drew1) | exact HB.out))) : w.heap.size ≤ gb145)); clear HB; have HB := n0_; have BK145 := n1_; have GW145 := n2_; have GE145 := n3_; clear n0_ n1_ n2_ n3_; clear hb hbox hg; have hcz4_0 : w3.cell? ⟨gb145, 0, none⟩ = some (.int .i64 0) := (blk_cell BK145.out 0).trans rfl; have hcz4_1 : w3.cell? ⟨gb145, 1, none⟩ = some (.int .u32 0) := (blk_cell BK145.out 1).trans rfl; have hcz4_2 : w3.cell? ⟨gb145, 2, none⟩ = some (.int .i64 0) := (blk_cell BK145.out 2).trans rfl; have hcz4_3 : w3.cell? ⟨gb145, 3, none⟩ = some (.int .i64 0) := (blk_cell BK145.out 3).trans rfl; have hcz4_4 : w3.cell? ⟨gb145, 4, none⟩ = some (.int .i64 0) := (blk_cell BK145.out 4).trans rfl; have hfz4_0 := blk_frozen BK145.out 0; have hfz4_1 := blk_frozen BK145.out 1; have hfz4_2 := blk_frozen BK145.out 2; have hfz4_3 := blk_frozen BK145.out 3; have hfz4_4 := blk_frozen BK145.out 4))
    refine bodyPost_ret (results_ct rfl _ _ gb145 49 #[.int .i64 0, .int .u32 0, .int .i64 0, .int .i64 0, .int .i64 0] (0, 0) _ rfl (by (with_reducible repeat (first | refine blk_drewN ?_ _ | refine blk_drew ?_ | refine blk_alloc ?_ _)); refine blk_put (cs := #[.int .i64 0, .int .u32 0, .int .i64 0, .int .i64 0, .int .i64 0]) ?_ 4 _ rfl; (with_reducible repeat (first | refine blk_drewN ?_ _ | refine blk_drew ?_ | refine blk_alloc ?_ _)); refine blk_put (cs := #[.int .i64 0, .int .u32 0, .int .i64 0, .int .i64 0, .int .i64 0]) ?_ 3 _ rfl; (with_reducible repeat (first | refine blk_drewN ?_ _ | refine blk_drew ?_ | refine blk_alloc ?_ _)); refine blk_put (cs := #[.int .i64 0, .int .u32 0, .int .i64 0, .int .i64 0, .int .i64 0]) ?_ 2 _ rfl; (with_reducible repeat (first | refine blk_drewN ?_ _ | refine blk_drew ?_ | refine blk_alloc ?_ _)); refine blk_put (cs := #[.int .i64 0, .int .u32 0, .int .i64 0, .int .i64 0, .int .i64 0]) ?_ 1 _ rfl; (with_reducible repeat (first | refine blk_drewN ?_ _ | refine blk_drew ?_ | refine blk_alloc ?_ _)); refine blk_put (cs := #[.int .i64 0, .int .u32 0, .int .i64 0, .int .i64 0, .int .i64 0]) ?_ 0 _ rfl; (with_reducible repeat (first | refine blk_drewN ?_ _ | refine blk_drew ?_ | refine blk_alloc ?_ _)); exact BK145.out) Try.underlying49 rfl (by kernel_rfl)) rfl ?_
    exact ⟨by first | rfl | (simp [errW_none, errW_some] <;> rfl) | (simp [*, errW_none, errW_some] <;> rfl), by repeat (first | (with_reducible first | exact HB.out | apply below_alloc | apply pw_below_drewN | apply below_drew1 | refine below_set ?_ GE145.out) | exact HB.out)⟩
  · rw [if_neg c2] at H
    have c2b0 : decide ((l0.length : Int) < 9) = false := decide_eq_false c2
    have c2b1 : decide (l0.length < 9) = false := decide_eq_false (by omega)
    clear c2
    by_cases c5 : (l0.length : Int) > 9
    · rw [if_pos c5] at H
      have c5b0 : decide (9 < (l0.length : Int)) = true := decide_eq_true c5
      have c5b1 : decide (9 < l0.length) = true := decide_eq_true (by omega)
      clear c5
      simp only [Option.some.injEq, Prod.mk.injEq] at H
      obtain ⟨rfl, rfl, rfl, rfl, rfl, rfl⟩ := H
      go_enter Try.func33, Try.ntmps33
      go_wp2_with (first | ((with_reducible refine gate_dst (N := 2) rfl ?_); refine box_event ?hg (N := 2) ?hd (cs := #[.int .i64 0, .int .u32 0, .int .i64 0, .int .i64 0, .int .i64 0]) (t := 49) ?hr ?_; (case hd => rfl); (case hg => rfl); (case hr => first | (go_simp; done) | (go_simp; rfl)); intro gb145 hg w6 hbox hb; have n0_ := Aside0.mk (below_step (by repeat (first | (with_reducible first | exact HB.out | apply below_alloc | apply pw_below_drewN | apply below_drew1) | exact HB.out)) hb); have n1_ := Aside0.mk (hbox); have n2_ := Aside0.mk ((by rw [hg]; exact (below_size (by repeat (first | (with_reducible first | exact HB.out | apply below_alloc | apply pw_below_drewN | apply below_drew1) | exact HB.out))) : w.heap.size ≤ gb145)); have n3_ := Aside0.mk ((by rw [hg]; exact (below_size (by repeat (first | (with_reducible first | exact HB.out | apply below_alloc | apply pw_below_drewN | apply below_drew1) | exact HB.out))) : w.heap.size ≤ gb145)); clear HB; have HB := n0_; have BK145 := n1_; have GW145 := n2_; have GE145 := n3_; clear n0_ n1_ n2_ n3_; clear hb hbox hg; have hcz7_0 : w6.cell? ⟨gb145, 0, none⟩ = some (.int .i64 0) := (blk_cell BK145.out 0).trans rfl; have hcz7_1 : w6.cell? ⟨gb145, 1, none⟩ = some (.int .u32 0) := (blk_cell BK145.out 1).trans rfl; have hcz7_2 : w6.cell? ⟨gb145, 2, none⟩ = some (.int .i64 0) := (blk_cell BK145.out 2).trans rfl; have hcz7_3 : w6.cell? ⟨gb145, 3, none⟩ = some (.int .i64 0) := (blk_cell BK145.out 3).trans rfl; have hcz7_4 : w6.cell? ⟨gb145, 4, none⟩ = some (.int .i64 0) := (blk_cell BK145.out 4).trans rfl; have hfz7_0 := blk_frozen BK145.out 0; have hfz7_1 := blk_frozen BK145.out 1; have hfz7_2 := blk_frozen BK145.out 2; have hfz7_3 := blk_frozen BK145.out 3; have hfz7_4 := blk_frozen BK145.out 4))
      refine bodyPost_ret (results_ct rfl _ _ gb145 49 #[.int .i64 0, .int .u32 0, .int .i64 0, .int .i64 0, .int .i64 0] (0, 0) _ rfl (by (with_reducible repeat (first | refine blk_drewN ?_ _ | refine blk_drew ?_ | refine blk_alloc ?_ _)); refine blk_put (cs := #[.int .i64 0, .int .u32 0, .int .i64 0, .int .i64 0, .int .i64 0]) ?_ 4 _ rfl; (with_reducible repeat (first | refine blk_drewN ?_ _ | refine blk_drew ?_ | refine blk_alloc ?_ _)); refine blk_put (cs := #[.int .i64 0, .int .u32 0, .int .i64 0, .int .i64 0, .int .i64 0]) ?_ 3 _ rfl; (with_reducible repeat (first | refine blk_drewN ?_ _ | refine blk_drew ?_ | refine blk_alloc ?_ _)); refine blk_put (cs := #[.int .i64 0, .int .u32 0, .int .i64 0, .int .i64 0, .int .i64 0]) ?_ 2 _ rfl; (with_reducible repeat (first | refine blk_drewN ?_ _ | refine blk_drew ?_ | refine blk_alloc ?_ _)); refine blk_put (cs := #[.int .i64 0, .int .u32 0, .int .i64 0, .int .i64 0, .int .i64 0]) ?_ 1 _ rfl; (with_reducible repeat (first | refine blk_drewN ?_ _ | refine blk_drew ?_ | refine blk_alloc ?_ _)); refine blk_put (cs := #[.int .i64 0, .int .u32 0, .int .i64 0, .int .i64 0, .int .i64 0]) ?_ 0 _ rfl; (with_reducible repeat (first | refine blk_drewN ?_ _ | refine blk_drew ?_ | refine blk_alloc ?_ _)); exact BK145.out) Try.underlying49 rfl (by kernel_rfl)) rfl ?_
      exact ⟨by first | rfl | (simp [errW_none, errW_some] <;> rfl) | (simp [*, errW_none, errW_some] <;> rfl), by repeat (first | (with_reducible first | exact HB.out | apply below_alloc | apply pw_below_drewN | apply below_drew1 | refine below_set ?_ GE145.out) | exact HB.out)⟩
    · rw [if_neg c5] at H
      have c5b0 : decide (9 < (l0.length : Int)) = false := decide_eq_false c5
      have c5b1 : decide (9 < l0.length) = false := decide_eq_false (by omega)
      clear c5
      replace H := Option.bind_eq_some_iff.mp H
      obtain ⟨⟨t146, t147⟩, A80, H⟩ := H
      replace H : ((seal_Reader_Num.f k t146 t147 1).bind fun bt149 => ((seal_Reader_Num.f k bt149.2.1 bt149.2.2 4).bind fun bt152 => ((seal_Reader_Num.f k bt152.2.1 bt152.2.2 2).bind fun bt155 => ((seal_Reader_Num.f k bt155.2.1 bt155.2.2 1).bind fun bt158 => ((seal_Reader_Num.f k bt158.2.1 bt158.2.2 1).bind fun bt161 => ((tell_Right.f (wrap64 (bt149.1)) ((bt152.1) % 4294967296) (wrap64 (bt155.1)) (wrap64 (bt158.1)) (wrap64 (bt161.1))).bind fun t165 => (if t165 = 0 then (some (wrap64 (bt149.1), (bt152.1) % 4294967296, wrap64 (bt155.1), wrap64 (bt158.1), wrap64 (bt161.1), 0)) else (some (0, 0, 0, 0, 0, t165))))))))) = some (r1, r2, r3, r4, r5, r6) := H
      have A8 := Aside0.mk A80
      clear A80
      replace H := Option.bind_eq_some_iff.mp H
      obtain ⟨⟨t149, t150, t151⟩, A90, H⟩ := H
      replace H : ((seal_Reader_Num.f k t150 t151 4).bind fun bt152 => ((seal_Reader_Num.f k bt152.2.1 bt152.2.2 2).bind fun bt155 => ((seal_Reader_Num.f k bt155.2.1 bt155.2.2 1).bind fun bt158 => ((seal_Reader_Num.f k bt158.2.1 bt158.2.2 1).bind fun bt161 => ((tell_Right.f (wrap64 (t149)) ((bt152.1) % 4294967296) (wrap64 (bt155.1)) (wrap64 (bt158.1)) (wrap64 (bt161.1))).bind fun t165 => (if t165 = 0 then (some (wrap64 (t149), (bt152.1) % 4294967296, wrap64 (bt155.1), wrap64 (bt158.1), wrap64 (bt161.1), 0)) else (some (0, 0, 0, 0, 0, t165)))))))) = some (r1, r2, r3, r4, r5, r6) := H
      have A9 := Aside0.mk A90
      clear A90
      replace H := Option.bind_eq_some_iff.mp H
      obtain ⟨⟨t152, t153, t154⟩, A100, H⟩ := H
      replace H : ((seal_Reader_Num.f k t153 t154 2).bind fun bt155 => ((seal_Reader_Num.f k bt155.2.1 bt155.2.2 1).bind fun bt158 => ((seal_Reader_Num.f k bt158.2.1 bt158.2.2 1).bind fun bt161 => ((tell_Right.f (wrap64 (t149)) ((t152) % 4294967296) (wrap64 (bt155.1)) (wrap64 (bt158.1)) (wrap64 (bt161.1))).bind fun t165 => (if t165 = 0 then (some (wrap64 (t149), (t152) % 4294967296, wrap64 (bt155.1), wrap64 (bt158.1), wrap64 (bt161.1), 0)) else (some (0, 0, 0, 0, 0, t165))))))) = some (r1, r2, r3, r4, r5, r6) := H
      have A10 := Aside0.mk A100
      clear A100
      replace H := Option.bind_eq_some_iff.mp H
      obtain ⟨⟨t155, t156, t157⟩, A110, H⟩ := H
      replace H : ((seal_Reader_Num.f k t156 t157 1).bind fun bt158 => ((seal_Reader_Num.f k bt158.2.1 bt158.2.2 1).bind fun bt161 => ((tell_Right.f (wrap64 (t149)) ((t152) % 4294967296) (wrap64 (t155)) (wrap64 (bt158.1)) (wrap64 (bt161.1))).bind fun t165 => (if t165 = 0 then (some (wrap64 (t149), (t152) % 4294967296, wrap64 (t155), wrap64 (bt158.1), wrap64 (bt161.1), 0)) else (some (0, 0, 0, 0, 0, t165)))))) = some (r1, r2, r3, r4, r5, r6) := H
      have A11 := Aside0.mk A110
      clear A110
      replace H := Option.bind_eq_some_iff.mp H
      obtain ⟨⟨t158, t159, t160⟩, A120, H⟩ := H
      replace H : ((seal_Reader_Num.f k t159 t160 1).bind fun bt161 => ((tell_Right.f (wrap64 (t149)) ((t152) % 4294967296) (wrap64 (t155)) (wrap64 (t158)) (wrap64 (bt161.1))).bind fun t165 => (if t165 = 0 then (some (wrap64 (t149), (t152) % 4294967296, wrap64 (t155), wrap64 (t158), wrap64 (bt161.1), 0)) else (some (0, 0, 0, 0, 0, t165))))) = some (r1, r2, r3, r4, r5, r6) := H
      have A12 := Aside0.mk A120
      clear A120
      replace H := Option.bind_eq_some_iff.mp H
      obtain ⟨⟨t161, t162, t163⟩, A130, H⟩ := H
      replace H : ((tell_Right.f (wrap64 (t149)) ((t152) % 4294967296) (wrap64 (t155)) (wrap64 (t158)) (wrap64 (t161))).bind fun t165 => (if t165 = 0 then (some (wrap64 (t149), (t152) % 4294967296, wrap64 (t155), wrap64 (t158), wrap64 (t161), 0)) else (some (0, 0, 0, 0, 0, t165)))) = some (r1, r2, r3, r4, r5, r6) := H
      have A13 := Aside0.mk A130
      clear A130
      replace H := Option.bind_eq_some_iff.mp H
      obtain ⟨t165, A140, H⟩ := H
      replace H : (if t165 = 0 then (some (wrap64 (t149), (t152) % 4294967296, wrap64 (t155), wrap64 (t158), wrap64 (t161), 0)) else (some (0, 0, 0, 0, 0, t165))) = some (r1, r2, r3, r4, r5, r6) := H
      have A14 := Aside0.mk A140
      clear A140
      by_cases c15 : t165 = 0
      · rw [if_pos c15] at H
        have c15b0 : (t165 == 0) = true := beq_iff_eq.mpr c15
        have c15b1 : (t165 != 0) = false := bne_eq_false_iff_eq.mpr c15
        clear c15
        simp only [Option.some.injEq, Prod.mk.injEq] at H
        obtain ⟨rfl, rfl, rfl, rfl, rfl, rfl⟩ := H
        go_enter Try.func33, Try.ntmps33
        go_wp2_with (first | ((with_reducible refine gate_dst (N := 2) rfl ?_); refine box_event ?hg (N := 2) ?hd (cs := #[.int .i64 0, .int .u32 0, .int .i64 0, .int .i64 0, .int .i64 0]) (t := 49) ?hr ?_; (case hd => rfl); (case hg => rfl); (case hr => first | (go_simp; done) | (go_simp; rfl)); intro gb145 hg w16 hbox hb; have n0_ := Aside0.mk (below_step (by repeat (first | (with_reducible first | exact HB.out | apply below_alloc | apply pw_below_drewN | apply below_drew1) | exact HB.out)) hb); have n1_ := Aside0.mk (hbox); have n2_ := Aside0.mk ((by rw [hg]; exact (below_size (by repeat (first | (with_reducible first | exact HB.out | apply below_alloc | apply pw_below_drewN | apply below_drew1) | exact HB.out))) : w.heap.size ≤ gb145)); have n3_ := Aside0.mk ((by rw [hg]; exact (below_size (by repeat (first | (with_reducible first | exact HB.out | apply below_alloc | apply pw_below_drewN | apply below_drew1) | exact HB.out))) : w.heap.size ≤ gb145)); clear HB; have HB := n0_; have BK145 := n1_; have GW145 := n2_; have GE145 := n3_; clear n0_ n1_ n2_ n3_; clear hb hbox hg) | ((with_reducible refine gate_callee (f := 58) rfl ?_); refine goesL_ (some 19) rfl rfl Try.func58 (by kernel_rfl) rfl #[.slice A0 l0.length c0] rfl (by (try simp only [List.map_toArray, List.map_cons, List.map_nil]); first | done | rfl | (simp only [List.length_drop, List.length_take]; rfl)) ?_; (with_reducible refine (seal_NewReader.calls _ _ l0 t146 t147 w _ ?side1 ?side2 ?side3 A8.out).mono ?_); (case side1 => repeat (first | (with_reducible first | exact HB.out | apply below_alloc | apply pw_below_drewN | apply below_drew1 | refine below_set ?_ GE145.out) | exact HB.out)); (case side2 => repeat (first | exact (Kd.C_below HR0.out HB.out) | (with_reducible refine Kd.C_alloc ?_ _) | (with_reducible refine Kd.C_drewN ?_ _) | (with_reducible refine Kd.C_drew ?_))); (case side3 => exact HC0.out); rintro e w17 ⟨g148, rfl, hi, hb, hb2⟩; refine ⟨_, rfl, ?_⟩; have n0_ := Aside0.mk (blk_below (g := gb145) (o := .cells #[.int .i64 0, .int .u32 0, .int .i64 0, .int .i64 0, .int .i64 0] 49 (0, 0)) (by (with_reducible repeat (first | refine blk_drewN ?_ _ | refine blk_drew ?_ | refine blk_alloc ?_ _)); exact BK145.out) hb2); have n1_ := Aside0.mk (hb); have n2_ := Aside0.mk (hi); have n3_ := Aside0.mk (IsS99.ne_blk hi (blk_below (g := gb145) (o := .cells #[.int .i64 0, .int .u32 0, .int .i64 0, .int .i64 0, .int .i64 0] 49 (0, 0)) (by (with_reducible repeat (first | refine blk_drewN ?_ _ | refine blk_drew ?_ | refine blk_alloc ?_ _)); exact BK145.out) hb2) (by decide)); have n4_ := Aside0.mk (Ne.symm (IsS99.ne_blk hi (blk_below (g := gb145) (o := .cells #[.int .i64 0, .int .u32 0, .int .i64 0, .int .i64 0, .int .i64 0] 49 (0, 0)) (by (with_reducible repeat (first | refine blk_drewN ?_ _ | refine blk_drew ?_ | refine blk_alloc ?_ _)); exact BK145.out) hb2) (by decide))); clear BK145; clear HB; have BK145 := n0_; have HB := n1_; have HI148 := n2_; have NB148_145 := n3_; have NB145_148 := n4_; clear n0_ n1_ n2_ n3_ n4_; (try clear hb); (try clear hb2); (try clear hk); (try clear hi)) | ((with_reducible refine gate_callee (f := 59) rfl ?_); refine goesL_ (some 21) rfl rfl Try.func59 (by kernel_rfl) rfl #[.pointer (some ⟨g148, 0, none⟩), .int .i64 1] rfl (by (try simp only [List.map_toArray, List.map_cons, List.map_nil]); first | done | rfl | (simp only [List.length_drop, List.length_take]; rfl)) ?_; (with_reducible refine (seal_Reader_Num.calls k g148 t146 t147 1 t149 t150 t151 w _ ?side1 ?side2 A9.out).mono ?_); (case side1 => repeat (first | (with_reducible first | exact HI148.out | apply IsS99.alloc | apply IsS99.drewN | apply IsS99.drew | apply IsS99.set_1 | refine IsS99.far ?_ NB148_145.out FB148_145.out _) | exact HI148.out)); (case side2 => repeat (first | (with_reducible first | exact HB.out | apply below_alloc | apply pw_below_drewN | apply below_drew1 | refine below_set ?_ (IsS99.ge HI148.out) | refine below_set ?_ GE145.out) | exact HB.out)); rintro e w18 ⟨rfl, hi, hb, hk⟩; refine ⟨_, rfl, ?_⟩; have n0_ := Aside0.mk (KeepBut.blk hk (g' := gb145) (o := .cells #[.int .i64 0, .int .u32 0, .int .i64 0, .int .i64 0, .int .i64 0] 49 (0, 0)) (by (with_reducible repeat (first | refine blk_drewN ?_ _ | refine blk_drew ?_ | refine blk_alloc ?_ _)); exact BK145.out) NB145_148.out (by simp)); have n1_ := Aside0.mk (hb); have n2_ := Aside0.mk (hi); clear BK145; clear HB; clear HI148; have BK145 := n0_; have HB := n1_; have HI148 := n2_; clear n0_ n1_ n2_; (try clear hb); (try clear hb2); (try clear hk); (try clear hi)) | ((with_reducible refine gate_callee (f := 59) rfl ?_); refine goesL_ (some 24) rfl rfl Try.func59 (by kernel_rfl) rfl #[.pointer (some ⟨g148, 0, none⟩), .int .i64 4] rfl (by (try simp only [List.map_toArray, List.map_cons, List.map_nil]); first | done | rfl | (simp only [List.length_drop, List.length_take]; rfl)) ?_; (with_reducible refine (seal_Reader_Num.calls k g148 t150 t151 4 t152 t153 t154 w _ ?side1 ?side2 A10.out).mono ?_); (case side1 => repeat (first | (with_reducible first | exact HI148.out | apply IsS99.alloc | apply IsS99.drewN | apply IsS99.drew | apply IsS99.set_1 | refine IsS99.far ?_ NB148_145.out FB148_145.out _) | exact HI148.out)); (case side2 => repeat (first | (with_reducible first | exact HB.out | apply below_alloc | apply pw_below_drewN | apply below_drew1 | refine below_set ?_ (IsS99.ge HI148.out) | refine below_set ?_ GE145.out) | exact HB.out)); rintro e w19 ⟨rfl, hi, hb, hk⟩; refine ⟨_, rfl, ?_⟩; have n0_ := Aside0.mk (KeepBut.blk hk (g' := gb145) (o := .cells #[.int .i64 0, .int .u32 0, .int .i64 0, .int .i64 0, .int .i64 0] 49 (0, 0)) (by (with_reducible repeat (first | refine blk_drewN ?_ _ | refine blk_drew ?_ | refine blk_alloc ?_ _)); exact BK145.out) NB145_148.out (by simp)); have n1_ := Aside0.mk (hb); have n2_ := Aside0.mk (hi); clear BK145; clear HB; clear HI148; have BK145 := n0_; have HB := n1_; have HI148 := n2_; clear n0_ n1_ n2_; (try clear hb); (try clear hb2); (try clear hk); (try clear hi)) | ((with_reducible refine gate_callee (f := 59) rfl ?_); refine goesL_ (some 27) rfl rfl Try.func59 (by kernel_rfl) rfl #[.pointer (some ⟨g148, 0, none⟩), .int .i64 2] rfl (by (try simp only [List.map_toArray, List.map_cons, List.map_nil]); first | done | rfl | (simp only [List.length_drop, List.length_take]; rfl)) ?_; (with_reducible refine (seal_Reader_Num.calls k g148 t153 t154 2 t155 t156 t157 w _ ?side1 ?side2 A11.out).mono ?_); (case side1 => repeat (first | (with_reducible first | exact HI148.out | apply IsS99.alloc | apply IsS99.drewN | apply IsS99.drew | apply IsS99.set_1 | refine IsS99.far ?_ NB148_145.out FB148_145.out _) | exact HI148.out)); (case side2 => repeat (first | (with_reducible first | exact HB.out | apply below_alloc | apply pw_below_drewN | apply below_drew1 | refine below_set ?_ (IsS99.ge HI148.out) | refine below_set ?_ GE145.out) | exact HB.out)); rintro e w20 ⟨rfl, hi, hb, hk⟩; refine ⟨_, rfl, ?_⟩; have n0_ := Aside0.mk (KeepBut.blk hk (g' := gb145) (o := .cells #[.int .i64 0, .int .u32 0, .int .i64 0, .int .i64 0, .int .i64 0] 49 (0, 0)) (by (with_reducible repeat (first | refine blk_drewN ?_ _ | refine blk_drew ?_ | refine blk_alloc ?_ _)); exact BK145.out) NB145_148.out (by simp)); have n1_ := Aside0.mk (hb); have n2_ := Aside0.mk (hi); clear BK145; clear HB; clear HI148; have BK145 := n0_; have HB := n1_; have HI148 := n2_; clear n0_ n1_ n2_; (try clear hb); (try clear hb2); (try clear hk); (try clear hi)) | ((with_reducible refine gate_callee (f := 59) rfl ?_); refine goesL_ (some 30) rfl rfl Try.func59 (by kernel_rfl) rfl #[.pointer (some ⟨g148, 0, none⟩), .int .i64 1] rfl (by (try simp only [List.map_toArray, List.map_cons, List.map_nil]); first | done | rfl | (simp only [List.length_drop, List.length_take]; rfl)) ?_; (with_reducible refine (seal_Reader_Num.calls k g148 t156 t157 1 t158 t159 t160 w _ ?side1 ?side2 A12.out).mono ?_); (case side1 => repeat (first | (with_reducible first | exact HI148.out | apply IsS99.alloc | apply IsS99.drewN | apply IsS99.drew | apply IsS99.set_1 | refine IsS99.far ?_ NB148_145.out FB148_145.out _) | exact HI148.out)); (case side2 => repeat (first | (with_reducible first | exact HB.out | apply below_alloc | apply pw_below_drewN | apply below_drew1 | refine below_set ?_ (IsS99.ge HI148.out) | refine below_set ?_ GE145.out) | exact HB.out)); rintro e w21 ⟨rfl, hi, hb, hk⟩; refine ⟨_, rfl, ?_⟩; have n0_ := Aside0.mk (KeepBut.blk hk (g' := gb145) (o := .cells #[.int .i64 0, .int .u32 0, .int .i64 0, .int .i64 0, .int .i64 0] 49 (0, 0)) (by (with_reducible repeat (first | refine blk_drewN ?_ _ | refine blk_drew ?_ | refine blk_alloc ?_ _)); exact BK145.out) NB145_148.out (by simp)); have n1_ := Aside0.mk (hb); have n2_ := Aside0.mk (hi); clear BK145; clear HB; clear HI148; have BK145 := n0_; have HB := n1_; have HI148 := n2_; clear n0_ n1_ n2_; (try clear hb); (try clear hb2); (try clear hk); (try clear hi)) | ((with_reducible refine gate_callee (f := 59) rfl ?_); refine goesL_ (some 33) rfl rfl Try.func59 (by kernel_rfl) rfl #[.pointer (some ⟨g148, 0, none⟩), .int .i64 1] rfl (by (try simp only [List.map_toArray, List.map_cons, List.map_nil]); first | done | rfl | (simp only [List.length_drop, List.length_take]; rfl)) ?_; (with_reducible refine (seal_Reader_Num.calls k g148 t159 t160 1 t161 t162 t163 w _ ?side1 ?side2 A13.out).mono ?_); (case side1 => repeat (first | (with_reducible first | exact HI148.out | apply IsS99.alloc | apply IsS99.drewN | apply IsS99.drew | apply IsS99.set_1 | refine IsS99.far ?_ NB148_145.out FB148_145.out _) | exact HI148.out)); (case side2 => repeat (first | (with_reducible first | exact HB.out | apply below_alloc | apply pw_below_drewN | apply below_drew1 | refine below_set ?_ (IsS99.ge HI148.out) | refine below_set ?_ GE145.out) | exact HB.out)); rintro e w22 ⟨rfl, hi, hb, hk⟩; refine ⟨_, rfl, ?_⟩; have n0_ := Aside0.mk (KeepBut.blk hk (g' := gb145) (o := .cells #[.int .i64 0, .int .u32 0, .int .i64 0, .int .i64 0, .int .i64 0] 49 (0, 0)) (by (with_reducible repeat (first | refine blk_drewN ?_ _ | refine blk_drew ?_ | refine blk_alloc ?_ _)); exact BK145.out) NB145_148.out (by simp)); have n1_ := Aside0.mk (hb); have n2_ := Aside0.mk (hi); clear BK145; clear HB; clear HI148; have BK145 := n0_; have HB := n1_; have HI148 := n2_; clear n0_ n1_ n2_; (try clear hb); (try clear hb2); (try clear hk); (try clear hi)) | ((with_reducible refine gate_dst (N := 6) rfl ?_); refine box_event ?hg (N := 6) ?hd (cs := #[.int .i64 0, .int .u32 0, .int .i64 0, .int .i64 0, .int .i64 0]) (t := 49) ?hr ?_; (case hd => rfl); (case hg => rfl); (case hr => first | (go_simp; done) | (go_simp; rfl)); intro gb164 hg w23 hbox hb; have n0_ := Aside0.mk (blk_below (g := gb145) (o := .cells #[.int .i64 0, .int .u32 0, .int .i64 0, .int .i64 0, .int .i64 0] 49 (0, 0)) (by (with_reducible repeat (first | refine blk_drewN ?_ _ | refine blk_drew ?_ | refine blk_alloc ?_ _)); exact BK145.out) hb); have n1_ := Aside0.mk (IsS99.below (by repeat (first | (with_reducible first | exact HI148.out | apply IsS99.alloc | apply IsS99.drewN | apply IsS99.drew | apply IsS99.set_1 | refine IsS99.far ?_ NB148_145.out FB148_145.out _) | exact HI148.out)) hb); have n2_ := Aside0.mk (below_step (by repeat (first | (with_reducible first | exact HB.out | apply below_alloc | apply pw_below_drewN | apply below_drew1 | refine below_set ?_ (IsS99.ge HI148.out) | refine below_set ?_ GE145.out) | exact HB.out)) hb); have n3_ := Aside0.mk (hbox); have n4_ := Aside0.mk ((by rw [hg]; exact (below_size (by repeat (first | (with_reducible first | exact HB.out | apply below_alloc | apply pw_below_drewN | apply below_drew1 | refine below_set ?_ (IsS99.ge HI148.out) | refine below_set ?_ GE145.out) | exact HB.out))) : w.heap.size ≤ gb164)); have n5_ := Aside0.mk ((by rw [hg]; exact (below_size (by repeat (first | (with_reducible first | exact HB.out | apply below_alloc | apply pw_below_drewN | apply below_drew1 | refine below_set ?_ (IsS99.ge HI148.out) | refine below_set ?_ GE145.out) | exact HB.out))) : w.heap.size ≤ gb164)); have n6_ := Aside0.mk ((by rw [hg]; exact Nat.ne_of_lt (blk_lt (g := gb145) (o := .cells #[.int .i64 0, .int .u32 0, .int .i64 0, .int .i64 0, .int .i64 0] 49 (0, 0)) (by (with_reducible repeat (first | refine blk_drewN ?_ _ | refine blk_drew ?_ | refine blk_alloc ?_ _)); exact BK145.out)) : gb145 ≠ gb164)); have n7_ := Aside0.mk ((by rw [hg]; exact Nat.ne_of_gt (blk_lt (g := gb145) (o := .cells #[.int .i64 0, .int .u32 0, .int .i64 0, .int .i64 0, .int .i64 0] 49 (0, 0)) (by (with_reducible repeat (first | refine blk_drewN ?_ _ | refine blk_drew ?_ | refine blk_alloc ?_ _)); exact BK145.out)) : gb164 ≠ gb145)); have n8_ := Aside0.mk ((by rw [hg]; exact (IsS99.lt (show IsS99 w _ g148 t162 t163 from by repeat (first | (with_reducible first | exact HI148.out | apply IsS99.alloc | apply IsS99.drewN | apply IsS99.drew | apply IsS99.set_1 | refine IsS99.far ?_ NB148_145.out FB148_145.out _) | exact HI148.out))) : g148 < gb164)); have n9_ := Aside0.mk ((by rw [hg]; exact Nat.ne_of_lt (IsS99.lt (show IsS99 w _ g148 t162 t163 from by repeat (first | (with_reducible first | exact HI148.out | apply IsS99.alloc | apply IsS99.drewN | apply IsS99.drew | apply IsS99.set_1 | refine IsS99.far ?_ NB148_145.out FB148_145.out _) | exact HI148.out))) : g148 ≠ gb164)); have n10_ := Aside0.mk ((by rw [hg]; exact Nat.ne_of_gt (IsS99.lt (show IsS99 w _ g148 t162 t163 from by repeat (first | (with_reducible first | exact HI148.out | apply IsS99.alloc | apply IsS99.drewN | apply IsS99.drew | apply IsS99.set_1 | refine IsS99.far ?_ NB148_145.out FB148_145.out _) | exact HI148.out))) : gb164 ≠ g148)); clear BK145; clear HI148; clear HB; have BK145 := n0_; have HI148 := n1_; have HB := n2_; have BK164 := n3_; have GW164 := n4_; have GE164 := n5_; have NB145_164 := n6_; have NB164_145 := n7_; have FB148_164 := n8_; have NB148_164 := n9_; have NB164_148 := n10_; clear n0_ n1_ n2_ n3_ n4_ n5_ n6_ n7_ n8_ n9_ n10_; clear hb hbox hg; have hnb24 := NB164_145.out; have hnc24 := NB145_164.out; have hnb25 := NB164_148.out; have hnc25 := NB148_164.out; have hcz26_0 : w23.cell? ⟨gb164, 0, none⟩ = some (.int .i64 0) := (blk_cell BK164.out 0).trans rfl; have hcz26_1 : w23.cell? ⟨gb164, 1, none⟩ = some (.int .u32 0) := (blk_cell BK164.out 1).trans rfl; have hcz26_2 : w23.cell? ⟨gb164, 2, none⟩ = some (.int .i64 0) := (blk_cell BK164.out 2).trans rfl; have hcz26_3 : w23.cell? ⟨gb164, 3, none⟩ = some (.int .i64 0) := (blk_cell BK164.out 3).trans rfl; have hcz26_4 : w23.cell? ⟨gb164, 4, none⟩ = some (.int .i64 0) := (blk_cell BK164.out 4).trans rfl; have hfz26_0 := blk_frozen BK164.out 0; have hfz26_1 := blk_frozen BK164.out 1; have hfz26_2 := blk_frozen BK164.out 2; have hfz26_3 := blk_frozen BK164.out 3; have hfz26_4 := blk_frozen BK164.out 4) | ((with_reducible refine gate_callee (f := 31) rfl ?_); refine goesL_ (some 37) rfl rfl Try.func31 (by kernel_rfl) rfl #[.agg #[.int .i64 (wrap64 (t149)), .int .u32 ((t152) % 4294967296), .int .i64 (wrap64 (t155)), .int .i64 (wrap64 (t158)), .int .i64 (wrap64 (t161))]] rfl (by (try simp only [List.map_toArray, List.map_cons, List.map_nil]); first | done | rfl | (simp only [List.length_drop, List.length_take]; rfl)) ?_; (with_reducible refine (tell_Right.calls (wrap64 (t149)) ((t152) % 4294967296) (wrap64 (t155)) (wrap64 (t158)) (wrap64 (t161)) t165 _ A14.out).mono ?_); rintro e w27 ⟨rfl, hb⟩; refine ⟨_, rfl, ?_⟩; have n0_ := Aside0.mk (blk_below (g := gb145) (o := .cells #[.int .i64 0, .int .u32 0, .int .i64 0, .int .i64 0, .int .i64 0] 49 (0, 0)) (by (with_reducible repeat (first | refine blk_drewN ?_ _ | refine blk_drew ?_ | refine blk_alloc ?_ _)); refine blk_far ?_ NB145_164.out _; (with_reducible repeat (first | refine blk_drewN ?_ _ | refine blk_drew ?_ | refine blk_alloc ?_ _)); refine blk_far ?_ NB145_164.out _; (with_reducible repeat (first | refine blk_drewN ?_ _ | refine blk_drew ?_ | refine blk_alloc ?_ _)); refine blk_far ?_ NB145_164.out _; (with_reducible repeat (first | refine blk_drewN ?_ _ | refine blk_drew ?_ | refine blk_alloc ?_ _)); refine blk_far ?_ NB145_164.out _; (with_reducible repeat (first | refine blk_drewN ?_ _ | refine blk_drew ?_ | refine blk_alloc ?_ _)); refine blk_far ?_ NB145_164.out _; (with_reducible repeat (first | refine blk_drewN ?_ _ | refine blk_drew ?_ | refine blk_alloc ?_ _)); exact BK145.out) hb); have n1_ := Aside0.mk (IsS99.below (show IsS99 w (((((w23.setCell ⟨gb164, 0, none⟩ (.int .i64 (wrap64 (t149)))).setCell ⟨gb164, 1, none⟩ (.int .u32 ((t152) % 4294967296))).setCell ⟨gb164, 2, none⟩ (.int .i64 (wrap64 (t155)))).setCell ⟨gb164, 3, none⟩ (.int .i64 (wrap64 (t158)))).setCell ⟨gb164, 4, none⟩ (.int .i64 (wrap64 (t161)))) g148 t162 t163 from by repeat (first | (with_reducible first | exact HI148.out | apply IsS99.alloc | apply IsS99.drewN | apply IsS99.drew | apply IsS99.set_1 | refine IsS99.far ?_ NB148_145.out FB148_145.out _ | refine IsS99.far ?_ NB148_164.out FB148_164.out _) | exact HI148.out)) hb); have n2_ := Aside0.mk (blk_below (g := gb164) (o := .cells #[.int .i64 (wrap64 (t149)), .int .u32 ((t152) % 4294967296), .int .i64 (wrap64 (t155)), .int .i64 (wrap64 (t158)), .int .i64 (wrap64 (t161))] 49 (0, 0)) (by (with_reducible repeat (first | refine blk_drewN ?_ _ | refine blk_drew ?_ | refine blk_alloc ?_ _)); refine blk_put (cs := #[.int .i64 (wrap64 (t149)), .int .u32 ((t152) % 4294967296), .int .i64 (wrap64 (t155)), .int .i64 (wrap64 (t158)), .int .i64 0]) ?_ 4 _ rfl; (with_reducible repeat (first | refine blk_drewN ?_ _ | refine blk_drew ?_ | refine blk_alloc ?_ _)); refine blk_put (cs := #[.int .i64 (wrap64 (t149)), .int .u32 ((t152) % 4294967296), .int .i64 (wrap64 (t155)), .int .i64 0, .int .i64 0]) ?_ 3 _ rfl; (with_reducible repeat (first | refine blk_drewN ?_ _ | refine blk_drew ?_ | refine blk_alloc ?_ _)); refine blk_put (cs := #[.int .i64 (wrap64 (t149)), .int .u32 ((t152) % 4294967296), .int .i64 0, .int .i64 0, .int .i64 0]) ?_ 2 _ rfl; (with_reducible repeat (first | refine blk_drewN ?_ _ | refine blk_drew ?_ | refine blk_alloc ?_ _)); refine blk_put (cs := #[.int .i64 (wrap64 (t149)), .int .u32 0, .int .i64 0, .int .i64 0, .int .i64 0]) ?_ 1 _ rfl; (with_reducible repeat (first | refine blk_drewN ?_ _ | refine blk_drew ?_ | refine blk_alloc ?_ _)); refine blk_put (cs := #[.int .i64 0, .int .u32 0, .int .i64 0, .int .i64 0, .int .i64 0]) ?_ 0 _ rfl; (with_reducible repeat (first | refine blk_drewN ?_ _ | refine blk_drew ?_ | refine blk_alloc ?_ _)); exact BK164.out) hb); have n3_ := Aside0.mk (below_step (by repeat (first | (with_reducible first | exact HB.out | apply below_alloc | apply pw_below_drewN | apply below_drew1 | refine below_set ?_ (IsS99.ge HI148.out) | refine below_set ?_ GE145.out | refine below_set ?_ GE164.out) | exact HB.out)) hb); clear BK145; clear HI148; clear BK164; clear HB; have BK145 := n0_; have HI148 := n1_; have BK164 := n2_; have HB := n3_; clear n0_ n1_ n2_ n3_; (try clear hb); (try clear hb2); (try clear hk); (try clear hi); have hcz28_0 : w27.cell? ⟨gb164, 0, none⟩ = some (.int .i64 (wrap64 (t149))) := (blk_cell BK164.out 0).trans rfl; have hcz28_1 : w27.cell? ⟨gb164, 1, none⟩ = some (.int .u32 ((t152) % 4294967296)) := (blk_cell BK164.out 1).trans rfl; have hcz28_2 : w27.cell? ⟨gb164, 2, none⟩ = some (.int .i64 (wrap64 (t155))) := (blk_cell BK164.out 2).trans rfl; have hcz28_3 : w27.cell? ⟨gb164, 3, none⟩ = some (.int .i64 (wrap64 (t158))) := (blk_cell BK164.out 3).trans rfl; have hcz28_4 : w27.cell? ⟨gb164, 4, none⟩ = some (.int .i64 (wrap64 (t161))) := (blk_cell BK164.out 4).trans rfl; have hfz28_0 := blk_frozen BK164.out 0; have hfz28_1 := blk_frozen BK164.out 1; have hfz28_2 := blk_frozen BK164.out 2; have hfz28_3 := blk_frozen BK164.out 3; have hfz28_4 := blk_frozen BK164.out 4; have hnb29 := NB145_148.out; have hnc29 := NB148_145.out; have hcz30_0 : w27.cell? ⟨gb145, 0, none⟩ = some (.int .i64 0) := (blk_cell BK145.out 0).trans rfl; have hcz30_1 : w27.cell? ⟨gb145, 1, none⟩ = some (.int .u32 0) := (blk_cell BK145.out 1).trans rfl; have hcz30_2 : w27.cell? ⟨gb145, 2, none⟩ = some (.int .i64 0) := (blk_cell BK145.out 2).trans rfl; have hcz30_3 : w27.cell? ⟨gb145, 3, none⟩ = some (.int .i64 0) := (blk_cell BK145.out 3).trans rfl; have hcz30_4 : w27.cell? ⟨gb145, 4, none⟩ = some (.int .i64 0) := (blk_cell BK145.out 4).trans rfl; have hfz30_0 := blk_frozen BK145.out 0; have hfz30_1 := blk_frozen BK145.out 1; have hfz30_2 := blk_frozen BK145.out 2; have hfz30_3 := blk_frozen BK145.out 3; have hfz30_4 := blk_frozen BK145.out 4))
        refine bodyPost_ret (results_ct rfl _ _ gb145 49 #[.int .i64 (wrap64 (t149)), .int .u32 ((t152) % 4294967296), .int .i64 (wrap64 (t155)), .int .i64 (wrap64 (t158)), .int .i64 (wrap64 (t161))] (0, 0) _ rfl (by (with_reducible repeat (first | refine blk_drewN ?_ _ | refine blk_drew ?_ | refine blk_alloc ?_ _)); refine blk_put (cs := #[.int .i64 (wrap64 (t149)), .int .u32 ((t152) % 4294967296), .int .i64 (wrap64 (t155)), .int .i64 (wrap64 (t158)), .int .i64 0]) ?_ 4 _ rfl; (with_reducible repeat (first | refine blk_drewN ?_ _ | refine blk_drew ?_ | refine blk_alloc ?_ _)); refine blk_put (cs := #[.int .i64 (wrap64 (t149)), .int .u32 ((t152) % 4294967296), .int .i64 (wrap64 (t155)), .int .i64 0, .int .i64 0]) ?_ 3 _ rfl; (with_reducible repeat (first | refine blk_drewN ?_ _ | refine blk_drew ?_ | refine blk_alloc ?_ _)); refine blk_put (cs := #[.int .i64 (wrap64 (t149)), .int .u32 ((t152) % 4294967296), .int .i64 0, .int .i64 0, .int .i64 0]) ?_ 2 _ rfl; (with_reducible repeat (first | refine blk_drewN ?_ _ | refine blk_drew ?_ | refine blk_alloc ?_ _)); refine blk_put (cs := #[.int .i64 (wrap64 (t149)), .int .u32 0, .int .i64 0, .int .i64 0, .int .i64 0]) ?_ 1 _ rfl; (with_reducible repeat (first | refine blk_drewN ?_ _ | refine blk_drew ?_ | refine blk_alloc ?_ _)); refine blk_put (cs := #[.int .i64 0, .int .u32 0, .int .i64 0, .int .i64 0, .int .i64 0]) ?_ 0 _ rfl; (with_reducible repeat (first | refine blk_drewN ?_ _ | refine blk_drew ?_ | refine blk_alloc ?_ _)); exact BK145.out) Try.underlying49 rfl (by kernel_rfl)) rfl ?_
        exact ⟨by first | rfl | (simp [errW_none, errW_some] <;> rfl) | (simp [*, errW_none, errW_some] <;> rfl), by repeat (first | (with_reducible first | exact HB.out | apply below_alloc | apply pw_below_drewN | apply below_drew1 | refine below_set ?_ (IsS99.ge HI148.out) | refine below_set ?_ GE145.out | refine below_set ?_ GE164.out) | exact HB.out)⟩
      · rw [if_neg c15] at H
        have c15b0 : (t165 == 0) = false := beq_eq_false_iff_ne.mpr c15
        have c15b1 : (t165 != 0) = true := bne_iff_ne.mpr c15
        simp only [Option.some.injEq, Prod.mk.injEq] at H
        obtain ⟨rfl, rfl, rfl, rfl, rfl, rfl⟩ := H
        go_enter Try.func33, Try.ntmps33
        go_wp2_with (first | ((with_reducible refine gate_dst (N := 2) rfl ?_); refine box_event ?hg (N := 2) ?hd (cs := #[.int .i64 0, .int .u32 0, .int .i64 0, .int .i64 0, .int .i64 0]) (t := 49) ?hr ?_; (case hd => rfl); (case hg => rfl); (case hr => first | (go_simp; done) | (go_simp; rfl)); intro gb145 hg w31 hbox hb; have n0_ := Aside0.mk (below_step (by repeat (first | (with_reducible first | exact HB.out | apply below_alloc | apply pw_below_drewN | apply below_drew1) | exact HB.out)) hb); have n1_ := Aside0.mk (hbox); have n2_ := Aside0.mk ((by rw [hg]; exact (below_size (by repeat (first | (with_reducible first | exact HB.out | apply below_alloc | apply pw_below_drewN | apply below_drew1) | exact HB.out))) : w.heap.size ≤ gb145)); have n3_ := Aside0.mk ((by rw [hg]; exact (below_size (by repeat (first | (with_reducible first | exact HB.out | apply below_alloc | apply pw_below_drewN | apply below_drew1) | exact HB.out))) : w.heap.size ≤ gb145)); clear HB; have HB := n0_; have BK145 := n1_; have GW145 := n2_; have GE145 := n3_; clear n0_ n1_ n2_ n3_; clear hb hbox hg) | ((with_reducible refine gate_callee (f := 58) rfl ?_); refine goesL_ (some 19) rfl rfl Try.func58 (by kernel_rfl) rfl #[.slice A0 l0.length c0] rfl (by (try simp only [List.map_toArray, List.map_cons, List.map_nil]); first | done | rfl | (simp only [List.length_drop, List.length_take]; rfl)) ?_; (with_reducible refine (seal_NewReader.calls _ _ l0 t146 t147 w _ ?side1 ?side2 ?side3 A8.out).mono ?_); (case side1 => repeat (first | (with_reducible first | exact HB.out | apply below_alloc | apply pw_below_drewN | apply below_drew1 | refine below_set ?_ GE145.out) | exact HB.out)); (case side2 => repeat (first | exact (Kd.C_below HR0.out HB.out) | (with_reducible refine Kd.C_alloc ?_ _) | (with_reducible refine Kd.C_drewN ?_ _) | (with_reducible refine Kd.C_drew ?_))); (case side3 => exact HC0.out); rintro e w32 ⟨g148, rfl, hi, hb, hb2⟩; refine ⟨_, rfl, ?_⟩; have n0_ := Aside0.mk (blk_below (g := gb145) (o := .cells #[.int .i64 0, .int .u32 0, .int .i64 0, .int .i64 0, .int .i64 0] 49 (0, 0)) (by (with_reducible repeat (first | refine blk_drewN ?_ _ | refine blk_drew ?_ | refine blk_alloc ?_ _)); exact BK145.out) hb2); have n1_ := Aside0.mk (hb); have n2_ := Aside0.mk (hi); have n3_ := Aside0.mk (IsS99.ne_blk hi (blk_below (g := gb145) (o := .cells #[.int .i64 0, .int .u32 0, .int .i64 0, .int .i64 0, .int .i64 0] 49 (0, 0)) (by (with_reducible repeat (first | refine blk_drewN ?_ _ | refine blk_drew ?_ | refine blk_alloc ?_ _)); exact BK145.out) hb2) (by decide)); have n4_ := Aside0.mk (Ne.symm (IsS99.ne_blk hi (blk_below (g := gb145) (o := .cells #[.int .i64 0, .int .u32 0, .int .i64 0, .int .i64 0, .int .i64 0] 49 (0, 0)) (by (with_reducible repeat (first | refine blk_drewN ?_ _ | refine blk_drew ?_ | refine blk_alloc ?_ _)); exact BK145.out) hb2) (by decide))); clear BK145; clear HB; have BK145 := n0_; have HB := n1_; have HI148 := n2_; have NB148_145 := n3_; have NB145_148 := n4_; clear n0_ n1_ n2_ n3_ n4_; (try clear hb); (try clear hb2); (try clear hk); (try clear hi)) | ((with_reducible refine gate_callee (f := 59) rfl ?_); refine goesL_ (some 21) rfl rfl Try.func59 (by kernel_rfl) rfl #[.pointer (some ⟨g148, 0, none⟩), .int .i64 1] rfl (by (try simp only [List.map_toArray, List.map_cons, List.map_nil]); first | done | rfl | (simp only [List.length_drop, List.length_take]; rfl)) ?_; (with_reducible refine (seal_Reader_Num.calls k g148 t146 t147 1 t149 t150 t151 w _ ?side1 ?side2 A9.out).mono ?_); (case side1 => repeat (first | (with_reducible first | exact HI148.out | apply IsS99.alloc | apply IsS99.drewN | apply IsS99.drew | apply IsS99.set_1 | refine IsS99.far ?_ NB148_145.out FB148_145.out _) | exact HI148.out)); (case side2 => repeat (first | (with_reducible first | exact HB.out | apply below_alloc | apply pw_below_drewN | apply below_drew1 | refine below_set ?_ (IsS99.ge HI148.out) | refine below_set ?_ GE145.out) | exact HB.out)); rintro e w33 ⟨rfl, hi, hb, hk⟩; refine ⟨_, rfl, ?_⟩; have n0_ := Aside0.mk (KeepBut.blk hk (g' := gb145) (o := .cells #[.int .i64 0, .int .u32 0, .int .i64 0, .int .i64 0, .int .i64 0] 49 (0, 0)) (by (with_reducible repeat (first | refine blk_drewN ?_ _ | refine blk_drew ?_ | refine blk_alloc ?_ _)); exact BK145.out) NB145_148.out (by simp)); have n1_ := Aside0.mk (hb); have n2_ := Aside0.mk (hi); clear BK145; clear HB; clear HI148; have BK145 := n0_; have HB := n1_; have HI148 := n2_; clear n0_ n1_ n2_; (try clear hb); (try clear hb2); (try clear hk); (try clear hi)) | ((with_reducible refine gate_callee (f := 59) rfl ?_); refine goesL_ (some 24) rfl rfl Try.func59 (by kernel_rfl) rfl #[.pointer (some ⟨g148, 0, none⟩), .int .i64 4] rfl (by (try simp only [List.map_toArray, List.map_cons, List.map_nil]); first | done | rfl | (simp only [List.length_drop, List.length_take]; rfl)) ?_; (with_reducible refine (seal_Reader_Num.calls k g148 t150 t151 4 t152 t153 t154 w _ ?side1 ?side2 A10.out).mono ?_); (case side1 => repeat (first | (with_reducible first | exact HI148.out | apply IsS99.alloc | apply IsS99.drewN | apply IsS99.drew | apply IsS99.set_1 | refine IsS99.far ?_ NB148_145.out FB148_145.out _) | exact HI148.out)); (case side2 => repeat (first | (with_reducible first | exact HB.out | apply below_alloc | apply pw_below_drewN | apply below_drew1 | refine below_set ?_ (IsS99.ge HI148.out) | refine below_set ?_ GE145.out) | exact HB.out)); rintro e w34 ⟨rfl, hi, hb, hk⟩; refine ⟨_, rfl, ?_⟩; have n0_ := Aside0.mk (KeepBut.blk hk (g' := gb145) (o := .cells #[.int .i64 0, .int .u32 0, .int .i64 0, .int .i64 0, .int .i64 0] 49 (0, 0)) (by (with_reducible repeat (first | refine blk_drewN ?_ _ | refine blk_drew ?_ | refine blk_alloc ?_ _)); exact BK145.out) NB145_148.out (by simp)); have n1_ := Aside0.mk (hb); have n2_ := Aside0.mk (hi); clear BK145; clear HB; clear HI148; have BK145 := n0_; have HB := n1_; have HI148 := n2_; clear n0_ n1_ n2_; (try clear hb); (try clear hb2); (try clear hk); (try clear hi)) | ((with_reducible refine gate_callee (f := 59) rfl ?_); refine goesL_ (some 27) rfl rfl Try.func59 (by kernel_rfl) rfl #[.pointer (some ⟨g148, 0, none⟩), .int .i64 2] rfl (by (try simp only [List.map_toArray, List.map_cons, List.map_nil]); first | done | rfl | (simp only [List.length_drop, List.length_take]; rfl)) ?_; (with_reducible refine (seal_Reader_Num.calls k g148 t153 t154 2 t155 t156 t157 w _ ?side1 ?side2 A11.out).mono ?_); (case side1 => repeat (first | (with_reducible first | exact HI148.out | apply IsS99.alloc | apply IsS99.drewN | apply IsS99.drew | apply IsS99.set_1 | refine IsS99.far ?_ NB148_145.out FB148_145.out _) | exact HI148.out)); (case side2 => repeat (first | (with_reducible first | exact HB.out | apply below_alloc | apply pw_below_drewN | apply below_drew1 | refine below_set ?_ (IsS99.ge HI148.out) | refine below_set ?_ GE145.out) | exact HB.out)); rintro e w35 ⟨rfl, hi, hb, hk⟩; refine ⟨_, rfl, ?_⟩; have n0_ := Aside0.mk (KeepBut.blk hk (g' := gb145) (o := .cells #[.int .i64 0, .int .u32 0, .int .i64 0, .int .i64 0, .int .i64 0] 49 (0, 0)) (by (with_reducible repeat (first | refine blk_drewN ?_ _ | refine blk_drew ?_ | refine blk_alloc ?_ _)); exact BK145.out) NB145_148.out (by simp)); have n1_ := Aside0.mk (hb); have n2_ := Aside0.mk (hi); clear BK145; clear HB; clear HI148; have BK145 := n0_; have HB := n1_; have HI148 := n2_; clear n0_ n1_ n2_; (try clear hb); (try clear hb2); (try clear hk); (try clear hi)) | ((with_reducible refine gate_callee (f := 59) rfl ?_); refine goesL_ (some 30) rfl rfl Try.func59 (by kernel_rfl) rfl #[.pointer (some ⟨g148, 0, none⟩), .int .i64 1] rfl (by (try simp only [List.map_toArray, List.map_cons, List.map_nil]); first | done | rfl | (simp only [List.length_drop, List.length_take]; rfl)) ?_; (with_reducible refine (seal_Reader_Num.calls k g148 t156 t157 1 t158 t159 t160 w _ ?side1 ?side2 A12.out).mono ?_); (case side1 => repeat (first | (with_reducible first | exact HI148.out | apply IsS99.alloc | apply IsS99.drewN | apply IsS99.drew | apply IsS99.set_1 | refine IsS99.far ?_ NB148_145.out FB148_145.out _) | exact HI148.out)); (case side2 => repeat (first | (with_reducible first | exact HB.out | apply below_alloc | apply pw_below_drewN | apply below_drew1 | refine below_set ?_ (IsS99.ge HI148.out) | refine below_set ?_ GE145.out) | exact HB.out)); rintro e w36 ⟨rfl, hi, hb, hk⟩; refine ⟨_, rfl, ?_⟩; have n0_ := Aside0.mk (KeepBut.blk hk (g' := gb145) (o := .cells #[.int .i64 0, .int .u32 0, .int .i64 0, .int .i64 0, .int .i64 0] 49 (0, 0)) (by (with_reducible repeat (first | refine blk_drewN ?_ _ | refine blk_drew ?_ | refine blk_alloc ?_ _)); exact BK145.out) NB145_148.out (by simp)); have n1_ := Aside0.mk (hb); have n2_ := Aside0.mk (hi); clear BK145; clear HB; clear HI148; have BK145 := n0_; have HB := n1_; have HI148 := n2_; clear n0_ n1_ n2_; (try clear hb); (try clear hb2); (try clear hk); (try clear hi)) | ((with_reducible refine gate_callee (f := 59) rfl ?_); refine goesL_ (some 33) rfl rfl Try.func59 (by kernel_rfl) rfl #[.pointer (some ⟨g148, 0, none⟩), .int .i64 1] rfl (by (try simp only [List.map_toArray, List.map_cons, List.map_nil]); first | done | rfl | (simp only [List.length_drop, List.length_take]; rfl)) ?_; (with_reducible refine (seal_Reader_Num.calls k g148 t159 t160 1 t161 t162 t163 w _ ?side1 ?side2 A13.out).mono ?_); (case side1 => repeat (first | (with_reducible first | exact HI148.out | apply IsS99.alloc | apply IsS99.drewN | apply IsS99.drew | apply IsS99.set_1 | refine IsS99.far ?_ NB148_145.out FB148_145.out _) | exact HI148.out)); (case side2 => repeat (first | (with_reducible first | exact HB.out | apply below_alloc | apply pw_below_drewN | apply below_drew1 | refine below_set ?_ (IsS99.ge HI148.out) | refine below_set ?_ GE145.out) | exact HB.out)); rintro e w37 ⟨rfl, hi, hb, hk⟩; refine ⟨_, rfl, ?_⟩; have n0_ := Aside0.mk (KeepBut.blk hk (g' := gb145) (o := .cells #[.int .i64 0, .int .u32 0, .int .i64 0, .int .i64 0, .int .i64 0] 49 (0, 0)) (by (with_reducible repeat (first | refine blk_drewN ?_ _ | refine blk_drew ?_ | refine blk_alloc ?_ _)); exact BK145.out) NB145_148.out (by simp)); have n1_ := Aside0.mk (hb); have n2_ := Aside0.mk (hi); clear BK145; clear HB; clear HI148; have BK145 := n0_; have HB := n1_; have HI148 := n2_; clear n0_ n1_ n2_; (try clear hb); (try clear hb2); (try clear hk); (try clear hi)) | ((with_reducible refine gate_dst (N := 6) rfl ?_); refine box_event ?hg (N := 6) ?hd (cs := #[.int .i64 0, .int .u32 0, .int .i64 0, .int .i64 0, .int .i64 0]) (t := 49) ?hr ?_; (case hd => rfl); (case hg => rfl); (case hr => first | (go_simp; done) | (go_simp; rfl)); intro gb164 hg w38 hbox hb; have n0_ := Aside0.mk (blk_below (g := gb145) (o := .cells #[.int .i64 0, .int .u32 0, .int .i64 0, .int .i64 0, .int .i64 0] 49 (0, 0)) (by (with_reducible repeat (first | refine blk_drewN ?_ _ | refine blk_drew ?_ | refine blk_alloc ?_ _)); exact BK145.out) hb); have n1_ := Aside0.mk (IsS99.below (by repeat (first | (with_reducible first | exact HI148.out | apply IsS99.alloc | apply IsS99.drewN | apply IsS99.drew | apply IsS99.set_1 | refine IsS99.far ?_ NB148_145.out FB148_145.out _) | exact HI148.out)) hb); have n2_ := Aside0.mk (below_step (by repeat (first | (with_reducible first | exact HB.out | apply below_alloc | apply pw_below_drewN | apply below_drew1 | refine below_set ?_ (IsS99.ge HI148.out) | refine below_set ?_ GE145.out) | exact HB.out)) hb); have n3_ := Aside0.mk (hbox); have n4_ := Aside0.mk ((by rw [hg]; exact (below_size (by repeat (first | (with_reducible first | exact HB.out | apply below_alloc | apply pw_below_drewN | apply below_drew1 | refine below_set ?_ (IsS99.ge HI148.out) | refine below_set ?_ GE145.out) | exact HB.out))) : w.heap.size ≤ gb164)); have n5_ := Aside0.mk ((by rw [hg]; exact (below_size (by repeat (first | (with_reducible first | exact HB.out | apply below_alloc | apply pw_below_drewN | apply below_drew1 | refine below_set ?_ (IsS99.ge HI148.out) | refine below_set ?_ GE145.out) | exact HB.out))) : w.heap.size ≤ gb164)); have n6_ := Aside0.mk ((by rw [hg]; exact Nat.ne_of_lt (blk_lt (g := gb145) (o := .cells #[.int .i64 0, .int .u32 0, .int .i64 0, .int .i64 0, .int .i64 0] 49 (0, 0)) (by (with_reducible repeat (first | refine blk_drewN ?_ _ | refine blk_drew ?_ | refine blk_alloc ?_ _)); exact BK145.out)) : gb145 ≠ gb164)); have n7_ := Aside0.mk ((by rw [hg]; exact Nat.ne_of_gt (blk_lt (g := gb145) (o := .cells #[.int .i64 0, .int .u32 0, .int .i64 0, .int .i64 0, .int .i64 0] 49 (0, 0)) (by (with_reducible repeat (first | refine blk_drewN ?_ _ | refine blk_drew ?_ | refine blk_alloc ?_ _)); exact BK145.out)) : gb164 ≠ gb145)); have n8_ := Aside0.mk ((by rw [hg]; exact (IsS99.lt (show IsS99 w _ g148 t162 t163 from by repeat (first | (with_reducible first | exact HI148.out | apply IsS99.alloc | apply IsS99.drewN | apply IsS99.drew | apply IsS99.set_1 | refine IsS99.far ?_ NB148_145.out FB148_145.out _) | exact HI148.out))) : g148 < gb164)); have n9_ := Aside0.mk ((by rw [hg]; exact Nat.ne_of_lt (IsS99.lt (show IsS99 w _ g148 t162 t163 from by repeat (first | (with_reducible first | exact HI148.out | apply IsS99.alloc | apply IsS99.drewN | apply IsS99.drew | apply IsS99.set_1 | refine IsS99.far ?_ NB148_145.out FB148_145.out _) | exact HI148.out))) : g148 ≠ gb164)); have n10_ := Aside0.mk ((by rw [hg]; exact Nat.ne_of_gt (IsS99.lt (show IsS99 w _ g148 t162 t163 from by repeat (first | (with_reducible first | exact HI148.out | apply IsS99.alloc | apply IsS99.drewN | apply IsS99.drew | apply IsS99.set_1 | refine IsS99.far ?_ NB148_145.out FB148_145.out _) | exact HI148.out))) : gb164 ≠ g148)); clear BK145; clear HI148; clear HB; have BK145 := n0_; have HI148 := n1_; have HB := n2_; have BK164 := n3_; have GW164 := n4_; have GE164 := n5_; have NB145_164 := n6_; have NB164_145 := n7_; have FB148_164 := n8_; have NB148_164 := n9_; have NB164_148 := n10_; clear n0_ n1_ n2_ n3_ n4_ n5_ n6_ n7_ n8_ n9_ n10_; clear hb hbox hg; have hnb39 := NB164_145.out; have hnc39 := NB145_164.out; have hnb40 := NB164_148.out; have hnc40 := NB148_164.out; have hcz41_0 : w38.cell? ⟨gb164, 0, none⟩ = some (.int .i64 0) := (blk_cell BK164.out 0).trans rfl; have hcz41_1 : w38.cell? ⟨gb164, 1, none⟩ = some (.int .u32 0) := (blk_cell BK164.out 1).trans rfl; have hcz41_2 : w38.cell? ⟨gb164, 2, none⟩ = some (.int .i64 0) := (blk_cell BK164.out 2).trans rfl; have hcz41_3 : w38.cell? ⟨gb164, 3, none⟩ = some (.int .i64 0) := (blk_cell BK164.out 3).trans rfl; have hcz41_4 : w38.cell? ⟨gb164, 4, none⟩ = some (.int .i64 0) := (blk_cell BK164.out 4).trans rfl; have hfz41_0 := blk_frozen BK164.out 0; have hfz41_1 := blk_frozen BK164.out 1; have hfz41_2 := blk_frozen BK164.out 2; have hfz41_3 := blk_frozen BK164.out 3; have hfz41_4 := blk_frozen BK164.out 4) | ((with_reducible refine gate_callee (f := 31) rfl ?_); refine goesL_ (some 37) rfl rfl Try.func31 (by kernel_rfl) rfl #[.agg #[.int .i64 (wrap64 (t149)), .int .u32 ((t152) % 4294967296), .int .i64 (wrap64 (t155)), .int .i64 (wrap64 (t158)), .int .i64 (wrap64 (t161))]] rfl (by (try simp only [List.map_toArray, List.map_cons, List.map_nil]); first | done | rfl | (simp only [List.length_drop, List.length_take]; rfl)) ?_; (with_reducible refine (tell_Right.calls (wrap64 (t149)) ((t152) % 4294967296) (wrap64 (t155)) (wrap64 (t158)) (wrap64 (t161)) t165 _ A14.out).mono ?_); rintro e w42 ⟨rfl, hb⟩; refine ⟨_, rfl, ?_⟩; have n0_ := Aside0.mk (blk_below (g := gb145) (o := .cells #[.int .i64 0, .int .u32 0, .int .i64 0, .int .i64 0, .int .i64 0] 49 (0, 0)) (by (with_reducible repeat (first | refine blk_drewN ?_ _ | refine blk_drew ?_ | refine blk_alloc ?_ _)); refine blk_far ?_ NB145_164.out _; (with_reducible repeat (first | refine blk_drewN ?_ _ | refine blk_drew ?_ | refine blk_alloc ?_ _)); refine blk_far ?_ NB145_164.out _; (with_reducible repeat (first | refine blk_drewN ?_ _ | refine blk_drew ?_ | refine blk_alloc ?_ _)); refine blk_far ?_ NB145_164.out _; (with_reducible repeat (first | refine blk_drewN ?_ _ | refine blk_drew ?_ | refine blk_alloc ?_ _)); refine blk_far ?_ NB145_164.out _; (with_reducible repeat (first | refine blk_drewN ?_ _ | refine blk_drew ?_ | refine blk_alloc ?_ _)); refine blk_far ?_ NB145_164.out _; (with_reducible repeat (first | refine blk_drewN ?_ _ | refine blk_drew ?_ | refine blk_alloc ?_ _)); exact BK145.out) hb); have n1_ := Aside0.mk (IsS99.below (show IsS99 w (((((w38.setCell ⟨gb164, 0, none⟩ (.int .i64 (wrap64 (t149)))).setCell ⟨gb164, 1, none⟩ (.int .u32 ((t152) % 4294967296))).setCell ⟨gb164, 2, none⟩ (.int .i64 (wrap64 (t155)))).setCell ⟨gb164, 3, none⟩ (.int .i64 (wrap64 (t158)))).setCell ⟨gb164, 4, none⟩ (.int .i64 (wrap64 (t161)))) g148 t162 t163 from by repeat (first | (with_reducible first | exact HI148.out | apply IsS99.alloc | apply IsS99.drewN | apply IsS99.drew | apply IsS99.set_1 | refine IsS99.far ?_ NB148_145.out FB148_145.out _ | refine IsS99.far ?_ NB148_164.out FB148_164.out _) | exact HI148.out)) hb); have n2_ := Aside0.mk (blk_below (g := gb164) (o := .cells #[.int .i64 (wrap64 (t149)), .int .u32 ((t152) % 4294967296), .int .i64 (wrap64 (t155)), .int .i64 (wrap64 (t158)), .int .i64 (wrap64 (t161))] 49 (0, 0)) (by (with_reducible repeat (first | refine blk_drewN ?_ _ | refine blk_drew ?_ | refine blk_alloc ?_ _)); refine blk_put (cs := #[.int .i64 (wrap64 (t149)), .int .u32 ((t152) % 4294967296), .int .i64 (wrap64 (t155)), .int .i64 (wrap64 (t158)), .int .i64 0]) ?_ 4 _ rfl; (with_reducible repeat (first | refine blk_drewN ?_ _ | refine blk_drew ?_ | refine blk_alloc ?_ _)); refine blk_put (cs := #[.int .i64 (wrap64 (t149)), .int .u32 ((t152) % 4294967296), .int .i64 (wrap64 (t155)), .int .i64 0, .int .i64 0]) ?_ 3 _ rfl; (with_reducible repeat (first | refine blk_drewN ?_ _ | refine blk_drew ?_ | refine blk_alloc ?_ _)); refine blk_put (cs := #[.int .i64 (wrap64 (t149)), .int .u32 ((t152) % 4294967296), .int .i64 0, .int .i64 0, .int .i64 0]) ?_ 2 _ rfl; (with_reducible repeat (first | refine blk_drewN ?_ _ | refine blk_drew ?_ | refine blk_alloc ?_ _)); refine blk_put (cs := #[.int .i64 (wrap64 (t149)), .int .u32 0, .int .i64 0, .int .i64 0, .int .i64 0]) ?_ 1 _ rfl; (with_reducible repeat (first | refine blk_drewN ?_ _ | refine blk_drew ?_ | refine blk_alloc ?_ _)); refine blk_put (cs := #[.int .i64 0, .int .u32 0, .int .i64 0, .int .i64 0, .int .i64 0]) ?_ 0 _ rfl; (with_reducible repeat (first | refine blk_drewN ?_ _ | refine blk_drew ?_ | refine blk_alloc ?_ _)); exact BK164.out) hb); have n3_ := Aside0.mk (below_step (by repeat (first | (with_reducible first | exact HB.out | apply below_alloc | apply pw_below_drewN | apply below_drew1 | refine below_set ?_ (IsS99.ge HI148.out) | refine below_set ?_ GE145.out | refine below_set ?_ GE164.out) | exact HB.out)) hb); clear BK145; clear HI148; clear BK164; clear HB; have BK145 := n0_; have HI148 := n1_; have BK164 := n2_; have HB := n3_; clear n0_ n1_ n2_ n3_; (try clear hb); (try clear hb2); (try clear hk); (try clear hi); have hnb43 := NB145_148.out; have hnc43 := NB148_145.out; have hcz44_0 : w42.cell? ⟨gb145, 0, none⟩ = some (.int .i64 0) := (blk_cell BK145.out 0).trans rfl; have hcz44_1 : w42.cell? ⟨gb145, 1, none⟩ = some (.int .u32 0) := (blk_cell BK145.out 1).trans rfl; have hcz44_2 : w42.cell? ⟨gb145, 2, none⟩ = some (.int .i64 0) := (blk_cell BK145.out 2).trans rfl; have hcz44_3 : w42.cell? ⟨gb145, 3, none⟩ = some (.int .i64 0) := (blk_cell BK145.out 3).trans rfl; have hcz44_4 : w42.cell? ⟨gb145, 4, none⟩ = some (.int .i64 0) := (blk_cell BK145.out 4).trans rfl; have hfz44_0 := blk_frozen BK145.out 0; have hfz44_1 := blk_frozen BK145.out 1; have hfz44_2 := blk_frozen BK145.out 2; have hfz44_3 := blk_frozen BK145.out 3; have hfz44_4 := blk_frozen BK145.out 4))
        refine bodyPost_ret (results_ct rfl _ _ gb145 49 #[.int .i64 0, .int .u32 0, .int .i64 0, .int .i64 0, .int .i64 0] (0, 0) _ rfl (by (with_reducible repeat (first | refine blk_drewN ?_ _ | refine blk_drew ?_ | refine blk_alloc ?_ _)); refine blk_put (cs := #[.int .i64 0, .int .u32 0, .int .i64 0, .int .i64 0, .int .i64 0]) ?_ 4 _ rfl; (with_reducible repeat (first | refine blk_drewN ?_ _ | refine blk_drew ?_ | refine blk_alloc ?_ _)); refine blk_put (cs := #[.int .i64 0, .int .u32 0, .int .i64 0, .int .i64 0, .int .i64 0]) ?_ 3 _ rfl; (with_reducible repeat (first | refine blk_drewN ?_ _ | refine blk_drew ?_ | refine blk_alloc ?_ _)); refine blk_put (cs := #[.int .i64 0, .int .u32 0, .int .i64 0, .int .i64 0, .int .i64 0]) ?_ 2 _ rfl; (with_reducible repeat (first | refine blk_drewN ?_ _ | refine blk_drew ?_ | refine blk_alloc ?_ _)); refine blk_put (cs := #[.int .i64 0, .int .u32 0, .int .i64 0, .int .i64 0, .int .i64 0]) ?_ 1 _ rfl; (with_reducible repeat (first | refine blk_drewN ?_ _ | refine blk_drew ?_ | refine blk_alloc ?_ _)); refine blk_put (cs := #[.int .i64 0, .int .u32 0, .int .i64 0, .int .i64 0, .int .i64 0]) ?_ 0 _ rfl; (with_reducible repeat (first | refine blk_drewN ?_ _ | refine blk_drew ?_ | refine blk_alloc ?_ _)); exact BK145.out) Try.underlying49 rfl (by kernel_rfl)) rfl ?_
        exact ⟨by first | rfl | (simp [errW_none, errW_some] <;> rfl) | (simp [*, errW_none, errW_some] <;> rfl), by repeat (first | (with_reducible first | exact HB.out | apply below_alloc | apply pw_below_drewN | apply below_drew1 | refine below_set ?_ (IsS99.ge HI148.out) | refine below_set ?_ GE145.out | refine below_set ?_ GE164.out) | exact HB.out)⟩

/-! ### tell_Ordered: function 36 -/
def tell_Ordered.tok (i : Int) (x : S49) : Bool := x.f0 == 1 && x.f1 == i
def tell_Ordered.fin (i : Int) (x : S49) : Bool := x.f0 != 1 && x.f0 != 5 && x.f1 == i
def tell_Ordered.cnt (p : List S49) (i : Int) : Nat := (p.filter (tell_Ordered.tok i)).length
def tell_Ordered.ovr (p : List S49) (i : Int) : Bool := p.any (tell_Ordered.fin i)
def tell_Ordered.good (p : List S49) (x : S49) : Bool := x.f0 == 5 || (decide (1 ≤ x.f0) && decide (x.f0 ≤ 4) && !tell_Ordered.ovr p x.f1 && x.f2 == (tell_Ordered.cnt p x.f1 : Int))
def tell_Ordered.ord (p : List S49) : List S49 → Bool
  | [] => true
  | x :: t => if tell_Ordered.good p x = true then tell_Ordered.ord (p ++ [x]) t else false
def tell_Ordered.f (l0 : List S49) : Option Bool := if l0.length < 1000000 ∧ l0.all (fun x => decide (0 ≤ x.f1) && decide (x.f1 < 4294967296)) = true then some (tell_Ordered.ord [] l0) else none
theorem tell_Ordered.cnt_snoc (p : List S49) (x : S49) (i : Int) : tell_Ordered.cnt (p ++ [x]) i = tell_Ordered.cnt p i + if tell_Ordered.tok i x = true then 1 else 0 := by
  unfold tell_Ordered.cnt
  rw [List.filter_append, List.length_append, List.filter_cons]
  cases tell_Ordered.tok i x <;> simp
theorem tell_Ordered.ovr_snoc (p : List S49) (x : S49) (i : Int) : tell_Ordered.ovr (p ++ [x]) i = (tell_Ordered.ovr p i || tell_Ordered.fin i x) := by
  unfold tell_Ordered.ovr
  rw [List.any_append]
  simp
theorem tell_Ordered.cnt_le (p : List S49) (i : Int) : tell_Ordered.cnt p i ≤ p.length := List.length_filter_le ..
open Go.Maps in
theorem tell_Ordered.law : Keyed Try.prog 24 := int_keyed Try.underlying24
theorem tell_Ordered.zeroI (w : World) : (zeroValue 3).run Try.prog w = .ok (.int .i64 0) w := by kernel_rfl
theorem tell_Ordered.zeroB (w : World) : (zeroValue 4).run Try.prog w = .ok (.bool false) w := by kernel_rfl
def tell_Ordered.Cnt (w : World) (b n : Nat) (p : List S49) : Prop := ∃ D : DataW Unit, w.ownsMap Try.prog 24 (plainElem Try.prog 3) b n D ∧ Go.Maps.IsMap D ∧ ∀ i : Int, D.atKey (.int .u32 i) (.lit (.int .i64 0)) = .lit (.int .i64 (tell_Ordered.cnt p i))
def tell_Ordered.Ovr (w : World) (b n : Nat) (p : List S49) : Prop := ∃ D : DataW Unit, w.ownsMap Try.prog 24 (plainElem Try.prog 4) b n D ∧ Go.Maps.IsMap D ∧ ∀ i : Int, D.atKey (.int .u32 i) (.lit (.bool false)) = .lit (.bool (tell_Ordered.ovr p i))
theorem tell_Ordered.Cnt.kept {w w' : World} {b n : Nat} {p : List S49} {row : Option Nat} (h : tell_Ordered.Cnt w b n p) (hg : w.grownBy w' row) (hne : some b ≠ row) : tell_Ordered.Cnt w' b n p := by
  obtain ⟨D, h1, h2⟩ := h
  exact ⟨D, h1.kept hg hne, h2⟩
theorem tell_Ordered.Ovr.kept {w w' : World} {b n : Nat} {p : List S49} {row : Option Nat} (h : tell_Ordered.Ovr w b n p) (hg : w.grownBy w' row) (hne : some b ≠ row) : tell_Ordered.Ovr w' b n p := by
  obtain ⟨D, h1, h2⟩ := h
  exact ⟨D, h1.kept hg hne, h2⟩
set_option maxRecDepth 100000 in
theorem tell_Ordered.Cnt.look {w : World} {b n : Nat} {p : List S49} (h : tell_Ordered.Cnt w b n p) (i : Int) (hw : (Lit.int .u32 i).wf = true) :
    (Instr.lookup 92 (.map (some b)) (.int .u32 i) false).run Try.prog w = .ok (.int .i64 (tell_Ordered.cnt p i)) w := by
  obtain ⟨D, h1, _, h2⟩ := h
  obtain ⟨c, hr, ha, _⟩ := h1.lookup_int tell_Ordered.law Try.underlying92 Try.underlying3 (tell_Ordered.zeroI w) (Go.Maps.keyOf_int_mk Try.underlying24 hw)
  rw [h2 i] at ha
  injection ha with ha
  injection ha with _ ha
  rw [hr, ha]
set_option maxRecDepth 100000 in
theorem tell_Ordered.Ovr.look {w : World} {b n : Nat} {p : List S49} (h : tell_Ordered.Ovr w b n p) (i : Int) (hw : (Lit.int .u32 i).wf = true) :
    (Instr.lookup 93 (.map (some b)) (.int .u32 i) false).run Try.prog w = .ok (.bool (tell_Ordered.ovr p i)) w := by
  obtain ⟨D, h1, _, h2⟩ := h
  obtain ⟨v, ps, hr, ha⟩ := h1.lookup tell_Ordered.law Try.underlying93 (tell_Ordered.zeroB w) (plainElem_bool Try.underlying4 false) (Go.Maps.keyOf_int_mk Try.underlying24 hw)
  rw [h2 i] at ha
  have hv : v = .bool (tell_Ordered.ovr p i) := by
    unfold plainElem at ha
    rw [Try.underlying4] at ha
    cases v <;> simp at ha
    rw [ha.1]
  rw [hr, hv]
theorem tell_Ordered.Cnt.put {w w' : World} {b n : Nat} {p : List S49} {x : S49} {D : DataW Unit} (h2 : Go.Maps.IsMap D ∧ ∀ i : Int, D.atKey (.int .u32 i) (.lit (.int .i64 0)) = .lit (.int .i64 (tell_Ordered.cnt p i)))
    (h : w'.ownsMap Try.prog 24 (plainElem Try.prog 3) b (n + 1) (D.put (.int .u32 x.f1) (.lit (.int .i64 ((tell_Ordered.cnt p x.f1 : Int) + 1))))) (hx : x.f0 = 1) : tell_Ordered.Cnt w' b (n + 1) (p ++ [x]) := by
  refine ⟨_, h, h2.1.put _ _, fun i => ?_⟩
  rw [tell_Ordered.cnt_snoc]
  by_cases e : i = x.f1
  · subst e
    rw [Go.Maps.atKey_put_same (k := .int .u32 x.f1) h2.1 (show WideAt.IsKeyLit (.int .u32 x.f1) from trivial), if_pos (by simp [tell_Ordered.tok, hx])]
    rfl
  · rw [Go.Maps.atKey_put_other (fun h => e (by injection h)), if_neg (by simp [tell_Ordered.tok]; intro _ h; exact e h.symm), h2.2 i]
    rfl
theorem tell_Ordered.Ovr.put {w w' : World} {b n : Nat} {p : List S49} {x : S49} {D : DataW Unit} (h2 : Go.Maps.IsMap D ∧ ∀ i : Int, D.atKey (.int .u32 i) (.lit (.bool false)) = .lit (.bool (tell_Ordered.ovr p i)))
    (h : w'.ownsMap Try.prog 24 (plainElem Try.prog 4) b (n + 1) (D.put (.int .u32 x.f1) (.lit (.bool true)))) (hx : x.f0 ≠ 1) (hx5 : x.f0 ≠ 5) : tell_Ordered.Ovr w' b (n + 1) (p ++ [x]) := by
  refine ⟨_, h, h2.1.put _ _, fun i => ?_⟩
  rw [tell_Ordered.ovr_snoc]
  by_cases e : i = x.f1
  · subst e
    rw [Go.Maps.atKey_put_same (k := .int .u32 x.f1) h2.1 (show WideAt.IsKeyLit (.int .u32 x.f1) from trivial)]
    simp [tell_Ordered.fin, hx, hx5]
  · rw [Go.Maps.atKey_put_other (fun h => e (by injection h)), h2.2 i]
    simp [tell_Ordered.fin]
    intro _ _ h
    exact absurd h.symm e
theorem tell_Ordered.Cnt.skip {w : World} {b n : Nat} {p : List S49} {x : S49} (h : tell_Ordered.Cnt w b n p) (hx : x.f0 ≠ 1) : tell_Ordered.Cnt w b (n + 1) (p ++ [x]) := by
  obtain ⟨D, h1, h2, h3⟩ := h
  refine ⟨D, h1.mono (Nat.le_succ _), h2, fun i => ?_⟩
  rw [h3 i, tell_Ordered.cnt_snoc, if_neg (by simp [tell_Ordered.tok, hx])]
  rfl
theorem tell_Ordered.Ovr.skip {w : World} {b n : Nat} {p : List S49} {x : S49} (h : tell_Ordered.Ovr w b n p) (hx : x.f0 = 1 ∨ x.f0 = 5) : tell_Ordered.Ovr w b (n + 1) (p ++ [x]) := by
  obtain ⟨D, h1, h2, h3⟩ := h
  refine ⟨D, h1.mono (Nat.le_succ _), h2, fun i => ?_⟩
  rw [h3 i, tell_Ordered.ovr_snoc]
  rcases hx with hx | hx <;> simp [tell_Ordered.fin, hx]
theorem tell_Ordered.made {w : World} : tell_Ordered.Cnt ((w.alloc (.map #[] 0)).alloc (.map #[] 0)) w.heap.size 0 [] ∧ tell_Ordered.Ovr ((w.alloc (.map #[] 0)).alloc (.map #[] 0)) (w.heap.size + 1) 0 [] := by
  refine ⟨⟨_, (World.ownsMap_made _ _ _ _).alloc _, Go.Maps.isMap_empty, fun i => rfl⟩, ⟨.map [], ?_, Go.Maps.isMap_empty, fun i => rfl⟩⟩
  have h := World.ownsMap_made (H := Unit) (w.alloc (.map #[] 0)) Try.prog 24 (plainElem Try.prog 4)
  simpa using h
theorem tell_Ordered.next {l : List S49} {n : Nat} {x : S49} (h : n < l.length) (hx : rd_T49 l (n : Int) = x) : l.take (n + 1) = l.take n ++ [x] ∧ l.drop n = x :: l.drop (n + 1) := by
  have e : l[n] = x := by rw [← hx]; simp [rd_T49, List.getD_eq_getElem?_getD, List.getElem?_eq_getElem h]
  exact ⟨by rw [List.take_succ_eq_append_getElem h, e], by rw [List.drop_eq_getElem_cons h, e]⟩
set_option maxRecDepth 100000 in
theorem tell_Ordered.within (x0 : Int) (q : Bool) (hq : (decide (1 ≤ x0) && decide (x0 ≤ 4)) = q) (w : World) : Calls Try.prog 55 #[.int .i64 x0, .int .i64 1, .int .i64 4] w fun e w' => e = .returned (.bool q) ∧ w = w' := by
  subst hq
  by_cases h1 : 1 ≤ x0
  · have d1 : decide (1 ≤ x0) = true := decide_eq_true h1
    go_enter Try.func55, Try.ntmps55
    go_wp2
    all_goals (go_ret; exact ⟨by simp [*], rfl⟩)
  · have d1 : decide (1 ≤ x0) = false := decide_eq_false h1
    go_enter Try.func55, Try.ntmps55
    go_wp2
    all_goals (go_ret; exact ⟨by simp [*], rfl⟩)
theorem tell_Ordered.Cnt.alloc {w : World} {b n : Nat} {p : List S49} (h : tell_Ordered.Cnt w b n p) (o : Obj) : tell_Ordered.Cnt (w.alloc o) b n p := by
  obtain ⟨D, h1, h2⟩ := h
  exact ⟨D, h1.alloc o, h2⟩
theorem tell_Ordered.Ovr.alloc {w : World} {b n : Nat} {p : List S49} (h : tell_Ordered.Ovr w b n p) (o : Obj) : tell_Ordered.Ovr (w.alloc o) b n p := by
  obtain ⟨D, h1, h2⟩ := h
  exact ⟨D, h1.alloc o, h2⟩
set_option maxHeartbeats 8000000 in
set_option maxRecDepth 100000 in
theorem tell_Ordered.calls (A0 : Option Addr) (c0 : Nat) (l0 : List S49) (r : Bool) (w : World) (hr0 : Kd.C k49 w A0 l0.length l0) (hc0 : l0.length ≤ c0) (h : tell_Ordered.f l0 = some r) :
    Calls Try.prog 36 #[.slice A0 l0.length c0] w fun e w' => e = .returned (.bool r) ∧ Below w.heap.size w w' := by
  unfold tell_Ordered.f at h
  split at h
  case isFalse => cases h
  rename_i hok
  have hl := hok.1
  have hid : ∀ x ∈ l0, 0 ≤ x.f1 ∧ x.f1 < 4294967296 := fun x hx => by simpa using List.all_eq_true.1 hok.2 x hx
  have HID := Aside0.mk hid
  have HRES := Aside0.mk (Option.some.inj h)
  have HR0 := Aside0.mk hr0
  have HL := Aside0.mk hl
  have HB := Aside0.mk (Below.refl w.heap.size w)
  clear hid h hok hr0 hc0 hl
  have hmm := @run_makeMap Try.prog
  go_enter Try.func36, Try.ntmps36
  go_wp2
  go_loopw [11] (fun i w' => ∃ n : Nat, n ≤ l0.length ∧ i = .int .i64 n ∧ Aside0 (tell_Ordered.ord (l0.take n) (l0.drop n) = r) ∧ Aside0 (tell_Ordered.Cnt w' w.heap.size n (l0.take n)) ∧ Aside0 (tell_Ordered.Ovr w' (w.heap.size + 1) n (l0.take n)) ∧ Aside0 (Below w.heap.size w w' ∧ w.heap.size + 2 ≤ w'.heap.size)) (fun i _ => l0.length - (intOf i).toNat)
  case atStart => exact ⟨0, Nat.zero_le _, rfl, ⟨by simpa using HRES.out⟩, ⟨by simpa using tell_Ordered.made.1⟩, ⟨by simpa using tell_Ordered.made.2⟩, ⟨below_alloc (below_alloc HB.out _) _, by simp⟩⟩
  case round =>
    clear HB HRES
    obtain ⟨n, hn, rfl, HA, HC, HO, HB⟩ := hrel
    by_cases c : n < l0.length
    · have c1 : decide ((n : Int) < (l0.length : Int)) = true := decide_eq_true (by omega)
      have c2 : decide (n < l0.length) = true := decide_eq_true c
      have hp0 : (0 : Int) ≤ (n : Int) := by omega
      have hq0 : (n : Int) < (l0.length : Int) := by omega
      obtain ⟨ad, e1, hx_0, hx_1, hx_2, hx_3, hx_4⟩ := at_T49 HR0.out (n : Int) hp0 hq0
      cases e1
      simp only [Int.toNat_natCast] at hx_0 hx_1 hx_2 hx_3 hx_4
      replace hx_0 := (HB.out.1.cell (World.block_lt_of_cell? w _ hx_0)).trans hx_0
      replace hx_1 := (HB.out.1.cell (World.block_lt_of_cell? w _ hx_1)).trans hx_1
      replace hx_2 := (HB.out.1.cell (World.block_lt_of_cell? w _ hx_2)).trans hx_2
      replace hx_3 := (HB.out.1.cell (World.block_lt_of_cell? w _ hx_3)).trans hx_3
      replace hx_4 := (HB.out.1.cell (World.block_lt_of_cell? w _ hx_4)).trans hx_4
      obtain ⟨x, hx⟩ : ∃ x, rd_T49 l0 (n : Int) = x := ⟨_, rfl⟩
      have hmem : x ∈ l0 := by rw [← hx]; simp [rd_T49, List.getD_eq_getElem?_getD, List.getElem?_eq_getElem c]
      have hnx := tell_Ordered.next c hx
      rw [hx] at hx_0 hx_1 hx_2 hx_3 hx_4
      have HX := Aside0.mk hnx
      have hidx := HID.out x hmem
      have HWF := Aside0.mk (WalkArith.wf_u32 (n := x.f1) ⟨hidx.1, by omega⟩)
      have HA2 := Aside0.mk (show (if tell_Ordered.good (l0.take n) x = true then tell_Ordered.ord (l0.take (n + 1)) (l0.drop (n + 1)) else false) = r from by have h := HA.out; rw [hnx.2] at h; rw [hnx.1]; exact h)
      clear hx hmem hnx hidx HA
      obtain ⟨x0, x1, x2, x3, x4⟩ := x
      dsimp only at hx_0 hx_1 hx_2 hx_3 hx_4 HWF
      obtain ⟨X, hX⟩ : ∃ X : S49, X = ⟨x0, x1, x2, x3, x4⟩ := ⟨_, rfl⟩
      rw [← hX] at HX HA2
      have HXE := Aside0.mk hX
      clear hX
      obtain ⟨m, hm⟩ : ∃ m : Nat, tell_Ordered.cnt (l0.take n) x1 = m := ⟨_, rfl⟩
      obtain ⟨v, hv⟩ : ∃ v : Bool, tell_Ordered.ovr (l0.take n) x1 = v := ⟨_, rfl⟩
      have hm0 : m ≤ n := by rw [← hm]; exact Nat.le_trans (tell_Ordered.cnt_le _ _) (by rw [List.length_take]; omega)
      have hl1 := HL.out
      have hlk1 : ∀ o, (Instr.lookup 92 (.map (some w.heap.size)) (.int .u32 x1) false).run Try.prog (wr.alloc o) = .ok (.int .i64 m) (wr.alloc o) := fun o => by rw [← hm]; exact (HC.out.alloc o).look x1 HWF.out
      have hlk2 : ∀ o, (Instr.lookup 93 (.map (some (w.heap.size + 1))) (.int .u32 x1) false).run Try.prog (wr.alloc o) = .ok (.bool v) (wr.alloc o) := fun o => by rw [← hv]; exact (HO.out.alloc o).look x1 HWF.out
      have HM := Aside0.mk hm
      have HV := Aside0.mk hv
      clear hm hv
      have HNX : tell_Ordered.good (l0.take n) X = (x0 == 5 || (decide (1 ≤ x0) && decide (x0 ≤ 4) && !v && x2 == (m : Int))) := by rw [HXE.out, ← HM.out, ← HV.out]; rfl
      have HG := Aside0.mk HNX
      clear HNX
      by_cases k5 : x0 = 5
      · have d5 : (x0 == 5) = true := beq_iff_eq.2 k5
        have HN := Aside0.mk (show tell_Ordered.ord (l0.take (n + 1)) (l0.drop (n + 1)) = r from by have h := HA2.out; rw [HG.out, d5, Bool.true_or, if_pos rfl] at h; exact h)
        have HC1 := Aside0.mk (fun o => ((HC.out.alloc o).skip (x := X) (by rw [HXE.out]; show x0 ≠ 1; omega)))
        have HO1 := Aside0.mk (fun o => ((HO.out.alloc o).skip (x := X) (by rw [HXE.out]; exact Or.inr k5)))
        clear k5
        go_wp2
        go_roundw
        case rel => exact ⟨n + 1, by omega, by go_num, HN, ⟨by rw [HX.out.1]; exact HC1.out _⟩, ⟨by rw [HX.out.1]; exact HO1.out _⟩, ⟨below_alloc HB.out.1 _, by have := HB.out.2; simp; omega⟩⟩
        case measure => simp [intOf]; omega
      · have d5 : (x0 == 5) = false := beq_eq_false_iff_ne.2 k5
        obtain ⟨q, hq⟩ : ∃ q : Bool, (decide (1 ≤ x0) && decide (x0 ≤ 4)) = q := ⟨_, rfl⟩
        have CW := Aside0.mk (tell_Ordered.within x0 q hq)
        have HQ := Aside0.mk hq
        have HG2 := Aside0.mk (show tell_Ordered.good (l0.take n) X = (q && !v && x2 == (m : Int)) from by rw [HG.out, d5, hq]; rfl)
        have HK5 := Aside0.mk k5
        clear hq k5 HG
        have hl2 : l0.length < 1000000 := hl1
        cases q with
        | false =>
          have HN := Aside0.mk (show false = r from by have h := HA2.out; rw [HG2.out] at h; exact h)
          go_wp2_with (go_at_call 55; (with_reducible refine (CW.out _).mono ?_); rintro e w' ⟨rfl, rfl⟩)
          go_ret
          exact ⟨by rw [← HN.out]; rfl, below_alloc HB.out.1 _⟩
        | true =>
          cases v with
          | true =>
            have HN := Aside0.mk (show false = r from by have h := HA2.out; rw [HG2.out] at h; exact h)
            go_wp2_with (go_at_call 55; (with_reducible refine (CW.out _).mono ?_); rintro e w' ⟨rfl, rfl⟩)
            go_ret
            exact ⟨by rw [← HN.out]; rfl, below_alloc HB.out.1 _⟩
          | false =>
            by_cases k2 : x2 = (m : Int)
            · have d2 : (x2 == (m : Int)) = true := beq_iff_eq.2 k2
              have d2n : (x2 != (m : Int)) = false := bne_eq_false_iff_eq.2 k2
              have HN := Aside0.mk (show tell_Ordered.ord (l0.take (n + 1)) (l0.drop (n + 1)) = r from by have h := HA2.out; rw [HG2.out, d2] at h; exact h)
              obtain ⟨D1, hD1, hD1b⟩ := HC.out
              obtain ⟨D2, hD2, hD2b⟩ := HO.out
              have HD1 := Aside0.mk hD1
              have HD1b := Aside0.mk hD1b
              have HD2 := Aside0.mk hD2
              have HD2b := Aside0.mk hD2b
              clear hD1 hD1b hD2 hD2b k2
              by_cases k1 : x0 = 1
              · have d1 : (x0 == 1) = true := beq_iff_eq.2 k1
                have HK1 := Aside0.mk k1
                clear k1
                go_wp2_with (first | (go_at_call 55; (with_reducible refine (CW.out _).mono ?_); rintro e w' ⟨rfl, rfl⟩) | (at_mapUpdate; refine wpList_mapUpdate_own _ rfl _ _ _ 92 rfl 24 3 tell_Ordered.law Try.underlying92 _ w.heap.size n _ rfl (HD1.out.alloc _) (by unfold maxLen; omega) _ _ _ rfl rfl (Go.Maps.keyOf_int_mk Try.underlying24 HWF.out) _ [] (plainElem_int Try.underlying3 (WalkArith.wf_i64 (n := (m : Int) + 1) (by omega))) ?_; intro w1 hown1 hgrow1; have HW1 := Aside0.mk hown1; have HGR := Aside0.mk hgrow1; clear hown1 hgrow1))
                go_roundw
                case rel =>
                  have hs1 : w.heap.size ≤ (wr.alloc (Obj.cells #[.int .i64 x0, .int .u32 x1, .int .i64 x2, .int .i64 x3, .int .i64 x4] 49)).heap.size := by have := HB.out.2; simp; omega
                  have hs2 := HGR.out.size
                  refine ⟨n + 1, by omega, by go_num, HN, ⟨?_⟩, ⟨?_⟩, ⟨(below_alloc HB.out.1 _).grown HGR.out hs1 (fun k hk => by cases hk; exact Nat.le_refl _), ?_⟩⟩
                  · rw [HX.out.1]
                    exact tell_Ordered.Cnt.put (w := wr) HD1b.out (by rw [HXE.out]; rw [show tell_Ordered.cnt (l0.take n) (S49.f1 ⟨x0, x1, x2, x3, x4⟩) = m from HM.out]; exact HW1.out) (by rw [HXE.out]; exact HK1.out)
                  · rw [HX.out.1]
                    exact tell_Ordered.Ovr.skip (((show tell_Ordered.Ovr wr (w.heap.size + 1) n (l0.take n) from ⟨D2, HD2.out, HD2b.out⟩).alloc _).kept HGR.out (by simp)) (Or.inl (by rw [HXE.out]; exact HK1.out))
                  · have h0 := HB.out.2
                    simp at hs2
                    omega
                case measure => simp [intOf]; omega
              · have d1 : (x0 == 1) = false := beq_eq_false_iff_ne.2 k1
                have HK1 := Aside0.mk k1
                clear k1
                go_wp2_with (first | (go_at_call 55; (with_reducible refine (CW.out _).mono ?_); rintro e w' ⟨rfl, rfl⟩) | (at_mapUpdate; refine wpList_mapUpdate_own _ rfl _ _ _ 93 rfl 24 4 tell_Ordered.law Try.underlying93 _ (w.heap.size + 1) n _ rfl (HD2.out.alloc _) (by unfold maxLen; omega) _ _ _ rfl rfl (Go.Maps.keyOf_int_mk Try.underlying24 HWF.out) _ [] (plainElem_bool Try.underlying4 true) ?_; intro w1 hown1 hgrow1; have HW1 := Aside0.mk hown1; have HGR := Aside0.mk hgrow1; clear hown1 hgrow1))
                go_roundw
                case rel =>
                  have hs1 : w.heap.size ≤ (wr.alloc (Obj.cells #[.int .i64 x0, .int .u32 x1, .int .i64 x2, .int .i64 x3, .int .i64 x4] 49)).heap.size := by have := HB.out.2; simp; omega
                  have hs2 := HGR.out.size
                  refine ⟨n + 1, by omega, by go_num, HN, ⟨?_⟩, ⟨?_⟩, ⟨(below_alloc HB.out.1 _).grown HGR.out hs1 (fun k hk => by cases hk; exact Nat.le_succ _), ?_⟩⟩
                  · rw [HX.out.1]
                    exact tell_Ordered.Cnt.skip (((show tell_Ordered.Cnt wr w.heap.size n (l0.take n) from ⟨D1, HD1.out, HD1b.out⟩).alloc _).kept HGR.out (by simp)) (by rw [HXE.out]; exact HK1.out)
                  · rw [HX.out.1]
                    exact tell_Ordered.Ovr.put (w := wr) HD2b.out (by rw [HXE.out]; exact HW1.out) (by rw [HXE.out]; exact HK1.out) (by rw [HXE.out]; exact HK5.out)
                  · have h0 := HB.out.2
                    simp at hs2
                    omega
                case measure => simp [intOf]; omega
            · have d2 : (x2 == (m : Int)) = false := beq_eq_false_iff_ne.2 k2
              have d2n : (x2 != (m : Int)) = true := bne_iff_ne.2 k2
              have HN := Aside0.mk (show false = r from by have h := HA2.out; rw [HG2.out, d2] at h; exact h)
              clear k2
              go_wp2_with (go_at_call 55; (with_reducible refine (CW.out _).mono ?_); rintro e w' ⟨rfl, rfl⟩)
              go_ret
              exact ⟨by rw [← HN.out]; rfl, below_alloc HB.out.1 _⟩
    · have c1 : decide ((n : Int) < (l0.length : Int)) = false := decide_eq_false (by omega)
      have c2 : decide (n < l0.length) = false := decide_eq_false c
      have hnl : n = l0.length := by omega
      subst hnl
      go_wp2
      go_ret
      exact ⟨by have h1 := HA.out; rw [List.drop_length] at h1; rw [← h1]; rfl, HB.out.1⟩

end Go.Proofs.Ytggoddiiglkpiaa.PTellMixes
