-- Written by a program of this session (wip/tools/mkprint.py over the kit's print).
import Derived.Test.YtehepnmagcjkaaaPBlobConfigsx0
namespace Go.Proofs.Ytehepnmagcjkaaa.PBlobConfigs
open Go.RowKit Go.Proofs.YtehepnmagcjkaaaW.PrintWords Go.Proofs.YtehepnmagcjkaaaW.PrintLast Go.Proofs.YtehepnmagcjkaaaW.PrintMore
attribute [local go_sem] max2_int min2_int max_two min_two max_three min_three max_four min_four   -- for this text's walks alone
set_option linter.unusedVariables false
set_option linter.unusedSimpArgs false

/-! ### bytes_Clone: function 85 -/
def bytes_Clone.f (l0 : List Int) : Option (List Int) := if l0.length < 140737488355328 then some l0 else none
set_option maxHeartbeats 8000000 in
set_option maxRecDepth 100000 in
theorem bytes_Clone.calls (A0 : Option Addr) (c0 : Nat) (l0 : List Int) (r : List Int) (w : World) (hr0 : Kd.C (Kd.int .u8) w A0 l0.length l0) (hc0 : l0.length ≤ c0) (h : bytes_Clone.f l0 = some r) :
    Calls Try.prog 85 #[.slice A0 l0.length c0] w fun e w' => ∃ v0_ : Value, e = .returned (v0_) ∧ Kd.R (Kd.int .u8) 5 w' w.heap.size (fun _ => True) v0_ r ∧ Below w.heap.size w w' := by
  unfold bytes_Clone.f at h
  by_cases hlim : l0.length < 140737488355328
  · rw [if_pos hlim] at h
    obtain rfl := Option.some.inj h
    clear h
    have HR0 := Aside0.mk hr0
    have HL := Aside0.mk hlim
    have hz := hr0.2.2
    clear hr0 hlim hc0
    have hcmp : ∀ W : World, (binOp .eql 32 (.slice A0 l0.length c0) (.slice none 0 0)).run Try.prog W = .ok (.bool A0.isNone) W := fun W => Lib.run_eql_slice_nil W _ _ A0 _ _ _ _ Try.underlying32
    cases A0 with
    | none =>
      have hl0 : l0 = [] := by
        rcases Nat.eq_zero_or_pos l0.length with h0 | h0
        · exact List.eq_nil_of_length_eq_zero h0
        · obtain ⟨ad, had, _⟩ := hz h0
          cases had
      subst hl0
      clear hz
      simp only [List.length_nil, Option.isNone_none] at hcmp
      have HB := Aside0.mk (Below.refl w.heap.size w)
      go_enter Try.func85, Try.ntmps85
      go_wp2
      go_ret
      exact ⟨_, rfl, Kd.R_nil _ _ _ _ _, HB.out⟩
    | some ad =>
      clear hz
      simp only [Option.isNone_some] at hcmp
      have HB := Aside0.mk (Below.refl w.heap.size w)
      go_enter Try.func85, Try.ntmps85
      go_wp2_with (first | ((with_reducible refine gate_dst (N := 5) rfl ?_); (try (refine gate_guard (by rfl) ?_; dsimp only)); refine Kd.R_lit (Kd.int .u8) _ 5 ?hg (N := 5) ?hd (xs := ([] : List Int)) (inner := []) (ok := fun _ => True) (okp := fun _ => True) ?hr ?hp (fun _ hk => hk) trivial (Below.refl _ _) (Nat.le_refl _) (by simp) ?_; (case hd => rfl); (case hg => rfl); (case hr => first | (go_simp; done) | (go_simp; rfl)); (case hp => exact (Reps.none _ _)); intro v188 w10 ho11 hb hg_ hnew_; clear hg_ hnew_; have n0_ := Aside0.mk (Kd.R_lower ho11 (below_size HB.out)); have n1_ := Aside0.mk (below_step HB.out hb); clear HB; have HO189 := n0_; have HB := n1_; clear n0_ n1_; clear hb ho11) | ((with_reducible refine gate_builtin (b := .append) (xs := #[.tmp 5, .tmp 6]) rfl ?_); (try (refine gate_guard (by rfl) ?_; dsimp only)); at_builtin; refine Kd.R_append_rows (Kd.int .u8) (w0 := w) w.heap.size rfl (.tmp 5) (.tmp 6) 32 5 (.int .u8 0) 1 rfl Try.underlying32 info5 rfl (by decide) (by omega) v188 [] l0 _ _ _ (fun _ => True) (fun _ => False) rfl rfl ?aO ?aR (fun _ _ h => h) (fun _ h => h.elim) ?aF ?aB ?aS ?aL ?_; (case aR => exact (Kd.C_below HR0.out HB.out)); (case aB => exact HB.out); (case aF => exact (fun _ _ => trivial)); (case aO => exact HO189.out); (case aS => exact (below_size HB.out)); (case aL => have := HL.out; simp; omega); intro v191 w12 ho hb hg hat; have n0_ := Aside0.mk (hb); have n1_ := Aside0.mk (ho); clear HB; clear HO189; have HB := n0_; have HO192 := n1_; clear n0_ n1_; clear ho hb hg hat))
      go_ret
      exact ⟨_, rfl, by simpa using HO192.out, HB.out⟩
  · rw [if_neg hlim] at h
    cases h

/-- A reader at block g of W: its bytes lie in an elder block, which nobody writes. -/
def Arr141 (w0 W : World) (g : Nat) (A0 : Option Addr) (f0 : List Int) : Prop :=
  f0.length ≤ 9223372036854775807 ∧ (0 < f0.length → ∃ k cells off, A0 = some ⟨k, off, none⟩ ∧ k < g ∧ w0.heap.size ≤ k ∧ W.heap[k]? = some (.cells cells 5 (0, 0)) ∧ ∀ j, j < f0.length → cells[off + j]? = some (.int .u8 (f0.getD j 0)))
def Ap141 (W : World) (g : Nat) (row : Option Nat) : Prop := some g ≠ row ∧ ∀ k cells, W.heap[k]? = some (.cells cells 5 (0, 0)) → some k ≠ row
@[simp] theorem Ap141_none (W : World) (g : Nat) : Ap141 W g none = True := by simp [Ap141]
def IsS141 (w0 W : World) (g : Nat) (f0 : List Int) (f1 : Bool) : Prop :=
  ∃ A0 c0, W.heap[g]? = some (.cells #[.slice A0 f0.length c0, .bool f1] 141 (0, 0)) ∧ w0.heap.size ≤ g ∧ f0.length ≤ c0 ∧ Arr141 w0 W g A0 f0
theorem Arr141.move {w0 W W1 : World} {g : Nat} {A0 : Option Addr} {f0 : List Int} (h : Arr141 w0 W g A0 f0) (hm : ∀ k cells, k < g → W.heap[k]? = some (.cells cells 5 (0, 0)) → W1.heap[k]? = some (.cells cells 5 (0, 0))) : Arr141 w0 W1 g A0 f0 := by
  refine ⟨h.1, fun hp => ?_⟩
  obtain ⟨k, cells, off, h1, h2, h3, h4, h5⟩ := h.2 hp
  exact ⟨k, cells, off, h1, h2, h3, hm _ _ h2 h4, h5⟩
theorem IsS141.move {w0 W W1 : World} {g : Nat} {f0 : List Int} {f1 : Bool} (h : IsS141 w0 W g f0 f1) (h1 : ∀ o, W.heap[g]? = some o → W1.heap[g]? = some o) (h2 : ∀ k cells, k < g → W.heap[k]? = some (.cells cells 5 (0, 0)) → W1.heap[k]? = some (.cells cells 5 (0, 0))) : IsS141 w0 W1 g f0 f1 := by
  obtain ⟨A0, c0, hb, hg, hl, hr0⟩ := h
  exact ⟨A0, c0, h1 _ hb, hg, hl, hr0.move h2⟩
theorem IsS141.grown {w0 W : World} {g : Nat} {f0 : List Int} {f1 : Bool} {W1 : World} {row : Option Nat} (h : IsS141 w0 W g f0 f1) (hw : W.grownBy W1 row) (hne : Ap141 W g row) : IsS141 w0 W1 g f0 f1 :=
  h.move (fun _ hb => blk_grown hb hw hne.1) (fun _ _ _ hb => blk_grown hb hw (hne.2 _ _ hb))
theorem IsS141.own_neN {w0 W : World} {g : Nat} {f0 : List Int} {f1 : Bool} {α : Type} {d : Kd α} {e : Nat} {base : Nat} {ok : Nat → Prop} {v : Value} {xs : List α} (h : IsS141 w0 W g f0 f1) (ho : Kd.N d e W base ok v xs) (ht : e ≠ 141) : some g ≠ v.ownBlock := by
  obtain ⟨A0, c0, hb, _⟩ := h
  exact Kd.N_ne ho hb ht
theorem IsS141.own_apN {w0 W : World} {g : Nat} {f0 : List Int} {f1 : Bool} {α : Type} {d : Kd α} {e : Nat} {base : Nat} {ok : Nat → Prop} {v : Value} {xs : List α} (h : IsS141 w0 W g f0 f1) (ho : Kd.N d e W base ok v xs) (ht : e ≠ 141 ∧ e ≠ 5) : Ap141 W g v.ownBlock :=
  ⟨h.own_neN ho ht.1, fun _ _ hc => Kd.N_ne ho hc ht.2⟩
theorem IsS141.fresh {w0 W : World} {g : Nat} {f0 : List Int} {f1 : Bool} (h : IsS141 w0 W g f0 f1) : ∀ k, W.heap.size ≤ k → k ≠ g := by
  obtain ⟨A0, c0, hb, _⟩ := h
  exact Kd.freshB hb
theorem IsS141.kept {w0 W : World} {g : Nat} {f0 : List Int} {f1 : Bool} {W1 : World} {S : Nat → Prop} (h : IsS141 w0 W g f0 f1) (hk : Kept W W1 S) (hne : ¬ S g) (hne2 : ∀ k cells, W.heap[k]? = some (.cells cells 5 (0, 0)) → ¬ S k) : IsS141 w0 W1 g f0 f1 :=
  h.move (fun _ hb => blk_kept hb hk hne) (fun _ _ _ hb => blk_kept hb hk (hne2 _ _ hb))
theorem IsS141.below {w0 W : World} {g : Nat} {f0 : List Int} {f1 : Bool} {W1 : World} (h : IsS141 w0 W g f0 f1) (hw : Below W.heap.size W W1) : IsS141 w0 W1 g f0 f1 := h.grown (grown_of_below hw none) (by simp)
theorem IsS141.alloc {w0 W : World} {g : Nat} {f0 : List Int} {f1 : Bool} (h : IsS141 w0 W g f0 f1) (o : Obj) : IsS141 w0 (W.alloc o) g f0 f1 := h.below (below_alloc (Below.refl _ _) o)
theorem IsS141.drewN {w0 W : World} {g : Nat} {f0 : List Int} {f1 : Bool} (h : IsS141 w0 W g f0 f1) (m : Nat) : IsS141 w0 (W.drewN m) g f0 f1 := h
theorem IsS141.drew {w0 W : World} {g : Nat} {f0 : List Int} {f1 : Bool} (h : IsS141 w0 W g f0 f1) : IsS141 w0 W.drew g f0 f1 := h
theorem IsS141.at_ {w0 W : World} {g : Nat} {f0 : List Int} {f1 : Bool} {w' : World} {m : Nat} (hq : W.drewN m = w') (h : IsS141 w0 W g f0 f1) : IsS141 w0 w' g f0 f1 := by subst hq; exact IsS141.drewN h m
theorem IsS141.apart {w0 W : World} {g : Nat} {f0 : List Int} {f1 : Bool} {α : Type} {d : Kd α} {e : Nat} {base : Nat} {ok : Nat → Prop} {v : Value} {xs : List α} (h : IsS141 w0 W g f0 f1) (ho : d.R e W base ok v xs) (ht : ∀ q, q ∈ e :: d.E → q ≠ 141) : d.R e W base (fun k => ok k ∧ k ≠ g) v xs := by
  obtain ⟨A0, c0, hb, _⟩ := h
  exact Kd.R_types ho hb ht
theorem IsS141.own_ne {w0 W : World} {g : Nat} {f0 : List Int} {f1 : Bool} {α : Type} {d : Kd α} {e : Nat} {base : Nat} {ok : Nat → Prop} {v : Value} {xs : List α} (h : IsS141 w0 W g f0 f1) (ho : d.R e W base ok v xs) (ht : e ≠ 141) : some g ≠ v.ownBlock := by
  obtain ⟨A0, c0, hb, _⟩ := h
  exact Kd.R_ne ho hb ht
theorem IsS141.own_ap {w0 W : World} {g : Nat} {f0 : List Int} {f1 : Bool} {α : Type} {d : Kd α} {e : Nat} {base : Nat} {ok : Nat → Prop} {v : Value} {xs : List α} (h : IsS141 w0 W g f0 f1) (ho : d.R e W base ok v xs) (ht : e ≠ 141 ∧ e ≠ 5) : Ap141 W g v.ownBlock :=
  ⟨h.own_ne ho ht.1, fun _ _ hc => Kd.R_ne ho hc ht.2⟩
theorem IsS141.apartQ {w0 W : World} {g : Nat} {f0 : List Int} {f1 : Bool} {α : Type} {d : Kd α} {e : Nat} {base : Nat} {ok : Nat → Prop} {v : Value} {xs : List α} (h : IsS141 w0 W g f0 f1) (ho : d.Q e W base ok v xs) (ht : ∀ q, q ∈ e :: d.E → q ≠ 141) : d.Q e W base (fun k => ok k ∧ k ≠ g) v xs := by
  obtain ⟨A0, c0, hb, _⟩ := h
  exact Kd.Q_types ho hb ht
theorem IsS141.own_neQ {w0 W : World} {g : Nat} {f0 : List Int} {f1 : Bool} {α : Type} {d : Kd α} {e : Nat} {base : Nat} {ok : Nat → Prop} {v : Value} {xs : List α} (h : IsS141 w0 W g f0 f1) (ho : d.Q e W base ok v xs) (ht : e ≠ 141) : some g ≠ v.ownBlock := by
  obtain ⟨A0, c0, hb, _⟩ := h
  exact Kd.Q_ne ho hb ht
theorem IsS141.own_apQ {w0 W : World} {g : Nat} {f0 : List Int} {f1 : Bool} {α : Type} {d : Kd α} {e : Nat} {base : Nat} {ok : Nat → Prop} {v : Value} {xs : List α} (h : IsS141 w0 W g f0 f1) (ho : d.Q e W base ok v xs) (ht : e ≠ 141 ∧ e ≠ 5) : Ap141 W g v.ownBlock :=
  ⟨h.own_neQ ho ht.1, fun _ _ hc => Kd.Q_ne ho hc ht.2⟩
theorem IsS141.lt {w0 W : World} {g : Nat} {f0 : List Int} {f1 : Bool} (h : IsS141 w0 W g f0 f1) : g < W.heap.size := by
  obtain ⟨A0, c0, hb, _⟩ := h
  exact blk_lt hb
theorem IsS141.ge {w0 W : World} {g : Nat} {f0 : List Int} {f1 : Bool} (h : IsS141 w0 W g f0 f1) : w0.heap.size ≤ g := by
  obtain ⟨A0, c0, hb, hg, _⟩ := h
  exact hg
theorem IsS141.ne_blk {w0 W : World} {g : Nat} {f0 : List Int} {f1 : Bool} {a : Nat} {cs : Array Value} {t : TypeId} {fr : Nat × Nat} (h : IsS141 w0 W g f0 f1) (hb2 : W.heap[a]? = some (.cells cs t fr)) (ht : t ≠ 141) : g ≠ a := by
  obtain ⟨A0, c0, hb, _⟩ := h
  rintro rfl
  rw [hb] at hb2
  injection hb2 with hb2
  injection hb2 with _ ht2
  exact ht ht2.symm
theorem IsS141.far {w0 W : World} {g : Nat} {f0 : List Int} {f1 : Bool} {p : Addr} (h : IsS141 w0 W g f0 f1) (hne : g ≠ p.block) (hlt : g < p.block) (u : Value) : IsS141 w0 (W.setCell p u) g f0 f1 := by
  obtain ⟨A0, c0, hb, hg, hl, hr0, hr1⟩ := h
  refine ⟨A0, c0, blk_far hb hne u, hg, hl, hr0, fun hp => ?_⟩
  obtain ⟨k, cells, off, h1, h2, h3, h4, h5⟩ := hr1 hp
  exact ⟨k, cells, off, h1, h2, h3, blk_far h4 (by omega) u, h5⟩
theorem cellS141_0 {W : World} {g : Nat} {A0 : Option Addr} {c0 : Nat} {f0 : List Int} {f1 : Bool} (h : W.heap[g]? = some (.cells #[.slice A0 f0.length c0, .bool f1] 141 (0, 0))) : W.cell? ⟨g, 0, none⟩ = some (.slice A0 f0.length c0) := (blk_cell h 0).trans rfl
theorem cellS141_1 {W : World} {g : Nat} {A0 : Option Addr} {c0 : Nat} {f0 : List Int} {f1 : Bool} (h : W.heap[g]? = some (.cells #[.slice A0 f0.length c0, .bool f1] 141 (0, 0))) : W.cell? ⟨g, 1, none⟩ = some (.bool f1) := (blk_cell h 1).trans rfl
theorem IsS141.set_1 {w0 W : World} {g : Nat} {f0 : List Int} {f1 : Bool} (h : IsS141 w0 W g f0 f1) (x : Bool) : IsS141 w0 (W.setCell ⟨g, 1, none⟩ (.bool x)) g f0 x := by
  obtain ⟨A0, c0, hb, hg, hl, hr0, hr1⟩ := h
  refine ⟨A0, c0, by simpa using blk_set hb 1 (.bool x), hg, hl, hr0, fun hp => ?_⟩
  obtain ⟨k, cells, off, h1, h2, h3, h4, h5⟩ := hr1 hp
  exact ⟨k, cells, off, h1, h2, h3, blk_far h4 (by show k ≠ g; omega) _, h5⟩
/-- Its bytes, read where they lie now. -/
theorem IsS141.reads {w0 W : World} {g : Nat} {f0 : List Int} {f1 : Bool} (h : IsS141 w0 W g f0 f1) : ∃ A0 c0, W.heap[g]? = some (.cells #[.slice A0 f0.length c0, .bool f1] 141 (0, 0)) ∧ f0.length ≤ c0 ∧ Kd.C (Kd.int .u8) W A0 f0.length f0 ∧ (0 < f0.length → ∃ k off, A0 = some ⟨k, off, none⟩ ∧ k < g) := by
  obtain ⟨A0, c0, hb, hg, hl, hr0, hr1⟩ := h
  refine ⟨A0, c0, hb, hl, ⟨rfl, hr0, fun hp => ?_⟩, fun hp => ?_⟩
  · obtain ⟨k, cells, off, h1, h2, h3, h4, h5⟩ := hr1 hp
    refine ⟨_, h1, fun j p hj => ⟨[.int .u8 p], rfl, rfl, fun i u hu => ?_⟩⟩
    have hjl := (List.getElem?_eq_some_iff.1 hj).1
    have hi : i = 0 := by
      have := (List.getElem?_eq_some_iff.1 hu).1
      simpa using this
    subst hi
    have hu' : Value.int .u8 p = u := by simpa using hu
    subst hu'
    have ha : (Addr.mk k off none).add (j * (Kd.int .u8).sz + 0) = ⟨k, off + j, none⟩ := by
      show (Addr.mk k off none).add (j * 1 + 0) = _
      unfold Addr.add
      by_cases h : j = 0 <;> simp [h]
    rw [ha, blk_cell h4, h5 j hjl]
    rw [List.getD_eq_getElem?_getD, hj]
    rfl
  · obtain ⟨k, cells, off, h1, h2, _⟩ := hr1 hp
    exact ⟨k, off, h1, h2⟩
/-- A row of the call's own, made before the reader. -/
theorem Arr141.of_R {w0 W : World} {base g : Nat} {ok : Nat → Prop} {A : Option Addr} {c : Nat} {xs : List Int} (h : Kd.R (Kd.int .u8) 5 W base ok (.slice A xs.length c) xs) (hb : w0.heap.size ≤ base) (hg : W.heap.size ≤ g) : Arr141 w0 W g A xs := by
  have ho := Kd.own_of_R h
  rcases ho.2 with ⟨h1, h2⟩ | ⟨k, cap, cur, he, hbk, hh, hnc, hcm, hsz, htk⟩
  · exact ⟨by omega, fun hp => by omega⟩
  · injection he with he1 he2 he3
    refine ⟨by simp only [maxLen] at hcm; omega, fun _ => ⟨k, cur, 0, he1, Nat.lt_of_lt_of_le (blk_lt hh) hg, Nat.le_trans hb hbk, hh, fun j hj => ?_⟩⟩
    have hj2 : (encs (Value.int .u8) xs)[j]? = some (.int .u8 (xs.getD j 0)) := by
      simp [encs, List.getElem?_eq_getElem hj, List.getD_eq_getElem?_getD]
    rw [← htk, List.getElem?_take] at hj2
    split at hj2
    · rw [Nat.zero_add, ← Array.getElem?_toList]
      exact hj2
    · cases hj2
theorem IsS141.grown_far {w0 W : World} {g : Nat} {f0 : List Int} {f1 : Bool} {W1 : World} {row : Option Nat} (h : IsS141 w0 W g f0 f1) (hw : W.grownBy W1 row) (hne : some g ≠ row) (hlt : ∀ k, row = some k → k < w0.heap.size) : IsS141 w0 W1 g f0 f1 := by
  obtain ⟨A0, c0, hb, hg, hl, hr0, hr1⟩ := h
  refine ⟨A0, c0, blk_grown hb hw hne, hg, hl, hr0, fun hp => ?_⟩
  obtain ⟨k, cells, off, h1, h2, h3, h4, h5⟩ := hr1 hp
  exact ⟨k, cells, off, h1, h2, h3, blk_grown h4 hw (fun e => by have := hlt k e.symm; omega), h5⟩
theorem IsS141.lower {w w0 W : World} {g : Nat} {f0 : List Int} {f1 : Bool} (hle : w.heap.size ≤ w0.heap.size) (h : IsS141 w0 W g f0 f1) : IsS141 w W g f0 f1 := by
  obtain ⟨A0, c0, hb, hg, hl, hr0, hr1⟩ := h
  refine ⟨A0, c0, hb, Nat.le_trans hle hg, hl, hr0, fun hp => ?_⟩
  obtain ⟨k, cells, off, h1, h2, h3, h4, h5⟩ := hr1 hp
  exact ⟨k, cells, off, h1, h2, Nat.le_trans hle h3, h4, h5⟩
theorem IsS141.apartS {w0 W : World} {g : Nat} {f0 : List Int} {f1 : Bool} {α : Type} {d : Kd α} {e : Nat} {base : Nat} {ok : Nat → Prop} {v : Value} {xs : List α} (h : IsS141 w0 W g f0 f1) (ho : d.S e W base ok v xs) (ht : ∀ q, q ∈ e :: d.E → q ≠ 141) : d.S e W base (fun k => ok k ∧ k ≠ g) v xs := by
  obtain ⟨A0, c0, hb, _⟩ := h
  exact Kd.S_types ho hb ht
theorem IsS141.own_neS {w0 W : World} {g : Nat} {f0 : List Int} {f1 : Bool} {α : Type} {d : Kd α} {e : Nat} {base : Nat} {ok : Nat → Prop} {v : Value} {xs : List α} (h : IsS141 w0 W g f0 f1) (ho : d.S e W base ok v xs) (ht : e ≠ 141) : some g ≠ v.ownBlock := by
  obtain ⟨A0, c0, hb, _⟩ := h
  exact Kd.S_ne ho hb ht
theorem IsS141.own_apS {w0 W : World} {g : Nat} {f0 : List Int} {f1 : Bool} {α : Type} {d : Kd α} {e : Nat} {base : Nat} {ok : Nat → Prop} {v : Value} {xs : List α} (h : IsS141 w0 W g f0 f1) (ho : d.S e W base ok v xs) (ht : e ≠ 141 ∧ e ≠ 5) : Ap141 W g v.ownBlock :=
  h.own_ap (Kd.S_R ho) ht

/-! ### seal_NewReader: function 45 -/
def seal_NewReader.f (l0 : List Int) : Option (List Int × Bool) := (bytes_Clone.f l0).bind fun c => some (c, false)
set_option maxHeartbeats 8000000 in
set_option maxRecDepth 100000 in
theorem seal_NewReader.calls (A0 : Option Addr) (c0 : Nat) (l0 : List Int) (r1 : List Int) (r2 : Bool) (w0 w : World) (hB : Below w0.heap.size w0 w) (hr0 : Kd.C (Kd.int .u8) w A0 l0.length l0) (hc0 : l0.length ≤ c0) (h : seal_NewReader.f l0 = some (r1, r2)) :
    Calls Try.prog 45 #[.slice A0 l0.length c0] w fun e w' => ∃ g_ : Nat, e = .returned (.pointer (some ⟨g_, 0, none⟩)) ∧ IsS141 w0 w' g_ r1 r2 ∧ Below w0.heap.size w0 w' ∧ Below w.heap.size w w' := by
  unfold seal_NewReader.f at h
  obtain ⟨c, hc, h⟩ := Option.bind_eq_some_iff.mp h
  injection h with h
  injection h with h1 h2
  subst h1 h2
  have A1 := Aside0.mk hc
  have HR0 := Aside0.mk hr0
  have HC0 := Aside0.mk hc0
  have HB := Aside0.mk hB
  clear hc hr0 hc0 hB
  go_enter Try.func45, Try.ntmps45
  go_wp2_with (go_at_call 85; (with_reducible refine (bytes_Clone.calls _ _ l0 c _ HR0.out HC0.out A1.out).mono ?_); rintro e w' ⟨v, rfl, ho, hb⟩; have HO := Aside0.mk ho; have HW := Aside0.mk hb; clear ho hb; obtain ⟨Ao, co, eo⟩ := Kd.R_slice HO.out; subst eo)
  go_ret
  refine ⟨_, rfl, ?_, ?_, ?_⟩
  · have hs : w0.heap.size ≤ w'.heap.size := Nat.le_trans HB.out.size HW.out.size
    refine ⟨Ao, co, heap_alloc_new w' _, hs, (Kd.R_reads' HO.out).2.1, ?_⟩
    exact (Arr141.of_R (w0 := w0) HO.out HB.out.size (Nat.le_refl _)).move (fun k cells hk hc => blk_alloc hc _)
  · exact below_alloc (below_step HB.out HW.out) _
  · exact below_alloc HW.out _

/-! ### slices_Clone_byte_byte: function 80 -/
def slices_Clone_byte_byte.f (l0 : List Int) : Option (List Int) := if l0.length < 140737488355328 then some l0 else none
set_option maxHeartbeats 8000000 in
set_option maxRecDepth 100000 in
theorem slices_Clone_byte_byte.calls (A0 : Option Addr) (c0 : Nat) (l0 : List Int) (r : List Int) (w : World) (hr0 : Kd.C (Kd.int .u8) w A0 l0.length l0) (hc0 : l0.length ≤ c0) (h : slices_Clone_byte_byte.f l0 = some r) :
    Calls Try.prog 80 #[.slice A0 l0.length c0] w fun e w' => ∃ v0_ : Value, e = .returned (v0_) ∧ Kd.R (Kd.int .u8) 5 w' w.heap.size (fun _ => True) v0_ r ∧ Below w.heap.size w w' := by
  unfold slices_Clone_byte_byte.f at h
  by_cases hlim : l0.length < 140737488355328
  · rw [if_pos hlim] at h
    obtain rfl := Option.some.inj h
    clear h
    have HR0 := Aside0.mk hr0
    have HL := Aside0.mk hlim
    have hz := hr0.2.2
    clear hr0 hlim hc0
    have hcmp : ∀ W : World, (binOp .eql 32 (.slice A0 l0.length c0) (.slice none 0 0)).run Try.prog W = .ok (.bool A0.isNone) W := fun W => Lib.run_eql_slice_nil W _ _ A0 _ _ _ _ Try.underlying32
    cases A0 with
    | none =>
      have hl0 : l0 = [] := by
        rcases Nat.eq_zero_or_pos l0.length with h0 | h0
        · exact List.eq_nil_of_length_eq_zero h0
        · obtain ⟨ad, had, _⟩ := hz h0
          cases had
      subst hl0
      clear hz
      simp only [List.length_nil, Option.isNone_none] at hcmp
      have HB := Aside0.mk (Below.refl w.heap.size w)
      go_enter Try.func80, Try.ntmps80
      go_wp2
      go_ret
      exact ⟨_, rfl, Kd.R_nil _ _ _ _ _, HB.out⟩
    | some ad =>
      clear hz
      simp only [Option.isNone_some] at hcmp
      have HB := Aside0.mk (Below.refl w.heap.size w)
      go_enter Try.func80, Try.ntmps80
      go_wp2_with (first | ((with_reducible refine gate_dst (N := 5) rfl ?_); (try (refine gate_guard (by rfl) ?_; dsimp only)); refine Kd.R_lit (Kd.int .u8) _ 5 ?hg (N := 5) ?hd (xs := ([] : List Int)) (inner := []) (ok := fun _ => True) (okp := fun _ => True) ?hr ?hp (fun _ hk => hk) trivial (Below.refl _ _) (Nat.le_refl _) (by simp) ?_; (case hd => rfl); (case hg => rfl); (case hr => first | (go_simp; done) | (go_simp; rfl)); (case hp => exact (Reps.none _ _)); intro v188 w10 ho11 hb hg_ hnew_; clear hg_ hnew_; have n0_ := Aside0.mk (Kd.R_lower ho11 (below_size HB.out)); have n1_ := Aside0.mk (below_step HB.out hb); clear HB; have HO189 := n0_; have HB := n1_; clear n0_ n1_; clear hb ho11) | ((with_reducible refine gate_builtin (b := .append) (xs := #[.tmp 5, .tmp 6]) rfl ?_); (try (refine gate_guard (by rfl) ?_; dsimp only)); at_builtin; refine Kd.R_append_rows (Kd.int .u8) (w0 := w) w.heap.size rfl (.tmp 5) (.tmp 6) 32 5 (.int .u8 0) 1 rfl Try.underlying32 info5 rfl (by decide) (by omega) v188 [] l0 _ _ _ (fun _ => True) (fun _ => False) rfl rfl ?aO ?aR (fun _ _ h => h) (fun _ h => h.elim) ?aF ?aB ?aS ?aL ?_; (case aR => exact (Kd.C_below HR0.out HB.out)); (case aB => exact HB.out); (case aF => exact (fun _ _ => trivial)); (case aO => exact HO189.out); (case aS => exact (below_size HB.out)); (case aL => have := HL.out; simp; omega); intro v191 w12 ho hb hg hat; have n0_ := Aside0.mk (hb); have n1_ := Aside0.mk (ho); clear HB; clear HO189; have HB := n0_; have HO192 := n1_; clear n0_ n1_; clear ho hb hg hat))
      go_ret
      exact ⟨_, rfl, by simpa using HO192.out, HB.out⟩
  · rw [if_neg hlim] at h
    cases h

/-! ### seal_wide: function 81 -/
def seal_wide.f (a0 : Int) : Option (Int) := some (mn (mx a0 0) 8)
set_option maxHeartbeats 8000000 in
set_option maxRecDepth 100000 in
theorem seal_wide.calls (a0 : Int) (r : Int) (w : World) (h : seal_wide.f a0 = some r) :
    Calls Try.prog 81 #[.int .i64 a0] w fun e w' => e = .returned (.int .i64 r) ∧ Below w.heap.size w w' := by
  have HB := Aside0.mk (Below.refl w.heap.size w)
  have H : (some (mn (mx a0 0) 8)) = some r := h
  clear h
  obtain ⟨ji2, hji2⟩ : ∃ j_ : Int, (mx a0 0) = j_ := ⟨_, rfl⟩
  replace H : (some (mn (ji2) 8)) = some r := by first | (rw [hji2] at H; exact H) | (simp only [hji2] at H ⊢; exact H)
  (try (have hji2l : 0 ≤ ji2 := by (rw [← hji2]; unfold mx; (repeat' split) <;> omega)))
  (try (have hji2m : 0 ≤ ji2 := by omega))
  have hji2_ : (if a0 < 0 then 0 else a0) = ji2 := hji2
  obtain ⟨ji3, hji3⟩ : ∃ j_ : Int, (mn (ji2) 8) = j_ := ⟨_, rfl⟩
  replace H : (some ji3) = some r := by first | (rw [hji3] at H; exact H) | (simp only [hji3] at H ⊢; exact H)
  have hji3_ : (if 8 < (ji2) then 8 else (ji2)) = ji3 := hji3
  obtain rfl := Option.some.inj H
  go_enter Try.func81, Try.ntmps81
  go_wp2
  go_ret
  exact ⟨by first | rfl | (simp [errW_none, errW_some] <;> rfl) | (simp only [← hji2, ← hji3]; first | rfl | (simp [errW_none, errW_some] <;> rfl)) | (simp [*, errW_none, errW_some] <;> rfl), by with_reducible exact HB.out⟩

/-! ### seal_Put: function 40 -/
def seal_Put.l0 : Nat → Int → List Int → Int → Option (List Int)
  | 0, _, _, _ => none
  | k + 1, x1, x7, x8 => if x8 ≥ 0 then (if 0 ≤ (wrap64 (8 * x8)) then (if x7.length < 140737488355328 then (seal_Put.l0 k x1 (x7 ++ [(shr .u64 x1 (wrap64 (8 * x8))) % 256]) (wrap64 (x8 - 1))) else (none)) else (none)) else (some x7)
def seal_Put.f (k : Nat) (l0 : List Int) (a1 : Int) (a2 : Int) : Option (List Int) := (slices_Clone_byte_byte.f l0).bind fun t116 => ((seal_wide.f a2).bind fun t119 => (seal_Put.l0 k a1 t116 (wrap64 (t119 - 1))))
theorem seal_Put.mono_l : ∀ k, (∀ y0 y1 y2, LeO (seal_Put.l0 k y0 y1 y2) (seal_Put.l0 (k + 1) y0 y1 y2))
  | 0 => fun _ _ _ r h => by simp [seal_Put.l0] at h
  | k + 1 => by
    have ih0 := seal_Put.mono_l k
    · intro y0 y1 y2
      unfold seal_Put.l0
      repeat' first
      | (with_reducible exact ih0 _ _ _)
      | (with_reducible exact LeO.refl _)
      | (with_reducible exact LeO.none _)
      | (with_reducible refine LeO.ite ?_ ?_)
      | (with_reducible refine LeO.bind ?_ (fun _ => ?_))
      | exact ih0 _ _ _
      | exact LeO.none _
      | refine LeO.ite ?_ ?_
      | refine LeO.bind ?_ (fun _ => ?_)
theorem seal_Put.mono : ∀ a0 a1 a2 k, LeO (seal_Put.f k a0 a1 a2) (seal_Put.f (k + 1) a0 a1 a2) := by
  intro a0 a1 a2 k
  have ih0 := seal_Put.mono_l k
  unfold seal_Put.f
  repeat' first
      | (with_reducible exact ih0 _ _ _)
      | (with_reducible exact LeO.refl _)
      | (with_reducible exact LeO.none _)
      | (with_reducible refine LeO.ite ?_ ?_)
      | (with_reducible refine LeO.bind ?_ (fun _ => ?_))
      | exact ih0 _ _ _
      | exact LeO.none _
      | refine LeO.ite ?_ ?_
      | refine LeO.bind ?_ (fun _ => ?_)
set_option maxHeartbeats 8000000 in
set_option maxRecDepth 100000 in
theorem seal_Put.calls (k : Nat) (A0 : Option Addr) (c0 : Nat) (l0 : List Int) (a1 : Int) (a2 : Int) (r : List Int) (w : World) (hr0 : Kd.C (Kd.int .u8) w A0 l0.length l0) (hc0 : l0.length ≤ c0) (h : seal_Put.f k l0 a1 a2 = some r) :
    Calls Try.prog 40 #[.slice A0 l0.length c0, .int .u64 a1, .int .i64 a2] w fun e w' => ∃ v0_ : Value, e = .returned (v0_) ∧ Kd.R (Kd.int .u8) 5 w' w.heap.size (fun _ => True) v0_ r ∧ Below w.heap.size w w' := by
  have HR0 := Aside0.mk hr0
  have HC0 := Aside0.mk hc0
  clear hr0 hc0
  have HB := Aside0.mk (Below.refl w.heap.size w)
  have H : ((slices_Clone_byte_byte.f l0).bind fun t116 => ((seal_wide.f a2).bind fun t119 => (seal_Put.l0 k a1 t116 (wrap64 (t119 - 1))))) = some r := h
  clear h
  replace H := Option.bind_eq_some_iff.mp H
  obtain ⟨t116, A40, H⟩ := H
  replace H : ((seal_wide.f a2).bind fun t119 => (seal_Put.l0 k a1 t116 (wrap64 (t119 - 1)))) = some r := H
  have A4 := Aside0.mk A40
  clear A40
  replace H := Option.bind_eq_some_iff.mp H
  obtain ⟨t119, A50, H⟩ := H
  replace H : (seal_Put.l0 k a1 t116 (wrap64 (t119 - 1))) = some r := H
  have A5 := Aside0.mk A50
  clear A50
  have H' := Aside0.mk H
  clear H
  go_enter Try.func40, Try.ntmps40
  go_wp2_with (first | ((with_reducible refine gate_callee (f := 80) rfl ?_); refine goesL_ (some 10) rfl rfl Try.func80 (by kernel_rfl) rfl #[.slice A0 l0.length c0] rfl (by (try simp only [List.map_toArray, List.map_cons, List.map_nil]); first | done | rfl | (simp only [List.length_drop, List.length_take]; rfl)) ?_; (with_reducible refine (slices_Clone_byte_byte.calls _ _ l0 t116 _ ?side1 ?side2 A4.out).mono ?_); (case side1 => repeat (first | exact HR0.out | (with_reducible refine Kd.C_alloc ?_ _) | (with_reducible refine Kd.C_drewN ?_ _) | (with_reducible refine Kd.C_drew ?_))); (case side2 => exact HC0.out); rintro e w6 ⟨v117, rfl, ho0, hb⟩; refine ⟨_, rfl, ?_⟩; have n0_ := Aside0.mk (Kd.R_lower ho0 (below_size (by with_reducible exact HB.out))); have n1_ := Aside0.mk (below_step (by with_reducible exact HB.out) hb); clear HB; have HO118 := n0_; have HB := n1_; clear n0_ n1_; (try clear hb); (try clear hb2); (try clear hk); (try clear hi); (try clear ho0)) | ((with_reducible refine gate_callee (f := 81) rfl ?_); refine goesL_ (some 12) rfl rfl Try.func81 (by kernel_rfl) rfl #[.int .i64 a2] rfl (by (try simp only [List.map_toArray, List.map_cons, List.map_nil]); first | done | rfl | (simp only [List.length_drop, List.length_take]; rfl)) ?_; (with_reducible refine (seal_wide.calls a2 t119 _ A5.out).mono ?_); rintro e w7 ⟨rfl, hb⟩; refine ⟨_, rfl, ?_⟩; have n0_ := Aside0.mk (Kd.R_below (by exact HO118.out) hb); have n1_ := Aside0.mk (below_step (by with_reducible exact HB.out) hb); clear HO118; clear HB; have HO118 := n0_; have HB := n1_; clear n0_ n1_; (try clear hb); (try clear hb2); (try clear hk); (try clear hi)))
  go_loopg [7, 8] k (fun kq v7 v8 w' => ∃ (x7_1 : List Int) (x8_1 : Int), v8 = .int .i64 x8_1 ∧ Aside0 (seal_Put.l0 kq a1 x7_1 x8_1 = some r) ∧ Aside0 (kq ≤ k) ∧ Aside0 (Kd.R (Kd.int .u8) 5 w' w.heap.size (fun _ => True) v7 x7_1) ∧ Aside0 (Below w.heap.size w w'))
  case atStart => exact ⟨(t116), (wrap64 (t119 - 1)), (by first | rfl | (simp; done) | (simp [*]; done)), H', ⟨Nat.le_refl _⟩, ⟨by exact HO118.out⟩, ⟨by with_reducible exact HB.out⟩⟩
  case round =>
    clear H'
    try clear p2
    try clear c4
    try clear p6
    obtain ⟨x7_1, x8_1, rfl, HA, HK1, HO_7, HB⟩ := hrel
    cases gk with
    | zero => exact absurd HA.out (by simp [seal_Put.l0])
    | succ k1 =>
      have H := HA.out
      clear HA
      simp only [seal_Put.l0] at H
      by_cases c8 : x8_1 ≥ 0
      · rw [if_pos c8] at H
        have c8b0 : decide (0 ≤ x8_1) = true := decide_eq_true c8
        clear c8
        obtain ⟨ji9, hji9⟩ : ∃ j_ : Int, (wrap64 (8 * x8_1)) = j_ := ⟨_, rfl⟩
        replace H : (if 0 ≤ (ji9) then (if x7_1.length < 140737488355328 then (seal_Put.l0 k1 a1 (x7_1 ++ [(shr .u64 a1 (ji9)) % 256]) (wrap64 (x8_1 - 1))) else (none)) else (none)) = some r := by first | (rw [hji9] at H; exact H) | (simp only [hji9] at H ⊢; exact H)
        have hji9w : (IntKind.i64.wrap (8 * x8_1)) = ji9 := (i64_w _).trans hji9
        by_cases c10 : 0 ≤ (ji9)
        case neg => (rw [if_neg c10] at H; exact absurd H (by simp))
        rw [if_pos c10] at H
        have c10b0 := eq_true c10
        have c10b1 : decide (0 ≤ (ji9)) = true := decide_eq_true c10
        clear c10
        obtain ⟨ji11, hji11⟩ : ∃ j_ : Int, (shr .u64 a1 (ji9)) = j_ := ⟨_, rfl⟩
        replace H : (if x7_1.length < 140737488355328 then (seal_Put.l0 k1 a1 (x7_1 ++ [(ji11) % 256]) (wrap64 (x8_1 - 1))) else (none)) = some r := by first | (rw [hji11] at H; exact H) | (simp only [hji11] at H ⊢; exact H)
        have hji11_ : (a1 / 2 ^ min (ji9).toNat 64) = ji11 := hji11
        have hji11z : (ji9) ≤ 64 → (a1 / 2 ^ (ji9).toNat) = ji11 := shr_small hji11
        by_cases c12 : x7_1.length < 140737488355328
        case neg => (rw [if_neg c12] at H; exact absurd H (by simp))
        rw [if_pos c12] at H
        have LMc12 := Aside0.mk c12
        clear c12
        obtain ⟨y120, hy120⟩ : ∃ y_ : List Int, y_ = (x7_1 ++ [(ji11) % 256]) := ⟨_, rfl⟩
        replace H : (seal_Put.l0 k1 a1 y120 (wrap64 (x8_1 - 1))) = some r := by first | (rw [hy120]; with_reducible exact H) | (have H2_ := (Option.bind_some _ _).symm.trans H; rw [hy120]; with_reducible exact H2_) | (have H2_ := (Option.bind_some _ _).symm.trans H; with_reducible exact H2_) | with_reducible exact H | (rw [hy120]; exact H) | exact H
        have Ny120 := Aside0.mk hy120
        clear hy120
        have H' := Aside0.mk H
        clear H
        go_wp2_with (first | ((with_reducible refine gate_builtin (b := .append) (xs := #[.tmp 18, .tmp 24]) rfl ?_); at_builtin; refine Kd.R_append (Kd.int .u8) (w0 := w) w.heap.size rfl (.tmp 18) (.tmp 24) 32 5 (.int .u8 0) 1 rfl Try.underlying32 info5 rfl (by decide) (by omega) u7 x7_1 ((ji11) % 256) [.int .u8 ((ji11) % 256)] (fun _ => True) (fun _ => False) rfl rfl ?aP (fun _ hk => hk.elim) ?aF ?aO ?aB ?aS ?aL ?_; (case aP => exact rfl); (case aB => exact (by with_reducible exact HB.out)); (case aF => exact (fun _ _ => trivial)); (case aO => exact (by exact HO_7.out)); (case aS => exact (below_size (by with_reducible exact HB.out))); (case aL => have := LMc12.out; omega); intro v121 w13 ho hb hg hat; rw [← Ny120.out] at ho; have n0_ := Aside0.mk (hb); have n1_ := Aside0.mk (ho); clear HB; clear HO_7; have HB := n0_; have HO122 := n1_; clear n0_ n1_; clear ho hb hg hat))
        go_roundg k1
        case measure => have := HK1.out; omega
        case rel => exact ⟨(y120), (wrap64 (x8_1 - 1)), (by first | rfl | (simp; done) | (simp [*]; done)), H', ⟨by have := HK1.out; omega⟩, ⟨by exact HO122.out⟩, ⟨by with_reducible exact HB.out⟩⟩
      · rw [if_neg c8] at H
        have c8b0 : decide (0 ≤ x8_1) = false := decide_eq_false c8
        clear c8
        obtain rfl := Option.some.inj H
        go_wp2
        go_ret
        exact ⟨_, by first | rfl | (simp [errW_none, errW_some] <;> rfl) | (simp [*, errW_none, errW_some] <;> rfl), by exact HO_7.out, by with_reducible exact HB.out⟩

/-! ### seal_Sum: function 89 -/
def seal_Sum.l0 : Nat → Int → List Int → Int → Int → Option (Int)
  | 0, _, _, _, _ => none
  | k + 1, x3, x6, x7, x8 => if x8 < x7 then (if 0 ≤ x8 then (if x8 < (x6.length : Int) then (seal_Sum.l0 k (((Go.bits .xor .u32 x3 ((rd x6 x8) % 4294967296)) * 16777619) % 4294967296) x6 x7 (wrap64 (x8 + 1))) else (none)) else (none)) else (some x3)
def seal_Sum.f (k : Nat) (l0 : List Int) : Option (Int) := seal_Sum.l0 k 2166136261 l0 (l0.length : Int) 0
theorem seal_Sum.mono_l : ∀ k, (∀ y0 y1 y2 y3, LeO (seal_Sum.l0 k y0 y1 y2 y3) (seal_Sum.l0 (k + 1) y0 y1 y2 y3))
  | 0 => fun _ _ _ _ r h => by simp [seal_Sum.l0] at h
  | k + 1 => by
    have ih0 := seal_Sum.mono_l k
    · intro y0 y1 y2 y3
      unfold seal_Sum.l0
      repeat' first
      | (with_reducible exact ih0 _ _ _ _)
      | (with_reducible exact LeO.refl _)
      | (with_reducible exact LeO.none _)
      | (with_reducible refine LeO.ite ?_ ?_)
      | (with_reducible refine LeO.bind ?_ (fun _ => ?_))
      | exact ih0 _ _ _ _
      | exact LeO.none _
      | refine LeO.ite ?_ ?_
      | refine LeO.bind ?_ (fun _ => ?_)
theorem seal_Sum.mono : ∀ a0 k, LeO (seal_Sum.f k a0) (seal_Sum.f (k + 1) a0) := by
  intro a0 k
  have ih0 := seal_Sum.mono_l k
  unfold seal_Sum.f
  repeat' first
      | (with_reducible exact ih0 _ _ _ _)
      | (with_reducible exact LeO.refl _)
      | (with_reducible exact LeO.none _)
      | (with_reducible refine LeO.ite ?_ ?_)
      | (with_reducible refine LeO.bind ?_ (fun _ => ?_))
      | exact ih0 _ _ _ _
      | exact LeO.none _
      | refine LeO.ite ?_ ?_
      | refine LeO.bind ?_ (fun _ => ?_)
set_option maxHeartbeats 8000000 in
set_option maxRecDepth 100000 in
theorem seal_Sum.calls (k : Nat) (A0 : Option Addr) (c0 : Nat) (l0 : List Int) (r : Int) (w : World) (hr0 : Kd.C (Kd.int .u8) w A0 l0.length l0) (hc0 : l0.length ≤ c0) (h : seal_Sum.f k l0 = some r) :
    Calls Try.prog 89 #[.slice A0 l0.length c0] w fun e w' => e = .returned (.int .u32 r) ∧ Drawn0 w w' := by
  have HR0 := Aside0.mk hr0
  have HC0 := Aside0.mk hc0
  clear hr0 hc0
  have H : (seal_Sum.l0 k 2166136261 l0 (l0.length : Int) 0) = some r := h
  clear h
  have H' := Aside0.mk H
  clear H
  go_enter Try.func89, Try.ntmps89
  go_wp2
  go_loopg [3, 8] k (fun kq v3 v8 w' => ∃ (x3_1 : Int) (x8_1 : Int), v3 = .int .u32 x3_1 ∧ v8 = .int .i64 x8_1 ∧ Aside0 (seal_Sum.l0 kq x3_1 l0 (l0.length : Int) x8_1 = some r) ∧ Aside0 (kq ≤ k) ∧ Drawn0 w w')
  case atStart => exact ⟨(2166136261), (0), (by first | rfl | (simp; done) | (simp [*]; done)), (by first | rfl | (simp; done) | (simp [*]; done)), H', ⟨Nat.le_refl _⟩, by repeat (first | exact Drawn0.refl _ | apply Drawn0.step)⟩
  case round =>
    clear H'
    obtain ⟨x3_1, x8_1, rfl, rfl, HA, HK1, ⟨m1, rfl⟩⟩ := hrel
    cases gk with
    | zero => exact absurd HA.out (by simp [seal_Sum.l0])
    | succ k1 =>
      have H := HA.out
      clear HA
      simp only [seal_Sum.l0] at H
      by_cases c2 : x8_1 < (l0.length : Int)
      · rw [if_pos c2] at H
        have c2b0 : decide (x8_1 < (l0.length : Int)) = true := decide_eq_true c2
        clear c2
        by_cases c3 : 0 ≤ x8_1
        case neg => (rw [if_neg c3] at H; exact absurd H (by simp))
        rw [if_pos c3] at H
        have c3b0 : decide (0 ≤ x8_1) = true := decide_eq_true c3
        clear c3
        by_cases c4 : x8_1 < (l0.length : Int)
        case neg => (rw [if_neg c4] at H; exact absurd H (by simp))
        rw [if_pos c4] at H
        have c4b0 : decide (x8_1 < (l0.length : Int)) = true := decide_eq_true c4
        clear c4
        have H' := Aside0.mk H
        clear H
        have p123 : 0 ≤ (x8_1 : Int) := of_decide_eq_true (by first | (with_reducible assumption) | assumption)
        have q123 : x8_1 < (l0.length : Int) := of_decide_eq_true (by first | (with_reducible assumption) | assumption)
        obtain ⟨ad123, e123, hx123_0⟩ := Kd.at_int HR0.out x8_1 p123 q123
        cases e123
        replace p123 := eq_true p123
        replace q123 := eq_true q123
        go_wp2
        go_roundg k1
        case measure => have := HK1.out; omega
        case rel => exact ⟨(((Go.bits .xor .u32 x3_1 ((rd l0 x8_1) % 4294967296)) * 16777619) % 4294967296), (wrap64 (x8_1 + 1)), (by first | rfl | (simp; done) | (simp [*]; done)), (by first | rfl | (simp; done) | (simp [*]; done)), H', ⟨by have := HK1.out; omega⟩, by repeat (first | exact Drawn0.refl _ | apply Drawn0.step)⟩
      · rw [if_neg c2] at H
        have c2b0 : decide (x8_1 < (l0.length : Int)) = false := decide_eq_false c2
        clear c2
        obtain rfl := Option.some.inj H
        go_wp2
        go_ret
        exact ⟨by first | rfl | (simp; done) | (simp [*]; done), by repeat (first | exact Drawn0.refl _ | apply Drawn0.step)⟩

/-! ### seal_Close: function 63 -/
def seal_Close.f (k : Nat) (l0 : List Int) : Option (List Int) := (seal_Sum.f k l0).bind fun t124 => ((seal_Put.f k l0 (IntKind.u64.wrap (t124)) 4).bind fun t125 => (some t125))
theorem seal_Close.mono : ∀ a0 k, LeO (seal_Close.f k a0) (seal_Close.f (k + 1) a0) := by
  intro a0 k
  unfold seal_Close.f
  repeat' first
      | (with_reducible exact seal_Put.mono _ _ _ _)
      | (with_reducible exact seal_Sum.mono _ _)
      | (with_reducible exact LeO.refl _)
      | (with_reducible exact LeO.none _)
      | (with_reducible refine LeO.ite ?_ ?_)
      | (with_reducible refine LeO.bind ?_ (fun _ => ?_))
      | exact seal_Put.mono _ _ _ _
      | exact seal_Sum.mono _ _
      | exact LeO.none _
      | refine LeO.ite ?_ ?_
      | refine LeO.bind ?_ (fun _ => ?_)
set_option maxHeartbeats 8000000 in
set_option maxRecDepth 100000 in
theorem seal_Close.calls (k : Nat) (A0 : Option Addr) (c0 : Nat) (l0 : List Int) (r : List Int) (w : World) (hr0 : Kd.C (Kd.int .u8) w A0 l0.length l0) (hc0 : l0.length ≤ c0) (h : seal_Close.f k l0 = some r) :
    Calls Try.prog 63 #[.slice A0 l0.length c0] w fun e w' => ∃ v0_ : Value, e = .returned (v0_) ∧ Kd.R (Kd.int .u8) 5 w' w.heap.size (fun _ => True) v0_ r ∧ Below w.heap.size w w' := by
  have HR0 := Aside0.mk hr0
  have HC0 := Aside0.mk hc0
  clear hr0 hc0
  have HB := Aside0.mk (Below.refl w.heap.size w)
  have H : ((seal_Sum.f k l0).bind fun t124 => ((seal_Put.f k l0 (IntKind.u64.wrap (t124)) 4).bind fun t125 => (some t125))) = some r := h
  clear h
  replace H := Option.bind_eq_some_iff.mp H
  obtain ⟨t124, A20, H⟩ := H
  replace H : ((seal_Put.f k l0 (IntKind.u64.wrap (t124)) 4).bind fun t125 => (some t125)) = some r := H
  have A2 := Aside0.mk A20
  clear A20
  replace H := Option.bind_eq_some_iff.mp H
  obtain ⟨t125, A30, H⟩ := H
  replace H : (some t125) = some r := H
  have A3 := Aside0.mk A30
  clear A30
  obtain rfl := Option.some.inj H
  go_enter Try.func63, Try.ntmps63
  go_wp2_with (first | ((with_reducible refine gate_callee (f := 89) rfl ?_); refine goesL_ (some 5) rfl rfl Try.func89 (by kernel_rfl) rfl #[.slice A0 l0.length c0] rfl (by (try simp only [List.map_toArray, List.map_cons, List.map_nil]); first | done | rfl | (simp only [List.length_drop, List.length_take]; rfl)) ?_; (with_reducible refine (seal_Sum.calls k _ _ l0 t124 _ ?side1 ?side2 A2.out).mono ?_); (case side1 => repeat (first | exact HR0.out | (with_reducible refine Kd.C_alloc ?_ _) | (with_reducible refine Kd.C_drewN ?_ _) | (with_reducible refine Kd.C_drew ?_))); (case side2 => exact HC0.out); rintro e w' ⟨rfl, ⟨nd, rfl⟩⟩; refine ⟨_, rfl, ?_⟩) | ((with_reducible refine gate_callee (f := 40) rfl ?_); refine goesL_ (some 7) rfl rfl Try.func40 (by kernel_rfl) rfl #[.slice A0 l0.length c0, .int .u64 (IntKind.u64.wrap (t124)), .int .i64 4] rfl (by (try simp only [List.map_toArray, List.map_cons, List.map_nil]); first | done | rfl | (simp only [List.length_drop, List.length_take]; rfl)) ?_; (with_reducible refine (seal_Put.calls k _ _ l0 (IntKind.u64.wrap (t124)) 4 t125 _ ?side1 ?side2 A3.out).mono ?_); (case side1 => repeat (first | exact HR0.out | (with_reducible refine Kd.C_alloc ?_ _) | (with_reducible refine Kd.C_drewN ?_ _) | (with_reducible refine Kd.C_drew ?_))); (case side2 => exact HC0.out); rintro e w4 ⟨v126, rfl, ho0, hb⟩; refine ⟨_, rfl, ?_⟩; have n0_ := Aside0.mk (Kd.R_lower ho0 (below_size (by repeat (first | (with_reducible first | exact HB.out | apply below_alloc | apply pw_below_drewN | apply below_drew1) | exact HB.out)))); have n1_ := Aside0.mk (below_step (by repeat (first | (with_reducible first | exact HB.out | apply below_alloc | apply pw_below_drewN | apply below_drew1) | exact HB.out)) hb); clear HB; have HO127 := n0_; have HB := n1_; clear n0_ n1_; (try clear hb); (try clear hb2); (try clear hk); (try clear hi); (try clear ho0)))
  go_ret
  exact ⟨_, by first | rfl | (simp [errW_none, errW_some] <;> rfl) | (simp [*, errW_none, errW_some] <;> rfl), by exact HO127.out, by with_reducible exact HB.out⟩

/-! ### bytes_Equal: function 94 -/
def bytes_Equal.f (l0 : List Int) (l1 : List Int) : Option (Bool) := some ((strOfNums l0).toList == (strOfNums l1).toList)
set_option maxHeartbeats 8000000 in
set_option maxRecDepth 100000 in
theorem bytes_Equal.calls (A0 : Option Addr) (c0 : Nat) (l0 : List Int) (A1 : Option Addr) (c1 : Nat) (l1 : List Int) (r : Bool) (w : World) (hr0 : Kd.C (Kd.int .u8) w A0 l0.length l0) (hc0 : l0.length ≤ c0) (hr1 : Kd.C (Kd.int .u8) w A1 l1.length l1) (hc1 : l1.length ≤ c1) (h : bytes_Equal.f l0 l1 = some r) :
    Calls Try.prog 94 #[.slice A0 l0.length c0, .slice A1 l1.length c1] w fun e w' => e = .returned (.bool r) ∧ Drawn0 w w' := by
  have HR0 := Aside0.mk hr0
  have HC0 := Aside0.mk hc0
  clear hr0 hc0
  have HR1 := Aside0.mk hr1
  have HC1 := Aside0.mk hc1
  clear hr1 hc1
  have H : (some ((strOfNums l0).toList == (strOfNums l1).toList)) = some r := h
  clear h
  obtain rfl := Option.some.inj H
  have hcv3 := Kd.C_string (P := Try.prog) (A := A0) (c := c0) Try.underlying32 Try.underlying5 Try.underlying9 HR0.out
  have hcv4 := Kd.C_string (P := Try.prog) (A := A1) (c := c1) Try.underlying32 Try.underlying5 Try.underlying9 HR1.out
  go_enter Try.func94, Try.ntmps94
  go_wp2
  go_ret
  exact ⟨by first | rfl | (simp; done) | (simp [*]; done), by repeat (first | exact Drawn0.refl _ | apply Drawn0.step)⟩

/-! ### seal_Open: function 73 -/
def seal_Open.f (k : Nat) (l0 : List Int) : Option (List Int × Int) := if (wrap64 ((l0.length : Int) - 4)) < 0 then (some (([] : List Int), 16)) else (if 0 ≤ (wrap64 ((l0.length : Int) - 4)) then (if (wrap64 ((l0.length : Int) - 4)) ≤ (l0.length : Int) then ((seal_Close.f k (l0.take ((wrap64 ((l0.length : Int) - 4)) : Int).toNat)).bind fun t129 => ((bytes_Equal.f l0 t129).bind fun t132 => (if t132 = true then ((bytes_Clone.f (l0.take ((wrap64 ((l0.length : Int) - 4)) : Int).toNat)).bind fun t133 => (some (t133, 0))) else (some (([] : List Int), 22))))) else (none)) else (none))
theorem seal_Open.mono : ∀ a0 k, LeO (seal_Open.f k a0) (seal_Open.f (k + 1) a0) := by
  intro a0 k
  unfold seal_Open.f
  repeat' first
      | (with_reducible exact seal_Close.mono _ _)
      | (with_reducible exact LeO.refl _)
      | (with_reducible exact LeO.none _)
      | (with_reducible refine LeO.ite ?_ ?_)
      | (with_reducible refine LeO.bind ?_ (fun _ => ?_))
      | exact seal_Close.mono _ _
      | exact LeO.none _
      | refine LeO.ite ?_ ?_
      | refine LeO.bind ?_ (fun _ => ?_)
set_option maxHeartbeats 8000000 in
set_option maxRecDepth 100000 in
theorem seal_Open.calls (k : Nat) (A0 : Option Addr) (c0 : Nat) (l0 : List Int) (r1 : List Int) (r2 : Int) (w : World) (hr0 : Kd.C (Kd.int .u8) w A0 l0.length l0) (hc0 : l0.length ≤ c0) (h : seal_Open.f k l0 = some (r1, r2)) :
    Calls Try.prog 73 #[.slice A0 l0.length c0] w fun e w' => ∃ v0_ : Value, e = .returned (.tuple #[v0_, .int .i64 r2]) ∧ Kd.R (Kd.int .u8) 5 w' w.heap.size (fun _ => True) v0_ r1 ∧ Below w.heap.size w w' := by
  have HR0 := Aside0.mk hr0
  have HC0 := Aside0.mk hc0
  clear hr0 hc0
  have HB := Aside0.mk (Below.refl w.heap.size w)
  have H : (if (wrap64 ((l0.length : Int) - 4)) < 0 then (some (([] : List Int), 16)) else (if 0 ≤ (wrap64 ((l0.length : Int) - 4)) then (if (wrap64 ((l0.length : Int) - 4)) ≤ (l0.length : Int) then ((seal_Close.f k (l0.take ((wrap64 ((l0.length : Int) - 4)) : Int).toNat)).bind fun t129 => ((bytes_Equal.f l0 t129).bind fun t132 => (if t132 = true then ((bytes_Clone.f (l0.take ((wrap64 ((l0.length : Int) - 4)) : Int).toNat)).bind fun t133 => (some (t133, 0))) else (some (([] : List Int), 22))))) else (none)) else (none))) = some (r1, r2) := h
  clear h
  by_cases c2 : (wrap64 ((l0.length : Int) - 4)) < 0
  · rw [if_pos c2] at H
    have c2b0 : decide ((wrap64 ((l0.length : Int) - 4)) < 0) = true := decide_eq_true c2
    clear c2
    simp only [Option.some.injEq, Prod.mk.injEq] at H
    obtain ⟨rfl, rfl⟩ := H
    go_enter Try.func73, Try.ntmps73
    go_wp2
    go_ret2
    exact ⟨_, by first | rfl | (simp [errW_none, errW_some] <;> rfl) | (simp [*, errW_none, errW_some] <;> rfl), by first | exact Kd.R_nil _ _ _ _ _ | exact Kd.N_nil _ _ _ _ _ | exact Kd.V_nil _ _ _ _ _ | exact Kd.Q_nil _ _ _ _ _ | exact Kd.S_nil _ _ _ _ _, by with_reducible exact HB.out⟩
  · rw [if_neg c2] at H
    have c2b0 : decide ((wrap64 ((l0.length : Int) - 4)) < 0) = false := decide_eq_false c2
    clear c2
    obtain ⟨ji3, hji3⟩ : ∃ j_ : Int, (wrap64 ((l0.length : Int) - 4)) = j_ := ⟨_, rfl⟩
    replace H : (if 0 ≤ (ji3) then (if (ji3) ≤ (l0.length : Int) then ((seal_Close.f k (l0.take ((ji3) : Int).toNat)).bind fun t129 => ((bytes_Equal.f l0 t129).bind fun t132 => (if t132 = true then ((bytes_Clone.f (l0.take ((ji3) : Int).toNat)).bind fun t133 => (some (t133, 0))) else (some (([] : List Int), 22))))) else (none)) else (none)) = some (r1, r2) := by first | (rw [hji3] at H; exact H) | (simp only [hji3] at H ⊢; exact H)
    (try rw [hji3] at c2b0)
    have hji3w : (IntKind.i64.wrap ((l0.length : Int) - 4)) = ji3 := (i64_w _).trans hji3
    by_cases c4 : 0 ≤ (ji3)
    case neg => (rw [if_neg c4] at H; exact absurd H (by simp))
    rw [if_pos c4] at H
    have c4b0 := eq_true c4
    have c4b1 : decide (0 ≤ (ji3)) = true := decide_eq_true c4
    clear c4
    by_cases c5 : (ji3) ≤ (l0.length : Int)
    case neg => (rw [if_neg c5] at H; exact absurd H (by simp))
    rw [if_pos c5] at H
    have c5b0 := eq_true c5
    have c5b1 : decide ((ji3) ≤ (l0.length : Int)) = true := decide_eq_true c5
    clear c5
    replace H := Option.bind_eq_some_iff.mp H
    obtain ⟨t129, A60, H⟩ := H
    replace H : ((bytes_Equal.f l0 t129).bind fun t132 => (if t132 = true then ((bytes_Clone.f (l0.take ((ji3) : Int).toNat)).bind fun t133 => (some (t133, 0))) else (some (([] : List Int), 22)))) = some (r1, r2) := H
    have A6 := Aside0.mk A60
    clear A60
    replace H := Option.bind_eq_some_iff.mp H
    obtain ⟨t132, A70, H⟩ := H
    replace H : (if t132 = true then ((bytes_Clone.f (l0.take ((ji3) : Int).toNat)).bind fun t133 => (some (t133, 0))) else (some (([] : List Int), 22))) = some (r1, r2) := H
    have A7 := Aside0.mk A70
    clear A70
    by_cases c8 : t132 = true
    · subst c8
      have H1 : ((bytes_Clone.f (l0.take ((ji3) : Int).toNat)).bind fun t133 => (some (t133, 0))) = some (r1, r2) := by rw [if_pos rfl] at H; exact H
      clear H
      have H := H1
      clear H1
      replace H := Option.bind_eq_some_iff.mp H
      obtain ⟨t133, A90, H⟩ := H
      replace H : (some (t133, 0)) = some (r1, r2) := H
      have A9 := Aside0.mk A90
      clear A90
      simp only [Option.some.injEq, Prod.mk.injEq] at H
      obtain ⟨rfl, rfl⟩ := H
      obtain ⟨i010, hi010, _, hsz10, _⟩ := info_parts info5
      obtain ⟨hcut10, hA10, hC10⟩ := print_take_of (P := Try.prog) (Value.int .u8) 0 32 5 .i64 Try.underlying32 hi010 hsz10 A0 c0 l0 (ji3) (of_decide_eq_true (by first | (with_reducible assumption) | assumption)) (of_decide_eq_true (by first | (with_reducible assumption) | assumption)) HC0.out
      have HR128 := Aside0.mk (Kd.C_of_reads (h1 := fun _ => rfl) (hA10 _ (Kd.reads_of_C HR0.out)))
      have HC128 := Aside0.mk hC10
      clear hA10 hC10 hi010 hsz10
      go_enter Try.func73, Try.ntmps73
      go_wp2_with (first | ((with_reducible refine gate_callee (f := 63) rfl ?_); refine goesL_ (some 16) rfl rfl Try.func63 (by kernel_rfl) rfl #[.slice A0 (l0.take ((ji3) : Int).toNat).length c0] rfl (by (try simp only [List.map_toArray, List.map_cons, List.map_nil]); first | done | (rw [show (l0.take ((ji3) : Int).toNat).length = (ji3).toNat from (by rw [List.length_take]; have h_ : ((ji3) : Int) ≤ (l0.length : Int) := of_decide_eq_true (by first | (with_reducible assumption) | assumption); omega)] <;> rfl) | (simp only [hji3]; rfl) | rfl | (simp only [List.length_drop, List.length_take]; rfl)) ?_; (with_reducible refine (seal_Close.calls k _ _ (l0.take ((ji3) : Int).toNat) t129 _ ?side1 ?side2 A6.out).mono ?_); (case side1 => repeat (first | exact HR128.out | (with_reducible refine Kd.C_alloc ?_ _) | (with_reducible refine Kd.C_drewN ?_ _) | (with_reducible refine Kd.C_drew ?_))); (case side2 => exact HC128.out); rintro e w11 ⟨v130, rfl, ho0, hb⟩; refine ⟨_, rfl, ?_⟩; have n0_ := Aside0.mk (Kd.R_lower ho0 (below_size (by with_reducible exact HB.out))); have n1_ := Aside0.mk (below_step (by with_reducible exact HB.out) hb); clear HB; have HO131 := n0_; have HB := n1_; clear n0_ n1_; (try clear hb); (try clear hb2); (try clear hk); (try clear hi); (try clear ho0); obtain ⟨Ao12, co12, eo12⟩ := Kd.R_slice HO131.out; subst eo12) | ((with_reducible refine gate_callee (f := 94) rfl ?_); refine goesL_ (some 17) rfl rfl Try.func94 (by kernel_rfl) rfl #[.slice A0 l0.length c0, .slice Ao12 t129.length co12] rfl (by (try simp only [List.map_toArray, List.map_cons, List.map_nil]); first | done | rfl | (simp only [List.length_drop, List.length_take]; rfl)) ?_; (with_reducible refine (bytes_Equal.calls _ _ l0 _ _ t129 true _ ?side1 ?side2 ?side3 ?side4 A7.out).mono ?_); (case side1 => repeat (first | exact (Kd.C_below HR0.out HB.out) | (with_reducible refine Kd.C_alloc ?_ _) | (with_reducible refine Kd.C_drewN ?_ _) | (with_reducible refine Kd.C_drew ?_))); (case side2 => exact HC0.out); (case side3 => repeat (first | exact (Kd.R_reads' HO131.out).2.2 | (with_reducible refine Kd.C_alloc ?_ _) | (with_reducible refine Kd.C_drewN ?_ _) | (with_reducible refine Kd.C_drew ?_))); (case side4 => exact (Kd.R_reads' HO131.out).2.1); rintro e w' ⟨rfl, ⟨nd, rfl⟩⟩; refine ⟨_, rfl, ?_⟩) | ((with_reducible refine gate_callee (f := 85) rfl ?_); refine goesL_ (some 20) rfl rfl Try.func85 (by kernel_rfl) rfl #[.slice A0 (l0.take ((ji3) : Int).toNat).length c0] rfl (by (try simp only [List.map_toArray, List.map_cons, List.map_nil]); first | done | (rw [show (l0.take ((ji3) : Int).toNat).length = (ji3).toNat from (by rw [List.length_take]; have h_ : ((ji3) : Int) ≤ (l0.length : Int) := of_decide_eq_true (by first | (with_reducible assumption) | assumption); omega)] <;> rfl) | (simp only [hji3]; rfl) | rfl | (simp only [List.length_drop, List.length_take]; rfl)) ?_; (with_reducible refine (bytes_Clone.calls _ _ (l0.take ((ji3) : Int).toNat) t133 _ ?side1 ?side2 A9.out).mono ?_); (case side1 => repeat (first | exact (Kd.C_below HR128.out (by repeat (first | (with_reducible first | exact HB.out | apply below_alloc | apply pw_below_drewN | apply below_drew1) | exact HB.out))) | (with_reducible refine Kd.C_alloc ?_ _) | (with_reducible refine Kd.C_drewN ?_ _) | (with_reducible refine Kd.C_drew ?_))); (case side2 => exact HC128.out); rintro e w13 ⟨v134, rfl, ho0, hb⟩; refine ⟨_, rfl, ?_⟩; have n0_ := Aside0.mk (Kd.R_elder' (by (with_reducible repeat (first | apply Kd.R_alloc | apply Kd.R_drewN | apply Kd.R_drew)); exact HO131.out) (Kd.R_base ho0) hb); have n1_ := Aside0.mk (Kd.R_lower (Kd.R_new' ho0 (Kd.R_lt (by (with_reducible repeat (first | apply Kd.R_alloc | apply Kd.R_drewN | apply Kd.R_drew)); exact HO131.out))) (below_size (by repeat (first | (with_reducible first | exact HB.out | apply below_alloc | apply pw_below_drewN | apply below_drew1) | exact HB.out)))); have n2_ := Aside0.mk (below_step (by repeat (first | (with_reducible first | exact HB.out | apply below_alloc | apply pw_below_drewN | apply below_drew1) | exact HB.out)) hb); clear HO131; clear HB; have HO131 := n0_; have HO135 := n1_; have HB := n2_; clear n0_ n1_ n2_; (try clear hb); (try clear hb2); (try clear hk); (try clear hi); (try clear ho0)))
      go_ret2
      exact ⟨_, by first | rfl | (simp [errW_none, errW_some] <;> rfl) | (simp only [← hji3]; first | rfl | (simp [errW_none, errW_some] <;> rfl)) | (simp [*, errW_none, errW_some] <;> rfl), by exact Kd.R_mono HO135.out (fun _ hk => trivial), by with_reducible exact HB.out⟩
    · replace c8 := Bool.eq_false_iff.mpr c8
      subst c8
      have H1 : (some (([] : List Int), 22)) = some (r1, r2) := by rw [if_neg (show ¬ (false = true) by decide)] at H; exact H
      clear H
      have H := H1
      clear H1
      simp only [Option.some.injEq, Prod.mk.injEq] at H
      obtain ⟨rfl, rfl⟩ := H
      obtain ⟨i014, hi014, _, hsz14, _⟩ := info_parts info5
      obtain ⟨hcut14, hA14, hC14⟩ := print_take_of (P := Try.prog) (Value.int .u8) 0 32 5 .i64 Try.underlying32 hi014 hsz14 A0 c0 l0 (ji3) (of_decide_eq_true (by first | (with_reducible assumption) | assumption)) (of_decide_eq_true (by first | (with_reducible assumption) | assumption)) HC0.out
      have HR128 := Aside0.mk (Kd.C_of_reads (h1 := fun _ => rfl) (hA14 _ (Kd.reads_of_C HR0.out)))
      have HC128 := Aside0.mk hC14
      clear hA14 hC14 hi014 hsz14
      go_enter Try.func73, Try.ntmps73
      go_wp2_with (first | ((with_reducible refine gate_callee (f := 63) rfl ?_); refine goesL_ (some 16) rfl rfl Try.func63 (by kernel_rfl) rfl #[.slice A0 (l0.take ((ji3) : Int).toNat).length c0] rfl (by (try simp only [List.map_toArray, List.map_cons, List.map_nil]); first | done | (rw [show (l0.take ((ji3) : Int).toNat).length = (ji3).toNat from (by rw [List.length_take]; have h_ : ((ji3) : Int) ≤ (l0.length : Int) := of_decide_eq_true (by first | (with_reducible assumption) | assumption); omega)] <;> rfl) | (simp only [hji3]; rfl) | rfl | (simp only [List.length_drop, List.length_take]; rfl)) ?_; (with_reducible refine (seal_Close.calls k _ _ (l0.take ((ji3) : Int).toNat) t129 _ ?side1 ?side2 A6.out).mono ?_); (case side1 => repeat (first | exact HR128.out | (with_reducible refine Kd.C_alloc ?_ _) | (with_reducible refine Kd.C_drewN ?_ _) | (with_reducible refine Kd.C_drew ?_))); (case side2 => exact HC128.out); rintro e w15 ⟨v130, rfl, ho0, hb⟩; refine ⟨_, rfl, ?_⟩; have n0_ := Aside0.mk (Kd.R_lower ho0 (below_size (by with_reducible exact HB.out))); have n1_ := Aside0.mk (below_step (by with_reducible exact HB.out) hb); clear HB; have HO131 := n0_; have HB := n1_; clear n0_ n1_; (try clear hb); (try clear hb2); (try clear hk); (try clear hi); (try clear ho0); obtain ⟨Ao16, co16, eo16⟩ := Kd.R_slice HO131.out; subst eo16) | ((with_reducible refine gate_callee (f := 94) rfl ?_); refine goesL_ (some 17) rfl rfl Try.func94 (by kernel_rfl) rfl #[.slice A0 l0.length c0, .slice Ao16 t129.length co16] rfl (by (try simp only [List.map_toArray, List.map_cons, List.map_nil]); first | done | rfl | (simp only [List.length_drop, List.length_take]; rfl)) ?_; (with_reducible refine (bytes_Equal.calls _ _ l0 _ _ t129 false _ ?side1 ?side2 ?side3 ?side4 A7.out).mono ?_); (case side1 => repeat (first | exact (Kd.C_below HR0.out HB.out) | (with_reducible refine Kd.C_alloc ?_ _) | (with_reducible refine Kd.C_drewN ?_ _) | (with_reducible refine Kd.C_drew ?_))); (case side2 => exact HC0.out); (case side3 => repeat (first | exact (Kd.R_reads' HO131.out).2.2 | (with_reducible refine Kd.C_alloc ?_ _) | (with_reducible refine Kd.C_drewN ?_ _) | (with_reducible refine Kd.C_drew ?_))); (case side4 => exact (Kd.R_reads' HO131.out).2.1); rintro e w' ⟨rfl, ⟨nd, rfl⟩⟩; refine ⟨_, rfl, ?_⟩))
      go_ret2
      exact ⟨_, by first | rfl | (simp [errW_none, errW_some] <;> rfl) | (simp only [← hji3]; first | rfl | (simp [errW_none, errW_some] <;> rfl)) | (simp [*, errW_none, errW_some] <;> rfl), by first | exact Kd.R_nil _ _ _ _ _ | exact Kd.N_nil _ _ _ _ _ | exact Kd.V_nil _ _ _ _ _ | exact Kd.Q_nil _ _ _ _ _ | exact Kd.S_nil _ _ _ _ _, by repeat (first | (with_reducible first | exact HB.out | apply below_alloc | apply pw_below_drewN | apply below_drew1) | exact HB.out)⟩

/-! ### seal_Reader_Take: function 86 -/
def seal_Reader_Take.f (s0_0 : List Int) (s0_1 : Bool) (a1 : Int) : Option (List Int × List Int × Bool) :=
  if (s0_0.length : Int) < a1 then some ([], [], true) else (bytes_Clone.f (s0_0.take a1.toNat)).bind fun c => some (c, s0_0.drop a1.toNat, s0_1)
theorem seal_Reader_Take.set_0 {w0 W : World} {g : Nat} {f0 : List Int} {f1 : Bool} (h : IsS141 w0 W g f0 f1) (A : Option Addr) (c : Nat) (xs : List Int) (hc : xs.length ≤ c) (ha : Arr141 w0 W g A xs) : IsS141 w0 (W.setCell ⟨g, 0, none⟩ (.slice A xs.length c)) g xs f1 := by
  obtain ⟨A0, c0, hb, hg, hl, hr⟩ := h
  refine ⟨A, c, by simpa using blk_set hb 0 (.slice A xs.length c), hg, hc, ha.move fun k cells hk hcell => blk_far hcell (by show k ≠ g; omega) _⟩
theorem seal_Reader_Take.arr_drop {w0 W : World} {g : Nat} {A0 : Option Addr} {f0 : List Int} (h : Arr141 w0 W g A0 f0) (m c : Nat) (hm : m ≤ f0.length) (hc : f0.length ≤ c) : Arr141 w0 W g (if c = m then A0 else A0.map (·.add m)) (f0.drop m) := by
  refine ⟨by have := h.1; rw [List.length_drop]; omega, fun hp => ?_⟩
  rw [List.length_drop] at hp
  obtain ⟨k, cells, off, h1, h2, h3, h4, h5⟩ := h.2 (by omega)
  refine ⟨k, cells, off + m, ?_, h2, h3, h4, fun j hj => ?_⟩
  · rw [if_neg (by omega), h1]
    simp only [Option.map_some, Addr.add]
    by_cases h : m = 0 <;> simp [h]
  · rw [List.length_drop] at hj
    rw [Nat.add_assoc, h5 (m + j) (by omega)]
    simp [List.getD_eq_getElem?_getD, List.getElem?_drop]
set_option maxHeartbeats 8000000 in
set_option maxRecDepth 100000 in
theorem seal_Reader_Take.calls (g : Nat) (s0_0 : List Int) (s0_1 : Bool) (a1 : Int) (r1 : List Int) (r2 : List Int) (r3 : Bool) (w0 w : World) (hI : IsS141 w0 w g s0_0 s0_1) (hB : Below w0.heap.size w0 w) (h : seal_Reader_Take.f s0_0 s0_1 a1 = some (r1, r2, r3)) :
    Calls Try.prog 86 #[.pointer (some ⟨g, 0, none⟩), .int .i64 a1] w fun e w' => ∃ v0_ : Value, e = .returned (v0_) ∧ Kd.R (Kd.int .u8) 5 w' w.heap.size (fun _ => True) v0_ r1 ∧ IsS141 w0 w' g r2 r3 ∧ Below w0.heap.size w0 w' ∧ KeepBut w w' g none := by
  unfold seal_Reader_Take.f at h
  have hn : (if (s0_0.length : Int) < a1 then some (([], [], true) : List Int × List Int × Bool) else (bytes_Clone.f (s0_0.take a1.toNat)).bind fun c => some (c, s0_0.drop a1.toNat, s0_1)) = some (r1, r2, r3) := h
  clear h
  have hI2 := hI
  obtain ⟨A0, c0, HG, hl0, hC, hAt⟩ := hI2.reads
  have HI := Aside0.mk hI
  have HB := Aside0.mk hB
  have hcell0 := cellS141_0 HG
  have hcell1 := cellS141_1 HG
  have hfz0 := blk_frozen HG 0
  have hfz1 := blk_frozen HG 1
  by_cases hlt : (s0_0.length : Int) < a1
  · rw [if_pos hlt] at hn
    simp only [Option.some.injEq, Prod.mk.injEq] at hn
    obtain ⟨rfl, rfl, rfl⟩ := hn
    have hmx : (if a1 < 0 then 0 else a1) = a1 := by rw [if_neg (by omega)]
    have hb1 : decide ((s0_0.length : Int) < a1) = true := decide_eq_true hlt
    clear hI hI2 hB HG hC hAt hlt
    go_enter Try.func86, Try.ntmps86
    go_wp2
    go_ret
    refine ⟨_, rfl, Kd.R_nil _ _ _ _ _, ?_, ?_, ?_⟩
    · have h1 := seal_Reader_Take.set_0 HI.out none 0 [] (Nat.le_refl _) ⟨by simp, fun hp => absurd hp (by simp)⟩
      exact h1.set_1 true
    · exact below_set (below_set HB.out HI.out.ge) HI.out.ge
    · exact ((KeepBut.refl w g none).set_ 0 _).set_ 1 _
  · rw [if_neg hlt] at hn
    obtain ⟨c, hc, hn⟩ := Option.bind_eq_some_iff.mp hn
    simp only [Option.some.injEq, Prod.mk.injEq] at hn
    obtain ⟨rfl, rfl, rfl⟩ := hn
    have A1 := Aside0.mk hc
    have HC := Aside0.mk hC
    have HAt := Aside0.mk (show Arr141 w0 w g A0 s0_0 from by
      obtain ⟨A', c', hb', _, _, hr'⟩ := hI2
      rw [HG] at hb'
      injection hb' with hb'
      injection hb' with hb' _
      injection hb' with hb'
      injection hb' with hb' _
      injection hb' with hb' _ _
      rw [hb']
      exact hr')
    have HL := Aside0.mk hl0
    have hmx0 : 0 ≤ mx a1 0 := by unfold mx; omega
    have hmxl : mx a1 0 ≤ (s0_0.length : Int) := by unfold mx; omega
    have hmxn : (mx a1 0).toNat = a1.toNat := by unfold mx; omega
    obtain ⟨m, hm⟩ : ∃ m : Int, mx a1 0 = m := ⟨_, rfl⟩
    rw [hm] at hmx0 hmxl hmxn
    have hm2 : (if a1 < 0 then 0 else a1) = m := hm
    clear hm
    have HM := Aside0.mk hmxn
    have hlt2 : decide ((s0_0.length : Int) < m) = false := decide_eq_false (by omega)
    have hml : m.toNat ≤ s0_0.length := by omega
    have HML := Aside0.mk hml
    have cut1 := cut_to (P := Try.prog) 32 5 .i64 Try.underlying32 rfl A0 s0_0.length c0 m hmx0 hmxl hl0
    have cut2 := cut_from (P := Try.prog) 32 5 .i64 Try.underlying32 rfl 1 rfl A0 s0_0.length c0 m hmx0 hmxl
    obtain ⟨A', hA'⟩ : ∃ A' : Option Addr, (if c0 = m.toNat then A0 else A0.map (·.add (m.toNat * 1))) = A' := ⟨_, rfl⟩
    rw [hA'] at cut2
    have HA' := Aside0.mk hA'
    clear hA'
    have HG0 := Aside0.mk HG
    have hlen : (s0_0.take m.toNat).length = m.toNat := by rw [List.length_take]; omega
    have hdl : (s0_0.drop m.toNat).length = s0_0.length - m.toNat := List.length_drop ..
    have hg1 : s0_0.length - m.toNat ≤ c0 - m.toNat := by omega
    have HD := Aside0.mk (And.intro hdl hg1)
    have CC := Aside0.mk (fun (W : World) (hR : Kd.C (Kd.int .u8) W A0 m.toNat (s0_0.take m.toNat)) => by
      have h1 := bytes_Clone.calls A0 c0 (s0_0.take m.toNat) c W (by rw [hlen]; exact hR) (by rw [hlen]; omega) (by rw [HM.out]; exact A1.out)
      rw [hlen] at h1
      exact h1)
    have HC1 := Aside0.mk (show Kd.C (Kd.int .u8) w A0 m.toNat (s0_0.take m.toNat) from by have h1 := Kd.C_take HC.out HML.out; rw [hlen] at h1; exact h1)
    rw [← HM.out]
    clear hI hI2 hB HG hC hAt hlt hc hl0 hmxn hml hlen hdl hg1
    go_enter Try.func86, Try.ntmps86
    go_wp2_with (go_at_call 85; (with_reducible refine (CC.out _ HC1.out).mono ?_); rintro e w1 ⟨v, rfl, ho, hb⟩; have HO := Aside0.mk ho; have HW := Aside0.mk hb; have HG1 := blk_below HG0.out hb; have hcell2 := cellS141_0 HG1; have hfz2 := blk_frozen HG1 0; clear ho hb HG1)
    go_ret
    have hI1 := HI.out.below HW.out
    refine ⟨_, rfl, Kd.R_set HO.out (blk_below HG0.out HW.out) (by decide) 0 _, ?_, ?_, ?_⟩
    · have h1 := seal_Reader_Take.set_0 hI1 A' (c0 - m.toNat) (s0_0.drop m.toNat) (by rw [HD.out.1]; exact HD.out.2) (by rw [← HA'.out, Nat.mul_one]; exact (seal_Reader_Take.arr_drop HAt.out m.toNat c0 HML.out HL.out).move (fun k cells hk hcl => blk_below hcl HW.out))
      rw [HD.out.1] at h1
      exact h1
    · exact below_set (HB.out.trans (HW.out.mono HB.out.size)) HI.out.ge
    · exact (KeepBut.of_below HW.out g none).set_ 0 _

/-! ### seal_Reader_Num: function 46 -/
def seal_Reader_Num.l0 : Nat → Int → List Int → Int → Int → List Int → Bool → Option (Int × List Int × Bool)
  | 0, _, _, _, _, _, _ => none
  | k + 1, x5, x11, x12, x13, x1000, x1001 => if x13 < x12 then (if 0 ≤ x13 then (if x13 < (x11.length : Int) then (seal_Reader_Num.l0 k (Go.bits .or .u64 (IntKind.u64.wrap (x5 * 256)) (IntKind.u64.wrap (rd x11 x13))) x11 x12 (wrap64 (x13 + 1)) x1000 x1001) else (none)) else (none)) else (some (x5, x1000, x1001))
def seal_Reader_Num.f (k : Nat) (s0_0 : List Int) (s0_1 : Bool) (a1 : Int) : Option (Int × List Int × Bool) := (seal_wide.f a1).bind fun t136 => ((seal_Reader_Take.f s0_0 s0_1 t136).bind fun bt137 => (seal_Reader_Num.l0 k 0 bt137.1 (bt137.1.length : Int) 0 bt137.2.1 bt137.2.2))
theorem seal_Reader_Num.mono_l : ∀ k, (∀ y0 y1 y2 y3 y4 y5, LeO (seal_Reader_Num.l0 k y0 y1 y2 y3 y4 y5) (seal_Reader_Num.l0 (k + 1) y0 y1 y2 y3 y4 y5))
  | 0 => fun _ _ _ _ _ _ r h => by simp [seal_Reader_Num.l0] at h
  | k + 1 => by
    have ih0 := seal_Reader_Num.mono_l k
    · intro y0 y1 y2 y3 y4 y5
      unfold seal_Reader_Num.l0
      repeat' first
      | (with_reducible exact ih0 _ _ _ _ _ _)
      | (with_reducible exact LeO.refl _)
      | (with_reducible exact LeO.none _)
      | (with_reducible refine LeO.ite ?_ ?_)
      | (with_reducible refine LeO.bind ?_ (fun _ => ?_))
      | exact ih0 _ _ _ _ _ _
      | exact LeO.none _
      | refine LeO.ite ?_ ?_
      | refine LeO.bind ?_ (fun _ => ?_)
theorem seal_Reader_Num.mono : ∀ a0 a1 a2 k, LeO (seal_Reader_Num.f k a0 a1 a2) (seal_Reader_Num.f (k + 1) a0 a1 a2) := by
  intro a0 a1 a2 k
  have ih0 := seal_Reader_Num.mono_l k
  unfold seal_Reader_Num.f
  repeat' first
      | (with_reducible exact ih0 _ _ _ _ _ _)
      | (with_reducible exact LeO.refl _)
      | (with_reducible exact LeO.none _)
      | (with_reducible refine LeO.ite ?_ ?_)
      | (with_reducible refine LeO.bind ?_ (fun _ => ?_))
      | exact ih0 _ _ _ _ _ _
      | exact LeO.none _
      | refine LeO.ite ?_ ?_
      | refine LeO.bind ?_ (fun _ => ?_)
set_option maxHeartbeats 8000000 in
set_option maxRecDepth 100000 in
theorem seal_Reader_Num.calls (k : Nat) (g : Nat) (s0_0 : List Int) (s0_1 : Bool) (a1 : Int) (r1 : Int) (r2 : List Int) (r3 : Bool) (w0 w : World) (hI : IsS141 w0 w g s0_0 s0_1) (hB : Below w0.heap.size w0 w) (h : seal_Reader_Num.f k s0_0 s0_1 a1 = some (r1, r2, r3)) :
    Calls Try.prog 46 #[.pointer (some ⟨g, 0, none⟩), .int .i64 a1] w fun e w' => e = .returned (.int .u64 r1) ∧ IsS141 w0 w' g r2 r3 ∧ Below w0.heap.size w0 w' ∧ KeepBut w w' g none := by
  have HI0 := Aside0.mk hI
  have HK := Aside0.mk (KeepBut.refl w g none)
  have HL := Aside0.mk hB.size
  clear hI
  have HW0 := Aside0.mk hB.size
  have HB := Aside0.mk hB
  clear hB
  have H : ((seal_wide.f a1).bind fun t136 => ((seal_Reader_Take.f s0_0 s0_1 t136).bind fun bt137 => (seal_Reader_Num.l0 k 0 bt137.1 (bt137.1.length : Int) 0 bt137.2.1 bt137.2.2))) = some (r1, r2, r3) := h
  clear h
  replace H := Option.bind_eq_some_iff.mp H
  obtain ⟨t136, A30, H⟩ := H
  replace H : ((seal_Reader_Take.f s0_0 s0_1 t136).bind fun bt137 => (seal_Reader_Num.l0 k 0 bt137.1 (bt137.1.length : Int) 0 bt137.2.1 bt137.2.2)) = some (r1, r2, r3) := H
  have A3 := Aside0.mk A30
  clear A30
  replace H := Option.bind_eq_some_iff.mp H
  obtain ⟨⟨t137, t140, t141⟩, A40, H⟩ := H
  replace H : (seal_Reader_Num.l0 k 0 t137 (t137.length : Int) 0 t140 t141) = some (r1, r2, r3) := H
  have A4 := Aside0.mk A40
  clear A40
  have H' := Aside0.mk H
  clear H
  go_enter Try.func46, Try.ntmps46
  go_wp2_with (first | ((with_reducible refine gate_callee (f := 81) rfl ?_); refine goesL_ (some 10) rfl rfl Try.func81 (by kernel_rfl) rfl #[.int .i64 a1] rfl (by (try simp only [List.map_toArray, List.map_cons, List.map_nil]); first | done | rfl | (simp only [List.length_drop, List.length_take]; rfl)) ?_; (with_reducible refine (seal_wide.calls a1 t136 _ A3.out).mono ?_); rintro e w5 ⟨rfl, hb⟩; refine ⟨_, rfl, ?_⟩; have n0_ := Aside0.mk (IsS141.below (by with_reducible exact HI0.out) hb); have n1_ := Aside0.mk (KeepBut.trans (by with_reducible exact HK.out) (KeepBut.of_below hb g none) (.inl rfl)); have n2_ := Aside0.mk (below_step (by with_reducible exact HB.out) hb); clear HI0; clear HK; clear HB; have HI0 := n0_; have HK := n1_; have HB := n2_; clear n0_ n1_ n2_; (try clear hb); (try clear hb2); (try clear hk); (try clear hi)) | ((with_reducible refine gate_callee (f := 86) rfl ?_); refine goesL_ (some 11) rfl rfl Try.func86 (by kernel_rfl) rfl #[.pointer (some ⟨g, 0, none⟩), .int .i64 t136] rfl (by (try simp only [List.map_toArray, List.map_cons, List.map_nil]); first | done | rfl | (simp only [List.length_drop, List.length_take]; rfl)) ?_; (with_reducible refine (seal_Reader_Take.calls g s0_0 s0_1 t136 t137 t140 t141 w0 _ ?side1 ?side2 A4.out).mono ?_); (case side1 => with_reducible exact HI0.out); (case side2 => with_reducible exact HB.out); rintro e w6 ⟨v138, rfl, ho0, hi, hb, hk⟩; refine ⟨_, rfl, ?_⟩; have n0_ := Aside0.mk (Kd.R_lower ho0 (keep_size (w := w) (g := g) (row := none) (by with_reducible exact HK.out))); have n1_ := Aside0.mk (KeepBut.trans (by with_reducible exact HK.out) hk (.inl rfl)); have n2_ := Aside0.mk (hb); have n3_ := Aside0.mk (hi); clear HK; clear HB; clear HI0; have HO139 := n0_; have HK := n1_; have HB := n2_; have HI0 := n3_; clear n0_ n1_ n2_ n3_; (try clear hb); (try clear hb2); (try clear hk); (try clear hi); (try clear ho0); obtain ⟨Ao7, co7, eo7⟩ := Kd.R_slice HO139.out; subst eo7))
  go_loopg [5, 13] k (fun kq v5 v13 w' => ∃ (x5_1 : Int) (x13_1 : Int), v5 = .int .u64 x5_1 ∧ v13 = .int .i64 x13_1 ∧ Aside0 (seal_Reader_Num.l0 kq x5_1 t137 (t137.length : Int) x13_1 t140 t141 = some (r1, r2, r3)) ∧ Aside0 (kq ≤ k) ∧ Aside0 (Kd.R (Kd.int .u8) 5 w' w.heap.size (fun _ => True) (.slice Ao7 t137.length co7) t137) ∧ Aside0 (IsS141 w0 w' g t140 t141) ∧ Aside0 (KeepBut w w' g none) ∧ Aside0 (Below w0.heap.size w0 w'))
  case atStart => exact ⟨(0), (0), (by first | rfl | (simp; done) | (simp [*]; done)), (by first | rfl | (simp; done) | (simp [*]; done)), H', ⟨Nat.le_refl _⟩, ⟨by exact HO139.out⟩, ⟨by with_reducible exact HI0.out⟩, ⟨by with_reducible exact HK.out⟩, ⟨by with_reducible exact HB.out⟩⟩
  case round =>
    clear H'
    try clear p2
    try clear c4
    obtain ⟨x5_1, x13_1, rfl, rfl, HA, HK1, HO_11, HI0, HK, HB⟩ := hrel
    cases gk with
    | zero => exact absurd HA.out (by simp [seal_Reader_Num.l0])
    | succ k1 =>
      have H := HA.out
      clear HA
      simp only [seal_Reader_Num.l0] at H
      by_cases c8 : x13_1 < (t137.length : Int)
      · rw [if_pos c8] at H
        have c8b0 : decide (x13_1 < (t137.length : Int)) = true := decide_eq_true c8
        clear c8
        by_cases c9 : 0 ≤ x13_1
        case neg => (rw [if_neg c9] at H; exact absurd H (by simp))
        rw [if_pos c9] at H
        have c9b0 : decide (0 ≤ x13_1) = true := decide_eq_true c9
        clear c9
        by_cases c10 : x13_1 < (t137.length : Int)
        case neg => (rw [if_neg c10] at H; exact absurd H (by simp))
        rw [if_pos c10] at H
        have c10b0 : decide (x13_1 < (t137.length : Int)) = true := decide_eq_true c10
        clear c10
        have H' := Aside0.mk H
        clear H
        have p142 : 0 ≤ (x13_1 : Int) := of_decide_eq_true (by first | (with_reducible assumption) | assumption)
        have q142 : x13_1 < (t137.length : Int) := of_decide_eq_true (by first | (with_reducible assumption) | assumption)
        obtain ⟨ad142, e142, hx142_0⟩ := Kd.at_int (Kd.R_reads' HO_11.out).2.2 x13_1 p142 q142
        cases e142
        replace p142 := eq_true p142
        replace q142 := eq_true q142
        go_wp2
        go_roundg k1
        case measure => have := HK1.out; omega
        case rel => exact ⟨(Go.bits .or .u64 (IntKind.u64.wrap (x5_1 * 256)) (IntKind.u64.wrap (rd t137 x13_1))), (wrap64 (x13_1 + 1)), (by first | rfl | (simp; done) | (simp [*]; done)), (by first | rfl | (simp; done) | (simp [*]; done)), H', ⟨by have := HK1.out; omega⟩, ⟨by exact HO_11.out⟩, ⟨by with_reducible exact HI0.out⟩, ⟨by with_reducible exact HK.out⟩, ⟨by with_reducible exact HB.out⟩⟩
      · rw [if_neg c8] at H
        have c8b0 : decide (x13_1 < (t137.length : Int)) = false := decide_eq_false c8
        clear c8
        simp only [Option.some.injEq, Prod.mk.injEq] at H
        obtain ⟨rfl, rfl, rfl⟩ := H
        go_wp2
        go_ret
        exact ⟨by first | rfl | (simp [errW_none, errW_some] <;> rfl) | (simp [*, errW_none, errW_some] <;> rfl), by with_reducible exact HI0.out, by with_reducible exact HB.out, by with_reducible exact HK.out⟩

/-! ### seal_Reader_Signed: function 87 -/
def seal_Reader_Signed.f (k : Nat) (s0_0 : List Int) (s0_1 : Bool) : Option (Int × List Int × Bool) := (seal_Reader_Num.f k s0_0 s0_1 4).bind fun bt143 => (some (wrap32 ((bt143.1) % 4294967296), bt143.2.1, bt143.2.2))
theorem seal_Reader_Signed.mono : ∀ a0 a1 k, LeO (seal_Reader_Signed.f k a0 a1) (seal_Reader_Signed.f (k + 1) a0 a1) := by
  intro a0 a1 k
  unfold seal_Reader_Signed.f
  repeat' first
      | (with_reducible exact seal_Reader_Num.mono _ _ _ _)
      | (with_reducible exact LeO.refl _)
      | (with_reducible exact LeO.none _)
      | (with_reducible refine LeO.ite ?_ ?_)
      | (with_reducible refine LeO.bind ?_ (fun _ => ?_))
      | exact seal_Reader_Num.mono _ _ _ _
      | exact LeO.none _
      | refine LeO.ite ?_ ?_
      | refine LeO.bind ?_ (fun _ => ?_)
set_option maxHeartbeats 8000000 in
set_option maxRecDepth 100000 in
theorem seal_Reader_Signed.calls (k : Nat) (g : Nat) (s0_0 : List Int) (s0_1 : Bool) (r1 : Int) (r2 : List Int) (r3 : Bool) (w0 w : World) (hI : IsS141 w0 w g s0_0 s0_1) (hB : Below w0.heap.size w0 w) (h : seal_Reader_Signed.f k s0_0 s0_1 = some (r1, r2, r3)) :
    Calls Try.prog 87 #[.pointer (some ⟨g, 0, none⟩)] w fun e w' => e = .returned (.int .i32 r1) ∧ IsS141 w0 w' g r2 r3 ∧ Below w0.heap.size w0 w' ∧ KeepBut w w' g none := by
  have HI0 := Aside0.mk hI
  have HK := Aside0.mk (KeepBut.refl w g none)
  have HL := Aside0.mk hB.size
  clear hI
  have HW0 := Aside0.mk hB.size
  have HB := Aside0.mk hB
  clear hB
  have H : ((seal_Reader_Num.f k s0_0 s0_1 4).bind fun bt143 => (some (wrap32 ((bt143.1) % 4294967296), bt143.2.1, bt143.2.2))) = some (r1, r2, r3) := h
  clear h
  replace H := Option.bind_eq_some_iff.mp H
  obtain ⟨⟨t143, t144, t145⟩, A20, H⟩ := H
  replace H : (some (wrap32 ((t143) % 4294967296), t144, t145)) = some (r1, r2, r3) := H
  have A2 := Aside0.mk A20
  clear A20
  simp only [Option.some.injEq, Prod.mk.injEq] at H
  obtain ⟨rfl, rfl, rfl⟩ := H
  go_enter Try.func87, Try.ntmps87
  go_wp2_with (first | ((with_reducible refine gate_callee (f := 46) rfl ?_); refine goesL_ (some 4) rfl rfl Try.func46 (by kernel_rfl) rfl #[.pointer (some ⟨g, 0, none⟩), .int .i64 4] rfl (by (try simp only [List.map_toArray, List.map_cons, List.map_nil]); first | done | rfl | (simp only [List.length_drop, List.length_take]; rfl)) ?_; (with_reducible refine (seal_Reader_Num.calls k g s0_0 s0_1 4 t143 t144 t145 w0 _ ?side1 ?side2 A2.out).mono ?_); (case side1 => with_reducible exact HI0.out); (case side2 => with_reducible exact HB.out); rintro e w3 ⟨rfl, hi, hb, hk⟩; refine ⟨_, rfl, ?_⟩; have n0_ := Aside0.mk (KeepBut.trans (by with_reducible exact HK.out) hk (.inl rfl)); have n1_ := Aside0.mk (hb); have n2_ := Aside0.mk (hi); clear HK; clear HB; clear HI0; have HK := n0_; have HB := n1_; have HI0 := n2_; clear n0_ n1_ n2_; (try clear hb); (try clear hb2); (try clear hk); (try clear hi)))
  go_ret
  exact ⟨by first | rfl | (simp [errW_none, errW_some] <;> rfl) | (simp [*, errW_none, errW_some] <;> rfl), by with_reducible exact HI0.out, by with_reducible exact HB.out, by with_reducible exact HK.out⟩

-- NOT PRINTED: function 74 (blob_Blob_read)

end Go.Proofs.Ytehepnmagcjkaaa.PBlobConfigs
