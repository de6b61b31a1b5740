-- Written by a program of this session (wip/tools/mkprint.py over the kit's print).
import Derived.Test.YtehepnmagcjkaaaPBlobParsesx0
import Derived.Test.YtehepnmagcjkaaaPBlobParsesx3
import Derived.Test.YtehepnmagcjkaaaPBlobParsesx5
import Derived.Test.YtehepnmagcjkaaaPBlobParsesx6
import Derived.Test.YtehepnmagcjkaaaPBlobParsesx7
namespace Go.Proofs.Ytehepnmagcjkaaa.PBlobParses
open Go.RowKit Go.Proofs.YtehepnmagcjkaaaW.PrintWords Go.Proofs.YtehepnmagcjkaaaW.PrintLast Go.Proofs.YtehepnmagcjkaaaW.PrintMore
attribute [local go_sem] max2_int min2_int max_two min_two max_three min_three max_four min_four   -- for this text's walks alone
set_option linter.unusedVariables false
set_option linter.unusedSimpArgs false

/-- A state of type 67 at block g of W; what its slices lead to came in by w0. -/
def IsS67 (w0 W : World) (g : Nat) (f0 : Int) (f1 : Int) (f2 : Int) (f3 : Int) (f4 : Int) (f5 : Int) (f6 : List (S115)) (f7 : Int) (f8 : Int) (f9 : List Int) (f10 : List (S120)) (f11 : List Int) (f12 : Int) (f13 : Int) (f14 : List Int) : Prop := ∃ A6 c6, ∃ A9 c9, ∃ A10 c10, ∃ A11 c11, ∃ A14 c14, W.heap[g]? = some (.cells #[.int .i64 f0, .int .i64 f1, .int .i64 f2, .int .i64 f3, .int .i64 f4, .int .i64 f5, .slice A6 f6.length c6, .int .i64 f7, .int .i64 f8, .slice A9 f9.length c9, .slice A10 f10.length c10, .slice A11 f11.length c11, .int .i64 f12, .int .i64 f13, .slice A14 f14.length c14] 67 (0, 0)) ∧ w0.heap.size ≤ g ∧ Kd.C k115 w0 A6 f6.length f6 ∧ Kd.C (Kd.int .i32) w0 A9 f9.length f9 ∧ Kd.C k120 w0 A10 f10.length f10 ∧ Kd.C (Kd.int .i32) w0 A11 f11.length f11 ∧ Kd.C (Kd.int .i32) w0 A14 f14.length f14
theorem IsS67.grown {w0 W : World} {g : Nat} {f0 : Int} {f1 : Int} {f2 : Int} {f3 : Int} {f4 : Int} {f5 : Int} {f6 : List (S115)} {f7 : Int} {f8 : Int} {f9 : List Int} {f10 : List (S120)} {f11 : List Int} {f12 : Int} {f13 : Int} {f14 : List Int} {W1 : World} {row : Option Nat} (h : IsS67 w0 W g f0 f1 f2 f3 f4 f5 f6 f7 f8 f9 f10 f11 f12 f13 f14) (hw : W.grownBy W1 row) (hne : some g ≠ row) : IsS67 w0 W1 g f0 f1 f2 f3 f4 f5 f6 f7 f8 f9 f10 f11 f12 f13 f14 := by
 obtain ⟨A6, c6, A9, c9, A10, c10, A11, c11, A14, c14, hb, hg, hr6, hr9, hr10, hr11, hr14⟩ := h
 exact ⟨A6, c6, A9, c9, A10, c10, A11, c11, A14, c14, blk_grown hb hw hne, hg, hr6, hr9, hr10, hr11, hr14⟩
theorem IsS67.own_neN {w0 W : World} {g : Nat} {f0 : Int} {f1 : Int} {f2 : Int} {f3 : Int} {f4 : Int} {f5 : Int} {f6 : List (S115)} {f7 : Int} {f8 : Int} {f9 : List Int} {f10 : List (S120)} {f11 : List Int} {f12 : Int} {f13 : Int} {f14 : List Int} {α : Type} {d : Kd α} {e : Nat} {base : Nat} {ok : Nat → Prop} {v : Value} {xs : List α} (h : IsS67 w0 W g f0 f1 f2 f3 f4 f5 f6 f7 f8 f9 f10 f11 f12 f13 f14) (ho : Kd.N d e W base ok v xs) (ht : e ≠ 67) : some g ≠ v.ownBlock := by
 obtain ⟨A6, c6, A9, c9, A10, c10, A11, c11, A14, c14, hb, hg, hr6, hr9, hr10, hr11, hr14⟩ := h
 exact Kd.N_ne ho hb ht
theorem IsS67.fresh {w0 W : World} {g : Nat} {f0 : Int} {f1 : Int} {f2 : Int} {f3 : Int} {f4 : Int} {f5 : Int} {f6 : List (S115)} {f7 : Int} {f8 : Int} {f9 : List Int} {f10 : List (S120)} {f11 : List Int} {f12 : Int} {f13 : Int} {f14 : List Int} (h : IsS67 w0 W g f0 f1 f2 f3 f4 f5 f6 f7 f8 f9 f10 f11 f12 f13 f14) : ∀ k, W.heap.size ≤ k → k ≠ g := by
 obtain ⟨A6, c6, A9, c9, A10, c10, A11, c11, A14, c14, hb, hg, hr6, hr9, hr10, hr11, hr14⟩ := h
 exact Kd.freshB hb
theorem IsS67.kept {w0 W : World} {g : Nat} {f0 : Int} {f1 : Int} {f2 : Int} {f3 : Int} {f4 : Int} {f5 : Int} {f6 : List (S115)} {f7 : Int} {f8 : Int} {f9 : List Int} {f10 : List (S120)} {f11 : List Int} {f12 : Int} {f13 : Int} {f14 : List Int} {W1 : World} {S : Nat → Prop} (h : IsS67 w0 W g f0 f1 f2 f3 f4 f5 f6 f7 f8 f9 f10 f11 f12 f13 f14) (hk : Kept W W1 S) (hne : ¬ S g) : IsS67 w0 W1 g f0 f1 f2 f3 f4 f5 f6 f7 f8 f9 f10 f11 f12 f13 f14 := by
 obtain ⟨A6, c6, A9, c9, A10, c10, A11, c11, A14, c14, hb, hg, hr6, hr9, hr10, hr11, hr14⟩ := h
 exact ⟨A6, c6, A9, c9, A10, c10, A11, c11, A14, c14, blk_kept hb hk hne, hg, hr6, hr9, hr10, hr11, hr14⟩
theorem IsS67.below {w0 W : World} {g : Nat} {f0 : Int} {f1 : Int} {f2 : Int} {f3 : Int} {f4 : Int} {f5 : Int} {f6 : List (S115)} {f7 : Int} {f8 : Int} {f9 : List Int} {f10 : List (S120)} {f11 : List Int} {f12 : Int} {f13 : Int} {f14 : List Int} {W1 : World} (h : IsS67 w0 W g f0 f1 f2 f3 f4 f5 f6 f7 f8 f9 f10 f11 f12 f13 f14) (hw : Below W.heap.size W W1) : IsS67 w0 W1 g f0 f1 f2 f3 f4 f5 f6 f7 f8 f9 f10 f11 f12 f13 f14 := h.grown (grown_of_below hw none) (by simp)
theorem IsS67.alloc {w0 W : World} {g : Nat} {f0 : Int} {f1 : Int} {f2 : Int} {f3 : Int} {f4 : Int} {f5 : Int} {f6 : List (S115)} {f7 : Int} {f8 : Int} {f9 : List Int} {f10 : List (S120)} {f11 : List Int} {f12 : Int} {f13 : Int} {f14 : List Int} (h : IsS67 w0 W g f0 f1 f2 f3 f4 f5 f6 f7 f8 f9 f10 f11 f12 f13 f14) (o : Obj) : IsS67 w0 (W.alloc o) g f0 f1 f2 f3 f4 f5 f6 f7 f8 f9 f10 f11 f12 f13 f14 := h.below (below_alloc (Below.refl _ _) o)
theorem IsS67.drewN {w0 W : World} {g : Nat} {f0 : Int} {f1 : Int} {f2 : Int} {f3 : Int} {f4 : Int} {f5 : Int} {f6 : List (S115)} {f7 : Int} {f8 : Int} {f9 : List Int} {f10 : List (S120)} {f11 : List Int} {f12 : Int} {f13 : Int} {f14 : List Int} (h : IsS67 w0 W g f0 f1 f2 f3 f4 f5 f6 f7 f8 f9 f10 f11 f12 f13 f14) (m : Nat) : IsS67 w0 (W.drewN m) g f0 f1 f2 f3 f4 f5 f6 f7 f8 f9 f10 f11 f12 f13 f14 := h
theorem IsS67.drew {w0 W : World} {g : Nat} {f0 : Int} {f1 : Int} {f2 : Int} {f3 : Int} {f4 : Int} {f5 : Int} {f6 : List (S115)} {f7 : Int} {f8 : Int} {f9 : List Int} {f10 : List (S120)} {f11 : List Int} {f12 : Int} {f13 : Int} {f14 : List Int} (h : IsS67 w0 W g f0 f1 f2 f3 f4 f5 f6 f7 f8 f9 f10 f11 f12 f13 f14) : IsS67 w0 W.drew g f0 f1 f2 f3 f4 f5 f6 f7 f8 f9 f10 f11 f12 f13 f14 := h
theorem IsS67.at_ {w0 W : World} {g : Nat} {f0 : Int} {f1 : Int} {f2 : Int} {f3 : Int} {f4 : Int} {f5 : Int} {f6 : List (S115)} {f7 : Int} {f8 : Int} {f9 : List Int} {f10 : List (S120)} {f11 : List Int} {f12 : Int} {f13 : Int} {f14 : List Int} {w' : World} {m : Nat} (hq : W.drewN m = w') (h : IsS67 w0 W g f0 f1 f2 f3 f4 f5 f6 f7 f8 f9 f10 f11 f12 f13 f14) : IsS67 w0 w' g f0 f1 f2 f3 f4 f5 f6 f7 f8 f9 f10 f11 f12 f13 f14 := by subst hq; exact IsS67.drewN h m
theorem IsS67.apart {w0 W : World} {g : Nat} {f0 : Int} {f1 : Int} {f2 : Int} {f3 : Int} {f4 : Int} {f5 : Int} {f6 : List (S115)} {f7 : Int} {f8 : Int} {f9 : List Int} {f10 : List (S120)} {f11 : List Int} {f12 : Int} {f13 : Int} {f14 : List Int} {α : Type} {d : Kd α} {e : Nat} {base : Nat} {ok : Nat → Prop} {v : Value} {xs : List α} (h : IsS67 w0 W g f0 f1 f2 f3 f4 f5 f6 f7 f8 f9 f10 f11 f12 f13 f14) (ho : d.R e W base ok v xs) (ht : ∀ q, q ∈ e :: d.E → q ≠ 67) : d.R e W base (fun k => ok k ∧ k ≠ g) v xs := by
 obtain ⟨A6, c6, A9, c9, A10, c10, A11, c11, A14, c14, hb, hg, hr6, hr9, hr10, hr11, hr14⟩ := h
 exact Kd.R_types ho hb ht
theorem IsS67.own_ne {w0 W : World} {g : Nat} {f0 : Int} {f1 : Int} {f2 : Int} {f3 : Int} {f4 : Int} {f5 : Int} {f6 : List (S115)} {f7 : Int} {f8 : Int} {f9 : List Int} {f10 : List (S120)} {f11 : List Int} {f12 : Int} {f13 : Int} {f14 : List Int} {α : Type} {d : Kd α} {e : Nat} {base : Nat} {ok : Nat → Prop} {v : Value} {xs : List α} (h : IsS67 w0 W g f0 f1 f2 f3 f4 f5 f6 f7 f8 f9 f10 f11 f12 f13 f14) (ho : d.R e W base ok v xs) (ht : e ≠ 67) : some g ≠ v.ownBlock := by
 obtain ⟨A6, c6, A9, c9, A10, c10, A11, c11, A14, c14, hb, hg, hr6, hr9, hr10, hr11, hr14⟩ := h
 exact Kd.R_ne ho hb ht
theorem IsS67.apartQ {w0 W : World} {g : Nat} {f0 : Int} {f1 : Int} {f2 : Int} {f3 : Int} {f4 : Int} {f5 : Int} {f6 : List (S115)} {f7 : Int} {f8 : Int} {f9 : List Int} {f10 : List (S120)} {f11 : List Int} {f12 : Int} {f13 : Int} {f14 : List Int} {α : Type} {d : Kd α} {e : Nat} {base : Nat} {ok : Nat → Prop} {v : Value} {xs : List α} (h : IsS67 w0 W g f0 f1 f2 f3 f4 f5 f6 f7 f8 f9 f10 f11 f12 f13 f14) (ho : d.Q e W base ok v xs) (ht : ∀ q, q ∈ e :: d.E → q ≠ 67) : d.Q e W base (fun k => ok k ∧ k ≠ g) v xs := by
 obtain ⟨A6, c6, A9, c9, A10, c10, A11, c11, A14, c14, hb, hg, hr6, hr9, hr10, hr11, hr14⟩ := h
 exact Kd.Q_types ho hb ht
theorem IsS67.own_neQ {w0 W : World} {g : Nat} {f0 : Int} {f1 : Int} {f2 : Int} {f3 : Int} {f4 : Int} {f5 : Int} {f6 : List (S115)} {f7 : Int} {f8 : Int} {f9 : List Int} {f10 : List (S120)} {f11 : List Int} {f12 : Int} {f13 : Int} {f14 : List Int} {α : Type} {d : Kd α} {e : Nat} {base : Nat} {ok : Nat → Prop} {v : Value} {xs : List α} (h : IsS67 w0 W g f0 f1 f2 f3 f4 f5 f6 f7 f8 f9 f10 f11 f12 f13 f14) (ho : d.Q e W base ok v xs) (ht : e ≠ 67) : some g ≠ v.ownBlock := by
 obtain ⟨A6, c6, A9, c9, A10, c10, A11, c11, A14, c14, hb, hg, hr6, hr9, hr10, hr11, hr14⟩ := h
 exact Kd.Q_ne ho hb ht
theorem IsS67.own_ap {w0 W : World} {g : Nat} {f0 : Int} {f1 : Int} {f2 : Int} {f3 : Int} {f4 : Int} {f5 : Int} {f6 : List (S115)} {f7 : Int} {f8 : Int} {f9 : List Int} {f10 : List (S120)} {f11 : List Int} {f12 : Int} {f13 : Int} {f14 : List Int} {α : Type} {d : Kd α} {e : Nat} {base : Nat} {ok : Nat → Prop} {v : Value} {xs : List α} (h : IsS67 w0 W g f0 f1 f2 f3 f4 f5 f6 f7 f8 f9 f10 f11 f12 f13 f14) (ho : d.R e W base ok v xs) (ht : e ≠ 67) : some g ≠ v.ownBlock := IsS67.own_ne h ho ht
theorem IsS67.own_apN {w0 W : World} {g : Nat} {f0 : Int} {f1 : Int} {f2 : Int} {f3 : Int} {f4 : Int} {f5 : Int} {f6 : List (S115)} {f7 : Int} {f8 : Int} {f9 : List Int} {f10 : List (S120)} {f11 : List Int} {f12 : Int} {f13 : Int} {f14 : List Int} {α : Type} {d : Kd α} {e : Nat} {base : Nat} {ok : Nat → Prop} {v : Value} {xs : List α} (h : IsS67 w0 W g f0 f1 f2 f3 f4 f5 f6 f7 f8 f9 f10 f11 f12 f13 f14) (ho : d.N e W base ok v xs) (ht : e ≠ 67) : some g ≠ v.ownBlock := IsS67.own_neN h ho ht
theorem IsS67.own_apQ {w0 W : World} {g : Nat} {f0 : Int} {f1 : Int} {f2 : Int} {f3 : Int} {f4 : Int} {f5 : Int} {f6 : List (S115)} {f7 : Int} {f8 : Int} {f9 : List Int} {f10 : List (S120)} {f11 : List Int} {f12 : Int} {f13 : Int} {f14 : List Int} {α : Type} {d : Kd α} {e : Nat} {base : Nat} {ok : Nat → Prop} {v : Value} {xs : List α} (h : IsS67 w0 W g f0 f1 f2 f3 f4 f5 f6 f7 f8 f9 f10 f11 f12 f13 f14) (ho : d.Q e W base ok v xs) (ht : e ≠ 67) : some g ≠ v.ownBlock := IsS67.own_neQ h ho ht
theorem IsS67.apartS {w0 W : World} {g : Nat} {f0 : Int} {f1 : Int} {f2 : Int} {f3 : Int} {f4 : Int} {f5 : Int} {f6 : List (S115)} {f7 : Int} {f8 : Int} {f9 : List Int} {f10 : List (S120)} {f11 : List Int} {f12 : Int} {f13 : Int} {f14 : List Int} {α : Type} {d : Kd α} {e : Nat} {base : Nat} {ok : Nat → Prop} {v : Value} {xs : List α} (h : IsS67 w0 W g f0 f1 f2 f3 f4 f5 f6 f7 f8 f9 f10 f11 f12 f13 f14) (ho : d.S e W base ok v xs) (ht : ∀ q, q ∈ e :: d.E → q ≠ 67) : d.S e W base (fun k => ok k ∧ k ≠ g) v xs := by
 obtain ⟨A6, c6, A9, c9, A10, c10, A11, c11, A14, c14, hb, hg, hr6, hr9, hr10, hr11, hr14⟩ := h
 exact Kd.S_types ho hb ht
theorem IsS67.own_neS {w0 W : World} {g : Nat} {f0 : Int} {f1 : Int} {f2 : Int} {f3 : Int} {f4 : Int} {f5 : Int} {f6 : List (S115)} {f7 : Int} {f8 : Int} {f9 : List Int} {f10 : List (S120)} {f11 : List Int} {f12 : Int} {f13 : Int} {f14 : List Int} {α : Type} {d : Kd α} {e : Nat} {base : Nat} {ok : Nat → Prop} {v : Value} {xs : List α} (h : IsS67 w0 W g f0 f1 f2 f3 f4 f5 f6 f7 f8 f9 f10 f11 f12 f13 f14) (ho : d.S e W base ok v xs) (ht : e ≠ 67) : some g ≠ v.ownBlock := by
 obtain ⟨A6, c6, A9, c9, A10, c10, A11, c11, A14, c14, hb, hg, hr6, hr9, hr10, hr11, hr14⟩ := h
 exact Kd.S_ne ho hb ht
theorem IsS67.lt {w0 W : World} {g : Nat} {f0 : Int} {f1 : Int} {f2 : Int} {f3 : Int} {f4 : Int} {f5 : Int} {f6 : List (S115)} {f7 : Int} {f8 : Int} {f9 : List Int} {f10 : List (S120)} {f11 : List Int} {f12 : Int} {f13 : Int} {f14 : List Int} (h : IsS67 w0 W g f0 f1 f2 f3 f4 f5 f6 f7 f8 f9 f10 f11 f12 f13 f14) : g < W.heap.size := by
 obtain ⟨A6, c6, A9, c9, A10, c10, A11, c11, A14, c14, hb, hg, hr6, hr9, hr10, hr11, hr14⟩ := h
 exact blk_lt hb
theorem IsS67.ge {w0 W : World} {g : Nat} {f0 : Int} {f1 : Int} {f2 : Int} {f3 : Int} {f4 : Int} {f5 : Int} {f6 : List (S115)} {f7 : Int} {f8 : Int} {f9 : List Int} {f10 : List (S120)} {f11 : List Int} {f12 : Int} {f13 : Int} {f14 : List Int} (h : IsS67 w0 W g f0 f1 f2 f3 f4 f5 f6 f7 f8 f9 f10 f11 f12 f13 f14) : w0.heap.size ≤ g := by
 obtain ⟨A6, c6, A9, c9, A10, c10, A11, c11, A14, c14, hb, hg, hr6, hr9, hr10, hr11, hr14⟩ := h
 exact hg
theorem IsS67.ne_blk {w0 W : World} {g : Nat} {f0 : Int} {f1 : Int} {f2 : Int} {f3 : Int} {f4 : Int} {f5 : Int} {f6 : List (S115)} {f7 : Int} {f8 : Int} {f9 : List Int} {f10 : List (S120)} {f11 : List Int} {f12 : Int} {f13 : Int} {f14 : List Int} {a : Nat} {cs : Array Value} {t : TypeId} {fr : Nat × Nat} (h : IsS67 w0 W g f0 f1 f2 f3 f4 f5 f6 f7 f8 f9 f10 f11 f12 f13 f14) (hb2 : W.heap[a]? = some (.cells cs t fr)) (ht : t ≠ 67) : g ≠ a := by
 obtain ⟨A6, c6, A9, c9, A10, c10, A11, c11, A14, c14, hb, hg, hr6, hr9, hr10, hr11, hr14⟩ := h
 rintro rfl
 rw [hb] at hb2
 injection hb2 with hb2
 injection hb2 with _ ht2
 exact ht ht2.symm
theorem IsS67.far {w0 W : World} {g : Nat} {f0 : Int} {f1 : Int} {f2 : Int} {f3 : Int} {f4 : Int} {f5 : Int} {f6 : List (S115)} {f7 : Int} {f8 : Int} {f9 : List Int} {f10 : List (S120)} {f11 : List Int} {f12 : Int} {f13 : Int} {f14 : List Int} {p : Addr} (h : IsS67 w0 W g f0 f1 f2 f3 f4 f5 f6 f7 f8 f9 f10 f11 f12 f13 f14) (hne : g ≠ p.block) (u : Value) : IsS67 w0 (W.setCell p u) g f0 f1 f2 f3 f4 f5 f6 f7 f8 f9 f10 f11 f12 f13 f14 := by
 obtain ⟨A6, c6, A9, c9, A10, c10, A11, c11, A14, c14, hb, hg, hr6, hr9, hr10, hr11, hr14⟩ := h
 exact ⟨A6, c6, A9, c9, A10, c10, A11, c11, A14, c14, blk_far hb hne u, hg, hr6, hr9, hr10, hr11, hr14⟩
theorem cellS67_0 {W : World} {g : Nat} {A6 : Option Addr} {c6 : Nat} {A9 : Option Addr} {c9 : Nat} {A10 : Option Addr} {c10 : Nat} {A11 : Option Addr} {c11 : Nat} {A14 : Option Addr} {c14 : Nat} {f0 : Int} {f1 : Int} {f2 : Int} {f3 : Int} {f4 : Int} {f5 : Int} {f6 : List (S115)} {f7 : Int} {f8 : Int} {f9 : List Int} {f10 : List (S120)} {f11 : List Int} {f12 : Int} {f13 : Int} {f14 : List Int} (h : W.heap[g]? = some (.cells #[.int .i64 f0, .int .i64 f1, .int .i64 f2, .int .i64 f3, .int .i64 f4, .int .i64 f5, .slice A6 f6.length c6, .int .i64 f7, .int .i64 f8, .slice A9 f9.length c9, .slice A10 f10.length c10, .slice A11 f11.length c11, .int .i64 f12, .int .i64 f13, .slice A14 f14.length c14] 67 (0, 0))) : W.cell? ⟨g, 0, none⟩ = some (.int .i64 f0) := (blk_cell h 0).trans rfl
theorem IsS67.set_0 {w0 W : World} {g : Nat} {f0 : Int} {f1 : Int} {f2 : Int} {f3 : Int} {f4 : Int} {f5 : Int} {f6 : List (S115)} {f7 : Int} {f8 : Int} {f9 : List Int} {f10 : List (S120)} {f11 : List Int} {f12 : Int} {f13 : Int} {f14 : List Int} (h : IsS67 w0 W g f0 f1 f2 f3 f4 f5 f6 f7 f8 f9 f10 f11 f12 f13 f14) (x : Int) : IsS67 w0 (W.setCell ⟨g, 0, none⟩ (.int .i64 x)) g x f1 f2 f3 f4 f5 f6 f7 f8 f9 f10 f11 f12 f13 f14 := by
 obtain ⟨A6, c6, A9, c9, A10, c10, A11, c11, A14, c14, hb, hg, hr6, hr9, hr10, hr11, hr14⟩ := h
 exact ⟨A6, c6, A9, c9, A10, c10, A11, c11, A14, c14, by simpa using blk_set hb 0 (.int .i64 x), hg, hr6, hr9, hr10, hr11, hr14⟩
theorem cellS67_1 {W : World} {g : Nat} {A6 : Option Addr} {c6 : Nat} {A9 : Option Addr} {c9 : Nat} {A10 : Option Addr} {c10 : Nat} {A11 : Option Addr} {c11 : Nat} {A14 : Option Addr} {c14 : Nat} {f0 : Int} {f1 : Int} {f2 : Int} {f3 : Int} {f4 : Int} {f5 : Int} {f6 : List (S115)} {f7 : Int} {f8 : Int} {f9 : List Int} {f10 : List (S120)} {f11 : List Int} {f12 : Int} {f13 : Int} {f14 : List Int} (h : W.heap[g]? = some (.cells #[.int .i64 f0, .int .i64 f1, .int .i64 f2, .int .i64 f3, .int .i64 f4, .int .i64 f5, .slice A6 f6.length c6, .int .i64 f7, .int .i64 f8, .slice A9 f9.length c9, .slice A10 f10.length c10, .slice A11 f11.length c11, .int .i64 f12, .int .i64 f13, .slice A14 f14.length c14] 67 (0, 0))) : W.cell? ⟨g, 1, none⟩ = some (.int .i64 f1) := (blk_cell h 1).trans rfl
theorem IsS67.set_1 {w0 W : World} {g : Nat} {f0 : Int} {f1 : Int} {f2 : Int} {f3 : Int} {f4 : Int} {f5 : Int} {f6 : List (S115)} {f7 : Int} {f8 : Int} {f9 : List Int} {f10 : List (S120)} {f11 : List Int} {f12 : Int} {f13 : Int} {f14 : List Int} (h : IsS67 w0 W g f0 f1 f2 f3 f4 f5 f6 f7 f8 f9 f10 f11 f12 f13 f14) (x : Int) : IsS67 w0 (W.setCell ⟨g, 1, none⟩ (.int .i64 x)) g f0 x f2 f3 f4 f5 f6 f7 f8 f9 f10 f11 f12 f13 f14 := by
 obtain ⟨A6, c6, A9, c9, A10, c10, A11, c11, A14, c14, hb, hg, hr6, hr9, hr10, hr11, hr14⟩ := h
 exact ⟨A6, c6, A9, c9, A10, c10, A11, c11, A14, c14, by simpa using blk_set hb 1 (.int .i64 x), hg, hr6, hr9, hr10, hr11, hr14⟩
theorem cellS67_2 {W : World} {g : Nat} {A6 : Option Addr} {c6 : Nat} {A9 : Option Addr} {c9 : Nat} {A10 : Option Addr} {c10 : Nat} {A11 : Option Addr} {c11 : Nat} {A14 : Option Addr} {c14 : Nat} {f0 : Int} {f1 : Int} {f2 : Int} {f3 : Int} {f4 : Int} {f5 : Int} {f6 : List (S115)} {f7 : Int} {f8 : Int} {f9 : List Int} {f10 : List (S120)} {f11 : List Int} {f12 : Int} {f13 : Int} {f14 : List Int} (h : W.heap[g]? = some (.cells #[.int .i64 f0, .int .i64 f1, .int .i64 f2, .int .i64 f3, .int .i64 f4, .int .i64 f5, .slice A6 f6.length c6, .int .i64 f7, .int .i64 f8, .slice A9 f9.length c9, .slice A10 f10.length c10, .slice A11 f11.length c11, .int .i64 f12, .int .i64 f13, .slice A14 f14.length c14] 67 (0, 0))) : W.cell? ⟨g, 2, none⟩ = some (.int .i64 f2) := (blk_cell h 2).trans rfl
theorem IsS67.set_2 {w0 W : World} {g : Nat} {f0 : Int} {f1 : Int} {f2 : Int} {f3 : Int} {f4 : Int} {f5 : Int} {f6 : List (S115)} {f7 : Int} {f8 : Int} {f9 : List Int} {f10 : List (S120)} {f11 : List Int} {f12 : Int} {f13 : Int} {f14 : List Int} (h : IsS67 w0 W g f0 f1 f2 f3 f4 f5 f6 f7 f8 f9 f10 f11 f12 f13 f14) (x : Int) : IsS67 w0 (W.setCell ⟨g, 2, none⟩ (.int .i64 x)) g f0 f1 x f3 f4 f5 f6 f7 f8 f9 f10 f11 f12 f13 f14 := by
 obtain ⟨A6, c6, A9, c9, A10, c10, A11, c11, A14, c14, hb, hg, hr6, hr9, hr10, hr11, hr14⟩ := h
 exact ⟨A6, c6, A9, c9, A10, c10, A11, c11, A14, c14, by simpa using blk_set hb 2 (.int .i64 x), hg, hr6, hr9, hr10, hr11, hr14⟩
theorem cellS67_3 {W : World} {g : Nat} {A6 : Option Addr} {c6 : Nat} {A9 : Option Addr} {c9 : Nat} {A10 : Option Addr} {c10 : Nat} {A11 : Option Addr} {c11 : Nat} {A14 : Option Addr} {c14 : Nat} {f0 : Int} {f1 : Int} {f2 : Int} {f3 : Int} {f4 : Int} {f5 : Int} {f6 : List (S115)} {f7 : Int} {f8 : Int} {f9 : List Int} {f10 : List (S120)} {f11 : List Int} {f12 : Int} {f13 : Int} {f14 : List Int} (h : W.heap[g]? = some (.cells #[.int .i64 f0, .int .i64 f1, .int .i64 f2, .int .i64 f3, .int .i64 f4, .int .i64 f5, .slice A6 f6.length c6, .int .i64 f7, .int .i64 f8, .slice A9 f9.length c9, .slice A10 f10.length c10, .slice A11 f11.length c11, .int .i64 f12, .int .i64 f13, .slice A14 f14.length c14] 67 (0, 0))) : W.cell? ⟨g, 3, none⟩ = some (.int .i64 f3) := (blk_cell h 3).trans rfl
theorem IsS67.set_3 {w0 W : World} {g : Nat} {f0 : Int} {f1 : Int} {f2 : Int} {f3 : Int} {f4 : Int} {f5 : Int} {f6 : List (S115)} {f7 : Int} {f8 : Int} {f9 : List Int} {f10 : List (S120)} {f11 : List Int} {f12 : Int} {f13 : Int} {f14 : List Int} (h : IsS67 w0 W g f0 f1 f2 f3 f4 f5 f6 f7 f8 f9 f10 f11 f12 f13 f14) (x : Int) : IsS67 w0 (W.setCell ⟨g, 3, none⟩ (.int .i64 x)) g f0 f1 f2 x f4 f5 f6 f7 f8 f9 f10 f11 f12 f13 f14 := by
 obtain ⟨A6, c6, A9, c9, A10, c10, A11, c11, A14, c14, hb, hg, hr6, hr9, hr10, hr11, hr14⟩ := h
 exact ⟨A6, c6, A9, c9, A10, c10, A11, c11, A14, c14, by simpa using blk_set hb 3 (.int .i64 x), hg, hr6, hr9, hr10, hr11, hr14⟩
theorem cellS67_4 {W : World} {g : Nat} {A6 : Option Addr} {c6 : Nat} {A9 : Option Addr} {c9 : Nat} {A10 : Option Addr} {c10 : Nat} {A11 : Option Addr} {c11 : Nat} {A14 : Option Addr} {c14 : Nat} {f0 : Int} {f1 : Int} {f2 : Int} {f3 : Int} {f4 : Int} {f5 : Int} {f6 : List (S115)} {f7 : Int} {f8 : Int} {f9 : List Int} {f10 : List (S120)} {f11 : List Int} {f12 : Int} {f13 : Int} {f14 : List Int} (h : W.heap[g]? = some (.cells #[.int .i64 f0, .int .i64 f1, .int .i64 f2, .int .i64 f3, .int .i64 f4, .int .i64 f5, .slice A6 f6.length c6, .int .i64 f7, .int .i64 f8, .slice A9 f9.length c9, .slice A10 f10.length c10, .slice A11 f11.length c11, .int .i64 f12, .int .i64 f13, .slice A14 f14.length c14] 67 (0, 0))) : W.cell? ⟨g, 4, none⟩ = some (.int .i64 f4) := (blk_cell h 4).trans rfl
theorem IsS67.set_4 {w0 W : World} {g : Nat} {f0 : Int} {f1 : Int} {f2 : Int} {f3 : Int} {f4 : Int} {f5 : Int} {f6 : List (S115)} {f7 : Int} {f8 : Int} {f9 : List Int} {f10 : List (S120)} {f11 : List Int} {f12 : Int} {f13 : Int} {f14 : List Int} (h : IsS67 w0 W g f0 f1 f2 f3 f4 f5 f6 f7 f8 f9 f10 f11 f12 f13 f14) (x : Int) : IsS67 w0 (W.setCell ⟨g, 4, none⟩ (.int .i64 x)) g f0 f1 f2 f3 x f5 f6 f7 f8 f9 f10 f11 f12 f13 f14 := by
 obtain ⟨A6, c6, A9, c9, A10, c10, A11, c11, A14, c14, hb, hg, hr6, hr9, hr10, hr11, hr14⟩ := h
 exact ⟨A6, c6, A9, c9, A10, c10, A11, c11, A14, c14, by simpa using blk_set hb 4 (.int .i64 x), hg, hr6, hr9, hr10, hr11, hr14⟩
theorem cellS67_5 {W : World} {g : Nat} {A6 : Option Addr} {c6 : Nat} {A9 : Option Addr} {c9 : Nat} {A10 : Option Addr} {c10 : Nat} {A11 : Option Addr} {c11 : Nat} {A14 : Option Addr} {c14 : Nat} {f0 : Int} {f1 : Int} {f2 : Int} {f3 : Int} {f4 : Int} {f5 : Int} {f6 : List (S115)} {f7 : Int} {f8 : Int} {f9 : List Int} {f10 : List (S120)} {f11 : List Int} {f12 : Int} {f13 : Int} {f14 : List Int} (h : W.heap[g]? = some (.cells #[.int .i64 f0, .int .i64 f1, .int .i64 f2, .int .i64 f3, .int .i64 f4, .int .i64 f5, .slice A6 f6.length c6, .int .i64 f7, .int .i64 f8, .slice A9 f9.length c9, .slice A10 f10.length c10, .slice A11 f11.length c11, .int .i64 f12, .int .i64 f13, .slice A14 f14.length c14] 67 (0, 0))) : W.cell? ⟨g, 5, none⟩ = some (.int .i64 f5) := (blk_cell h 5).trans rfl
theorem IsS67.set_5 {w0 W : World} {g : Nat} {f0 : Int} {f1 : Int} {f2 : Int} {f3 : Int} {f4 : Int} {f5 : Int} {f6 : List (S115)} {f7 : Int} {f8 : Int} {f9 : List Int} {f10 : List (S120)} {f11 : List Int} {f12 : Int} {f13 : Int} {f14 : List Int} (h : IsS67 w0 W g f0 f1 f2 f3 f4 f5 f6 f7 f8 f9 f10 f11 f12 f13 f14) (x : Int) : IsS67 w0 (W.setCell ⟨g, 5, none⟩ (.int .i64 x)) g f0 f1 f2 f3 f4 x f6 f7 f8 f9 f10 f11 f12 f13 f14 := by
 obtain ⟨A6, c6, A9, c9, A10, c10, A11, c11, A14, c14, hb, hg, hr6, hr9, hr10, hr11, hr14⟩ := h
 exact ⟨A6, c6, A9, c9, A10, c10, A11, c11, A14, c14, by simpa using blk_set hb 5 (.int .i64 x), hg, hr6, hr9, hr10, hr11, hr14⟩
theorem cellS67_6 {W : World} {g : Nat} {A6 : Option Addr} {c6 : Nat} {A9 : Option Addr} {c9 : Nat} {A10 : Option Addr} {c10 : Nat} {A11 : Option Addr} {c11 : Nat} {A14 : Option Addr} {c14 : Nat} {f0 : Int} {f1 : Int} {f2 : Int} {f3 : Int} {f4 : Int} {f5 : Int} {f6 : List (S115)} {f7 : Int} {f8 : Int} {f9 : List Int} {f10 : List (S120)} {f11 : List Int} {f12 : Int} {f13 : Int} {f14 : List Int} (h : W.heap[g]? = some (.cells #[.int .i64 f0, .int .i64 f1, .int .i64 f2, .int .i64 f3, .int .i64 f4, .int .i64 f5, .slice A6 f6.length c6, .int .i64 f7, .int .i64 f8, .slice A9 f9.length c9, .slice A10 f10.length c10, .slice A11 f11.length c11, .int .i64 f12, .int .i64 f13, .slice A14 f14.length c14] 67 (0, 0))) : W.cell? ⟨g, 6, none⟩ = some (.slice A6 f6.length c6) := (blk_cell h 6).trans rfl
theorem cellS67_7 {W : World} {g : Nat} {A6 : Option Addr} {c6 : Nat} {A9 : Option Addr} {c9 : Nat} {A10 : Option Addr} {c10 : Nat} {A11 : Option Addr} {c11 : Nat} {A14 : Option Addr} {c14 : Nat} {f0 : Int} {f1 : Int} {f2 : Int} {f3 : Int} {f4 : Int} {f5 : Int} {f6 : List (S115)} {f7 : Int} {f8 : Int} {f9 : List Int} {f10 : List (S120)} {f11 : List Int} {f12 : Int} {f13 : Int} {f14 : List Int} (h : W.heap[g]? = some (.cells #[.int .i64 f0, .int .i64 f1, .int .i64 f2, .int .i64 f3, .int .i64 f4, .int .i64 f5, .slice A6 f6.length c6, .int .i64 f7, .int .i64 f8, .slice A9 f9.length c9, .slice A10 f10.length c10, .slice A11 f11.length c11, .int .i64 f12, .int .i64 f13, .slice A14 f14.length c14] 67 (0, 0))) : W.cell? ⟨g, 7, none⟩ = some (.int .i64 f7) := (blk_cell h 7).trans rfl
theorem IsS67.set_7 {w0 W : World} {g : Nat} {f0 : Int} {f1 : Int} {f2 : Int} {f3 : Int} {f4 : Int} {f5 : Int} {f6 : List (S115)} {f7 : Int} {f8 : Int} {f9 : List Int} {f10 : List (S120)} {f11 : List Int} {f12 : Int} {f13 : Int} {f14 : List Int} (h : IsS67 w0 W g f0 f1 f2 f3 f4 f5 f6 f7 f8 f9 f10 f11 f12 f13 f14) (x : Int) : IsS67 w0 (W.setCell ⟨g, 7, none⟩ (.int .i64 x)) g f0 f1 f2 f3 f4 f5 f6 x f8 f9 f10 f11 f12 f13 f14 := by
 obtain ⟨A6, c6, A9, c9, A10, c10, A11, c11, A14, c14, hb, hg, hr6, hr9, hr10, hr11, hr14⟩ := h
 exact ⟨A6, c6, A9, c9, A10, c10, A11, c11, A14, c14, by simpa using blk_set hb 7 (.int .i64 x), hg, hr6, hr9, hr10, hr11, hr14⟩
theorem cellS67_8 {W : World} {g : Nat} {A6 : Option Addr} {c6 : Nat} {A9 : Option Addr} {c9 : Nat} {A10 : Option Addr} {c10 : Nat} {A11 : Option Addr} {c11 : Nat} {A14 : Option Addr} {c14 : Nat} {f0 : Int} {f1 : Int} {f2 : Int} {f3 : Int} {f4 : Int} {f5 : Int} {f6 : List (S115)} {f7 : Int} {f8 : Int} {f9 : List Int} {f10 : List (S120)} {f11 : List Int} {f12 : Int} {f13 : Int} {f14 : List Int} (h : W.heap[g]? = some (.cells #[.int .i64 f0, .int .i64 f1, .int .i64 f2, .int .i64 f3, .int .i64 f4, .int .i64 f5, .slice A6 f6.length c6, .int .i64 f7, .int .i64 f8, .slice A9 f9.length c9, .slice A10 f10.length c10, .slice A11 f11.length c11, .int .i64 f12, .int .i64 f13, .slice A14 f14.length c14] 67 (0, 0))) : W.cell? ⟨g, 8, none⟩ = some (.int .i64 f8) := (blk_cell h 8).trans rfl
theorem IsS67.set_8 {w0 W : World} {g : Nat} {f0 : Int} {f1 : Int} {f2 : Int} {f3 : Int} {f4 : Int} {f5 : Int} {f6 : List (S115)} {f7 : Int} {f8 : Int} {f9 : List Int} {f10 : List (S120)} {f11 : List Int} {f12 : Int} {f13 : Int} {f14 : List Int} (h : IsS67 w0 W g f0 f1 f2 f3 f4 f5 f6 f7 f8 f9 f10 f11 f12 f13 f14) (x : Int) : IsS67 w0 (W.setCell ⟨g, 8, none⟩ (.int .i64 x)) g f0 f1 f2 f3 f4 f5 f6 f7 x f9 f10 f11 f12 f13 f14 := by
 obtain ⟨A6, c6, A9, c9, A10, c10, A11, c11, A14, c14, hb, hg, hr6, hr9, hr10, hr11, hr14⟩ := h
 exact ⟨A6, c6, A9, c9, A10, c10, A11, c11, A14, c14, by simpa using blk_set hb 8 (.int .i64 x), hg, hr6, hr9, hr10, hr11, hr14⟩
theorem cellS67_9 {W : World} {g : Nat} {A6 : Option Addr} {c6 : Nat} {A9 : Option Addr} {c9 : Nat} {A10 : Option Addr} {c10 : Nat} {A11 : Option Addr} {c11 : Nat} {A14 : Option Addr} {c14 : Nat} {f0 : Int} {f1 : Int} {f2 : Int} {f3 : Int} {f4 : Int} {f5 : Int} {f6 : List (S115)} {f7 : Int} {f8 : Int} {f9 : List Int} {f10 : List (S120)} {f11 : List Int} {f12 : Int} {f13 : Int} {f14 : List Int} (h : W.heap[g]? = some (.cells #[.int .i64 f0, .int .i64 f1, .int .i64 f2, .int .i64 f3, .int .i64 f4, .int .i64 f5, .slice A6 f6.length c6, .int .i64 f7, .int .i64 f8, .slice A9 f9.length c9, .slice A10 f10.length c10, .slice A11 f11.length c11, .int .i64 f12, .int .i64 f13, .slice A14 f14.length c14] 67 (0, 0))) : W.cell? ⟨g, 9, none⟩ = some (.slice A9 f9.length c9) := (blk_cell h 9).trans rfl
theorem cellS67_10 {W : World} {g : Nat} {A6 : Option Addr} {c6 : Nat} {A9 : Option Addr} {c9 : Nat} {A10 : Option Addr} {c10 : Nat} {A11 : Option Addr} {c11 : Nat} {A14 : Option Addr} {c14 : Nat} {f0 : Int} {f1 : Int} {f2 : Int} {f3 : Int} {f4 : Int} {f5 : Int} {f6 : List (S115)} {f7 : Int} {f8 : Int} {f9 : List Int} {f10 : List (S120)} {f11 : List Int} {f12 : Int} {f13 : Int} {f14 : List Int} (h : W.heap[g]? = some (.cells #[.int .i64 f0, .int .i64 f1, .int .i64 f2, .int .i64 f3, .int .i64 f4, .int .i64 f5, .slice A6 f6.length c6, .int .i64 f7, .int .i64 f8, .slice A9 f9.length c9, .slice A10 f10.length c10, .slice A11 f11.length c11, .int .i64 f12, .int .i64 f13, .slice A14 f14.length c14] 67 (0, 0))) : W.cell? ⟨g, 10, none⟩ = some (.slice A10 f10.length c10) := (blk_cell h 10).trans rfl
theorem cellS67_11 {W : World} {g : Nat} {A6 : Option Addr} {c6 : Nat} {A9 : Option Addr} {c9 : Nat} {A10 : Option Addr} {c10 : Nat} {A11 : Option Addr} {c11 : Nat} {A14 : Option Addr} {c14 : Nat} {f0 : Int} {f1 : Int} {f2 : Int} {f3 : Int} {f4 : Int} {f5 : Int} {f6 : List (S115)} {f7 : Int} {f8 : Int} {f9 : List Int} {f10 : List (S120)} {f11 : List Int} {f12 : Int} {f13 : Int} {f14 : List Int} (h : W.heap[g]? = some (.cells #[.int .i64 f0, .int .i64 f1, .int .i64 f2, .int .i64 f3, .int .i64 f4, .int .i64 f5, .slice A6 f6.length c6, .int .i64 f7, .int .i64 f8, .slice A9 f9.length c9, .slice A10 f10.length c10, .slice A11 f11.length c11, .int .i64 f12, .int .i64 f13, .slice A14 f14.length c14] 67 (0, 0))) : W.cell? ⟨g, 11, none⟩ = some (.slice A11 f11.length c11) := (blk_cell h 11).trans rfl
theorem cellS67_12 {W : World} {g : Nat} {A6 : Option Addr} {c6 : Nat} {A9 : Option Addr} {c9 : Nat} {A10 : Option Addr} {c10 : Nat} {A11 : Option Addr} {c11 : Nat} {A14 : Option Addr} {c14 : Nat} {f0 : Int} {f1 : Int} {f2 : Int} {f3 : Int} {f4 : Int} {f5 : Int} {f6 : List (S115)} {f7 : Int} {f8 : Int} {f9 : List Int} {f10 : List (S120)} {f11 : List Int} {f12 : Int} {f13 : Int} {f14 : List Int} (h : W.heap[g]? = some (.cells #[.int .i64 f0, .int .i64 f1, .int .i64 f2, .int .i64 f3, .int .i64 f4, .int .i64 f5, .slice A6 f6.length c6, .int .i64 f7, .int .i64 f8, .slice A9 f9.length c9, .slice A10 f10.length c10, .slice A11 f11.length c11, .int .i64 f12, .int .i64 f13, .slice A14 f14.length c14] 67 (0, 0))) : W.cell? ⟨g, 12, none⟩ = some (.int .i64 f12) := (blk_cell h 12).trans rfl
theorem IsS67.set_12 {w0 W : World} {g : Nat} {f0 : Int} {f1 : Int} {f2 : Int} {f3 : Int} {f4 : Int} {f5 : Int} {f6 : List (S115)} {f7 : Int} {f8 : Int} {f9 : List Int} {f10 : List (S120)} {f11 : List Int} {f12 : Int} {f13 : Int} {f14 : List Int} (h : IsS67 w0 W g f0 f1 f2 f3 f4 f5 f6 f7 f8 f9 f10 f11 f12 f13 f14) (x : Int) : IsS67 w0 (W.setCell ⟨g, 12, none⟩ (.int .i64 x)) g f0 f1 f2 f3 f4 f5 f6 f7 f8 f9 f10 f11 x f13 f14 := by
 obtain ⟨A6, c6, A9, c9, A10, c10, A11, c11, A14, c14, hb, hg, hr6, hr9, hr10, hr11, hr14⟩ := h
 exact ⟨A6, c6, A9, c9, A10, c10, A11, c11, A14, c14, by simpa using blk_set hb 12 (.int .i64 x), hg, hr6, hr9, hr10, hr11, hr14⟩
theorem cellS67_13 {W : World} {g : Nat} {A6 : Option Addr} {c6 : Nat} {A9 : Option Addr} {c9 : Nat} {A10 : Option Addr} {c10 : Nat} {A11 : Option Addr} {c11 : Nat} {A14 : Option Addr} {c14 : Nat} {f0 : Int} {f1 : Int} {f2 : Int} {f3 : Int} {f4 : Int} {f5 : Int} {f6 : List (S115)} {f7 : Int} {f8 : Int} {f9 : List Int} {f10 : List (S120)} {f11 : List Int} {f12 : Int} {f13 : Int} {f14 : List Int} (h : W.heap[g]? = some (.cells #[.int .i64 f0, .int .i64 f1, .int .i64 f2, .int .i64 f3, .int .i64 f4, .int .i64 f5, .slice A6 f6.length c6, .int .i64 f7, .int .i64 f8, .slice A9 f9.length c9, .slice A10 f10.length c10, .slice A11 f11.length c11, .int .i64 f12, .int .i64 f13, .slice A14 f14.length c14] 67 (0, 0))) : W.cell? ⟨g, 13, none⟩ = some (.int .i64 f13) := (blk_cell h 13).trans rfl
theorem IsS67.set_13 {w0 W : World} {g : Nat} {f0 : Int} {f1 : Int} {f2 : Int} {f3 : Int} {f4 : Int} {f5 : Int} {f6 : List (S115)} {f7 : Int} {f8 : Int} {f9 : List Int} {f10 : List (S120)} {f11 : List Int} {f12 : Int} {f13 : Int} {f14 : List Int} (h : IsS67 w0 W g f0 f1 f2 f3 f4 f5 f6 f7 f8 f9 f10 f11 f12 f13 f14) (x : Int) : IsS67 w0 (W.setCell ⟨g, 13, none⟩ (.int .i64 x)) g f0 f1 f2 f3 f4 f5 f6 f7 f8 f9 f10 f11 f12 x f14 := by
 obtain ⟨A6, c6, A9, c9, A10, c10, A11, c11, A14, c14, hb, hg, hr6, hr9, hr10, hr11, hr14⟩ := h
 exact ⟨A6, c6, A9, c9, A10, c10, A11, c11, A14, c14, by simpa using blk_set hb 13 (.int .i64 x), hg, hr6, hr9, hr10, hr11, hr14⟩
theorem cellS67_14 {W : World} {g : Nat} {A6 : Option Addr} {c6 : Nat} {A9 : Option Addr} {c9 : Nat} {A10 : Option Addr} {c10 : Nat} {A11 : Option Addr} {c11 : Nat} {A14 : Option Addr} {c14 : Nat} {f0 : Int} {f1 : Int} {f2 : Int} {f3 : Int} {f4 : Int} {f5 : Int} {f6 : List (S115)} {f7 : Int} {f8 : Int} {f9 : List Int} {f10 : List (S120)} {f11 : List Int} {f12 : Int} {f13 : Int} {f14 : List Int} (h : W.heap[g]? = some (.cells #[.int .i64 f0, .int .i64 f1, .int .i64 f2, .int .i64 f3, .int .i64 f4, .int .i64 f5, .slice A6 f6.length c6, .int .i64 f7, .int .i64 f8, .slice A9 f9.length c9, .slice A10 f10.length c10, .slice A11 f11.length c11, .int .i64 f12, .int .i64 f13, .slice A14 f14.length c14] 67 (0, 0))) : W.cell? ⟨g, 14, none⟩ = some (.slice A14 f14.length c14) := (blk_cell h 14).trans rfl
theorem IsS67.new (w0 W : World) (A6 : Option Addr) (c6 : Nat) (A9 : Option Addr) (c9 : Nat) (A10 : Option Addr) (c10 : Nat) (A11 : Option Addr) (c11 : Nat) (A14 : Option Addr) (c14 : Nat) (f0 : Int) (f1 : Int) (f2 : Int) (f3 : Int) (f4 : Int) (f5 : Int) (f6 : List (S115)) (f7 : Int) (f8 : Int) (f9 : List Int) (f10 : List (S120)) (f11 : List Int) (f12 : Int) (f13 : Int) (f14 : List Int) (hB : Below w0.heap.size w0 W) (hr6 : Kd.C k115 w0 A6 f6.length f6) (hr9 : Kd.C (Kd.int .i32) w0 A9 f9.length f9) (hr10 : Kd.C k120 w0 A10 f10.length f10) (hr11 : Kd.C (Kd.int .i32) w0 A11 f11.length f11) (hr14 : Kd.C (Kd.int .i32) w0 A14 f14.length f14) : IsS67 w0 (W.alloc (.cells #[.int .i64 f0, .int .i64 f1, .int .i64 f2, .int .i64 f3, .int .i64 f4, .int .i64 f5, .slice A6 f6.length c6, .int .i64 f7, .int .i64 f8, .slice A9 f9.length c9, .slice A10 f10.length c10, .slice A11 f11.length c11, .int .i64 f12, .int .i64 f13, .slice A14 f14.length c14] 67)) W.heap.size f0 f1 f2 f3 f4 f5 f6 f7 f8 f9 f10 f11 f12 f13 f14 := ⟨A6, c6, A9, c9, A10, c10, A11, c11, A14, c14, by simpa using heap_alloc_new W _, hB.size, hr6, hr9, hr10, hr11, hr14⟩

/-! ### blob_Blob_read: function 74 -/
/-- Where a part of a blob lies (in a layer or not, its first cell, a table or a list), and the size that it has. -/
structure Pt where
 lay : Bool
 off : Nat
 tab : Bool
 r : Int
 c : Int
def Pt.wd (p : Pt) : Nat := if p.tab then 3 else 1
def Pt.blk (gb gl : Nat) (p : Pt) : Nat := if p.lay then gl else gb
def Pt.row (gb gl : Nat) (p : Pt) : List Value := if p.tab then bp.one (some ⟨p.blk gb gl, p.off, none⟩) none p.r p.c else bp.one none (some ⟨p.blk gb gl, p.off, none⟩) p.r p.c
def nineP (o : Nat) (w kv q : Int) : List Pt := [⟨true, o, false, 1, w⟩, ⟨true, o + 1, true, w, w⟩, ⟨true, o + 4, true, kv, w⟩, ⟨true, o + 7, true, kv, w⟩, ⟨true, o + 10, true, w, w⟩, ⟨true, o + 13, false, 1, w⟩, ⟨true, o + 14, true, q, w⟩, ⟨true, o + 17, true, q, w⟩, ⟨true, o + 20, true, w, q⟩]
def layP (w kv q : Int) : Nat → List Pt
 | 0 => []
 | n + 1 => layP w kv q n ++ nineP (n * 23) w kv q
def allP (n : Nat) (v w kv q : Int) : List Pt := (⟨false, 7, true, v, w⟩ :: layP w kv q n) ++ [⟨false, 11, false, 1, w⟩, ⟨false, 12, true, v, w⟩]
theorem layP_rows (gb gl : Nat) (w kv q : Int) : ∀ n, bp.layers gl 0 w kv q n = (layP w kv q n).map (Pt.row gb gl)
 | 0 => rfl
 | n + 1 => by
  rw [bp.layers, layP, List.map_append, layP_rows gb gl w kv q n]
  congr 1
  simp [bp.layer, bp.layer2, nineP, Pt.row, Pt.blk]
theorem allP_rows (gb gl n : Nat) (v w kv q : Int) : bp.all gb gl 0 n v w kv q = (allP n v w kv q).map (Pt.row gb gl) := by
 rw [bp.all, allP, layP_rows gb gl w kv q n, List.map_append, List.map_cons]
 rfl
/-- Apart: the second lies in another block, or behind. -/
def Pt.dis (a b : Pt) : Prop := a.lay ≠ b.lay ∨ a.off + a.wd ≤ b.off
theorem nineP_in {o : Nat} {w kv q : Int} {p : Pt} (h : p ∈ nineP o w kv q) : p.lay = true ∧ o ≤ p.off ∧ p.off + p.wd ≤ o + 23 := by
 simp only [nineP, List.mem_cons, List.not_mem_nil, or_false] at h
 rcases h with rfl | rfl | rfl | rfl | rfl | rfl | rfl | rfl | rfl <;> simp [Pt.wd]
theorem layP_in {w kv q : Int} : ∀ {n : Nat} {p : Pt}, p ∈ layP w kv q n → p.lay = true ∧ p.off + p.wd ≤ n * 23
 | 0, p, h => by simp [layP] at h
 | n + 1, p, h => by
  rcases List.mem_append.mp h with h | h
  ·
   obtain ⟨h1, h2⟩ := layP_in h
   exact ⟨h1, by omega⟩
  ·
   obtain ⟨h1, h2, h3⟩ := nineP_in h
   exact ⟨h1, by omega⟩
theorem nineP_dis (o : Nat) (w kv q : Int) : (nineP o w kv q).Pairwise Pt.dis := by
 simp [nineP, Pt.dis, Pt.wd, List.pairwise_cons]
theorem layP_dis (w kv q : Int) : ∀ n, (layP w kv q n).Pairwise Pt.dis
 | 0 => List.Pairwise.nil
 | n + 1 => List.pairwise_append.mpr ⟨layP_dis w kv q n, nineP_dis _ _ _ _, fun a ha b hb => .inr (by have h1 := (layP_in ha).2; have h2 := (nineP_in hb).2.1; omega)⟩
theorem allP_in {n : Nat} {v w kv q : Int} {p : Pt} (h : p ∈ allP n v w kv q) : if p.lay then p.off + p.wd ≤ n * 23 else (7 ≤ p.off ∧ p.off + p.wd ≤ 15 ∧ (p.off + p.wd ≤ 10 ∨ 11 ≤ p.off)) := by
 rcases List.mem_append.mp h with h | h
 ·
  rcases List.mem_cons.mp h with rfl | h
  ·
   simp [Pt.wd]
  ·
   obtain ⟨h1, h2⟩ := layP_in h
   rw [if_pos h1]
   exact h2
 ·
  simp only [List.mem_cons, List.not_mem_nil, or_false] at h
  rcases h with rfl | rfl <;> simp [Pt.wd]
theorem allP_dis (n : Nat) (v w kv q : Int) : (allP n v w kv q).Pairwise Pt.dis := by
 refine List.pairwise_append.mpr ⟨List.pairwise_cons.mpr ⟨fun b hb => .inl (by rw [(layP_in hb).1]; simp), layP_dis w kv q n⟩, ?_, fun a ha b hb => ?_⟩
 ·
  simp [Pt.dis, Pt.wd, List.pairwise_cons]
 ·
  rcases List.mem_cons.mp ha with rfl | ha
  ·
   simp only [List.mem_cons, List.not_mem_nil, or_false] at hb
   rcases hb with rfl | rfl <;> simp [Pt.dis, Pt.wd]
  ·
   simp only [List.mem_cons, List.not_mem_nil, or_false] at hb
   have := (layP_in ha).1
   rcases hb with rfl | rfl <;> simp [Pt.dis, this]
theorem layP_len (w kv q : Int) : ∀ n, (layP w kv q n).length = 9 * n
 | 0 => rfl
 | n + 1 => by rw [layP, List.length_append, layP_len w kv q n]; simp [nineP]; omega
theorem allP_len (n : Nat) (v w kv q : Int) : (allP n v w kv q).length = 9 * n + 3 := by rw [allP, List.length_append, List.length_cons, layP_len]; simp
/-- A part's cells, as they are told by the blob's and the layers' cells. -/
def Pt.arr (bs cs : Array Value) (p : Pt) : Array Value := if p.lay then cs else bs
def Desc (a : Array Value) (p : Pt) (v : Value) : Prop := if p.tab then a[p.off]? = some (.int .i64 p.r) ∧ a[p.off + 1]? = some (.int .i64 p.c) ∧ a[p.off + 2]? = some v else a[p.off]? = some v
/-- The cells behind a store of a part. -/
def Pt.put (a : Array Value) (p : Pt) (v : Value) : Array Value := if p.tab then ((a.setIfInBounds p.off (.int .i64 p.r)).setIfInBounds (p.off + 1) (.int .i64 p.c)).setIfInBounds (p.off + 2) v else a.setIfInBounds p.off v
theorem put_size (a : Array Value) (p : Pt) (v : Value) : (p.put a v).size = a.size := by unfold Pt.put; split <;> simp
theorem put_far (a : Array Value) (p : Pt) (v : Value) (i : Nat) (h : i < p.off ∨ p.off + p.wd ≤ i) : (p.put a v)[i]? = a[i]? := by
 unfold Pt.put
 unfold Pt.wd at h
 split
 ·
  next ht =>
  rw [if_pos ht] at h
  rw [Array.getElem?_setIfInBounds_ne (by omega), Array.getElem?_setIfInBounds_ne (by omega), Array.getElem?_setIfInBounds_ne (by omega)]
 ·
  next ht =>
  rw [if_neg ht] at h
  rw [Array.getElem?_setIfInBounds_ne (by omega)]
theorem put_desc (a : Array Value) (p : Pt) (v : Value) (h : p.off + p.wd ≤ a.size) : Desc (p.put a v) p v := by
 unfold Desc Pt.put
 unfold Pt.wd at h
 split
 ·
  next ht =>
  rw [if_pos ht] at h
  refine ⟨?_, ?_, ?_⟩
  ·
   rw [Array.getElem?_setIfInBounds_ne (by omega), Array.getElem?_setIfInBounds_ne (by omega), Array.getElem?_setIfInBounds_self_of_lt (by omega)]
  ·
   rw [Array.getElem?_setIfInBounds_ne (by omega), Array.getElem?_setIfInBounds_self_of_lt (by simp; omega)]
  ·
   rw [Array.getElem?_setIfInBounds_self_of_lt (by simp; omega)]
 ·
  next ht =>
  rw [if_neg ht] at h
  rw [Array.getElem?_setIfInBounds_self_of_lt (by omega)]
theorem desc_far {a : Array Value} {p q : Pt} {u : Value} (v : Value) (h : Desc a p u) (hd : p.off + p.wd ≤ q.off) : Desc (q.put a v) p u := by
 unfold Desc at h ⊢
 unfold Pt.wd at hd
 split
 ·
  next ht =>
  rw [if_pos ht] at h hd
  rw [put_far a q v _ (.inl (by omega)), put_far a q v _ (.inl (by omega)), put_far a q v _ (.inl (by omega))]
  exact h
 ·
  next ht =>
  rw [if_neg ht] at h hd
  rw [put_far a q v _ (.inl (by omega))]
  exact h
/-- So many numbers, read one by one. -/
def rdA (k : Nat) (l : List Int) (s : Bool) : Nat → Option (List Int × List Int × Bool)
 | 0 => some ([], l, s)
 | n + 1 => (rdA k l s n).bind fun y => (seal_Reader_Signed.f k y.2.1 y.2.2).bind fun x => some (y.1 ++ [x.1], x.2.1, x.2.2)
def rdT (k : Nat) (l : List Int) (s : Bool) : Nat → Option (List S115 × List Int × Bool)
 | 0 => some ([], l, s)
 | n + 1 => (rdT k l s n).bind fun y => (seal_Reader_Signed.f k y.2.1 y.2.2).bind fun x => (seal_Reader_Signed.f k x.2.1 x.2.2).bind fun z => some (y.1 ++ [⟨x.1, z.1⟩], z.2.1, z.2.2)
def rdP (k : Nat) (l : List Int) (s : Bool) (ns : List Nat) : Nat → Option (List (List Int) × List Int × Bool)
 | 0 => some ([], l, s)
 | j + 1 => (rdP k l s ns j).bind fun y => (rdA k y.2.1 y.2.2 (ns.getD j 0)).bind fun x => some (y.1 ++ [x.1], x.2.1, x.2.2)
theorem rdA_mono (l : List Int) (s : Bool) : ∀ n k, LeO (rdA k l s n) (rdA (k + 1) l s n)
 | 0, _ => LeO.refl _
 | n + 1, k => LeO.bind (rdA_mono l s n k) (fun _ => LeO.bind (seal_Reader_Signed.mono _ _ _) (fun _ => LeO.refl _))
theorem rdT_mono (l : List Int) (s : Bool) : ∀ n k, LeO (rdT k l s n) (rdT (k + 1) l s n)
 | 0, _ => LeO.refl _
 | n + 1, k => LeO.bind (rdT_mono l s n k) (fun _ => LeO.bind (seal_Reader_Signed.mono _ _ _) (fun _ => LeO.bind (seal_Reader_Signed.mono _ _ _) (fun _ => LeO.refl _)))
theorem rdP_mono (l : List Int) (s : Bool) (ns : List Nat) : ∀ n k, LeO (rdP k l s ns n) (rdP (k + 1) l s ns n)
 | 0, _ => LeO.refl _
 | n + 1, k => LeO.bind (rdP_mono l s ns n k) (fun _ => LeO.bind (rdA_mono _ _ _ k) (fun _ => LeO.refl _))
theorem rdA_le {k : Nat} {l : List Int} {s : Bool} : ∀ {n m : Nat} {y : List Int × List Int × Bool}, rdA k l s n = some y → m ≤ n → ∃ z, rdA k l s m = some z
 | 0, m, y, h, hm => ⟨y, by (obtain rfl : m = 0 := by omega); exact h⟩
 | n + 1, m, y, h, hm => by
  by_cases e : m = n + 1
  ·
   subst e
   exact ⟨y, h⟩
  ·
   obtain ⟨z, hz, -⟩ := Option.bind_eq_some_iff.mp h
   exact rdA_le hz (by omega)
theorem rdA_len {k : Nat} {l : List Int} {s : Bool} : ∀ {n : Nat} {y : List Int × List Int × Bool}, rdA k l s n = some y → y.1.length = n
 | 0, y, h => by obtain rfl := Option.some.inj h; rfl
 | n + 1, y, h => by
  obtain ⟨z, hz, h⟩ := Option.bind_eq_some_iff.mp h
  obtain ⟨x, hx, h⟩ := Option.bind_eq_some_iff.mp h
  obtain rfl := Option.some.inj h
  simp [rdA_len hz]
theorem rdA_step {k : Nat} {l : List Int} {s : Bool} {n i : Nat} {y z : List Int × List Int × Bool} (h : rdA k l s n = some y) (hi : i < n) (hz : rdA k l s i = some z) : ∃ x, seal_Reader_Signed.f k z.2.1 z.2.2 = some x ∧ rdA k l s (i + 1) = some (z.1 ++ [x.1], x.2.1, x.2.2) := by
 obtain ⟨z', hz'⟩ := rdA_le h (show i + 1 ≤ n from hi)
 obtain ⟨z2, h2, h3⟩ := Option.bind_eq_some_iff.mp hz'
 obtain rfl := Option.some.inj (hz.symm.trans h2)
 obtain ⟨x, hx, -⟩ := Option.bind_eq_some_iff.mp h3
 exact ⟨x, hx, by rw [rdA, hz, Option.bind_some, hx, Option.bind_some]⟩
theorem rdT_le {k : Nat} {l : List Int} {s : Bool} : ∀ {n m : Nat} {y : List S115 × List Int × Bool}, rdT k l s n = some y → m ≤ n → ∃ z, rdT k l s m = some z
 | 0, m, y, h, hm => ⟨y, by (obtain rfl : m = 0 := by omega); exact h⟩
 | n + 1, m, y, h, hm => by
  by_cases e : m = n + 1
  ·
   subst e
   exact ⟨y, h⟩
  ·
   obtain ⟨z, hz, -⟩ := Option.bind_eq_some_iff.mp h
   exact rdT_le hz (by omega)
theorem rdT_step {k : Nat} {l : List Int} {s : Bool} {n i : Nat} {y z : List S115 × List Int × Bool} (h : rdT k l s n = some y) (hi : i < n) (hz : rdT k l s i = some z) : ∃ x u, seal_Reader_Signed.f k z.2.1 z.2.2 = some x ∧ seal_Reader_Signed.f k x.2.1 x.2.2 = some u ∧ rdT k l s (i + 1) = some (z.1 ++ [⟨x.1, u.1⟩], u.2.1, u.2.2) := by
 obtain ⟨z', hz'⟩ := rdT_le h (show i + 1 ≤ n from hi)
 obtain ⟨z2, h2, h3⟩ := Option.bind_eq_some_iff.mp hz'
 obtain rfl := Option.some.inj (hz.symm.trans h2)
 obtain ⟨x, hx, h4⟩ := Option.bind_eq_some_iff.mp h3
 obtain ⟨u, hu, -⟩ := Option.bind_eq_some_iff.mp h4
 exact ⟨x, u, hx, hu, by rw [rdT, hz, Option.bind_some, hx, Option.bind_some, hu, Option.bind_some]⟩
theorem rdP_le {k : Nat} {l : List Int} {s : Bool} {ns : List Nat} : ∀ {n m : Nat} {y : List (List Int) × List Int × Bool}, rdP k l s ns n = some y → m ≤ n → ∃ z, rdP k l s ns m = some z
 | 0, m, y, h, hm => ⟨y, by (obtain rfl : m = 0 := by omega); exact h⟩
 | n + 1, m, y, h, hm => by
  by_cases e : m = n + 1
  ·
   subst e
   exact ⟨y, h⟩
  ·
   obtain ⟨z, hz, -⟩ := Option.bind_eq_some_iff.mp h
   exact rdP_le hz (by omega)
theorem rdP_step {k : Nat} {l : List Int} {s : Bool} {ns : List Nat} {n i : Nat} {y z : List (List Int) × List Int × Bool} (h : rdP k l s ns n = some y) (hi : i < n) (hz : rdP k l s ns i = some z) : ∃ x, rdA k z.2.1 z.2.2 (ns.getD i 0) = some x ∧ rdP k l s ns (i + 1) = some (z.1 ++ [x.1], x.2.1, x.2.2) := by
 obtain ⟨z', hz'⟩ := rdP_le h (show i + 1 ≤ n from hi)
 obtain ⟨z2, h2, h3⟩ := Option.bind_eq_some_iff.mp hz'
 obtain rfl := Option.some.inj (hz.symm.trans h2)
 obtain ⟨x, hx, -⟩ := Option.bind_eq_some_iff.mp h3
 exact ⟨x, hx, by rw [rdP, hz, Option.bind_some, hx, Option.bind_some]⟩
theorem setCells1 (W : World) (b i : Nat) (u : Value) : W.setCells b i [u] = W.setCell ⟨b, i, none⟩ u := rfl
/-- One number of a row of the call's own, written. -/
theorem put32 {W : World} {B b n c q : Nat} {ok : Nat → Prop} {xs : List Int} {x : Int} (h : Kd.R (Kd.int .i32) 21 W B ok (.slice (some ⟨b, 0, none⟩) n c) xs) (hx : xs[q]? = some x) : W.cell? ⟨b, q, none⟩ = some (.int .i32 x) ∧ W.frozen? ⟨b, q, none⟩ = false ∧ ∀ x' : Int, Kd.R (Kd.int .i32) 21 (W.setCell ⟨b, q, none⟩ (.int .i32 x')) B ok (.slice (some ⟨b, 0, none⟩) n c) (xs.set q x') := by
 have hn := (Kd.R_reads' h).1
 have hi := (List.getElem?_eq_some_iff.mp hx).1
 obtain ⟨c', hcl, hM, hcc, hfr⟩ := Kd.R_elem h 0 (q : Int) (by omega) (by omega)
 have hs0 : (q : Int).toNat * (Kd.sz (Kd.int .i32)) + 0 = q := by show (q : Int).toNat * 1 + 0 = q; omega
 have hg : xs.getD (q : Int).toNat 0 = x := by simp [List.getD_eq_getElem?_getD, hx]
 rw [hg] at hM
 obtain rfl : c' = [.int .i32 x] := hM
 have h0 := hcc 0 _ rfl
 have hf0 := hfr 0
 rw [hs0] at h0 hf0
 refine ⟨h0, hf0, fun x' => ?_⟩
 obtain ⟨hR, -⟩ := Kd.R_seg h (q : Int) (by omega) (by omega) (c := [.int .i32 x]) (seg := [.int .i32 x']) (j := 0) (x' := x') rfl hcc (Nat.le_refl 1) (okp := fun _ => False) rfl (fun _ hk => hk.elim)
 rw [hs0, setCells1, Int.toNat_natCast] at hR
 exact hR
/-- A store of a part. -/
def storedP (W : World) (b : Nat) (p : Pt) (v : Value) : World := if p.tab then ((W.setCell ⟨b, p.off, none⟩ (.int .i64 p.r)).setCell ⟨b, p.off + 1, none⟩ (.int .i64 p.c)).setCell ⟨b, p.off + 2, none⟩ v else W.setCell ⟨b, p.off, none⟩ v
theorem storedP_blk {W : World} {b t : Nat} {a : Array Value} (p : Pt) (v : Value) (h : W.heap[b]? = some (.cells a t (0, 0))) : (storedP W b p v).heap[b]? = some (.cells (p.put a v) t (0, 0)) := by
 unfold storedP Pt.put
 split
 ·
  exact blk_put (blk_put (blk_put h _ _ rfl) _ _ rfl) _ _ rfl
 ·
  exact blk_put h _ _ rfl
theorem storedP_far (W : World) (b : Nat) (p : Pt) (v : Value) (k : Nat) (hk : k ≠ b) : (storedP W b p v).heap[k]? = W.heap[k]? := by
 unfold storedP
 split
 ·
  exact (Below.heap_setCell _ ⟨b, _, none⟩ _ k hk).trans ((Below.heap_setCell _ ⟨b, _, none⟩ _ k hk).trans (Below.heap_setCell _ ⟨b, _, none⟩ _ k hk))
 ·
  exact Below.heap_setCell _ ⟨b, _, none⟩ _ k hk
theorem storedP_below {W0 W : World} {B : Nat} (h : Below B W0 W) (b : Nat) (hb : B ≤ b) (p : Pt) (v : Value) : Below B W0 (storedP W b p v) := by
 unfold storedP
 split
 ·
  exact ((h.setCell (p := ⟨b, _, none⟩) hb _).setCell (p := ⟨b, _, none⟩) hb _).setCell (p := ⟨b, _, none⟩) hb _
 ·
  exact h.setCell (p := ⟨b, _, none⟩) hb _
/-- What reading the parts has come to: the blob's cells, the layers', the turns, the parts so far (to whom a block belongs: 0 the turns, i + 1 part i). -/
structure RD (w0 W : World) (own : Nat → Nat) (gb gl n : Nat) (C : Nat → Value) (vT : Value) (T : List S115) (ps : List Pt) (bs cs : Array Value) (Vs : List Value) (nums : List (List Int)) : Prop where
 hb : W.heap[gb]? = some (.cells bs 67 (0, 0))
 hl : W.heap[gl]? = some (.cells cs 120 (0, 0))
 sb : bs.size = 15
 sl : cs.size = n * 23
 hd : ∀ i, i < 6 → bs[i]? = some (C i)
 h6 : bs[6]? = some vT
 h10 : bs[10]? = some (.slice (some ⟨gl, 0, none⟩) n n)
 lv : Vs.length = nums.length
 desc : ∀ (k : Nat) (p : Pt) (v : Value), ps[k]? = some p → Vs[k]? = some v → Desc (p.arr bs cs) p v
 ow : ∀ (k : Nat) (v : Value) (xs : List Int), Vs[k]? = some v → nums[k]? = some xs → Kd.R (Kd.int .i32) 21 W w0.heap.size (fun q => own q = k + 1) v xs
 tr : Kd.R k115 115 W w0.heap.size (fun q => own q = 0) vT T
 ge : w0.heap.size ≤ gb
 gle : w0.heap.size ≤ gl
section
variable {w0 W W' : World} {own : Nat → Nat} {gb gl n : Nat} {C : Nat → Value} {vT : Value} {T : List S115} {ps : List Pt} {bs cs : Array Value} {Vs : List Value} {nums : List (List Int)}
theorem RD.keep (h : RD w0 W own gb gl n C vT T ps bs cs Vs nums) (hs : ∀ (k : Nat) (c : Array Value) (t : Nat), W.heap[k]? = some (.cells c t (0, 0)) → (t = 67 ∨ t = 120 ∨ (t = 21 ∧ own k ≤ nums.length) ∨ t = 115) → W'.heap[k]? = W.heap[k]?) : RD w0 W' own gb gl n C vT T ps bs cs Vs nums := by
 refine ⟨(hs gb _ 67 h.hb (.inl rfl)).trans h.hb, (hs gl _ 120 h.hl (.inr (.inl rfl))).trans h.hl, h.sb, h.sl, h.hd, h.h6, h.h10, h.lv, h.desc, fun k v xs hv hx => ?_, ?_, h.ge, h.gle⟩
 ·
  refine Kd.R_mono (Kd.R_step (Kd.R_bound (h.ow k v xs hv hx)) (fun q hq _ => ?_)) (fun q hq => hq.1)
  obtain ⟨h1, h2, h3, t, ht, c, hc⟩ := hq
  have ht' : t = 21 := by simpa [Kd.int, Kd.scalar] using ht
  subst ht'
  have hk := (List.getElem?_eq_some_iff.mp hx).1
  exact hs q c 21 hc (.inr (.inr (.inl ⟨rfl, by omega⟩)))
 ·
  refine Kd.R_mono (Kd.R_step (Kd.R_bound h.tr) (fun q hq _ => ?_)) (fun q hq => hq.1)
  obtain ⟨h1, h2, h3, t, ht, c, hc⟩ := hq
  have ht' : t = 115 := by simpa [k115, Kd.iso, Kd.pair, Kd.int, Kd.scalar] using ht
  subst ht'
  exact hs q c 115 hc (.inr (.inr (.inr rfl)))
theorem RD.below (h : RD w0 W own gb gl n C vT T ps bs cs Vs nums) (hb : Below W.heap.size W W') : RD w0 W' own gb gl n C vT T ps bs cs Vs nums := h.keep (fun k c t hc _ => hb.block k (blk_lt hc))
theorem RD.relabel (h : RD w0 W own gb gl n C vT T ps bs cs Vs nums) (m : Nat) : RD w0 W (fun k => if k < W.heap.size then own k else m) gb gl n C vT T ps bs cs Vs nums :=
 ⟨h.hb, h.hl, h.sb, h.sl, h.hd, h.h6, h.h10, h.lv, h.desc, fun k v xs hv hx => Kd.R_mono (Kd.R_bound (h.ow k v xs hv hx)) (fun q hq => (if_pos hq.2.2.1).trans hq.1), Kd.R_mono (Kd.R_bound h.tr) (fun q hq => (if_pos hq.2.2.1).trans hq.1), h.ge, h.gle⟩
/-- One more part, stored. -/
theorem RD.step (h : RD w0 W own gb gl n C vT T ps bs cs Vs nums) (hdis : ps.Pairwise Pt.dis) (hin : ∀ p ∈ ps, if p.lay then p.off + p.wd ≤ n * 23 else (7 ≤ p.off ∧ p.off + p.wd ≤ 15 ∧ (p.off + p.wd ≤ 10 ∨ 11 ≤ p.off))) {p : Pt} (hp : ps[nums.length]? = some p) {v : Value} {xs : List Int} (hv : Kd.R (Kd.int .i32) 21 W w0.heap.size (fun q => own q = nums.length + 1) v xs) :
  RD w0 (storedP W (p.blk gb gl) p v) own gb gl n C vT T ps (if p.lay then bs else p.put bs v) (if p.lay then p.put cs v else cs) (Vs ++ [v]) (nums ++ [xs]) := by
 have hne : gb ≠ gl := blk_ne h.hb h.hl (by decide)
 have hpin := hin p (List.mem_of_getElem? hp)
 have hlv := h.lv
 have hbt : ∃ a t, W.heap[p.blk gb gl]? = some (.cells a t (0, 0)) ∧ (t = 67 ∨ t = 120) := by
  unfold Pt.blk
  split
  ·
   exact ⟨cs, 120, h.hl, .inr rfl⟩
  ·
   exact ⟨bs, 67, h.hb, .inl rfl⟩
 obtain ⟨a, t, ha, ht⟩ := hbt
 have hR : ∀ {α : Type} {d : Kd α} {e : Nat} {ok : Nat → Prop} {u : Value} {ys : List α}, d.R e W w0.heap.size ok u ys → (∀ q, q ∈ e :: d.E → q ≠ 67 ∧ q ≠ 120) → d.R e (storedP W (p.blk gb gl) p v) w0.heap.size ok u ys := fun hr hq =>
  Kd.R_mono (Kd.R_step (Kd.R_bound hr) (fun k hk _ => by
   obtain ⟨h1, h2, h3, q, hq2, c, hc⟩ := hk
   refine storedP_far W _ p v k (blk_ne hc ha ?_)
   rcases ht with rfl | rfl
   ·
    exact (hq q hq2).1
   ·
    exact (hq q hq2).2)) (fun k hk => hk.1)
 have far : ∀ (k : Nat) (q : Pt), ps[k]? = some q → k < nums.length → Pt.dis q p := fun k q hq hk => by
  have hkl := (List.getElem?_eq_some_iff.mp hq)
  have hpl := (List.getElem?_eq_some_iff.mp hp)
  have := List.pairwise_iff_getElem.mp hdis k nums.length hkl.1 hpl.1 hk
  rw [hkl.2, hpl.2] at this
  exact this
 refine ⟨?_, ?_, ?_, ?_, fun i hi => ?_, ?_, ?_, by simp [hlv], fun k q u hq hu => ?_, fun k u ys hu hy => ?_, hR h.tr (by decide), h.ge, h.gle⟩
 ·
  by_cases hl : p.lay
  ·
   rw [if_pos hl, storedP_far W _ p v gb (by unfold Pt.blk; rw [if_pos hl]; exact hne)]
   exact h.hb
  ·
   rw [if_neg hl]
   have e : p.blk gb gl = gb := by unfold Pt.blk; rw [if_neg hl]
   rw [e]
   exact storedP_blk p v h.hb
 ·
  by_cases hl : p.lay
  ·
   rw [if_pos hl]
   have e : p.blk gb gl = gl := by unfold Pt.blk; rw [if_pos hl]
   rw [e]
   exact storedP_blk p v h.hl
  ·
   rw [if_neg hl, storedP_far W _ p v gl (by unfold Pt.blk; rw [if_neg hl]; exact fun e => hne e.symm)]
   exact h.hl
 ·
  split
  ·
   exact h.sb
  ·
   rw [put_size]; exact h.sb
 ·
  split
  ·
   rw [put_size]; exact h.sl
  ·
   exact h.sl
 ·
  by_cases hl : p.lay
  ·
   rw [if_pos hl]; exact h.hd i hi
  ·
   rw [if_neg hl] at hpin ⊢
   rw [put_far _ _ _ _ (.inl (by omega))]; exact h.hd i hi
 ·
  by_cases hl : p.lay
  ·
   rw [if_pos hl]; exact h.h6
  ·
   rw [if_neg hl] at hpin ⊢
   rw [put_far _ _ _ _ (.inl (by omega))]; exact h.h6
 ·
  by_cases hl : p.lay
  ·
   rw [if_pos hl]; exact h.h10
  ·
   rw [if_neg hl] at hpin ⊢
   rw [put_far _ _ _ _ (by omega)]; exact h.h10
 ·
  by_cases hk : k < nums.length
  ·
   rw [List.getElem?_append_left (by omega)] at hu
   have hd := h.desc k q u hq hu
   have hdi := far k q hq hk
   unfold Pt.arr at hd ⊢
   by_cases hl : p.lay
   ·
    rw [if_pos hl, if_pos hl]
    by_cases hql : q.lay
    ·
     rw [if_pos hql] at hd ⊢
     exact desc_far v hd (hdi.resolve_left (fun e => e (by rw [hl, hql])))
    ·
     rw [if_neg hql] at hd ⊢
     exact hd
   ·
    rw [if_neg hl, if_neg hl]
    by_cases hql : q.lay
    ·
     rw [if_pos hql] at hd ⊢
     exact hd
    ·
     rw [if_neg hql] at hd ⊢
     exact desc_far v hd (hdi.resolve_left (fun e => e (by simp only [Bool.not_eq_true] at hl hql; rw [hl, hql])))
  ·
   have hkl := (List.getElem?_eq_some_iff.mp hu).1
   rw [List.length_append, List.length_singleton] at hkl
   obtain rfl : k = nums.length := by omega
   obtain rfl := Option.some.inj (hq.symm.trans hp)
   rw [← hlv, List.getElem?_append_right (Nat.le_refl _), Nat.sub_self] at hu
   obtain rfl := Option.some.inj hu
   unfold Pt.arr
   by_cases hl : q.lay
   ·
    rw [if_pos hl] at hpin ⊢
    rw [if_pos hl]
    exact put_desc cs q v (by rw [h.sl]; exact hpin)
   ·
    rw [if_neg hl] at hpin ⊢
    rw [if_neg hl]
    exact put_desc bs q v (by rw [h.sb]; exact hpin.2.1)
 ·
  by_cases hk : k < nums.length
  ·
   rw [List.getElem?_append_left (by omega)] at hu
   rw [List.getElem?_append_left hk] at hy
   exact hR (h.ow k u ys hu hy) (by decide)
  ·
   have hkl := (List.getElem?_eq_some_iff.mp hy).1
   rw [List.length_append, List.length_singleton] at hkl
   obtain rfl : k = nums.length := by omega
   rw [← hlv, List.getElem?_append_right (Nat.le_refl _), Nat.sub_self] at hu
   rw [List.getElem?_append_right (Nat.le_refl _), Nat.sub_self] at hy
   obtain rfl := Option.some.inj hu
   obtain rfl := Option.some.inj hy
   exact hR hv (by decide)
end
theorem info115 : (Try.prog.info? 115).map (fun i => (i.zero, i.size, i.bytes)) = some (some (.agg #[.int .i32 0, .int .i32 0]), 2, 8) := by kernel_rfl
theorem info21 : (Try.prog.info? 21).map (fun i => (i.zero, i.size, i.bytes)) = some (some (.int .i32 0), 1, 4) := by kernel_rfl
theorem rdT_len {k : Nat} {l : List Int} {s : Bool} : ∀ {n : Nat} {y : List S115 × List Int × Bool}, rdT k l s n = some y → y.1.length = n
 | 0, y, h => by obtain rfl := Option.some.inj h; rfl
 | n + 1, y, h => by
  obtain ⟨z, hz, h⟩ := Option.bind_eq_some_iff.mp h
  obtain ⟨x, hx, h⟩ := Option.bind_eq_some_iff.mp h
  obtain ⟨u, hu, h⟩ := Option.bind_eq_some_iff.mp h
  obtain rfl := Option.some.inj h
  simp [rdT_len hz]
theorem kb_blk {w0 w w' : World} {g b t : Nat} {l : List Int} {s : Bool} {cs : Array Value} (hk : KeepBut w w' g none) (hI : IsS141 w0 w g l s) (hb : w.heap[b]? = some (.cells cs t (0, 0))) (ht : t ≠ 141) : w'.heap[b]? = some (.cells cs t (0, 0)) :=
 (hk.2 b (blk_lt hb) (fun e => hI.ne_blk hb ht e.symm) (by simp)).trans hb
theorem kb_R {w0 w w' : World} {g : Nat} {l : List Int} {s : Bool} {α : Type} {d : Kd α} {e B : Nat} {ok : Nat → Prop} {v : Value} {xs : List α} (hk : KeepBut w w' g none) (hI : IsS141 w0 w g l s) (h : d.R e w B ok v xs) (ht : ∀ q, q ∈ e :: d.E → q ≠ 141) : d.R e w' B ok v xs :=
 Kd.R_mono (Kd.R_step (Kd.R_bound h) (fun k hk1 _ => by
  obtain ⟨h1, h2, h3, q, hq, cs, hc⟩ := hk1
  exact hk.2 k h3 (fun e => hI.ne_blk hc (ht q hq) e.symm) (by simp))) (fun k hk1 => hk1.1)
theorem is_far {w0 W : World} {g b t i : Nat} {l : List Int} {s : Bool} {cs : Array Value} (hI : IsS141 w0 W g l s) (hb : W.heap[b]? = some (.cells cs t (0, 0))) (h1 : t ≠ 141) (h2 : t ≠ 5) (u : Value) : IsS141 w0 (W.setCell ⟨b, i, none⟩ u) g l s :=
 hI.move (fun o ho => (Below.heap_setCell W ⟨b, i, none⟩ u g (hI.ne_blk hb h1)).trans ho) (fun k c _ hk => (Below.heap_setCell W ⟨b, i, none⟩ u k (blk_ne hk hb (fun e => h2 e.symm))).trans hk)
def Pt.cnt (p : Pt) : Nat := (p.r * p.c).toNat
theorem lays_made (n : Nat) (hn : n ≤ 100) : ∃ zs : Array Value, zs.size = n * 23 ∧ ∀ W : World, (Instr.makeSlice 65 (.int .i64 (n : Int)) (.int .i64 (n : Int))).run Try.prog W = .ok (.slice (some ⟨W.heap.size, 0, none⟩) n n) (W.alloc (.cells zs 120)) := by
 obtain ⟨i0, hi⟩ : ∃ i, Try.prog.info? 120 = some i := Option.isSome_iff_exists.mp (by kernel_rfl)
 have hb : (Try.prog.info? 120).map (fun i => i.size) = some 23 := by kernel_rfl
 have hb9 : ((Try.prog.info? 120).map (fun i => decide (i.bytes ≤ 1000))) = some true := by kernel_rfl
 obtain ⟨z, hz⟩ : ∃ z, ((Try.prog.info? 120).bind (fun i => i.zero)) = some z := Option.isSome_iff_exists.mp (by kernel_rfl)
 rw [hi] at hb hz hb9
 have hb1 : i0.size = 23 := Option.some.inj hb
 have hb2 : i0.bytes ≤ 1000 := of_decide_eq_true (Option.some.inj hb9)
 refine ⟨madeCells z.cells (n * 23), by simp [madeCells], fun W => ?_⟩
 have hle : n * i0.bytes ≤ 100 * 1000 := Nat.mul_le_mul hn hb2
 have hr := run_make (P := Try.prog) W 65 120 i0 z Try.underlying65 hi hz .i64 .i64 (n : Int) (n : Int) (by omega) (Int.le_refl _) (by have h_ : (i0.bytes : Int) * (n : Int) ≤ 100000 := (by rw [← Int.natCast_mul, Nat.mul_comm]; omega); omega) (by omega)
 simp only [Int.toNat_natCast] at hr
 rw [hb1] at hr
 exact hr
theorem allP_small (n vv ww kk qq : Nat) (h : ww ≤ 64 ∧ kk ≤ 64 ∧ qq ≤ 64 ∧ vv ≤ 64) : ∀ p ∈ allP n (vv : Int) (ww : Int) (kk : Int) (qq : Int), wrap64 (p.r * p.c) = (p.cnt : Int) ∧ p.cnt ≤ 5000 := by
 have key : ∀ a b : Nat, a ≤ 64 → b ≤ 64 → wrap64 ((a : Int) * (b : Int)) = ((((a : Int) * (b : Int)).toNat : Nat) : Int) ∧ ((a : Int) * (b : Int)).toNat ≤ 5000 := fun a b ha hb => by
  have h1 : a * b ≤ 64 * 64 := Nat.mul_le_mul ha hb
  rw [← Int.natCast_mul, Int.toNat_natCast]
  exact ⟨by simp only [wrap64]; omega, by omega⟩
 have k1 : ∀ b : Nat, b ≤ 64 → wrap64 (1 * (b : Int)) = (((1 * (b : Int)).toNat : Nat) : Int) ∧ (1 * (b : Int)).toNat ≤ 5000 := fun b hb => key 1 b (by decide) hb
 have nine : ∀ o, ∀ p ∈ nineP o (ww : Int) (kk : Int) (qq : Int), wrap64 (p.r * p.c) = (p.cnt : Int) ∧ p.cnt ≤ 5000 := fun o p hp => by
  simp only [nineP, List.mem_cons, List.not_mem_nil, or_false] at hp
  rcases hp with rfl | rfl | rfl | rfl | rfl | rfl | rfl | rfl | rfl
  ·
   exact k1 ww h.1
  ·
   exact key ww ww h.1 h.1
  ·
   exact key kk ww h.2.1 h.1
  ·
   exact key kk ww h.2.1 h.1
  ·
   exact key ww ww h.1 h.1
  ·
   exact k1 ww h.1
  ·
   exact key qq ww h.2.2.1 h.1
  ·
   exact key qq ww h.2.2.1 h.1
  ·
   exact key ww qq h.1 h.2.2.1
 have lay : ∀ n, ∀ p ∈ layP (ww : Int) (kk : Int) (qq : Int) n, wrap64 (p.r * p.c) = (p.cnt : Int) ∧ p.cnt ≤ 5000 := fun n => by
  induction n with
  | zero => intro p hp; simp [layP] at hp
  | succ n ih => intro p hp; exact (List.mem_append.mp hp).elim (ih p) (nine _ p)
 intro p hp
 rcases List.mem_append.mp hp with hp | hp
 ·
  rcases List.mem_cons.mp hp with rfl | hp
  ·
   exact key vv ww h.2.2.2 h.1
  ·
   exact lay n p hp
 ·
  simp only [List.mem_cons, List.not_mem_nil, or_false] at hp
  rcases hp with rfl | rfl
  ·
   exact k1 ww h.1
  ·
   exact key vv ww h.2.2.2 h.1
theorem RD.blkOf {w0 W : World} {own : Nat → Nat} {gb gl n : Nat} {C : Nat → Value} {vT : Value} {T : List S115} {ps : List Pt} {bs cs : Array Value} {Vs : List Value} {nums : List (List Int)} (h : RD w0 W own gb gl n C vT T ps bs cs Vs nums) {p : Pt} (hin : if p.lay then p.off + p.wd ≤ n * 23 else (7 ≤ p.off ∧ p.off + p.wd ≤ 15 ∧ (p.off + p.wd ≤ 10 ∨ 11 ≤ p.off))) : ∃ (a : Array Value) (t : Nat), W.heap[p.blk gb gl]? = some (.cells a t (0, 0)) ∧ p.off + p.wd ≤ a.size ∧ (t = 67 ∨ t = 120) := by
 unfold Pt.blk
 split
 ·
  next hl => rw [if_pos hl] at hin; exact ⟨cs, 120, h.hl, by rw [h.sl]; exact hin, .inr rfl⟩
 ·
  next hl => rw [if_neg hl] at hin; exact ⟨bs, 67, h.hb, by rw [h.sb]; exact hin.2.1, .inl rfl⟩
theorem is_storedP {w0 W : World} {g b t : Nat} {l : List Int} {s : Bool} {a : Array Value} (hI : IsS141 w0 W g l s) (ha : W.heap[b]? = some (.cells a t (0, 0))) (ht : t = 67 ∨ t = 120) (p : Pt) (v : Value) : IsS141 w0 (storedP W b p v) g l s :=
 hI.move (fun o ho => (storedP_far W b p v g (hI.ne_blk ha (by show (t : Nat) ≠ 141; omega))).trans ho) (fun k c _ hk => (storedP_far W b p v k (blk_ne hk ha (by show (5 : Nat) ≠ t; omega))).trans hk)
theorem r_storedP {α : Type} {d : Kd α} {e B : Nat} {W : World} {b t : Nat} {ok : Nat → Prop} {u : Value} {xs : List α} {a : Array Value} (h : d.R e W B ok u xs) (ha : W.heap[b]? = some (.cells a t (0, 0))) (ht : t = 67 ∨ t = 120) (hq : ∀ q, q ∈ e :: d.E → q ≠ 67 ∧ q ≠ 120) (p : Pt) (v : Value) : d.R e (storedP W b p v) B ok u xs :=
 Kd.R_mono (Kd.R_step (Kd.R_types h ha (fun q hq2 => by rcases ht with rfl | rfl; exact (hq q hq2).1; exact (hq q hq2).2)) (fun k hk _ => storedP_far W b p v k hk.2)) (fun k hk => hk.1)
theorem RD.start {w0 W : World} {gb gl n : Nat} {C : Nat → Value} {vT : Value} {T : List S115} {ps : List Pt} {bs cs : Array Value} (hb : W.heap[gb]? = some (.cells bs 67 (0, 0))) (hl : W.heap[gl]? = some (.cells cs 120 (0, 0))) (sb : bs.size = 15) (sl : cs.size = n * 23) (hd : ∀ i, i < 6 → bs[i]? = some (C i)) (h6 : bs[6]? = some vT) (h10 : bs[10]? = some (.slice (some ⟨gl, 0, none⟩) n n)) (hT : Kd.R k115 115 W w0.heap.size (fun _ => True) vT T) (ge : w0.heap.size ≤ gb) (gle : w0.heap.size ≤ gl) :
  RD w0 W (fun _ => 0) gb gl n C vT T ps bs cs [] [] := ⟨hb, hl, sb, sl, hd, h6, h10, rfl, fun k p v _ h => by simp at h, fun k v xs h => by simp at h, Kd.R_mono hT (fun _ _ => rfl), ge, gle⟩
def ReadR (w0 w' : World) (gb n : Nat) (C : List Value) (ps : List Pt) (T : List S115) (nums : List (List Int)) : Prop := ∃ own gl bs cs vT Vs, RD w0 w' own gb gl n (fun i => C.getD i (.int .i64 0)) vT T ps bs cs Vs nums ∧ Below w0.heap.size w0 w'
def brd3.T3 : Bool × List (List Nat × List Nat) := (true, [([], []), ([], []), ([1], [1]), ([2], [2]), ([3], [3]), ([], []), ([], []), ([6], [6]), ([5, 7], [5, 7]), ([8], [8]), ([4, 9, 7], [4, 9]), ([0, 0, 1, 2, 3, 4, 5, 6, 7, 8, 9, 10], [0]), ([11, 0, 1, 2, 3, 4, 5, 6, 7, 8, 9, 10], [11]), ([12, 10, 10, 0, 1, 2, 3, 4, 5, 6, 7, 8, 9, 10], [10, 12])])
def brd3.B3 : List Nat := [0, 0, 2, 6, 14, 0, 0, 64, 224, 480, 1022, 2047, 4095, 8191]
theorem brd3.tab3 : rtab .any (opsOf Try.f74 3) = brd3.T3 := by kernel_rfl
theorem brd3.bits3 : waitsOk brd3.T3.2 brd3.B3 = true := by kernel_rfl
set_option maxHeartbeats 8000000 in
set_option maxRecDepth 100000 in
theorem bread.calls (k gb gx gr n d ww kk qq vv : Nat) (c1 c2 c3 : Int) (l l1 l2 : List Int) (s s1 s2 : Bool) (T : List S115) (nums : List (List Int)) (w0 w : World) (hBK : w.heap[gb]? = some (.cells #[.int .i64 (n : Int), .int .i64 c1, .int .i64 c2, .int .i64 c3, .int .i64 (qq : Int), .int .i64 (vv : Int), .slice none 0 0, .int .i64 0, .int .i64 0, .slice none 0 0, .slice none 0 0, .slice none 0 0, .int .i64 0, .int .i64 0, .slice none 0 0] 67 (0, 0))) (hI : IsS141 w0 w gr l s) (hB : Below w0.heap.size w0 w) (hge : w0.heap.size ≤ gb) (xc : Array Value) (hX : w.heap[gx]? = some (.cells xc 67 (0, 0))) (hne : gx ≠ gb)
  (hn : 1 ≤ n ∧ n ≤ 4) (hd : wrap64 (Int.tdiv c3 2) = (d : Int)) (hd8 : d ≤ 8) (hw : wrap64 (c1 * c3) = (ww : Int)) (hk : wrap64 (c2 * c3) = (kk : Int)) (hs : ww ≤ 64 ∧ kk ≤ 64 ∧ qq ≤ 64 ∧ vv ≤ 64) (hT : rdT k l s d = some (T, l1, s1)) (hP : rdP k l1 s1 ((allP n vv ww kk qq).map Pt.cnt) (9 * n + 3) = some (nums, l2, s2)) :
  Calls Try.prog 74 #[.pointer (some ⟨gb, 0, none⟩), .pointer (some ⟨gr, 0, none⟩)] w fun e w' => e = .returned (.tuple #[]) ∧ ReadR w0 w' gb n [.int .i64 (n : Int), .int .i64 c1, .int .i64 c2, .int .i64 c3, .int .i64 (qq : Int), .int .i64 (vv : Int)] (allP n vv ww kk qq) T nums ∧ w'.heap[gx]? = some (.cells xc 67 (0, 0)) := by
 have BK := aM hBK
 have I := aM hI
 have HB := aM hB
 have GE := aM hge
 have HN := aM hn
 have HD := aM hd
 have HD8 := aM hd8
 have HW := aM hw
 have HK := aM hk
 have HS := aM hs
 have HT := aM hT
 have HP := aM hP
 have X := aM hX
 have NE := aM hne
 have hu54 := Try.underlying54
 have hu67 := Try.underlying67
 have hu105 := Try.underlying105
 have hu115 := Try.underlying115
 have hu64 := Try.underlying64
 have hz := bx15 BK.out
 clear hBK hI hB hge hn hd hd8 hw hk hs hT hP hX hne
 go_enter Try.func74, Try.ntmps74
 go_wp2
 rw [HD.out]
 clear hz
 go_loopw [15] (fun i_ W' => ∃ (j : Nat) (v_ : Value) (T_ : List S115) (l_ : List Int) (s_ : Bool), i_ = .int .i64 j ∧ Aside0 (j ≤ d) ∧ Aside0 (rdT k l s j = some (T_, l_, s_)) ∧ Aside0 (W'.heap[gb]? = some (.cells #[.int .i64 (n : Int), .int .i64 c1, .int .i64 c2, .int .i64 c3, .int .i64 (qq : Int), .int .i64 (vv : Int), v_, .int .i64 0, .int .i64 0, .slice none 0 0, .slice none 0 0, .slice none 0 0, .int .i64 0, .int .i64 0, .slice none 0 0] 67 (0, 0))) ∧ Aside0 (Kd.R k115 115 W' w0.heap.size (fun _ => True) v_ T_) ∧ Aside0 (IsS141 w0 W' gr l_ s_) ∧ Aside0 (Below w0.heap.size w0 W') ∧ Aside0 (W'.heap[gx]? = some (.cells xc 67 (0, 0)))) (fun i_ _ => d - (intOf i_).toNat)
 case atStart => exact ⟨0, _, [], l, s, rfl, ⟨Nat.zero_le _⟩, ⟨rfl⟩, BK, ⟨Kd.R_nil _ _ _ _ _⟩, I, HB, X⟩
 case round =>
  clear BK I HB X
  obtain ⟨j, vT, T_, lt, st, rfl, HJ, HRT, BK, R, I, HB, X⟩ := hrel
  by_cases q : j < d
  ·
   have f1 : decide ((j : Int) < (d : Int)) = true := decide_eq_true (by omega)
   have f2 : decide (j < d) = true := decide_eq_true q
   have hwj : wrap64 ((j : Int) + 1) = (j : Int) + 1 := by have := HD8.out; simp only [wrap64]; omega
   obtain ⟨⟨x, lx, sx⟩, ⟨u, lu, su⟩, hx, hu, hst⟩ := rdT_step HT.out q HRT.out
   have HX := aM hx
   have HU := aM hu
   have HST := aM hst
   have HTL : Aside0 (T_.length ≤ 8) := ⟨by have h_ := rdT_len HRT.out; have := HD8.out; simp only at h_; omega⟩
   obtain ⟨AT, cT, rfl⟩ := Kd.R_slice R.out
   clear hx hu hst
   go_upto_region 3 with (go_at_call 87; (with_reducible refine (seal_Reader_Signed.calls k gr lt st x lx sx w0 _ I.out HB.out HX.out).mono ?_); rintro e w1 ⟨rfl, hi, hb, hk⟩; replace BK := aM (kb_blk hk I.out BK.out (by decide)); replace R := aM (kb_R hk I.out R.out (by decide)); replace X := aM (kb_blk hk I.out X.out (by decide)); replace I := aM hi; replace HB := aM hb; clear hi hb hk)
   replace BK := aM (blk_drew BK.out)
   replace R := aM (Kd.R_drew R.out)
   replace I := aM (I.out.drew)
   replace HB := aM (HB.out.drew)
   replace X := aM (blk_drew X.out)
   refine start_ (n := 14) (S := fun w' => w'.cell? ⟨gb, 6, none⟩ = some (.slice AT T_.length cT)) (ds := [13]) #[false, false, false, false, false, false, false, false, false, false, false, false, false, false] (by kernel_rfl) rfl rfl (((blk_cell BK.out 6).trans rfl)) (fun hHeld => ?_); refine with_tabW brd3.tab3 brd3.bits3 (fun HT_ HW_ => ?_)
   generalize w1.drew = w2 at BK R I HB X hHeld ⊢
   refine pure_ (i := 0) (N := some 19) (v := ?_) (a' := ?_) #[true, false, false, false, false, false, false, false, false, false, false, false, false, false] rfl rfl (any_of HT_.out (by kernel_rfl)) (fun _ _ _ h => h) (Or.inl ⟨by rfl, ?_⟩) ?_ ?_
   rotate_left; exact pI; rotate_left; exact pS
   refine pure_ (i := 1) (N := some 20) (v := ?_) (a' := ?_) #[true, true, false, false, false, false, false, false, false, false, false, false, false, false] rfl rfl (any_of HT_.out (by kernel_rfl)) (fun _ _ _ h => h) (Or.inl ⟨by rfl, ?_⟩) ?_ ?_
   rotate_left; exact pI; rotate_left; exact pS
   refine pure_ (i := 2) (N := some 21) (v := ?_) (a' := ?_) #[true, true, true, false, false, false, false, false, false, false, false, false, false, false] rfl rfl (any_of HT_.out (by kernel_rfl)) (fun _ _ _ h => h) (Or.inl ⟨by rfl, ?_⟩) ?_ ?_
   rotate_left; exact pI; rotate_left; exact pS
   refine pure_ (i := 3) (N := some 22) (v := ?_) (a' := ?_) #[true, true, true, true, false, false, false, false, false, false, false, false, false, false] rfl rfl (any_of HT_.out (by kernel_rfl)) (fun _ _ _ h => h) (Or.inl ⟨by rfl, ?_⟩) ?_ ?_
   rotate_left; exact pI; rotate_left; exact pS
   refine pure_ (i := 5) (N := some 24) (v := ?_) (a' := ?_) #[true, true, true, true, false, true, false, false, false, false, false, false, false, false] rfl rfl (any_of HT_.out (by kernel_rfl)) (fun _ _ _ h => h) (Or.inl ⟨by rfl, ?_⟩) ?_ ?_
   rotate_left; exact pI; rotate_left; exact pS
   refine pure_ (i := 6) (N := some 25) (v := ?_) (a' := ?_) #[true, true, true, true, false, true, true, false, false, false, false, false, false, false] rfl rfl (any_of HT_.out (by kernel_rfl)) (fun _ _ _ h => h) (Or.inl ⟨by rfl, ?_⟩) ?_ ?_
   rotate_left; exact pI; rotate_left; exact pS
   refine take_ (i := 4) (N := some 23) (v := ?_) (a' := ?_) #[true, true, true, true, true, true, true, false, false, false, false, false, false, false] rfl rfl (take_ofW HT_.out HW_.out (by kernel_rfl)) (fun _ _ _ h => h) (Or.inl ⟨by rfl, ?_⟩) hHeld ?_ ?_
   rotate_left
   ·
    intro w' s0
    go_simp
    with_reducible rfl
   rotate_left
   ·
    exact pS
   refine one_ (i := 7) (N := some 26) #[true, true, true, true, true, true, true, true, false, false, false, false, false, false] rfl rfl (one_of HT_.out (by kernel_rfl)) (by decide) (fun K hK => ?_)
   refine goes_ Try.func87 (by kernel_rfl) rfl #[.pointer (some ⟨gr, 0, none⟩)] (by rfl) rfl rfl (by simp only [List.map_toArray, List.map_cons, List.map_nil]; rfl) ?_
   with_reducible refine (seal_Reader_Signed.calls k gr lx sx u lu su w0 _ I.out HB.out HU.out).mono ?_
   rintro e w3 ⟨rfl, hi, hb, hk⟩
   refine ⟨_, rfl, ?_⟩
   replace BK := aM (kb_blk hk I.out BK.out (by decide))
   replace R := aM (kb_R hk I.out R.out (by decide))
   replace X := aM (kb_blk hk I.out X.out (by decide))
   replace I := aM hi
   replace HB := aM hb
   clear hi hb hk
   refine hK.out _ _ (((blk_cell BK.out 6).trans rfl)) (fun hHeld => ?_)
   clear hK K
   refine norm_ (a' := ?_) ?_ ?_
   rotate_left
   ·
    show Act.put _ (some 26) _ = _
    simp only [Act.put, List.setIfInBounds_toArray, List.set_cons_zero, List.set_cons_succ, i64_w, i32_w, IntKind.wrap_u32]
    rfl
   refine pure_ (i := 8) (N := some 27) (v := ?_) (a' := ?_) #[true, true, true, true, true, true, true, true, true, false, false, false, false, false] rfl rfl (any_of HT_.out (by kernel_rfl)) (fun _ _ _ h => h) (Or.inl ⟨by rfl, ?_⟩) ?_ ?_
   rotate_left; exact pI; rotate_left; exact pS
   refine one_ (i := 9) (N := some 28) #[true, true, true, true, true, true, true, true, true, true, false, false, false, false] rfl rfl (one_of HT_.out (by kernel_rfl)) (by decide) (fun K hK => ?_)
   refine value_ (w1 := ?_) (v := ?_) (by rfl) rfl ?_ ?_
   rotate_left 2
   ·
    go_simp
    constructor
    ·
     rfl
    ·
     rfl
   refine hK.out _ _ (((blk_cell (blk_below BK.out (below_alloc (Below.refl _ _) _)) 6).trans rfl)) (fun hHeld => ?_)
   clear hK K
   refine norm_ (a' := ?_) ?_ ?_
   rotate_left
   ·
    show Act.put _ (some 28) _ = _
    simp only [Act.put, List.setIfInBounds_toArray, List.set_cons_zero, List.set_cons_succ, i64_w, i32_w, IntKind.wrap_u32]
    rfl
   refine one_ (i := 10) (N := some 29) #[true, true, true, true, true, true, true, true, true, true, true, false, false, false] rfl rfl (one_of HT_.out (by kernel_rfl)) (by decide) (fun K hK => ?_)
   refine Kd.R_append_step k115 (w0 := w0) w0.heap.size (by rfl) (.tmp 23) (.tmp 28) 61 115 (.agg #[.int .i32 0, .int .i32 0]) 8 rfl Try.underlying61 info115 rfl (by decide) (by omega) (.slice AT T_.length cT) T_ ⟨x, u⟩ [.int .i32 x, .int .i32 u] (fun _ => True) (fun _ => False) rfl rfl ?aP (fun _ hk => hk.elim) ?aF ?aO HB.out (below_size HB.out) ?aL ?_
   (case aP => exact k115_mkM _ _ _ ⟨x, u⟩)
   (case aF => exact (fun _ _ => trivial))
   (case aO => exact R.out)
   (case aL => have := HTL.out; omega)
   intro vt2 w4 ho hb hg hat
   have hne := Kd.R_ne R.out BK.out (by decide)
   replace I := aM (I.out.grown hg (I.out.own_ap R.out (by decide)))
   replace X := aM (blk_grown X.out hg (Kd.R_ne R.out X.out (by decide)))
   replace BK := aM (blk_grown BK.out hg hne)
   replace R := aM ho
   replace HB := aM hb
   obtain ⟨A2, c2_, rfl⟩ := Kd.R_slice ho
   obtain ⟨nL, hnL⟩ : ∃ m_, (T_ ++ [(⟨x, u⟩ : S115)]).length = m_ := ⟨_, rfl⟩
   rw [hnL] at R ⊢
   clear ho hb hg hat hne hnL
   refine hK.out _ _ (((blk_cell BK.out 6).trans rfl)) (fun hHeld => ?_)
   clear hK K
   refine norm_ (a' := ?_) ?_ ?_
   rotate_left
   ·
    show Act.put _ (some 29) _ = _
    simp only [Act.put, List.setIfInBounds_toArray, List.set_cons_zero, List.set_cons_succ, i64_w, i32_w, IntKind.wrap_u32]
    rfl
   refine pure_ (i := 11) (N := some 30) (v := ?_) (a' := ?_) #[true, true, true, true, true, true, true, true, true, true, true, true, false, false] rfl rfl (any_of HT_.out (by kernel_rfl)) (fun _ _ _ h => h) (Or.inl ⟨by rfl, ?_⟩) ?_ ?_
   rotate_left; exact pI; rotate_left; exact pS
   refine pure_ (i := 12) (N := some 31) (v := ?_) (a' := ?_) #[true, true, true, true, true, true, true, true, true, true, true, true, true, false] rfl rfl (any_of HT_.out (by kernel_rfl)) (fun _ _ _ h => h) (Or.inl ⟨by rfl, ?_⟩) ?_ ?_
   rotate_left; exact pI; rotate_left; exact pS
   refine last_ (i := 13) (N := none) #[true, true, true, true, true, true, true, true, true, true, true, true, true, true] rfl rfl (one_of HT_.out (by kernel_rfl)) (by decide) (fun K hK => ?_)
   have hzc : w4.cell? ⟨gb, 6, none⟩ = some (.slice AT T_.length cT) := (blk_cell BK.out 6).trans rfl
   have hzf := blk_frozen BK.out
   refine skip_ (w1 := ?_) (by rfl) rfl ?_ ?_
   rotate_left
   ·
    go_simp
    rfl
   clear hzc hzf
   replace R := aM (r_aside R.out BK.out (by decide) 6 (.slice A2 nL c2_))
   replace I := aM (is_far (i := 6) I.out BK.out (by decide) (by decide) (.slice A2 nL c2_))
   replace HB := aM (HB.out.setCell (p := ⟨gb, 6, none⟩) GE.out (.slice A2 nL c2_))
   replace X := aM (blk_far X.out (p := ⟨gb, 6, none⟩) NE.out (.slice A2 nL c2_))
   replace BK := aM (blk_put BK.out 6 (.slice A2 nL c2_) (cs' := #[.int .i64 (n : Int), .int .i64 c1, .int .i64 c2, .int .i64 c3, .int .i64 (qq : Int), .int .i64 (vv : Int), .slice A2 nL c2_, .int .i64 0, .int .i64 0, .slice none 0 0, .slice none 0 0, .slice none 0 0, .int .i64 0, .int .i64 0, .slice none 0 0]) rfl)
   refine hK.out _ _ ?_
   clear hK K
   refine done_ (done_of HT_.out (by kernel_rfl)) ?_
   go_wp2
   rw [hwj]
   exact ⟨⟨j + 1, _, _, _, _, rfl, ⟨q⟩, HST, BK, R, I, HB, X⟩, by simp only [intOf]; omega⟩
  ·
   have f1 : decide ((j : Int) < (d : Int)) = false := decide_eq_false (by omega)
   have f2 : decide (j < d) = false := decide_eq_false q
   obtain rfl : j = d := by have := HJ.out; omega
   obtain ⟨rfl, rfl, rfl⟩ : T_ = T ∧ lt = l1 ∧ st = s1 := by have h_ := HRT.out.symm.trans HT.out; simpa using h_
   have hz := bx15 BK.out
   obtain ⟨AT, cT, rfl⟩ := Kd.R_slice R.out
   obtain ⟨zs, hzs, hmk⟩ := lays_made n (by have := HN.out; omega)
   replace hmk := hmk wr
   have hz2 := bx15 (blk_below BK.out (below_alloc (Below.refl wr.heap.size wr) (.cells zs 120)))
   clear HRT HT HJ q
   go_upto_region 6 with (fail)
   have h_new := blk_new wr (.cells zs 120)
   have h_al := below_alloc (Below.refl wr.heap.size wr) (.cells zs 120)
   obtain ⟨gl, hgl⟩ : ∃ g_, g_ = wr.heap.size := ⟨_, rfl⟩
   rw [← hgl] at h_new ⊢
   have HL := aM h_new
   have GL : Aside0 (w0.heap.size ≤ gl) := ⟨by rw [hgl]; exact below_size HB.out⟩
   replace BK := aM (blk_below BK.out h_al)
   replace R := aM (Kd.R_below R.out h_al)
   replace I := aM (I.out.below h_al)
   replace HB := aM (below_step HB.out h_al)
   replace X := aM (blk_below X.out h_al)
   clear h_new h_al hgl hmk hz hz2
   generalize wr.alloc (.cells zs 120) = w4 at HL BK R I HB X ⊢
   replace HL := aM (blk_far HL.out (p := ⟨gb, 10, none⟩) (fun e_ => blk_ne HL.out BK.out (by decide) e_) (.slice (some ⟨gl, 0, none⟩) n n))
   replace R := aM (r_aside R.out BK.out (by decide) 10 (.slice (some ⟨gl, 0, none⟩) n n))
   replace I := aM (is_far (i := 10) I.out BK.out (by decide) (by decide) (.slice (some ⟨gl, 0, none⟩) n n))
   replace HB := aM (HB.out.setCell (p := ⟨gb, 10, none⟩) GE.out (.slice (some ⟨gl, 0, none⟩) n n))
   replace X := aM (blk_far X.out (p := ⟨gb, 10, none⟩) NE.out (.slice (some ⟨gl, 0, none⟩) n n))
   replace BK := aM (blk_put BK.out 10 (.slice (some ⟨gl, 0, none⟩) n n) (cs' := #[.int .i64 (n : Int), .int .i64 c1, .int .i64 c2, .int .i64 c3, .int .i64 (qq : Int), .int .i64 (vv : Int), .slice AT T_.length cT, .int .i64 0, .int .i64 0, .slice none 0 0, .slice (some ⟨gl, 0, none⟩) n n, .slice none 0 0, .int .i64 0, .int .i64 0, .slice none 0 0]) rfl)
   generalize w4.setCell ⟨gb, 10, none⟩ (.slice (some ⟨gl, 0, none⟩) n n) = w5 at HL BK R I HB X ⊢
   have T := aM (RD.start (w0 := w0) (C := (fun i_ => ([.int .i64 (n : Int), .int .i64 c1, .int .i64 c2, .int .i64 c3, .int .i64 (qq : Int), .int .i64 (vv : Int)] : List Value).getD i_ (.int .i64 0))) (ps := allP n vv ww kk qq) BK.out HL.out rfl hzs (fun i_ hi_ => by rcases i_ with _ | _ | _ | _ | _ | _ | i_ <;> first | rfl | omega) rfl rfl R.out GE.out GL.out)
   clear hzs R HL
   go_upto_region 7 with (go_at_call 57; (with_reducible refine (bp.calls gb gl 0 n n (some ⟨gl, 0, none⟩) (n : Int) c1 c2 c3 (qq : Int) (vv : Int) _ _ _ _ _ _ _ _ _ BK.out (fun _ => rfl) (by have := HN.out; omega)).mono ?_); rintro e w6 ⟨vr, rfl, hv, hb⟩; rw [HW.out, HK.out, allP_rows] at hv; have HV := aM (Kd.R_lower hv (below_size HB.out)); replace HB := aM (below_step HB.out hb); replace T := aM (T.out.below hb); replace I := aM (I.out.below hb); replace X := aM (blk_below X.out hb); obtain ⟨Ar, cr, rfl⟩ := Kd.R_slice hv; clear hb hv BK)
   have HPS := aM (allP_small n vv ww kk qq HS.out)
   have HDI := aM (allP_dis n (vv : Int) (ww : Int) (kk : Int) (qq : Int))
   have HIN : Aside0 (∀ p_ ∈ allP n (vv : Int) (ww : Int) (kk : Int) (qq : Int), if p_.lay then p_.off + p_.wd ≤ n * 23 else (7 ≤ p_.off ∧ p_.off + p_.wd ≤ 15 ∧ (p_.off + p_.wd ≤ 10 ∨ 11 ≤ p_.off))) := ⟨fun p_ hp_ => allP_in hp_⟩
   have HPL : Aside0 ((allP n (vv : Int) (ww : Int) (kk : Int) (qq : Int)).length = 9 * n + 3) := ⟨allP_len _ _ _ _ _⟩
   obtain ⟨ps, hps⟩ : ∃ x_, allP n (vv : Int) (ww : Int) (kk : Int) (qq : Int) = x_ := ⟨_, rfl⟩
   have HPSE := aM hps
   rw [hps] at T HV HP HPS HDI HIN HPL ⊢
   clear hps
   rw [List.length_map] at HV
   obtain ⟨nP, hnP⟩ : ∃ x_, ps.length = x_ := ⟨_, rfl⟩
   rw [hnP] at HV HPL ⊢
   have HNP : Aside0 (nP = 9 * n + 3) := HPL
   have HPL2 := aM hnP
   clear hnP
   obtain ⟨gv, hgv⟩ := row_plain HV.out
   have HGV := aM hgv
   clear hgv f1 f2
   go_loopw [45] (fun i_ W' => ∃ (j : Nat) (own_ : Nat → Nat) (bs_ cs_ : Array Value) (Vs_ : List Value) (ns_ : List (List Int)) (l_ : List Int) (s_ : Bool), i_ = .int .i64 j ∧ Aside0 (j ≤ nP ∧ ns_.length = j) ∧ Aside0 (rdP k lt st (ps.map Pt.cnt) j = some (ns_, l_, s_)) ∧ Aside0 (RD w0 W' own_ gb gl n (fun i_ => ([.int .i64 (n : Int), .int .i64 c1, .int .i64 c2, .int .i64 c3, .int .i64 (qq : Int), .int .i64 (vv : Int)] : List Value).getD i_ (.int .i64 0)) (.slice AT T_.length cT) T_ ps bs_ cs_ Vs_ ns_) ∧ Aside0 (IsS141 w0 W' gr l_ s_) ∧ Aside0 (Below w0.heap.size w0 W') ∧ Aside0 ((Kd.raw 4).R 105 W' w0.heap.size (fun _ => True) (.slice Ar nP cr) (ps.map (Pt.row gb gl))) ∧ Aside0 (W'.heap[gx]? = some (.cells xc 67 (0, 0)))) (fun i_ _ => nP - (intOf i_).toNat)
   case atStart => exact ⟨0, _, _, _, _, _, _, _, rfl, ⟨Nat.zero_le _, rfl⟩, ⟨rfl⟩, T, I, HB, HV, X⟩
   case round =>
    clear T I HB HV X
    obtain ⟨j, own, bs, cs, Vs, ns, l_, s_, rfl, HJ, HRP, T, I, HB, HV, X⟩ := hrel
    by_cases q : j < nP
    ·
     have f1 : decide ((j : Int) < (nP : Int)) = true := decide_eq_true (by omega)
     have f2 : decide (j < nP) = true := decide_eq_true q
     have hwj : wrap64 ((j : Int) + 1) = (j : Int) + 1 := by have := HN.out; have := HNP.out; simp only [wrap64]; omega
     obtain rfl := HGV.out (by omega)
     obtain ⟨pp, hpp⟩ : ∃ x_, ps[j]? = some x_ := ⟨_, List.getElem?_eq_getElem (by rw [HPL2.out]; exact q)⟩
     have HPP := aM hpp
     have hrow : (ps.map (Pt.row gb gl))[j]? = some (pp.row gb gl) := by rw [List.getElem?_map, hpp]; rfl
     obtain ⟨pr, hpr⟩ : ∃ x_, pp.r = x_ := ⟨_, rfl⟩
     obtain ⟨pc, hpc⟩ : ∃ x_, pp.c = x_ := ⟨_, rfl⟩
     obtain ⟨pb, hpb⟩ : ∃ x_, pp.blk gb gl = x_ := ⟨_, rfl⟩
     obtain ⟨po, hpo⟩ : ∃ x_, pp.off = x_ := ⟨_, rfl⟩
     obtain ⟨ct, hct⟩ : ∃ x_, pp.cnt = x_ := ⟨_, rfl⟩
     obtain ⟨t, l, ht, htl⟩ : ∃ t l : Option Addr, pp.row gb gl = bp.one t l pr pc ∧ ((pp.tab = true ∧ t = some ⟨pb, po, none⟩ ∧ l = none) ∨ (pp.tab = false ∧ t = none ∧ l = some ⟨pb, po, none⟩)) := by subst hpr hpc hpb hpo; unfold Pt.row; by_cases h_ : pp.tab = true; exact ⟨_, _, if_pos h_, .inl ⟨h_, rfl, rfl⟩⟩; exact ⟨_, _, if_neg h_, .inr ⟨by simpa using h_, rfl, rfl⟩⟩
     rw [ht] at hrow
     have HTL := aM htl
     obtain ⟨hx0, hx1, hx2, hx3⟩ := prow_of HV.out hrow
     have hct2 : wrap64 (pr * pc) = (ct : Int) ∧ ct ≤ 5000 := by rw [← hpr, ← hpc, ← hct]; exact HPS.out pp (List.mem_of_getElem? hpp)
     have HCT := aM hct2
     clear hct2
     obtain ⟨⟨xs, lx, sx⟩, hrx, hst⟩ := rdP_step HP.out (show j < 9 * n + 3 by rw [← HNP.out]; exact q) HRP.out
     have hgd : (ps.map Pt.cnt).getD j 0 = ct := by rw [List.getD_eq_getElem?_getD, List.getElem?_map, hpp, ← hct]; rfl
     rw [hgd] at hrx
     have HRX := aM hrx
     have HST := aM hst
     have HPR := aM hpr
     have HPC := aM hpc
     have HPB := aM hpb
     have HPO := aM hpo
     clear hpp hrow ht htl hrx hst hgd hpr hpc hpb hpo hct
     go_upto_region 9 with (fail)
     clear hx0 hx1 hx2 hx3
     have h_new := blk_new wr (.cells #[.pointer t, .pointer l, .int .i64 pr, .int .i64 pc] 105)
     have h_al := below_alloc (Below.refl wr.heap.size wr) (.cells #[.pointer t, .pointer l, .int .i64 pr, .int .i64 pc] 105)
     obtain ⟨g6, hg6⟩ : ∃ g_, g_ = wr.heap.size := ⟨_, rfl⟩
     rw [← hg6] at h_new ⊢
     have G6 := aM h_new
     replace T := aM (T.out.below h_al)
     replace I := aM (I.out.below h_al)
     replace HV := aM (Kd.R_below HV.out h_al)
     replace X := aM (blk_below X.out h_al)
     replace HB := aM (below_step HB.out h_al)
     clear h_new h_al hg6
     generalize wr.alloc (.cells #[.pointer t, .pointer l, .int .i64 pr, .int .i64 pc] 105) = w7 at G6 T I HV HB X ⊢
     have hz6 := bx4 G6.out
     obtain ⟨own2, ho2, hT2⟩ : ∃ own2 : Nat → Nat, (∀ k_, w7.heap.size ≤ k_ → own2 k_ = j + 1) ∧ RD w0 w7 own2 gb gl n (fun i_ => ([.int .i64 (n : Int), .int .i64 c1, .int .i64 c2, .int .i64 c3, .int .i64 (qq : Int), .int .i64 (vv : Int)] : List Value).getD i_ (.int .i64 0)) (.slice AT T_.length cT) T_ ps bs cs Vs ns := ⟨_, fun k_ hk_ => if_neg (by omega), T.out.relabel (j + 1)⟩
     replace T := aM hT2
     have HO2 := aM ho2
     clear ho2 hT2
     go_upto_region 10 with ((with_reducible refine gate_dst (N := 54) rfl ?_); refine Kd.R_make (Kd.int .i32) (w0 := w0) w0.heap.size 21 rfl (N := 54) rfl 62 (.tmp 53) (.tmp 53) rfl (wrap64 (pr * pc)) rfl rfl Try.underlying62 (.int .i32 0) 4 info21 rfl (by decide) (by decide) (0 : Int) (okp := fun _ => False) rfl (fun _ hk => hk.elim) (ok := fun k_ => own2 k_ = j + 1) (HO2.out _ (Nat.le_refl _)) (by rw [HCT.out.1]; omega) ?hl HB.out (below_size HB.out) ?_; (case hl => have := HCT.out; rw [HCT.out.1]; omega); intro vm w8 ho hb hg hat; rw [HCT.out.1, Int.toNat_natCast] at ho; obtain ⟨Am, cm, rfl⟩ := Kd.R_slice ho; rw [List.length_replicate] at ho ⊢; have RV := aM ho; replace T := aM (T.out.keep (fun k_ c_ t_ hc_ _ => hg.block k_ (blk_lt hc_) (by simp))); replace I := aM (I.out.grown hg (by simp)); replace HV := aM (Kd.R_grown HV.out hg (fun _ _ => by simp)); replace G6 := aM (blk_grown G6.out hg (by simp)); replace X := aM (blk_grown X.out hg (by simp)); replace HB := aM hb; clear ho hb hg hat hz6)
     go_wp2
     go_loopw [57] (fun i_ W' => ∃ (m : Nat) (ys : List Int) (l3_ : List Int) (s3_ : Bool), i_ = .int .i64 m ∧ Aside0 (m ≤ ct) ∧ Aside0 (rdA k l_ s_ m = some (ys, l3_, s3_)) ∧ Aside0 (Kd.R (Kd.int .i32) 21 W' w0.heap.size (fun k_ => own2 k_ = j + 1) (.slice Am ct cm) (ys ++ List.replicate (ct - m) 0)) ∧ Aside0 (RD w0 W' own2 gb gl n (fun i_ => ([.int .i64 (n : Int), .int .i64 c1, .int .i64 c2, .int .i64 c3, .int .i64 (qq : Int), .int .i64 (vv : Int)] : List Value).getD i_ (.int .i64 0)) (.slice AT T_.length cT) T_ ps bs cs Vs ns) ∧ Aside0 (IsS141 w0 W' gr l3_ s3_) ∧ Aside0 (Below w0.heap.size w0 W') ∧ Aside0 ((Kd.raw 4).R 105 W' w0.heap.size (fun _ => True) (.slice (some ⟨gv, 0, none⟩) nP cr) (ps.map (Pt.row gb gl))) ∧ Aside0 (W'.heap[g6]? = some (.cells #[.pointer t, .pointer l, .int .i64 pr, .int .i64 pc] 105 (0, 0))) ∧ Aside0 (W'.heap[gx]? = some (.cells xc 67 (0, 0)))) (fun i_ _ => ct - (intOf i_).toNat)
     case atStart => exact ⟨0, [], _, _, rfl, ⟨Nat.zero_le _⟩, ⟨rfl⟩, RV, T, I, HB, HV, G6, X⟩
     case round =>
      clear RV T I HB HV G6 X
      obtain ⟨m, ys, l3, s3, rfl, HJ2, HRA, RV, T, I, HB, HV, G6, X⟩ := hrel
      by_cases q2 : m < ct
      ·
       have e1 : decide ((m : Int) < (ct : Int)) = true := decide_eq_true (by omega)
       have e2 : decide (m < ct) = true := decide_eq_true q2
       have p0 : ((0 : Int) ≤ (m : Int)) = True := eq_true (by omega)
       have p1 : ((m : Int) < (ct : Int)) = True := eq_true (by omega)
       have p2 : (m < ct) = True := eq_true q2
       have hwm : wrap64 ((m : Int) + 1) = (m : Int) + 1 := by have := HCT.out.2; simp only [wrap64]; omega
       obtain ⟨⟨y, ly, sy⟩, hy, hys⟩ := rdA_step HRX.out q2 HRA.out
       have HY := aM hy
       have HYS := aM hys
       have HLN : Aside0 (ys.length = m) := ⟨rdA_len HRA.out⟩
       have HGT : Aside0 ((ys ++ List.replicate (ct - m) (0 : Int))[m]? = some 0) := ⟨by rw [List.getElem?_append_right (by rw [HLN.out]; exact Nat.le_refl _), HLN.out, Nat.sub_self, List.getElem?_replicate, if_pos (by omega)]⟩
       have HFS : Aside0 ((ys ++ List.replicate (ct - m) (0 : Int)).set m y = (ys ++ [y]) ++ List.replicate (ct - (m + 1)) 0) := ⟨by rw [List.set_append_right _ _ (by rw [HLN.out]; exact Nat.le_refl _), HLN.out, Nat.sub_self, show ct - m = (ct - (m + 1)) + 1 by omega, List.replicate_succ, List.set_cons_zero, List.append_assoc]; rfl⟩
       obtain ⟨vb, vcap, ev, -⟩ := Kd.R_form RV.out (by rw [List.length_append, List.length_replicate, HLN.out]; omega)
       obtain rfl : Am = some ⟨vb, 0, none⟩ := by injection ev
       clear hy hys ev
       go_wp2_with (go_at_call 87; (with_reducible refine (seal_Reader_Signed.calls k gr l3 s3 y ly sy w0 _ I.out HB.out HY.out).mono ?_); rintro e w9 ⟨rfl, hi, hb, hk⟩; replace T := aM (T.out.keep (fun k_ c_ t_ hc_ ht_ => hk.2 k_ (blk_lt hc_) (fun e_ => I.out.ne_blk hc_ (by show (t_ : Nat) ≠ 141; omega) e_.symm) (by simp))); replace RV := aM (kb_R hk I.out RV.out (by decide)); replace HV := aM (kb_R hk I.out HV.out (by decide)); replace G6 := aM (kb_blk hk I.out G6.out (by decide)); replace X := aM (kb_blk hk I.out X.out (by decide)); replace I := aM hi; replace HB := aM hb; clear hi hb hk; have hzc := (put32 RV.out HGT.out).1; have hzf := (put32 RV.out HGT.out).2.1)
       rw [hwm]
       obtain ⟨vcs, hvb⟩ := Kd.R_typed RV.out vb rfl
       have hpt := (put32 RV.out HGT.out).2.2 y
       rw [HFS.out] at hpt
       have hov : own2 vb = j + 1 := RV.out.1 vb rfl
       have hT2 := T.out.keep (W' := w9.setCell ⟨vb, m, none⟩ (.int .i32 y)) (fun k_ c_ t_ hc_ ht_ => Below.heap_setCell _ ⟨vb, m, none⟩ _ k_ (fun e_ => by have h1_ := HJ.out.2; rcases ht_ with ht_ | ht_ | ht_ | ht_; exact blk_ne hc_ hvb (by show (t_ : Nat) ≠ 21; omega) e_; exact blk_ne hc_ hvb (by show (t_ : Nat) ≠ 21; omega) e_; (have e2_ : k_ = vb := e_; rw [e2_] at ht_; omega); exact blk_ne hc_ hvb (by show (t_ : Nat) ≠ 21; omega) e_))
       exact ⟨⟨m + 1, _, _, _, rfl, ⟨q2⟩, HYS, ⟨hpt⟩, ⟨hT2⟩, ⟨is_far (i := m) I.out hvb (by decide) (by decide) _⟩, ⟨HB.out.setCell (p := ⟨vb, m, none⟩) (Kd.R_base RV.out vb rfl) _⟩, ⟨r_aside HV.out hvb (by decide) m _⟩, ⟨blk_far G6.out (p := ⟨vb, m, none⟩) (blk_ne G6.out hvb (by decide)) _⟩, ⟨blk_far X.out (p := ⟨vb, m, none⟩) (blk_ne X.out hvb (by decide)) _⟩⟩, by simp only [intOf]; omega⟩
      ·
       have e1 : decide ((m : Int) < (ct : Int)) = false := decide_eq_false (by omega)
       have e2 : decide (m < ct) = false := decide_eq_false q2
       obtain rfl : ct = m := by have := HJ2.out; omega
       obtain ⟨rfl, rfl, rfl⟩ : ys = xs ∧ l3 = lx ∧ s3 = sx := by have h_ := HRA.out.symm.trans HRX.out; simpa using h_
       rw [Nat.sub_self, List.replicate_zero, List.append_nil] at RV
       clear HRA HJ2 q2 e1 e2
       obtain ⟨a, ty, ha, hsz, hty⟩ := T.out.blkOf (HIN.out pp (List.mem_of_getElem? HPP.out))
       rw [HPB.out] at ha
       rw [HPO.out] at hsz
       have HA := aM ha
       have HTY := aM hty
       have hT3 := T.out.step HDI.out HIN.out (p := pp) (by rw [HJ.out.2]; exact HPP.out) (v := (.slice Am ct cm)) (xs := ys) (by rw [HJ.out.2]; exact RV.out)
       rw [HPB.out] at hT3
       rcases HTL.out with ⟨htab, rfl, rfl⟩ | ⟨htab, rfl, rfl⟩
       ·
        skip
        have hwd : pp.wd = 3 := by unfold Pt.wd; rw [htab]; rfl
        rw [hwd] at hsz
        obtain ⟨u0, hu0⟩ : ∃ u_, a[po]? = some u_ := ⟨_, Array.getElem?_eq_getElem (by omega)⟩
        have hc0 : wr.cell? ⟨pb, po, none⟩ = some u0 := (blk_cell ha _).trans hu0
        obtain ⟨u1, hu1⟩ : ∃ u_, a[po + 1]? = some u_ := ⟨_, Array.getElem?_eq_getElem (by omega)⟩
        have hc1 : wr.cell? ⟨pb, po + 1, none⟩ = some u1 := (blk_cell ha _).trans hu1
        obtain ⟨u2, hu2⟩ : ∃ u_, a[po + 2]? = some u_ := ⟨_, Array.getElem?_eq_getElem (by omega)⟩
        have hc2 : wr.cell? ⟨pb, po + 2, none⟩ = some u2 := (blk_cell ha _).trans hu2
        have hzf := blk_frozen ha
        have hz6 := bx4 G6.out
        have hst : storedP wr pb pp (.slice Am ct cm) = ((wr.setCell ⟨pb, po, none⟩ (.int .i64 pr)).setCell ⟨pb, po + 1, none⟩ (.int .i64 pc)).setCell ⟨pb, po + 2, none⟩ (.slice Am ct cm) := by unfold storedP; rw [htab, HPO.out, HPR.out, HPC.out]; rfl
        have HT3 := aM hT3
        have HSTW := aM hst
        clear hT3 hst ha hsz hty hwd hu0 hu1 hu2
        go_wp2
        rw [hwj, ← HSTW.out]
        exact ⟨⟨j + 1, own2, _, _, _, _, _, _, rfl, ⟨q, by rw [List.length_append, HJ.out.2]; rfl⟩, HST, HT3, ⟨is_storedP I.out HA.out HTY.out pp _⟩, ⟨storedP_below HB.out pb (by rw [← HPB.out]; unfold Pt.blk; split; exact T.out.gle; exact T.out.ge) pp _⟩, ⟨r_storedP HV.out HA.out HTY.out (by decide) pp _⟩, ⟨(storedP_far _ pb pp _ gx (by rw [← HPB.out]; unfold Pt.blk; split; exact blk_ne X.out T.out.hl (by decide); exact NE.out)).trans X.out⟩⟩, by simp only [intOf]; omega⟩
       ·
        skip
        have hwd : pp.wd = 1 := by unfold Pt.wd; rw [htab]; rfl
        rw [hwd] at hsz
        obtain ⟨u0, hu0⟩ : ∃ u_, a[po]? = some u_ := ⟨_, Array.getElem?_eq_getElem (by omega)⟩
        have hc0 : wr.cell? ⟨pb, po, none⟩ = some u0 := (blk_cell ha _).trans hu0
        have hzf := blk_frozen ha
        have hz6 := bx4 G6.out
        have hst : storedP wr pb pp (.slice Am ct cm) = wr.setCell ⟨pb, po, none⟩ (.slice Am ct cm) := by unfold storedP; rw [htab, HPO.out]; rfl
        have HT3 := aM hT3
        have HSTW := aM hst
        clear hT3 hst ha hsz hty hwd hu0
        go_wp2
        rw [hwj, ← HSTW.out]
        exact ⟨⟨j + 1, own2, _, _, _, _, _, _, rfl, ⟨q, by rw [List.length_append, HJ.out.2]; rfl⟩, HST, HT3, ⟨is_storedP I.out HA.out HTY.out pp _⟩, ⟨storedP_below HB.out pb (by rw [← HPB.out]; unfold Pt.blk; split; exact T.out.gle; exact T.out.ge) pp _⟩, ⟨r_storedP HV.out HA.out HTY.out (by decide) pp _⟩, ⟨(storedP_far _ pb pp _ gx (by rw [← HPB.out]; unfold Pt.blk; split; exact blk_ne X.out T.out.hl (by decide); exact NE.out)).trans X.out⟩⟩, by simp only [intOf]; omega⟩
    ·
     have f1 : decide ((j : Int) < (nP : Int)) = false := decide_eq_false (by omega)
     have f2 : decide (j < nP) = false := decide_eq_false q
     obtain rfl : j = nP := by have := HJ.out.1; omega
     have he := HRP.out
     rw [HNP.out] at he
     obtain ⟨rfl, rfl, rfl⟩ : ns = nums ∧ l_ = l2 ∧ s_ = s2 := by have h_ := he.symm.trans HP.out; simpa using h_
     clear he
     go_wp2
     refine bodyPost_end (results_none rfl _ _ _) rfl ?_
     have hT9 := T.out
     rw [← HPSE.out] at hT9
     exact ⟨rfl, ⟨own, gl, bs, cs, _, Vs, hT9, HB.out⟩, X.out⟩
theorem layP_at (w kv q : Int) : ∀ (n j : Nat), j < n → ∀ p, p < 9 → (layP w kv q n)[9 * j + p]? = (nineP (j * 23) w kv q)[p]?
 | 0, j, h, _, _ => absurd h (Nat.not_lt_zero _)
 | n + 1, j, h, p, hp => by
  rw [layP]
  by_cases e : j < n
  ·
   rw [List.getElem?_append_left (by rw [layP_len]; omega)]
   exact layP_at w kv q n j e p hp
  ·
   obtain rfl : j = n := by omega
   rw [List.getElem?_append_right (by rw [layP_len]; omega), layP_len, Nat.add_sub_cancel_left]
theorem allP_at (n : Nat) (v w kv q : Int) {j p : Nat} (hj : j < n) (hp : p < 9) : (allP n v w kv q)[1 + 9 * j + p]? = (nineP (j * 23) w kv q)[p]? := by
 rw [allP, show 1 + 9 * j + p = (9 * j + p) + 1 by omega, List.cons_append, List.getElem?_cons_succ, List.getElem?_append_left (by rw [layP_len]; omega)]
 exact layP_at w kv q n j hj p hp
theorem allP_0 (n : Nat) (v w kv q : Int) : (allP n v w kv q)[0]? = some ⟨false, 7, true, v, w⟩ := rfl
theorem allP_last (n : Nat) (v w kv q : Int) : (allP n v w kv q)[9 * n + 1]? = some ⟨false, 11, false, 1, w⟩ := by
 rw [allP, List.cons_append, List.getElem?_cons_succ, List.getElem?_append_right (by rw [layP_len]; exact Nat.le_refl _), layP_len, Nat.sub_self]
 rfl
theorem allP_out (n : Nat) (v w kv q : Int) : (allP n v w kv q)[9 * n + 2]? = some ⟨false, 12, true, v, w⟩ := by
 rw [allP, List.cons_append, List.getElem?_cons_succ, List.getElem?_append_right (by rw [layP_len]; omega), layP_len, show 9 * n + 1 - 9 * n = 1 by omega]
 rfl
/-- A layer, out of all numbers. -/
def layOf (ww kk qq : Int) (nums : List (List Int)) (j : Nat) : S120 :=
 ⟨nums.getD (1 + 9 * j + 0) [], ⟨ww, ww, nums.getD (1 + 9 * j + 1) []⟩, ⟨kk, ww, nums.getD (1 + 9 * j + 2) []⟩, ⟨kk, ww, nums.getD (1 + 9 * j + 3) []⟩, ⟨ww, ww, nums.getD (1 + 9 * j + 4) []⟩, nums.getD (1 + 9 * j + 5) [], ⟨qq, ww, nums.getD (1 + 9 * j + 6) []⟩, ⟨qq, ww, nums.getD (1 + 9 * j + 7) []⟩, ⟨ww, qq, nums.getD (1 + 9 * j + 8) []⟩⟩
section
variable {w0 W : World} {own : Nat → Nat} {gb gl n : Nat} {C : Nat → Value} {vT : Value} {T : List S115} {v ww kk qq : Int} {bs cs : Array Value} {Vs : List Value} {nums : List (List Int)}
/-- What is told of one part. -/
theorem RD.part {ps : List Pt} (h : RD w0 W own gb gl n C vT T ps bs cs Vs nums) {k : Nat} {p : Pt} (hp : ps[k]? = some p) (hk : k < nums.length) : ∃ u, Desc (p.arr bs cs) p u ∧ Kd.R (Kd.int .i32) 21 W w0.heap.size (fun q => own q = k + 1) u (nums.getD k []) := by
 obtain ⟨u, hu⟩ : ∃ u, Vs[k]? = some u := ⟨_, List.getElem?_eq_getElem (by rw [h.lv]; exact hk)⟩
 have hn : nums[k]? = some (nums.getD k []) := by rw [List.getD_eq_getElem?_getD, List.getElem?_eq_getElem hk]; rfl
 exact ⟨u, h.desc k p u hp hu, h.ow k u _ hu hn⟩
/-- The layers, as a row. -/
theorem RD.layers (h : RD w0 W own gb gl n C vT T (allP n v ww kk qq) bs cs Vs nums) (hl : nums.length = 9 * n + 3) (hn : n ≤ 100) :
  Kd.S k120 120 W w0.heap.size (fun q => q = gl ∨ (2 ≤ own q ∧ own q ≤ 9 * n + 1)) (.slice (some ⟨gl, 0, none⟩) n n) ((List.range n).map (layOf ww kk qq nums)) := by
 have hlen : ((List.range n).map (layOf ww kk qq nums)).length = n := by simp
 have hsz : k120.sz = 23 := rfl
 have hrep : ∀ j x, ((List.range n).map (layOf ww kk qq nums))[j]? = some x → k120.M W w0.heap.size (fun k => (2 + 9 * j ≤ own k ∧ own k ≤ 10 + 9 * j) ∧ k ≠ gl) x ((cs.toList.drop (j * k120.sz)).take k120.sz) := by
  intro j x hx
  have hj : j < n := by have := (List.getElem?_eq_some_iff.mp hx).1; rw [hlen] at this; exact this
  obtain rfl : layOf ww kk qq nums j = x := by rw [List.getElem?_map, List.getElem?_range hj] at hx; exact Option.some.inj hx
  have P : ∀ (i : Nat) (p : Pt), i < 9 → (nineP (j * 23) ww kk qq)[i]? = some p → p.lay = true → ∃ u, Desc cs p u ∧ Kd.R (Kd.int .i32) 21 W w0.heap.size (fun k => (2 + 9 * j ≤ own k ∧ own k ≤ 10 + 9 * j) ∧ k ≠ gl) u (nums.getD (1 + 9 * j + i) []) := by
   intro i p hi hp hlay
   obtain ⟨u, hd, hR⟩ := h.part ((allP_at n v ww kk qq hj hi).trans hp) (by rw [hl]; omega)
   refine ⟨u, by unfold Pt.arr at hd; rw [if_pos hlay] at hd; exact hd, Kd.R_mono (Kd.R_types hR h.hl (by decide)) (fun k hk => ⟨⟨by omega, by omega⟩, hk.2⟩)⟩
  obtain ⟨u0, d0, r0⟩ := P 0 _ (by decide) rfl rfl
  obtain ⟨u1, d1, r1⟩ := P 1 _ (by decide) rfl rfl
  obtain ⟨u2, d2, r2⟩ := P 2 _ (by decide) rfl rfl
  obtain ⟨u3, d3, r3⟩ := P 3 _ (by decide) rfl rfl
  obtain ⟨u4, d4, r4⟩ := P 4 _ (by decide) rfl rfl
  obtain ⟨u5, d5, r5⟩ := P 5 _ (by decide) rfl rfl
  obtain ⟨u6, d6, r6⟩ := P 6 _ (by decide) rfl rfl
  obtain ⟨u7, d7, r7⟩ := P 7 _ (by decide) rfl rfl
  obtain ⟨u8, d8, r8⟩ := P 8 _ (by decide) rfl rfl
  have e : (cs.toList.drop (j * k120.sz)).take k120.sz = [u0, .int .i64 ww, .int .i64 ww, u1, .int .i64 kk, .int .i64 ww, u2, .int .i64 kk, .int .i64 ww, u3, .int .i64 ww, .int .i64 ww, u4, u5, .int .i64 qq, .int .i64 ww, u6, .int .i64 qq, .int .i64 ww, u7, .int .i64 ww, .int .i64 qq, u8] := by
   rw [hsz]
   apply List.ext_getElem?
   intro i
   by_cases hi : i < 23
   ·
    rw [List.getElem?_take_of_lt hi, List.getElem?_drop, Array.getElem?_toList]
    rcases i with _ | _ | _ | _ | _ | _ | _ | _ | _ | _ | _ | _ | _ | _ | _ | _ | _ | _ | _ | _ | _ | _ | _ | i
    ·
     exact d0
    ·
     exact d1.1
    ·
     exact d1.2.1
    ·
     exact d1.2.2
    ·
     exact d2.1
    ·
     exact d2.2.1
    ·
     exact d2.2.2
    ·
     exact d3.1
    ·
     exact d3.2.1
    ·
     exact d3.2.2
    ·
     exact d4.1
    ·
     exact d4.2.1
    ·
     exact d4.2.2
    ·
     exact d5
    ·
     exact d6.1
    ·
     exact d6.2.1
    ·
     exact d6.2.2
    ·
     exact d7.1
    ·
     exact d7.2.1
    ·
     exact d7.2.2
    ·
     exact d8.1
    ·
     exact d8.2.1
    ·
     exact d8.2.2
    ·
     omega
   ·
    rw [List.getElem?_eq_none (by rw [List.length_take]; omega), List.getElem?_eq_none (by simp; omega)]
  rw [e]
  exact k120_mkM W w0.heap.size _ (layOf ww kk qq nums j) r0 r1 r2 r3 r4 r5 r6 r7 r8
 have hok : ∀ j k, ((2 + 9 * j ≤ own k ∧ own k ≤ 10 + 9 * j) ∧ k ≠ gl) ∧ j < n → ((k = gl ∨ (2 ≤ own k ∧ own k ≤ 9 * n + 1)) ∧ some k ≠ (Value.slice (some ⟨gl, 0, none⟩) n n).ownBlock) := fun j k hk => ⟨.inr ⟨by omega, by omega⟩, fun e => hk.1.2 (Option.some.inj e)⟩
 obtain ⟨f, hr⟩ := Kd.reps_tag (d := k120) (w := W) (base := w0.heap.size) (ok := fun k => (k = gl ∨ (2 ≤ own k ∧ own k ≤ 9 * n + 1)) ∧ some k ≠ (Value.slice (some ⟨gl, 0, none⟩) n n).ownBlock) (xs := (List.range n).map (layOf ww kk qq nums)) (inner := cs.toList) (fun j k => ((2 + 9 * j ≤ own k ∧ own k ≤ 10 + 9 * j) ∧ k ≠ gl) ∧ j < n) (fun i j k hi hj => by omega) hok (by rw [hlen, hsz, Array.length_toList, h.sl]) (fun j x hx => k120.M_mono (fun k hk => ⟨hk, by have := (List.getElem?_eq_some_iff.mp hx).1; rw [hlen] at this; exact this⟩) (hrep j x hx))
 refine ⟨f, fun k hk => .inl (by have := Option.some.inj hk; exact this.symm), cs.toList, ?_, hr⟩
 rw [List.length_zipIdx, hlen]
 exact ⟨by rw [Array.length_toList, h.sl]; rfl, .inr ⟨gl, n, cs, rfl, h.gle, h.hl, Nat.le_refl _, by simp [maxLen]; omega, by rw [h.sl]; rfl, by rw [List.take_of_length_le (by rw [Array.length_toList, h.sl]; exact Nat.le_refl _)]⟩⟩
/-- The blob's own cells. -/
theorem RD.cells (h : RD w0 W own gb gl n C vT T (allP n v ww kk qq) bs cs Vs nums) (hl : nums.length = 9 * n + 3) : ∃ vE vL vO, W.heap[gb]? = some (.cells #[C 0, C 1, C 2, C 3, C 4, C 5, vT, .int .i64 v, .int .i64 ww, vE, .slice (some ⟨gl, 0, none⟩) n n, vL, .int .i64 v, .int .i64 ww, vO] 67 (0, 0)) ∧ Kd.R (Kd.int .i32) 21 W w0.heap.size (fun q => own q = 1) vE (nums.getD 0 []) ∧ Kd.R (Kd.int .i32) 21 W w0.heap.size (fun q => own q = 9 * n + 2) vL (nums.getD (9 * n + 1) []) ∧ Kd.R (Kd.int .i32) 21 W w0.heap.size (fun q => own q = 9 * n + 3) vO (nums.getD (9 * n + 2) []) := by
 obtain ⟨vE, dE, rE⟩ := h.part (allP_0 n v ww kk qq) (by omega)
 obtain ⟨vL, dL, rL⟩ := h.part (allP_last n v ww kk qq) (by omega)
 obtain ⟨vO, dO, rO⟩ := h.part (allP_out n v ww kk qq) (by omega)
 have dE : bs[7]? = some (.int .i64 v) ∧ bs[8]? = some (.int .i64 ww) ∧ bs[9]? = some vE := dE
 have dL : bs[11]? = some vL := dL
 have dO : bs[12]? = some (.int .i64 v) ∧ bs[13]? = some (.int .i64 ww) ∧ bs[14]? = some vO := dO
 have e : bs = #[C 0, C 1, C 2, C 3, C 4, C 5, vT, .int .i64 v, .int .i64 ww, vE, .slice (some ⟨gl, 0, none⟩) n n, vL, .int .i64 v, .int .i64 ww, vO] := by
  apply Array.ext_getElem?
  intro i
  by_cases hi : i < 15
  ·
   rcases i with _ | _ | _ | _ | _ | _ | _ | _ | _ | _ | _ | _ | _ | _ | _ | i
   ·
    exact h.hd 0 (by decide)
   ·
    exact h.hd 1 (by decide)
   ·
    exact h.hd 2 (by decide)
   ·
    exact h.hd 3 (by decide)
   ·
    exact h.hd 4 (by decide)
   ·
    exact h.hd 5 (by decide)
   ·
    exact h.h6
   ·
    exact dE.1
   ·
    exact dE.2.1
   ·
    exact dE.2.2
   ·
    exact h.h10
   ·
    exact dL
   ·
    exact dO.1
   ·
    exact dO.2.1
   ·
    exact dO.2.2
   ·
    omega
  ·
   rw [Array.getElem?_eq_none (by rw [h.sb]; omega), Array.getElem?_eq_none (by simp; omega)]
 exact ⟨vE, vL, vO, by rw [← e]; exact h.hb, rE, rL, rO⟩
end
-- calls: blob_Bytes seal_Reader_Signed

end Go.Proofs.Ytehepnmagcjkaaa.PBlobParses
