-- Written by a program of this session (wip/tools/mkprint.py over the kit's print).
import Derived.Test.YtehepnmagcjkaaaPBlobParsesx0
import Derived.Test.YtehepnmagcjkaaaPBlobParsesx1
import Derived.Test.YtehepnmagcjkaaaPBlobParsesx2
import Derived.Test.YtehepnmagcjkaaaPBlobParsesx3
import Derived.Test.YtehepnmagcjkaaaPBlobParsesx5
import Derived.Test.YtehepnmagcjkaaaPBlobParsesx6
import Derived.Test.YtehepnmagcjkaaaPBlobParsesx7
import Derived.Test.YtehepnmagcjkaaaPBlobParsesx8
namespace Go.Proofs.Ytehepnmagcjkaaa.PBlobParses
open Go.RowKit Go.Proofs.YtehepnmagcjkaaaW.PrintWords Go.Proofs.YtehepnmagcjkaaaW.PrintLast Go.Proofs.YtehepnmagcjkaaaW.PrintMore
attribute [local go_sem] max2_int min2_int max_two min_two max_three min_three max_four min_four   -- for this text's walks alone
set_option linter.unusedVariables false
set_option linter.unusedSimpArgs false

attribute [local go_sem high] eqA115
/-! ### blob_Parse: function 34 -/
def Cells7 (W : World) (gs : Nat) (b0 b1 b2 b3 b4 b5 b6 : Int) : Prop := W.cell? ⟨gs, 0, none⟩ = some (.int .u8 b0) ∧ W.cell? ⟨gs, 1, none⟩ = some (.int .u8 b1) ∧ W.cell? ⟨gs, 2, none⟩ = some (.int .u8 b2) ∧ W.cell? ⟨gs, 3, none⟩ = some (.int .u8 b3) ∧ W.cell? ⟨gs, 4, none⟩ = some (.int .u8 b4) ∧ W.cell? ⟨gs, 5, none⟩ = some (.int .u8 b5) ∧ W.cell? ⟨gs, 6, none⟩ = some (.int .u8 b6)
theorem Cells7.drew {W : World} {gs : Nat} {b0 b1 b2 b3 b4 b5 b6 : Int} (h : Cells7 W gs b0 b1 b2 b3 b4 b5 b6) : Cells7 W.drew gs b0 b1 b2 b3 b4 b5 b6 := h
theorem Cells7.below {W W' : World} {gs : Nat} {b0 b1 b2 b3 b4 b5 b6 : Int} (h : Cells7 W gs b0 b1 b2 b3 b4 b5 b6) (hb : Below W.heap.size W W') : Cells7 W' gs b0 b1 b2 b3 b4 b5 b6 := by
 have hc : ∀ a v, W.cell? a = some v → W'.cell? a = some v := fun a v h => (hb.cell (World.block_lt_of_cell? W _ h)).trans h
 exact ⟨hc _ _ h.1, hc _ _ h.2.1, hc _ _ h.2.2.1, hc _ _ h.2.2.2.1, hc _ _ h.2.2.2.2.1, hc _ _ h.2.2.2.2.2.1, hc _ _ h.2.2.2.2.2.2⟩
theorem byteAt {W : World} {B g n c : Nat} {ok : Nat → Prop} {xs : List Int} (h : Kd.R (Kd.int .u8) 5 W B ok (.slice (some ⟨g, 0, none⟩) n c) xs) (j : Nat) (hj : j < xs.length) : W.cell? ⟨g, j, none⟩ = some (.int .u8 (rd xs (j : Int))) := by
 have hn := (Kd.R_reads' h).1
 obtain ⟨c', hcl, hM, hcc, -⟩ := Kd.R_elem h 0 (j : Int) (by omega) (by omega)
 have hg : xs.getD (j : Int).toNat 0 = rd xs (j : Int) := by simp [rd, List.getD_eq_getElem?_getD]
 rw [hg] at hM
 obtain rfl : c' = [.int .u8 (rd xs (j : Int))] := hM
 have h0 := hcc 0 _ rfl
 have hs0 : (j : Int).toNat * (Kd.sz (Kd.int .u8)) + 0 = j := by show (j : Int).toNat * 1 + 0 = j; omega
 rw [hs0] at h0
 exact h0
theorem bytes7 {W : World} {B : Nat} {ok : Nat → Prop} {A : Option Addr} {c : Nat} {xs : List Int} (h : Kd.R (Kd.int .u8) 5 W B ok (.slice A xs.length c) xs) (h7 : 7 ≤ xs.length) : ∃ gs, A = some ⟨gs, 0, none⟩ ∧ Cells7 W gs (rd xs 0) (rd xs 1) (rd xs 2) (rd xs 3) (rd xs 4) (rd xs 5) (rd xs 6) := by
 obtain ⟨gs, cap, e, -⟩ := Kd.R_form h (by omega)
 obtain rfl : A = some ⟨gs, 0, none⟩ := by injection e
 exact ⟨gs, rfl, byteAt h 0 (by omega), byteAt h 1 (by omega), byteAt h 2 (by omega), byteAt h 3 (by omega), byteAt h 4 (by omega), byteAt h 5 (by omega), byteAt h 6 (by omega)⟩
theorem blob_Right.callsN (k m : Nat) (a0_0 : Int) (a0_1 : Int) (a0_2 : Int) (a0_3 : Int) (a0_4 : Int) (a0_5 : Int) (A0_6 : Option Addr) (c0_6 : Nat) (l0_6 : List (S115)) (a0_7 : Int) (a0_8 : Int) (A0_9 : Option Addr) (c0_9 : Nat) (l0_9 : List Int) (A0_10 : Option Addr) (c0_10 : Nat) (l0_10 : List (S120)) (A0_11 : Option Addr) (c0_11 : Nat) (l0_11 : List Int) (a0_12 : Int) (a0_13 : Int) (A0_14 : Option Addr) (c0_14 : Nat) (l0_14 : List Int) (r : Int) (w : World) (hm : l0_10.length = m) (hr0_6 : Kd.C k115 w A0_6 l0_6.length l0_6) (hc0_6 : l0_6.length ≤ c0_6) (hr0_9 : Kd.C (Kd.int .i32) w A0_9 l0_9.length l0_9) (hc0_9 : l0_9.length ≤ c0_9) (hr0_10 : Kd.C k120 w A0_10 l0_10.length l0_10) (hc0_10 : l0_10.length ≤ c0_10) (hr0_11 : Kd.C (Kd.int .i32) w A0_11 l0_11.length l0_11) (hc0_11 : l0_11.length ≤ c0_11) (hr0_14 : Kd.C (Kd.int .i32) w A0_14 l0_14.length l0_14) (hc0_14 : l0_14.length ≤ c0_14) (h : blob_Right.f k a0_0 a0_1 a0_2 a0_3 a0_4 a0_5 l0_6 a0_7 a0_8 l0_9 l0_10 l0_11 a0_12 a0_13 l0_14 = some r) :
  Calls Try.prog 33 #[.agg #[.int .i64 a0_0, .int .i64 a0_1, .int .i64 a0_2, .int .i64 a0_3, .int .i64 a0_4, .int .i64 a0_5, .slice A0_6 l0_6.length c0_6, .int .i64 a0_7, .int .i64 a0_8, .slice A0_9 l0_9.length c0_9, .slice A0_10 m c0_10, .slice A0_11 l0_11.length c0_11, .int .i64 a0_12, .int .i64 a0_13, .slice A0_14 l0_14.length c0_14]] w fun e w' => e = .returned (.int .i64 r) ∧ Below w.heap.size w w' := by
 subst hm
 exact blob_Right.calls k a0_0 a0_1 a0_2 a0_3 a0_4 a0_5 A0_6 c0_6 l0_6 a0_7 a0_8 A0_9 c0_9 l0_9 A0_10 c0_10 l0_10 A0_11 c0_11 l0_11 a0_12 a0_13 A0_14 c0_14 l0_14 r w hr0_6 hc0_6 hr0_9 hc0_9 hr0_10 hc0_10 hr0_11 hc0_11 hr0_14 hc0_14 h
def fset (W : World) (gb : Nat) (x0 x1 x2 x3 x4 x5 x6 x7 x8 x9 x10 x11 x12 x13 x14 : Value) : World := (((((((((((((((W.setCell ⟨gb, 0, none⟩ x0).setCell ⟨gb, 1, none⟩ x1).setCell ⟨gb, 2, none⟩ x2).setCell ⟨gb, 3, none⟩ x3).setCell ⟨gb, 4, none⟩ x4).setCell ⟨gb, 5, none⟩ x5).setCell ⟨gb, 6, none⟩ x6).setCell ⟨gb, 7, none⟩ x7).setCell ⟨gb, 8, none⟩ x8).setCell ⟨gb, 9, none⟩ x9).setCell ⟨gb, 10, none⟩ x10).setCell ⟨gb, 11, none⟩ x11).setCell ⟨gb, 12, none⟩ x12).setCell ⟨gb, 13, none⟩ x13).setCell ⟨gb, 14, none⟩ x14)
theorem fset_blk {W : World} {gb : Nat} {y0 y1 y2 y3 y4 y5 y6 y7 y8 y9 y10 y11 y12 y13 y14 x0 x1 x2 x3 x4 x5 x6 x7 x8 x9 x10 x11 x12 x13 x14 : Value} (BK : W.heap[gb]? = some (.cells #[y0, y1, y2, y3, y4, y5, y6, y7, y8, y9, y10, y11, y12, y13, y14] 67 (0, 0))) : (fset W gb x0 x1 x2 x3 x4 x5 x6 x7 x8 x9 x10 x11 x12 x13 x14).heap[gb]? = some (.cells #[x0, x1, x2, x3, x4, x5, x6, x7, x8, x9, x10, x11, x12, x13, x14] 67 (0, 0)) := (blk_put (blk_put (blk_put (blk_put (blk_put (blk_put (blk_put (blk_put (blk_put (blk_put (blk_put (blk_put (blk_put (blk_put (blk_put BK 0 x0 (cs' := #[x0, y1, y2, y3, y4, y5, y6, y7, y8, y9, y10, y11, y12, y13, y14]) rfl) 1 x1 (cs' := #[x0, x1, y2, y3, y4, y5, y6, y7, y8, y9, y10, y11, y12, y13, y14]) rfl) 2 x2 (cs' := #[x0, x1, x2, y3, y4, y5, y6, y7, y8, y9, y10, y11, y12, y13, y14]) rfl) 3 x3 (cs' := #[x0, x1, x2, x3, y4, y5, y6, y7, y8, y9, y10, y11, y12, y13, y14]) rfl) 4 x4 (cs' := #[x0, x1, x2, x3, x4, y5, y6, y7, y8, y9, y10, y11, y12, y13, y14]) rfl) 5 x5 (cs' := #[x0, x1, x2, x3, x4, x5, y6, y7, y8, y9, y10, y11, y12, y13, y14]) rfl) 6 x6 (cs' := #[x0, x1, x2, x3, x4, x5, x6, y7, y8, y9, y10, y11, y12, y13, y14]) rfl) 7 x7 (cs' := #[x0, x1, x2, x3, x4, x5, x6, x7, y8, y9, y10, y11, y12, y13, y14]) rfl) 8 x8 (cs' := #[x0, x1, x2, x3, x4, x5, x6, x7, x8, y9, y10, y11, y12, y13, y14]) rfl) 9 x9 (cs' := #[x0, x1, x2, x3, x4, x5, x6, x7, x8, x9, y10, y11, y12, y13, y14]) rfl) 10 x10 (cs' := #[x0, x1, x2, x3, x4, x5, x6, x7, x8, x9, x10, y11, y12, y13, y14]) rfl) 11 x11 (cs' := #[x0, x1, x2, x3, x4, x5, x6, x7, x8, x9, x10, x11, y12, y13, y14]) rfl) 12 x12 (cs' := #[x0, x1, x2, x3, x4, x5, x6, x7, x8, x9, x10, x11, x12, y13, y14]) rfl) 13 x13 (cs' := #[x0, x1, x2, x3, x4, x5, x6, x7, x8, x9, x10, x11, x12, x13, y14]) rfl) 14 x14 (cs' := #[x0, x1, x2, x3, x4, x5, x6, x7, x8, x9, x10, x11, x12, x13, x14]) rfl)
theorem fset_far (W : World) (gb : Nat) (x0 x1 x2 x3 x4 x5 x6 x7 x8 x9 x10 x11 x12 x13 x14 : Value) (k : Nat) (hk : k ≠ gb) : (fset W gb x0 x1 x2 x3 x4 x5 x6 x7 x8 x9 x10 x11 x12 x13 x14).heap[k]? = W.heap[k]? := (Below.heap_setCell _ ⟨gb, 14, none⟩ _ k hk).trans ((Below.heap_setCell _ ⟨gb, 13, none⟩ _ k hk).trans ((Below.heap_setCell _ ⟨gb, 12, none⟩ _ k hk).trans ((Below.heap_setCell _ ⟨gb, 11, none⟩ _ k hk).trans ((Below.heap_setCell _ ⟨gb, 10, none⟩ _ k hk).trans ((Below.heap_setCell _ ⟨gb, 9, none⟩ _ k hk).trans ((Below.heap_setCell _ ⟨gb, 8, none⟩ _ k hk).trans ((Below.heap_setCell _ ⟨gb, 7, none⟩ _ k hk).trans ((Below.heap_setCell _ ⟨gb, 6, none⟩ _ k hk).trans ((Below.heap_setCell _ ⟨gb, 5, none⟩ _ k hk).trans ((Below.heap_setCell _ ⟨gb, 4, none⟩ _ k hk).trans ((Below.heap_setCell _ ⟨gb, 3, none⟩ _ k hk).trans ((Below.heap_setCell _ ⟨gb, 2, none⟩ _ k hk).trans ((Below.heap_setCell _ ⟨gb, 1, none⟩ _ k hk).trans ((Below.heap_setCell _ ⟨gb, 0, none⟩ _ k hk).trans (rfl)))))))))))))))
theorem fset_below {w W : World} {gb : Nat} {x0 x1 x2 x3 x4 x5 x6 x7 x8 x9 x10 x11 x12 x13 x14 : Value} (HB : Below w.heap.size w W) (GE : w.heap.size ≤ gb) : Below w.heap.size w (fset W gb x0 x1 x2 x3 x4 x5 x6 x7 x8 x9 x10 x11 x12 x13 x14) := (((((((((((((((HB.setCell (p := ⟨gb, 0, none⟩) GE x0).setCell (p := ⟨gb, 1, none⟩) GE x1).setCell (p := ⟨gb, 2, none⟩) GE x2).setCell (p := ⟨gb, 3, none⟩) GE x3).setCell (p := ⟨gb, 4, none⟩) GE x4).setCell (p := ⟨gb, 5, none⟩) GE x5).setCell (p := ⟨gb, 6, none⟩) GE x6).setCell (p := ⟨gb, 7, none⟩) GE x7).setCell (p := ⟨gb, 8, none⟩) GE x8).setCell (p := ⟨gb, 9, none⟩) GE x9).setCell (p := ⟨gb, 10, none⟩) GE x10).setCell (p := ⟨gb, 11, none⟩) GE x11).setCell (p := ⟨gb, 12, none⟩) GE x12).setCell (p := ⟨gb, 13, none⟩) GE x13).setCell (p := ⟨gb, 14, none⟩) GE x14)
theorem rdP_len {k : Nat} {l : List Int} {s : Bool} {ns : List Nat} : ∀ {n : Nat} {a : List (List Int)} {b : List Int} {c : Bool}, rdP k l s ns n = some (a, b, c) → a.length = n
 | 0, a, b, c, h => by obtain ⟨rfl, rfl, rfl⟩ := (by simpa [rdP] using h : [] = a ∧ l = b ∧ s = c); rfl
 | n + 1, a, b, c, h => by
  obtain ⟨⟨a', b', c'⟩, hz, h⟩ := Option.bind_eq_some_iff.mp h
  obtain ⟨x, hx, h⟩ := Option.bind_eq_some_iff.mp h
  obtain ⟨rfl, rfl, rfl⟩ := (by simpa using h : a' ++ [x.1] = a ∧ x.2.1 = b ∧ x.2.2 = c)
  rw [List.length_append, rdP_len hz]
  rfl
theorem s_step {α : Type} {d : Kd α} {e B : Nat} {W W' : World} {ok : Nat → Prop} {v : Value} {xs : List α} (h : Kd.S d e W B ok v xs) (hs : ∀ k, ok k → k < W.heap.size → (∃ q cs, q ∈ e :: d.E ∧ W.heap[k]? = some (.cells cs q (0, 0))) → W'.heap[k]? = W.heap[k]?) : Kd.S d e W' B ok v xs := by
 obtain ⟨f, h⟩ := h
 exact ⟨f, Kd.R_mono (Kd.R_step (Kd.R_bound h) (fun k hk hl => by
  obtain ⟨h1, h2, h3, q, hq, cs, hc⟩ := hk
  exact hs k h1 hl ⟨q, cs, hq, hc⟩)) (fun k hk => hk.1)⟩
theorem s_below {α : Type} {d : Kd α} {e B : Nat} {W W' : World} {ok : Nat → Prop} {v : Value} {xs : List α} (h : Kd.S d e W B ok v xs) (hb : Below W.heap.size W W') : Kd.S d e W' B ok v xs := s_step h (fun k _ hl _ => hb.block k hl)
theorem s_mono {α : Type} {d : Kd α} {e B : Nat} {W : World} {ok ok' : Nat → Prop} {v : Value} {xs : List α} (h : Kd.S d e W B ok v xs) (hm : ∀ k, ok k → (∃ q cs, q ∈ e :: d.E ∧ W.heap[k]? = some (.cells cs q (0, 0))) → ok' k) : Kd.S d e W B ok' v xs := by
 obtain ⟨f, h⟩ := h
 exact ⟨f, Kd.R_mono (Kd.R_bound h) (fun k hk => by
  obtain ⟨h1, h2, h3, q, hq, cs, hc⟩ := hk
  exact hm k h1 ⟨q, cs, hq, hc⟩)⟩
/-- A blob of nothing, stored. -/
def zset (W : World) (gb : Nat) : World := (((((((((((((((W.setCell ⟨gb, 0, none⟩ (.int .i64 0)).setCell ⟨gb, 1, none⟩ (.int .i64 0)).setCell ⟨gb, 2, none⟩ (.int .i64 0)).setCell ⟨gb, 3, none⟩ (.int .i64 0)).setCell ⟨gb, 4, none⟩ (.int .i64 0)).setCell ⟨gb, 5, none⟩ (.int .i64 0)).setCell ⟨gb, 6, none⟩ (.slice none 0 0)).setCell ⟨gb, 7, none⟩ (.int .i64 0)).setCell ⟨gb, 8, none⟩ (.int .i64 0)).setCell ⟨gb, 9, none⟩ (.slice none 0 0)).setCell ⟨gb, 10, none⟩ (.slice none 0 0)).setCell ⟨gb, 11, none⟩ (.slice none 0 0)).setCell ⟨gb, 12, none⟩ (.int .i64 0)).setCell ⟨gb, 13, none⟩ (.int .i64 0)).setCell ⟨gb, 14, none⟩ (.slice none 0 0))
theorem zset_blk {W : World} {gb : Nat} (BK : W.heap[gb]? = some (.cells #[.int .i64 0, .int .i64 0, .int .i64 0, .int .i64 0, .int .i64 0, .int .i64 0, .slice none 0 0, .int .i64 0, .int .i64 0, .slice none 0 0, .slice none 0 0, .slice none 0 0, .int .i64 0, .int .i64 0, .slice none 0 0] 67 (0, 0))) : (zset W gb).heap[gb]? = some (.cells #[.int .i64 0, .int .i64 0, .int .i64 0, .int .i64 0, .int .i64 0, .int .i64 0, .slice none 0 0, .int .i64 0, .int .i64 0, .slice none 0 0, .slice none 0 0, .slice none 0 0, .int .i64 0, .int .i64 0, .slice none 0 0] 67 (0, 0)) := (blk_put (blk_put (blk_put (blk_put (blk_put (blk_put (blk_put (blk_put (blk_put (blk_put (blk_put (blk_put (blk_put (blk_put (blk_put BK 0 (.int .i64 0) (cs' := #[.int .i64 0, .int .i64 0, .int .i64 0, .int .i64 0, .int .i64 0, .int .i64 0, .slice none 0 0, .int .i64 0, .int .i64 0, .slice none 0 0, .slice none 0 0, .slice none 0 0, .int .i64 0, .int .i64 0, .slice none 0 0]) rfl) 1 (.int .i64 0) (cs' := #[.int .i64 0, .int .i64 0, .int .i64 0, .int .i64 0, .int .i64 0, .int .i64 0, .slice none 0 0, .int .i64 0, .int .i64 0, .slice none 0 0, .slice none 0 0, .slice none 0 0, .int .i64 0, .int .i64 0, .slice none 0 0]) rfl) 2 (.int .i64 0) (cs' := #[.int .i64 0, .int .i64 0, .int .i64 0, .int .i64 0, .int .i64 0, .int .i64 0, .slice none 0 0, .int .i64 0, .int .i64 0, .slice none 0 0, .slice none 0 0, .slice none 0 0, .int .i64 0, .int .i64 0, .slice none 0 0]) rfl) 3 (.int .i64 0) (cs' := #[.int .i64 0, .int .i64 0, .int .i64 0, .int .i64 0, .int .i64 0, .int .i64 0, .slice none 0 0, .int .i64 0, .int .i64 0, .slice none 0 0, .slice none 0 0, .slice none 0 0, .int .i64 0, .int .i64 0, .slice none 0 0]) rfl) 4 (.int .i64 0) (cs' := #[.int .i64 0, .int .i64 0, .int .i64 0, .int .i64 0, .int .i64 0, .int .i64 0, .slice none 0 0, .int .i64 0, .int .i64 0, .slice none 0 0, .slice none 0 0, .slice none 0 0, .int .i64 0, .int .i64 0, .slice none 0 0]) rfl) 5 (.int .i64 0) (cs' := #[.int .i64 0, .int .i64 0, .int .i64 0, .int .i64 0, .int .i64 0, .int .i64 0, .slice none 0 0, .int .i64 0, .int .i64 0, .slice none 0 0, .slice none 0 0, .slice none 0 0, .int .i64 0, .int .i64 0, .slice none 0 0]) rfl) 6 (.slice none 0 0) (cs' := #[.int .i64 0, .int .i64 0, .int .i64 0, .int .i64 0, .int .i64 0, .int .i64 0, .slice none 0 0, .int .i64 0, .int .i64 0, .slice none 0 0, .slice none 0 0, .slice none 0 0, .int .i64 0, .int .i64 0, .slice none 0 0]) rfl) 7 (.int .i64 0) (cs' := #[.int .i64 0, .int .i64 0, .int .i64 0, .int .i64 0, .int .i64 0, .int .i64 0, .slice none 0 0, .int .i64 0, .int .i64 0, .slice none 0 0, .slice none 0 0, .slice none 0 0, .int .i64 0, .int .i64 0, .slice none 0 0]) rfl) 8 (.int .i64 0) (cs' := #[.int .i64 0, .int .i64 0, .int .i64 0, .int .i64 0, .int .i64 0, .int .i64 0, .slice none 0 0, .int .i64 0, .int .i64 0, .slice none 0 0, .slice none 0 0, .slice none 0 0, .int .i64 0, .int .i64 0, .slice none 0 0]) rfl) 9 (.slice none 0 0) (cs' := #[.int .i64 0, .int .i64 0, .int .i64 0, .int .i64 0, .int .i64 0, .int .i64 0, .slice none 0 0, .int .i64 0, .int .i64 0, .slice none 0 0, .slice none 0 0, .slice none 0 0, .int .i64 0, .int .i64 0, .slice none 0 0]) rfl) 10 (.slice none 0 0) (cs' := #[.int .i64 0, .int .i64 0, .int .i64 0, .int .i64 0, .int .i64 0, .int .i64 0, .slice none 0 0, .int .i64 0, .int .i64 0, .slice none 0 0, .slice none 0 0, .slice none 0 0, .int .i64 0, .int .i64 0, .slice none 0 0]) rfl) 11 (.slice none 0 0) (cs' := #[.int .i64 0, .int .i64 0, .int .i64 0, .int .i64 0, .int .i64 0, .int .i64 0, .slice none 0 0, .int .i64 0, .int .i64 0, .slice none 0 0, .slice none 0 0, .slice none 0 0, .int .i64 0, .int .i64 0, .slice none 0 0]) rfl) 12 (.int .i64 0) (cs' := #[.int .i64 0, .int .i64 0, .int .i64 0, .int .i64 0, .int .i64 0, .int .i64 0, .slice none 0 0, .int .i64 0, .int .i64 0, .slice none 0 0, .slice none 0 0, .slice none 0 0, .int .i64 0, .int .i64 0, .slice none 0 0]) rfl) 13 (.int .i64 0) (cs' := #[.int .i64 0, .int .i64 0, .int .i64 0, .int .i64 0, .int .i64 0, .int .i64 0, .slice none 0 0, .int .i64 0, .int .i64 0, .slice none 0 0, .slice none 0 0, .slice none 0 0, .int .i64 0, .int .i64 0, .slice none 0 0]) rfl) 14 (.slice none 0 0) (cs' := #[.int .i64 0, .int .i64 0, .int .i64 0, .int .i64 0, .int .i64 0, .int .i64 0, .slice none 0 0, .int .i64 0, .int .i64 0, .slice none 0 0, .slice none 0 0, .slice none 0 0, .int .i64 0, .int .i64 0, .slice none 0 0]) rfl)
theorem zset_below {w W : World} {gb : Nat} (HB : Below w.heap.size w W) (GE : w.heap.size ≤ gb) : Below w.heap.size w (zset W gb) := (((((((((((((((HB.setCell (p := ⟨gb, 0, none⟩) GE (.int .i64 0)).setCell (p := ⟨gb, 1, none⟩) GE (.int .i64 0)).setCell (p := ⟨gb, 2, none⟩) GE (.int .i64 0)).setCell (p := ⟨gb, 3, none⟩) GE (.int .i64 0)).setCell (p := ⟨gb, 4, none⟩) GE (.int .i64 0)).setCell (p := ⟨gb, 5, none⟩) GE (.int .i64 0)).setCell (p := ⟨gb, 6, none⟩) GE (.slice none 0 0)).setCell (p := ⟨gb, 7, none⟩) GE (.int .i64 0)).setCell (p := ⟨gb, 8, none⟩) GE (.int .i64 0)).setCell (p := ⟨gb, 9, none⟩) GE (.slice none 0 0)).setCell (p := ⟨gb, 10, none⟩) GE (.slice none 0 0)).setCell (p := ⟨gb, 11, none⟩) GE (.slice none 0 0)).setCell (p := ⟨gb, 12, none⟩) GE (.int .i64 0)).setCell (p := ⟨gb, 13, none⟩) GE (.int .i64 0)).setCell (p := ⟨gb, 14, none⟩) GE (.slice none 0 0))
def ParseR (w w' : World) (e : Ending) (r1 : Int) (r2 : Int) (r3 : Int) (r4 : Int) (r5 : Int) (r6 : Int) (r7 : List S115) (r8 : Int) (r9 : Int) (r10 : List Int) (r11 : List S120) (r12 : List Int) (r13 : Int) (r14 : Int) (r15 : List Int) (r16 : Int) : Prop := ∃ v7_ v10_ v11_ v12_ v15_ : Value, e = .returned (.tuple #[.agg #[.int .i64 r1, .int .i64 r2, .int .i64 r3, .int .i64 r4, .int .i64 r5, .int .i64 r6, v7_, .int .i64 r8, .int .i64 r9, v10_, v11_, v12_, .int .i64 r13, .int .i64 r14, v15_], .int .i64 r16]) ∧ Kd.R k115 115 w' w.heap.size (fun k_ => some k_ ≠ (v10_ : Value).ownBlock ∧ some k_ ≠ (v11_ : Value).ownBlock ∧ some k_ ≠ (v12_ : Value).ownBlock ∧ some k_ ≠ (v15_ : Value).ownBlock) v7_ r7 ∧ Kd.R (Kd.int .i32) 21 w' w.heap.size (fun k_ => some k_ ≠ (v7_ : Value).ownBlock ∧ some k_ ≠ (v11_ : Value).ownBlock ∧ some k_ ≠ (v12_ : Value).ownBlock ∧ some k_ ≠ (v15_ : Value).ownBlock) v10_ r10 ∧ Kd.S k120 120 w' w.heap.size (fun k_ => some k_ ≠ (v7_ : Value).ownBlock ∧ some k_ ≠ (v10_ : Value).ownBlock ∧ some k_ ≠ (v12_ : Value).ownBlock ∧ some k_ ≠ (v15_ : Value).ownBlock) v11_ r11 ∧ Kd.R (Kd.int .i32) 21 w' w.heap.size (fun k_ => some k_ ≠ (v7_ : Value).ownBlock ∧ some k_ ≠ (v10_ : Value).ownBlock ∧ some k_ ≠ (v11_ : Value).ownBlock ∧ some k_ ≠ (v15_ : Value).ownBlock) v12_ r12 ∧ Kd.R (Kd.int .i32) 21 w' w.heap.size (fun k_ => some k_ ≠ (v7_ : Value).ownBlock ∧ some k_ ≠ (v10_ : Value).ownBlock ∧ some k_ ≠ (v11_ : Value).ownBlock ∧ some k_ ≠ (v12_ : Value).ownBlock) v15_ r15 ∧ Below w.heap.size w w'
theorem ParseR.zero {w w' : World} (z : Int) (hb : Below w.heap.size w w') : ParseR w w' (.returned (.tuple #[.agg #[.int .i64 0, .int .i64 0, .int .i64 0, .int .i64 0, .int .i64 0, .int .i64 0, .slice none 0 0, .int .i64 0, .int .i64 0, .slice none 0 0, .slice none 0 0, .slice none 0 0, .int .i64 0, .int .i64 0, .slice none 0 0], .int .i64 z])) 0 0 0 0 0 0 [] 0 0 [] [] [] 0 0 [] z :=
 ⟨.slice none 0 0, .slice none 0 0, .slice none 0 0, .slice none 0 0, .slice none 0 0, rfl, Kd.R_nil _ _ _ _ _, Kd.R_nil _ _ _ _ _, Kd.S_nil _ _ _ _ _, Kd.R_nil _ _ _ _ _, Kd.R_nil _ _ _ _ _, hb⟩
/-- What is read, once all but the numbers is right. -/
def blob_Parse.tail (k : Nat) (c1 c2 c3 c4 c5 c6 : Int) (s : List Int) : Option (Int × Int × Int × Int × Int × Int × List S115 × Int × Int × List Int × List S120 × List Int × Int × Int × List Int × Int) :=
 (seal_NewReader.f (s.drop 7)).bind fun a =>
 if (1 ≤ c1 ∧ c1 ≤ 4) ∧ (0 ≤ c4 ∧ c4 ≤ 16) ∧ (0 ≤ c2 * c4 ∧ c2 * c4 ≤ 64) ∧ (0 ≤ c3 * c4 ∧ c3 * c4 ≤ 64) ∧ (0 ≤ c5 ∧ c5 ≤ 64) ∧ (0 ≤ c6 ∧ c6 ≤ 64) then
 (rdT k a.1 a.2 (c4 / 2).toNat).bind fun t =>
 (rdP k t.2.1 t.2.2 ((allP c1.toNat c6 (c2 * c4) (c3 * c4) c5).map Pt.cnt) (9 * c1.toNat + 3)).bind fun u =>
 (blob_Right.f k c1 c2 c3 c4 c5 c6 t.1 c6 (c2 * c4) (u.1.getD 0 []) ((List.range c1.toNat).map (layOf (c2 * c4) (c3 * c4) c5 u.1)) (u.1.getD (9 * c1.toNat + 1) []) c6 (c2 * c4) (u.1.getD (9 * c1.toNat + 2) [])).bind fun e =>
 if e = 0 then some (c1, c2, c3, c4, c5, c6, t.1, c6, c2 * c4, u.1.getD 0 [], (List.range c1.toNat).map (layOf (c2 * c4) (c3 * c4) c5 u.1), u.1.getD (9 * c1.toNat + 1) [], c6, c2 * c4, u.1.getD (9 * c1.toNat + 2) [], 0) else some (0, 0, 0, 0, 0, 0, [], 0, 0, [], [], [], 0, 0, [], e)
 else none
def blob_Parse.f (k : Nat) (l0 : List Int) : Option (Int × Int × Int × Int × Int × Int × List S115 × Int × Int × List Int × List S120 × List Int × Int × Int × List Int × Int) :=
 (seal_Open.f k l0).bind fun t => if t.2 = 0 then (if t.1.length < 7 then some (0, 0, 0, 0, 0, 0, [], 0, 0, [], [], [], 0, 0, [], 16) else
 (blob_Config_Numbers.f (wrap64 (rd t.1 1)) (wrap64 (rd t.1 2)) (wrap64 (rd t.1 3)) (wrap64 (rd t.1 4)) (wrap64 (rd t.1 5)) (wrap64 (rd t.1 6))).bind fun nb => if rd t.1 0 = 87 then
 ((blob_Config_Right.f (wrap64 (rd t.1 1)) (wrap64 (rd t.1 2)) (wrap64 (rd t.1 3)) (wrap64 (rd t.1 4)) (wrap64 (rd t.1 5)) (wrap64 (rd t.1 6))).bind fun ok => if ok = true then
 (if (l0.length : Int) < wrap64 (wrap64 (7 + wrap64 (4 * nb)) + 4) then some (0, 0, 0, 0, 0, 0, [], 0, 0, [], [], [], 0, 0, [], 16) else if wrap64 (wrap64 (7 + wrap64 (4 * nb)) + 4) < (l0.length : Int) then some (0, 0, 0, 0, 0, 0, [], 0, 0, [], [], [], 0, 0, [], 17) else
 blob_Parse.tail k (wrap64 (rd t.1 1)) (wrap64 (rd t.1 2)) (wrap64 (rd t.1 3)) (wrap64 (rd t.1 4)) (wrap64 (rd t.1 5)) (wrap64 (rd t.1 6)) t.1) else some (0, 0, 0, 0, 0, 0, [], 0, 0, [], [], [], 0, 0, [], 11)) else some (0, 0, 0, 0, 0, 0, [], 0, 0, [], [], [], 0, 0, [], 10)) else some (0, 0, 0, 0, 0, 0, [], 0, 0, [], [], [], 0, 0, [], t.2)
theorem blob_Parse.mono : ∀ l0 k, LeO (blob_Parse.f k l0) (blob_Parse.f (k + 1) l0) := by
 intro l0 k
 unfold blob_Parse.f blob_Parse.tail
 repeat' first
  | (with_reducible exact LeO.refl _)
  | (with_reducible exact LeO.none _)
  | (with_reducible exact seal_Open.mono _ _)
  | (with_reducible exact rdT_mono _ _ _ _)
  | (with_reducible exact rdP_mono _ _ _ _ _)
  | (with_reducible exact blob_Right.mono _ _ _ _ _ _ _ _ _ _ _ _ _ _ _ _)
  | (with_reducible refine LeO.ite ?_ ?_)
  | (with_reducible refine LeO.bind ?_ (fun _ => ?_))
theorem ParseR.full {w W : World} {own : Nat → Nat} {gb gl n qq vv ww : Nat} {c2 c3 c4 : Int} {vT vE vL vO : Value} {T : List S115} {lE lL lO : List Int} {LY : List S120} {cz bc : Array Value} (RT : Kd.R k115 115 W w.heap.size (fun q => own q = 0) vT T) (RE : Kd.R (Kd.int .i32) 21 W w.heap.size (fun q => own q = 1) vE lE) (RLA : Kd.R (Kd.int .i32) 21 W w.heap.size (fun q => own q = 9 * n + 2) vL lL) (RO : Kd.R (Kd.int .i32) 21 W w.heap.size (fun q => own q = 9 * n + 3) vO lO) (RL : Kd.S k120 120 W w.heap.size (fun q => q = gl ∨ (2 ≤ own q ∧ own q ≤ 9 * n + 1)) (.slice (some ⟨gl, 0, none⟩) n n) LY) (HGL : W.heap[gl]? = some (.cells cz 120 (0, 0))) (BK : W.heap[gb]? = some (.cells bc 67 (0, 0))) (HB : Below w.heap.size w W) (GE : w.heap.size ≤ gb) (hn : 1 ≤ n) :
  ParseR w (fset W gb (.int .i64 (n : Int)) (.int .i64 c2) (.int .i64 c3) (.int .i64 c4) (.int .i64 (qq : Int)) (.int .i64 (vv : Int)) vT (.int .i64 (vv : Int)) (.int .i64 (ww : Int)) vE (.slice (some ⟨gl, 0, none⟩) n n) vL (.int .i64 (vv : Int)) (.int .i64 (ww : Int)) vO) (.returned (.tuple #[.agg #[.int .i64 (n : Int), .int .i64 c2, .int .i64 c3, .int .i64 c4, .int .i64 (qq : Int), .int .i64 (vv : Int), vT, .int .i64 (vv : Int), .int .i64 (ww : Int), vE, .slice (some ⟨gl, 0, none⟩) n n, vL, .int .i64 (vv : Int), .int .i64 (ww : Int), vO], .int .i64 0])) (n : Int) c2 c3 c4 (qq : Int) (vv : Int) T (vv : Int) (ww : Int) lE LY lL (vv : Int) (ww : Int) lO 0 := by
 have st : ∀ {α : Type} {d : Kd α} {e : Nat} {ok : Nat → Prop} {u : Value} {ys : List α}, d.R e W w.heap.size ok u ys → (∀ q, q ∈ e :: d.E → q ≠ 67) → d.R e (fset W gb (.int .i64 (n : Int)) (.int .i64 c2) (.int .i64 c3) (.int .i64 c4) (.int .i64 (qq : Int)) (.int .i64 (vv : Int)) vT (.int .i64 (vv : Int)) (.int .i64 (ww : Int)) vE (.slice (some ⟨gl, 0, none⟩) n n) vL (.int .i64 (vv : Int)) (.int .i64 (ww : Int)) vO) w.heap.size ok u ys := fun hr hq => Kd.R_mono (Kd.R_step (Kd.R_types hr BK hq) (fun k hk _ => fset_far W gb _ _ _ _ _ _ _ _ _ _ _ _ _ _ _ k hk.2)) (fun k hk => hk.1)
 have sT := Kd.R_types RT HGL (by decide)
 have sE := Kd.R_types RE HGL (by decide)
 have sL := Kd.R_types RLA HGL (by decide)
 have sO := Kd.R_types RO HGL (by decide)
 have oG : ∀ k, k ≠ gl → some k ≠ (Value.slice (some ⟨gl, 0, none⟩) n n).ownBlock := fun k hk e => hk (Option.some.inj e)
 have nT := RT.1
 have nE := RE.1
 have nL := RLA.1
 have nO := RO.1
 refine ⟨vT, vE, .slice (some ⟨gl, 0, none⟩) n n, vL, vO, rfl, ?_, ?_, ?_, ?_, ?_, fset_below HB GE⟩
 ·
  exact Kd.R_mono (st sT (by decide)) (fun k hk => ⟨fun e => by have := nE k e.symm; omega, oG k hk.2, fun e => by have := nL k e.symm; omega, fun e => by have := nO k e.symm; omega⟩)
 ·
  exact Kd.R_mono (st sE (by decide)) (fun k hk => ⟨fun e => by have := nT k e.symm; omega, oG k hk.2, fun e => by have := nL k e.symm; omega, fun e => by have := nO k e.symm; omega⟩)
 ·
  refine s_mono (s_step RL (fun k _ _ hq => fset_far W gb _ _ _ _ _ _ _ _ _ _ _ _ _ _ _ k (by
   obtain ⟨q, cs, hq, hc⟩ := hq
   have hq' : q ≠ 67 := by rintro rfl; exact absurd hq (by decide)
   exact blk_ne hc BK hq'))) (fun k hk _ => ?_)
  have g1 : ∀ (u : Value), (∀ j, u.ownBlock = some j → j ≠ gl) → k = gl → some k ≠ u.ownBlock := fun u hu e1 e => hu k e.symm e1
  rcases hk with hk | hk
  ·
   exact ⟨g1 vT (fun j hj => (sT.1 j hj).2) hk, g1 vE (fun j hj => (sE.1 j hj).2) hk, g1 vL (fun j hj => (sL.1 j hj).2) hk, g1 vO (fun j hj => (sO.1 j hj).2) hk⟩
  ·
   exact ⟨fun e => by have := nT k e.symm; omega, fun e => by have := nE k e.symm; omega, fun e => by have := nL k e.symm; omega, fun e => by have := nO k e.symm; omega⟩
 ·
  exact Kd.R_mono (st sL (by decide)) (fun k hk => ⟨fun e => by have := nT k e.symm; omega, fun e => by have := nE k e.symm; omega, oG k hk.2, fun e => by have := nO k e.symm; omega⟩)
 ·
  exact Kd.R_mono (st sO (by decide)) (fun k hk => ⟨fun e => by have := nT k e.symm; omega, fun e => by have := nE k e.symm; omega, oG k hk.2, fun e => by have := nL k e.symm; omega⟩)
def bps6.T6 : Bool × List (List Nat × List Nat) := (true, [([], []), ([0], [0]), ([1], [1]), ([2], [2]), ([], []), ([4], [4]), ([5], [5]), ([6], [6]), ([], []), ([8], [8]), ([9], [9]), ([10], [10]), ([], []), ([12], [12]), ([13], [13]), ([14], [14]), ([], []), ([16], [16]), ([17], [17]), ([18], [18]), ([], []), ([20], [20]), ([21], [21]), ([22], [22]), ([3, 7, 11, 15, 19, 23], [3, 7, 11, 15, 19, 23]), ([], []), ([25, 24, 0, 1, 2, 3, 4, 5, 6, 7, 8, 9, 10, 11, 12, 13, 14, 15, 16, 17, 18, 19, 20, 21, 22, 23, 24, 25], [24, 25])])
def bps6.B6 : List Nat := [0, 1, 3, 7, 0, 16, 48, 112, 0, 256, 768, 1792, 0, 4096, 12288, 28672, 0, 65536, 196608, 458752, 0, 1048576, 3145728, 7340032, 16777215, 0, 67108863]
theorem bps6.tab6 : rtab .any (opsOf Try.f34 6) = bps6.T6 := by kernel_rfl
theorem bps6.bits6 : waitsOk bps6.T6.2 bps6.B6 = true := by kernel_rfl
set_option maxHeartbeats 8000000 in
set_option maxRecDepth 100000 in
theorem blob_Parse.go (k : Nat) (A0 : Option Addr) (c0 : Nat) (l0 : List Int) (r1 : Int) (r2 : Int) (r3 : Int) (r4 : Int) (r5 : Int) (r6 : Int) (r7 : List S115) (r8 : Int) (r9 : Int) (r10 : List Int) (r11 : List S120) (r12 : List Int) (r13 : Int) (r14 : Int) (r15 : List Int) (r16 : Int) (w : World) (hr0 : Kd.C (Kd.int .u8) w A0 l0.length l0) (hc0 : l0.length ≤ c0) (h : blob_Parse.f k l0 = some (r1, r2, r3, r4, r5, r6, r7, r8, r9, r10, r11, r12, r13, r14, r15, r16)) :
  Calls Try.prog 34 #[.slice A0 l0.length c0] w fun e w' => ParseR w w' e r1 r2 r3 r4 r5 r6 r7 r8 r9 r10 r11 r12 r13 r14 r15 r16 := by
 have hu67 := Try.underlying67
 have hu54 := Try.underlying54
 have HB := aM (Below.refl w.heap.size w)
 have HR0 := aM hr0
 have HC0 := aM hc0
 clear hr0 hc0
 obtain ⟨⟨s, e1⟩, ht, h⟩ := Option.bind_eq_some_iff.mp h
 have HT := aM ht
 clear ht
 have hsd : (s, e1).2 = e1 := rfl
 simp only at h
 clear hsd
 by_cases hz : e1 = 0
 case neg =>
  rw [if_neg hz] at h
  simp only [Option.some.injEq, Prod.mk.injEq] at h
  obtain ⟨rfl, rfl, rfl, rfl, rfl, rfl, rfl, rfl, rfl, rfl, rfl, rfl, rfl, rfl, rfl, rfl⟩ := h
  have c1 : (e1 != 0) = true := bne_iff_ne.mpr hz
  have c2 : (e1 == 0) = false := beq_eq_false_iff_ne.mpr hz
  go_enter Try.func34, Try.ntmps34
  go_wp2_with (first | ((with_reducible refine gate_dst (N := 2) rfl ?_); refine box_event ?hg (N := 2) ?hd (cs := #[.int .i64 0, .int .i64 0, .int .i64 0, .int .i64 0, .int .i64 0, .int .i64 0, .slice none 0 0, .int .i64 0, .int .i64 0, .slice none 0 0, .slice none 0 0, .slice none 0 0, .int .i64 0, .int .i64 0, .slice none 0 0]) (t := 67) ?hr ?_; (case hd => rfl); (case hg => rfl); (case hr => first | (go_simp; done) | (go_simp; rfl)); intro gb hg w1 hbox hb; have BK := aM hbox; have GE := aM ((by rw [hg]; exact below_size HB.out) : w.heap.size ≤ gb); replace HB := aM (below_step HB.out hb); clear hg hbox hb) | (go_at_call 73; (with_reducible refine (seal_Open.calls k _ _ l0 _ _ _ (Kd.C_below HR0.out HB.out) HC0.out HT.out).mono ?_); rintro e w2 ⟨v, rfl, ho, hb⟩; obtain ⟨As, cs, rfl⟩ := Kd.R_slice ho; have HS := aM (Kd.R_lower ho (below_size HB.out)); replace BK := aM (blk_below BK.out hb); replace HB := aM (below_step HB.out hb); clear hb ho; have hz2 := bx15 BK.out))
  refine bodyPost_ret (results_ct rfl _ _ gb 67 #[.int .i64 0, .int .i64 0, .int .i64 0, .int .i64 0, .int .i64 0, .int .i64 0, .slice none 0 0, .int .i64 0, .int .i64 0, .slice none 0 0, .slice none 0 0, .slice none 0 0, .int .i64 0, .int .i64 0, .slice none 0 0] (0, 0) _ rfl (zset_blk BK.out) Try.underlying67 rfl (by kernel_rfl)) rfl ?_
  exact ParseR.zero _ (zset_below HB.out GE.out)
 subst hz
 rw [if_pos rfl] at h
 by_cases h7 : s.length < 7
 case pos =>
  rw [if_pos h7] at h
  simp only [Option.some.injEq, Prod.mk.injEq] at h
  obtain ⟨rfl, rfl, rfl, rfl, rfl, rfl, rfl, rfl, rfl, rfl, rfl, rfl, rfl, rfl, rfl, rfl⟩ := h
  have d1 : decide (s.length < 7) = true := decide_eq_true h7
  have d2 : decide ((s.length : Int) < 7) = true := decide_eq_true (by omega)
  go_enter Try.func34, Try.ntmps34
  go_wp2_with (first | ((with_reducible refine gate_dst (N := 2) rfl ?_); refine box_event ?hg (N := 2) ?hd (cs := #[.int .i64 0, .int .i64 0, .int .i64 0, .int .i64 0, .int .i64 0, .int .i64 0, .slice none 0 0, .int .i64 0, .int .i64 0, .slice none 0 0, .slice none 0 0, .slice none 0 0, .int .i64 0, .int .i64 0, .slice none 0 0]) (t := 67) ?hr ?_; (case hd => rfl); (case hg => rfl); (case hr => first | (go_simp; done) | (go_simp; rfl)); intro gb hg w1 hbox hb; have BK := aM hbox; have GE := aM ((by rw [hg]; exact below_size HB.out) : w.heap.size ≤ gb); replace HB := aM (below_step HB.out hb); clear hg hbox hb) | (go_at_call 73; (with_reducible refine (seal_Open.calls k _ _ l0 _ _ _ (Kd.C_below HR0.out HB.out) HC0.out HT.out).mono ?_); rintro e w2 ⟨v, rfl, ho, hb⟩; obtain ⟨As, cs, rfl⟩ := Kd.R_slice ho; have HS := aM (Kd.R_lower ho (below_size HB.out)); replace BK := aM (blk_below BK.out hb); replace HB := aM (below_step HB.out hb); clear hb ho; have hz2 := bx15 BK.out))
  refine bodyPost_ret (results_ct rfl _ _ gb 67 #[.int .i64 0, .int .i64 0, .int .i64 0, .int .i64 0, .int .i64 0, .int .i64 0, .slice none 0 0, .int .i64 0, .int .i64 0, .slice none 0 0, .slice none 0 0, .slice none 0 0, .int .i64 0, .int .i64 0, .slice none 0 0] (0, 0) _ rfl (zset_blk BK.out) Try.underlying67 rfl (by kernel_rfl)) rfl ?_
  exact ParseR.zero 16 (zset_below HB.out GE.out)
 rw [if_neg h7] at h
 have d1 : decide (s.length < 7) = false := decide_eq_false h7
 have d2 : decide ((s.length : Int) < 7) = false := decide_eq_false (by omega)
 have H7 := aM (Nat.le_of_not_lt h7)
 obtain ⟨nb, hnb, h⟩ := Option.bind_eq_some_iff.mp h
 have HNB := aM hnb
 have HH := aM h
 clear h hnb h7
 go_enter Try.func34, Try.ntmps34
 go_upto_region 6 with (first | ((with_reducible refine gate_dst (N := 2) rfl ?_); refine box_event ?hg (N := 2) ?hd (cs := #[.int .i64 0, .int .i64 0, .int .i64 0, .int .i64 0, .int .i64 0, .int .i64 0, .slice none 0 0, .int .i64 0, .int .i64 0, .slice none 0 0, .slice none 0 0, .slice none 0 0, .int .i64 0, .int .i64 0, .slice none 0 0]) (t := 67) ?hr ?_; (case hd => rfl); (case hg => rfl); (case hr => first | (go_simp; done) | (go_simp; rfl)); intro gb hg w1 hbox hb; have BK := aM hbox; have GE := aM ((by rw [hg]; exact below_size HB.out) : w.heap.size ≤ gb); replace HB := aM (below_step HB.out hb); clear hg hbox hb) | (go_at_call 73; (with_reducible refine (seal_Open.calls k _ _ l0 _ _ _ (Kd.C_below HR0.out HB.out) HC0.out HT.out).mono ?_); rintro e w2 ⟨v, rfl, ho, hb⟩; obtain ⟨As, cs, rfl⟩ := Kd.R_slice ho; have HS := aM (Kd.R_lower ho (below_size HB.out)); replace BK := aM (blk_below BK.out hb); replace HB := aM (below_step HB.out hb); clear hb ho; have hz2 := bx15 BK.out))
 obtain ⟨gs, rfl, hx⟩ := bytes7 HS.out H7.out
 obtain ⟨b0, hb0⟩ : ∃ x_, rd s 0 = x_ := ⟨_, rfl⟩
 rw [hb0] at hx
 have y0 : ((0 : Int) < (s.length : Int)) = True := eq_true (by have := H7.out; omega)
 have z0 : (0 < s.length) = True := eq_true (by have := H7.out; omega)
 obtain ⟨b1, hb1⟩ : ∃ x_, rd s 1 = x_ := ⟨_, rfl⟩
 rw [hb1] at hx
 have y1 : ((1 : Int) < (s.length : Int)) = True := eq_true (by have := H7.out; omega)
 have z1 : (1 < s.length) = True := eq_true (by have := H7.out; omega)
 obtain ⟨b2, hb2⟩ : ∃ x_, rd s 2 = x_ := ⟨_, rfl⟩
 rw [hb2] at hx
 have y2 : ((2 : Int) < (s.length : Int)) = True := eq_true (by have := H7.out; omega)
 have z2 : (2 < s.length) = True := eq_true (by have := H7.out; omega)
 obtain ⟨b3, hb3⟩ : ∃ x_, rd s 3 = x_ := ⟨_, rfl⟩
 rw [hb3] at hx
 have y3 : ((3 : Int) < (s.length : Int)) = True := eq_true (by have := H7.out; omega)
 have z3 : (3 < s.length) = True := eq_true (by have := H7.out; omega)
 obtain ⟨b4, hb4⟩ : ∃ x_, rd s 4 = x_ := ⟨_, rfl⟩
 rw [hb4] at hx
 have y4 : ((4 : Int) < (s.length : Int)) = True := eq_true (by have := H7.out; omega)
 have z4 : (4 < s.length) = True := eq_true (by have := H7.out; omega)
 obtain ⟨b5, hb5⟩ : ∃ x_, rd s 5 = x_ := ⟨_, rfl⟩
 rw [hb5] at hx
 have y5 : ((5 : Int) < (s.length : Int)) = True := eq_true (by have := H7.out; omega)
 have z5 : (5 < s.length) = True := eq_true (by have := H7.out; omega)
 obtain ⟨b6, hb6⟩ : ∃ x_, rd s 6 = x_ := ⟨_, rfl⟩
 rw [hb6] at hx
 have y6 : ((6 : Int) < (s.length : Int)) = True := eq_true (by have := H7.out; omega)
 have z6 : (6 < s.length) = True := eq_true (by have := H7.out; omega)
 rw [hb1, hb2, hb3, hb4, hb5, hb6] at HNB HH
 rw [hb0] at HH
 clear hb0 hb1 hb2 hb3 hb4 hb5 hb6
 have HX := aM hx
 clear hx hz2
 replace BK := aM (blk_drew BK.out)
 replace HX := aM (HX.out.drew)
 replace HS := aM (Kd.R_drew HS.out)
 replace HB := aM (HB.out.drew)
 refine start_ (n := 27) (S := fun w' => w'.cell? ⟨gs, 1, none⟩ = some (.int .u8 b1) ∧ w'.cell? ⟨gs, 2, none⟩ = some (.int .u8 b2) ∧ w'.cell? ⟨gs, 3, none⟩ = some (.int .u8 b3) ∧ w'.cell? ⟨gs, 4, none⟩ = some (.int .u8 b4) ∧ w'.cell? ⟨gs, 5, none⟩ = some (.int .u8 b5) ∧ w'.cell? ⟨gs, 6, none⟩ = some (.int .u8 b6)) (ds := [26]) #[false, false, false, false, false, false, false, false, false, false, false, false, false, false, false, false, false, false, false, false, false, false, false, false, false, false, false] (by kernel_rfl) rfl rfl ⟨HX.out.2.1, HX.out.2.2.1, HX.out.2.2.2.1, HX.out.2.2.2.2.1, HX.out.2.2.2.2.2.1, HX.out.2.2.2.2.2.2⟩ (fun hHeld => ?_); refine with_tabW bps6.tab6 bps6.bits6 (fun HT_ HW_ => ?_)
 generalize w2.drew = w3 at BK HX HS HB hHeld ⊢
 refine pure_ (i := 0) (N := some 23) (v := ?_) (a' := ?_) #[true, false, false, false, false, false, false, false, false, false, false, false, false, false, false, false, false, false, false, false, false, false, false, false, false, false, false] rfl rfl (any_of HT_.out (by kernel_rfl)) (fun _ _ _ h => h) (Or.inl ⟨by rfl, ?_⟩) ?_ ?_
 rotate_left; exact pI; rotate_left; exact pS
 refine pure_ (i := 1) (N := some 24) (v := ?_) (a' := ?_) #[true, true, false, false, false, false, false, false, false, false, false, false, false, false, false, false, false, false, false, false, false, false, false, false, false, false, false] rfl rfl (any_of HT_.out (by kernel_rfl)) (fun _ _ _ h => h) (Or.inl ⟨by rfl, ?_⟩) ?_ ?_
 rotate_left; exact pI; rotate_left; exact pS
 refine pure_ (i := 4) (N := some 27) (v := ?_) (a' := ?_) #[true, true, false, false, true, false, false, false, false, false, false, false, false, false, false, false, false, false, false, false, false, false, false, false, false, false, false] rfl rfl (any_of HT_.out (by kernel_rfl)) (fun _ _ _ h => h) (Or.inl ⟨by rfl, ?_⟩) ?_ ?_
 rotate_left; exact pI; rotate_left; exact pS
 refine pure_ (i := 5) (N := some 28) (v := ?_) (a' := ?_) #[true, true, false, false, true, true, false, false, false, false, false, false, false, false, false, false, false, false, false, false, false, false, false, false, false, false, false] rfl rfl (any_of HT_.out (by kernel_rfl)) (fun _ _ _ h => h) (Or.inl ⟨by rfl, ?_⟩) ?_ ?_
 rotate_left; exact pI; rotate_left; exact pS
 refine pure_ (i := 8) (N := some 31) (v := ?_) (a' := ?_) #[true, true, false, false, true, true, false, false, true, false, false, false, false, false, false, false, false, false, false, false, false, false, false, false, false, false, false] rfl rfl (any_of HT_.out (by kernel_rfl)) (fun _ _ _ h => h) (Or.inl ⟨by rfl, ?_⟩) ?_ ?_
 rotate_left; exact pI; rotate_left; exact pS
 refine pure_ (i := 9) (N := some 32) (v := ?_) (a' := ?_) #[true, true, false, false, true, true, false, false, true, true, false, false, false, false, false, false, false, false, false, false, false, false, false, false, false, false, false] rfl rfl (any_of HT_.out (by kernel_rfl)) (fun _ _ _ h => h) (Or.inl ⟨by rfl, ?_⟩) ?_ ?_
 rotate_left; exact pI; rotate_left; exact pS
 refine pure_ (i := 12) (N := some 35) (v := ?_) (a' := ?_) #[true, true, false, false, true, true, false, false, true, true, false, false, true, false, false, false, false, false, false, false, false, false, false, false, false, false, false] rfl rfl (any_of HT_.out (by kernel_rfl)) (fun _ _ _ h => h) (Or.inl ⟨by rfl, ?_⟩) ?_ ?_
 rotate_left; exact pI; rotate_left; exact pS
 refine pure_ (i := 13) (N := some 36) (v := ?_) (a' := ?_) #[true, true, false, false, true, true, false, false, true, true, false, false, true, true, false, false, false, false, false, false, false, false, false, false, false, false, false] rfl rfl (any_of HT_.out (by kernel_rfl)) (fun _ _ _ h => h) (Or.inl ⟨by rfl, ?_⟩) ?_ ?_
 rotate_left; exact pI; rotate_left; exact pS
 refine pure_ (i := 16) (N := some 39) (v := ?_) (a' := ?_) #[true, true, false, false, true, true, false, false, true, true, false, false, true, true, false, false, true, false, false, false, false, false, false, false, false, false, false] rfl rfl (any_of HT_.out (by kernel_rfl)) (fun _ _ _ h => h) (Or.inl ⟨by rfl, ?_⟩) ?_ ?_
 rotate_left; exact pI; rotate_left; exact pS
 refine pure_ (i := 17) (N := some 40) (v := ?_) (a' := ?_) #[true, true, false, false, true, true, false, false, true, true, false, false, true, true, false, false, true, true, false, false, false, false, false, false, false, false, false] rfl rfl (any_of HT_.out (by kernel_rfl)) (fun _ _ _ h => h) (Or.inl ⟨by rfl, ?_⟩) ?_ ?_
 rotate_left; exact pI; rotate_left; exact pS
 refine pure_ (i := 20) (N := some 43) (v := ?_) (a' := ?_) #[true, true, false, false, true, true, false, false, true, true, false, false, true, true, false, false, true, true, false, false, true, false, false, false, false, false, false] rfl rfl (any_of HT_.out (by kernel_rfl)) (fun _ _ _ h => h) (Or.inl ⟨by rfl, ?_⟩) ?_ ?_
 rotate_left; exact pI; rotate_left; exact pS
 refine pure_ (i := 21) (N := some 44) (v := ?_) (a' := ?_) #[true, true, false, false, true, true, false, false, true, true, false, false, true, true, false, false, true, true, false, false, true, true, false, false, false, false, false] rfl rfl (any_of HT_.out (by kernel_rfl)) (fun _ _ _ h => h) (Or.inl ⟨by rfl, ?_⟩) ?_ ?_
 rotate_left; exact pI; rotate_left; exact pS
 refine take_ (i := 2) (N := some 25) (v := ?_) (a' := ?_) #[true, true, true, false, true, true, false, false, true, true, false, false, true, true, false, false, true, true, false, false, true, true, false, false, false, false, false] rfl rfl (take_ofW HT_.out HW_.out (by kernel_rfl)) (fun _ _ _ h => h) (Or.inl ⟨by rfl, ?_⟩) hHeld ?_ ?_
 rotate_left
 ·
  rintro w' ⟨s0, s1, s2, s3, s4, s5⟩
  go_simp
  with_reducible rfl
 rotate_left
 ·
  exact pS
 refine pure_ (i := 3) (N := some 26) (v := ?_) (a' := ?_) #[true, true, true, true, true, true, false, false, true, true, false, false, true, true, false, false, true, true, false, false, true, true, false, false, false, false, false] rfl rfl (any_of HT_.out (by kernel_rfl)) (fun _ _ _ h => h) (Or.inl ⟨by rfl, ?_⟩) ?_ ?_
 rotate_left; exact pI; rotate_left; exact pS
 refine take_ (i := 6) (N := some 29) (v := ?_) (a' := ?_) #[true, true, true, true, true, true, true, false, true, true, false, false, true, true, false, false, true, true, false, false, true, true, false, false, false, false, false] rfl rfl (take_ofW HT_.out HW_.out (by kernel_rfl)) (fun _ _ _ h => h) (Or.inl ⟨by rfl, ?_⟩) hHeld ?_ ?_
 rotate_left
 ·
  rintro w' ⟨s0, s1, s2, s3, s4, s5⟩
  go_simp
  with_reducible rfl
 rotate_left
 ·
  exact pS
 refine pure_ (i := 7) (N := some 30) (v := ?_) (a' := ?_) #[true, true, true, true, true, true, true, true, true, true, false, false, true, true, false, false, true, true, false, false, true, true, false, false, false, false, false] rfl rfl (any_of HT_.out (by kernel_rfl)) (fun _ _ _ h => h) (Or.inl ⟨by rfl, ?_⟩) ?_ ?_
 rotate_left; exact pI; rotate_left; exact pS
 refine take_ (i := 10) (N := some 33) (v := ?_) (a' := ?_) #[true, true, true, true, true, true, true, true, true, true, true, false, true, true, false, false, true, true, false, false, true, true, false, false, false, false, false] rfl rfl (take_ofW HT_.out HW_.out (by kernel_rfl)) (fun _ _ _ h => h) (Or.inl ⟨by rfl, ?_⟩) hHeld ?_ ?_
 rotate_left
 ·
  rintro w' ⟨s0, s1, s2, s3, s4, s5⟩
  go_simp
  with_reducible rfl
 rotate_left
 ·
  exact pS
 refine pure_ (i := 11) (N := some 34) (v := ?_) (a' := ?_) #[true, true, true, true, true, true, true, true, true, true, true, true, true, true, false, false, true, true, false, false, true, true, false, false, false, false, false] rfl rfl (any_of HT_.out (by kernel_rfl)) (fun _ _ _ h => h) (Or.inl ⟨by rfl, ?_⟩) ?_ ?_
 rotate_left; exact pI; rotate_left; exact pS
 refine take_ (i := 14) (N := some 37) (v := ?_) (a' := ?_) #[true, true, true, true, true, true, true, true, true, true, true, true, true, true, true, false, true, true, false, false, true, true, false, false, false, false, false] rfl rfl (take_ofW HT_.out HW_.out (by kernel_rfl)) (fun _ _ _ h => h) (Or.inl ⟨by rfl, ?_⟩) hHeld ?_ ?_
 rotate_left
 ·
  rintro w' ⟨s0, s1, s2, s3, s4, s5⟩
  go_simp
  with_reducible rfl
 rotate_left
 ·
  exact pS
 refine pure_ (i := 15) (N := some 38) (v := ?_) (a' := ?_) #[true, true, true, true, true, true, true, true, true, true, true, true, true, true, true, true, true, true, false, false, true, true, false, false, false, false, false] rfl rfl (any_of HT_.out (by kernel_rfl)) (fun _ _ _ h => h) (Or.inl ⟨by rfl, ?_⟩) ?_ ?_
 rotate_left; exact pI; rotate_left; exact pS
 refine take_ (i := 18) (N := some 41) (v := ?_) (a' := ?_) #[true, true, true, true, true, true, true, true, true, true, true, true, true, true, true, true, true, true, true, false, true, true, false, false, false, false, false] rfl rfl (take_ofW HT_.out HW_.out (by kernel_rfl)) (fun _ _ _ h => h) (Or.inl ⟨by rfl, ?_⟩) hHeld ?_ ?_
 rotate_left
 ·
  rintro w' ⟨s0, s1, s2, s3, s4, s5⟩
  go_simp
  with_reducible rfl
 rotate_left
 ·
  exact pS
 refine pure_ (i := 19) (N := some 42) (v := ?_) (a' := ?_) #[true, true, true, true, true, true, true, true, true, true, true, true, true, true, true, true, true, true, true, true, true, true, false, false, false, false, false] rfl rfl (any_of HT_.out (by kernel_rfl)) (fun _ _ _ h => h) (Or.inl ⟨by rfl, ?_⟩) ?_ ?_
 rotate_left; exact pI; rotate_left; exact pS
 refine take_ (i := 22) (N := some 45) (v := ?_) (a' := ?_) #[true, true, true, true, true, true, true, true, true, true, true, true, true, true, true, true, true, true, true, true, true, true, true, false, false, false, false] rfl rfl (take_ofW HT_.out HW_.out (by kernel_rfl)) (fun _ _ _ h => h) (Or.inl ⟨by rfl, ?_⟩) hHeld ?_ ?_
 rotate_left
 ·
  rintro w' ⟨s0, s1, s2, s3, s4, s5⟩
  go_simp
  with_reducible rfl
 rotate_left
 ·
  exact pS
 refine pure_ (i := 23) (N := some 46) (v := ?_) (a' := ?_) #[true, true, true, true, true, true, true, true, true, true, true, true, true, true, true, true, true, true, true, true, true, true, true, true, false, false, false] rfl rfl (any_of HT_.out (by kernel_rfl)) (fun _ _ _ h => h) (Or.inl ⟨by rfl, ?_⟩) ?_ ?_
 rotate_left; exact pI; rotate_left; exact pS
 refine pure_ (i := 24) (N := some 47) (v := ?_) (a' := ?_) #[true, true, true, true, true, true, true, true, true, true, true, true, true, true, true, true, true, true, true, true, true, true, true, true, true, false, false] rfl rfl (any_of HT_.out (by kernel_rfl)) (fun _ _ _ h => h) (Or.inl ⟨by rfl, ?_⟩) ?_ ?_
 rotate_left; exact pI; rotate_left; exact pS
 refine one_ (i := 25) (N := some 6) #[true, true, true, true, true, true, true, true, true, true, true, true, true, true, true, true, true, true, true, true, true, true, true, true, true, true, false] rfl rfl (one_of HT_.out (by kernel_rfl)) (by decide) (fun K hK => ?_)
 refine value_ (w1 := ?_) (v := ?_) (by rfl) rfl ?_ ?_
 rotate_left 2
 ·
  go_simp
  constructor
  ·
   rfl
  ·
   rfl
 refine hK.out _ _ ⟨(HX.out.below (below_alloc (Below.refl _ _) _)).2.1, (HX.out.below (below_alloc (Below.refl _ _) _)).2.2.1, (HX.out.below (below_alloc (Below.refl _ _) _)).2.2.2.1, (HX.out.below (below_alloc (Below.refl _ _) _)).2.2.2.2.1, (HX.out.below (below_alloc (Below.refl _ _) _)).2.2.2.2.2.1, (HX.out.below (below_alloc (Below.refl _ _) _)).2.2.2.2.2.2⟩ (fun hHeld => ?_)
 clear hK K
 refine norm_ (a' := ?_) ?_ ?_
 rotate_left
 ·
  show Act.put _ (some 6) _ = _
  simp only [Act.put, List.setIfInBounds_toArray, List.set_cons_zero, List.set_cons_succ, i64_w, i32_w, IntKind.wrap_u32]
  rfl
 refine last_ (i := 26) (N := none) #[true, true, true, true, true, true, true, true, true, true, true, true, true, true, true, true, true, true, true, true, true, true, true, true, true, true, true] rfl rfl (one_of HT_.out (by kernel_rfl)) (by decide) (fun K hK => ?_)
 refine skip_ (w1 := ?_) (by rfl) rfl ?_ ?_
 rotate_left
 ·
  go_simp
  rfl
 refine hK.out _ _ ?_
 clear hK K
 refine done_ (done_of HT_.out (by kernel_rfl)) ?_
 obtain ⟨c1, hc1⟩ : ∃ x_, wrap64 b1 = x_ := ⟨_, rfl⟩
 obtain ⟨c2, hc2⟩ : ∃ x_, wrap64 b2 = x_ := ⟨_, rfl⟩
 obtain ⟨c3, hc3⟩ : ∃ x_, wrap64 b3 = x_ := ⟨_, rfl⟩
 obtain ⟨c4, hc4⟩ : ∃ x_, wrap64 b4 = x_ := ⟨_, rfl⟩
 obtain ⟨c5, hc5⟩ : ∃ x_, wrap64 b5 = x_ := ⟨_, rfl⟩
 obtain ⟨c6, hc6⟩ : ∃ x_, wrap64 b6 = x_ := ⟨_, rfl⟩
 rw [hc1, hc2, hc3, hc4, hc5, hc6] at HNB HH ⊢
 clear hc1 hc2 hc3 hc4 hc5 hc6
 have h_new := blk_new w3 (.cells #[.int .i64 c1, .int .i64 c2, .int .i64 c3, .int .i64 c4, .int .i64 c5, .int .i64 c6] 54)
 have h_al := below_alloc (Below.refl w3.heap.size w3) (.cells #[.int .i64 c1, .int .i64 c2, .int .i64 c3, .int .i64 c4, .int .i64 c5, .int .i64 c6] 54)
 obtain ⟨gc, hg_⟩ : ∃ g_, g_ = w3.heap.size := ⟨_, rfl⟩
 have GC_ge : w.heap.size ≤ gc := by rw [hg_]; exact below_size HB.out
 rw [← hg_] at h_new ⊢
 have GC := aM h_new
 replace BK := aM (blk_below BK.out h_al)
 replace HS := aM (Kd.R_below HS.out h_al)
 replace HX := aM (HX.out.below h_al)
 replace HB := aM (below_step HB.out h_al)
 clear h_new h_al hg_
 generalize w3.alloc (.cells #[.int .i64 c1, .int .i64 c2, .int .i64 c3, .int .i64 c4, .int .i64 c5, .int .i64 c6] 54) = w4 at GC BK HS HX HB ⊢
 clear GC_ge
 have hzc := bx6 GC.out
 go_upto_region 8 with (go_at_call 25; (with_reducible refine (blob_Config_Numbers.calls c1 c2 c3 c4 c5 c6 _ _ HNB.out).mono ?_); rintro e w5 ⟨rfl, hb⟩; replace BK := aM (blk_below BK.out hb); replace HS := aM (Kd.R_below HS.out hb); replace HX := aM (HX.out.below hb); replace GC := aM (blk_below GC.out hb); replace HB := aM (below_step HB.out hb); clear hb hzc)
 obtain ⟨sz, hsz⟩ : ∃ x_, wrap64 (wrap64 (7 + wrap64 (4 * nb)) + 4) = x_ := ⟨_, rfl⟩
 rw [hsz] at HH ⊢
 clear hsz
 have hx0 := HX.out.1
 have hz2 := bx15 BK.out
 have hzc := bx6 GC.out
 have h := HH.out
 by_cases h87 : b0 = 87
 case neg =>
  rw [if_neg h87] at h
  simp only [Option.some.injEq, Prod.mk.injEq] at h
  obtain ⟨rfl, rfl, rfl, rfl, rfl, rfl, rfl, rfl, rfl, rfl, rfl, rfl, rfl, rfl, rfl, rfl⟩ := h
  have g1 : (b0 != 87) = true := bne_iff_ne.mpr h87
  clear HH HNB
  go_wp2
  refine bodyPost_ret (results_ct rfl _ _ gb 67 #[.int .i64 0, .int .i64 0, .int .i64 0, .int .i64 0, .int .i64 0, .int .i64 0, .slice none 0 0, .int .i64 0, .int .i64 0, .slice none 0 0, .slice none 0 0, .slice none 0 0, .int .i64 0, .int .i64 0, .slice none 0 0] (0, 0) _ rfl (zset_blk BK.out) Try.underlying67 rfl (by kernel_rfl)) rfl ?_
  exact ParseR.zero 10 (zset_below HB.out GE.out)
 rw [if_pos h87] at h
 have g1 : (b0 != 87) = false := bne_eq_false_iff_eq.mpr h87
 obtain ⟨okb, hokb, h⟩ := Option.bind_eq_some_iff.mp h
 have HOK := aM hokb
 clear hokb h87 HH
 cases okb with
 | false =>
  rw [if_neg (by decide)] at h
  simp only [Option.some.injEq, Prod.mk.injEq] at h
  obtain ⟨rfl, rfl, rfl, rfl, rfl, rfl, rfl, rfl, rfl, rfl, rfl, rfl, rfl, rfl, rfl, rfl⟩ := h
  go_wp2_with (go_at_call 24; (with_reducible refine (blob_Config_Right.calls c1 c2 c3 c4 c5 c6 _ _ HOK.out).mono ?_); rintro e w6 ⟨rfl, hb⟩; replace BK := aM (blk_below BK.out hb); replace HS := aM (Kd.R_below HS.out hb); replace HX := aM (HX.out.below hb); replace GC := aM (blk_below GC.out hb); replace HB := aM (below_step HB.out hb); clear hb hzc hz2 hx0; have hz2 := bx15 BK.out; have hzc := bx6 GC.out)
  refine bodyPost_ret (results_ct rfl _ _ gb 67 #[.int .i64 0, .int .i64 0, .int .i64 0, .int .i64 0, .int .i64 0, .int .i64 0, .slice none 0 0, .int .i64 0, .int .i64 0, .slice none 0 0, .slice none 0 0, .slice none 0 0, .int .i64 0, .int .i64 0, .slice none 0 0] (0, 0) _ rfl (zset_blk BK.out) Try.underlying67 rfl (by kernel_rfl)) rfl ?_
  exact ParseR.zero 11 (zset_below HB.out GE.out)
 | true =>
  rw [if_pos rfl] at h
  by_cases hs1 : (l0.length : Int) < sz
  case pos =>
   rw [if_pos hs1] at h
   simp only [Option.some.injEq, Prod.mk.injEq] at h
   obtain ⟨rfl, rfl, rfl, rfl, rfl, rfl, rfl, rfl, rfl, rfl, rfl, rfl, rfl, rfl, rfl, rfl⟩ := h
   have g2 : decide ((l0.length : Int) < sz) = true := decide_eq_true hs1
   go_wp2_with (go_at_call 24; (with_reducible refine (blob_Config_Right.calls c1 c2 c3 c4 c5 c6 _ _ HOK.out).mono ?_); rintro e w6 ⟨rfl, hb⟩; replace BK := aM (blk_below BK.out hb); replace HS := aM (Kd.R_below HS.out hb); replace HX := aM (HX.out.below hb); replace GC := aM (blk_below GC.out hb); replace HB := aM (below_step HB.out hb); clear hb hzc hz2 hx0; have hz2 := bx15 BK.out; have hzc := bx6 GC.out)
   refine bodyPost_ret (results_ct rfl _ _ gb 67 #[.int .i64 0, .int .i64 0, .int .i64 0, .int .i64 0, .int .i64 0, .int .i64 0, .slice none 0 0, .int .i64 0, .int .i64 0, .slice none 0 0, .slice none 0 0, .slice none 0 0, .int .i64 0, .int .i64 0, .slice none 0 0] (0, 0) _ rfl (zset_blk BK.out) Try.underlying67 rfl (by kernel_rfl)) rfl ?_
   exact ParseR.zero 16 (zset_below HB.out GE.out)
  rw [if_neg hs1] at h
  have g2 : decide ((l0.length : Int) < sz) = false := decide_eq_false hs1
  by_cases hs2 : sz < (l0.length : Int)
  case pos =>
   rw [if_pos hs2] at h
   simp only [Option.some.injEq, Prod.mk.injEq] at h
   obtain ⟨rfl, rfl, rfl, rfl, rfl, rfl, rfl, rfl, rfl, rfl, rfl, rfl, rfl, rfl, rfl, rfl⟩ := h
   have g3 : decide (sz < (l0.length : Int)) = true := decide_eq_true hs2
   go_wp2_with (go_at_call 24; (with_reducible refine (blob_Config_Right.calls c1 c2 c3 c4 c5 c6 _ _ HOK.out).mono ?_); rintro e w6 ⟨rfl, hb⟩; replace BK := aM (blk_below BK.out hb); replace HS := aM (Kd.R_below HS.out hb); replace HX := aM (HX.out.below hb); replace GC := aM (blk_below GC.out hb); replace HB := aM (below_step HB.out hb); clear hb hzc hz2 hx0; have hz2 := bx15 BK.out; have hzc := bx6 GC.out)
   refine bodyPost_ret (results_ct rfl _ _ gb 67 #[.int .i64 0, .int .i64 0, .int .i64 0, .int .i64 0, .int .i64 0, .int .i64 0, .slice none 0 0, .int .i64 0, .int .i64 0, .slice none 0 0, .slice none 0 0, .slice none 0 0, .int .i64 0, .int .i64 0, .slice none 0 0] (0, 0) _ rfl (zset_blk BK.out) Try.underlying67 rfl (by kernel_rfl)) rfl ?_
   exact ParseR.zero 17 (zset_below HB.out GE.out)
  rw [if_neg hs2] at h
  have g3 : decide (sz < (l0.length : Int)) = false := decide_eq_false hs2
  have HH := aM h
  clear h hs1 hs2
  go_upto_region 17 with (go_at_call 24; (with_reducible refine (blob_Config_Right.calls c1 c2 c3 c4 c5 c6 _ _ HOK.out).mono ?_); rintro e w6 ⟨rfl, hb⟩; replace BK := aM (blk_below BK.out hb); replace HS := aM (Kd.R_below HS.out hb); replace HX := aM (HX.out.below hb); replace GC := aM (blk_below GC.out hb); replace HB := aM (below_step HB.out hb); clear hb hzc hz2 hx0; have hz2 := bx15 BK.out; have hzc := bx6 GC.out)
  clear hz2 hzc
  have hgbl := blk_lt BK.out
  have h_new := blk_new w6 (.cells #[.int .i64 c1, .int .i64 c2, .int .i64 c3, .int .i64 c4, .int .i64 c5, .int .i64 c6, .slice none 0 0, .int .i64 0, .int .i64 0, .slice none 0 0, .slice none 0 0, .slice none 0 0, .int .i64 0, .int .i64 0, .slice none 0 0] 67)
  have h_al := below_alloc (Below.refl w6.heap.size w6) (.cells #[.int .i64 c1, .int .i64 c2, .int .i64 c3, .int .i64 c4, .int .i64 c5, .int .i64 c6, .slice none 0 0, .int .i64 0, .int .i64 0, .slice none 0 0, .slice none 0 0, .slice none 0 0, .int .i64 0, .int .i64 0, .slice none 0 0] 67)
  obtain ⟨go, hg_⟩ : ∃ g_, g_ = w6.heap.size := ⟨_, rfl⟩
  have OB_ge : w.heap.size ≤ go := by rw [hg_]; exact below_size HB.out
  have NEB0 : gb ≠ go := by rw [hg_]; omega
  rw [← hg_] at h_new ⊢
  have OB := aM h_new
  replace BK := aM (blk_below BK.out h_al)
  replace HS := aM (Kd.R_below HS.out h_al)
  replace HB := aM (below_step HB.out h_al)
  clear h_new h_al hg_
  generalize w6.alloc (.cells #[.int .i64 c1, .int .i64 c2, .int .i64 c3, .int .i64 c4, .int .i64 c5, .int .i64 c6, .slice none 0 0, .int .i64 0, .int .i64 0, .slice none 0 0, .slice none 0 0, .slice none 0 0, .int .i64 0, .int .i64 0, .slice none 0 0] 67) = w7 at OB BK HS HB ⊢
  clear hgbl
  have GO := aM OB_ge
  have NEB : Aside0 (gb ≠ go) := ⟨NEB0⟩
  clear OB_ge HX GC NEB0
  obtain ⟨⟨lr, sr⟩, hnr, h⟩ := Option.bind_eq_some_iff.mp HH.out
  have HNR := aM hnr
  have h := h
  simp only at h
  replace HH := aM h
  clear h hnr
  have h := HH.out
  clear HH
  by_cases hgd : (1 ≤ c1 ∧ c1 ≤ 4) ∧ (0 ≤ c4 ∧ c4 ≤ 16) ∧ (0 ≤ c2 * c4 ∧ c2 * c4 ≤ 64) ∧ (0 ≤ c3 * c4 ∧ c3 * c4 ≤ 64) ∧ (0 ≤ c5 ∧ c5 ≤ 64) ∧ (0 ≤ c6 ∧ c6 ≤ 64)
  case neg => (rw [if_neg hgd] at h; cases h)
  rw [if_pos hgd] at h
  obtain ⟨⟨ha1, ha2⟩, ⟨hb1, hb2⟩, ⟨hw1, hw2⟩, ⟨hk1, hk2⟩, ⟨hq1, hq2⟩, ⟨hv1, hv2⟩⟩ := hgd
  obtain ⟨n, rfl⟩ := Int.eq_ofNat_of_zero_le (show 0 ≤ c1 by omega)
  obtain ⟨qq, rfl⟩ := Int.eq_ofNat_of_zero_le hq1
  obtain ⟨vv, rfl⟩ := Int.eq_ofNat_of_zero_le hv1
  obtain ⟨ww, hww⟩ := Int.eq_ofNat_of_zero_le hw1
  obtain ⟨kk, hkk⟩ := Int.eq_ofNat_of_zero_le hk1
  rw [hww] at hw2
  rw [hkk] at hk2
  rw [hww, hkk, Int.toNat_natCast] at h
  obtain ⟨d, hd⟩ : ∃ d_, (c4 / 2).toNat = d_ := ⟨_, rfl⟩
  rw [hd] at h
  have HD : Aside0 (wrap64 (Int.tdiv c4 2) = (d : Int) ∧ d ≤ 8) := ⟨by rw [Int.tdiv_eq_ediv_of_nonneg hb1]; simp only [wrap64]; omega⟩
  have HW : Aside0 (wrap64 (c2 * c4) = (ww : Int)) := ⟨by rw [hww]; simp only [wrap64]; omega⟩
  have HK : Aside0 (wrap64 (c3 * c4) = (kk : Int)) := ⟨by rw [hkk]; simp only [wrap64]; omega⟩
  have HSM : Aside0 (ww ≤ 64 ∧ kk ≤ 64 ∧ qq ≤ 64 ∧ vv ≤ 64) := ⟨by omega⟩
  have HN : Aside0 (1 ≤ n ∧ n ≤ 4) := ⟨by omega⟩
  clear ha1 ha2 hb1 hb2 hw1 hw2 hk1 hk2 hq1 hq2 hv1 hv2 hd
  obtain ⟨⟨T, l1, s1⟩, hT, h⟩ := Option.bind_eq_some_iff.mp h
  obtain ⟨⟨nums, l2, s2⟩, hP, h⟩ := Option.bind_eq_some_iff.mp h
  obtain ⟨er, hE, h⟩ := Option.bind_eq_some_iff.mp h
  simp only at hT hP hE h
  have HTT := aM hT
  have HPP := aM hP
  have HHF := aM h
  have HEE := aM hE
  clear hT hP hE h
  have cut := cut_from (P := Try.prog) 32 5 .i64 Try.underlying32 rfl 1 rfl (some ⟨gs, 0, none⟩) s.length cs 7 (by decide) (by have := H7.out; omega)
  have hle := (Kd.R_reads' HS.out).2.1
  obtain ⟨l7, hl7⟩ : ∃ x_, s.drop 7 = x_ := ⟨_, rfl⟩
  have hc7 := Kd.C_drop (m := 7) (Kd.R_reads' HS.out).2.2 H7.out hle
  rw [hl7] at hc7
  have hnr := HNR.out
  rw [hl7] at hnr
  replace HNR := aM hnr
  have hlen : s.length - 7 = l7.length := by rw [← hl7, List.length_drop]
  obtain ⟨A7, hA7⟩ : ∃ x_, (if cs = 7 then (some ⟨gs, 0, none⟩ : Option Addr) else (some ⟨gs, 0, none⟩ : Option Addr).map (·.add (7 * 1))) = x_ := ⟨_, rfl⟩
  have cut2 : ∀ W : World, (Instr.slice 32 (.slice (some ⟨gs, 0, none⟩) s.length cs) (some (.int .i64 7)) none none).run Try.prog W = .ok (.slice A7 l7.length (cs - 7)) W := fun W => by rw [← hA7, ← hlen]; exact cut W
  have HC7 : Aside0 (Kd.C (Kd.int .u8) w7 A7 l7.length l7) := ⟨by rw [← hA7]; exact hc7⟩
  have HL7 : Aside0 (l7.length ≤ cs - 7) := ⟨by omega⟩
  clear cut hle hl7 hc7 hnr hlen hA7
  go_upto_region 18 with (first | (go_at_call 45; (with_reducible refine (seal_NewReader.calls A7 _ l7 lr sr w _ HB.out HC7.out HL7.out HNR.out).mono ?_); rintro e w8 ⟨gr, rfl, hi, hb1, hb2⟩; have I := aM hi; replace BK := aM (blk_below BK.out hb2); replace OB := aM (blk_below OB.out hb2); replace HB := aM hb1; clear hi hb1 hb2 HC7 HS) | (go_at_call 74; (with_reducible refine (bread.calls k go gb gr n d ww kk qq vv c2 c3 c4 lr l1 l2 sr s1 s2 T nums w _ OB.out I.out HB.out GO.out _ BK.out NEB.out HN.out HD.out.1 HD.out.2 HW.out HK.out HSM.out HTT.out HPP.out).mono ?_); rintro e w9 ⟨rfl, hrd, hx⟩; have RR := aM hrd; replace BK := aM hx; clear hrd hx I OB HB))
  obtain ⟨own, gl, bs, cz, vT, Vs, hRD, hBB⟩ := RR.out
  have HB := aM hBB
  have hnl : nums.length = 9 * n + 3 := rdP_len HPP.out
  obtain ⟨vE, vL, vO, hcell, rE, rL, rO⟩ := hRD.cells hnl
  have RL := aM (hRD.layers hnl (by have := HN.out; omega))
  have HGL := aM hRD.hl
  obtain ⟨AT, cT, rfl⟩ := Kd.R_slice hRD.tr
  obtain ⟨AE, cE, rfl⟩ := Kd.R_slice rE
  obtain ⟨AL, cL, rfl⟩ := Kd.R_slice rL
  obtain ⟨AO, cO, rfl⟩ := Kd.R_slice rO
  have RT := aM hRD.tr
  have RE := aM rE
  have RLA := aM rL
  have RO := aM rO
  obtain ⟨lE, hlE⟩ : ∃ x_, nums.getD 0 [] = x_ := ⟨_, rfl⟩
  obtain ⟨lL, hlL⟩ : ∃ x_, nums.getD (9 * n + 1) [] = x_ := ⟨_, rfl⟩
  obtain ⟨lO, hlO⟩ : ∃ x_, nums.getD (9 * n + 2) [] = x_ := ⟨_, rfl⟩
  obtain ⟨LY, hLY⟩ : ∃ x_, (List.range n).map (layOf (ww : Int) (kk : Int) (qq : Int) nums) = x_ := ⟨_, rfl⟩
  have HLY : Aside0 (LY.length = n) := ⟨by rw [← hLY]; simp⟩
  rw [hlE] at RE HEE HHF hcell
  rw [hlL] at RLA HEE HHF hcell
  rw [hlO] at RO HEE HHF hcell
  rw [hLY] at RL HEE HHF
  have OB : Aside0 (w9.heap[go]? = some (.cells #[.int .i64 (n : Int), .int .i64 c2, .int .i64 c3, .int .i64 c4, .int .i64 (qq : Int), .int .i64 (vv : Int), .slice AT T.length cT, .int .i64 (vv : Int), .int .i64 (ww : Int), .slice AE lE.length cE, .slice (some ⟨gl, 0, none⟩) n n, .slice AL lL.length cL, .int .i64 (vv : Int), .int .i64 (ww : Int), .slice AO lO.length cO] 67 (0, 0))) := ⟨hcell⟩
  clear hcell hRD hBB hnl rE rL rO hlE hlL hlO hLY RR
  have hz9 := bx15 OB.out
  have hz2 := bx15 BK.out
  have h := HHF.out
  clear HHF
  by_cases he0 : er = 0
  case neg =>
   rw [if_neg he0] at h
   simp only [Option.some.injEq, Prod.mk.injEq] at h
   obtain ⟨rfl, rfl, rfl, rfl, rfl, rfl, rfl, rfl, rfl, rfl, rfl, rfl, rfl, rfl, rfl, rfl⟩ := h
   have g4 : (er != 0) = true := bne_iff_ne.mpr he0
   have g5 : (er == 0) = false := beq_eq_false_iff_ne.mpr he0
   go_wp2_with (go_at_call 33; (with_reducible refine (blob_Right.callsN k n (n : Int) c2 c3 c4 (qq : Int) (vv : Int) AT cT T (vv : Int) (ww : Int) AE cE lE (some ⟨gl, 0, none⟩) n LY AL cL lL (vv : Int) (ww : Int) AO cO lO _ _ HLY.out (Kd.R_reads' RT.out).2.2 (Kd.R_reads' RT.out).2.1 (Kd.R_reads' RE.out).2.2 (Kd.R_reads' RE.out).2.1 (Kd.R_reads' (Kd.S_R RL.out)).2.2 (Nat.le_of_eq HLY.out) (Kd.R_reads' RLA.out).2.2 (Kd.R_reads' RLA.out).2.1 (Kd.R_reads' RO.out).2.2 (Kd.R_reads' RO.out).2.1 HEE.out).mono ?_); rintro e w10 ⟨rfl, hb⟩; replace RT := aM (Kd.R_below RT.out hb); replace RE := aM (Kd.R_below RE.out hb); replace RLA := aM (Kd.R_below RLA.out hb); replace RO := aM (Kd.R_below RO.out hb); replace RL := aM (s_below RL.out hb); replace OB := aM (blk_below OB.out hb); replace BK := aM (blk_below BK.out hb); replace HGL := aM (blk_below HGL.out hb); replace HB := aM (below_step HB.out hb); clear hb hz9 hz2; have hz9 := bx15 OB.out; have hz2 := bx15 BK.out)
   refine bodyPost_ret (results_ct rfl _ _ gb 67 #[.int .i64 0, .int .i64 0, .int .i64 0, .int .i64 0, .int .i64 0, .int .i64 0, .slice none 0 0, .int .i64 0, .int .i64 0, .slice none 0 0, .slice none 0 0, .slice none 0 0, .int .i64 0, .int .i64 0, .slice none 0 0] (0, 0) _ rfl (zset_blk BK.out) Try.underlying67 rfl (by kernel_rfl)) rfl ?_
   exact ParseR.zero _ (zset_below HB.out GE.out)
  rw [if_pos he0] at h
  simp only [Option.some.injEq, Prod.mk.injEq] at h
  obtain ⟨rfl, rfl, rfl, rfl, rfl, rfl, rfl, rfl, rfl, rfl, rfl, rfl, rfl, rfl, rfl, rfl⟩ := h
  subst he0
  go_wp2_with (go_at_call 33; (with_reducible refine (blob_Right.callsN k n (n : Int) c2 c3 c4 (qq : Int) (vv : Int) AT cT T (vv : Int) (ww : Int) AE cE lE (some ⟨gl, 0, none⟩) n LY AL cL lL (vv : Int) (ww : Int) AO cO lO _ _ HLY.out (Kd.R_reads' RT.out).2.2 (Kd.R_reads' RT.out).2.1 (Kd.R_reads' RE.out).2.2 (Kd.R_reads' RE.out).2.1 (Kd.R_reads' (Kd.S_R RL.out)).2.2 (Nat.le_of_eq HLY.out) (Kd.R_reads' RLA.out).2.2 (Kd.R_reads' RLA.out).2.1 (Kd.R_reads' RO.out).2.2 (Kd.R_reads' RO.out).2.1 HEE.out).mono ?_); rintro e w10 ⟨rfl, hb⟩; replace RT := aM (Kd.R_below RT.out hb); replace RE := aM (Kd.R_below RE.out hb); replace RLA := aM (Kd.R_below RLA.out hb); replace RO := aM (Kd.R_below RO.out hb); replace RL := aM (s_below RL.out hb); replace OB := aM (blk_below OB.out hb); replace BK := aM (blk_below BK.out hb); replace HGL := aM (blk_below HGL.out hb); replace HB := aM (below_step HB.out hb); clear hb hz9 hz2; have hz9 := bx15 OB.out; have hz2 := bx15 BK.out)
  refine bodyPost_ret (results_ct rfl _ _ gb 67 #[.int .i64 (n : Int), .int .i64 c2, .int .i64 c3, .int .i64 c4, .int .i64 (qq : Int), .int .i64 (vv : Int), .slice AT T.length cT, .int .i64 (vv : Int), .int .i64 (ww : Int), .slice AE lE.length cE, .slice (some ⟨gl, 0, none⟩) n n, .slice AL lL.length cL, .int .i64 (vv : Int), .int .i64 (ww : Int), .slice AO lO.length cO] (0, 0) _ rfl (fset_blk BK.out) Try.underlying67 rfl (by kernel_rfl)) rfl ?_
  exact ParseR.full RT.out RE.out RLA.out RO.out RL.out HGL.out BK.out HB.out GE.out HN.out.1
theorem blob_Parse.calls (k : Nat) (A0 : Option Addr) (c0 : Nat) (l0 : List Int) (r1 : Int) (r2 : Int) (r3 : Int) (r4 : Int) (r5 : Int) (r6 : Int) (r7 : List S115) (r8 : Int) (r9 : Int) (r10 : List Int) (r11 : List S120) (r12 : List Int) (r13 : Int) (r14 : Int) (r15 : List Int) (r16 : Int) (w : World) (hr0 : Kd.C (Kd.int .u8) w A0 l0.length l0) (hc0 : l0.length ≤ c0) (h : blob_Parse.f k l0 = some (r1, r2, r3, r4, r5, r6, r7, r8, r9, r10, r11, r12, r13, r14, r15, r16)) :
  Calls Try.prog 34 #[.slice A0 l0.length c0] w fun e w' => ∃ v7_ v10_ v11_ v12_ v15_ : Value, e = .returned (.tuple #[.agg #[.int .i64 r1, .int .i64 r2, .int .i64 r3, .int .i64 r4, .int .i64 r5, .int .i64 r6, v7_, .int .i64 r8, .int .i64 r9, v10_, v11_, v12_, .int .i64 r13, .int .i64 r14, v15_], .int .i64 r16]) ∧ Kd.R k115 115 w' w.heap.size (fun k_ => some k_ ≠ (v10_ : Value).ownBlock ∧ some k_ ≠ (v11_ : Value).ownBlock ∧ some k_ ≠ (v12_ : Value).ownBlock ∧ some k_ ≠ (v15_ : Value).ownBlock) v7_ r7 ∧ Kd.R (Kd.int .i32) 21 w' w.heap.size (fun k_ => some k_ ≠ (v7_ : Value).ownBlock ∧ some k_ ≠ (v11_ : Value).ownBlock ∧ some k_ ≠ (v12_ : Value).ownBlock ∧ some k_ ≠ (v15_ : Value).ownBlock) v10_ r10 ∧ Kd.S k120 120 w' w.heap.size (fun k_ => some k_ ≠ (v7_ : Value).ownBlock ∧ some k_ ≠ (v10_ : Value).ownBlock ∧ some k_ ≠ (v12_ : Value).ownBlock ∧ some k_ ≠ (v15_ : Value).ownBlock) v11_ r11 ∧ Kd.R (Kd.int .i32) 21 w' w.heap.size (fun k_ => some k_ ≠ (v7_ : Value).ownBlock ∧ some k_ ≠ (v10_ : Value).ownBlock ∧ some k_ ≠ (v11_ : Value).ownBlock ∧ some k_ ≠ (v15_ : Value).ownBlock) v12_ r12 ∧ Kd.R (Kd.int .i32) 21 w' w.heap.size (fun k_ => some k_ ≠ (v7_ : Value).ownBlock ∧ some k_ ≠ (v10_ : Value).ownBlock ∧ some k_ ≠ (v11_ : Value).ownBlock ∧ some k_ ≠ (v12_ : Value).ownBlock) v15_ r15 ∧ Below w.heap.size w w' := blob_Parse.go k A0 c0 l0 r1 r2 r3 r4 r5 r6 r7 r8 r9 r10 r11 r12 r13 r14 r15 r16 w hr0 hc0 h
-- calls: blob_Blob_read seal_Open seal_NewReader

/-! ### rope_Turn_76: function 76 -/
def rope_Turn_76.l0 : Nat → List (S115) → List (S115) → Int → Int → Option (Bool)
 | 0, _, _, _, _ => none
 | k + 1, x0, x1, x12, x13 => if x13 < x12 then (if 0 ≤ x13 then (if x13 < (x0.length : Int) then (if x13 < (x1.length : Int) then (if (!(((rd_T115 x0 x13).f0) == ((rd_T115 x1 x13).f0)) || (!(((rd_T115 x0 x13).f1) == ((rd_T115 x1 x13).f1)))) = true then (some false) else (rope_Turn_76.l0 k x0 x1 x12 (wrap64 (x13 + 1)))) else (none)) else (none)) else (none)) else (some true)
def rope_Turn_76.f (k : Nat) (l0 : List (S115)) (l1 : List (S115)) : Option (Bool) := if (l0.length : Int) = (l1.length : Int) then (rope_Turn_76.l0 k l0 l1 (l0.length : Int) 0) else (some false)
theorem rope_Turn_76.mono_l : ∀ k, (∀ y0 y1 y2 y3, LeO (rope_Turn_76.l0 k y0 y1 y2 y3) (rope_Turn_76.l0 (k + 1) y0 y1 y2 y3))
 | 0 => fun _ _ _ _ r h => by simp [rope_Turn_76.l0] at h
 | k + 1 => by
  have ih0 := rope_Turn_76.mono_l k
  ·
   intro y0 y1 y2 y3
   unfold rope_Turn_76.l0
   repeat' first
   | (with_reducible exact ih0 _ _ _ _)
   | (with_reducible exact LeO.refl _)
   | (with_reducible exact LeO.none _)
   | (with_reducible refine LeO.ite ?_ ?_)
   | (with_reducible refine LeO.bind ?_ (fun _ => ?_))
   | exact ih0 _ _ _ _
   | exact LeO.none _
   | refine LeO.ite ?_ ?_
   | refine LeO.bind ?_ (fun _ => ?_)
theorem rope_Turn_76.mono : ∀ a0 a1 k, LeO (rope_Turn_76.f k a0 a1) (rope_Turn_76.f (k + 1) a0 a1) := by
 intro a0 a1 k
 have ih0 := rope_Turn_76.mono_l k
 unfold rope_Turn_76.f
 repeat' first
   | (with_reducible exact ih0 _ _ _ _)
   | (with_reducible exact LeO.refl _)
   | (with_reducible exact LeO.none _)
   | (with_reducible refine LeO.ite ?_ ?_)
   | (with_reducible refine LeO.bind ?_ (fun _ => ?_))
   | exact ih0 _ _ _ _
   | exact LeO.none _
   | refine LeO.ite ?_ ?_
   | refine LeO.bind ?_ (fun _ => ?_)
set_option maxHeartbeats 8000000 in
set_option maxRecDepth 100000 in
theorem rope_Turn_76.calls (k : Nat) (A0 : Option Addr) (c0 : Nat) (l0 : List (S115)) (A1 : Option Addr) (c1 : Nat) (l1 : List (S115)) (r : Bool) (w : World) (hr0 : Kd.C k115 w A0 l0.length l0) (hc0 : l0.length ≤ c0) (hr1 : Kd.C k115 w A1 l1.length l1) (hc1 : l1.length ≤ c1) (h : rope_Turn_76.f k l0 l1 = some r) :
  Calls Try.prog 76 #[.slice A0 l0.length c0, .slice A1 l1.length c1] w fun e w' => e = .returned (.bool r) ∧ Drawn0 w w' := by
 have hu115 := Try.underlying115
 have HR0 := Aside0.mk hr0
 have HC0 := Aside0.mk hc0
 clear hr0 hc0
 have HR1 := Aside0.mk hr1
 have HC1 := Aside0.mk hc1
 clear hr1 hc1
 have H : (if (l0.length : Int) = (l1.length : Int) then (rope_Turn_76.l0 k l0 l1 (l0.length : Int) 0) else (some false)) = some r := h
 clear h
 by_cases c3 : (l0.length : Int) = (l1.length : Int)
 ·
  rw [if_pos c3] at H
  have c3b0 : ((l0.length : Int) == (l1.length : Int)) = true := beq_iff_eq.mpr c3
  have c3b1 : ((l0.length : Int) != (l1.length : Int)) = false := bne_eq_false_iff_eq.mpr c3
  have c3b2 : (l0.length == l1.length) = true := by first | simpa using c3 | (simp at c3 ⊢; omega)
  clear c3
  have H' := Aside0.mk H
  clear H
  go_enter Try.func76, Try.ntmps76
  go_wp2
  repeat (go_quiet (fail); try go_wp2)
  go_loopg [13] k (fun kq v13 w' => ∃ (x13_1 : Int), v13 = .int .i64 x13_1 ∧ Aside0 (rope_Turn_76.l0 kq l0 l1 (l0.length : Int) x13_1 = some r) ∧ Aside0 (kq ≤ k) ∧ Drawn0 w w')
  case atStart => exact ⟨(0), (by first | rfl | (simp; done) | (simp [*]; done)), H', ⟨Nat.le_refl _⟩, by repeat (first | exact Drawn0.refl _ | apply Drawn0.step)⟩
  case round =>
   clear H'
   try clear c1
   try clear p2
   try clear c3
   try clear c3b0
   try clear c3b1
   try clear c3b2
   obtain ⟨x13_1, rfl, HA, HK1, ⟨m1, rfl⟩⟩ := hrel
   cases gk with
   | zero => exact absurd HA.out (by simp [rope_Turn_76.l0])
   | succ k1 =>
    have H := HA.out
    clear HA
    simp only [rope_Turn_76.l0] at H
    by_cases c4 : x13_1 < (l0.length : Int)
    ·
     rw [if_pos c4] at H
     have c4b0 : decide (x13_1 < (l0.length : Int)) = true := decide_eq_true c4
     clear c4
     by_cases c5 : 0 ≤ x13_1
     case neg => (rw [if_neg c5] at H; exact absurd H (by simp))
     rw [if_pos c5] at H
     have c5b0 : decide (0 ≤ x13_1) = true := decide_eq_true c5
     clear c5
     by_cases c6 : x13_1 < (l0.length : Int)
     case neg => (rw [if_neg c6] at H; exact absurd H (by simp))
     rw [if_pos c6] at H
     have c6b0 : decide (x13_1 < (l0.length : Int)) = true := decide_eq_true c6
     clear c6
     by_cases c7 : x13_1 < (l1.length : Int)
     case neg => (rw [if_neg c7] at H; exact absurd H (by simp))
     rw [if_pos c7] at H
     have c7b0 : decide (x13_1 < (l1.length : Int)) = true := decide_eq_true c7
     clear c7
     by_cases c8 : (!(((rd_T115 l0 x13_1).f0) == ((rd_T115 l1 x13_1).f0)) || (!(((rd_T115 l0 x13_1).f1) == ((rd_T115 l1 x13_1).f1)))) = true
     ·
      rw [if_pos c8] at H
      have c8b0 : (!(((rd_T115 l0 x13_1).f0) == ((rd_T115 l1 x13_1).f0)) || (!(((rd_T115 l0 x13_1).f1) == ((rd_T115 l1 x13_1).f1)))) = true := c8
      clear c8
      obtain rfl := Option.some.inj H
      have p143 : 0 ≤ (x13_1 : Int) := of_decide_eq_true (by first | (with_reducible assumption) | assumption)
      have q143 : x13_1 < (l0.length : Int) := of_decide_eq_true (by first | (with_reducible assumption) | assumption)
      obtain ⟨ad143, e143, hx143_0, hx143_1⟩ := at_T115 HR0.out x13_1 p143 q143
      cases e143
      replace p143 := eq_true p143
      replace q143 := eq_true q143
      have p144 : 0 ≤ (x13_1 : Int) := of_decide_eq_true (by first | (with_reducible assumption) | assumption)
      have q144 : x13_1 < (l1.length : Int) := of_decide_eq_true (by first | (with_reducible assumption) | assumption)
      obtain ⟨ad144, e144, hx144_0, hx144_1⟩ := at_T115 HR1.out x13_1 p144 q144
      cases e144
      replace p144 := eq_true p144
      replace q144 := eq_true q144
      go_wp2
      repeat (go_quiet (fail); try go_wp2)
      go_ret
      exact ⟨by first | rfl | (simp; done) | (simp [*]; done), by repeat (first | exact Drawn0.refl _ | apply Drawn0.step)⟩
     ·
      rw [if_neg c8] at H
      have c8b0 : (!(((rd_T115 l0 x13_1).f0) == ((rd_T115 l1 x13_1).f0)) || (!(((rd_T115 l0 x13_1).f1) == ((rd_T115 l1 x13_1).f1)))) = false := by simpa using c8
      clear c8
      have H' := Aside0.mk H
      clear H
      have p143 : 0 ≤ (x13_1 : Int) := of_decide_eq_true (by first | (with_reducible assumption) | assumption)
      have q143 : x13_1 < (l0.length : Int) := of_decide_eq_true (by first | (with_reducible assumption) | assumption)
      obtain ⟨ad143, e143, hx143_0, hx143_1⟩ := at_T115 HR0.out x13_1 p143 q143
      cases e143
      replace p143 := eq_true p143
      replace q143 := eq_true q143
      have p144 : 0 ≤ (x13_1 : Int) := of_decide_eq_true (by first | (with_reducible assumption) | assumption)
      have q144 : x13_1 < (l1.length : Int) := of_decide_eq_true (by first | (with_reducible assumption) | assumption)
      obtain ⟨ad144, e144, hx144_0, hx144_1⟩ := at_T115 HR1.out x13_1 p144 q144
      cases e144
      replace p144 := eq_true p144
      replace q144 := eq_true q144
      go_wp2
      repeat (go_quiet (fail); try go_wp2)
      go_roundg k1
      case measure => have := HK1.out; omega
      case rel => exact ⟨(wrap64 (x13_1 + 1)), (by first | rfl | (simp; done) | (simp [*]; done)), H', ⟨by have := HK1.out; omega⟩, by repeat (first | exact Drawn0.refl _ | apply Drawn0.step)⟩
    ·
     rw [if_neg c4] at H
     have c4b0 : decide (x13_1 < (l0.length : Int)) = false := decide_eq_false c4
     clear c4
     obtain rfl := Option.some.inj H
     go_wp2
     repeat (go_quiet (fail); try go_wp2)
     go_ret
     exact ⟨by first | rfl | (simp; done) | (simp [*]; done), by repeat (first | exact Drawn0.refl _ | apply Drawn0.step)⟩
 ·
  rw [if_neg c3] at H
  have c3b0 : ((l0.length : Int) == (l1.length : Int)) = false := beq_eq_false_iff_ne.mpr c3
  have c3b1 : ((l0.length : Int) != (l1.length : Int)) = true := bne_iff_ne.mpr c3
  have c3b2 : (l0.length == l1.length) = false := by first | simpa using c3 | (simp at c3 ⊢; omega)
  obtain rfl := Option.some.inj H
  go_enter Try.func76, Try.ntmps76
  go_wp2
  repeat (go_quiet (fail); try go_wp2)
  go_ret
  exact ⟨by first | rfl | (simp; done) | (simp [*]; done), by repeat (first | exact Drawn0.refl _ | apply Drawn0.step)⟩

-- NOT PRINTED: function 77 (blob_part_77)

/-! ### slices_Equal_int32_int32: function 97 -/
def slices_Equal_int32_int32.l0 : Nat → List Int → List Int → Int → Int → Option (Bool)
 | 0, _, _, _, _ => none
 | k + 1, x0, x1, x12, x13 => if x13 < x12 then (if 0 ≤ x13 then (if x13 < (x0.length : Int) then (if x13 < (x1.length : Int) then (if (rd x0 x13) = (rd x1 x13) then (slices_Equal_int32_int32.l0 k x0 x1 x12 (wrap64 (x13 + 1))) else (some false)) else (none)) else (none)) else (none)) else (some true)
def slices_Equal_int32_int32.f (k : Nat) (l0 : List Int) (l1 : List Int) : Option (Bool) := if (l0.length : Int) = (l1.length : Int) then (slices_Equal_int32_int32.l0 k l0 l1 (l0.length : Int) 0) else (some false)
theorem slices_Equal_int32_int32.mono_l : ∀ k, (∀ y0 y1 y2 y3, LeO (slices_Equal_int32_int32.l0 k y0 y1 y2 y3) (slices_Equal_int32_int32.l0 (k + 1) y0 y1 y2 y3))
 | 0 => fun _ _ _ _ r h => by simp [slices_Equal_int32_int32.l0] at h
 | k + 1 => by
  have ih0 := slices_Equal_int32_int32.mono_l k
  ·
   intro y0 y1 y2 y3
   unfold slices_Equal_int32_int32.l0
   repeat' first
   | (with_reducible exact ih0 _ _ _ _)
   | (with_reducible exact LeO.refl _)
   | (with_reducible exact LeO.none _)
   | (with_reducible refine LeO.ite ?_ ?_)
   | (with_reducible refine LeO.bind ?_ (fun _ => ?_))
   | exact ih0 _ _ _ _
   | exact LeO.none _
   | refine LeO.ite ?_ ?_
   | refine LeO.bind ?_ (fun _ => ?_)
theorem slices_Equal_int32_int32.mono : ∀ a0 a1 k, LeO (slices_Equal_int32_int32.f k a0 a1) (slices_Equal_int32_int32.f (k + 1) a0 a1) := by
 intro a0 a1 k
 have ih0 := slices_Equal_int32_int32.mono_l k
 unfold slices_Equal_int32_int32.f
 repeat' first
   | (with_reducible exact ih0 _ _ _ _)
   | (with_reducible exact LeO.refl _)
   | (with_reducible exact LeO.none _)
   | (with_reducible refine LeO.ite ?_ ?_)
   | (with_reducible refine LeO.bind ?_ (fun _ => ?_))
   | exact ih0 _ _ _ _
   | exact LeO.none _
   | refine LeO.ite ?_ ?_
   | refine LeO.bind ?_ (fun _ => ?_)
set_option maxHeartbeats 8000000 in
set_option maxRecDepth 100000 in
theorem slices_Equal_int32_int32.calls (k : Nat) (A0 : Option Addr) (c0 : Nat) (l0 : List Int) (A1 : Option Addr) (c1 : Nat) (l1 : List Int) (r : Bool) (w : World) (hr0 : Kd.C (Kd.int .i32) w A0 l0.length l0) (hc0 : l0.length ≤ c0) (hr1 : Kd.C (Kd.int .i32) w A1 l1.length l1) (hc1 : l1.length ≤ c1) (h : slices_Equal_int32_int32.f k l0 l1 = some r) :
  Calls Try.prog 97 #[.slice A0 l0.length c0, .slice A1 l1.length c1] w fun e w' => e = .returned (.bool r) ∧ Drawn0 w w' := by
 have HR0 := Aside0.mk hr0
 have HC0 := Aside0.mk hc0
 clear hr0 hc0
 have HR1 := Aside0.mk hr1
 have HC1 := Aside0.mk hc1
 clear hr1 hc1
 have H : (if (l0.length : Int) = (l1.length : Int) then (slices_Equal_int32_int32.l0 k l0 l1 (l0.length : Int) 0) else (some false)) = some r := h
 clear h
 by_cases c3 : (l0.length : Int) = (l1.length : Int)
 ·
  rw [if_pos c3] at H
  have c3b0 : ((l0.length : Int) == (l1.length : Int)) = true := beq_iff_eq.mpr c3
  have c3b1 : ((l0.length : Int) != (l1.length : Int)) = false := bne_eq_false_iff_eq.mpr c3
  have c3b2 : (l0.length == l1.length) = true := by first | simpa using c3 | (simp at c3 ⊢; omega)
  clear c3
  have H' := Aside0.mk H
  clear H
  go_enter Try.func97, Try.ntmps97
  go_wp2
  repeat (go_quiet (fail); try go_wp2)
  go_loopg [13] k (fun kq v13 w' => ∃ (x13_1 : Int), v13 = .int .i64 x13_1 ∧ Aside0 (slices_Equal_int32_int32.l0 kq l0 l1 (l0.length : Int) x13_1 = some r) ∧ Aside0 (kq ≤ k) ∧ Drawn0 w w')
  case atStart => exact ⟨(0), (by first | rfl | (simp; done) | (simp [*]; done)), H', ⟨Nat.le_refl _⟩, by repeat (first | exact Drawn0.refl _ | apply Drawn0.step)⟩
  case round =>
   clear H'
   try clear c1
   try clear p2
   try clear c3
   try clear c3b0
   try clear c3b1
   try clear c3b2
   obtain ⟨x13_1, rfl, HA, HK1, ⟨m1, rfl⟩⟩ := hrel
   cases gk with
   | zero => exact absurd HA.out (by simp [slices_Equal_int32_int32.l0])
   | succ k1 =>
    have H := HA.out
    clear HA
    simp only [slices_Equal_int32_int32.l0] at H
    by_cases c4 : x13_1 < (l0.length : Int)
    ·
     rw [if_pos c4] at H
     have c4b0 : decide (x13_1 < (l0.length : Int)) = true := decide_eq_true c4
     clear c4
     by_cases c5 : 0 ≤ x13_1
     case neg => (rw [if_neg c5] at H; exact absurd H (by simp))
     rw [if_pos c5] at H
     have c5b0 : decide (0 ≤ x13_1) = true := decide_eq_true c5
     clear c5
     by_cases c6 : x13_1 < (l0.length : Int)
     case neg => (rw [if_neg c6] at H; exact absurd H (by simp))
     rw [if_pos c6] at H
     have c6b0 : decide (x13_1 < (l0.length : Int)) = true := decide_eq_true c6
     clear c6
     by_cases c7 : x13_1 < (l1.length : Int)
     case neg => (rw [if_neg c7] at H; exact absurd H (by simp))
     rw [if_pos c7] at H
     have c7b0 : decide (x13_1 < (l1.length : Int)) = true := decide_eq_true c7
     clear c7
     by_cases c8 : (rd l0 x13_1) = (rd l1 x13_1)
     ·
      rw [if_pos c8] at H
      have c8b0 : ((rd l0 x13_1) == (rd l1 x13_1)) = true := beq_iff_eq.mpr c8
      have c8b1 : ((rd l0 x13_1) != (rd l1 x13_1)) = false := bne_eq_false_iff_eq.mpr c8
      clear c8
      have H' := Aside0.mk H
      clear H
      have p145 : 0 ≤ (x13_1 : Int) := of_decide_eq_true (by first | (with_reducible assumption) | assumption)
      have q145 : x13_1 < (l0.length : Int) := of_decide_eq_true (by first | (with_reducible assumption) | assumption)
      obtain ⟨ad145, e145, hx145_0⟩ := Kd.at_int HR0.out x13_1 p145 q145
      cases e145
      replace p145 := eq_true p145
      replace q145 := eq_true q145
      have p146 : 0 ≤ (x13_1 : Int) := of_decide_eq_true (by first | (with_reducible assumption) | assumption)
      have q146 : x13_1 < (l1.length : Int) := of_decide_eq_true (by first | (with_reducible assumption) | assumption)
      obtain ⟨ad146, e146, hx146_0⟩ := Kd.at_int HR1.out x13_1 p146 q146
      cases e146
      replace p146 := eq_true p146
      replace q146 := eq_true q146
      go_wp2
      repeat (go_quiet (fail); try go_wp2)
      go_roundg k1
      case measure => have := HK1.out; omega
      case rel => exact ⟨(wrap64 (x13_1 + 1)), (by first | rfl | (simp; done) | (simp [*]; done)), H', ⟨by have := HK1.out; omega⟩, by repeat (first | exact Drawn0.refl _ | apply Drawn0.step)⟩
     ·
      rw [if_neg c8] at H
      have c8b0 : ((rd l0 x13_1) == (rd l1 x13_1)) = false := beq_eq_false_iff_ne.mpr c8
      have c8b1 : ((rd l0 x13_1) != (rd l1 x13_1)) = true := bne_iff_ne.mpr c8
      obtain rfl := Option.some.inj H
      have p145 : 0 ≤ (x13_1 : Int) := of_decide_eq_true (by first | (with_reducible assumption) | assumption)
      have q145 : x13_1 < (l0.length : Int) := of_decide_eq_true (by first | (with_reducible assumption) | assumption)
      obtain ⟨ad145, e145, hx145_0⟩ := Kd.at_int HR0.out x13_1 p145 q145
      cases e145
      replace p145 := eq_true p145
      replace q145 := eq_true q145
      have p146 : 0 ≤ (x13_1 : Int) := of_decide_eq_true (by first | (with_reducible assumption) | assumption)
      have q146 : x13_1 < (l1.length : Int) := of_decide_eq_true (by first | (with_reducible assumption) | assumption)
      obtain ⟨ad146, e146, hx146_0⟩ := Kd.at_int HR1.out x13_1 p146 q146
      cases e146
      replace p146 := eq_true p146
      replace q146 := eq_true q146
      go_wp2
      repeat (go_quiet (fail); try go_wp2)
      go_ret
      exact ⟨by first | rfl | (simp; done) | (simp [*]; done), by repeat (first | exact Drawn0.refl _ | apply Drawn0.step)⟩
    ·
     rw [if_neg c4] at H
     have c4b0 : decide (x13_1 < (l0.length : Int)) = false := decide_eq_false c4
     clear c4
     obtain rfl := Option.some.inj H
     go_wp2
     repeat (go_quiet (fail); try go_wp2)
     go_ret
     exact ⟨by first | rfl | (simp; done) | (simp [*]; done), by repeat (first | exact Drawn0.refl _ | apply Drawn0.step)⟩
 ·
  rw [if_neg c3] at H
  have c3b0 : ((l0.length : Int) == (l1.length : Int)) = false := beq_eq_false_iff_ne.mpr c3
  have c3b1 : ((l0.length : Int) != (l1.length : Int)) = true := bne_iff_ne.mpr c3
  have c3b2 : (l0.length == l1.length) = false := by first | simpa using c3 | (simp at c3 ⊢; omega)
  obtain rfl := Option.some.inj H
  go_enter Try.func97, Try.ntmps97
  go_wp2
  repeat (go_quiet (fail); try go_wp2)
  go_ret
  exact ⟨by first | rfl | (simp; done) | (simp [*]; done), by repeat (first | exact Drawn0.refl _ | apply Drawn0.step)⟩

/-! ### mat_Equal: function 96 -/
def mat_Equal.f (k : Nat) (a0_0 : Int) (a0_1 : Int) (l0_2 : List Int) (a1_0 : Int) (a1_1 : Int) (l1_2 : List Int) : Option (Bool) := if a0_0 = a1_0 then (if a0_1 = a1_1 then ((slices_Equal_int32_int32.f k l0_2 l1_2).bind fun t149 => (some t149)) else (some false)) else (some false)
theorem mat_Equal.mono : ∀ a0 a1 a2 a3 a4 a5 k, LeO (mat_Equal.f k a0 a1 a2 a3 a4 a5) (mat_Equal.f (k + 1) a0 a1 a2 a3 a4 a5) := by
 intro a0 a1 a2 a3 a4 a5 k
 unfold mat_Equal.f
 repeat' first
   | (with_reducible exact slices_Equal_int32_int32.mono _ _ _)
   | (with_reducible exact LeO.refl _)
   | (with_reducible exact LeO.none _)
   | (with_reducible refine LeO.ite ?_ ?_)
   | (with_reducible refine LeO.bind ?_ (fun _ => ?_))
   | exact slices_Equal_int32_int32.mono _ _ _
   | exact LeO.none _
   | refine LeO.ite ?_ ?_
   | refine LeO.bind ?_ (fun _ => ?_)
set_option maxHeartbeats 8000000 in
set_option maxRecDepth 100000 in
theorem mat_Equal.calls (k : Nat) (a0_0 : Int) (a0_1 : Int) (A0_2 : Option Addr) (c0_2 : Nat) (l0_2 : List Int) (a1_0 : Int) (a1_1 : Int) (A1_2 : Option Addr) (c1_2 : Nat) (l1_2 : List Int) (r : Bool) (w : World) (hr0_2 : Kd.C (Kd.int .i32) w A0_2 l0_2.length l0_2) (hc0_2 : l0_2.length ≤ c0_2) (hr1_2 : Kd.C (Kd.int .i32) w A1_2 l1_2.length l1_2) (hc1_2 : l1_2.length ≤ c1_2) (h : mat_Equal.f k a0_0 a0_1 l0_2 a1_0 a1_1 l1_2 = some r) :
  Calls Try.prog 96 #[.agg #[.int .i64 a0_0, .int .i64 a0_1, .slice A0_2 l0_2.length c0_2], .agg #[.int .i64 a1_0, .int .i64 a1_1, .slice A1_2 l1_2.length c1_2]] w fun e w' => e = .returned (.bool r) ∧ Below w.heap.size w w' := by
 have hu64 := Try.underlying64
 have HR0_2 := Aside0.mk hr0_2
 have HC0_2 := Aside0.mk hc0_2
 clear hr0_2 hc0_2
 have HR1_2 := Aside0.mk hr1_2
 have HC1_2 := Aside0.mk hc1_2
 clear hr1_2 hc1_2
 have HB := Aside0.mk (Below.refl w.heap.size w)
 have H : (if a0_0 = a1_0 then (if a0_1 = a1_1 then ((slices_Equal_int32_int32.f k l0_2 l1_2).bind fun t149 => (some t149)) else (some false)) else (some false)) = some r := h
 clear h
 by_cases c3 : a0_0 = a1_0
 ·
  rw [if_pos c3] at H
  have c3b0 : (a0_0 == a1_0) = true := beq_iff_eq.mpr c3
  have c3b1 : (a0_0 != a1_0) = false := bne_eq_false_iff_eq.mpr c3
  clear c3
  by_cases c4 : a0_1 = a1_1
  ·
   rw [if_pos c4] at H
   have c4b0 : (a0_1 == a1_1) = true := beq_iff_eq.mpr c4
   have c4b1 : (a0_1 != a1_1) = false := bne_eq_false_iff_eq.mpr c4
   clear c4
   replace H := Option.bind_eq_some_iff.mp H
   obtain ⟨t149, A50, H⟩ := H
   replace H : (some t149) = some r := H
   have A5 := Aside0.mk A50
   clear A50
   obtain rfl := Option.some.inj H
   go_enter Try.func96, Try.ntmps96
   go_wp2_with (first | ((with_reducible refine gate_dst (N := 2) rfl ?_); refine box_event ?hg (N := 2) ?hd (cs := #[.int .i64 a0_0, .int .i64 a0_1, .slice A0_2 l0_2.length c0_2]) (t := 64) ?hr ?_; (case hd => rfl); (case hg => rfl); (case hr => first | (go_simp; done) | (go_simp; rfl)); intro gb147 hg w6 hbox hb; have n0_ := Aside0.mk (below_step (by with_reducible exact HB.out) hb); have n1_ := Aside0.mk (hbox); have n2_ := Aside0.mk ((by rw [hg]; exact (below_size (by with_reducible exact HB.out)) : w.heap.size ≤ gb147)); have n3_ := Aside0.mk ((by rw [hg]; exact (below_size (by with_reducible exact HB.out)) : w.heap.size ≤ gb147)); clear HB; have HB := n0_; have BK147 := n1_; have GW147 := n2_; have GE147 := n3_; clear n0_ n1_ n2_ n3_; clear hb hbox hg) | ((with_reducible refine gate_dst (N := 3) rfl ?_); refine box_event ?hg (N := 3) ?hd (cs := #[.int .i64 a1_0, .int .i64 a1_1, .slice A1_2 l1_2.length c1_2]) (t := 64) ?hr ?_; (case hd => rfl); (case hg => rfl); (case hr => first | (go_simp; done) | (go_simp; rfl)); intro gb148 hg w7 hbox hb; have n0_ := Aside0.mk (blk_below (g := gb147) (o := .cells #[.int .i64 a0_0, .int .i64 a0_1, .slice A0_2 l0_2.length c0_2] 64 (0, 0)) (by exact BK147.out) hb); have n1_ := Aside0.mk (below_step (by with_reducible exact HB.out) hb); have n2_ := Aside0.mk (hbox); have n3_ := Aside0.mk ((by rw [hg]; exact (below_size (by with_reducible exact HB.out)) : w.heap.size ≤ gb148)); have n4_ := Aside0.mk ((by rw [hg]; exact (below_size (by with_reducible exact HB.out)) : w.heap.size ≤ gb148)); have n5_ := Aside0.mk ((by rw [hg]; exact Nat.ne_of_lt (blk_lt (g := gb147) (o := .cells #[.int .i64 a0_0, .int .i64 a0_1, .slice A0_2 l0_2.length c0_2] 64 (0, 0)) (by exact BK147.out)) : gb147 ≠ gb148)); have n6_ := Aside0.mk ((by rw [hg]; exact Nat.ne_of_gt (blk_lt (g := gb147) (o := .cells #[.int .i64 a0_0, .int .i64 a0_1, .slice A0_2 l0_2.length c0_2] 64 (0, 0)) (by exact BK147.out)) : gb148 ≠ gb147)); clear BK147; clear HB; have BK147 := n0_; have HB := n1_; have BK148 := n2_; have GW148 := n3_; have GE148 := n4_; have NB147_148 := n5_; have NB148_147 := n6_; clear n0_ n1_ n2_ n3_ n4_ n5_ n6_; clear hb hbox hg; have hnb8 := NB147_148.out; have hnc8 := NB148_147.out; have hcz9_0 : w7.cell? ⟨gb147, 0, none⟩ = some (.int .i64 a0_0) := (blk_cell BK147.out 0).trans rfl; have hcz9_1 : w7.cell? ⟨gb147, 1, none⟩ = some (.int .i64 a0_1) := (blk_cell BK147.out 1).trans rfl; have hcz9_2 : w7.cell? ⟨gb147, 2, none⟩ = some (.slice A0_2 l0_2.length c0_2) := (blk_cell BK147.out 2).trans rfl; have hfz9_0 := blk_frozen BK147.out 0; have hfz9_1 := blk_frozen BK147.out 1; have hfz9_2 := blk_frozen BK147.out 2; have hcz10_0 : w7.cell? ⟨gb148, 0, none⟩ = some (.int .i64 a1_0) := (blk_cell BK148.out 0).trans rfl; have hcz10_1 : w7.cell? ⟨gb148, 1, none⟩ = some (.int .i64 a1_1) := (blk_cell BK148.out 1).trans rfl; have hcz10_2 : w7.cell? ⟨gb148, 2, none⟩ = some (.slice A1_2 l1_2.length c1_2) := (blk_cell BK148.out 2).trans rfl; have hfz10_0 := blk_frozen BK148.out 0; have hfz10_1 := blk_frozen BK148.out 1; have hfz10_2 := blk_frozen BK148.out 2) | (go_at_call 97; (with_reducible refine (slices_Equal_int32_int32.calls k _ _ l0_2 _ _ l1_2 t149 _ ?side1 ?side2 ?side3 ?side4 A5.out).mono ?_); (case side1 => repeat (first | exact (Kd.C_below HR0_2.out HB.out) | (with_reducible refine Kd.C_alloc ?_ _) | (with_reducible refine Kd.C_drewN ?_ _) | (with_reducible refine Kd.C_drew ?_))); (case side2 => exact HC0_2.out); (case side3 => repeat (first | exact (Kd.C_below HR1_2.out HB.out) | (with_reducible refine Kd.C_alloc ?_ _) | (with_reducible refine Kd.C_drewN ?_ _) | (with_reducible refine Kd.C_drew ?_))); (case side4 => exact HC1_2.out); rintro e w' ⟨rfl, ⟨nd, rfl⟩⟩))
   go_ret
   exact ⟨by first | rfl | (simp [errW_none, errW_some] <;> rfl) | (simp [*, errW_none, errW_some] <;> rfl), by repeat (first | (with_reducible first | exact HB.out | apply below_alloc | apply pw_below_drewN | apply below_drew1 | refine below_set ?_ GE147.out | refine below_set ?_ GE148.out) | exact HB.out)⟩
  ·
   rw [if_neg c4] at H
   have c4b0 : (a0_1 == a1_1) = false := beq_eq_false_iff_ne.mpr c4
   have c4b1 : (a0_1 != a1_1) = true := bne_iff_ne.mpr c4
   obtain rfl := Option.some.inj H
   go_enter Try.func96, Try.ntmps96
   go_wp2_with (first | ((with_reducible refine gate_dst (N := 2) rfl ?_); refine box_event ?hg (N := 2) ?hd (cs := #[.int .i64 a0_0, .int .i64 a0_1, .slice A0_2 l0_2.length c0_2]) (t := 64) ?hr ?_; (case hd => rfl); (case hg => rfl); (case hr => first | (go_simp; done) | (go_simp; rfl)); intro gb147 hg w11 hbox hb; have n0_ := Aside0.mk (below_step (by with_reducible exact HB.out) hb); have n1_ := Aside0.mk (hbox); have n2_ := Aside0.mk ((by rw [hg]; exact (below_size (by with_reducible exact HB.out)) : w.heap.size ≤ gb147)); have n3_ := Aside0.mk ((by rw [hg]; exact (below_size (by with_reducible exact HB.out)) : w.heap.size ≤ gb147)); clear HB; have HB := n0_; have BK147 := n1_; have GW147 := n2_; have GE147 := n3_; clear n0_ n1_ n2_ n3_; clear hb hbox hg) | ((with_reducible refine gate_dst (N := 3) rfl ?_); refine box_event ?hg (N := 3) ?hd (cs := #[.int .i64 a1_0, .int .i64 a1_1, .slice A1_2 l1_2.length c1_2]) (t := 64) ?hr ?_; (case hd => rfl); (case hg => rfl); (case hr => first | (go_simp; done) | (go_simp; rfl)); intro gb148 hg w12 hbox hb; have n0_ := Aside0.mk (blk_below (g := gb147) (o := .cells #[.int .i64 a0_0, .int .i64 a0_1, .slice A0_2 l0_2.length c0_2] 64 (0, 0)) (by exact BK147.out) hb); have n1_ := Aside0.mk (below_step (by with_reducible exact HB.out) hb); have n2_ := Aside0.mk (hbox); have n3_ := Aside0.mk ((by rw [hg]; exact (below_size (by with_reducible exact HB.out)) : w.heap.size ≤ gb148)); have n4_ := Aside0.mk ((by rw [hg]; exact (below_size (by with_reducible exact HB.out)) : w.heap.size ≤ gb148)); have n5_ := Aside0.mk ((by rw [hg]; exact Nat.ne_of_lt (blk_lt (g := gb147) (o := .cells #[.int .i64 a0_0, .int .i64 a0_1, .slice A0_2 l0_2.length c0_2] 64 (0, 0)) (by exact BK147.out)) : gb147 ≠ gb148)); have n6_ := Aside0.mk ((by rw [hg]; exact Nat.ne_of_gt (blk_lt (g := gb147) (o := .cells #[.int .i64 a0_0, .int .i64 a0_1, .slice A0_2 l0_2.length c0_2] 64 (0, 0)) (by exact BK147.out)) : gb148 ≠ gb147)); clear BK147; clear HB; have BK147 := n0_; have HB := n1_; have BK148 := n2_; have GW148 := n3_; have GE148 := n4_; have NB147_148 := n5_; have NB148_147 := n6_; clear n0_ n1_ n2_ n3_ n4_ n5_ n6_; clear hb hbox hg; have hnb13 := NB147_148.out; have hnc13 := NB148_147.out; have hcz14_0 : w12.cell? ⟨gb147, 0, none⟩ = some (.int .i64 a0_0) := (blk_cell BK147.out 0).trans rfl; have hcz14_1 : w12.cell? ⟨gb147, 1, none⟩ = some (.int .i64 a0_1) := (blk_cell BK147.out 1).trans rfl; have hcz14_2 : w12.cell? ⟨gb147, 2, none⟩ = some (.slice A0_2 l0_2.length c0_2) := (blk_cell BK147.out 2).trans rfl; have hfz14_0 := blk_frozen BK147.out 0; have hfz14_1 := blk_frozen BK147.out 1; have hfz14_2 := blk_frozen BK147.out 2; have hcz15_0 : w12.cell? ⟨gb148, 0, none⟩ = some (.int .i64 a1_0) := (blk_cell BK148.out 0).trans rfl; have hcz15_1 : w12.cell? ⟨gb148, 1, none⟩ = some (.int .i64 a1_1) := (blk_cell BK148.out 1).trans rfl; have hcz15_2 : w12.cell? ⟨gb148, 2, none⟩ = some (.slice A1_2 l1_2.length c1_2) := (blk_cell BK148.out 2).trans rfl; have hfz15_0 := blk_frozen BK148.out 0; have hfz15_1 := blk_frozen BK148.out 1; have hfz15_2 := blk_frozen BK148.out 2))
   go_ret
   exact ⟨by first | rfl | (simp [errW_none, errW_some] <;> rfl) | (simp [*, errW_none, errW_some] <;> rfl), by with_reducible exact HB.out⟩
 ·
  rw [if_neg c3] at H
  have c3b0 : (a0_0 == a1_0) = false := beq_eq_false_iff_ne.mpr c3
  have c3b1 : (a0_0 != a1_0) = true := bne_iff_ne.mpr c3
  obtain rfl := Option.some.inj H
  go_enter Try.func96, Try.ntmps96
  go_wp2_with (first | ((with_reducible refine gate_dst (N := 2) rfl ?_); refine box_event ?hg (N := 2) ?hd (cs := #[.int .i64 a0_0, .int .i64 a0_1, .slice A0_2 l0_2.length c0_2]) (t := 64) ?hr ?_; (case hd => rfl); (case hg => rfl); (case hr => first | (go_simp; done) | (go_simp; rfl)); intro gb147 hg w16 hbox hb; have n0_ := Aside0.mk (below_step (by with_reducible exact HB.out) hb); have n1_ := Aside0.mk (hbox); have n2_ := Aside0.mk ((by rw [hg]; exact (below_size (by with_reducible exact HB.out)) : w.heap.size ≤ gb147)); have n3_ := Aside0.mk ((by rw [hg]; exact (below_size (by with_reducible exact HB.out)) : w.heap.size ≤ gb147)); clear HB; have HB := n0_; have BK147 := n1_; have GW147 := n2_; have GE147 := n3_; clear n0_ n1_ n2_ n3_; clear hb hbox hg) | ((with_reducible refine gate_dst (N := 3) rfl ?_); refine box_event ?hg (N := 3) ?hd (cs := #[.int .i64 a1_0, .int .i64 a1_1, .slice A1_2 l1_2.length c1_2]) (t := 64) ?hr ?_; (case hd => rfl); (case hg => rfl); (case hr => first | (go_simp; done) | (go_simp; rfl)); intro gb148 hg w17 hbox hb; have n0_ := Aside0.mk (blk_below (g := gb147) (o := .cells #[.int .i64 a0_0, .int .i64 a0_1, .slice A0_2 l0_2.length c0_2] 64 (0, 0)) (by exact BK147.out) hb); have n1_ := Aside0.mk (below_step (by with_reducible exact HB.out) hb); have n2_ := Aside0.mk (hbox); have n3_ := Aside0.mk ((by rw [hg]; exact (below_size (by with_reducible exact HB.out)) : w.heap.size ≤ gb148)); have n4_ := Aside0.mk ((by rw [hg]; exact (below_size (by with_reducible exact HB.out)) : w.heap.size ≤ gb148)); have n5_ := Aside0.mk ((by rw [hg]; exact Nat.ne_of_lt (blk_lt (g := gb147) (o := .cells #[.int .i64 a0_0, .int .i64 a0_1, .slice A0_2 l0_2.length c0_2] 64 (0, 0)) (by exact BK147.out)) : gb147 ≠ gb148)); have n6_ := Aside0.mk ((by rw [hg]; exact Nat.ne_of_gt (blk_lt (g := gb147) (o := .cells #[.int .i64 a0_0, .int .i64 a0_1, .slice A0_2 l0_2.length c0_2] 64 (0, 0)) (by exact BK147.out)) : gb148 ≠ gb147)); clear BK147; clear HB; have BK147 := n0_; have HB := n1_; have BK148 := n2_; have GW148 := n3_; have GE148 := n4_; have NB147_148 := n5_; have NB148_147 := n6_; clear n0_ n1_ n2_ n3_ n4_ n5_ n6_; clear hb hbox hg; have hnb18 := NB147_148.out; have hnc18 := NB148_147.out; have hcz19_0 : w17.cell? ⟨gb147, 0, none⟩ = some (.int .i64 a0_0) := (blk_cell BK147.out 0).trans rfl; have hcz19_1 : w17.cell? ⟨gb147, 1, none⟩ = some (.int .i64 a0_1) := (blk_cell BK147.out 1).trans rfl; have hcz19_2 : w17.cell? ⟨gb147, 2, none⟩ = some (.slice A0_2 l0_2.length c0_2) := (blk_cell BK147.out 2).trans rfl; have hfz19_0 := blk_frozen BK147.out 0; have hfz19_1 := blk_frozen BK147.out 1; have hfz19_2 := blk_frozen BK147.out 2; have hcz20_0 : w17.cell? ⟨gb148, 0, none⟩ = some (.int .i64 a1_0) := (blk_cell BK148.out 0).trans rfl; have hcz20_1 : w17.cell? ⟨gb148, 1, none⟩ = some (.int .i64 a1_1) := (blk_cell BK148.out 1).trans rfl; have hcz20_2 : w17.cell? ⟨gb148, 2, none⟩ = some (.slice A1_2 l1_2.length c1_2) := (blk_cell BK148.out 2).trans rfl; have hfz20_0 := blk_frozen BK148.out 0; have hfz20_1 := blk_frozen BK148.out 1; have hfz20_2 := blk_frozen BK148.out 2))
  go_ret
  exact ⟨by first | rfl | (simp [errW_none, errW_some] <;> rfl) | (simp [*, errW_none, errW_some] <;> rfl), by with_reducible exact HB.out⟩

-- NOT PRINTED: function 78 (blob_same)

end Go.Proofs.Ytehepnmagcjkaaa.PBlobParses
