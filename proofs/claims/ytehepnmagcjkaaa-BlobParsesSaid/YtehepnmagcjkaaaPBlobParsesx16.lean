-- Written by a program of this session (wip/tools/mkprint.py over the kit's print).
import Derived.Test.YtehepnmagcjkaaaPBlobParsesx0
import Derived.Test.YtehepnmagcjkaaaPBlobParsesx7
import Derived.Test.YtehepnmagcjkaaaPBlobParsesx8
import Derived.Test.YtehepnmagcjkaaaPBlobParsesx11
import Derived.Test.YtehepnmagcjkaaaPBlobParsesx12
import Derived.Test.YtehepnmagcjkaaaPBlobParsesx13
import Derived.Test.YtehepnmagcjkaaaPBlobParsesx14
import Derived.Test.YtehepnmagcjkaaaPBlobParsesx15
namespace Go.Proofs.Ytehepnmagcjkaaa.PBlobParses
open Go.RowKit Go.Proofs.YtehepnmagcjkaaaW.PrintWords Go.Proofs.YtehepnmagcjkaaaW.PrintLast Go.Proofs.YtehepnmagcjkaaaW.PrintMore
attribute [local go_sem] max2_int min2_int max_two min_two max_three min_three max_four min_four   -- for this text's walks alone
set_option linter.unusedVariables false
set_option linter.unusedSimpArgs false

/-! ### credenzaref18_Parse: function 38 -/
/-- The reference's rows. -/
def RefC (w : World) (AT : Option Addr) (cT : Nat) (T : List Int) (AP : Option Addr) (cP : Nat) (P : List S111) : Prop := Kd.C (Kd.int .i32) w AT T.length T ∧ T.length ≤ cT ∧ Kd.C k111 w AP P.length P ∧ P.length ≤ cP
theorem RefC.below {W W' : World} {AT AP : Option Addr} {cT cP : Nat} {T : List Int} {P : List S111} (h : RefC W AT cT T AP cP P) (hb : Below W.heap.size W W') : RefC W' AT cT T AP cP P := ⟨Kd.C_below h.1 hb, h.2.1, Kd.C_below h.2.2.1 hb, h.2.2.2⟩
theorem cRight18 (k : Nat) (a0_0 a0_1 a0_2 a0_3 a0_4 a0_5 a0_6 : Int) (AT : Option Addr) (cT : Nat) (T : List Int) (AP : Option Addr) (cP : Nat) (P : List S111) (r : Int) (w : World) (hq : RefC w AT cT T AP cP P) (h : credenzaref18_Right.f k a0_0 a0_1 a0_2 a0_3 a0_4 a0_5 a0_6 T P = some r) :
  Calls Try.prog 31 #[.agg #[.int .i64 a0_0, .int .i64 a0_1, .int .i64 a0_2, .int .i64 a0_3, .int .i64 a0_4, .int .i64 a0_5, .int .i64 a0_6, .slice AT T.length cT, .slice AP P.length cP]] w fun e w' => e = .returned (.int .i64 r) ∧ Below w.heap.size w w' := credenzaref18_Right.calls k a0_0 a0_1 a0_2 a0_3 a0_4 a0_5 a0_6 AT cT T AP cP P r w hq.1 hq.2.1 hq.2.2.1 hq.2.2.2 h
/-- A part, as the reference reads it. -/
def offs (Z : List (S110 × Nat)) (m j : Nat) : Nat := m + ((Z.take j).map (·.2)).sum
def pAt (Z : List (S110 × Nat)) (nums : List Int) (m j : Nat) : S111 := ⟨(Z.getD j (⟨0, 0⟩, 0)).1.f0, if (Z.getD j (⟨0, 0⟩, 0)).1.f0 = 0 then 0 else (Z.getD j (⟨0, 0⟩, 0)).1.f1, (nums.drop (offs Z m j)).take (Z.getD j (⟨0, 0⟩, 0)).2⟩
def pAll (Z : List (S110 × Nat)) (nums : List Int) (m : Nat) : List S111 := (List.range Z.length).map (pAt Z nums m)
def Zr (c0 c1 c2 c3 c4 c5 L : Int) (T : List Int) (P : List S111) (er : Int) (e : Int) : Prop := c0 = 0 ∧ c1 = 0 ∧ c2 = 0 ∧ c3 = 0 ∧ c4 = 0 ∧ c5 = 0 ∧ L = 0 ∧ T = [] ∧ P = [] ∧ er = e
/-- What the numbers behind the config come to. -/
def T18 (k : Nat) (s : ByteArray) (c0 c1 c2 c3 c4 c5 L : Int) (T : List Int) (P : List S111) (er : Int) : Prop := ∃ (nums : List Int) (Z : List (S110 × Nat)) (m : Nat) (e2 : Int), credenzaref18_Sizes.f k (wrap64 (bt s 1)) (wrap64 (bt s 2)) (wrap64 (bt s 3)) (wrap64 (bt s 4)) (wrap64 (bt s 5)) (wrap64 (bt s 6)) = some (Z.map (·.1)) ∧ s.size = 7 + 4 * nums.length ∧ (∀ j, j < nums.length → credenzaref06_Signed.f k (s.extract (7 + 4 * j) (7 + 4 * j + 4)) = some (nums.getD j 0)) ∧ (wrap64 (bt s 4)) = (m : Int) ∧ Z.length ≤ 100 ∧ (∀ z ∈ Z, credenzaref18_count.f z.1.f0 z.1.f1 = some (z.2 : Int)) ∧ offs Z m Z.length ≤ nums.length ∧
 credenzaref18_Right.f k (wrap64 (bt s 1)) (wrap64 (bt s 2)) (wrap64 (bt s 3)) (wrap64 (bt s 4)) (wrap64 (bt s 5)) (wrap64 (bt s 6)) (wrap64 (bt s 1)) (nums.take m) (pAll Z nums m) = some e2 ∧ (e2 ≠ 0 → Zr c0 c1 c2 c3 c4 c5 L T P er e2) ∧ (e2 = 0 → (c0 = (wrap64 (bt s 1)) ∧ c1 = (wrap64 (bt s 2)) ∧ c2 = (wrap64 (bt s 3)) ∧ c3 = (wrap64 (bt s 4)) ∧ c4 = (wrap64 (bt s 5)) ∧ c5 = (wrap64 (bt s 6))) ∧ L = (wrap64 (bt s 1)) ∧ T = nums.take m ∧ P = pAll Z nums m ∧ er = 0)
def P18 (k : Nat) (b : ByteArray) (c0 c1 c2 c3 c4 c5 L : Int) (T : List Int) (P : List S111) (er : Int) : Prop := ∃ (s : ByteArray) (e1 : Int), credenzaref06_Open.f k b = some (s, e1) ∧ s.size ≤ 900000 ∧ (e1 ≠ 0 → Zr c0 c1 c2 c3 c4 c5 L T P er e1) ∧ (e1 = 0 → (s.size < 7 → Zr c0 c1 c2 c3 c4 c5 L T P er 16) ∧ (7 ≤ s.size → (bt s 0 ≠ 87 → Zr c0 c1 c2 c3 c4 c5 L T P er 10) ∧ (bt s 0 = 87 → ∃ q : Bool, credenzaref18_RightConfig.f (wrap64 (bt s 1)) (wrap64 (bt s 2)) (wrap64 (bt s 3)) (wrap64 (bt s 4)) (wrap64 (bt s 5)) (wrap64 (bt s 6)) = some q ∧ (q = false → Zr c0 c1 c2 c3 c4 c5 L T P er 11) ∧ (q = true → ∃ n : Int, credenzaref18_Numbers.f k (wrap64 (bt s 1)) (wrap64 (bt s 2)) (wrap64 (bt s 3)) (wrap64 (bt s 4)) (wrap64 (bt s 5)) (wrap64 (bt s 6)) = some n ∧
 ((s.size : Int) < wrap64 (7 + wrap64 (4 * n)) → Zr c0 c1 c2 c3 c4 c5 L T P er 16) ∧ (wrap64 (7 + wrap64 (4 * n)) < (s.size : Int) → Zr c0 c1 c2 c3 c4 c5 L T P er 17) ∧ ((s.size : Int) = wrap64 (7 + wrap64 (4 * n)) → T18 k s c0 c1 c2 c3 c4 c5 L T P er)))))
theorem T18.mono {k : Nat} {s : ByteArray} {c0 c1 c2 c3 c4 c5 L : Int} {T : List Int} {P : List S111} {er : Int} (h : T18 k s c0 c1 c2 c3 c4 c5 L T P er) : T18 (k + 1) s c0 c1 c2 c3 c4 c5 L T P er := by
 obtain ⟨nums, Z, m, e2, h1, h2, h3, h4, h5, h6, h7, h8, h9⟩ := h
 exact ⟨nums, Z, m, e2, credenzaref18_Sizes.mono _ _ _ _ _ _ _ _ h1, h2, fun j hj => credenzaref06_Signed.mono _ _ _ (h3 j hj), h4, h5, h6, h7, credenzaref18_Right.mono _ _ _ _ _ _ _ _ _ _ _ h8, h9⟩
theorem P18.mono {k : Nat} {b : ByteArray} {c0 c1 c2 c3 c4 c5 L : Int} {T : List Int} {P : List S111} {er : Int} (h : P18 k b c0 c1 c2 c3 c4 c5 L T P er) : P18 (k + 1) b c0 c1 c2 c3 c4 c5 L T P er := by
 obtain ⟨s, e1, h1, h2, h3, h4⟩ := h
 refine ⟨s, e1, credenzaref06_Open.mono _ _ _ h1, h2, h3, fun he => ⟨(h4 he).1, fun h7 => ⟨((h4 he).2 h7).1, fun h87 => ?_⟩⟩⟩
 obtain ⟨q, g1, g2, g3⟩ := ((h4 he).2 h7).2 h87
 refine ⟨q, g1, g2, fun hq => ?_⟩
 obtain ⟨n, n1, n2, n3, n4⟩ := g3 hq
 exact ⟨n, credenzaref18_Numbers.mono _ _ _ _ _ _ _ _ n1, n2, n3, fun h => (n4 h).mono⟩
def P18R (w w' : World) (e : Ending) (c0 c1 c2 c3 c4 c5 L : Int) (T : List Int) (P : List S111) (er : Int) : Prop := ∃ AT cT AP cP, e = .returned (.tuple #[.agg #[.int .i64 c0, .int .i64 c1, .int .i64 c2, .int .i64 c3, .int .i64 c4, .int .i64 c5, .int .i64 L, .slice AT T.length cT, .slice AP P.length cP], .int .i64 er]) ∧ RefC w' AT cT T AP cP P ∧ Below w.heap.size w w'
theorem P18R.zero {w w' : World} {c0 c1 c2 c3 c4 c5 L : Int} {T : List Int} {P : List S111} {er : Int} {e : Int} (hz : Zr c0 c1 c2 c3 c4 c5 L T P er e) (hb : Below w.heap.size w w') : P18R w w' (.returned (.tuple #[.agg #[.int .i64 0, .int .i64 0, .int .i64 0, .int .i64 0, .int .i64 0, .int .i64 0, .int .i64 0, .slice none 0 0, .slice none 0 0], .int .i64 e])) c0 c1 c2 c3 c4 c5 L T P er := by
 obtain ⟨rfl, rfl, rfl, rfl, rfl, rfl, rfl, rfl, rfl, rfl⟩ := hz
 exact ⟨none, 0, none, 0, rfl, ⟨Kd.C_nil _ _, Nat.le_refl _, Kd.C_nil _ _, Nat.le_refl _⟩, hb⟩
theorem below_lower {B M : Nat} {W W' : World} (h : Below M W W') (hm : B ≤ M) : Below B W W' := ⟨h.os, h.tape, h.output, h.size, fun k hk => h.block k (by omega)⟩
def hv18 (s : ByteArray) (n j : Nat) : Value := .int .i64 (if j < n then wrap64 (bt s ((j + 1 : Nat) : Int)) else 0)
def hdr18 (s : ByteArray) (n : Nat) : Array Value := #[hv18 s n 0, hv18 s n 1, hv18 s n 2, hv18 s n 3, hv18 s n 4, hv18 s n 5, .int .i64 (wrap64 (bt s 1)), .slice none 0 0, .slice none 0 0]
/-- Parts that are made, in blocks ahead of M. -/
def PRt (W : World) (B M : Nat) (rows : List (List Value)) (P : List S111) : Prop := rows.length = P.length ∧ ∀ (j : Nat) (row : List Value) (x : S111), rows[j]? = some row → P[j]? = some x → ∃ v : Value, row = [.int .i64 x.f0, .int .i64 x.f1, v] ∧ Kd.R (Kd.int .i32) 21 W B (fun k => k < M) v x.f2
theorem PRt.step {W W' : World} {B M : Nat} {rows : List (List Value)} {P : List S111} (h : PRt W B M rows P) (hk : ∀ k cs, B ≤ k → k < M → k < W.heap.size → W.heap[k]? = some (.cells cs 21 (0, 0)) → W'.heap[k]? = W.heap[k]?) : PRt W' B M rows P := by
 refine ⟨h.1, fun j row x h1 h2 => ?_⟩
 obtain ⟨v, e, hR⟩ := h.2 j row x h1 h2
 refine ⟨v, e, Kd.R_mono (Kd.R_step (Kd.R_bound hR) (fun k hk1 _ => ?_)) (fun k hk1 => hk1.1)⟩
 obtain ⟨g1, g2, g3, q, hq, cs, hc⟩ := hk1
 obtain rfl : q = 21 := by simpa [Kd.int, Kd.scalar] using hq
 exact hk k cs g2 g1 g3 hc
theorem PRt.now {W : World} {B M : Nat} {rows : List (List Value)} {P : List S111} (h : PRt W B M rows P) : PRt W B W.heap.size rows P := by
 refine ⟨h.1, fun j row x h1 h2 => ?_⟩
 obtain ⟨v, e, hR⟩ := h.2 j row x h1 h2
 exact ⟨v, e, Kd.R_mono (Kd.R_bound hR) (fun k hk => hk.2.2.1)⟩
theorem PRt.app {W : World} {B M : Nat} {rows : List (List Value)} {P : List S111} {x : S111} {v : Value} (h : PRt W B M rows P) (hx : Kd.R (Kd.int .i32) 21 W B (fun k => k < M) v x.f2) : PRt W B M (rows ++ [[.int .i64 x.f0, .int .i64 x.f1, v]]) (P ++ [x]) := by
 refine ⟨by rw [List.length_append, List.length_append, h.1]; rfl, fun j row y h1 h2 => ?_⟩
 by_cases hj : j < rows.length
 ·
  rw [List.getElem?_append_left hj] at h1
  rw [List.getElem?_append_left (by rw [← h.1]; exact hj)] at h2
  exact h.2 j row y h1 h2
 ·
  rw [List.getElem?_append_right (by omega)] at h1
  rw [List.getElem?_append_right (by rw [← h.1]; omega), ← h.1] at h2
  cases hi : j - rows.length with
  | zero =>
   rw [hi] at h1 h2
   obtain rfl := Option.some.inj h1
   obtain rfl := Option.some.inj h2
   exact ⟨v, rfl, hx⟩
  | succ i =>
   rw [hi] at h1
   simp at h1
theorem PRt.rows {W : World} {B M : Nat} {rows : List (List Value)} {P : List S111} (h : PRt W B M rows P) : RowsP W rows P := by
 refine ⟨h.1, fun j row x h1 h2 => ?_⟩
 obtain ⟨v, e, hR⟩ := h.2 j row x h1 h2
 obtain ⟨A, c, rfl⟩ := Kd.R_slice hR
 rw [e]
 exact k111_mk W x (Kd.R_reads' hR).2.1 (Kd.R_reads' hR).2.2
theorem RC_end {W : World} {B B' M : Nat} {ok ok' : Nat → Prop} {AT AP : Option Addr} {cT nT cP nP : Nat} {T : List Int} {rows : List (List Value)} {P : List S111} (h1 : Kd.R (Kd.int .i32) 21 W B ok (.slice AT nT cT) T) (h2 : (Kd.raw 3).R 111 W B' ok' (.slice AP nP cP) rows) (h3 : PRt W B M rows P) : RefC W AT cT T AP cP P :=
 have h := RowsP.reads h2 h3.rows (Below.refl _ _)
 ⟨(Kd.R_reads' h1).2.2, (Kd.R_reads' h1).1 ▸ (Kd.R_reads' h1).2.1, h.1, h.2.2⟩
/-- What is made already, while a part is read. -/
def FIN (W : World) (B M : Nat) (rows : List (List Value)) (P : List S111) (vT : Value) (T : List Int) (vP vS : Value) (S : List S110) : Prop := PRt W B M rows P ∧ Kd.R (Kd.int .i32) 21 W B (fun k => k < M) vT T ∧ (Kd.raw 3).R 111 W B (fun k => k < M) vP rows ∧ Kd.R k110 110 W B (fun k => k < M) vS S
theorem R_fin {α : Type} {d : Kd α} {e B M gp : Nat} {W W' : World} {cs : Array Value} {v : Value} {xs : List α} (h : d.R e W B (fun k => k < M) v xs) (hb : W.heap[gp]? = some (.cells cs 73 (0, 0))) (ht : ∀ q, q ∈ e :: d.E → q ≠ 73) (hk : ∀ k, k < M → k ≠ gp → W'.heap[k]? = W.heap[k]?) : d.R e W' B (fun k => k < M) v xs :=
 Kd.R_mono (Kd.R_step (Kd.R_types h hb ht) (fun k hk1 _ => hk k hk1.1 hk1.2)) (fun k hk1 => hk1.1)
theorem FIN.step {W W' : World} {B M gp : Nat} {rows : List (List Value)} {P : List S111} {vT vP vS : Value} {T : List Int} {S : List S110} {cs : Array Value} (h : FIN W B M rows P vT T vP vS S) (hb : W.heap[gp]? = some (.cells cs 73 (0, 0))) (hk : ∀ k, k < M → k ≠ gp → W'.heap[k]? = W.heap[k]?) : FIN W' B M rows P vT T vP vS S :=
 ⟨h.1.step (fun k cs' _ h2 h3 h4 => hk k h2 (fun e => by subst e; exact blk_ne h4 hb (by decide) rfl)), R_fin h.2.1 hb (by decide) hk, R_fin h.2.2.1 hb (by decide) hk, R_fin h.2.2.2 hb (by decide) hk⟩
theorem FIN.below {W W' : World} {B M gp : Nat} {rows : List (List Value)} {P : List S111} {vT vP vS : Value} {T : List Int} {S : List S110} {cs : Array Value} (h : FIN W B M rows P vT T vP vS S) (hb : W.heap[gp]? = some (.cells cs 73 (0, 0))) (hm : M ≤ W.heap.size) (hw : Below W.heap.size W W') : FIN W' B M rows P vT T vP vS S :=
 h.step hb (fun k hk _ => hw.block k (by omega))
theorem R_lt {α : Type} {d : Kd α} {e B : Nat} {W : World} {ok : Nat → Prop} {v : Value} {xs : List α} (h : d.R e W B ok v xs) : d.R e W B (fun k => k < W.heap.size) v xs := Kd.R_mono (Kd.R_bound h) (fun k hk => hk.2.2.1)
theorem own_from {B : Nat} {W : World} {ok : Nat → Prop} {v : Value} {xs : List Int} (h : Kd.R (Kd.int .i32) 21 W B ok v xs) (k : Nat) (hk : k < B) : some k ≠ v.ownBlock := fun e => by
 have h1 := own_base (Kd.own_of_R h) k e.symm
 omega
theorem and9 {a b c d e f g h i j : Prop} (H : (a ∧ b ∧ c ∧ d ∧ e ∧ f) ∧ g ∧ h ∧ i ∧ j) : a ∧ b ∧ c ∧ d ∧ e ∧ f ∧ g ∧ h ∧ i ∧ j := ⟨H.1.1, H.1.2.1, H.1.2.2.1, H.1.2.2.2.1, H.1.2.2.2.2.1, H.1.2.2.2.2.2, H.2⟩
theorem offs_succ {Z : List (S110 × Nat)} {m i : Nat} (h : i < Z.length) : offs Z m (i + 1) = offs Z m i + (Z.getD i (⟨0, 0⟩, 0)).2 := by
 unfold offs
 rw [List.take_add_one, List.getElem?_eq_getElem h, List.map_append, List.sum_append, List.getD_eq_getElem?_getD, List.getElem?_eq_getElem h]
 simp only [Option.toList_some, List.map_cons, List.map_nil, List.sum_cons, List.sum_nil, Option.getD_some]
 omega
theorem offs_le {Z : List (S110 × Nat)} {m i : Nat} (h : i ≤ Z.length) : offs Z m i ≤ offs Z m Z.length := by
 unfold offs
 have h1 := congrArg (fun l => (l.map (·.2)).sum) (List.take_append_drop i Z)
 simp only [List.map_append, List.sum_append] at h1
 rw [List.take_length]
 omega
theorem take_next (l : List Int) (a q : Nat) (h : a + q < l.length) : (l.drop a).take (q + 1) = (l.drop a).take q ++ [l.getD (a + q) 0] := by
 rw [List.take_add_one, List.getElem?_drop, List.getElem?_eq_getElem h, List.getD_eq_getElem?_getD, List.getElem?_eq_getElem h]
 rfl
theorem take_next0 (l : List Int) (q : Nat) (h : q < l.length) : l.take (q + 1) = l.take q ++ [l.getD q 0] := by
 rw [List.take_add_one, List.getElem?_eq_getElem h, List.getD_eq_getElem?_getD, List.getElem?_eq_getElem h]
 rfl
def p23.T23 : Bool × List (List Nat × List Nat) := (true, [([], []), ([0], [0]), ([], []), ([], []), ([], []), ([4], [4]), ([2, 3, 5], [2, 3, 5]), ([6], [6]), ([7], [7]), ([1, 8, 7], [1, 8]), ([0, 1, 2, 3, 4, 5, 6, 7, 8, 9], []), ([10, 9, 9, 0, 1, 2, 3, 4, 5, 6, 7, 8, 9], [9, 10])])
def p23.B23 : List Nat := [0, 1, 0, 0, 0, 16, 60, 124, 252, 511, 1023, 2047]
theorem p23.tab23 : rtab .any (opsOf Try.f38 23) = p23.T23 := by kernel_rfl
theorem p23.bits23 : waitsOk p23.T23.2 p23.B23 = true := by kernel_rfl
def p29.T29 : Bool × List (List Nat × List Nat) := (true, [([], []), ([], []), ([0, 1], [0, 1]), ([2], [2]), ([3], [3]), ([], []), ([], []), ([5, 6], [5, 6]), ([7], [7]), ([8], [8]), ([4, 9], [4, 9]), ([], []), ([11, 10, 0, 1, 2, 3, 4, 5, 6, 7, 8, 9, 10, 11], [10, 11])])
def p29.B29 : List Nat := [0, 0, 3, 7, 15, 0, 0, 96, 224, 480, 1023, 0, 4095]
theorem p29.tab29 : rtab .any (opsOf Try.f38 29) = p29.T29 := by kernel_rfl
theorem p29.bits29 : waitsOk p29.T29.2 p29.B29 = true := by kernel_rfl
def p33.T33 : Bool × List (List Nat × List Nat) := (true, [([], []), ([0], [0]), ([], []), ([], []), ([], []), ([4], [4]), ([2, 3, 5], [2, 3, 5]), ([6], [6]), ([7], [7]), ([1, 8, 7], [1, 8]), ([0, 1, 2, 3, 4, 5, 6, 7, 8, 9], []), ([10, 9, 9, 0, 1, 2, 3, 4, 5, 6, 7, 8, 9], [9, 10])])
def p33.B33 : List Nat := [0, 1, 0, 0, 0, 16, 60, 124, 252, 511, 1023, 2047]
theorem p33.tab33 : rtab .any (opsOf Try.f38 33) = p33.T33 := by kernel_rfl
theorem p33.bits33 : waitsOk p33.T33.2 p33.B33 = true := by kernel_rfl
set_option maxHeartbeats 8000000 in
set_option maxRecDepth 100000 in
theorem p18.go (k : Nat) (b : ByteArray) (c0 c1 c2 c3 c4 c5 L : Int) (T : List Int) (P : List S111) (er : Int) (w : World) (h : P18 k b c0 c1 c2 c3 c4 c5 L T P er) : Calls Try.prog 38 #[.string b] w fun e w' => P18R w w' e c0 c1 c2 c3 c4 c5 L T P er := by
 have hu73 := Try.underlying73
 have hu56 := Try.underlying56
 have hu62 := Try.underlying62
 have hu71 := Try.underlying71
 have hu107 := Try.underlying107
 have hu110 := Try.underlying110
 have hu111 := Try.underlying111
 have HB := aM (Below.refl w.heap.size w)
 obtain ⟨s, e1, hop, hsz, hz1, h⟩ := h
 have HOP := aM hop
 have HSZ := aM hsz
 have HZ := aM hz1
 have HH := aM h
 clear hop hsz hz1 h
 go_enter Try.func38, Try.ntmps38
 go_upto_region 2 with (first | ((with_reducible refine gate_dst (N := 2) rfl ?_); refine box_event ?hg (N := 2) ?hd (cs := #[.int .i64 0, .int .i64 0, .int .i64 0, .int .i64 0, .int .i64 0, .int .i64 0, .int .i64 0, .slice none 0 0, .slice none 0 0]) (t := 73) ?hr ?_; (case hd => rfl); (case hg => rfl); (case hr => first | (go_simp; done) | (go_simp; rfl)); intro gb hg w1 hbox hb; have BK := aM hbox; have GE := aM ((by rw [hg]; exact below_size HB.out) : w.heap.size ≤ gb); replace HB := aM (below_step HB.out hb); clear hg hbox hb) | (go_at_call 79; (with_reducible refine (credenzaref06_Open.calls k b s e1 _ HOP.out).mono ?_); rintro e w2 ⟨rfl, hb⟩; replace BK := aM (blk_below BK.out hb); replace HB := aM (below_step HB.out hb); clear hb))
 by_cases c1 : e1 = 0
 case neg =>
  have d1 : (e1 == 0) = false := beq_eq_false_iff_ne.mpr c1
  have d2 : (e1 != 0) = true := bne_iff_ne.mpr c1
  replace HZ := aM (HZ.out c1)
  clear c1 HH
  have hz9 := bx9 BK.out
  go_wp2
  refine bodyPost_ret (results_ct rfl _ _ gb 73 #[.int .i64 0, .int .i64 0, .int .i64 0, .int .i64 0, .int .i64 0, .int .i64 0, .int .i64 0, .slice none 0 0, .slice none 0 0] (0, 0) _ rfl (fset9_blk BK.out) Try.underlying73 rfl (by kernel_rfl)) rfl ?_
  exact P18R.zero HZ.out (fset9_below HB.out GE.out)
 subst c1
 replace HH := aM (HH.out rfl)
 clear HZ
 have d0 : ((0 : Int) != 0) = false := rfl
 go_upto_region 4 with (fail)
 by_cases c2 : s.size < 7
 case pos =>
  have HZ := aM (HH.out.1 c2)
  have d1 : decide ((s.size : Int) < 7) = true := decide_eq_true (by omega)
  have d2 : decide (s.size < 7) = true := decide_eq_true c2
  clear c2 HH
  have hz9 := bx9 BK.out
  go_wp2
  refine bodyPost_ret (results_ct rfl _ _ gb 73 #[.int .i64 0, .int .i64 0, .int .i64 0, .int .i64 0, .int .i64 0, .int .i64 0, .int .i64 0, .slice none 0 0, .slice none 0 0] (0, 0) _ rfl (fset9_blk BK.out) Try.underlying73 rfl (by kernel_rfl)) rfl ?_
  exact P18R.zero HZ.out (fset9_below HB.out GE.out)
 replace HH := aM (HH.out.2 (Nat.le_of_not_lt c2))
 have HS7 := aM (show 7 ≤ s.size by omega)
 have d1 : decide ((s.size : Int) < 7) = false := decide_eq_false (by omega)
 have d2 : decide (s.size < 7) = false := decide_eq_false c2
 clear c2
 go_upto_region 6 with (fail)
 clear d0 d1 d2
 have q0 : (0 < (s.size : Int)) = True := eq_true (by have := HS7.out; omega)
 have q1 : (0 < s.size) = True := eq_true (by have := HS7.out; omega)
 have hx0 : ((s[0]'(by have := HS7.out; omega)).toNat : Int) = bt s 0 := by unfold bt; rw [dif_pos (show (0 : Int).toNat < s.size by have := HS7.out; omega)]; rfl
 by_cases c3 : bt s 0 = 87
 case neg =>
  have HZ := aM (HH.out.1 c3)
  have d1 : (bt s 0 == 87) = false := beq_eq_false_iff_ne.mpr c3
  have d2 : (bt s 0 != 87) = true := bne_iff_ne.mpr c3
  clear c3 HH
  have hz9 := bx9 BK.out
  go_wp2
  refine bodyPost_ret (results_ct rfl _ _ gb 73 #[.int .i64 0, .int .i64 0, .int .i64 0, .int .i64 0, .int .i64 0, .int .i64 0, .int .i64 0, .slice none 0 0, .slice none 0 0] (0, 0) _ rfl (fset9_blk BK.out) Try.underlying73 rfl (by kernel_rfl)) rfl ?_
  exact P18R.zero HZ.out (fset9_below HB.out GE.out)
 replace HH := aM (HH.out.2 c3)
 have d1 : (bt s 0 == 87) = true := beq_iff_eq.mpr c3
 have d2 : (bt s 0 != 87) = false := by rw [bne_eq_false_iff_eq]; exact c3
 clear c3
 have qb1 : ((1 : Int) < (s.size : Int)) = True := eq_true (by have := HS7.out; omega)
 have rb1 : (1 < s.size) = True := eq_true (by have := HS7.out; omega)
 have hb1 : ((s[1]'(by have := HS7.out; omega)).toNat : Int) = bt s 1 := by unfold bt; rw [dif_pos (show (1 : Int).toNat < s.size by have := HS7.out; omega)]; rfl
 go_upto_region 9 with (first | ((with_reducible refine gate_dst (N := 6) rfl ?_); refine box_event ?hg (N := 6) ?hd (cs := #[.int .i64 0, .int .i64 0, .int .i64 0, .int .i64 0, .int .i64 0, .int .i64 0, .int .i64 0, .slice none 0 0, .slice none 0 0]) (t := 73) ?hr ?_; (case hd => rfl); (case hg => rfl); (case hr => first | (go_simp; done) | (go_simp; rfl)); intro gp hg w3 hbox hb; have BP := aM hbox; have GP := aM ((by rw [hg]; exact below_size HB.out) : w.heap.size ≤ gp); have NE := aM ((by rw [hg]; exact fun e => Nat.lt_irrefl _ (e ▸ blk_lt BK.out)) : gb ≠ gp); replace BK := aM (blk_below BK.out hb); replace HB := aM (below_step HB.out hb); have hz9 := bx9 BP.out; clear hg hbox hb))
 clear hz9 d1 d2 hx0 qb1 rb1 hb1 q0 q1
 have hP : (fset9 w3 gp (.int .i64 0) (.int .i64 0) (.int .i64 0) (.int .i64 0) (.int .i64 0) (.int .i64 0) (.int .i64 (wrap64 (bt s 1))) (.slice none 0 0) (.slice none 0 0)).heap[gp]? = some (.cells #[.int .i64 0, .int .i64 0, .int .i64 0, .int .i64 0, .int .i64 0, .int .i64 0, .int .i64 (wrap64 (bt s 1)), .slice none 0 0, .slice none 0 0] 73 (0, 0)) := fset9_blk BP.out
 have hK : (fset9 w3 gp (.int .i64 0) (.int .i64 0) (.int .i64 0) (.int .i64 0) (.int .i64 0) (.int .i64 0) (.int .i64 (wrap64 (bt s 1))) (.slice none 0 0) (.slice none 0 0)).heap[gb]? = some (.cells #[.int .i64 0, .int .i64 0, .int .i64 0, .int .i64 0, .int .i64 0, .int .i64 0, .int .i64 0, .slice none 0 0, .slice none 0 0] 73 (0, 0)) := (fset9_far _ _ _ _ _ _ _ _ _ _ _ gb NE.out).trans BK.out
 have hB : Below w.heap.size w (fset9 w3 gp (.int .i64 0) (.int .i64 0) (.int .i64 0) (.int .i64 0) (.int .i64 0) (.int .i64 0) (.int .i64 (wrap64 (bt s 1))) (.slice none 0 0) (.slice none 0 0)) := fset9_below HB.out GP.out
 obtain ⟨w4_, hw4⟩ : ∃ x_, (fset9 w3 gp (.int .i64 0) (.int .i64 0) (.int .i64 0) (.int .i64 0) (.int .i64 0) (.int .i64 0) (.int .i64 (wrap64 (bt s 1))) (.slice none 0 0) (.slice none 0 0)) = x_ := ⟨_, rfl⟩
 rw [hw4] at hP hK hB
 have hw4 : (((((((((w3.setCell ⟨gp, 0, none⟩ (.int .i64 0)).setCell ⟨gp, 1, none⟩ (.int .i64 0)).setCell ⟨gp, 2, none⟩ (.int .i64 0)).setCell ⟨gp, 3, none⟩ (.int .i64 0)).setCell ⟨gp, 4, none⟩ (.int .i64 0)).setCell ⟨gp, 5, none⟩ (.int .i64 0)).setCell ⟨gp, 6, none⟩ (.int .i64 (wrap64 (bt s 1)))).setCell ⟨gp, 7, none⟩ (.slice none 0 0)).setCell ⟨gp, 8, none⟩ (.slice none 0 0)) = w4_ := hw4
 rw [hw4]
 clear hw4
 replace BP := aM (show w4_.heap[gp]? = some (.cells (hdr18 s 0) 73 (0, 0)) from hP)
 replace BK := aM hK
 replace HB := aM hB
 clear hP hK hB
 go_wp2
 go_loopw [7] (fun i W' => ∃ n : Nat, n ≤ 6 ∧ i = .int .i64 n ∧ Aside0 (W'.heap[gp]? = some (.cells (hdr18 s n) 73 (0, 0))) ∧ Aside0 (W'.heap[gb]? = some (.cells #[.int .i64 0, .int .i64 0, .int .i64 0, .int .i64 0, .int .i64 0, .int .i64 0, .int .i64 0, .slice none 0 0, .slice none 0 0] 73 (0, 0))) ∧ Aside0 (Below w.heap.size w W')) (fun i _ => 6 - (intOf i).toNat)
 case atStart => exact ⟨0, by omega, rfl, BP, BK, HB⟩
 case round =>
  clear BP BK HB
  obtain ⟨n, hn, rfl, BP, BK, HB⟩ := hrel
  by_cases c4 : n < 6
  case pos =>
   have qb1 : ((1 : Int) < (s.size : Int)) = True := eq_true (by have := HS7.out; omega)
   have rb1 : (1 < s.size) = True := eq_true (by have := HS7.out; omega)
   have hb1 : ((s[1]'(by have := HS7.out; omega)).toNat : Int) = bt s 1 := by unfold bt; rw [dif_pos (show (1 : Int).toNat < s.size by have := HS7.out; omega)]; rfl
   have qb2 : ((2 : Int) < (s.size : Int)) = True := eq_true (by have := HS7.out; omega)
   have rb2 : (2 < s.size) = True := eq_true (by have := HS7.out; omega)
   have hb2 : ((s[2]'(by have := HS7.out; omega)).toNat : Int) = bt s 2 := by unfold bt; rw [dif_pos (show (2 : Int).toNat < s.size by have := HS7.out; omega)]; rfl
   have qb3 : ((3 : Int) < (s.size : Int)) = True := eq_true (by have := HS7.out; omega)
   have rb3 : (3 < s.size) = True := eq_true (by have := HS7.out; omega)
   have hb3 : ((s[3]'(by have := HS7.out; omega)).toNat : Int) = bt s 3 := by unfold bt; rw [dif_pos (show (3 : Int).toNat < s.size by have := HS7.out; omega)]; rfl
   have qb4 : ((4 : Int) < (s.size : Int)) = True := eq_true (by have := HS7.out; omega)
   have rb4 : (4 < s.size) = True := eq_true (by have := HS7.out; omega)
   have hb4 : ((s[4]'(by have := HS7.out; omega)).toNat : Int) = bt s 4 := by unfold bt; rw [dif_pos (show (4 : Int).toNat < s.size by have := HS7.out; omega)]; rfl
   have qb5 : ((5 : Int) < (s.size : Int)) = True := eq_true (by have := HS7.out; omega)
   have rb5 : (5 < s.size) = True := eq_true (by have := HS7.out; omega)
   have hb5 : ((s[5]'(by have := HS7.out; omega)).toNat : Int) = bt s 5 := by unfold bt; rw [dif_pos (show (5 : Int).toNat < s.size by have := HS7.out; omega)]; rfl
   have qb6 : ((6 : Int) < (s.size : Int)) = True := eq_true (by have := HS7.out; omega)
   have rb6 : (6 < s.size) = True := eq_true (by have := HS7.out; omega)
   have hb6 : ((s[6]'(by have := HS7.out; omega)).toNat : Int) = bt s 6 := by unfold bt; rw [dif_pos (show (6 : Int).toNat < s.size by have := HS7.out; omega)]; rfl
   rcases (show n = 0 ∨ n = 1 ∨ n = 2 ∨ n = 3 ∨ n = 4 ∨ n = 5 by omega) with rfl | rfl | rfl | rfl | rfl | rfl
   ·
    clear hn c4
    have hz9 := bx9 BP.out
    go_wp2
    have hp := blk_put BP.out 0 (.int .i64 (wrap64 (bt s 1))) (show (hdr18 s 0).setIfInBounds 0 (.int .i64 (wrap64 (bt s 1))) = hdr18 s 1 from rfl)
    exact ⟨⟨1, by omega, rfl, ⟨hp⟩, ⟨blk_far (p := ⟨gp, 0, none⟩) BK.out NE.out _⟩, ⟨HB.out.setCell (p := ⟨gp, 0, none⟩) GP.out _⟩⟩, by decide⟩
   ·
    clear hn c4
    have hz9 := bx9 BP.out
    go_wp2
    have hp := blk_put BP.out 1 (.int .i64 (wrap64 (bt s 2))) (show (hdr18 s 1).setIfInBounds 1 (.int .i64 (wrap64 (bt s 2))) = hdr18 s 2 from rfl)
    exact ⟨⟨2, by omega, rfl, ⟨hp⟩, ⟨blk_far (p := ⟨gp, 1, none⟩) BK.out NE.out _⟩, ⟨HB.out.setCell (p := ⟨gp, 1, none⟩) GP.out _⟩⟩, by decide⟩
   ·
    clear hn c4
    have hz9 := bx9 BP.out
    go_wp2
    have hp := blk_put BP.out 2 (.int .i64 (wrap64 (bt s 3))) (show (hdr18 s 2).setIfInBounds 2 (.int .i64 (wrap64 (bt s 3))) = hdr18 s 3 from rfl)
    exact ⟨⟨3, by omega, rfl, ⟨hp⟩, ⟨blk_far (p := ⟨gp, 2, none⟩) BK.out NE.out _⟩, ⟨HB.out.setCell (p := ⟨gp, 2, none⟩) GP.out _⟩⟩, by decide⟩
   ·
    clear hn c4
    have hz9 := bx9 BP.out
    go_wp2
    have hp := blk_put BP.out 3 (.int .i64 (wrap64 (bt s 4))) (show (hdr18 s 3).setIfInBounds 3 (.int .i64 (wrap64 (bt s 4))) = hdr18 s 4 from rfl)
    exact ⟨⟨4, by omega, rfl, ⟨hp⟩, ⟨blk_far (p := ⟨gp, 3, none⟩) BK.out NE.out _⟩, ⟨HB.out.setCell (p := ⟨gp, 3, none⟩) GP.out _⟩⟩, by decide⟩
   ·
    clear hn c4
    have hz9 := bx9 BP.out
    go_wp2
    have hp := blk_put BP.out 4 (.int .i64 (wrap64 (bt s 5))) (show (hdr18 s 4).setIfInBounds 4 (.int .i64 (wrap64 (bt s 5))) = hdr18 s 5 from rfl)
    exact ⟨⟨5, by omega, rfl, ⟨hp⟩, ⟨blk_far (p := ⟨gp, 4, none⟩) BK.out NE.out _⟩, ⟨HB.out.setCell (p := ⟨gp, 4, none⟩) GP.out _⟩⟩, by decide⟩
   ·
    clear hn c4
    have hz9 := bx9 BP.out
    go_wp2
    have hp := blk_put BP.out 5 (.int .i64 (wrap64 (bt s 6))) (show (hdr18 s 5).setIfInBounds 5 (.int .i64 (wrap64 (bt s 6))) = hdr18 s 6 from rfl)
    exact ⟨⟨6, by omega, rfl, ⟨hp⟩, ⟨blk_far (p := ⟨gp, 5, none⟩) BK.out NE.out _⟩, ⟨HB.out.setCell (p := ⟨gp, 5, none⟩) GP.out _⟩⟩, by decide⟩
  case neg =>
   obtain ⟨n6, hn6⟩ : ∃ x_ : Int, (n : Int) = x_ := ⟨_, rfl⟩
   have f6 : decide (n6 < 6) = false := decide_eq_false (by omega)
   rw [hn6]
   obtain rfl : n = 6 := by omega
   clear hn6 hn c4
   replace BP := aM (show wr.heap[gp]? = some (.cells #[.int .i64 (wrap64 (bt s 1)), .int .i64 (wrap64 (bt s 2)), .int .i64 (wrap64 (bt s 3)), .int .i64 (wrap64 (bt s 4)), .int .i64 (wrap64 (bt s 5)), .int .i64 (wrap64 (bt s 6)), .int .i64 (wrap64 (bt s 1)), .slice none 0 0, .slice none 0 0] 73 (0, 0)) from BP.out)
   obtain ⟨q, hq, hq1, hq2⟩ := HH.out
   have HQ := aM hq
   have HQ1 := aM hq1
   replace HH := aM hq2
   clear hq hq1 hq2
   have hz8 := bx9 BP.out
   cases q with
   | false =>
    replace HQ1 := aM (HQ1.out rfl)
    clear HH
    have hz9 := bx9 BK.out
    go_wp2_with (first | (go_at_call 22; (with_reducible refine (credenzaref18_RightConfig.calls (wrap64 (bt s 1)) (wrap64 (bt s 2)) (wrap64 (bt s 3)) (wrap64 (bt s 4)) (wrap64 (bt s 5)) (wrap64 (bt s 6)) false _ HQ.out).mono ?_); rintro e w5 ⟨rfl, hb⟩; replace BP := aM (blk_below BP.out hb); replace BK := aM (blk_below BK.out hb); replace HB := aM (below_step HB.out hb); clear hb; clear hz8 hz9; have hz8 := bx9 BP.out; have hz9 := bx9 BK.out))
    refine bodyPost_ret (results_ct rfl _ _ gb 73 #[.int .i64 0, .int .i64 0, .int .i64 0, .int .i64 0, .int .i64 0, .int .i64 0, .int .i64 0, .slice none 0 0, .slice none 0 0] (0, 0) _ rfl (fset9_blk BK.out) Try.underlying73 rfl (by kernel_rfl)) rfl ?_
    exact P18R.zero HQ1.out (fset9_below HB.out GE.out)
   | true =>
    obtain ⟨n, hn, hn1, hn2, hn3⟩ := HH.out rfl
    have HN := aM hn
    clear HH HQ1 hn
    obtain ⟨z, hz⟩ : ∃ x_, wrap64 (7 + wrap64 (4 * n)) = x_ := ⟨_, rfl⟩
    rw [hz] at hn1 hn2 hn3
    have HZE := aM hz
    clear hz
    have hze := HZE.out
    by_cases c5 : (s.size : Int) < z
    case pos =>
     have HZ := aM (hn1 c5)
     have d1 : decide ((s.size : Int) < z) = true := decide_eq_true c5
     clear hn1 hn2 hn3 c5
     have hz9 := bx9 BK.out
     go_wp2_with (first | (go_at_call 22; (with_reducible refine (credenzaref18_RightConfig.calls (wrap64 (bt s 1)) (wrap64 (bt s 2)) (wrap64 (bt s 3)) (wrap64 (bt s 4)) (wrap64 (bt s 5)) (wrap64 (bt s 6)) true _ HQ.out).mono ?_); rintro e w5 ⟨rfl, hb⟩; replace BP := aM (blk_below BP.out hb); replace BK := aM (blk_below BK.out hb); replace HB := aM (below_step HB.out hb); clear hb; clear hz8 hz9; have hz8 := bx9 BP.out; have hz9 := bx9 BK.out) | (go_at_call 27; (with_reducible refine (credenzaref18_Numbers.calls k (wrap64 (bt s 1)) (wrap64 (bt s 2)) (wrap64 (bt s 3)) (wrap64 (bt s 4)) (wrap64 (bt s 5)) (wrap64 (bt s 6)) n _ HN.out).mono ?_); rintro e w6 ⟨rfl, hb⟩; replace BP := aM (blk_below BP.out hb); replace BK := aM (blk_below BK.out hb); replace HB := aM (below_step HB.out hb); clear hb; clear hz8 hz9; have hz8 := bx9 BP.out; have hz9 := bx9 BK.out))
     refine bodyPost_ret (results_ct rfl _ _ gb 73 #[.int .i64 0, .int .i64 0, .int .i64 0, .int .i64 0, .int .i64 0, .int .i64 0, .int .i64 0, .slice none 0 0, .slice none 0 0] (0, 0) _ rfl (fset9_blk BK.out) Try.underlying73 rfl (by kernel_rfl)) rfl ?_
     exact P18R.zero HZ.out (fset9_below HB.out GE.out)
    have d1 : decide ((s.size : Int) < z) = false := decide_eq_false c5
    by_cases c6 : z < (s.size : Int)
    case pos =>
     have HZ := aM (hn2 c6)
     have d2 : decide ((s.size : Int) > z) = true := decide_eq_true c6
     have d3 : decide (z < (s.size : Int)) = true := decide_eq_true c6
     clear hn1 hn2 hn3 c5 c6
     have hz9 := bx9 BK.out
     go_wp2_with (first | (go_at_call 22; (with_reducible refine (credenzaref18_RightConfig.calls (wrap64 (bt s 1)) (wrap64 (bt s 2)) (wrap64 (bt s 3)) (wrap64 (bt s 4)) (wrap64 (bt s 5)) (wrap64 (bt s 6)) true _ HQ.out).mono ?_); rintro e w5 ⟨rfl, hb⟩; replace BP := aM (blk_below BP.out hb); replace BK := aM (blk_below BK.out hb); replace HB := aM (below_step HB.out hb); clear hb; clear hz8 hz9; have hz8 := bx9 BP.out; have hz9 := bx9 BK.out) | (go_at_call 27; (with_reducible refine (credenzaref18_Numbers.calls k (wrap64 (bt s 1)) (wrap64 (bt s 2)) (wrap64 (bt s 3)) (wrap64 (bt s 4)) (wrap64 (bt s 5)) (wrap64 (bt s 6)) n _ HN.out).mono ?_); rintro e w6 ⟨rfl, hb⟩; replace BP := aM (blk_below BP.out hb); replace BK := aM (blk_below BK.out hb); replace HB := aM (below_step HB.out hb); clear hb; clear hz8 hz9; have hz8 := bx9 BP.out; have hz9 := bx9 BK.out))
     refine bodyPost_ret (results_ct rfl _ _ gb 73 #[.int .i64 0, .int .i64 0, .int .i64 0, .int .i64 0, .int .i64 0, .int .i64 0, .int .i64 0, .slice none 0 0, .slice none 0 0] (0, 0) _ rfl (fset9_blk BK.out) Try.underlying73 rfl (by kernel_rfl)) rfl ?_
     exact P18R.zero HZ.out (fset9_below HB.out GE.out)
    have d2 : decide ((s.size : Int) > z) = false := decide_eq_false c6
    have d3 : decide (z < (s.size : Int)) = false := decide_eq_false c6
    obtain ⟨nums, Z, m, e2, hsi, hsn, hsg, h3, hZl, hcnt, hoff, hri, hre, hrz⟩ := hn3 (by omega)
    clear hn1 hn2 hn3 c5 c6
    have HSI := aM hsi
    clear hsi
    have HSN := aM hsn
    clear hsn
    have HSG := aM hsg
    clear hsg
    have HZL := aM hZl
    clear hZl
    have HCN := aM hcnt
    clear hcnt
    have HOF := aM hoff
    clear hoff
    have HRI := aM hri
    clear hri
    have HRE := aM hre
    clear hre
    have HRZ := aM hrz
    clear hrz
    have HM3 := aM h3
    clear h3
    have HML : Aside0 (m ≤ nums.length ∧ nums.length ≤ 300000) := ⟨by have h1_ := HOF.out; have h2_ := HSN.out; have h3_ := HSZ.out; unfold offs at h1_; omega⟩
    go_upto_region 19 with (first | (go_at_call 22; (with_reducible refine (credenzaref18_RightConfig.calls (wrap64 (bt s 1)) (wrap64 (bt s 2)) (wrap64 (bt s 3)) (wrap64 (bt s 4)) (wrap64 (bt s 5)) (wrap64 (bt s 6)) true _ HQ.out).mono ?_); rintro e w5 ⟨rfl, hb⟩; replace BP := aM (blk_below BP.out hb); replace BK := aM (blk_below BK.out hb); replace HB := aM (below_step HB.out hb); clear hb; clear hz8; have hz8 := bx9 BP.out) | (go_at_call 27; (with_reducible refine (credenzaref18_Numbers.calls k (wrap64 (bt s 1)) (wrap64 (bt s 2)) (wrap64 (bt s 3)) (wrap64 (bt s 4)) (wrap64 (bt s 5)) (wrap64 (bt s 6)) n _ HN.out).mono ?_); rintro e w6 ⟨rfl, hb⟩; replace BP := aM (blk_below BP.out hb); replace BK := aM (blk_below BK.out hb); replace HB := aM (below_step HB.out hb); clear hb; clear hz8; have hz8 := bx9 BP.out))
    clear d1 d2 d3 hze HZE HN HQ
    clear hz8
    go_wp2
    go_loopw [8, 9] (fun a_ i_ W' => ∃ (n : Nat) (v_ : Value), i_ = .int .i64 n ∧ a_ = .int .i64 ((7 + 4 * n : Nat) : Int) ∧ Aside0 (n ≤ m) ∧ Aside0 (W'.heap[gp]? = some (.cells #[.int .i64 (wrap64 (bt s 1)), .int .i64 (wrap64 (bt s 2)), .int .i64 (wrap64 (bt s 3)), .int .i64 (wrap64 (bt s 4)), .int .i64 (wrap64 (bt s 5)), .int .i64 (wrap64 (bt s 6)), .int .i64 (wrap64 (bt s 1)), v_, .slice none 0 0] 73 (0, 0))) ∧ Aside0 (W'.heap[gb]? = some (.cells #[.int .i64 0, .int .i64 0, .int .i64 0, .int .i64 0, .int .i64 0, .int .i64 0, .int .i64 0, .slice none 0 0, .slice none 0 0] 73 (0, 0))) ∧ Aside0 (Kd.R (Kd.int .i32) 21 W' w.heap.size (fun _ => True) v_ (nums.take n)) ∧ Aside0 (Below w.heap.size w W')) (fun _ i_ _ => m - (intOf i_).toNat)
    case atStart => exact ⟨0, _, rfl, rfl, ⟨Nat.zero_le _⟩, BP, BK, ⟨Kd.R_nil _ _ _ _ _⟩, HB⟩
    case round =>
     clear BP BK HB
     obtain ⟨n, v, rfl, rfl, HJ, BP, BK, HR, HB⟩ := hrel
     have hz8 := bx9 BP.out
     by_cases q : n < m
     ·
      have f1 : decide ((n : Int) < wrap64 (bt s 4)) = true := decide_eq_true (by rw [HM3.out]; omega)
      obtain ⟨y, hy⟩ : ∃ x_, nums.getD (n) 0 = x_ := ⟨_, rfl⟩
      obtain ⟨a, ha⟩ : ∃ x_, 7 + 4 * (n) = x_ := ⟨_, rfl⟩
      have hsg := HSG.out (n) (by have := HML.out.1; omega)
      rw [hy, ha] at hsg
      have HY := aM hsg
      have hal : a + 4 ≤ s.size := by have h1_ := HSN.out; have h2_ : n < nums.length := (by have := HML.out.1; omega); omega
      have hw4 : wrap64 ((a : Int) + 4) = ((a + 4 : Nat) : Int) := by have h_ := HSZ.out; simp only [wrap64]; omega
      have p1 : ((0 : Int) ≤ (a : Int)) = True := eq_true (by omega)
      have p2 : ((a : Int) ≤ ((a + 4 : Nat) : Int)) = True := eq_true (by omega)
      have p3 : (((a + 4 : Nat) : Int) ≤ (s.size : Int)) = True := eq_true (by omega)
      have p4 : (a ≤ a + 4) = True := eq_true (by omega)
      have p5 : (a + 4 ≤ s.size) = True := eq_true hal
      have p6 : ((a : Int) ≤ (a : Int) + 4) = True := eq_true (by omega)
      have p7 : ((a : Int) + 4 ≤ (s.size : Int)) = True := eq_true (by omega)
      have HA := aM ha
      rw [ha]
      clear hsg ha
      have HTK : Aside0 (nums.take (n + 1) = nums.take n ++ [y]) := ⟨by rw [take_next0 nums n (by have := HML.out.1; omega), hy]⟩
      have HXL : Aside0 ((nums.take n).length ≤ 300000) := ⟨by rw [List.length_take]; have := HML.out.2; omega⟩
      obtain ⟨xs, hxs⟩ : ∃ x_, nums.take n = x_ := ⟨_, rfl⟩
      rw [hxs] at HR HTK HXL
      obtain ⟨Av, cv, rfl⟩ := Kd.R_slice HR.out
      clear hy hxs hal
      go_upto_region 23 with (fail)
      clear hz8 f1
      replace BP := aM (blk_drew BP.out)
      replace BK := aM (blk_drew BK.out)
      replace HR := aM (Kd.R_drew HR.out)
      replace HB := aM (HB.out.drew)
      refine start_ (n := 12) (S := fun w' => w'.cell? ⟨gp, 7, none⟩ = some (.slice Av xs.length cv)) (ds := [11]) #[false, false, false, false, false, false, false, false, false, false, false, false] (by kernel_rfl) rfl rfl (((blk_cell BP.out 7).trans rfl)) (fun hHeld => ?_); refine with_tabW p23.tab23 p23.bits23 (fun HT_ HW_ => ?_)
      generalize wr.drew = w9 at BP BK HR HB hHeld ⊢
      refine pure_ (i := 0) (N := some 78) (v := ?_) (a' := ?_) #[true, false, false, false, false, false, false, false, false, false, false, false] rfl rfl (any_of HT_.out (by kernel_rfl)) (fun _ _ _ h => h) (Or.inl ⟨by rfl, ?_⟩) ?_ ?_
      rotate_left; exact pI; rotate_left; exact pS
      refine pure_ (i := 2) (N := some 80) (v := ?_) (a' := ?_) #[true, false, true, false, false, false, false, false, false, false, false, false] rfl rfl (any_of HT_.out (by kernel_rfl)) (fun _ _ _ h => h) (Or.inl ⟨by rfl, ?_⟩) ?_ ?_
      rotate_left; exact pI; rotate_left; exact pS
      refine pure_ (i := 3) (N := some 81) (v := ?_) (a' := ?_) #[true, false, true, true, false, false, false, false, false, false, false, false] rfl rfl (any_of HT_.out (by kernel_rfl)) (fun _ _ _ h => h) (Or.inl ⟨by rfl, ?_⟩) ?_ ?_
      rotate_left; exact pI; rotate_left; exact pS
      refine pure_ (i := 4) (N := some 82) (v := ?_) (a' := ?_) #[true, false, true, true, true, false, false, false, false, false, false, false] rfl rfl (any_of HT_.out (by kernel_rfl)) (fun _ _ _ h => h) (Or.inl ⟨by rfl, ?_⟩) ?_ ?_
      rotate_left; exact pI; rotate_left; exact pS
      refine pure_ (i := 5) (N := some 83) (v := ?_) (a' := ?_) #[true, false, true, true, true, true, false, false, false, false, false, false] rfl rfl (any_of HT_.out (by kernel_rfl)) (fun _ _ _ h => h) (Or.inl ⟨by rfl, ?_⟩) ?_ ?_
      rotate_left; exact pI; rotate_left; exact pS
      refine pure_ (i := 6) (N := some 84) (v := ?_) (a' := ?_) #[true, false, true, true, true, true, true, false, false, false, false, false] rfl rfl (any_of HT_.out (by kernel_rfl)) (fun _ _ _ h => h) (Or.inl ⟨by rfl, ?_⟩) ?_ ?_
      rotate_left; exact pI; rotate_left; exact pS
      refine take_ (i := 1) (N := some 79) (v := ?_) (a' := ?_) #[true, true, true, true, true, true, true, false, false, false, false, false] rfl rfl (take_ofW HT_.out HW_.out (by kernel_rfl)) (fun _ _ _ h => h) (Or.inl ⟨by rfl, ?_⟩) hHeld ?_ ?_
      rotate_left
      ·
       intro w' s0
       go_simp
       with_reducible rfl
      rotate_left
      ·
       exact pS
      refine one_ (i := 7) (N := some 85) #[true, true, true, true, true, true, true, true, false, false, false, false] rfl rfl (one_of HT_.out (by kernel_rfl)) (by decide) (fun K hK => ?_)
      refine goes_ Try.func54 (by kernel_rfl) rfl #[.string (s.extract a (a + 4))] (by rfl) rfl rfl (by (try simp only [List.map_toArray, List.map_cons, List.map_nil]); first | done | rfl) ?_
      with_reducible refine (credenzaref06_Signed.calls k (s.extract a (a + 4)) y _ HY.out).mono ?_
      rintro e wa ⟨rfl, hd⟩
      refine ⟨_, rfl, ?_⟩
      have hb := hd.below
      clear hd
      replace HR := aM (Kd.R_below HR.out hb)
      replace BP := aM (blk_below BP.out hb)
      replace BK := aM (blk_below BK.out hb)
      replace HB := aM (below_step HB.out hb)
      clear hb
      refine hK.out _ _ (((blk_cell BP.out 7).trans rfl)) (fun hHeld => ?_)
      clear hK K
      refine norm_ (a' := ?_) ?_ ?_
      rotate_left
      ·
       show Act.put _ (some 85) _ = _
       simp only [Act.put, List.setIfInBounds_toArray, List.set_cons_zero, List.set_cons_succ, i64_w, i32_w, IntKind.wrap_u32]
       rfl
      refine one_ (i := 8) (N := some 86) #[true, true, true, true, true, true, true, true, true, false, false, false] rfl rfl (one_of HT_.out (by kernel_rfl)) (by decide) (fun K hK => ?_)
      refine Kd.R_lit_step (Kd.int .i32) _ 21 (by rfl) rfl (xs := ([y] : List Int)) (inner := [.int .i32 y]) (ok := fun _ => True) (okp := fun _ => True) ?hr ?hp (fun _ hk => hk) trivial (Below.refl _ _) (Nat.le_refl _) (by simp) ?_
      (case hr => first | (go_simp; done) | (go_simp; rfl))
      (case hp => exact (Reps.one rfl (Reps.none _ _)))
      intro vl wl ho hb hg hat
      replace HR := aM (Kd.R_below HR.out hb)
      replace BP := aM (blk_below BP.out hb)
      replace BK := aM (blk_below BK.out hb)
      replace HB := aM (below_step HB.out hb)
      obtain ⟨AL, cL, rfl⟩ := slice_one ho
      have HC1 := aM (Kd.R_reads' ho).2.2
      clear ho hb hg hat
      refine hK.out _ _ (((blk_cell BP.out 7).trans rfl)) (fun hHeld => ?_)
      clear hK K
      refine norm_ (a' := ?_) ?_ ?_
      rotate_left
      ·
       show Act.put _ (some 86) _ = _
       simp only [Act.put, List.setIfInBounds_toArray, List.set_cons_zero, List.set_cons_succ, i64_w, i32_w, IntKind.wrap_u32]
       rfl
      refine one_ (i := 9) (N := some 87) #[true, true, true, true, true, true, true, true, true, true, false, false] rfl rfl (one_of HT_.out (by kernel_rfl)) (by decide) (fun K hK => ?_)
      refine Kd.R_append_rows_step (Kd.int .i32) (w0 := w) w.heap.size (by rfl) (.tmp 79) (.tmp 86) 62 21 (.int .i32 0) 4 rfl Try.underlying62 info21 rfl (by decide) (by decide) (.slice Av xs.length cv) xs [y] _ _ _ (fun _ => True) (fun _ => False) rfl rfl ?aO ?aR (fun _ _ h => h) (fun _ h => h.elim) ?aF ?aB ?aS ?aL ?_
      (case aR => exact HC1.out)
      (case aB => exact HB.out)
      (case aF => exact (fun _ _ => trivial))
      (case aO => exact HR.out)
      (case aS => exact (below_size HB.out))
      (case aL => have := HXL.out; simp; omega)
      intro vA wA ho hb hg hat
      replace BP := aM (blk_grown BP.out hg (Kd.R_ne HR.out BP.out (by decide)))
      replace BK := aM (blk_grown BK.out hg (Kd.R_ne HR.out BK.out (by decide)))
      replace HB := aM hb
      obtain ⟨A2, c2_, rfl⟩ := Kd.R_slice ho
      obtain ⟨nL, hnL⟩ : ∃ m_, (xs ++ [y]).length = m_ := ⟨_, rfl⟩
      rw [hnL] at ho ⊢
      replace HR := aM ho
      clear ho hb hg hat hnL HC1
      refine hK.out _ _ (((blk_cell BP.out 7).trans rfl)) (fun hHeld => ?_)
      clear hK K
      refine norm_ (a' := ?_) ?_ ?_
      rotate_left
      ·
       show Act.put _ (some 87) _ = _
       simp only [Act.put, List.setIfInBounds_toArray, List.set_cons_zero, List.set_cons_succ, i64_w, i32_w, IntKind.wrap_u32]
       rfl
      refine pure_ (i := 10) (N := some 88) (v := ?_) (a' := ?_) #[true, true, true, true, true, true, true, true, true, true, true, false] rfl rfl (any_of HT_.out (by kernel_rfl)) (fun _ _ _ h => h) (Or.inl ⟨by rfl, ?_⟩) ?_ ?_
      rotate_left; exact pI; rotate_left; exact pS
      refine last_ (i := 11) (N := none) #[true, true, true, true, true, true, true, true, true, true, true, true] rfl rfl (one_of HT_.out (by kernel_rfl)) (by decide) (fun K hK => ?_)
      have hz3 := bx9 BP.out
      refine skip_ (w1 := ?_) (by rfl) rfl ?_ ?_
      rotate_left
      ·
       go_simp
       rfl
      clear hz3
      refine hK.out _ _ ?_
      clear hK K
      refine done_ (done_of HT_.out (by kernel_rfl)) ?_
      clear hHeld
      have hwn : wrap64 ((n : Int) + 1) = ((n + 1 : Nat) : Int) := by have h1_ := HML.out; simp only [wrap64]; omega
      go_wp2
      try rw [hw4]
      try rw [hwn]
      exact ⟨⟨n + 1, _, rfl, by rw [show 7 + 4 * (n + 1) = a + 4 by have := HA.out; omega], ⟨q⟩, ⟨blk_put BP.out 7 _ rfl⟩, ⟨blk_far BK.out (p := ⟨gp, 7, none⟩) NE.out _⟩, ⟨by rw [HTK.out]; exact r_aside HR.out BP.out (by decide) 7 _⟩, ⟨HB.out.setCell (p := ⟨gp, 7, none⟩) GP.out _⟩⟩, by simp only [intOf]; omega⟩
     ·
      have f1 : decide ((n : Int) < wrap64 (bt s 4)) = false := decide_eq_false (by rw [HM3.out]; omega)
      obtain rfl : n = m := by have := HJ.out; omega
      obtain ⟨Tm, hTm⟩ : ∃ x_, nums.take n = x_ := ⟨_, rfl⟩
      have HTM := aM hTm
      rw [hTm] at HR
      obtain ⟨AT, cT, rfl⟩ := Kd.R_slice HR.out
      obtain ⟨nn, hnn⟩ : ∃ x_ : Int, (n : Int) = x_ := ⟨_, rfl⟩
      rw [hnn] at f1
      have HOF0 : Aside0 (7 + 4 * n = 7 + 4 * offs Z n 0) := ⟨by simp [offs]⟩
      rw [hnn, HOF0.out]
      clear hTm q hnn HJ HOF0
      obtain ⟨Sz, hSz⟩ : ∃ x_, Z.map (·.1) = x_ := ⟨_, rfl⟩
      have HSZL : Aside0 (Sz.length = Z.length) := ⟨by rw [← hSz, List.length_map]⟩
      have HSI2 := HSI.out
      rw [hSz] at HSI2
      replace HSI := aM HSI2
      have HSE := aM hSz
      clear HSI2 hSz
      go_wp2_with (first | (go_at_call 59; (with_reducible refine (credenzaref18_Sizes.calls k (wrap64 (bt s 1)) (wrap64 (bt s 2)) (wrap64 (bt s 3)) (wrap64 (bt s 4)) (wrap64 (bt s 5)) (wrap64 (bt s 6)) Sz _ HSI.out).mono ?_); rintro e w7 ⟨vS, rfl, hs_, hb⟩; have HS := aM (Kd.R_lower hs_ (below_size HB.out)); clear hs_; replace HR := aM (Kd.R_below HR.out hb); replace BP := aM (blk_below BP.out hb); replace BK := aM (blk_below BK.out hb); replace HB := aM (below_step HB.out hb); clear hb hz8; have hz8 := bx9 BP.out))
      obtain ⟨AS, cS, rfl⟩ := Kd.R_slice HS.out
      clear f1 hz8
      go_loopw [8, 11] (fun a_ x_ W' => ∃ (i_ : Nat) (rows : List (List Value)) (vP : Value), x_ = .int .i64 i_ ∧ a_ = .int .i64 ((7 + 4 * offs Z n i_ : Nat) : Int) ∧ Aside0 (i_ ≤ Z.length) ∧ Aside0 (W'.heap[gp]? = some (.cells #[.int .i64 (wrap64 (bt s 1)), .int .i64 (wrap64 (bt s 2)), .int .i64 (wrap64 (bt s 3)), .int .i64 (wrap64 (bt s 4)), .int .i64 (wrap64 (bt s 5)), .int .i64 (wrap64 (bt s 6)), .int .i64 (wrap64 (bt s 1)), .slice AT Tm.length cT, vP] 73 (0, 0))) ∧ Aside0 (W'.heap[gb]? = some (.cells #[.int .i64 0, .int .i64 0, .int .i64 0, .int .i64 0, .int .i64 0, .int .i64 0, .int .i64 0, .slice none 0 0, .slice none 0 0] 73 (0, 0))) ∧ Aside0 (Kd.R (Kd.int .i32) 21 W' w.heap.size (fun _ => True) (.slice AT Tm.length cT) Tm) ∧ Aside0 ((Kd.raw 3).R 111 W' w.heap.size (fun _ => True) vP rows) ∧ Aside0 (PRt W' w.heap.size W'.heap.size rows ((List.range i_).map (pAt Z nums n))) ∧ Aside0 (Kd.R k110 110 W' w.heap.size (fun _ => True) (.slice AS Sz.length cS) Sz) ∧ Aside0 (Below w.heap.size w W')) (fun _ x_ _ => Z.length - (intOf x_).toNat)
      case atStart => exact ⟨0, [], _, rfl, rfl, ⟨Nat.zero_le _⟩, BP, BK, HR, ⟨Kd.R_nil _ _ _ _ _⟩, ⟨⟨rfl, fun j row x h => by simp at h⟩⟩, HS, HB⟩
      case round =>
       clear BP BK HR HS HB
       obtain ⟨c, rows, vP, rfl, rfl, HJ, BP, BK, HR, HP, PR, HS, HB⟩ := hrel
       by_cases q : c < Z.length
       ·
        have f1 : decide ((c : Int) < (Sz.length : Int)) = true := decide_eq_true (by rw [HSZL.out]; omega)
        have f2 : decide (c < Sz.length) = true := decide_eq_true (by rw [HSZL.out]; exact q)
        obtain ⟨⟨⟨zr, zc⟩, zn⟩, hz⟩ : ∃ x_, Z.getD c (⟨0, 0⟩, 0) = x_ := ⟨_, rfl⟩
        have hzm : ((⟨zr, zc⟩ : S110), zn) ∈ Z := by rw [← hz, List.getD_eq_getElem?_getD, List.getElem?_eq_getElem q]; exact List.getElem_mem q
        have HCT := aM (HCN.out _ hzm)
        have hof := offs_succ (m := n) q
        rw [hz] at hof
        have HOS : Aside0 (offs Z n (c + 1) = offs Z n c + zn) := ⟨hof⟩
        have HOE : Aside0 (offs Z n c + zn ≤ nums.length) := ⟨by have h1_ := offs_le (m := n) (show c + 1 ≤ Z.length by omega); have h2_ := HOF.out; rw [hof] at h1_; omega⟩
        have HPX : Aside0 (((List.range (c + 1)).map (pAt Z nums n)) = ((List.range c).map (pAt Z nums n)) ++ [⟨zr, if zr = 0 then 0 else zc, (nums.drop (offs Z n c)).take zn⟩]) := ⟨by rw [List.range_succ, List.map_append]; congr 1; simp only [List.map_cons, List.map_nil, pAt, hz]⟩
        have hsr : rd_T110 Sz (c : Int) = ⟨zr, zc⟩ := by rw [← HSE.out]; unfold rd_T110; rw [Int.toNat_natCast, List.getD_eq_getElem?_getD, List.getElem?_map, List.getElem?_eq_getElem q]; rw [List.getD_eq_getElem?_getD, List.getElem?_eq_getElem q] at hz; simp only [Option.getD_some] at hz; simp [hz]
        have HSR := aM hsr
        obtain ⟨ad, he, hx0, hx1⟩ := at_T110 (Kd.R_reads' HS.out).2.2 (c : Int) (by omega) (by rw [HSZL.out]; omega)
        cases he
        rw [hsr] at hx0 hx1
        simp only [Int.toNat_natCast] at hx0 hx1
        have pc1 : ((c : Int) < (Sz.length : Int)) = True := eq_true (by rw [HSZL.out]; omega)
        have pc2 : (c < Sz.length) = True := eq_true (by rw [HSZL.out]; exact q)
        obtain ⟨M, hM⟩ : ∃ x_, wr.heap.size = x_ := ⟨_, rfl⟩
        have FN : Aside0 (FIN wr w.heap.size M rows ((List.range c).map (pAt Z nums n)) (.slice AT Tm.length cT) Tm vP (.slice (some ad) Sz.length cS) Sz) := ⟨by rw [← hM]; exact ⟨PR.out, R_lt HR.out, R_lt HP.out, R_lt HS.out⟩⟩
        have HMB : Aside0 (w.heap.size ≤ M) := ⟨by rw [← hM]; exact below_size HB.out⟩
        have HML2 : Aside0 (M ≤ wr.heap.size) := ⟨by rw [hM]; exact Nat.le_refl _⟩
        have HLP : Aside0 (rows.length ≤ 100) := ⟨by rw [PR.out.1, List.length_map, List.length_range]; have := HZL.out; omega⟩
        obtain ⟨PL, hPL⟩ : ∃ x_, ((List.range c).map (pAt Z nums n)) = x_ := ⟨_, rfl⟩
        rw [hPL] at FN HPX
        have CX0 := aM hx0
        have CX1 := aM hx1
        clear hz hzm hof hsr hPL PR HR HP HS
        go_upto_region 29 with (fail)
        clear f1 f2 hx0 hx1
        replace FN := aM (FN.out.step (W' := wr.drew) BP.out (fun _ _ _ => rfl))
        replace BP := aM (blk_drew BP.out)
        replace BK := aM (blk_drew BK.out)
        replace HB := aM (HB.out.drew)
        replace HML2 := aM (show M ≤ wr.drew.heap.size from HML2.out)
        replace CX0 := aM (show wr.drew.cell? _ = _ from CX0.out)
        replace CX1 := aM (show wr.drew.cell? _ = _ from CX1.out)
        refine start_ (n := 13) (S := fun w' => w'.cell? (ad.add (c * 2)) = some (.int .i64 zr) ∧ w'.cell? ⟨(ad.add (c * 2)).block, (ad.add (c * 2)).off + 1, none⟩ = some (.int .i64 zc)) (ds := [12]) #[false, false, false, false, false, false, false, false, false, false, false, false, false] (by kernel_rfl) rfl rfl ⟨CX0.out, CX1.out⟩ (fun hHeld => ?_); refine with_tabW p29.tab29 p29.bits29 (fun HT_ HW_ => ?_)
        generalize wr.drew = w9 at FN BP BK HB HML2 CX0 CX1 hHeld ⊢
        refine pure_ (i := 0) (N := some 100) (v := ?_) (a' := ?_) #[true, false, false, false, false, false, false, false, false, false, false, false, false] rfl rfl (any_of HT_.out (by kernel_rfl)) (fun _ _ _ h => h) (Or.inl ⟨by rfl, ?_⟩) ?_ ?_
        rotate_left; exact pI; rotate_left; exact pS
        refine pure_ (i := 1) (N := some 101) (v := ?_) (a' := ?_) #[true, true, false, false, false, false, false, false, false, false, false, false, false] rfl rfl (any_of HT_.out (by kernel_rfl)) (fun _ _ _ h => h) (Or.inl ⟨by rfl, ?_⟩) ?_ ?_
        rotate_left; exact pI; rotate_left; exact pS
        refine pure_ (i := 2) (N := some 102) (v := ?_) (a' := ?_) #[true, true, true, false, false, false, false, false, false, false, false, false, false] rfl rfl (any_of HT_.out (by kernel_rfl)) (fun _ _ _ h => h) (Or.inl ⟨by rfl, ?_⟩) ?_ ?_
        rotate_left; exact pI; rotate_left; exact pS
        refine pure_ (i := 3) (N := some 103) (v := ?_) (a' := ?_) #[true, true, true, true, false, false, false, false, false, false, false, false, false] rfl rfl (any_of HT_.out (by kernel_rfl)) (fun _ _ _ h => h) (Or.inl ⟨by rfl, ?_⟩) ?_ ?_
        rotate_left; exact pI; rotate_left; exact pS
        refine pure_ (i := 5) (N := some 105) (v := ?_) (a' := ?_) #[true, true, true, true, false, true, false, false, false, false, false, false, false] rfl rfl (any_of HT_.out (by kernel_rfl)) (fun _ _ _ h => h) (Or.inl ⟨by rfl, ?_⟩) ?_ ?_
        rotate_left; exact pI; rotate_left; exact pS
        refine pure_ (i := 6) (N := some 106) (v := ?_) (a' := ?_) #[true, true, true, true, false, true, true, false, false, false, false, false, false] rfl rfl (any_of HT_.out (by kernel_rfl)) (fun _ _ _ h => h) (Or.inl ⟨by rfl, ?_⟩) ?_ ?_
        rotate_left; exact pI; rotate_left; exact pS
        refine pure_ (i := 7) (N := some 107) (v := ?_) (a' := ?_) #[true, true, true, true, false, true, true, true, false, false, false, false, false] rfl rfl (any_of HT_.out (by kernel_rfl)) (fun _ _ _ h => h) (Or.inl ⟨by rfl, ?_⟩) ?_ ?_
        rotate_left; exact pI; rotate_left; exact pS
        refine pure_ (i := 8) (N := some 108) (v := ?_) (a' := ?_) #[true, true, true, true, false, true, true, true, true, false, false, false, false] rfl rfl (any_of HT_.out (by kernel_rfl)) (fun _ _ _ h => h) (Or.inl ⟨by rfl, ?_⟩) ?_ ?_
        rotate_left; exact pI; rotate_left; exact pS
        refine take_ (i := 4) (N := some 104) (v := ?_) (a' := ?_) #[true, true, true, true, true, true, true, true, true, false, false, false, false] rfl rfl (take_ofW HT_.out HW_.out (by kernel_rfl)) (fun _ _ _ h => h) (Or.inl ⟨by rfl, ?_⟩) hHeld ?_ ?_
        rotate_left
        ·
         rintro w' ⟨s0, s1⟩
         go_simp
         with_reducible rfl
        rotate_left
        ·
         exact pS
        refine take_ (i := 9) (N := some 109) (v := ?_) (a' := ?_) #[true, true, true, true, true, true, true, true, true, true, false, false, false] rfl rfl (take_ofW HT_.out HW_.out (by kernel_rfl)) (fun _ _ _ h => h) (Or.inl ⟨by rfl, ?_⟩) hHeld ?_ ?_
        rotate_left
        ·
         rintro w' ⟨s0, s1⟩
         go_simp
         with_reducible rfl
        rotate_left
        ·
         exact pS
        refine pure_ (i := 10) (N := some 110) (v := ?_) (a' := ?_) #[true, true, true, true, true, true, true, true, true, true, true, false, false] rfl rfl (any_of HT_.out (by kernel_rfl)) (fun _ _ _ h => h) (Or.inl ⟨by rfl, ?_⟩) ?_ ?_
        rotate_left; exact pI; rotate_left; exact pS
        refine one_ (i := 11) (N := some 12) #[true, true, true, true, true, true, true, true, true, true, true, true, false] rfl rfl (one_of HT_.out (by kernel_rfl)) (by decide) (fun K hK => ?_)
        refine box_step (by rfl) rfl (cs := #[.int .i64 0, .int .i64 0, .slice none 0 0]) (t := 111) ?hr ?_
        (case hr => first | (go_simp; done) | (go_simp; rfl))
        intro g12 hge wq hbox hb
        have G12 := aM (show M ≤ g12 by rw [hge]; exact HML2.out)
        replace FN := aM (FN.out.below BP.out HML2.out hb)
        replace HML2 := aM (Nat.le_trans HML2.out hb.size)
        replace CX0 := aM ((hb.cell (World.block_lt_of_cell? _ _ CX0.out)).trans CX0.out)
        replace CX1 := aM ((hb.cell (World.block_lt_of_cell? _ _ CX1.out)).trans CX1.out)
        replace BP := aM (blk_below BP.out hb)
        replace BK := aM (blk_below BK.out hb)
        replace HB := aM (below_step HB.out hb)
        have B12 := aM hbox
        clear hge hbox hb
        refine hK.out _ _ ⟨CX0.out, CX1.out⟩ (fun hHeld => ?_)
        clear hK K
        refine norm_ (a' := ?_) ?_ ?_
        rotate_left
        ·
         show Act.put _ (some 12) _ = _
         simp only [Act.put, List.setIfInBounds_toArray, List.set_cons_zero, List.set_cons_succ, i64_w, i32_w, IntKind.wrap_u32]
         rfl
        refine last_ (i := 12) (N := none) #[true, true, true, true, true, true, true, true, true, true, true, true, true] rfl rfl (one_of HT_.out (by kernel_rfl)) (by decide) (fun K hK => ?_)
        have hz3 := bx3b B12.out
        refine skip_ (w1 := ?_) (by rfl) rfl ?_ ?_
        rotate_left
        ·
         go_simp
         rfl
        clear hz3
        refine hK.out _ _ ?_
        clear hK K
        refine done_ (done_of HT_.out (by kernel_rfl)) ?_
        have b_ : (((wq.setCell ⟨g12, 0, none⟩ (.int .i64 zr)).setCell ⟨g12, 1, none⟩ (.int .i64 zc)).setCell ⟨g12, 2, none⟩ (.slice none 0 0)).heap[g12]? = some (.cells #[.int .i64 zr, .int .i64 zc, .slice none 0 0] 111 (0, 0)) := blk_put (blk_put (blk_put B12.out 0 _ rfl) 1 _ rfl) 2 _ rfl
        have bp_ := blk_far (blk_far (blk_far BP.out (p := ⟨g12, 0, none⟩) (blk_ne BP.out B12.out (by decide)) (.int .i64 zr)) (p := ⟨g12, 1, none⟩) (blk_ne BP.out B12.out (by decide)) (.int .i64 zc)) (p := ⟨g12, 2, none⟩) (blk_ne BP.out B12.out (by decide)) (.slice none 0 0)
        have bk_ := blk_far (blk_far (blk_far BK.out (p := ⟨g12, 0, none⟩) (blk_ne BK.out B12.out (by decide)) (.int .i64 zr)) (p := ⟨g12, 1, none⟩) (blk_ne BK.out B12.out (by decide)) (.int .i64 zc)) (p := ⟨g12, 2, none⟩) (blk_ne BK.out B12.out (by decide)) (.slice none 0 0)
        have GW12 : w.heap.size ≤ g12 := by have h1_ := G12.out; have h2_ := HMB.out; omega
        have hb_ := ((HB.out.setCell (p := ⟨g12, 0, none⟩) GW12 (.int .i64 zr)).setCell (p := ⟨g12, 1, none⟩) GW12 (.int .i64 zc)).setCell (p := ⟨g12, 2, none⟩) GW12 (.slice none 0 0)
        have fn_ := FN.out.step (W' := (((wq.setCell ⟨g12, 0, none⟩ (.int .i64 zr)).setCell ⟨g12, 1, none⟩ (.int .i64 zc)).setCell ⟨g12, 2, none⟩ (.slice none 0 0))) BP.out (fun k_ h1_ _ => (Below.heap_setCell _ ⟨g12, 2, none⟩ _ k_ (by show k_ ≠ g12; have h_ := G12.out; omega)).trans ((Below.heap_setCell _ ⟨g12, 1, none⟩ _ k_ (by show k_ ≠ g12; have h_ := G12.out; omega)).trans (Below.heap_setCell _ ⟨g12, 0, none⟩ _ k_ (by show k_ ≠ g12; have h_ := G12.out; omega))))
        have hm_ : M ≤ (((wq.setCell ⟨g12, 0, none⟩ (.int .i64 zr)).setCell ⟨g12, 1, none⟩ (.int .i64 zc)).setCell ⟨g12, 2, none⟩ (.slice none 0 0)).heap.size := by have h1_ := blk_lt b_; have h2_ := G12.out; omega
        generalize (((wq.setCell ⟨g12, 0, none⟩ (.int .i64 zr)).setCell ⟨g12, 1, none⟩ (.int .i64 zc)).setCell ⟨g12, 2, none⟩ (.slice none 0 0)) = wt at b_ bp_ bk_ hb_ fn_ hm_ ⊢
        replace B12 := aM b_
        replace BP := aM bp_
        replace BK := aM bk_
        replace HB := aM hb_
        replace FN := aM fn_
        replace HML2 := aM hm_
        clear b_ bp_ bk_ hb_ fn_ hm_ hHeld CX0 CX1
        have GW := aM GW12
        clear GW12
        go_wp2
        go_loopw [8, 13] (fun a_ x_ W' => ∃ (q_ : Nat) (v_ : Value), x_ = .int .i64 q_ ∧ a_ = .int .i64 ((7 + 4 * (offs Z n c + q_) : Nat) : Int) ∧ Aside0 (q_ ≤ zn) ∧ Aside0 (W'.heap[gp]? = some (.cells #[.int .i64 (wrap64 (bt s 1)), .int .i64 (wrap64 (bt s 2)), .int .i64 (wrap64 (bt s 3)), .int .i64 (wrap64 (bt s 4)), .int .i64 (wrap64 (bt s 5)), .int .i64 (wrap64 (bt s 6)), .int .i64 (wrap64 (bt s 1)), .slice AT Tm.length cT, vP] 73 (0, 0))) ∧ Aside0 (W'.heap[gb]? = some (.cells #[.int .i64 0, .int .i64 0, .int .i64 0, .int .i64 0, .int .i64 0, .int .i64 0, .int .i64 0, .slice none 0 0, .slice none 0 0] 73 (0, 0))) ∧ Aside0 (W'.heap[g12]? = some (.cells #[.int .i64 zr, .int .i64 zc, v_] 111 (0, 0))) ∧ Aside0 (Kd.R (Kd.int .i32) 21 W' M (fun _ => True) v_ ((nums.drop (offs Z n c)).take q_)) ∧ Aside0 (FIN W' w.heap.size M rows PL (.slice AT Tm.length cT) Tm vP (.slice (some ad) Sz.length cS) Sz) ∧ Aside0 (M ≤ W'.heap.size) ∧ Aside0 (Below w.heap.size w W')) (fun _ x_ _ => zn - (intOf x_).toNat)
        case atStart => exact ⟨0, _, rfl, rfl, ⟨Nat.zero_le _⟩, BP, BK, B12, ⟨Kd.R_nil _ _ _ _ _⟩, FN, HML2, HB⟩
        case round =>
         clear BP BK B12 FN HML2 HB
         obtain ⟨d, v, rfl, rfl, HJ2, BP, BK, B12, HR, FN, HML2, HB⟩ := hrel
         obtain ⟨ad', he, hx0, hx1⟩ := at_T110 (Kd.R_reads' FN.out.2.2.2).2.2 (c : Int) (by omega) (by rw [HSZL.out]; omega)
         cases he
         rw [HSR.out] at hx0 hx1
         simp only [Int.toNat_natCast] at hx0 hx1
         have CX0 := aM hx0
         have CX1 := aM hx1
         by_cases q2 : d < zn
         ·
          have f1 : decide ((d : Int) < (zn : Int)) = true := decide_eq_true (by omega)
          have f2 : decide (d < zn) = true := decide_eq_true q2
          obtain ⟨y, hy⟩ : ∃ x_, nums.getD (offs Z n c + d) 0 = x_ := ⟨_, rfl⟩
          obtain ⟨a, ha⟩ : ∃ x_, 7 + 4 * (offs Z n c + d) = x_ := ⟨_, rfl⟩
          have hsg := HSG.out (offs Z n c + d) (by have := HOE.out; omega)
          rw [hy, ha] at hsg
          have HY := aM hsg
          have hal : a + 4 ≤ s.size := by have h1_ := HSN.out; have h2_ : offs Z n c + d < nums.length := (by have := HOE.out; omega); omega
          have hw4 : wrap64 ((a : Int) + 4) = ((a + 4 : Nat) : Int) := by have h_ := HSZ.out; simp only [wrap64]; omega
          have p1 : ((0 : Int) ≤ (a : Int)) = True := eq_true (by omega)
          have p2 : ((a : Int) ≤ ((a + 4 : Nat) : Int)) = True := eq_true (by omega)
          have p3 : (((a + 4 : Nat) : Int) ≤ (s.size : Int)) = True := eq_true (by omega)
          have p4 : (a ≤ a + 4) = True := eq_true (by omega)
          have p5 : (a + 4 ≤ s.size) = True := eq_true hal
          have p6 : ((a : Int) ≤ (a : Int) + 4) = True := eq_true (by omega)
          have p7 : ((a : Int) + 4 ≤ (s.size : Int)) = True := eq_true (by omega)
          have HA := aM ha
          rw [ha]
          clear hsg ha
          have HTK : Aside0 ((nums.drop (offs Z n c)).take (d + 1) = (nums.drop (offs Z n c)).take d ++ [y]) := ⟨by rw [take_next nums _ d (by have := HOE.out; omega), hy]⟩
          have HXL : Aside0 (((nums.drop (offs Z n c)).take d).length ≤ 300000) := ⟨by rw [List.length_take]; have h1_ := HOE.out; have h2_ := HML.out.2; omega⟩
          obtain ⟨xs, hxs⟩ : ∃ x_, (nums.drop (offs Z n c)).take d = x_ := ⟨_, rfl⟩
          rw [hxs] at HR HTK HXL
          obtain ⟨Av, cv, rfl⟩ := Kd.R_slice HR.out
          clear hy hxs hal
          go_upto_region 33 with (first | (go_at_call 60; (with_reducible refine (credenzaref18_count.calls zr zc (zn : Int) _ HCT.out).mono ?_); rintro e w8 ⟨rfl, hb⟩; replace HR := aM (Kd.R_below HR.out hb); replace B12 := aM (blk_below B12.out hb); replace FN := aM (FN.out.below BP.out HML2.out hb); replace HML2 := aM (Nat.le_trans HML2.out hb.size); replace CX0 := aM ((hb.cell (World.block_lt_of_cell? _ _ CX0.out)).trans CX0.out); replace CX1 := aM ((hb.cell (World.block_lt_of_cell? _ _ CX1.out)).trans CX1.out); replace BP := aM (blk_below BP.out hb); replace BK := aM (blk_below BK.out hb); replace HB := aM (below_step HB.out hb); clear hb hx0 hx1))
          clear f1 f2
          replace FN := aM (FN.out.step (W' := w8.drew) BP.out (fun _ _ _ => rfl))
          replace BP := aM (blk_drew BP.out)
          replace BK := aM (blk_drew BK.out)
          replace B12 := aM (blk_drew B12.out)
          replace HR := aM (Kd.R_drew HR.out)
          replace HB := aM (HB.out.drew)
          replace HML2 := aM (show M ≤ w8.drew.heap.size from HML2.out)
          replace CX0 := aM (show w8.drew.cell? _ = _ from CX0.out)
          replace CX1 := aM (show w8.drew.cell? _ = _ from CX1.out)
          refine start_ (n := 12) (S := fun w' => w'.cell? ⟨g12, 2, none⟩ = some (.slice Av xs.length cv)) (ds := [11]) #[false, false, false, false, false, false, false, false, false, false, false, false] (by kernel_rfl) rfl rfl (((blk_cell B12.out 2).trans rfl)) (fun hHeld => ?_); refine with_tabW p33.tab33 p33.bits33 (fun HT_ HW_ => ?_)
          generalize w8.drew = w9 at FN BP BK B12 HR HB HML2 CX0 CX1 hHeld ⊢
          refine pure_ (i := 0) (N := some 120) (v := ?_) (a' := ?_) #[true, false, false, false, false, false, false, false, false, false, false, false] rfl rfl (any_of HT_.out (by kernel_rfl)) (fun _ _ _ h => h) (Or.inl ⟨by rfl, ?_⟩) ?_ ?_
          rotate_left; exact pI; rotate_left; exact pS
          refine pure_ (i := 2) (N := some 122) (v := ?_) (a' := ?_) #[true, false, true, false, false, false, false, false, false, false, false, false] rfl rfl (any_of HT_.out (by kernel_rfl)) (fun _ _ _ h => h) (Or.inl ⟨by rfl, ?_⟩) ?_ ?_
          rotate_left; exact pI; rotate_left; exact pS
          refine pure_ (i := 3) (N := some 123) (v := ?_) (a' := ?_) #[true, false, true, true, false, false, false, false, false, false, false, false] rfl rfl (any_of HT_.out (by kernel_rfl)) (fun _ _ _ h => h) (Or.inl ⟨by rfl, ?_⟩) ?_ ?_
          rotate_left; exact pI; rotate_left; exact pS
          refine pure_ (i := 4) (N := some 124) (v := ?_) (a' := ?_) #[true, false, true, true, true, false, false, false, false, false, false, false] rfl rfl (any_of HT_.out (by kernel_rfl)) (fun _ _ _ h => h) (Or.inl ⟨by rfl, ?_⟩) ?_ ?_
          rotate_left; exact pI; rotate_left; exact pS
          refine pure_ (i := 5) (N := some 125) (v := ?_) (a' := ?_) #[true, false, true, true, true, true, false, false, false, false, false, false] rfl rfl (any_of HT_.out (by kernel_rfl)) (fun _ _ _ h => h) (Or.inl ⟨by rfl, ?_⟩) ?_ ?_
          rotate_left; exact pI; rotate_left; exact pS
          refine pure_ (i := 6) (N := some 126) (v := ?_) (a' := ?_) #[true, false, true, true, true, true, true, false, false, false, false, false] rfl rfl (any_of HT_.out (by kernel_rfl)) (fun _ _ _ h => h) (Or.inl ⟨by rfl, ?_⟩) ?_ ?_
          rotate_left; exact pI; rotate_left; exact pS
          refine take_ (i := 1) (N := some 121) (v := ?_) (a' := ?_) #[true, true, true, true, true, true, true, false, false, false, false, false] rfl rfl (take_ofW HT_.out HW_.out (by kernel_rfl)) (fun _ _ _ h => h) (Or.inl ⟨by rfl, ?_⟩) hHeld ?_ ?_
          rotate_left
          ·
           intro w' s0
           go_simp
           with_reducible rfl
          rotate_left
          ·
           exact pS
          refine one_ (i := 7) (N := some 127) #[true, true, true, true, true, true, true, true, false, false, false, false] rfl rfl (one_of HT_.out (by kernel_rfl)) (by decide) (fun K hK => ?_)
          refine goes_ Try.func54 (by kernel_rfl) rfl #[.string (s.extract a (a + 4))] (by rfl) rfl rfl (by (try simp only [List.map_toArray, List.map_cons, List.map_nil]); first | done | rfl) ?_
          with_reducible refine (credenzaref06_Signed.calls k (s.extract a (a + 4)) y _ HY.out).mono ?_
          rintro e wa ⟨rfl, hd⟩
          refine ⟨_, rfl, ?_⟩
          have hb := hd.below
          clear hd
          replace FN := aM (FN.out.below BP.out HML2.out hb)
          replace HML2 := aM (Nat.le_trans HML2.out hb.size)
          replace CX0 := aM ((hb.cell (World.block_lt_of_cell? _ _ CX0.out)).trans CX0.out)
          replace CX1 := aM ((hb.cell (World.block_lt_of_cell? _ _ CX1.out)).trans CX1.out)
          replace HR := aM (Kd.R_below HR.out hb)
          replace B12 := aM (blk_below B12.out hb)
          replace BP := aM (blk_below BP.out hb)
          replace BK := aM (blk_below BK.out hb)
          replace HB := aM (below_step HB.out hb)
          clear hb
          refine hK.out _ _ (((blk_cell B12.out 2).trans rfl)) (fun hHeld => ?_)
          clear hK K
          refine norm_ (a' := ?_) ?_ ?_
          rotate_left
          ·
           show Act.put _ (some 127) _ = _
           simp only [Act.put, List.setIfInBounds_toArray, List.set_cons_zero, List.set_cons_succ, i64_w, i32_w, IntKind.wrap_u32]
           rfl
          refine one_ (i := 8) (N := some 128) #[true, true, true, true, true, true, true, true, true, false, false, false] rfl rfl (one_of HT_.out (by kernel_rfl)) (by decide) (fun K hK => ?_)
          refine Kd.R_lit_step (Kd.int .i32) _ 21 (by rfl) rfl (xs := ([y] : List Int)) (inner := [.int .i32 y]) (ok := fun _ => True) (okp := fun _ => True) ?hr ?hp (fun _ hk => hk) trivial (Below.refl _ _) (Nat.le_refl _) (by simp) ?_
          (case hr => first | (go_simp; done) | (go_simp; rfl))
          (case hp => exact (Reps.one rfl (Reps.none _ _)))
          intro vl wl ho hb hg hat
          replace FN := aM (FN.out.below BP.out HML2.out hb)
          replace HML2 := aM (Nat.le_trans HML2.out hb.size)
          replace CX0 := aM ((hb.cell (World.block_lt_of_cell? _ _ CX0.out)).trans CX0.out)
          replace CX1 := aM ((hb.cell (World.block_lt_of_cell? _ _ CX1.out)).trans CX1.out)
          replace HR := aM (Kd.R_below HR.out hb)
          replace B12 := aM (blk_below B12.out hb)
          replace BP := aM (blk_below BP.out hb)
          replace BK := aM (blk_below BK.out hb)
          replace HB := aM (below_step HB.out hb)
          obtain ⟨AL, cL, rfl⟩ := slice_one ho
          have HC1 := aM (Kd.R_reads' ho).2.2
          clear ho hb hg hat
          refine hK.out _ _ (((blk_cell B12.out 2).trans rfl)) (fun hHeld => ?_)
          clear hK K
          refine norm_ (a' := ?_) ?_ ?_
          rotate_left
          ·
           show Act.put _ (some 128) _ = _
           simp only [Act.put, List.setIfInBounds_toArray, List.set_cons_zero, List.set_cons_succ, i64_w, i32_w, IntKind.wrap_u32]
           rfl
          refine one_ (i := 9) (N := some 129) #[true, true, true, true, true, true, true, true, true, true, false, false] rfl rfl (one_of HT_.out (by kernel_rfl)) (by decide) (fun K hK => ?_)
          refine Kd.R_append_rows_step (Kd.int .i32) (w0 := wl) M (by rfl) (.tmp 121) (.tmp 128) 62 21 (.int .i32 0) 4 rfl Try.underlying62 info21 rfl (by decide) (by decide) (.slice Av xs.length cv) xs [y] _ _ _ (fun _ => True) (fun _ => False) rfl rfl ?aO ?aR (fun _ _ h => h) (fun _ h => h.elim) ?aF ?aB ?aS ?aL ?_
          (case aR => exact HC1.out)
          (case aB => exact (Below.refl _ _))
          (case aF => exact (fun _ _ => trivial))
          (case aO => exact HR.out)
          (case aS => exact HML2.out)
          (case aL => have := HXL.out; simp; omega)
          intro vA wA ho hb hg hat
          replace FN := aM (FN.out.step BP.out (fun k_ h1_ _ => hg.block k_ (Nat.lt_of_lt_of_le h1_ HML2.out) (own_from HR.out k_ h1_)))
          replace BP := aM (blk_grown BP.out hg (Kd.R_ne HR.out BP.out (by decide)))
          replace BK := aM (blk_grown BK.out hg (Kd.R_ne HR.out BK.out (by decide)))
          replace B12 := aM (blk_grown B12.out hg (Kd.R_ne HR.out B12.out (by decide)))
          replace HB := aM (HB.out.trans (below_lower hb HMB.out))
          replace HML2 := aM (Nat.le_trans HML2.out hg.size)
          obtain ⟨A2, c2_, rfl⟩ := Kd.R_slice ho
          obtain ⟨nL, hnL⟩ : ∃ m_, (xs ++ [y]).length = m_ := ⟨_, rfl⟩
          rw [hnL] at ho ⊢
          replace HR := aM ho
          clear ho hb hg hat hnL HC1
          refine hK.out _ _ (((blk_cell B12.out 2).trans rfl)) (fun hHeld => ?_)
          clear hK K
          refine norm_ (a' := ?_) ?_ ?_
          rotate_left
          ·
           show Act.put _ (some 129) _ = _
           simp only [Act.put, List.setIfInBounds_toArray, List.set_cons_zero, List.set_cons_succ, i64_w, i32_w, IntKind.wrap_u32]
           rfl
          refine pure_ (i := 10) (N := some 130) (v := ?_) (a' := ?_) #[true, true, true, true, true, true, true, true, true, true, true, false] rfl rfl (any_of HT_.out (by kernel_rfl)) (fun _ _ _ h => h) (Or.inl ⟨by rfl, ?_⟩) ?_ ?_
          rotate_left; exact pI; rotate_left; exact pS
          refine last_ (i := 11) (N := none) #[true, true, true, true, true, true, true, true, true, true, true, true] rfl rfl (one_of HT_.out (by kernel_rfl)) (by decide) (fun K hK => ?_)
          have hz3 := bx3b B12.out
          refine skip_ (w1 := ?_) (by rfl) rfl ?_ ?_
          rotate_left
          ·
           go_simp
           rfl
          clear hz3
          refine hK.out _ _ ?_
          clear hK K
          refine done_ (done_of HT_.out (by kernel_rfl)) ?_
          clear hHeld
          have hwn : wrap64 ((d : Int) + 1) = ((d + 1 : Nat) : Int) := by have h1_ := HOE.out; have h2_ := HML.out.2; simp only [wrap64]; omega
          go_wp2
          try rw [hw4]
          try rw [hwn]
          exact ⟨⟨d + 1, _, rfl, by rw [show 7 + 4 * (offs Z n c + (d + 1)) = a + 4 by have := HA.out; omega], ⟨q2⟩, ⟨blk_far BP.out (p := ⟨g12, 2, none⟩) (blk_ne BP.out B12.out (by decide)) _⟩, ⟨blk_far BK.out (p := ⟨g12, 2, none⟩) (blk_ne BK.out B12.out (by decide)) _⟩, ⟨blk_put B12.out 2 _ rfl⟩, ⟨by rw [HTK.out]; exact r_aside HR.out B12.out (by decide) 2 _⟩, ⟨FN.out.step BP.out (fun k_ h1_ _ => Below.heap_setCell _ ⟨g12, 2, none⟩ _ k_ (by show k_ ≠ g12; have h_ := G12.out; omega))⟩, ⟨Nat.le_trans G12.out (Nat.le_of_lt (blk_lt (blk_put B12.out 2 _ rfl)))⟩, ⟨HB.out.setCell (p := ⟨g12, 2, none⟩) GW.out _⟩⟩, by simp only [intOf]; omega⟩
         ·
          have f1 : decide ((d : Int) < (zn : Int)) = false := decide_eq_false (by omega)
          have f2 : decide (d < zn) = false := decide_eq_false q2
          obtain rfl : zn = d := by have := HJ2.out; omega
          obtain ⟨xs, hxs⟩ : ∃ x_, (nums.drop (offs Z n c)).take zn = x_ := ⟨_, rfl⟩
          rw [hxs] at HR HPX
          obtain ⟨Av, cv, rfl⟩ := Kd.R_slice HR.out
          obtain ⟨AP, cP, rfl⟩ := Kd.R_slice FN.out.2.2.1
          clear hxs q2
          have hwn : wrap64 ((c : Int) + 1) = ((c + 1 : Nat) : Int) := by have h1_ := HZL.out; simp only [wrap64]; omega
          have hw7 : (7 + 4 * (offs Z n c + zn)) = 7 + 4 * offs Z n (c + 1) := by rw [HOS.out]
          rw [hw7]
          clear hw7
          by_cases zz : zr = 0
          ·
           have f3 : (zr == 0) = true := beq_iff_eq.mpr zz
           rw [if_pos zz] at HPX
           clear zz
           have hz8 := bx9 BP.out
           have hz3 := bx3b B12.out
           go_wp2_with (first | (go_at_call 60; (with_reducible refine (credenzaref18_count.calls zr zc (zn : Int) _ HCT.out).mono ?_); rintro e w8 ⟨rfl, hb⟩; replace HR := aM (Kd.R_below HR.out hb); replace B12 := aM (blk_below B12.out hb); replace FN := aM (FN.out.below BP.out HML2.out hb); replace HML2 := aM (Nat.le_trans HML2.out hb.size); replace CX0 := aM ((hb.cell (World.block_lt_of_cell? _ _ CX0.out)).trans CX0.out); replace CX1 := aM ((hb.cell (World.block_lt_of_cell? _ _ CX1.out)).trans CX1.out); replace BP := aM (blk_below BP.out hb); replace BK := aM (blk_below BK.out hb); replace HB := aM (below_step HB.out hb); clear hb; clear hz8 hz3; have hz8 := bx9 BP.out; have hz3 := bx3b B12.out; replace hx0 := CX0.out; replace hx1 := CX1.out) | ((with_reducible refine gate_dst (N := 143) rfl ?_); replace FN := aM (FN.out.step (W' := w8.setCell ⟨g12, 1, none⟩ (.int .i64 0)) BP.out (fun k_ h1_ _ => Below.heap_setCell _ ⟨g12, 1, none⟩ _ k_ (by show k_ ≠ g12; have h_ := G12.out; omega))); replace HML2 := aM (show M ≤ (w8.setCell ⟨g12, 1, none⟩ (.int .i64 0)).heap.size from Nat.le_trans G12.out (Nat.le_of_lt (blk_lt (blk_put B12.out 1 _ rfl)))); replace BP := aM (blk_far BP.out (p := ⟨g12, 1, none⟩) (blk_ne BP.out B12.out (by decide)) (.int .i64 0)); replace BK := aM (blk_far BK.out (p := ⟨g12, 1, none⟩) (blk_ne BK.out B12.out (by decide)) (.int .i64 0)); replace HR := aM (r_aside HR.out B12.out (by decide) 1 (.int .i64 0)); replace HB := aM (HB.out.setCell (p := ⟨g12, 1, none⟩) GW.out (.int .i64 0)); refine Kd.R_lit (Kd.raw 3) _ 111 ?hg (N := 143) ?hd (xs := ([[.int .i64 zr, .int .i64 0, .slice Av xs.length cv]] : List (List Value))) (inner := [.int .i64 zr, .int .i64 0, .slice Av xs.length cv]) (ok := fun _ => True) (okp := fun _ => True) ?hr ?hp (fun _ hk => hk) trivial (Below.refl _ _) (Nat.le_refl _) (by simp) ?_; (case hd => rfl); (case hg => rfl); (case hr => first | (go_simp; done) | (go_simp; rfl)); (case hp => exact (Reps.c3 ⟨rfl, rfl, by simp [Value.oneCell']⟩ (Reps.none _ _))); intro vl wl ho hb hg hat; replace FN := aM (FN.out.below BP.out HML2.out hb); replace HML2 := aM (Nat.le_trans HML2.out hb.size); replace BP := aM (blk_below BP.out hb); replace BK := aM (blk_below BK.out hb); replace HB := aM (below_step HB.out hb); replace HR := aM (Kd.R_below HR.out hb); obtain ⟨AL, cL, rfl⟩ := slice_one ho; have HC1 := aM (Kd.R_reads' ho).2.2; clear ho hb hg hat hz3 hz8) | ((with_reducible refine gate_builtin (b := .append) (xs := #[.tmp 141, .tmp 143]) rfl ?_); at_builtin; refine Kd.R_append_rows (Kd.raw 3) (w0 := w) w.heap.size rfl (.tmp 141) (.tmp 143) 71 111 (.agg #[.int .i64 0, .int .i64 0, .slice none 0 0]) 40 rfl Try.underlying71 info111 rfl (by decide) (by decide) (.slice AP rows.length cP) rows [[.int .i64 zr, .int .i64 0, .slice Av xs.length cv]] _ _ _ (fun _ => True) (fun _ => False) rfl rfl ?aO ?aR (fun _ _ h => h) (fun _ h => h.elim) ?aF ?aB ?aS ?aL ?_; (case aR => exact HC1.out); (case aB => exact HB.out); (case aF => exact (fun _ _ => trivial)); (case aO => exact (Kd.R_mono FN.out.2.2.1 (fun _ _ => trivial))); (case aS => exact (below_size HB.out)); (case aL => have := HLP.out; simp; omega); intro vA wA ho hb hg hat; have HNT := aM (r_grownT (Kd.R_mono FN.out.2.1 (ok' := fun _ => True) (fun _ _ => trivial)) FN.out.2.2.1 hg (by decide)); have HNS := aM (r_grownT (Kd.R_mono FN.out.2.2.2 (ok' := fun _ => True) (fun _ _ => trivial)) FN.out.2.2.1 hg (by decide)); have PR1 := FN.out.1.now.app (x := ⟨zr, 0, xs⟩) (R_lt (Kd.R_lower HR.out HMB.out)); have HNP := aM (show PRt wA w.heap.size wA.heap.size _ _ from (PR1.step (fun k_ cs_ _ _ h3_ h4_ => hg.block k_ h3_ (fun e_ => by obtain ⟨cs', hc'⟩ := Kd.R_typed FN.out.2.2.1 k_ e_.symm; exact blk_ne h4_ hc' (by decide) rfl))).now); replace BP := aM (blk_grown BP.out hg (Kd.R_ne FN.out.2.2.1 BP.out (by decide))); replace BK := aM (blk_grown BK.out hg (Kd.R_ne FN.out.2.2.1 BK.out (by decide))); obtain ⟨A3, nP, c3_, hnP, rfl⟩ : ∃ A n_ c, n_ = (rows ++ ([[.int .i64 zr, .int .i64 0, .slice Av xs.length cv]] : List (List Value))).length ∧ vA = .slice A n_ c := (by obtain ⟨A, c, e⟩ := Kd.R_slice ho; exact ⟨A, _, c, rfl, e⟩); have HNR := aM ho; replace HB := aM hb; clear ho hb hg hat PR1 hnP FN HR B12; have hz8 := bx9 BP.out))
           try rw [hwn]
           refine ⟨⟨c + 1, rows ++ [[.int .i64 zr, .int .i64 0, .slice Av xs.length cv]], _, rfl, rfl, ⟨q⟩, ⟨blk_put BP.out 8 _ rfl⟩, ⟨blk_far BK.out (p := ⟨gp, 8, none⟩) NE.out _⟩, ⟨r_aside HNT.out BP.out (by decide) 8 _⟩, ⟨r_aside HNR.out BP.out (by decide) 8 _⟩, ⟨?_⟩, ⟨r_aside HNS.out BP.out (by decide) 8 _⟩, ⟨HB.out.setCell (p := ⟨gp, 8, none⟩) GP.out _⟩⟩, by simp only [intOf]; omega⟩
           rw [HPX.out]
           have h_ := HNP.out.step (W' := wA.setCell ⟨gp, 8, none⟩ (.slice A3 nP c3_)) (fun k_ cs_ _ _ _ h4_ => Below.heap_setCell _ ⟨gp, 8, none⟩ _ k_ (blk_ne h4_ BP.out (by decide)))
           simpa using h_
          ·
           have f3 : (zr == 0) = false := beq_eq_false_iff_ne.mpr zz
           rw [if_neg zz] at HPX
           clear zz
           have hz8 := bx9 BP.out
           have hz3 := bx3b B12.out
           go_wp2_with (first | (go_at_call 60; (with_reducible refine (credenzaref18_count.calls zr zc (zn : Int) _ HCT.out).mono ?_); rintro e w8 ⟨rfl, hb⟩; replace HR := aM (Kd.R_below HR.out hb); replace B12 := aM (blk_below B12.out hb); replace FN := aM (FN.out.below BP.out HML2.out hb); replace HML2 := aM (Nat.le_trans HML2.out hb.size); replace CX0 := aM ((hb.cell (World.block_lt_of_cell? _ _ CX0.out)).trans CX0.out); replace CX1 := aM ((hb.cell (World.block_lt_of_cell? _ _ CX1.out)).trans CX1.out); replace BP := aM (blk_below BP.out hb); replace BK := aM (blk_below BK.out hb); replace HB := aM (below_step HB.out hb); clear hb; clear hz8 hz3; have hz8 := bx9 BP.out; have hz3 := bx3b B12.out; replace hx0 := CX0.out; replace hx1 := CX1.out) | ((with_reducible refine gate_dst (N := 143) rfl ?_); refine Kd.R_lit (Kd.raw 3) _ 111 ?hg (N := 143) ?hd (xs := ([[.int .i64 zr, .int .i64 zc, .slice Av xs.length cv]] : List (List Value))) (inner := [.int .i64 zr, .int .i64 zc, .slice Av xs.length cv]) (ok := fun _ => True) (okp := fun _ => True) ?hr ?hp (fun _ hk => hk) trivial (Below.refl _ _) (Nat.le_refl _) (by simp) ?_; (case hd => rfl); (case hg => rfl); (case hr => first | (go_simp; done) | (go_simp; rfl)); (case hp => exact (Reps.c3 ⟨rfl, rfl, by simp [Value.oneCell']⟩ (Reps.none _ _))); intro vl wl ho hb hg hat; replace FN := aM (FN.out.below BP.out HML2.out hb); replace HML2 := aM (Nat.le_trans HML2.out hb.size); replace BP := aM (blk_below BP.out hb); replace BK := aM (blk_below BK.out hb); replace HB := aM (below_step HB.out hb); replace HR := aM (Kd.R_below HR.out hb); obtain ⟨AL, cL, rfl⟩ := slice_one ho; have HC1 := aM (Kd.R_reads' ho).2.2; clear ho hb hg hat hz3 hz8) | ((with_reducible refine gate_builtin (b := .append) (xs := #[.tmp 141, .tmp 143]) rfl ?_); at_builtin; refine Kd.R_append_rows (Kd.raw 3) (w0 := w) w.heap.size rfl (.tmp 141) (.tmp 143) 71 111 (.agg #[.int .i64 0, .int .i64 0, .slice none 0 0]) 40 rfl Try.underlying71 info111 rfl (by decide) (by decide) (.slice AP rows.length cP) rows [[.int .i64 zr, .int .i64 zc, .slice Av xs.length cv]] _ _ _ (fun _ => True) (fun _ => False) rfl rfl ?aO ?aR (fun _ _ h => h) (fun _ h => h.elim) ?aF ?aB ?aS ?aL ?_; (case aR => exact HC1.out); (case aB => exact HB.out); (case aF => exact (fun _ _ => trivial)); (case aO => exact (Kd.R_mono FN.out.2.2.1 (fun _ _ => trivial))); (case aS => exact (below_size HB.out)); (case aL => have := HLP.out; simp; omega); intro vA wA ho hb hg hat; have HNT := aM (r_grownT (Kd.R_mono FN.out.2.1 (ok' := fun _ => True) (fun _ _ => trivial)) FN.out.2.2.1 hg (by decide)); have HNS := aM (r_grownT (Kd.R_mono FN.out.2.2.2 (ok' := fun _ => True) (fun _ _ => trivial)) FN.out.2.2.1 hg (by decide)); have PR1 := FN.out.1.now.app (x := ⟨zr, zc, xs⟩) (R_lt (Kd.R_lower HR.out HMB.out)); have HNP := aM (show PRt wA w.heap.size wA.heap.size _ _ from (PR1.step (fun k_ cs_ _ _ h3_ h4_ => hg.block k_ h3_ (fun e_ => by obtain ⟨cs', hc'⟩ := Kd.R_typed FN.out.2.2.1 k_ e_.symm; exact blk_ne h4_ hc' (by decide) rfl))).now); replace BP := aM (blk_grown BP.out hg (Kd.R_ne FN.out.2.2.1 BP.out (by decide))); replace BK := aM (blk_grown BK.out hg (Kd.R_ne FN.out.2.2.1 BK.out (by decide))); obtain ⟨A3, nP, c3_, hnP, rfl⟩ : ∃ A n_ c, n_ = (rows ++ ([[.int .i64 zr, .int .i64 zc, .slice Av xs.length cv]] : List (List Value))).length ∧ vA = .slice A n_ c := (by obtain ⟨A, c, e⟩ := Kd.R_slice ho; exact ⟨A, _, c, rfl, e⟩); have HNR := aM ho; replace HB := aM hb; clear ho hb hg hat PR1 hnP FN HR B12; have hz8 := bx9 BP.out))
           try rw [hwn]
           refine ⟨⟨c + 1, rows ++ [[.int .i64 zr, .int .i64 zc, .slice Av xs.length cv]], _, rfl, rfl, ⟨q⟩, ⟨blk_put BP.out 8 _ rfl⟩, ⟨blk_far BK.out (p := ⟨gp, 8, none⟩) NE.out _⟩, ⟨r_aside HNT.out BP.out (by decide) 8 _⟩, ⟨r_aside HNR.out BP.out (by decide) 8 _⟩, ⟨?_⟩, ⟨r_aside HNS.out BP.out (by decide) 8 _⟩, ⟨HB.out.setCell (p := ⟨gp, 8, none⟩) GP.out _⟩⟩, by simp only [intOf]; omega⟩
           rw [HPX.out]
           have h_ := HNP.out.step (W' := wA.setCell ⟨gp, 8, none⟩ (.slice A3 nP c3_)) (fun k_ cs_ _ _ _ h4_ => Below.heap_setCell _ ⟨gp, 8, none⟩ _ k_ (blk_ne h4_ BP.out (by decide)))
           simpa using h_
       ·
        have f1 : decide ((c : Int) < (Sz.length : Int)) = false := decide_eq_false (by rw [HSZL.out]; omega)
        have f2 : decide (c < Sz.length) = false := decide_eq_false (by rw [HSZL.out]; exact q)
        obtain rfl : c = Z.length := by have := HJ.out; omega
        obtain ⟨AP, cP, rfl⟩ := Kd.R_slice HP.out
        obtain ⟨PL, hPL⟩ : ∃ x_, pAll Z nums n = x_ := ⟨_, rfl⟩
        have HPL := aM hPL
        unfold pAll at hPL
        rw [hPL] at PR
        have hpr := RowsP.reads HP.out PR.out.rows (Below.refl _ _)
        rw [hpr.2.1] at BP HP
        have RC : Aside0 (RefC wr AT cT Tm AP cP PL) := ⟨⟨(Kd.R_reads' HR.out).2.2, (Kd.R_reads' HR.out).2.1, hpr.1, hpr.2.2⟩⟩
        have HRI2 := HRI.out
        rw [HTM.out, HPL.out] at HRI2
        replace HRI := aM HRI2
        have HRZ2 := HRZ.out
        rw [HTM.out, HPL.out] at HRZ2
        replace HRZ := aM HRZ2
        clear HRI2 HRZ2 hPL hpr HS q
        by_cases ce : e2 = 0
        case neg =>
         have d1 : (e2 != 0) = true := bne_iff_ne.mpr ce
         have HZ := aM (HRE.out ce)
         have hz9 := bx9 BK.out
         go_wp2_with (first | ((with_reducible refine gate_dst (N := 146) rfl ?_); refine load_event ?hg (N := 146) ?hd 73 (.tmp 6) rfl ⟨gp, 0, none⟩ ?hx [.int .i64 (wrap64 (bt s 1)), .int .i64 (wrap64 (bt s 2)), .int .i64 (wrap64 (bt s 3)), .int .i64 (wrap64 (bt s 4)), .int .i64 (wrap64 (bt s 5)), .int .i64 (wrap64 (bt s 6)), .int .i64 (wrap64 (bt s 1)), .slice AT Tm.length cT, .slice AP PL.length cP] (blk_cells (cs := [.int .i64 (wrap64 (bt s 1)), .int .i64 (wrap64 (bt s 2)), .int .i64 (wrap64 (bt s 3)), .int .i64 (wrap64 (bt s 4)), .int .i64 (wrap64 (bt s 5)), .int .i64 (wrap64 (bt s 6)), .int .i64 (wrap64 (bt s 1)), .slice AT Tm.length cT, .slice AP PL.length cP]) BP.out) _ Try.underlying73 rfl (by kernel_rfl) ?_; (case hg => rfl); (case hd => rfl); (case hx => rfl)) | (go_at_call 31; (with_reducible refine (cRight18 k (wrap64 (bt s 1)) (wrap64 (bt s 2)) (wrap64 (bt s 3)) (wrap64 (bt s 4)) (wrap64 (bt s 5)) (wrap64 (bt s 6)) (wrap64 (bt s 1)) AT cT Tm AP cP PL e2 _ RC.out HRI.out).mono ?_); rintro e w8 ⟨rfl, hb⟩; replace RC := aM (RC.out.below hb); replace HR := aM (Kd.R_below HR.out hb); replace HP := aM (Kd.R_below HP.out hb); replace PR := aM (PR.out.step (fun k_ _ _ _ h3_ _ => hb.block k_ h3_)); replace BP := aM (blk_below BP.out hb); replace BK := aM (blk_below BK.out hb); replace HB := aM (below_step HB.out hb); clear hb hz9; have hz9 := bx9 BK.out))
         refine bodyPost_ret (results_ct rfl _ _ gb 73 #[.int .i64 0, .int .i64 0, .int .i64 0, .int .i64 0, .int .i64 0, .int .i64 0, .int .i64 0, .slice none 0 0, .slice none 0 0] (0, 0) _ rfl (fset9_blk BK.out) Try.underlying73 rfl (by kernel_rfl)) rfl ?_
         exact P18R.zero HZ.out (fset9_below HB.out GE.out)
        subst ce
        have d1 : ((0 : Int) != 0) = false := rfl
        obtain ⟨rfl, rfl, rfl, rfl, rfl, rfl, rfl, rfl, rfl, rfl⟩ := and9 (HRZ.out rfl)
        have hz9 := bx9 BK.out
        go_wp2_with (first | ((with_reducible refine gate_dst (N := 146) rfl ?_); refine load_event ?hg (N := 146) ?hd 73 (.tmp 6) rfl ⟨gp, 0, none⟩ ?hx [.int .i64 (wrap64 (bt s 1)), .int .i64 (wrap64 (bt s 2)), .int .i64 (wrap64 (bt s 3)), .int .i64 (wrap64 (bt s 4)), .int .i64 (wrap64 (bt s 5)), .int .i64 (wrap64 (bt s 6)), .int .i64 (wrap64 (bt s 1)), .slice AT T.length cT, .slice AP P.length cP] (blk_cells (cs := [.int .i64 (wrap64 (bt s 1)), .int .i64 (wrap64 (bt s 2)), .int .i64 (wrap64 (bt s 3)), .int .i64 (wrap64 (bt s 4)), .int .i64 (wrap64 (bt s 5)), .int .i64 (wrap64 (bt s 6)), .int .i64 (wrap64 (bt s 1)), .slice AT T.length cT, .slice AP P.length cP]) BP.out) _ Try.underlying73 rfl (by kernel_rfl) ?_; (case hg => rfl); (case hd => rfl); (case hx => rfl)) | ((with_reducible refine gate_dst (N := 152) rfl ?_); refine load_event ?hg (N := 152) ?hd 73 (.tmp 6) rfl ⟨gp, 0, none⟩ ?hx [.int .i64 (wrap64 (bt s 1)), .int .i64 (wrap64 (bt s 2)), .int .i64 (wrap64 (bt s 3)), .int .i64 (wrap64 (bt s 4)), .int .i64 (wrap64 (bt s 5)), .int .i64 (wrap64 (bt s 6)), .int .i64 (wrap64 (bt s 1)), .slice AT T.length cT, .slice AP P.length cP] (blk_cells (cs := [.int .i64 (wrap64 (bt s 1)), .int .i64 (wrap64 (bt s 2)), .int .i64 (wrap64 (bt s 3)), .int .i64 (wrap64 (bt s 4)), .int .i64 (wrap64 (bt s 5)), .int .i64 (wrap64 (bt s 6)), .int .i64 (wrap64 (bt s 1)), .slice AT T.length cT, .slice AP P.length cP]) BP.out) _ Try.underlying73 rfl (by kernel_rfl) ?_; (case hg => rfl); (case hd => rfl); (case hx => rfl)) | (go_at_call 31; (with_reducible refine (cRight18 k (wrap64 (bt s 1)) (wrap64 (bt s 2)) (wrap64 (bt s 3)) (wrap64 (bt s 4)) (wrap64 (bt s 5)) (wrap64 (bt s 6)) (wrap64 (bt s 1)) AT cT T AP cP P 0 _ RC.out HRI.out).mono ?_); rintro e w8 ⟨rfl, hb⟩; replace RC := aM (RC.out.below hb); replace HR := aM (Kd.R_below HR.out hb); replace HP := aM (Kd.R_below HP.out hb); replace PR := aM (PR.out.step (fun k_ _ _ _ h3_ _ => hb.block k_ h3_)); replace BP := aM (blk_below BP.out hb); replace BK := aM (blk_below BK.out hb); replace HB := aM (below_step HB.out hb); clear hb hz9; have hz9 := bx9 BK.out))
        refine bodyPost_ret (results_ct rfl _ _ gb 73 #[.int .i64 (wrap64 (bt s 1)), .int .i64 (wrap64 (bt s 2)), .int .i64 (wrap64 (bt s 3)), .int .i64 (wrap64 (bt s 4)), .int .i64 (wrap64 (bt s 5)), .int .i64 (wrap64 (bt s 6)), .int .i64 (wrap64 (bt s 1)), .slice AT T.length cT, .slice AP P.length cP] (0, 0) _ rfl (fset9_blk BK.out) Try.underlying73 rfl (by kernel_rfl)) rfl ?_
        exact ⟨AT, cT, AP, cP, rfl, RC_end (r_fset9 HR.out BK.out (by decide)) (r_fset9 HP.out BK.out (by decide)) (PR.out.step (fun k_ cs_ _ _ _ h4_ => fset9_far _ _ _ _ _ _ _ _ _ _ _ k_ (blk_ne h4_ BK.out (by decide)))), fset9_below HB.out GE.out⟩
-- calls: credenzaref18_Right credenzaref18_Sizes credenzaref18_count credenzaref18_Numbers credenzaref18_RightConfig credenzaref06_Open credenzaref06_Signed credenzalaw18_ref

end Go.Proofs.Ytehepnmagcjkaaa.PBlobParses
