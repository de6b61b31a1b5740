-- Written by a program of this session (wip/tools/mkprint.py over the kit's print).
import Derived.Test.YtehepnmagcjkaaaPBlobParsesx0
import Derived.Test.YtehepnmagcjkaaaPBlobParsesx7
import Derived.Test.YtehepnmagcjkaaaPBlobParsesx11
namespace Go.Proofs.Ytehepnmagcjkaaa.PBlobParses
open Go.RowKit Go.Proofs.YtehepnmagcjkaaaW.PrintWords Go.Proofs.YtehepnmagcjkaaaW.PrintLast Go.Proofs.YtehepnmagcjkaaaW.PrintMore
attribute [local go_sem] max2_int min2_int max_two min_two max_three min_three max_four min_four   -- for this text's walks alone
set_option linter.unusedVariables false
set_option linter.unusedSimpArgs false
theorem bx2 {w : World} {g : Nat} {t : TypeId} {a0 a1 : Value} (h : w.heap[g]? = some (.cells #[a0, a1] t (0, 0))) : w.cell? ⟨g, 0, none⟩ = some a0 ∧ w.cell? ⟨g, 1, none⟩ = some a1 ∧ (∀ i, w.frozen? ⟨g, i, none⟩ = false) := ⟨(blk_cell h 0).trans rfl, (blk_cell h 1).trans rfl, blk_frozen h⟩
theorem ifp {P : Prop} {_ : Decidable P} {α : Type} {x : Option α} {r : α} (h : (if P then x else none) = some r) : P ∧ x = some r := by
 by_cases p : P
 ·
  rw [if_pos p] at h; exact ⟨p, h⟩
 ·
  rw [if_neg p] at h; cases h
theorem ifn {P : Prop} {_ : Decidable P} {α : Type} {x : Option α} {r : α} (h : (if P then none else x) = some r) : ¬ P ∧ x = some r := by
 by_cases p : P
 ·
  rw [if_pos p] at h; cases h
 ·
  rw [if_neg p] at h; exact ⟨p, h⟩
theorem bst {w W w2 : World} (h : Aside0 (Below w.heap.size w W)) (k : Below W.heap.size W w2) : Aside0 (Below w.heap.size w w2) := ⟨below_step h.out k⟩
theorem bsz {w W : World} (h : Aside0 (Below w.heap.size w W)) : w.heap.size ≤ W.heap.size := below_size h.out
theorem kst {w w1 : World} {g : Nat} {o : Obj} (h : Aside0 (w.heap[g]? = some o)) (hb : Below w.heap.size w w1) : Aside0 (w1.heap[g]? = some o) := ⟨blk_below h.out hb⟩
def bA (n m : Nat) : Array Bool := ⟨(List.range n).map fun i => m.testBit i⟩
section
variable {P : Program} {ops : Array Oper} {Q : Exit → Act → World → Prop} {md : Region.Mode} {S : World → Prop} {ds : List Nat} {T : Bool × List (List Nat × List Nat)} {BM : List Nat}
end
section
variable {P : Program} {ops : Array Oper} {rest : List Oper} {o : Oper} {a : Act} {Q : Exit → Act → World → Prop}
theorem bxE {W : World} (N : Nat) (cs : Array Value) (t : TypeId) (hgd : o.guard = none := by rfl) (hd : o.dst = some N := by rfl) (hr : (execOp a.eval o).run P W = .ok (.value (.pointer (some ⟨W.heap.size, 0, none⟩))) (W.alloc (.cells cs t (0, 0))) := by first | (go_simp; done) | (go_simp; rfl))
  (h : ∀ g, g = W.heap.size → ∀ w1, w1.heap[g]? = some (.cells cs t (0, 0)) → Below W.heap.size W w1 → wpList P ops Q rest (a.put o.dst (.pointer (some ⟨g, 0, none⟩))) w1) : wpList P ops Q (o :: rest) a W := box_event hgd hd hr h
end
theorem gE {w W : World} {gb : Nat} (hg : gb = W.heap.size) (h : Aside0 (Below w.heap.size w W)) : Aside0 (w.heap.size ≤ gb) := ⟨by rw [hg]; exact below_size h.out⟩
theorem dT {p : Prop} [Decidable p] (h : p) : decide p = true := decide_eq_true h
theorem dF {p : Prop} [Decidable p] (h : ¬ p) : decide p = false := decide_eq_false h
theorem oI {α : Type} {a b : α} (h : some a = some b) : a = b := Option.some.inj h

/-! ### credenzaref18_Same: function 37 -/
def sm6.T6 : Bool × List (List Nat × List Nat) := (true, [([], []), ([0], [0]), ([], []), ([1, 2], [1, 2]), ([3], [3]), ([], []), ([5], [5]), ([], []), ([6, 7], [6, 7]), ([8], [8]), ([4, 9], [4, 9])])
def sm6.B6 : List Nat := [0, 1, 0, 7, 15, 0, 32, 0, 224, 480, 1023]
theorem sm6.tab6 : rtab .any (opsOf Try.f37 6) = sm6.T6 := by kernel_rfl
theorem sm6.bits6 : waitsOk sm6.T6.2 sm6.B6 = true := by kernel_rfl
def sm11.T11 : Bool × List (List Nat × List Nat) := (true, [([], []), ([0], [0]), ([], []), ([1, 2], [1, 2]), ([3], [3]), ([], []), ([5], [5]), ([], []), ([6, 7], [6, 7]), ([8], [8]), ([], []), ([], []), ([10, 4, 0, 1, 2, 3, 4, 10, 11], [4, 10]), ([11, 9, 12, 0, 1, 2, 3, 4, 5, 6, 7, 8, 9, 10, 11, 12], [9, 11])])
def sm11.B11 : List Nat := [0, 1, 0, 7, 15, 0, 32, 0, 224, 480, 0, 0, 3103, 8191]
theorem sm11.tab11 : rtab .any (opsOf Try.f37 11) = sm11.T11 := by kernel_rfl
theorem sm11.bits11 : waitsOk sm11.T11.2 sm11.B11 = true := by kernel_rfl
def sm17.T17 : Bool × List (List Nat × List Nat) := (true, [([], []), ([0], [0]), ([], []), ([1, 2], [1, 2]), ([3], [3]), ([], []), ([5], [5]), ([], []), ([6, 7], [6, 7]), ([8], [8]), ([4, 9], [4, 9])])
def sm17.B17 : List Nat := [0, 1, 0, 7, 15, 0, 32, 0, 224, 480, 1023]
theorem sm17.tab17 : rtab .any (opsOf Try.f37 17) = sm17.T17 := by kernel_rfl
theorem sm17.bits17 : waitsOk sm17.T17.2 sm17.B17 = true := by kernel_rfl
theorem eqs_one {P : Program} {d e n i : Nat} {is : List Nat} {xs : Array Value} {a : Value} {w : World} (ha : (part e xs (i * n)).run P w = .ok a w) (he : (Op.equalIn d e a a).run P w = .ok true w) (hr : (Op.eqItems d e n xs xs is).run P w = .ok true w) :
  (Op.eqItems d e n xs xs (i :: is)).run P w = .ok true w := by
 rw [Op.eqItems]
 simp only [Sem.run_bind, ha, he, Result.andThen_ok]
 simpa using hr
theorem same56 (d : Nat) (w : World) (x0 x1 x2 x3 x4 x5 : Int) : (Op.equalIn (d + 2) 56 (.agg #[.int .i64 x0, .int .i64 x1, .int .i64 x2, .int .i64 x3, .int .i64 x4, .int .i64 x5]) (.agg #[.int .i64 x0, .int .i64 x1, .int .i64 x2, .int .i64 x3, .int .i64 x4, .int .i64 x5])).run Try.prog w = .ok true w := by
 obtain ⟨i_, hi_⟩ : ∃ i, Try.prog.info? 3 = some i := Option.isSome_iff_exists.mp (by kernel_rfl)
 have e : ∀ x : Int, (x == x) = true := fun x => beq_self_eq_true x
 rw [run_equalIn_array (P := Try.prog) w (d + 1) _ _ Try.underlying56 hi_, show Try.prog.cellsOf 3 = 1 from by kernel_rfl, show List.range 6 = [0, 1, 2, 3, 4, 5] from rfl]
 refine eqs_one (by go_simp; rfl) (by go_simp) ?_
 refine eqs_one (by go_simp; rfl) (by go_simp) ?_
 refine eqs_one (by go_simp; rfl) (by go_simp) ?_
 refine eqs_one (by go_simp; rfl) (by go_simp) ?_
 refine eqs_one (by go_simp; rfl) (by go_simp) ?_
 refine eqs_one (by go_simp; rfl) (by go_simp) ?_
 simp [Op.eqItems]
attribute [local go_sem high] same56
set_option maxHeartbeats 8000000 in
set_option maxRecDepth 100000 in
theorem same18 (a0_0 a0_1 a0_2 a0_3 a0_4 a0_5 a0_6 : Int) (A7 B7 A8 B8 : Option Addr) (c7 d7 c8 d8 : Nat) (T : List Int) (P : List S111) (w : World) (hr7 : Kd.C (Kd.int .i32) w A7 T.length T) (hr8 : Kd.C k111 w A8 P.length P) (hs7 : Kd.C (Kd.int .i32) w B7 T.length T) (hs8 : Kd.C k111 w B8 P.length P) :
  Calls Try.prog 37 #[.agg #[.int .i64 a0_0, .int .i64 a0_1, .int .i64 a0_2, .int .i64 a0_3, .int .i64 a0_4, .int .i64 a0_5, .int .i64 a0_6, .slice A7 T.length c7, .slice A8 P.length c8], .agg #[.int .i64 a0_0, .int .i64 a0_1, .int .i64 a0_2, .int .i64 a0_3, .int .i64 a0_4, .int .i64 a0_5, .int .i64 a0_6, .slice B7 T.length d7, .slice B8 P.length d8]] w fun e w' => e = .returned (.bool true) ∧ Below w.heap.size w w' := by
 have hu73 := Try.underlying73
 have hu56 := Try.underlying56
 have hu111 := Try.underlying111
 have hu62 := Try.underlying62
 have hu71 := Try.underlying71
 have HR7 := aM hr7
 have HR8 := aM hr8
 have HS7 := aM hs7
 have HS8 := aM hs8
 have hl1 := hr7.2.1
 have hl2 := hr8.2.1
 have HLT := aM hl1
 have HLP := aM hl2
 clear hr7 hr8 hs7 hs8 hl1 hl2
 have HB := aM (Below.refl w.heap.size w)
 have e0 : (a0_0 == a0_0) = true := beq_self_eq_true _
 have e1 : (a0_1 == a0_1) = true := beq_self_eq_true _
 have e2 : (a0_2 == a0_2) = true := beq_self_eq_true _
 have e3 : (a0_3 == a0_3) = true := beq_self_eq_true _
 have e4 : (a0_4 == a0_4) = true := beq_self_eq_true _
 have e5 : (a0_5 == a0_5) = true := beq_self_eq_true _
 have e6 : (a0_6 != a0_6) = false := by simp
 have e7 : ((T.length : Int) != (T.length : Int)) = false := by simp
 have e8 : ((P.length : Int) != (P.length : Int)) = false := by simp
 go_enter Try.func37, Try.ntmps37
 go_upto_region 1 with (first | ((with_reducible refine gate_dst (N := 2) rfl ?_); refine box_event ?hg (N := 2) ?hd (cs := #[.int .i64 a0_0, .int .i64 a0_1, .int .i64 a0_2, .int .i64 a0_3, .int .i64 a0_4, .int .i64 a0_5, .int .i64 a0_6, .slice A7 T.length c7, .slice A8 P.length c8]) (t := 73) ?hr ?_; (case hd => rfl); (case hg => rfl); (case hr => first | (go_simp; done) | (go_simp; rfl)); intro gb hg wgb hbox hb; have BK := aM hbox; replace HB := aM hb; clear hbox hb hg) | ((with_reducible refine gate_dst (N := 3) rfl ?_); refine box_event ?hg (N := 3) ?hd (cs := #[.int .i64 a0_0, .int .i64 a0_1, .int .i64 a0_2, .int .i64 a0_3, .int .i64 a0_4, .int .i64 a0_5, .int .i64 a0_6, .slice B7 T.length d7, .slice B8 P.length d8]) (t := 73) ?hr ?_; (case hd => rfl); (case hg => rfl); (case hr => first | (go_simp; done) | (go_simp; rfl)); intro gd hg wgd hbox hb; have BL := aM hbox; replace BK := aM (blk_below BK.out hb); replace HB := aM (below_step HB.out hb); clear hbox hb hg))
 have hz1 := bx9 BK.out
 have hz2 := bx9 BL.out
 go_wp2
 clear e0 e1 e2 e3 e4 e5 e6 e7 e8 hz1 hz2
 go_loopw [5] (fun i_ W' => ∃ (n_ : Nat), i_ = .int .i64 n_ ∧ Aside0 (n_ ≤ T.length) ∧ Aside0 (W'.heap[gb]? = some (.cells #[.int .i64 a0_0, .int .i64 a0_1, .int .i64 a0_2, .int .i64 a0_3, .int .i64 a0_4, .int .i64 a0_5, .int .i64 a0_6, .slice A7 T.length c7, .slice A8 P.length c8] 73 (0, 0))) ∧ Aside0 (W'.heap[gd]? = some (.cells #[.int .i64 a0_0, .int .i64 a0_1, .int .i64 a0_2, .int .i64 a0_3, .int .i64 a0_4, .int .i64 a0_5, .int .i64 a0_6, .slice B7 T.length d7, .slice B8 P.length d8] 73 (0, 0))) ∧ Aside0 (Below w.heap.size w W')) (fun i_ _ => T.length - (intOf i_).toNat)
 case atStart => exact ⟨0, rfl, ⟨Nat.zero_le _⟩, BK, BL, HB⟩
 case round =>
  clear BK BL HB
  obtain ⟨n, rfl, HJ, BK, BL, HB⟩ := hrel
  have hz1 := bx9 BK.out
  by_cases q : n < T.length
  ·
   have f1 : decide ((n : Int) < (T.length : Int)) = true := decide_eq_true (by omega)
   have f2 : decide (n < T.length) = true := decide_eq_true q
   have hl64 := HLT.out
   have p0 : (0 : Int) ≤ (n : Int) := by omega
   have p1 : (n : Int) < (T.length : Int) := by omega
   have p2 : ((n : Int) < (T.length : Int)) = True := eq_true p1
   have p3 : (n < T.length) = True := eq_true q
   obtain ⟨y, hy⟩ : ∃ x_, rd T (n : Int) = x_ := ⟨_, rfl⟩
   obtain ⟨ad, he, hx⟩ := Kd.at_int HR7.out (n : Int) p0 p1
   cases he
   simp only [Int.toNat_natCast] at hx
   have HXK := aM (World.block_lt_of_cell? w _ hx)
   rw [hy] at hx
   have HXC := aM hx
   clear hx
   obtain ⟨bd, he, hv⟩ := Kd.at_int HS7.out (n : Int) p0 p1
   cases he
   simp only [Int.toNat_natCast] at hv
   have HVK := aM (World.block_lt_of_cell? w _ hv)
   rw [hy] at hv
   have HVC := aM hv
   clear hv
   have yy : (y != y) = false := by simp
   clear hy p0 p1 hl64
   go_upto_region 6 with (fail)
   clear f1 f2 hz1
   replace BK := aM (blk_drew BK.out)
   replace BL := aM (blk_drew BL.out)
   replace HB := aM (HB.out.drew)
   refine start_ (n := 11) (S := fun w' => w'.cell? ⟨gb, 7, none⟩ = some (.slice (some ad) T.length c7) ∧ w'.cell? ⟨gd, 7, none⟩ = some (.slice (some bd) T.length d7) ∧ w'.cell? (ad.add n) = some (.int .i32 y) ∧ w'.cell? (bd.add n) = some (.int .i32 y)) (ds := []) #[false, false, false, false, false, false, false, false, false, false, false] (by kernel_rfl) rfl rfl ⟨((blk_cell BK.out 7).trans rfl), ((blk_cell BL.out 7).trans rfl), ((HB.out.cell HXK.out).trans HXC.out), ((HB.out.cell HVK.out).trans HVC.out)⟩ (fun hHeld => ?_); refine with_tabW sm6.tab6 sm6.bits6 (fun HT_ HW_ => ?_)
   generalize wr.drew = w9 at BK BL HB hHeld ⊢
   refine pure_ (i := 0) (N := some 47) (v := ?_) (a' := ?_) #[true, false, false, false, false, false, false, false, false, false, false] rfl rfl (any_of HT_.out (by kernel_rfl)) (fun _ _ _ h => h) (Or.inl ⟨by rfl, ?_⟩) ?_ ?_
   rotate_left; exact pI; rotate_left; exact pS
   refine pure_ (i := 2) (N := some 49) (v := ?_) (a' := ?_) #[true, false, true, false, false, false, false, false, false, false, false] rfl rfl (any_of HT_.out (by kernel_rfl)) (fun _ _ _ h => h) (Or.inl ⟨by rfl, ?_⟩) ?_ ?_
   rotate_left; exact pI; rotate_left; exact pS
   refine pure_ (i := 5) (N := some 52) (v := ?_) (a' := ?_) #[true, false, true, false, false, true, false, false, false, false, false] rfl rfl (any_of HT_.out (by kernel_rfl)) (fun _ _ _ h => h) (Or.inl ⟨by rfl, ?_⟩) ?_ ?_
   rotate_left; exact pI; rotate_left; exact pS
   refine pure_ (i := 7) (N := some 54) (v := ?_) (a' := ?_) #[true, false, true, false, false, true, false, true, false, false, false] rfl rfl (any_of HT_.out (by kernel_rfl)) (fun _ _ _ h => h) (Or.inl ⟨by rfl, ?_⟩) ?_ ?_
   rotate_left; exact pI; rotate_left; exact pS
   refine take_ (i := 1) (N := some 48) (v := ?_) (a' := ?_) #[true, true, true, false, false, true, false, true, false, false, false] rfl rfl (take_ofW HT_.out HW_.out (by kernel_rfl)) (fun _ _ _ h => h) (Or.inl ⟨by rfl, ?_⟩) hHeld ?_ ?_
   rotate_left
   ·
    rintro w' ⟨s0, s1, s2, s3⟩
    go_simp
    with_reducible rfl
   rotate_left
   ·
    exact pS
   refine pure_ (i := 3) (N := some 50) (v := ?_) (a' := ?_) #[true, true, true, true, false, true, false, true, false, false, false] rfl rfl (any_of HT_.out (by kernel_rfl)) (fun _ _ _ h => h) (Or.inl ⟨by rfl, ?_⟩) ?_ ?_
   rotate_left; exact pI; rotate_left; exact pS
   refine take_ (i := 4) (N := some 51) (v := ?_) (a' := ?_) #[true, true, true, true, true, true, false, true, false, false, false] rfl rfl (take_ofW HT_.out HW_.out (by kernel_rfl)) (fun _ _ _ h => h) (Or.inl ⟨by rfl, ?_⟩) hHeld ?_ ?_
   rotate_left
   ·
    rintro w' ⟨s0, s1, s2, s3⟩
    go_simp
    with_reducible rfl
   rotate_left
   ·
    exact pS
   refine take_ (i := 6) (N := some 53) (v := ?_) (a' := ?_) #[true, true, true, true, true, true, true, true, false, false, false] rfl rfl (take_ofW HT_.out HW_.out (by kernel_rfl)) (fun _ _ _ h => h) (Or.inl ⟨by rfl, ?_⟩) hHeld ?_ ?_
   rotate_left
   ·
    rintro w' ⟨s0, s1, s2, s3⟩
    go_simp
    with_reducible rfl
   rotate_left
   ·
    exact pS
   refine pure_ (i := 8) (N := some 55) (v := ?_) (a' := ?_) #[true, true, true, true, true, true, true, true, true, false, false] rfl rfl (any_of HT_.out (by kernel_rfl)) (fun _ _ _ h => h) (Or.inl ⟨by rfl, ?_⟩) ?_ ?_
   rotate_left; exact pI; rotate_left; exact pS
   refine take_ (i := 9) (N := some 56) (v := ?_) (a' := ?_) #[true, true, true, true, true, true, true, true, true, true, false] rfl rfl (take_ofW HT_.out HW_.out (by kernel_rfl)) (fun _ _ _ h => h) (Or.inl ⟨by rfl, ?_⟩) hHeld ?_ ?_
   rotate_left
   ·
    rintro w' ⟨s0, s1, s2, s3⟩
    go_simp
    with_reducible rfl
   rotate_left
   ·
    exact pS
   refine pure_ (i := 10) (N := some 57) (v := ?_) (a' := ?_) #[true, true, true, true, true, true, true, true, true, true, true] rfl rfl (any_of HT_.out (by kernel_rfl)) (fun _ _ _ h => h) (Or.inl ⟨by rfl, ?_⟩) ?_ ?_
   rotate_left; exact pI; rotate_left; exact pS
   refine done_ (done_of HT_.out (by kernel_rfl)) ?_
   clear hHeld
   have hwn : wrap64 ((n : Int) + 1) = (n : Int) + 1 := by have := HLT.out; simp only [wrap64]; omega
   go_wp2
   try rw [hwn]
   exact ⟨⟨n + 1, rfl, ⟨q⟩, BK, BL, HB⟩, by simp only [intOf]; omega⟩
  ·
   have f1 : decide ((n : Int) < (T.length : Int)) = false := decide_eq_false (by omega)
   have f2 : decide (n < T.length) = false := decide_eq_false q
   obtain ⟨nn, hnn⟩ : ∃ x_ : Int, (n : Int) = x_ := ⟨_, rfl⟩
   rw [hnn] at f1 ⊢
   clear f2 HJ q hnn
   go_wp2
   clear f1 hz1
   go_loopw [6] (fun i_ W' => ∃ (n_ : Nat), i_ = .int .i64 n_ ∧ Aside0 (n_ ≤ P.length) ∧ Aside0 (W'.heap[gb]? = some (.cells #[.int .i64 a0_0, .int .i64 a0_1, .int .i64 a0_2, .int .i64 a0_3, .int .i64 a0_4, .int .i64 a0_5, .int .i64 a0_6, .slice A7 T.length c7, .slice A8 P.length c8] 73 (0, 0))) ∧ Aside0 (W'.heap[gd]? = some (.cells #[.int .i64 a0_0, .int .i64 a0_1, .int .i64 a0_2, .int .i64 a0_3, .int .i64 a0_4, .int .i64 a0_5, .int .i64 a0_6, .slice B7 T.length d7, .slice B8 P.length d8] 73 (0, 0))) ∧ Aside0 (Below w.heap.size w W')) (fun i_ _ => P.length - (intOf i_).toNat)
   case atStart => exact ⟨0, rfl, ⟨Nat.zero_le _⟩, BK, BL, HB⟩
   case round =>
    clear BK BL HB
    obtain ⟨n, rfl, HJ, BK, BL, HB⟩ := hrel
    have hz1 := bx9 BK.out
    by_cases q : n < P.length
    ·
     have f1 : decide ((n : Int) < (P.length : Int)) = true := decide_eq_true (by omega)
     have f2 : decide (n < P.length) = true := decide_eq_true q
     have hl64 := HLP.out
     have p0 : (0 : Int) ≤ (n : Int) := by omega
     have p1 : (n : Int) < (P.length : Int) := by omega
     have p2 : ((n : Int) < (P.length : Int)) = True := eq_true p1
     have p3 : (n < P.length) = True := eq_true q
     obtain ⟨x, hx⟩ : ∃ x, rd_T111 P (n : Int) = x := ⟨_, rfl⟩
     obtain ⟨ud, uA, uc, he, u0, u1, u2, -, uC⟩ := at_T111 HR8.out (n : Int) p0 p1
     cases he
     rw [hx] at u0 u1 u2 uC
     simp only [Int.toNat_natCast] at u0 u1 u2
     obtain ⟨vd, vA, vc, he, v0, v1, v2, -, vC⟩ := at_T111 HS8.out (n : Int) p0 p1
     cases he
     rw [hx] at v0 v1 v2 vC
     simp only [Int.toNat_natCast] at v0 v1 v2
     obtain ⟨x0, y0⟩ : ∃ x_, x.f0 = x_ := ⟨_, rfl⟩
     obtain ⟨x1, y1⟩ : ∃ x_, x.f1 = x_ := ⟨_, rfl⟩
     obtain ⟨xs, y2⟩ : ∃ x_, x.f2 = x_ := ⟨_, rfl⟩
     rw [y0] at u0
     rw [y1] at u1
     rw [y2] at u2 uC
     have UK0 := aM (World.block_lt_of_cell? w _ u0)
     have UC0 := aM u0
     clear u0
     have UK1 := aM (World.block_lt_of_cell? w _ u1)
     have UC1 := aM u1
     clear u1
     have UK2 := aM (World.block_lt_of_cell? w _ u2)
     have UC2 := aM u2
     clear u2
     have HUC := aM uC
     clear uC
     rw [y0] at v0
     rw [y1] at v1
     rw [y2] at v2 vC
     have VK0 := aM (World.block_lt_of_cell? w _ v0)
     have VC0 := aM v0
     clear v0
     have VK1 := aM (World.block_lt_of_cell? w _ v1)
     have VC1 := aM v1
     clear v1
     have VK2 := aM (World.block_lt_of_cell? w _ v2)
     have VC2 := aM v2
     clear v2
     have HVC := aM vC
     clear vC
     clear hx y0 y1 y2 p0 p1 hl64
     go_upto_region 11 with (fail)
     clear f1 f2 hz1
     replace BK := aM (blk_drew BK.out)
     replace BL := aM (blk_drew BL.out)
     replace HB := aM (HB.out.drew)
     refine start_ (n := 14) (S := fun w' => w'.cell? ⟨gb, 8, none⟩ = some (.slice (some ud) P.length c8) ∧ w'.cell? ⟨gd, 8, none⟩ = some (.slice (some vd) P.length d8) ∧ w'.cell? (ud.add (n * 3)) = some (.int .i64 x0) ∧ w'.cell? ⟨(ud.add (n * 3)).block, (ud.add (n * 3)).off + 1, none⟩ = some (.int .i64 x1) ∧ w'.cell? ⟨(ud.add (n * 3)).block, (ud.add (n * 3)).off + 2, none⟩ = some (.slice uA xs.length uc) ∧ w'.cell? (vd.add (n * 3)) = some (.int .i64 x0) ∧ w'.cell? ⟨(vd.add (n * 3)).block, (vd.add (n * 3)).off + 1, none⟩ = some (.int .i64 x1) ∧ w'.cell? ⟨(vd.add (n * 3)).block, (vd.add (n * 3)).off + 2, none⟩ = some (.slice vA xs.length vc)) (ds := []) #[false, false, false, false, false, false, false, false, false, false, false, false, false, false] (by kernel_rfl) rfl rfl ⟨((blk_cell BK.out 8).trans rfl), ((blk_cell BL.out 8).trans rfl), ((HB.out.cell UK0.out).trans UC0.out), ((HB.out.cell UK1.out).trans UC1.out), ((HB.out.cell UK2.out).trans UC2.out), ((HB.out.cell VK0.out).trans VC0.out), ((HB.out.cell VK1.out).trans VC1.out), ((HB.out.cell VK2.out).trans VC2.out)⟩ (fun hHeld => ?_); refine with_tabW sm11.tab11 sm11.bits11 (fun HT_ HW_ => ?_)
     generalize wr.drew = w9 at BK BL HB hHeld ⊢
     refine pure_ (i := 0) (N := some 65) (v := ?_) (a' := ?_) #[true, false, false, false, false, false, false, false, false, false, false, false, false, false] rfl rfl (any_of HT_.out (by kernel_rfl)) (fun _ _ _ h => h) (Or.inl ⟨by rfl, ?_⟩) ?_ ?_
     rotate_left; exact pI; rotate_left; exact pS
     refine pure_ (i := 2) (N := some 67) (v := ?_) (a' := ?_) #[true, false, true, false, false, false, false, false, false, false, false, false, false, false] rfl rfl (any_of HT_.out (by kernel_rfl)) (fun _ _ _ h => h) (Or.inl ⟨by rfl, ?_⟩) ?_ ?_
     rotate_left; exact pI; rotate_left; exact pS
     refine pure_ (i := 5) (N := some 70) (v := ?_) (a' := ?_) #[true, false, true, false, false, true, false, false, false, false, false, false, false, false] rfl rfl (any_of HT_.out (by kernel_rfl)) (fun _ _ _ h => h) (Or.inl ⟨by rfl, ?_⟩) ?_ ?_
     rotate_left; exact pI; rotate_left; exact pS
     refine pure_ (i := 7) (N := some 72) (v := ?_) (a' := ?_) #[true, false, true, false, false, true, false, true, false, false, false, false, false, false] rfl rfl (any_of HT_.out (by kernel_rfl)) (fun _ _ _ h => h) (Or.inl ⟨by rfl, ?_⟩) ?_ ?_
     rotate_left; exact pI; rotate_left; exact pS
     refine take_ (i := 1) (N := some 66) (v := ?_) (a' := ?_) #[true, true, true, false, false, true, false, true, false, false, false, false, false, false] rfl rfl (take_ofW HT_.out HW_.out (by kernel_rfl)) (fun _ _ _ h => h) (Or.inl ⟨by rfl, ?_⟩) hHeld ?_ ?_
     rotate_left
     ·
      rintro w' ⟨s0, s1, s2, s3, s4, s5, s6, s7⟩
      go_simp
      with_reducible rfl
     rotate_left
     ·
      exact pS
     refine pure_ (i := 3) (N := some 68) (v := ?_) (a' := ?_) #[true, true, true, true, false, true, false, true, false, false, false, false, false, false] rfl rfl (any_of HT_.out (by kernel_rfl)) (fun _ _ _ h => h) (Or.inl ⟨by rfl, ?_⟩) ?_ ?_
     rotate_left; exact pI; rotate_left; exact pS
     refine take_ (i := 4) (N := some 69) (v := ?_) (a' := ?_) #[true, true, true, true, true, true, false, true, false, false, false, false, false, false] rfl rfl (take_ofW HT_.out HW_.out (by kernel_rfl)) (fun _ _ _ h => h) (Or.inl ⟨by rfl, ?_⟩) hHeld ?_ ?_
     rotate_left
     ·
      rintro w' ⟨s0, s1, s2, s3, s4, s5, s6, s7⟩
      go_simp
      with_reducible rfl
     rotate_left
     ·
      exact pS
     refine take_ (i := 6) (N := some 71) (v := ?_) (a' := ?_) #[true, true, true, true, true, true, true, true, false, false, false, false, false, false] rfl rfl (take_ofW HT_.out HW_.out (by kernel_rfl)) (fun _ _ _ h => h) (Or.inl ⟨by rfl, ?_⟩) hHeld ?_ ?_
     rotate_left
     ·
      rintro w' ⟨s0, s1, s2, s3, s4, s5, s6, s7⟩
      go_simp
      with_reducible rfl
     rotate_left
     ·
      exact pS
     refine pure_ (i := 8) (N := some 73) (v := ?_) (a' := ?_) #[true, true, true, true, true, true, true, true, true, false, false, false, false, false] rfl rfl (any_of HT_.out (by kernel_rfl)) (fun _ _ _ h => h) (Or.inl ⟨by rfl, ?_⟩) ?_ ?_
     rotate_left; exact pI; rotate_left; exact pS
     refine take_ (i := 9) (N := some 74) (v := ?_) (a' := ?_) #[true, true, true, true, true, true, true, true, true, true, false, false, false, false] rfl rfl (take_ofW HT_.out HW_.out (by kernel_rfl)) (fun _ _ _ h => h) (Or.inl ⟨by rfl, ?_⟩) hHeld ?_ ?_
     rotate_left
     ·
      rintro w' ⟨s0, s1, s2, s3, s4, s5, s6, s7⟩
      go_simp
      with_reducible rfl
     rotate_left
     ·
      exact pS
     refine join_ (σ := Nat × Nat) 2 #[true, true, true, true, true, true, true, true, true, true, true, true, false, false] (fun st => [(7, .pointer (some ⟨st.1, 0, none⟩)), (8, .pointer (some ⟨st.2, 0, none⟩))]) (fun st w' => Aside0 (w'.heap[gb]? = some (.cells #[.int .i64 a0_0, .int .i64 a0_1, .int .i64 a0_2, .int .i64 a0_3, .int .i64 a0_4, .int .i64 a0_5, .int .i64 a0_6, .slice A7 T.length c7, .slice (some ud) P.length c8] 73 (0, 0))) ∧ Aside0 (w'.heap[gd]? = some (.cells #[.int .i64 a0_0, .int .i64 a0_1, .int .i64 a0_2, .int .i64 a0_3, .int .i64 a0_4, .int .i64 a0_5, .int .i64 a0_6, .slice B7 T.length d7, .slice (some vd) P.length d8] 73 (0, 0))) ∧ Aside0 (Below w.heap.size w w') ∧ Aside0 (w'.heap[st.1]? = some (.cells #[.int .i64 0, .int .i64 0, .slice none 0 0] 111 (0, 0))) ∧ Aside0 (w'.heap[st.2]? = some (.cells #[.int .i64 0, .int .i64 0, .slice none 0 0] 111 (0, 0))) ∧ Aside0 (w.heap.size ≤ st.1) ∧ Aside0 (w.heap.size ≤ st.2) ∧ Aside0 (st.1 ≠ st.2)) ?_ ?_
     rotate_left
     ·
      intro hCont
      refine two_ (i := 10) (j := 11) (Ni := some 7) (Nj := some 8) #[true, true, true, true, true, true, true, true, true, true, true, false, false, false] #[true, true, true, true, true, true, true, true, true, true, false, true, false, false] rfl rfl rfl rfl (two_of HT_.out (by kernel_rfl)) (by decide) (by decide) (fun K hK => ?_) (fun K hK => ?_)
      ·
       skip
       refine box_step (by rfl) rfl (cs := #[.int .i64 0, .int .i64 0, .slice none 0 0]) (t := 111) ?hr ?_
       (case hr => first | (go_simp; done) | (go_simp; rfl))
       intro g7 hge wq hbox hb
       have G7 := aM (show w.heap.size ≤ g7 by rw [hge]; exact below_size HB.out)
       replace BK := aM (blk_below BK.out hb)
       replace BL := aM (blk_below BL.out hb)
       replace HB := aM (below_step HB.out hb)
       have B7_ := aM hbox
       clear hge hbox hb
       refine hK.out _ _ ⟨((blk_cell BK.out 8).trans rfl), ((blk_cell BL.out 8).trans rfl), ((HB.out.cell UK0.out).trans UC0.out), ((HB.out.cell UK1.out).trans UC1.out), ((HB.out.cell UK2.out).trans UC2.out), ((HB.out.cell VK0.out).trans VC0.out), ((HB.out.cell VK1.out).trans VC1.out), ((HB.out.cell VK2.out).trans VC2.out)⟩ (fun hHeld => ?_)
       clear hK K
       refine norm_ (a' := ?_) ?_ ?_
       rotate_left
       ·
        show Act.put _ (some 7) _ = _
        simp only [Act.put, List.setIfInBounds_toArray, List.set_cons_zero, List.set_cons_succ, i64_w, i32_w, IntKind.wrap_u32]
        rfl
       refine one_ (i := 11) (N := some 8) #[true, true, true, true, true, true, true, true, true, true, true, true, false, false] rfl rfl (one_of HT_.out (by kernel_rfl)) (by decide) (fun K hK => ?_)
       refine box_step (by rfl) rfl (cs := #[.int .i64 0, .int .i64 0, .slice none 0 0]) (t := 111) ?hr ?_
       (case hr => first | (go_simp; done) | (go_simp; rfl))
       intro g8 hge wq hbox hb
       have G8 := aM (show w.heap.size ≤ g8 by rw [hge]; exact below_size HB.out)
       have NE := aM (show g7 ≠ g8 by have h_ := blk_lt B7_.out; omega)
       replace BK := aM (blk_below BK.out hb)
       replace BL := aM (blk_below BL.out hb)
       replace HB := aM (below_step HB.out hb)
       replace B7_ := aM (blk_below B7_.out hb)
       have B8_ := aM hbox
       clear hge hbox hb
       refine hK.out _ _ ⟨((blk_cell BK.out 8).trans rfl), ((blk_cell BL.out 8).trans rfl), ((HB.out.cell UK0.out).trans UC0.out), ((HB.out.cell UK1.out).trans UC1.out), ((HB.out.cell UK2.out).trans UC2.out), ((HB.out.cell VK0.out).trans VC0.out), ((HB.out.cell VK1.out).trans VC1.out), ((HB.out.cell VK2.out).trans VC2.out)⟩ (fun hHeld => ?_)
       clear hK K
       refine norm_ (a' := ?_) ?_ ?_
       rotate_left
       ·
        show Act.put _ (some 8) _ = _
        simp only [Act.put, List.setIfInBounds_toArray, List.set_cons_zero, List.set_cons_succ, i64_w, i32_w, IntKind.wrap_u32]
        rfl
       exact norm_ (by simp only [putAll, Act.put, List.setIfInBounds_toArray, List.set_cons_zero, List.set_cons_succ]) (hCont (g7, g8) _ ⟨BK, BL, HB, B7_, B8_, G7, G8, NE⟩)
      ·
       skip
       refine box_step (by rfl) rfl (cs := #[.int .i64 0, .int .i64 0, .slice none 0 0]) (t := 111) ?hr ?_
       (case hr => first | (go_simp; done) | (go_simp; rfl))
       intro g8 hge wq hbox hb
       have G8 := aM (show w.heap.size ≤ g8 by rw [hge]; exact below_size HB.out)
       replace BK := aM (blk_below BK.out hb)
       replace BL := aM (blk_below BL.out hb)
       replace HB := aM (below_step HB.out hb)
       have B8_ := aM hbox
       clear hge hbox hb
       refine hK.out _ _ ⟨((blk_cell BK.out 8).trans rfl), ((blk_cell BL.out 8).trans rfl), ((HB.out.cell UK0.out).trans UC0.out), ((HB.out.cell UK1.out).trans UC1.out), ((HB.out.cell UK2.out).trans UC2.out), ((HB.out.cell VK0.out).trans VC0.out), ((HB.out.cell VK1.out).trans VC1.out), ((HB.out.cell VK2.out).trans VC2.out)⟩ (fun hHeld => ?_)
       clear hK K
       refine norm_ (a' := ?_) ?_ ?_
       rotate_left
       ·
        show Act.put _ (some 8) _ = _
        simp only [Act.put, List.setIfInBounds_toArray, List.set_cons_zero, List.set_cons_succ, i64_w, i32_w, IntKind.wrap_u32]
        rfl
       refine one_ (i := 10) (N := some 7) #[true, true, true, true, true, true, true, true, true, true, true, true, false, false] rfl rfl (one_of HT_.out (by kernel_rfl)) (by decide) (fun K hK => ?_)
       refine box_step (by rfl) rfl (cs := #[.int .i64 0, .int .i64 0, .slice none 0 0]) (t := 111) ?hr ?_
       (case hr => first | (go_simp; done) | (go_simp; rfl))
       intro g7 hge wq hbox hb
       have G7 := aM (show w.heap.size ≤ g7 by rw [hge]; exact below_size HB.out)
       have NE := aM (show g7 ≠ g8 by have h_ := blk_lt B8_.out; omega)
       replace BK := aM (blk_below BK.out hb)
       replace BL := aM (blk_below BL.out hb)
       replace HB := aM (below_step HB.out hb)
       replace B8_ := aM (blk_below B8_.out hb)
       have B7_ := aM hbox
       clear hge hbox hb
       refine hK.out _ _ ⟨((blk_cell BK.out 8).trans rfl), ((blk_cell BL.out 8).trans rfl), ((HB.out.cell UK0.out).trans UC0.out), ((HB.out.cell UK1.out).trans UC1.out), ((HB.out.cell UK2.out).trans UC2.out), ((HB.out.cell VK0.out).trans VC0.out), ((HB.out.cell VK1.out).trans VC1.out), ((HB.out.cell VK2.out).trans VC2.out)⟩ (fun hHeld => ?_)
       clear hK K
       refine norm_ (a' := ?_) ?_ ?_
       rotate_left
       ·
        show Act.put _ (some 7) _ = _
        simp only [Act.put, List.setIfInBounds_toArray, List.set_cons_zero, List.set_cons_succ, i64_w, i32_w, IntKind.wrap_u32]
        rfl
       exact norm_ (by simp only [putAll, Act.put, List.setIfInBounds_toArray, List.set_cons_zero, List.set_cons_succ]) (hCont (g7, g8) _ ⟨BK, BL, HB, B7_, B8_, G7, G8, NE⟩)
     clear BK BL HB
     rintro ⟨g7, g8⟩ w5 ⟨BK, BL, HB, B7_, B8_, G7, G8, NE⟩
     have hHeld : w5.cell? ⟨gb, 8, none⟩ = some (.slice (some ud) P.length c8) ∧ w5.cell? ⟨gd, 8, none⟩ = some (.slice (some vd) P.length d8) ∧ w5.cell? (ud.add (n * 3)) = some (.int .i64 x0) ∧ w5.cell? ⟨(ud.add (n * 3)).block, (ud.add (n * 3)).off + 1, none⟩ = some (.int .i64 x1) ∧ w5.cell? ⟨(ud.add (n * 3)).block, (ud.add (n * 3)).off + 2, none⟩ = some (.slice uA xs.length uc) ∧ w5.cell? (vd.add (n * 3)) = some (.int .i64 x0) ∧ w5.cell? ⟨(vd.add (n * 3)).block, (vd.add (n * 3)).off + 1, none⟩ = some (.int .i64 x1) ∧ w5.cell? ⟨(vd.add (n * 3)).block, (vd.add (n * 3)).off + 2, none⟩ = some (.slice vA xs.length vc) := ⟨((blk_cell BK.out 8).trans rfl), ((blk_cell BL.out 8).trans rfl), ((HB.out.cell UK0.out).trans UC0.out), ((HB.out.cell UK1.out).trans UC1.out), ((HB.out.cell UK2.out).trans UC2.out), ((HB.out.cell VK0.out).trans VC0.out), ((HB.out.cell VK1.out).trans VC1.out), ((HB.out.cell VK2.out).trans VC2.out)⟩
     dsimp only at B7_ B8_ G7 G8 NE ⊢
     refine norm_ (a' := ?_) ?_ ?_
     rotate_left
     ·
      simp only [putAll, Act.put, List.setIfInBounds_toArray, List.set_cons_zero, List.set_cons_succ]
      rfl
     refine one_ (i := 12) (N := none) #[true, true, true, true, true, true, true, true, true, true, true, true, true, false] rfl rfl (one_of HT_.out (by kernel_rfl)) (by decide) (fun K hK => ?_)
     have hz7 := bx3b B7_.out
     refine skip_ (w1 := ?_) (by rfl) rfl ?_ ?_
     rotate_left
     ·
      go_simp
      rfl
     clear hz7
     have b_ : (((w5.setCell ⟨g7, 0, none⟩ (.int .i64 x0)).setCell ⟨g7, 1, none⟩ (.int .i64 x1)).setCell ⟨g7, 2, none⟩ (.slice uA xs.length uc)).heap[g7]? = some (.cells #[.int .i64 x0, .int .i64 x1, .slice uA xs.length uc] 111 (0, 0)) := blk_put (blk_put (blk_put B7_.out 0 _ rfl) 1 _ rfl) 2 _ rfl
     have bk_ := blk_far (blk_far (blk_far BK.out (p := ⟨g7, 0, none⟩) (blk_ne BK.out B7_.out (by decide)) (.int .i64 x0)) (p := ⟨g7, 1, none⟩) (blk_ne BK.out B7_.out (by decide)) (.int .i64 x1)) (p := ⟨g7, 2, none⟩) (blk_ne BK.out B7_.out (by decide)) (.slice uA xs.length uc)
     have bl_ := blk_far (blk_far (blk_far BL.out (p := ⟨g7, 0, none⟩) (blk_ne BL.out B7_.out (by decide)) (.int .i64 x0)) (p := ⟨g7, 1, none⟩) (blk_ne BL.out B7_.out (by decide)) (.int .i64 x1)) (p := ⟨g7, 2, none⟩) (blk_ne BL.out B7_.out (by decide)) (.slice uA xs.length uc)
     have b8__ := blk_far (blk_far (blk_far B8_.out (p := ⟨g7, 0, none⟩) (Ne.symm NE.out) (.int .i64 x0)) (p := ⟨g7, 1, none⟩) (Ne.symm NE.out) (.int .i64 x1)) (p := ⟨g7, 2, none⟩) (Ne.symm NE.out) (.slice uA xs.length uc)
     have hb_ := ((HB.out.setCell (p := ⟨g7, 0, none⟩) G7.out (.int .i64 x0)).setCell (p := ⟨g7, 1, none⟩) G7.out (.int .i64 x1)).setCell (p := ⟨g7, 2, none⟩) G7.out (.slice uA xs.length uc)
     generalize (((w5.setCell ⟨g7, 0, none⟩ (.int .i64 x0)).setCell ⟨g7, 1, none⟩ (.int .i64 x1)).setCell ⟨g7, 2, none⟩ (.slice uA xs.length uc)) = w6 at b_ bk_ bl_ b8__ hb_ ⊢
     replace B7_ := aM b_
     replace BK := aM bk_
     replace BL := aM bl_
     replace B8_ := aM b8__
     replace HB := aM hb_
     clear b_ bk_ bl_ b8__ hb_
     refine hK.out _ _ ⟨((blk_cell BK.out 8).trans rfl), ((blk_cell BL.out 8).trans rfl), ((HB.out.cell UK0.out).trans UC0.out), ((HB.out.cell UK1.out).trans UC1.out), ((HB.out.cell UK2.out).trans UC2.out), ((HB.out.cell VK0.out).trans VC0.out), ((HB.out.cell VK1.out).trans VC1.out), ((HB.out.cell VK2.out).trans VC2.out)⟩ (fun hHeld => ?_)
     clear hK K
     refine one_ (i := 13) (N := none) #[true, true, true, true, true, true, true, true, true, true, true, true, true, true] rfl rfl (one_of HT_.out (by kernel_rfl)) (by decide) (fun K hK => ?_)
     have hz8 := bx3b B8_.out
     refine skip_ (w1 := ?_) (by rfl) rfl ?_ ?_
     rotate_left
     ·
      go_simp
      rfl
     clear hz8
     have b_ : (((w6.setCell ⟨g8, 0, none⟩ (.int .i64 x0)).setCell ⟨g8, 1, none⟩ (.int .i64 x1)).setCell ⟨g8, 2, none⟩ (.slice vA xs.length vc)).heap[g8]? = some (.cells #[.int .i64 x0, .int .i64 x1, .slice vA xs.length vc] 111 (0, 0)) := blk_put (blk_put (blk_put B8_.out 0 _ rfl) 1 _ rfl) 2 _ rfl
     have bk_ := blk_far (blk_far (blk_far BK.out (p := ⟨g8, 0, none⟩) (blk_ne BK.out B8_.out (by decide)) (.int .i64 x0)) (p := ⟨g8, 1, none⟩) (blk_ne BK.out B8_.out (by decide)) (.int .i64 x1)) (p := ⟨g8, 2, none⟩) (blk_ne BK.out B8_.out (by decide)) (.slice vA xs.length vc)
     have bl_ := blk_far (blk_far (blk_far BL.out (p := ⟨g8, 0, none⟩) (blk_ne BL.out B8_.out (by decide)) (.int .i64 x0)) (p := ⟨g8, 1, none⟩) (blk_ne BL.out B8_.out (by decide)) (.int .i64 x1)) (p := ⟨g8, 2, none⟩) (blk_ne BL.out B8_.out (by decide)) (.slice vA xs.length vc)
     have b7__ := blk_far (blk_far (blk_far B7_.out (p := ⟨g8, 0, none⟩) NE.out (.int .i64 x0)) (p := ⟨g8, 1, none⟩) NE.out (.int .i64 x1)) (p := ⟨g8, 2, none⟩) NE.out (.slice vA xs.length vc)
     have hb_ := ((HB.out.setCell (p := ⟨g8, 0, none⟩) G8.out (.int .i64 x0)).setCell (p := ⟨g8, 1, none⟩) G8.out (.int .i64 x1)).setCell (p := ⟨g8, 2, none⟩) G8.out (.slice vA xs.length vc)
     generalize (((w6.setCell ⟨g8, 0, none⟩ (.int .i64 x0)).setCell ⟨g8, 1, none⟩ (.int .i64 x1)).setCell ⟨g8, 2, none⟩ (.slice vA xs.length vc)) = w7 at b_ bk_ bl_ b7__ hb_ ⊢
     replace B8_ := aM b_
     replace BK := aM bk_
     replace BL := aM bl_
     replace B7_ := aM b7__
     replace HB := aM hb_
     clear b_ bk_ bl_ b7__ hb_
     refine hK.out _ _ ⟨((blk_cell BK.out 8).trans rfl), ((blk_cell BL.out 8).trans rfl), ((HB.out.cell UK0.out).trans UC0.out), ((HB.out.cell UK1.out).trans UC1.out), ((HB.out.cell UK2.out).trans UC2.out), ((HB.out.cell VK0.out).trans VC0.out), ((HB.out.cell VK1.out).trans VC1.out), ((HB.out.cell VK2.out).trans VC2.out)⟩ (fun hHeld => ?_)
     clear hK K
     refine done_ (done_of HT_.out (by kernel_rfl)) ?_
     clear hHeld
     have hz7 := bx3b B7_.out
     have hz8 := bx3b B8_.out
     have e0 : (x0 != x0) = false := by simp
     have e1 : (x1 != x1) = false := by simp
     have e2 : ((xs.length : Int) != (xs.length : Int)) = false := by simp
     go_wp2
     clear e0 e1 e2 hz7 hz8
     go_loopw [9] (fun i_ W' => ∃ (m_ : Nat), i_ = .int .i64 m_ ∧ Aside0 (m_ ≤ xs.length) ∧ Aside0 (W'.heap[gb]? = some (.cells #[.int .i64 a0_0, .int .i64 a0_1, .int .i64 a0_2, .int .i64 a0_3, .int .i64 a0_4, .int .i64 a0_5, .int .i64 a0_6, .slice A7 T.length c7, .slice (some ud) P.length c8] 73 (0, 0))) ∧ Aside0 (W'.heap[gd]? = some (.cells #[.int .i64 a0_0, .int .i64 a0_1, .int .i64 a0_2, .int .i64 a0_3, .int .i64 a0_4, .int .i64 a0_5, .int .i64 a0_6, .slice B7 T.length d7, .slice (some vd) P.length d8] 73 (0, 0))) ∧ Aside0 (W'.heap[g7]? = some (.cells #[.int .i64 x0, .int .i64 x1, .slice uA xs.length uc] 111 (0, 0))) ∧ Aside0 (W'.heap[g8]? = some (.cells #[.int .i64 x0, .int .i64 x1, .slice vA xs.length vc] 111 (0, 0))) ∧ Aside0 (Below w.heap.size w W')) (fun i_ _ => xs.length - (intOf i_).toNat)
     case atStart => exact ⟨0, rfl, ⟨Nat.zero_le _⟩, BK, BL, B7_, B8_, HB⟩
     case round =>
      clear BK BL B7_ B8_ HB
      obtain ⟨m, rfl, HJ2, BK, BL, B7_, B8_, HB⟩ := hrel
      have hz7 := bx3b B7_.out
      by_cases q2 : m < xs.length
      ·
       have f1 : decide ((m : Int) < (xs.length : Int)) = true := decide_eq_true (by omega)
       have f2 : decide (m < xs.length) = true := decide_eq_true q2
       have hlx := HUC.out.2.1
       have p4 : (0 : Int) ≤ (m : Int) := by omega
       have p5 : (m : Int) < (xs.length : Int) := by omega
       have p6 : ((m : Int) < (xs.length : Int)) = True := eq_true p5
       have p7 : (m < xs.length) = True := eq_true q2
       obtain ⟨y, hy⟩ : ∃ x_, rd xs (m : Int) = x_ := ⟨_, rfl⟩
       obtain ⟨ad, he, hx⟩ := Kd.at_int HUC.out (m : Int) p4 p5
       cases he
       simp only [Int.toNat_natCast] at hx
       have HXK := aM (World.block_lt_of_cell? w _ hx)
       rw [hy] at hx
       have HXC := aM hx
       clear hx
       obtain ⟨bd, he, hv⟩ := Kd.at_int HVC.out (m : Int) p4 p5
       cases he
       simp only [Int.toNat_natCast] at hv
       have HVK := aM (World.block_lt_of_cell? w _ hv)
       rw [hy] at hv
       have HVC := aM hv
       clear hv
       have yy : (y != y) = false := by simp
       have HLX := aM hlx
       clear hy p4 p5 hlx
       go_upto_region 17 with (fail)
       clear f1 f2 hz7
       replace BK := aM (blk_drew BK.out)
       replace BL := aM (blk_drew BL.out)
       replace HB := aM (HB.out.drew)
       replace B7_ := aM (blk_drew B7_.out)
       replace B8_ := aM (blk_drew B8_.out)
       refine start_ (n := 11) (S := fun w' => w'.cell? ⟨g7, 2, none⟩ = some (.slice (some ad) xs.length uc) ∧ w'.cell? ⟨g8, 2, none⟩ = some (.slice (some bd) xs.length vc) ∧ w'.cell? (ad.add m) = some (.int .i32 y) ∧ w'.cell? (bd.add m) = some (.int .i32 y)) (ds := []) #[false, false, false, false, false, false, false, false, false, false, false] (by kernel_rfl) rfl rfl ⟨((blk_cell B7_.out 2).trans rfl), ((blk_cell B8_.out 2).trans rfl), ((HB.out.cell HXK.out).trans HXC.out), ((HB.out.cell HVK.out).trans HVC.out)⟩ (fun hHeld => ?_); refine with_tabW sm17.tab17 sm17.bits17 (fun HT_ HW_ => ?_)
       generalize wr.drew = w9 at BK BL HB B7_ B8_ hHeld ⊢
       refine pure_ (i := 0) (N := some 103) (v := ?_) (a' := ?_) #[true, false, false, false, false, false, false, false, false, false, false] rfl rfl (any_of HT_.out (by kernel_rfl)) (fun _ _ _ h => h) (Or.inl ⟨by rfl, ?_⟩) ?_ ?_
       rotate_left; exact pI; rotate_left; exact pS
       refine pure_ (i := 2) (N := some 105) (v := ?_) (a' := ?_) #[true, false, true, false, false, false, false, false, false, false, false] rfl rfl (any_of HT_.out (by kernel_rfl)) (fun _ _ _ h => h) (Or.inl ⟨by rfl, ?_⟩) ?_ ?_
       rotate_left; exact pI; rotate_left; exact pS
       refine pure_ (i := 5) (N := some 108) (v := ?_) (a' := ?_) #[true, false, true, false, false, true, false, false, false, false, false] rfl rfl (any_of HT_.out (by kernel_rfl)) (fun _ _ _ h => h) (Or.inl ⟨by rfl, ?_⟩) ?_ ?_
       rotate_left; exact pI; rotate_left; exact pS
       refine pure_ (i := 7) (N := some 110) (v := ?_) (a' := ?_) #[true, false, true, false, false, true, false, true, false, false, false] rfl rfl (any_of HT_.out (by kernel_rfl)) (fun _ _ _ h => h) (Or.inl ⟨by rfl, ?_⟩) ?_ ?_
       rotate_left; exact pI; rotate_left; exact pS
       refine take_ (i := 1) (N := some 104) (v := ?_) (a' := ?_) #[true, true, true, false, false, true, false, true, false, false, false] rfl rfl (take_ofW HT_.out HW_.out (by kernel_rfl)) (fun _ _ _ h => h) (Or.inl ⟨by rfl, ?_⟩) hHeld ?_ ?_
       rotate_left
       ·
        rintro w' ⟨s0, s1, s2, s3⟩
        go_simp
        with_reducible rfl
       rotate_left
       ·
        exact pS
       refine pure_ (i := 3) (N := some 106) (v := ?_) (a' := ?_) #[true, true, true, true, false, true, false, true, false, false, false] rfl rfl (any_of HT_.out (by kernel_rfl)) (fun _ _ _ h => h) (Or.inl ⟨by rfl, ?_⟩) ?_ ?_
       rotate_left; exact pI; rotate_left; exact pS
       refine take_ (i := 4) (N := some 107) (v := ?_) (a' := ?_) #[true, true, true, true, true, true, false, true, false, false, false] rfl rfl (take_ofW HT_.out HW_.out (by kernel_rfl)) (fun _ _ _ h => h) (Or.inl ⟨by rfl, ?_⟩) hHeld ?_ ?_
       rotate_left
       ·
        rintro w' ⟨s0, s1, s2, s3⟩
        go_simp
        with_reducible rfl
       rotate_left
       ·
        exact pS
       refine take_ (i := 6) (N := some 109) (v := ?_) (a' := ?_) #[true, true, true, true, true, true, true, true, false, false, false] rfl rfl (take_ofW HT_.out HW_.out (by kernel_rfl)) (fun _ _ _ h => h) (Or.inl ⟨by rfl, ?_⟩) hHeld ?_ ?_
       rotate_left
       ·
        rintro w' ⟨s0, s1, s2, s3⟩
        go_simp
        with_reducible rfl
       rotate_left
       ·
        exact pS
       refine pure_ (i := 8) (N := some 111) (v := ?_) (a' := ?_) #[true, true, true, true, true, true, true, true, true, false, false] rfl rfl (any_of HT_.out (by kernel_rfl)) (fun _ _ _ h => h) (Or.inl ⟨by rfl, ?_⟩) ?_ ?_
       rotate_left; exact pI; rotate_left; exact pS
       refine take_ (i := 9) (N := some 112) (v := ?_) (a' := ?_) #[true, true, true, true, true, true, true, true, true, true, false] rfl rfl (take_ofW HT_.out HW_.out (by kernel_rfl)) (fun _ _ _ h => h) (Or.inl ⟨by rfl, ?_⟩) hHeld ?_ ?_
       rotate_left
       ·
        rintro w' ⟨s0, s1, s2, s3⟩
        go_simp
        with_reducible rfl
       rotate_left
       ·
        exact pS
       refine pure_ (i := 10) (N := some 113) (v := ?_) (a' := ?_) #[true, true, true, true, true, true, true, true, true, true, true] rfl rfl (any_of HT_.out (by kernel_rfl)) (fun _ _ _ h => h) (Or.inl ⟨by rfl, ?_⟩) ?_ ?_
       rotate_left; exact pI; rotate_left; exact pS
       refine done_ (done_of HT_.out (by kernel_rfl)) ?_
       clear hHeld
       have hwn : wrap64 ((m : Int) + 1) = (m : Int) + 1 := by have := HLX.out; simp only [wrap64]; omega
       go_wp2
       try rw [hwn]
       exact ⟨⟨m + 1, rfl, ⟨q2⟩, BK, BL, B7_, B8_, HB⟩, by simp only [intOf]; omega⟩
      ·
       have f1 : decide ((m : Int) < (xs.length : Int)) = false := decide_eq_false (by omega)
       have f2 : decide (m < xs.length) = false := decide_eq_false q2
       have hwn : wrap64 ((n : Int) + 1) = (n : Int) + 1 := by have := HLP.out; simp only [wrap64]; omega
       go_wp2
       try rw [hwn]
       exact ⟨⟨n + 1, rfl, ⟨q⟩, BK, BL, HB⟩, by simp only [intOf]; omega⟩
    ·
     have f1 : decide ((n : Int) < (P.length : Int)) = false := decide_eq_false (by omega)
     have f2 : decide (n < P.length) = false := decide_eq_false q
     go_wp2
     go_ret
     exact ⟨rfl, HB.out⟩
open Classical in
noncomputable def credenzaref18_Same.f (k : Nat) (a0_0 : Int) (a0_1 : Int) (a0_2 : Int) (a0_3 : Int) (a0_4 : Int) (a0_5 : Int) (a0_6 : Int) (l0_7 : List Int) (l0_8 : List S111) (a1_0 : Int) (a1_1 : Int) (a1_2 : Int) (a1_3 : Int) (a1_4 : Int) (a1_5 : Int) (a1_6 : Int) (l1_7 : List Int) (l1_8 : List S111) : Option Bool := if (a0_0 = a1_0 ∧ a0_1 = a1_1 ∧ a0_2 = a1_2 ∧ a0_3 = a1_3 ∧ a0_4 = a1_4 ∧ a0_5 = a1_5 ∧ a0_6 = a1_6) ∧ l0_7 = l1_7 ∧ l0_8 = l1_8 then some true else none
theorem credenzaref18_Same.mono : ∀ a0_0 a0_1 a0_2 a0_3 a0_4 a0_5 a0_6 l0_7 l0_8 a1_0 a1_1 a1_2 a1_3 a1_4 a1_5 a1_6 l1_7 l1_8 k, LeO (credenzaref18_Same.f k a0_0 a0_1 a0_2 a0_3 a0_4 a0_5 a0_6 l0_7 l0_8 a1_0 a1_1 a1_2 a1_3 a1_4 a1_5 a1_6 l1_7 l1_8) (credenzaref18_Same.f (k + 1) a0_0 a0_1 a0_2 a0_3 a0_4 a0_5 a0_6 l0_7 l0_8 a1_0 a1_1 a1_2 a1_3 a1_4 a1_5 a1_6 l1_7 l1_8) := fun _ _ _ _ _ _ _ _ _ _ _ _ _ _ _ _ _ _ k => LeO.refl _
theorem credenzaref18_Same.calls (k : Nat) (a0_0 : Int) (a0_1 : Int) (a0_2 : Int) (a0_3 : Int) (a0_4 : Int) (a0_5 : Int) (a0_6 : Int) (A0_7 : Option Addr) (c0_7 : Nat) (l0_7 : List Int) (A0_8 : Option Addr) (c0_8 : Nat) (l0_8 : List (S111)) (a1_0 : Int) (a1_1 : Int) (a1_2 : Int) (a1_3 : Int) (a1_4 : Int) (a1_5 : Int) (a1_6 : Int) (A1_7 : Option Addr) (c1_7 : Nat) (l1_7 : List Int) (A1_8 : Option Addr) (c1_8 : Nat) (l1_8 : List (S111)) (r : Bool) (w : World) (hr0_7 : Kd.C (Kd.int .i32) w A0_7 l0_7.length l0_7) (hc0_7 : l0_7.length ≤ c0_7) (hr0_8 : Kd.C k111 w A0_8 l0_8.length l0_8) (hc0_8 : l0_8.length ≤ c0_8) (hr1_7 : Kd.C (Kd.int .i32) w A1_7 l1_7.length l1_7) (hc1_7 : l1_7.length ≤ c1_7) (hr1_8 : Kd.C k111 w A1_8 l1_8.length l1_8) (hc1_8 : l1_8.length ≤ c1_8) (h : credenzaref18_Same.f k a0_0 a0_1 a0_2 a0_3 a0_4 a0_5 a0_6 l0_7 l0_8 a1_0 a1_1 a1_2 a1_3 a1_4 a1_5 a1_6 l1_7 l1_8 = some r) :
  Calls Try.prog 37 #[.agg #[.int .i64 a0_0, .int .i64 a0_1, .int .i64 a0_2, .int .i64 a0_3, .int .i64 a0_4, .int .i64 a0_5, .int .i64 a0_6, .slice A0_7 l0_7.length c0_7, .slice A0_8 l0_8.length c0_8], .agg #[.int .i64 a1_0, .int .i64 a1_1, .int .i64 a1_2, .int .i64 a1_3, .int .i64 a1_4, .int .i64 a1_5, .int .i64 a1_6, .slice A1_7 l1_7.length c1_7, .slice A1_8 l1_8.length c1_8]] w fun e w' => e = .returned (.bool r) ∧ Below w.heap.size w w' := by
 unfold credenzaref18_Same.f at h
 split at h
 case isFalse => cases h
 case isTrue hc =>
  obtain rfl := Option.some.inj h
  obtain ⟨⟨rfl, rfl, rfl, rfl, rfl, rfl, rfl⟩, rfl, rfl⟩ := hc
  exact same18 a0_0 a0_1 a0_2 a0_3 a0_4 a0_5 a0_6 A0_7 A1_7 A0_8 A1_8 c0_7 c1_7 c0_8 c1_8 l0_7 l0_8 w hr0_7 hr0_8 hr1_7 hr1_8
-- calls: credenzalaw18_ref

/-! ### credenzaref18_RightConfig: function 22 -/
def credenzaref18_RightConfig.f (a0_0 : Int) (a0_1 : Int) (a0_2 : Int) (a0_3 : Int) (a0_4 : Int) (a0_5 : Int) : Option (Bool) := if a0_0 < 1 then (some false) else (if a0_0 > 4 then (some false) else (if a0_1 < 1 then (some false) else (if a0_1 > 4 then (some false) else (if a0_2 < 1 then (some false) else (if a0_2 > a0_1 then (some false) else (if a0_2 = 0 then (none) else (if (Int.tmod a0_1 a0_2) = 0 then (if a0_3 ≥ 2 then (if a0_3 ≤ 16 then (if (Int.tmod a0_3 2) = 0 then (if a0_4 ≥ 1 then (if a0_4 ≤ 64 then (if a0_5 ≥ 2 then (some (decide (a0_5 ≤ 64))) else (some false)) else (some false)) else (some false)) else (some false)) else (some false)) else (some false)) else (some false))))))))
set_option maxHeartbeats 8000000 in
set_option maxRecDepth 100000 in
theorem credenzaref18_RightConfig.calls (a0_0 : Int) (a0_1 : Int) (a0_2 : Int) (a0_3 : Int) (a0_4 : Int) (a0_5 : Int) (r : Bool) (w : World) (h : credenzaref18_RightConfig.f a0_0 a0_1 a0_2 a0_3 a0_4 a0_5 = some r) :
  Calls Try.prog 22 #[.agg #[.int .i64 a0_0, .int .i64 a0_1, .int .i64 a0_2, .int .i64 a0_3, .int .i64 a0_4, .int .i64 a0_5]] w fun e w' => e = .returned (.bool r) ∧ Below w.heap.size w w' := by
 have hu56 := Try.underlying56
 have HB := aM (Below.refl w.heap.size w)
 have H := h
 clear h
 unfold credenzaref18_RightConfig.f at H
 by_cases c2 : a0_0 < 1
 ·
  rw [if_pos c2] at H
  have c2b0 : decide (a0_0 < 1) = true := dT c2
  clear c2
  obtain rfl := oI H
  go_enter Try.func22, Try.ntmps22
  go_wp2_with (first | ((with_reducible refine gate_dst (N := 1) rfl ?_); refine bxE 1 #[.int .i64 a0_0, .int .i64 a0_1, .int .i64 a0_2, .int .i64 a0_3, .int .i64 a0_4, .int .i64 a0_5] 56 (h := ?_); intro gb156 hg w3 hbox hb; have BK156 := aM (hbox); have GW156 := gE hg HB; have GE156 := gE hg HB; replace HB := bst HB hb; clear hb hbox hg; have hz4 := bx6 BK156.out))
  go_ret
  exact ⟨rfl, HB.out⟩
 ·
  rw [if_neg c2] at H
  have c2b0 : decide (a0_0 < 1) = false := dF c2
  clear c2
  by_cases c5 : a0_0 > 4
  ·
   rw [if_pos c5] at H
   have c5b0 : decide (4 < a0_0) = true := dT c5
   clear c5
   obtain rfl := oI H
   go_enter Try.func22, Try.ntmps22
   go_wp2_with (first | ((with_reducible refine gate_dst (N := 1) rfl ?_); refine bxE 1 #[.int .i64 a0_0, .int .i64 a0_1, .int .i64 a0_2, .int .i64 a0_3, .int .i64 a0_4, .int .i64 a0_5] 56 (h := ?_); intro gb156 hg w6 hbox hb; have BK156 := aM (hbox); have GW156 := gE hg HB; have GE156 := gE hg HB; replace HB := bst HB hb; clear hb hbox hg; have hz7 := bx6 BK156.out))
   go_ret
   exact ⟨rfl, HB.out⟩
  ·
   rw [if_neg c5] at H
   have c5b0 : decide (4 < a0_0) = false := dF c5
   clear c5
   by_cases c8 : a0_1 < 1
   ·
    rw [if_pos c8] at H
    have c8b0 : decide (a0_1 < 1) = true := dT c8
    clear c8
    obtain rfl := oI H
    go_enter Try.func22, Try.ntmps22
    go_wp2_with (first | ((with_reducible refine gate_dst (N := 1) rfl ?_); refine bxE 1 #[.int .i64 a0_0, .int .i64 a0_1, .int .i64 a0_2, .int .i64 a0_3, .int .i64 a0_4, .int .i64 a0_5] 56 (h := ?_); intro gb156 hg w9 hbox hb; have BK156 := aM (hbox); have GW156 := gE hg HB; have GE156 := gE hg HB; replace HB := bst HB hb; clear hb hbox hg; have hz10 := bx6 BK156.out))
    go_ret
    exact ⟨rfl, HB.out⟩
   ·
    rw [if_neg c8] at H
    have c8b0 : decide (a0_1 < 1) = false := dF c8
    clear c8
    by_cases c11 : a0_1 > 4
    ·
     rw [if_pos c11] at H
     have c11b0 : decide (4 < a0_1) = true := dT c11
     clear c11
     obtain rfl := oI H
     go_enter Try.func22, Try.ntmps22
     go_wp2_with (first | ((with_reducible refine gate_dst (N := 1) rfl ?_); refine bxE 1 #[.int .i64 a0_0, .int .i64 a0_1, .int .i64 a0_2, .int .i64 a0_3, .int .i64 a0_4, .int .i64 a0_5] 56 (h := ?_); intro gb156 hg w12 hbox hb; have BK156 := aM (hbox); have GW156 := gE hg HB; have GE156 := gE hg HB; replace HB := bst HB hb; clear hb hbox hg; have hz13 := bx6 BK156.out))
     go_ret
     exact ⟨rfl, HB.out⟩
    ·
     rw [if_neg c11] at H
     have c11b0 : decide (4 < a0_1) = false := dF c11
     clear c11
     by_cases c14 : a0_2 < 1
     ·
      rw [if_pos c14] at H
      have c14b0 : decide (a0_2 < 1) = true := dT c14
      clear c14
      obtain rfl := oI H
      go_enter Try.func22, Try.ntmps22
      go_wp2_with (first | ((with_reducible refine gate_dst (N := 1) rfl ?_); refine bxE 1 #[.int .i64 a0_0, .int .i64 a0_1, .int .i64 a0_2, .int .i64 a0_3, .int .i64 a0_4, .int .i64 a0_5] 56 (h := ?_); intro gb156 hg w15 hbox hb; have BK156 := aM (hbox); have GW156 := gE hg HB; have GE156 := gE hg HB; replace HB := bst HB hb; clear hb hbox hg; have hz16 := bx6 BK156.out))
      go_ret
      exact ⟨rfl, HB.out⟩
     ·
      rw [if_neg c14] at H
      have c14b0 : decide (a0_2 < 1) = false := dF c14
      clear c14
      by_cases c17 : a0_2 > a0_1
      ·
       rw [if_pos c17] at H
       have c17b0 : decide (a0_1 < a0_2) = true := dT c17
       clear c17
       obtain rfl := oI H
       go_enter Try.func22, Try.ntmps22
       go_wp2_with (first | ((with_reducible refine gate_dst (N := 1) rfl ?_); refine bxE 1 #[.int .i64 a0_0, .int .i64 a0_1, .int .i64 a0_2, .int .i64 a0_3, .int .i64 a0_4, .int .i64 a0_5] 56 (h := ?_); intro gb156 hg w18 hbox hb; have BK156 := aM (hbox); have GW156 := gE hg HB; have GE156 := gE hg HB; replace HB := bst HB hb; clear hb hbox hg; have hz19 := bx6 BK156.out))
       go_ret
       exact ⟨rfl, HB.out⟩
      ·
       rw [if_neg c17] at H
       have c17b0 : decide (a0_1 < a0_2) = false := dF c17
       clear c17
       obtain ⟨c20, H⟩ := ifn H
       have c20b0 : (a0_2 == 0) = false := beq_eq_false_iff_ne.mpr c20
       have c20b1 : (a0_2 != 0) = true := bne_iff_ne.mpr c20
       by_cases c21 : (Int.tmod a0_1 a0_2) = 0
       ·
        rw [if_pos c21] at H
        have c21b0 : ((Int.tmod a0_1 a0_2) == 0) = true := beq_iff_eq.mpr c21
        have c21b1 : ((Int.tmod a0_1 a0_2) != 0) = false := bne_eq_false_iff_eq.mpr c21
        clear c21
        by_cases c22 : a0_3 ≥ 2
        ·
         rw [if_pos c22] at H
         have c22b0 : decide (2 ≤ a0_3) = true := dT c22
         clear c22
         by_cases c23 : a0_3 ≤ 16
         ·
          rw [if_pos c23] at H
          have c23b0 : decide (a0_3 ≤ 16) = true := dT c23
          clear c23
          by_cases c24 : (Int.tmod a0_3 2) = 0
          ·
           rw [if_pos c24] at H
           have c24b0 : ((Int.tmod a0_3 2) == 0) = true := beq_iff_eq.mpr c24
           have c24b1 : ((Int.tmod a0_3 2) != 0) = false := bne_eq_false_iff_eq.mpr c24
           clear c24
           by_cases c25 : a0_4 ≥ 1
           ·
            rw [if_pos c25] at H
            have c25b0 : decide (1 ≤ a0_4) = true := dT c25
            clear c25
            by_cases c26 : a0_4 ≤ 64
            ·
             rw [if_pos c26] at H
             have c26b0 : decide (a0_4 ≤ 64) = true := dT c26
             clear c26
             by_cases c27 : a0_5 ≥ 2
             ·
              rw [if_pos c27] at H
              have c27b0 : decide (2 ≤ a0_5) = true := dT c27
              clear c27
              obtain rfl := oI H
              go_enter Try.func22, Try.ntmps22
              go_wp2_with (first | ((with_reducible refine gate_dst (N := 1) rfl ?_); refine bxE 1 #[.int .i64 a0_0, .int .i64 a0_1, .int .i64 a0_2, .int .i64 a0_3, .int .i64 a0_4, .int .i64 a0_5] 56 (h := ?_); intro gb156 hg w28 hbox hb; have BK156 := aM (hbox); have GW156 := gE hg HB; have GE156 := gE hg HB; replace HB := bst HB hb; clear hb hbox hg; have hz29 := bx6 BK156.out))
              go_ret
              exact ⟨rfl, HB.out⟩
             ·
              rw [if_neg c27] at H
              have c27b0 : decide (2 ≤ a0_5) = false := dF c27
              clear c27
              obtain rfl := oI H
              go_enter Try.func22, Try.ntmps22
              go_wp2_with (first | ((with_reducible refine gate_dst (N := 1) rfl ?_); refine bxE 1 #[.int .i64 a0_0, .int .i64 a0_1, .int .i64 a0_2, .int .i64 a0_3, .int .i64 a0_4, .int .i64 a0_5] 56 (h := ?_); intro gb156 hg w30 hbox hb; have BK156 := aM (hbox); have GW156 := gE hg HB; have GE156 := gE hg HB; replace HB := bst HB hb; clear hb hbox hg; have hz31 := bx6 BK156.out))
              go_ret
              exact ⟨rfl, HB.out⟩
            ·
             rw [if_neg c26] at H
             have c26b0 : decide (a0_4 ≤ 64) = false := dF c26
             clear c26
             obtain rfl := oI H
             go_enter Try.func22, Try.ntmps22
             go_wp2_with (first | ((with_reducible refine gate_dst (N := 1) rfl ?_); refine bxE 1 #[.int .i64 a0_0, .int .i64 a0_1, .int .i64 a0_2, .int .i64 a0_3, .int .i64 a0_4, .int .i64 a0_5] 56 (h := ?_); intro gb156 hg w32 hbox hb; have BK156 := aM (hbox); have GW156 := gE hg HB; have GE156 := gE hg HB; replace HB := bst HB hb; clear hb hbox hg; have hz33 := bx6 BK156.out))
             go_ret
             exact ⟨rfl, HB.out⟩
           ·
            rw [if_neg c25] at H
            have c25b0 : decide (1 ≤ a0_4) = false := dF c25
            clear c25
            obtain rfl := oI H
            go_enter Try.func22, Try.ntmps22
            go_wp2_with (first | ((with_reducible refine gate_dst (N := 1) rfl ?_); refine bxE 1 #[.int .i64 a0_0, .int .i64 a0_1, .int .i64 a0_2, .int .i64 a0_3, .int .i64 a0_4, .int .i64 a0_5] 56 (h := ?_); intro gb156 hg w34 hbox hb; have BK156 := aM (hbox); have GW156 := gE hg HB; have GE156 := gE hg HB; replace HB := bst HB hb; clear hb hbox hg; have hz35 := bx6 BK156.out))
            go_ret
            exact ⟨rfl, HB.out⟩
          ·
           rw [if_neg c24] at H
           have c24b0 : ((Int.tmod a0_3 2) == 0) = false := beq_eq_false_iff_ne.mpr c24
           have c24b1 : ((Int.tmod a0_3 2) != 0) = true := bne_iff_ne.mpr c24
           obtain rfl := oI H
           go_enter Try.func22, Try.ntmps22
           go_wp2_with (first | ((with_reducible refine gate_dst (N := 1) rfl ?_); refine bxE 1 #[.int .i64 a0_0, .int .i64 a0_1, .int .i64 a0_2, .int .i64 a0_3, .int .i64 a0_4, .int .i64 a0_5] 56 (h := ?_); intro gb156 hg w36 hbox hb; have BK156 := aM (hbox); have GW156 := gE hg HB; have GE156 := gE hg HB; replace HB := bst HB hb; clear hb hbox hg; have hz37 := bx6 BK156.out))
           go_ret
           exact ⟨rfl, HB.out⟩
         ·
          rw [if_neg c23] at H
          have c23b0 : decide (a0_3 ≤ 16) = false := dF c23
          clear c23
          obtain rfl := oI H
          go_enter Try.func22, Try.ntmps22
          go_wp2_with (first | ((with_reducible refine gate_dst (N := 1) rfl ?_); refine bxE 1 #[.int .i64 a0_0, .int .i64 a0_1, .int .i64 a0_2, .int .i64 a0_3, .int .i64 a0_4, .int .i64 a0_5] 56 (h := ?_); intro gb156 hg w38 hbox hb; have BK156 := aM (hbox); have GW156 := gE hg HB; have GE156 := gE hg HB; replace HB := bst HB hb; clear hb hbox hg; have hz39 := bx6 BK156.out))
          go_ret
          exact ⟨rfl, HB.out⟩
        ·
         rw [if_neg c22] at H
         have c22b0 : decide (2 ≤ a0_3) = false := dF c22
         clear c22
         obtain rfl := oI H
         go_enter Try.func22, Try.ntmps22
         go_wp2_with (first | ((with_reducible refine gate_dst (N := 1) rfl ?_); refine bxE 1 #[.int .i64 a0_0, .int .i64 a0_1, .int .i64 a0_2, .int .i64 a0_3, .int .i64 a0_4, .int .i64 a0_5] 56 (h := ?_); intro gb156 hg w40 hbox hb; have BK156 := aM (hbox); have GW156 := gE hg HB; have GE156 := gE hg HB; replace HB := bst HB hb; clear hb hbox hg; have hz41 := bx6 BK156.out))
         go_ret
         exact ⟨rfl, HB.out⟩
       ·
        rw [if_neg c21] at H
        have c21b0 : ((Int.tmod a0_1 a0_2) == 0) = false := beq_eq_false_iff_ne.mpr c21
        have c21b1 : ((Int.tmod a0_1 a0_2) != 0) = true := bne_iff_ne.mpr c21
        obtain rfl := oI H
        go_enter Try.func22, Try.ntmps22
        go_wp2_with (first | ((with_reducible refine gate_dst (N := 1) rfl ?_); refine bxE 1 #[.int .i64 a0_0, .int .i64 a0_1, .int .i64 a0_2, .int .i64 a0_3, .int .i64 a0_4, .int .i64 a0_5] 56 (h := ?_); intro gb156 hg w42 hbox hb; have BK156 := aM (hbox); have GW156 := gE hg HB; have GE156 := gE hg HB; replace HB := bst HB hb; clear hb hbox hg; have hz43 := bx6 BK156.out))
        go_ret
        exact ⟨rfl, HB.out⟩

/-! ### credenzaref18_Sizes: function 59 -/
def credenzaref18_Sizes.l0 : Nat → Int → List (S110) → Int → Int → Int → Int → Int → Int → Int → Option ((List (S110)))
 | 0, _, _, _, _, _, _, _, _, _ => none
 | k + 1, x3, x4, x5, x158000, x158001, x158002, x158003, x158004, x158005 => if x5 < x158000 then ((some (([(⟨0, x3⟩ : S110), (⟨x3, x3⟩ : S110), (⟨wrap64 (x158002 * x158003), x3⟩ : S110), (⟨wrap64 (x158002 * x158003), x3⟩ : S110), (⟨x3, x3⟩ : S110)] : List (S110)) : List (S110))).bind fun y161 => (if x4.length + y161.length < 8796093022208 then ((some (x4 ++ y161 : List (S110))).bind fun y164 => ((some (([(⟨0, x3⟩ : S110), (⟨x158004, x3⟩ : S110), (⟨x158004, x3⟩ : S110), (⟨x3, x158004⟩ : S110)] : List (S110)) : List (S110))).bind fun y167 => (if y164.length + y167.length < 8796093022208 then (credenzaref18_Sizes.l0 k x3 (y164 ++ y167) (wrap64 (x5 + 1)) x158000 x158001 x158002 x158003 x158004 x158005) else (none)))) else (none))) else ((some (([(⟨0, x3⟩ : S110), (⟨x158005, x3⟩ : S110)] : List (S110)) : List (S110))).bind fun y173 => (if x4.length + y173.length < 8796093022208 then (some (x4 ++ y173)) else (none)))
def credenzaref18_Sizes.f (k : Nat) (a0_0 : Int) (a0_1 : Int) (a0_2 : Int) (a0_3 : Int) (a0_4 : Int) (a0_5 : Int) : Option ((List (S110))) := credenzaref18_Sizes.l0 k (wrap64 (a0_1 * a0_3)) (([(⟨a0_5, wrap64 (a0_1 * a0_3)⟩ : S110)] : List (S110))) 0 a0_0 a0_1 a0_2 a0_3 a0_4 a0_5
theorem credenzaref18_Sizes.mono_l : ∀ k, (∀ y0 y1 y2 y3 y4 y5 y6 y7 y8, LeO (credenzaref18_Sizes.l0 k y0 y1 y2 y3 y4 y5 y6 y7 y8) (credenzaref18_Sizes.l0 (k + 1) y0 y1 y2 y3 y4 y5 y6 y7 y8))
 | 0 => fun _ _ _ _ _ _ _ _ _ r h => by simp [credenzaref18_Sizes.l0] at h
 | k + 1 => by
  have ih0 := credenzaref18_Sizes.mono_l k
  ·
   intro y0 y1 y2 y3 y4 y5 y6 y7 y8
   unfold credenzaref18_Sizes.l0
   repeat' with_reducible first | exact ih0 _ _ _ _ _ _ _ _ _ | exact LeO.refl _ | exact LeO.none _ | refine LeO.ite ?_ ?_ | refine LeO.bind ?_ (fun _ => ?_)
theorem credenzaref18_Sizes.mono : ∀ a0 a1 a2 a3 a4 a5 k, LeO (credenzaref18_Sizes.f k a0 a1 a2 a3 a4 a5) (credenzaref18_Sizes.f (k + 1) a0 a1 a2 a3 a4 a5) := by
 intro a0 a1 a2 a3 a4 a5 k
 have ih0 := credenzaref18_Sizes.mono_l k
 unfold credenzaref18_Sizes.f
 repeat' with_reducible first | exact ih0 _ _ _ _ _ _ _ _ _ | exact LeO.refl _ | exact LeO.none _ | refine LeO.ite ?_ ?_ | refine LeO.bind ?_ (fun _ => ?_)
set_option maxHeartbeats 8000000 in
set_option maxRecDepth 100000 in
theorem credenzaref18_Sizes.calls (k : Nat) (a0_0 : Int) (a0_1 : Int) (a0_2 : Int) (a0_3 : Int) (a0_4 : Int) (a0_5 : Int) (r : List (S110)) (w : World) (h : credenzaref18_Sizes.f k a0_0 a0_1 a0_2 a0_3 a0_4 a0_5 = some r) :
  Calls Try.prog 59 #[.agg #[.int .i64 a0_0, .int .i64 a0_1, .int .i64 a0_2, .int .i64 a0_3, .int .i64 a0_4, .int .i64 a0_5]] w fun e w' => ∃ v0_ : Value, e = .returned (v0_) ∧ Kd.R k110 110 w' w.heap.size (fun _ => True) v0_ r ∧ Below w.heap.size w w' := by
 have hu56 := Try.underlying56
 have hu110 := Try.underlying110
 have HB := aM (Below.refl w.heap.size w)
 have H := h
 clear h
 unfold credenzaref18_Sizes.f at H
 obtain ⟨y158, hy158⟩ : ∃ y_ : List (S110), y_ = (([(⟨a0_5, wrap64 (a0_1 * a0_3)⟩ : S110)] : List (S110))) := ⟨_, rfl⟩
 replace H : (credenzaref18_Sizes.l0 k (wrap64 (a0_1 * a0_3)) y158 0 a0_0 a0_1 a0_2 a0_3 a0_4 a0_5) = some r := by rw [hy158]; exact H
 have Ny158 := aM hy158
 clear hy158
 have H' := aM H
 clear H
 go_enter Try.func59, Try.ntmps59
 go_wp2_with (first | ((with_reducible refine gate_dst (N := 1) rfl ?_); refine bxE 1 #[.int .i64 a0_0, .int .i64 a0_1, .int .i64 a0_2, .int .i64 a0_3, .int .i64 a0_4, .int .i64 a0_5] 56 (h := ?_); intro gb157 hg w2 hbox hb; have BK157 := aM (hbox); have GW157 := gE hg HB; have GE157 := gE hg HB; replace HB := bst HB hb; clear hb hbox hg; have hz3 := bx6 BK157.out) | ((with_reducible refine gate_dst (N := 15) rfl ?_); refine Kd.R_lit k110 _ 110 ?hg (N := 15) ?hd (xs := ([(⟨a0_5, wrap64 (a0_1 * a0_3)⟩ : S110)] : List (S110))) (inner := [.int .i64 a0_5, .int .i64 (wrap64 (a0_1 * a0_3))]) (ok := fun _ => True) (okp := fun _ => True) ?hr ?hp (fun _ hk => hk) trivial (Below.refl _ _) (Nat.le_refl _) (by simp) ?_; (case hd => rfl); (case hg => rfl); (case hr => first | (go_simp; done) | (go_simp; rfl)); (case hp => exact (Reps.c2 (show Kd.M k110 _ _ _ (⟨a0_5, wrap64 (a0_1 * a0_3)⟩ : S110) [.int .i64 a0_5, .int .i64 (wrap64 (a0_1 * a0_3))] from (k110_mkM _ _ _ (⟨a0_5, wrap64 (a0_1 * a0_3)⟩ : S110) )) (Reps.none _ _))); intro v159 w4 ho5 hb hg_ hnew_; clear hg_ hnew_; (first | rw [← Ny158.out] at ho5 | (simp only [Int.reduceToNat] at ho5; rw [← Ny158.out] at ho5)); have HO160 := aM (Kd.R_lower ho5 (bsz HB)); replace BK157 := kst BK157 hb; replace HB := bst HB hb; clear hb ho5))
 go_loopg [4, 5] k (fun kq v4 v5 w' => ∃ (x4_1 : List (S110)) (x5_1 : Int), v5 = .int .i64 x5_1 ∧ Aside0 (credenzaref18_Sizes.l0 kq (wrap64 (a0_1 * a0_3)) x4_1 x5_1 a0_0 a0_1 a0_2 a0_3 a0_4 a0_5 = some r) ∧ Aside0 (kq ≤ k) ∧ Aside0 (Kd.R k110 110 w' w.heap.size (fun _ => True) v4 x4_1) ∧ Aside0 (w'.heap[gb157]? = some (.cells #[.int .i64 a0_0, .int .i64 a0_1, .int .i64 a0_2, .int .i64 a0_3, .int .i64 a0_4, .int .i64 a0_5] 56 (0, 0))) ∧ Aside0 (Below w.heap.size w w'))
 case atStart => exact ⟨(y158), (0), rfl, H', ⟨Nat.le_refl _⟩, HO160, BK157, HB⟩
 case round =>
  clear H'
  try clear c2
  try clear p2
  try clear c5
  try clear hz3
  obtain ⟨x4_1, x5_1, rfl, HA, HK1, HO_4, BK157, HB⟩ := hrel
  cases gk with
  | zero => exact absurd HA.out (by simp [credenzaref18_Sizes.l0])
  | succ k1 =>
   have H := HA.out
   clear HA
   simp only [credenzaref18_Sizes.l0] at H
   by_cases c6 : x5_1 < a0_0
   ·
    rw [if_pos c6] at H
    have c6b0 : decide (x5_1 < a0_0) = true := dT c6
    clear c6
    obtain ⟨y161, hy161⟩ : ∃ y_ : List (S110), y_ = (([(⟨0, (wrap64 (a0_1 * a0_3))⟩ : S110), (⟨(wrap64 (a0_1 * a0_3)), (wrap64 (a0_1 * a0_3))⟩ : S110), (⟨wrap64 (a0_2 * a0_3), (wrap64 (a0_1 * a0_3))⟩ : S110), (⟨wrap64 (a0_2 * a0_3), (wrap64 (a0_1 * a0_3))⟩ : S110), (⟨(wrap64 (a0_1 * a0_3)), (wrap64 (a0_1 * a0_3))⟩ : S110)] : List (S110))) := ⟨_, rfl⟩
    replace H : (if x4_1.length + y161.length < 8796093022208 then ((some (x4_1 ++ y161 : List (S110))).bind fun y164 => ((some (([(⟨0, (wrap64 (a0_1 * a0_3))⟩ : S110), (⟨a0_4, (wrap64 (a0_1 * a0_3))⟩ : S110), (⟨a0_4, (wrap64 (a0_1 * a0_3))⟩ : S110), (⟨(wrap64 (a0_1 * a0_3)), a0_4⟩ : S110)] : List (S110)) : List (S110))).bind fun y167 => (if y164.length + y167.length < 8796093022208 then (credenzaref18_Sizes.l0 k1 (wrap64 (a0_1 * a0_3)) (y164 ++ y167) (wrap64 (x5_1 + 1)) a0_0 a0_1 a0_2 a0_3 a0_4 a0_5) else (none)))) else (none)) = some r := by rw [hy161]; exact H
    have Ny161 := aM hy161
    clear hy161
    obtain ⟨c7, H⟩ := ifp H
    have LMc7 := aM c7
    clear c7
    obtain ⟨y164, hy164⟩ : ∃ y_ : List (S110), y_ = (x4_1 ++ y161) := ⟨_, rfl⟩
    replace H : ((some (([(⟨0, (wrap64 (a0_1 * a0_3))⟩ : S110), (⟨a0_4, (wrap64 (a0_1 * a0_3))⟩ : S110), (⟨a0_4, (wrap64 (a0_1 * a0_3))⟩ : S110), (⟨(wrap64 (a0_1 * a0_3)), a0_4⟩ : S110)] : List (S110)) : List (S110))).bind fun y167 => (if y164.length + y167.length < 8796093022208 then (credenzaref18_Sizes.l0 k1 (wrap64 (a0_1 * a0_3)) (y164 ++ y167) (wrap64 (x5_1 + 1)) a0_0 a0_1 a0_2 a0_3 a0_4 a0_5) else (none))) = some r := by rw [hy164]; exact H
    have Ny164 := aM hy164
    clear hy164
    obtain ⟨y167, hy167⟩ : ∃ y_ : List (S110), y_ = (([(⟨0, (wrap64 (a0_1 * a0_3))⟩ : S110), (⟨a0_4, (wrap64 (a0_1 * a0_3))⟩ : S110), (⟨a0_4, (wrap64 (a0_1 * a0_3))⟩ : S110), (⟨(wrap64 (a0_1 * a0_3)), a0_4⟩ : S110)] : List (S110))) := ⟨_, rfl⟩
    replace H : (if y164.length + y167.length < 8796093022208 then (credenzaref18_Sizes.l0 k1 (wrap64 (a0_1 * a0_3)) (y164 ++ y167) (wrap64 (x5_1 + 1)) a0_0 a0_1 a0_2 a0_3 a0_4 a0_5) else (none)) = some r := by rw [hy167]; exact H
    have Ny167 := aM hy167
    clear hy167
    obtain ⟨c8, H⟩ := ifp H
    have LMc8 := aM c8
    clear c8
    obtain ⟨y170, hy170⟩ : ∃ y_ : List (S110), y_ = (y164 ++ y167) := ⟨_, rfl⟩
    replace H : (credenzaref18_Sizes.l0 k1 (wrap64 (a0_1 * a0_3)) y170 (wrap64 (x5_1 + 1)) a0_0 a0_1 a0_2 a0_3 a0_4 a0_5) = some r := by rw [hy170]; exact H
    have Ny170 := aM hy170
    clear hy170
    have H' := aM H
    clear H
    have hz9 := bx6 BK157.out
    go_wp2_with (first | ((with_reducible refine gate_dst (N := 45) rfl ?_); refine Kd.R_lit k110 _ 110 ?hg (N := 45) ?hd (xs := ([(⟨0, (wrap64 (a0_1 * a0_3))⟩ : S110), (⟨(wrap64 (a0_1 * a0_3)), (wrap64 (a0_1 * a0_3))⟩ : S110), (⟨wrap64 (a0_2 * a0_3), (wrap64 (a0_1 * a0_3))⟩ : S110), (⟨wrap64 (a0_2 * a0_3), (wrap64 (a0_1 * a0_3))⟩ : S110), (⟨(wrap64 (a0_1 * a0_3)), (wrap64 (a0_1 * a0_3))⟩ : S110)] : List (S110))) (inner := [.int .i64 0, .int .i64 (wrap64 (a0_1 * a0_3)), .int .i64 (wrap64 (a0_1 * a0_3)), .int .i64 (wrap64 (a0_1 * a0_3)), .int .i64 (wrap64 (a0_2 * a0_3)), .int .i64 (wrap64 (a0_1 * a0_3)), .int .i64 (wrap64 (a0_2 * a0_3)), .int .i64 (wrap64 (a0_1 * a0_3)), .int .i64 (wrap64 (a0_1 * a0_3)), .int .i64 (wrap64 (a0_1 * a0_3))]) (ok := fun _ => True) (okp := fun _ => True) ?hr ?hp (fun _ hk => hk) trivial (Below.refl _ _) (Nat.le_refl _) (by simp) ?_; (case hd => rfl); (case hg => rfl); (case hr => first | (go_simp; done) | (go_simp; rfl)); (case hp => exact (Reps.c2 (show Kd.M k110 _ _ _ (⟨0, (wrap64 (a0_1 * a0_3))⟩ : S110) [.int .i64 0, .int .i64 (wrap64 (a0_1 * a0_3))] from (k110_mkM _ _ _ (⟨0, (wrap64 (a0_1 * a0_3))⟩ : S110) )) (Reps.c2 (show Kd.M k110 _ _ _ (⟨(wrap64 (a0_1 * a0_3)), (wrap64 (a0_1 * a0_3))⟩ : S110) [.int .i64 (wrap64 (a0_1 * a0_3)), .int .i64 (wrap64 (a0_1 * a0_3))] from (k110_mkM _ _ _ (⟨(wrap64 (a0_1 * a0_3)), (wrap64 (a0_1 * a0_3))⟩ : S110) )) (Reps.c2 (show Kd.M k110 _ _ _ (⟨wrap64 (a0_2 * a0_3), (wrap64 (a0_1 * a0_3))⟩ : S110) [.int .i64 (wrap64 (a0_2 * a0_3)), .int .i64 (wrap64 (a0_1 * a0_3))] from (k110_mkM _ _ _ (⟨wrap64 (a0_2 * a0_3), (wrap64 (a0_1 * a0_3))⟩ : S110) )) (Reps.c2 (show Kd.M k110 _ _ _ (⟨wrap64 (a0_2 * a0_3), (wrap64 (a0_1 * a0_3))⟩ : S110) [.int .i64 (wrap64 (a0_2 * a0_3)), .int .i64 (wrap64 (a0_1 * a0_3))] from (k110_mkM _ _ _ (⟨wrap64 (a0_2 * a0_3), (wrap64 (a0_1 * a0_3))⟩ : S110) )) (Reps.c2 (show Kd.M k110 _ _ _ (⟨(wrap64 (a0_1 * a0_3)), (wrap64 (a0_1 * a0_3))⟩ : S110) [.int .i64 (wrap64 (a0_1 * a0_3)), .int .i64 (wrap64 (a0_1 * a0_3))] from (k110_mkM _ _ _ (⟨(wrap64 (a0_1 * a0_3)), (wrap64 (a0_1 * a0_3))⟩ : S110) )) (Reps.none _ _))))))); intro v162 w10 ho11 hb hg_ hnew_; clear hg_ hnew_; (first | rw [← Ny161.out] at ho11 | (simp only [Int.reduceToNat] at ho11; rw [← Ny161.out] at ho11)); have HO163 := aM (Kd.R_lower (Kd.R_new' ho11 (Kd.R_lt HO_4.out)) (bsz HB)); replace HO_4 := aM (Kd.R_elder' HO_4.out (Kd.R_base ho11) hb); replace BK157 := kst BK157 hb; replace HB := bst HB hb; clear hb ho11; obtain ⟨Ao13, co13, eo13⟩ := Kd.R_slice HO163.out; subst eo13) | ((with_reducible refine gate_builtin (b := .append) (xs := #[.tmp 22, .tmp 45]) rfl ?_); at_builtin; refine Kd.R_append_rows k110 (w0 := w) w.heap.size rfl (.tmp 22) (.tmp 45) 107 110 (.agg #[(.int .i64 0), (.int .i64 0)]) 16 rfl Try.underlying107 info110 rfl (by decide) (by omega) u4 x4_1 y161 _ _ _ (fun k_ => some k_ ≠ (.slice Ao13 y161.length co13 : Value).ownBlock) (fun _ => False) rfl rfl ?aO ?aR (fun _ _ h => h) (fun _ h => h.elim) ?aF ?aB ?aS ?aL ?_; (case aR => repeat (first | exact (Kd.R_reads' HO163.out).2.2 | (with_reducible refine Kd.C_alloc ?_ _) | (with_reducible refine Kd.C_drewN ?_ _) | (with_reducible refine Kd.C_drew ?_))); (case aB => exact HB.out); (case aF => exact (fun k_ hk => Kd.fresh' (Kd.R_lt HO163.out) k_ hk)); (case aO => exact (by exact Kd.R_mono HO_4.out (fun _ hk => hk.2))); (case aS => exact (bsz HB)); (case aL => have := LMc7.out; omega); intro v165 w12 ho hb hg hat; rw [← Ny164.out] at ho; have n0_ := aM (blk_grown (g := gb157) (o := .cells #[.int .i64 a0_0, .int .i64 a0_1, .int .i64 a0_2, .int .i64 a0_3, .int .i64 a0_4, .int .i64 a0_5] 56 (0, 0)) BK157.out hg (Kd.R_ne HO_4.out BK157.out (by decide))); have n1_ := aM (Kd.R_after (ok := (fun _ => True)) HO163.out hg hat); have n2_ := aM (hb); have n3_ := aM (ho); clear BK157; clear HO163; clear HB; clear HO_4; have BK157 := n0_; have HO163 := n1_; have HB := n2_; have HO166 := n3_; clear n0_ n1_ n2_ n3_; clear ho hb hg hat; have hz14 := bx6 BK157.out) | ((with_reducible refine gate_dst (N := 62) rfl ?_); refine Kd.R_lit k110 _ 110 ?hg (N := 62) ?hd (xs := ([(⟨0, (wrap64 (a0_1 * a0_3))⟩ : S110), (⟨a0_4, (wrap64 (a0_1 * a0_3))⟩ : S110), (⟨a0_4, (wrap64 (a0_1 * a0_3))⟩ : S110), (⟨(wrap64 (a0_1 * a0_3)), a0_4⟩ : S110)] : List (S110))) (inner := [.int .i64 0, .int .i64 (wrap64 (a0_1 * a0_3)), .int .i64 a0_4, .int .i64 (wrap64 (a0_1 * a0_3)), .int .i64 a0_4, .int .i64 (wrap64 (a0_1 * a0_3)), .int .i64 (wrap64 (a0_1 * a0_3)), .int .i64 a0_4]) (ok := fun _ => True) (okp := fun _ => True) ?hr ?hp (fun _ hk => hk) trivial (Below.refl _ _) (Nat.le_refl _) (by simp) ?_; (case hd => rfl); (case hg => rfl); (case hr => first | (go_simp; done) | (go_simp; rfl)); (case hp => exact (Reps.c2 (show Kd.M k110 _ _ _ (⟨0, (wrap64 (a0_1 * a0_3))⟩ : S110) [.int .i64 0, .int .i64 (wrap64 (a0_1 * a0_3))] from (k110_mkM _ _ _ (⟨0, (wrap64 (a0_1 * a0_3))⟩ : S110) )) (Reps.c2 (show Kd.M k110 _ _ _ (⟨a0_4, (wrap64 (a0_1 * a0_3))⟩ : S110) [.int .i64 a0_4, .int .i64 (wrap64 (a0_1 * a0_3))] from (k110_mkM _ _ _ (⟨a0_4, (wrap64 (a0_1 * a0_3))⟩ : S110) )) (Reps.c2 (show Kd.M k110 _ _ _ (⟨a0_4, (wrap64 (a0_1 * a0_3))⟩ : S110) [.int .i64 a0_4, .int .i64 (wrap64 (a0_1 * a0_3))] from (k110_mkM _ _ _ (⟨a0_4, (wrap64 (a0_1 * a0_3))⟩ : S110) )) (Reps.c2 (show Kd.M k110 _ _ _ (⟨(wrap64 (a0_1 * a0_3)), a0_4⟩ : S110) [.int .i64 (wrap64 (a0_1 * a0_3)), .int .i64 a0_4] from (k110_mkM _ _ _ (⟨(wrap64 (a0_1 * a0_3)), a0_4⟩ : S110) )) (Reps.none _ _)))))); intro v168 w15 ho16 hb hg_ hnew_; clear hg_ hnew_; (first | rw [← Ny167.out] at ho16 | (simp only [Int.reduceToNat] at ho16; rw [← Ny167.out] at ho16)); have HO169 := aM (Kd.R_lower (Kd.R_new' (Kd.R_new' ho16 (Kd.R_lt HO163.out)) (Kd.R_lt HO166.out)) (bsz HB)); replace HO163 := aM (Kd.R_elder' HO163.out (Kd.R_base ho16) hb); replace HO166 := aM (Kd.R_elder' HO166.out (Kd.R_base ho16) hb); replace BK157 := kst BK157 hb; replace HB := bst HB hb; clear hb ho16; obtain ⟨Ao18, co18, eo18⟩ := Kd.R_slice HO169.out; subst eo18) | ((with_reducible refine gate_builtin (b := .append) (xs := #[.tmp 47, .tmp 62]) rfl ?_); at_builtin; refine Kd.R_append_rows k110 (w0 := w) w.heap.size rfl (.tmp 47) (.tmp 62) 107 110 (.agg #[(.int .i64 0), (.int .i64 0)]) 16 rfl Try.underlying107 info110 rfl (by decide) (by omega) v165 y164 y167 _ _ _ (fun k_ => some k_ ≠ (.slice Ao13 y161.length co13 : Value).ownBlock ∧ some k_ ≠ (.slice Ao18 y167.length co18 : Value).ownBlock) (fun _ => False) rfl rfl ?aO ?aR (fun _ _ h => h) (fun _ h => h.elim) ?aF ?aB ?aS ?aL ?_; (case aR => repeat (first | exact (Kd.R_reads' HO169.out).2.2 | (with_reducible refine Kd.C_alloc ?_ _) | (with_reducible refine Kd.C_drewN ?_ _) | (with_reducible refine Kd.C_drew ?_))); (case aB => exact HB.out); (case aF => exact (fun k_ hk => ⟨Kd.fresh' (Kd.R_lt HO163.out) k_ hk, Kd.fresh' (Kd.R_lt HO169.out) k_ hk⟩)); (case aO => exact HO166.out); (case aS => exact (bsz HB)); (case aL => have := LMc8.out; omega); intro v171 w17 ho hb hg hat; rw [← Ny170.out] at ho; have n0_ := aM (blk_grown (g := gb157) (o := .cells #[.int .i64 a0_0, .int .i64 a0_1, .int .i64 a0_2, .int .i64 a0_3, .int .i64 a0_4, .int .i64 a0_5] 56 (0, 0)) BK157.out hg (Kd.R_ne HO166.out BK157.out (by decide))); have n1_ := aM (Kd.R_after (ok := (fun k_ => some k_ ≠ (.slice Ao18 y167.length co18 : Value).ownBlock)) (by exact Kd.R_mono HO163.out (fun _ hk => ⟨hk.2, hk.1.2⟩)) hg hat); have n2_ := aM (Kd.R_after (ok := (fun k_ => some k_ ≠ (.slice Ao13 y161.length co13 : Value).ownBlock)) (by exact Kd.R_mono HO169.out (fun _ hk => ⟨hk.1.2, hk.2⟩)) hg hat); have n3_ := aM (hb); have n4_ := aM (ho); clear BK157; clear HO163; clear HO169; clear HB; clear HO166; have BK157 := n0_; have HO163 := n1_; have HO169 := n2_; have HB := n3_; have HO172 := n4_; clear n0_ n1_ n2_ n3_ n4_; clear ho hb hg hat))
    go_roundg k1
    case measure => have := HK1.out; omega
    case rel => exact ⟨(y170), (wrap64 (x5_1 + 1)), rfl, H', ⟨by have := HK1.out; omega⟩, ⟨by exact Kd.R_mono HO172.out (fun _ hk => trivial)⟩, BK157, HB⟩
   ·
    rw [if_neg c6] at H
    have c6b0 : decide (x5_1 < a0_0) = false := dF c6
    clear c6
    obtain ⟨y173, hy173⟩ : ∃ y_ : List (S110), y_ = (([(⟨0, (wrap64 (a0_1 * a0_3))⟩ : S110), (⟨a0_5, (wrap64 (a0_1 * a0_3))⟩ : S110)] : List (S110))) := ⟨_, rfl⟩
    replace H : (if x4_1.length + y173.length < 8796093022208 then (some (x4_1 ++ y173)) else (none)) = some r := by rw [hy173]; exact H
    have Ny173 := aM hy173
    clear hy173
    obtain ⟨c19, H⟩ := ifp H
    have LMc19 := aM c19
    clear c19
    obtain ⟨y176, hy176⟩ : ∃ y_ : List (S110), y_ = (x4_1 ++ y173) := ⟨_, rfl⟩
    replace H : (some y176) = some r := by rw [hy176]; exact H
    have Ny176 := aM hy176
    clear hy176
    obtain rfl := oI H
    have hz20 := bx6 BK157.out
    go_wp2_with (first | ((with_reducible refine gate_dst (N := 71) rfl ?_); refine Kd.R_lit k110 _ 110 ?hg (N := 71) ?hd (xs := ([(⟨0, (wrap64 (a0_1 * a0_3))⟩ : S110), (⟨a0_5, (wrap64 (a0_1 * a0_3))⟩ : S110)] : List (S110))) (inner := [.int .i64 0, .int .i64 (wrap64 (a0_1 * a0_3)), .int .i64 a0_5, .int .i64 (wrap64 (a0_1 * a0_3))]) (ok := fun _ => True) (okp := fun _ => True) ?hr ?hp (fun _ hk => hk) trivial (Below.refl _ _) (Nat.le_refl _) (by simp) ?_; (case hd => rfl); (case hg => rfl); (case hr => first | (go_simp; done) | (go_simp; rfl)); (case hp => exact (Reps.c2 (show Kd.M k110 _ _ _ (⟨0, (wrap64 (a0_1 * a0_3))⟩ : S110) [.int .i64 0, .int .i64 (wrap64 (a0_1 * a0_3))] from (k110_mkM _ _ _ (⟨0, (wrap64 (a0_1 * a0_3))⟩ : S110) )) (Reps.c2 (show Kd.M k110 _ _ _ (⟨a0_5, (wrap64 (a0_1 * a0_3))⟩ : S110) [.int .i64 a0_5, .int .i64 (wrap64 (a0_1 * a0_3))] from (k110_mkM _ _ _ (⟨a0_5, (wrap64 (a0_1 * a0_3))⟩ : S110) )) (Reps.none _ _)))); intro v174 w21 ho22 hb hg_ hnew_; clear hg_ hnew_; (first | rw [← Ny173.out] at ho22 | (simp only [Int.reduceToNat] at ho22; rw [← Ny173.out] at ho22)); have HO175 := aM (Kd.R_lower (Kd.R_new' ho22 (Kd.R_lt HO_4.out)) (bsz HB)); replace HO_4 := aM (Kd.R_elder' HO_4.out (Kd.R_base ho22) hb); replace BK157 := kst BK157 hb; replace HB := bst HB hb; clear hb ho22; obtain ⟨Ao24, co24, eo24⟩ := Kd.R_slice HO175.out; subst eo24) | ((with_reducible refine gate_builtin (b := .append) (xs := #[.tmp 64, .tmp 71]) rfl ?_); at_builtin; refine Kd.R_append_rows k110 (w0 := w) w.heap.size rfl (.tmp 64) (.tmp 71) 107 110 (.agg #[(.int .i64 0), (.int .i64 0)]) 16 rfl Try.underlying107 info110 rfl (by decide) (by omega) u4 x4_1 y173 _ _ _ (fun k_ => some k_ ≠ (.slice Ao24 y173.length co24 : Value).ownBlock) (fun _ => False) rfl rfl ?aO ?aR (fun _ _ h => h) (fun _ h => h.elim) ?aF ?aB ?aS ?aL ?_; (case aR => repeat (first | exact (Kd.R_reads' HO175.out).2.2 | (with_reducible refine Kd.C_alloc ?_ _) | (with_reducible refine Kd.C_drewN ?_ _) | (with_reducible refine Kd.C_drew ?_))); (case aB => exact HB.out); (case aF => exact (fun k_ hk => Kd.fresh' (Kd.R_lt HO175.out) k_ hk)); (case aO => exact (by exact Kd.R_mono HO_4.out (fun _ hk => hk.2))); (case aS => exact (bsz HB)); (case aL => have := LMc19.out; omega); intro v177 w23 ho hb hg hat; rw [← Ny176.out] at ho; have n0_ := aM (blk_grown (g := gb157) (o := .cells #[.int .i64 a0_0, .int .i64 a0_1, .int .i64 a0_2, .int .i64 a0_3, .int .i64 a0_4, .int .i64 a0_5] 56 (0, 0)) BK157.out hg (Kd.R_ne HO_4.out BK157.out (by decide))); have n1_ := aM (Kd.R_after (ok := (fun _ => True)) HO175.out hg hat); have n2_ := aM (hb); have n3_ := aM (ho); clear BK157; clear HO175; clear HB; clear HO_4; have BK157 := n0_; have HO175 := n1_; have HB := n2_; have HO178 := n3_; clear n0_ n1_ n2_ n3_; clear ho hb hg hat))
    go_ret
    exact ⟨_, rfl, by exact Kd.R_mono HO178.out (fun _ hk => trivial), HB.out⟩

/-! ### credenzaref18_count: function 60 -/
def credenzaref18_count.f (a0_0 : Int) (a0_1 : Int) : Option (Int) := if a0_0 = 0 then (some a0_1) else (some (wrap64 (a0_0 * a0_1)))
set_option maxHeartbeats 8000000 in
set_option maxRecDepth 100000 in
theorem credenzaref18_count.calls (a0_0 : Int) (a0_1 : Int) (r : Int) (w : World) (h : credenzaref18_count.f a0_0 a0_1 = some r) :
  Calls Try.prog 60 #[.agg #[.int .i64 a0_0, .int .i64 a0_1]] w fun e w' => e = .returned (.int .i64 r) ∧ Below w.heap.size w w' := by
 have hu110 := Try.underlying110
 have HB := aM (Below.refl w.heap.size w)
 have H := h
 clear h
 unfold credenzaref18_count.f at H
 by_cases c2 : a0_0 = 0
 ·
  rw [if_pos c2] at H
  have c2b0 : (a0_0 == 0) = true := beq_iff_eq.mpr c2
  have c2b1 : (a0_0 != 0) = false := bne_eq_false_iff_eq.mpr c2
  clear c2
  obtain rfl := oI H
  go_enter Try.func60, Try.ntmps60
  go_wp2_with (first | ((with_reducible refine gate_dst (N := 1) rfl ?_); refine bxE 1 #[.int .i64 a0_0, .int .i64 a0_1] 110 (h := ?_); intro gb179 hg w3 hbox hb; have BK179 := aM (hbox); have GW179 := gE hg HB; have GE179 := gE hg HB; replace HB := bst HB hb; clear hb hbox hg; have hz4 := bx2 BK179.out))
  go_ret
  exact ⟨rfl, HB.out⟩
 ·
  rw [if_neg c2] at H
  have c2b0 : (a0_0 == 0) = false := beq_eq_false_iff_ne.mpr c2
  have c2b1 : (a0_0 != 0) = true := bne_iff_ne.mpr c2
  obtain rfl := oI H
  go_enter Try.func60, Try.ntmps60
  go_wp2_with (first | ((with_reducible refine gate_dst (N := 1) rfl ?_); refine bxE 1 #[.int .i64 a0_0, .int .i64 a0_1] 110 (h := ?_); intro gb179 hg w5 hbox hb; have BK179 := aM (hbox); have GW179 := gE hg HB; have GE179 := gE hg HB; replace HB := bst HB hb; clear hb hbox hg; have hz6 := bx2 BK179.out))
  go_ret
  exact ⟨rfl, HB.out⟩

end Go.Proofs.Ytehepnmagcjkaaa.PBlobParses
