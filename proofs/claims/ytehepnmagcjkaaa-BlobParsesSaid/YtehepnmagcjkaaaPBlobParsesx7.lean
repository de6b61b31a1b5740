-- Written by a program of this session (wip/tools/mkprint.py over the kit's print).
import Derived.Test.YtehepnmagcjkaaaPBlobParsesx0
import Derived.Test.YtehepnmagcjkaaaPBlobParsesx3
import Derived.Test.YtehepnmagcjkaaaPBlobParsesx5
import Derived.Test.YtehepnmagcjkaaaPBlobParsesx6
namespace Go.Proofs.Ytehepnmagcjkaaa.PBlobParses
open Go.RowKit Go.Proofs.YtehepnmagcjkaaaW.PrintWords Go.Proofs.YtehepnmagcjkaaaW.PrintLast Go.Proofs.YtehepnmagcjkaaaW.PrintMore
attribute [local go_sem] max2_int min2_int max_two min_two max_three min_three max_four min_four   -- for this text's walks alone
set_option linter.unusedVariables false
set_option linter.unusedSimpArgs false

/-! ### blob_Bytes: function 30 -/
theorem pS {p : Prop} (h : p := by simp only [Act.put, List.setIfInBounds_toArray, List.set_cons_zero, List.set_cons_succ, i64_w, i32_w, IntKind.wrap_u32]; rfl) : p := h
theorem aM {p : Prop} (h : p) : Aside0 p := ⟨h⟩
theorem pI {p : Prop} (h : p := by intro w'; go_simp; with_reducible rfl) : p := h
def wordOf (x : Int) : List Int := [x / 16777216 % 256, x / 65536 % 256, x / 256 % 256, x % 256]
theorem Kept.trans_grown {W W1 W2 : World} {r : Option Nat} (h : Below W.heap.size W W1) (hg : W1.grownBy W2 r) : Kept W W2 (fun k => some k = r) := ⟨Nat.le_trans h.size hg.size, fun k hk hn => (hg.block k (Nat.lt_of_lt_of_le hk h.size) hn).trans (h.block k hk)⟩
theorem r_aside {α : Type} {d : Kd α} {e : Nat} {W : World} {B : Nat} {ok : Nat → Prop} {v : Value} {xs : List α} {ob t : Nat} {cs : Array Value} (h : d.R e W B ok v xs) (ho : W.heap[ob]? = some (.cells cs t (0, 0))) (ht : ∀ q, q ∈ e :: d.E → q ≠ t) (i : Nat) (u : Value) : d.R e (W.setCell ⟨ob, i, none⟩ u) B ok v xs :=
 Kd.R_mono (Kd.R_step (Kd.R_types h ho ht) (fun k hk _ => Below.heap_setCell _ ⟨ob, i, none⟩ _ k hk.2)) (fun k hk => hk.1)
theorem Kept.set {W W1 : World} {S : Nat → Prop} (h : Kept W W1 S) (ob i : Nat) (u : Value) : Kept W (W1.setCell ⟨ob, i, none⟩ u) (fun k => k = ob ∨ S k) :=
 ⟨Nat.le_trans h.1 ((Below.refl 0 W1).setCell (p := ⟨ob, i, none⟩) (Nat.zero_le _) u).size, fun k hk hn => (Below.heap_setCell _ ⟨ob, i, none⟩ _ k (fun e => hn (.inl e))).trans (h.2 k hk (fun e => hn (.inr e)))⟩
set_option maxHeartbeats 8000000 in
set_option maxRecDepth 100000 in
theorem bput.calls (x : Int) (ob : Nat) (v : Value) (bs : List Int) (w0 w : World) (ho : w.heap[ob]? = some (.cells #[v] 32 (0, 0))) (hR : Kd.R (Kd.int .u8) 5 w w0.heap.size (fun _ => True) v bs) (hB : Below w0.heap.size w0 w) (hge : w0.heap.size ≤ ob) (hl : bs.length ≤ 100000000) :
  Calls Try.prog 61 #[.int .i32 x, .pointer (some ⟨ob, 0, none⟩)] w fun e w' => ∃ v', e = .returned (.tuple #[]) ∧ w'.heap[ob]? = some (.cells #[v'] 32 (0, 0)) ∧ Kd.R (Kd.int .u8) 5 w' w0.heap.size (fun _ => True) v' (bs ++ wordOf x) ∧ Below w0.heap.size w0 w' ∧ Kept w w' (fun k => k = ob ∨ some k = v.ownBlock) := by
 have OB := aM ho
 have HR := aM hR
 have HB := aM hB
 have HL := aM hl
 have GE := aM hge
 have hz : w.cell? ⟨ob, 0, none⟩ = some v := (blk_cell ho 0).trans rfl
 have hzf := blk_frozen ho
 obtain ⟨A, c, rfl⟩ := Kd.R_slice hR
 clear ho hR hB hl hge
 go_enter Try.func61, Try.ntmps61
 go_wp2_with (first | ((with_reducible refine gate_dst (N := 15) rfl ?_); refine Kd.R_lit (Kd.int .u8) _ 5 ?hg (N := 15) ?hd (xs := ([x / 16777216 % 256, x / 65536 % 256, x / 256 % 256, x % 256] : List Int)) (inner := [.int .u8 (x / 16777216 % 256), .int .u8 (x / 65536 % 256), .int .u8 (x / 256 % 256), .int .u8 (x % 256)]) (ok := fun _ => True) (okp := fun _ => True) ?hr ?hp (fun _ hk => hk) trivial (Below.refl _ _) (Nat.le_refl _) (by simp) ?_; (case hd => rfl); (case hg => rfl); (case hr => first | (go_simp; done) | (go_simp; rfl)); (case hp => exact (Reps.one rfl (Reps.one rfl (Reps.one rfl (Reps.one rfl (Reps.none _ _)))))); intro v1 w1 ho1 hb hg_ hnew_; obtain ⟨A1, c1, rfl⟩ := Kd.R_slice ho1; have HC1 := aM (Kd.R_reads' ho1).2.2; have HK := aM hb; replace OB := aM (blk_below OB.out hb); replace HR := aM (Kd.R_below HR.out hb); replace HB := aM (below_step HB.out hb); clear ho1 hb hg_ hnew_ hz hzf) | ((with_reducible refine gate_builtin (b := .append) (xs := #[.tmp 3, .tmp 15]) rfl ?_); at_builtin; refine Kd.R_append_rows (Kd.int .u8) (w0 := w0) w0.heap.size rfl (.tmp 3) (.tmp 15) 32 5 (.int .u8 0) 1 rfl Try.underlying32 info5 rfl (by decide) (by decide) (.slice A bs.length c) bs [x / 16777216 % 256, x / 65536 % 256, x / 256 % 256, x % 256] _ _ _ (fun _ => True) (fun _ => False) rfl rfl ?aO ?aR (fun _ _ h => h) (fun _ h => h.elim) ?aF ?aB ?aS ?aL ?_; (case aR => exact HC1.out); (case aB => exact HB.out); (case aF => exact (fun _ _ => trivial)); (case aO => exact HR.out); (case aS => exact (below_size HB.out)); (case aL => have := HL.out; simp; omega); intro v2 w2 ho hb hg hat; have hne := Kd.R_ne HR.out OB.out (by decide); replace OB := aM (blk_grown OB.out hg hne); replace HK := aM (Kept.trans_grown HK.out hg); replace HR := aM ho; replace HB := aM hb; clear ho hb hg hat hne; have hz : w2.cell? ⟨ob, 0, none⟩ = some (.slice A bs.length c) := (blk_cell OB.out 0).trans rfl; have hzf := blk_frozen OB.out; obtain ⟨A2, c2, rfl⟩ := Kd.R_slice HR.out))
 refine bodyPost_end (results_none rfl _ _ _) rfl ?_
 have e : (bs ++ [x / 16777216 % 256, x / 65536 % 256, x / 256 % 256, x % 256]).length = bs.length + 4 := by simp
 have HR2 := HR.out
 rw [e] at HR2
 exact ⟨_, rfl, blk_put OB.out 0 _ rfl, r_aside HR2 OB.out (by decide) 0 _, HB.out.setCell (p := ⟨ob, 0, none⟩) GE.out _, Kept.set HK.out ob 0 _⟩
def RowI2 (w W : World) (row : List Value) (I : PI) : Prop := ∃ t l p, row = bp.one t l I.r I.c ∧ Sees W t l p ∧ p.tab = I.tab ∧ p.n = I.xs.length ∧ p.n ≤ p.cap ∧ (Kd.int .i32).C w p.A p.n I.xs
/-- All parts of a boxed blob, its numbers where they were. -/
theorem all_I2 {gb gl ol : Nat} {x0 x1 x2 x3 x4 x5 a7 a8 a12 a13 : Int} {v6 : Value} {A9 A10 A11 A14 : Option Addr} {c9 c10 c11 c14 : Nat} {l9 l11 l14 : List Int} {l10 : List S120} {w W : World} (hB : Below w.heap.size w W)
  (hg : W.heap[gb]? = some (.cells #[.int .i64 x0, .int .i64 x1, .int .i64 x2, .int .i64 x3, .int .i64 x4, .int .i64 x5, v6, .int .i64 a7, .int .i64 a8, .slice A9 l9.length c9, .slice A10 l10.length c10, .slice A11 l11.length c11, .int .i64 a12, .int .i64 a13, .slice A14 l14.length c14] 67 (0, 0)))
  (h9 : (Kd.int .i32).C w A9 l9.length l9) (k9 : l9.length ≤ c9) (h10 : Kd.C k120 w A10 l10.length l10) (hA : 0 < l10.length → A10 = some ⟨gl, ol, none⟩) (h11 : (Kd.int .i32).C w A11 l11.length l11) (k11 : l11.length ≤ c11) (h14 : (Kd.int .i32).C w A14 l14.length l14) (k14 : l14.length ≤ c14) (v WW KV Q : Int) :
  ∀ (j : Nat) (row : List Value) (I : PI), (bp.all gb gl ol l10.length v WW KV Q)[j]? = some row → (infos v WW KV Q a7 a8 l9 l10 l11 a12 a13 l14)[j]? = some I → RowI2 w W row I := by
 have hc : ∀ i u, (#[.int .i64 x0, .int .i64 x1, .int .i64 x2, .int .i64 x3, .int .i64 x4, .int .i64 x5, v6, .int .i64 a7, .int .i64 a8, .slice A9 l9.length c9, .slice A10 l10.length c10, .slice A11 l11.length c11, .int .i64 a12, .int .i64 a13, .slice A14 l14.length c14] : Array Value)[i]? = some u → W.cell? ⟨gb, i, none⟩ = some u := fun i u hu => (blk_cell hg i).trans hu
 have hl := layers_I h10 hA WW KV Q l10.length (Nat.le_refl _)
 rw [List.take_length] at hl
 have hlen := hl.length
 intro j row I h1 h2
 unfold bp.all at h1
 unfold infos at h2
 cases j with
 | zero =>
  obtain rfl := Option.some.inj h1
  obtain rfl := Option.some.inj h2
  exact ⟨_, _, ⟨some (_, _), A9, _, c9⟩, rfl, .inl ⟨gb, 7, _, _, rfl, rfl, hc 7 _ rfl, hc 8 _ rfl, hc 9 _ rfl⟩, rfl, rfl, k9, h9⟩
 | succ j =>
  simp only [List.cons_append, List.getElem?_cons_succ] at h1 h2
  by_cases hj : j < (bp.layers gl ol WW KV Q l10.length).length
  ·
   rw [List.getElem?_append_left hj] at h1
   rw [List.getElem?_append_left (by omega)] at h2
   obtain ⟨row', I', e1, e2, t, l, p, q1, q2, q3⟩ := hl.at j hj
   obtain rfl := Option.some.inj (e1.symm.trans h1)
   obtain rfl := Option.some.inj (e2.symm.trans h2)
   exact ⟨t, l, p, q1, q2.below hB, q3⟩
  ·
   rw [List.getElem?_append_right (by omega)] at h1 h2
   rw [hlen] at h1
   obtain ⟨i, hi⟩ : ∃ i, j - (layI WW KV Q l10).length = i := ⟨_, rfl⟩
   rw [hi] at h1 h2
   rcases i with _ | _ | i
   ·
    obtain rfl := Option.some.inj h1
    obtain rfl := Option.some.inj h2
    exact ⟨_, _, ⟨none, A11, _, c11⟩, rfl, .inr ⟨rfl, rfl, gb, 11, rfl, hc 11 _ rfl⟩, rfl, rfl, k11, h11⟩
   ·
    obtain rfl := Option.some.inj h1
    obtain rfl := Option.some.inj h2
    exact ⟨_, _, ⟨some (_, _), A14, _, c14⟩, rfl, .inl ⟨gb, 12, _, _, rfl, rfl, hc 12 _ rfl, hc 13 _ rfl, hc 14 _ rfl⟩, rfl, rfl, k14, h14⟩
   ·
    simp at h1
theorem bx2b {w : World} {g : Nat} {t : TypeId} {a0 a1 : Value} (h : w.heap[g]? = some (.cells #[a0, a1] t (0, 0))) : w.cell? ⟨g, 0, none⟩ = some a0 ∧ w.cell? ⟨g, 1, none⟩ = some a1 ∧ (∀ i, w.frozen? ⟨g, i, none⟩ = false) := ⟨(blk_cell h 0).trans rfl, (blk_cell h 1).trans rfl, blk_frozen h⟩
theorem fm_le {α : Type} (f : α → List Int) (l : List α) (i : Nat) : ((l.take i).flatMap f).length ≤ (l.flatMap f).length := by
 have h := congrArg (fun z => (z.flatMap f).length) (List.take_append_drop i l)
 simp only [List.flatMap_append, List.length_append] at h
 omega
theorem fm_succ {α : Type} (f : α → List Int) {l : List α} {i : Nat} {x : α} (h : l[i]? = some x) : (l.take (i + 1)).flatMap f = (l.take i).flatMap f ++ f x := by
 rw [List.take_add_one, h, List.flatMap_append]
 simp
theorem no_put {W : World} {B ob b t : Nat} {v : Value} {xs : List Int} {ok : Nat → Prop} {c1 c2 : Array Value} (ho : W.heap[ob]? = some (.cells c1 32 (0, 0))) (hR : Kd.R (Kd.int .u8) 5 W B ok v xs) (hb : W.heap[b]? = some (.cells c2 t (0, 0))) (h1 : t ≠ 32) (h2 : t ≠ 5) : ¬ (b = ob ∨ some b = v.ownBlock) := fun e => e.elim (blk_ne hb ho h1) (fun e => by
 obtain ⟨cs, hc⟩ := Kd.R_typed hR b e.symm
 exact blk_ne hb hc h2 rfl)
theorem r_kept {α : Type} {d : Kd α} {e B : Nat} {W W' : World} {ok S : Nat → Prop} {v : Value} {xs : List α} (h : d.R e W B ok v xs) (hk : Kept W W' S) (hS : ∀ k cs q, q ∈ e :: d.E → W.heap[k]? = some (.cells cs q (0, 0)) → ¬ S k) : d.R e W' B ok v xs :=
 Kd.R_mono (Kd.R_step (Kd.R_bound h) (fun k hk1 _ => by
  obtain ⟨h1, h2, h3, q, hq, cs, hc⟩ := hk1
  exact hk.2 k h3 (hS k cs q hq hc))) (fun k hk1 => hk1.1)
def tw4 (t : S115) : List Int := wordOf t.f0 ++ wordOf t.f1
def pw4 (I : PI) : List Int := I.xs.flatMap wordOf
def blob_Bytes.bytes (a0_0 : Int) (a0_1 : Int) (a0_2 : Int) (a0_3 : Int) (a0_4 : Int) (a0_5 : Int) (l0_6 : List (S115)) (a0_7 : Int) (a0_8 : Int) (l0_9 : List Int) (l0_10 : List (S120)) (l0_11 : List Int) (a0_12 : Int) (a0_13 : Int) (l0_14 : List Int) : List Int := ([87, a0_0 % 256, a0_1 % 256, a0_2 % 256, a0_3 % 256, a0_4 % 256, a0_5 % 256] ++ l0_6.flatMap tw4) ++ (infos a0_5 (wrap64 (a0_1 * a0_3)) (wrap64 (a0_2 * a0_3)) a0_4 a0_7 a0_8 l0_9 l0_10 l0_11 a0_12 a0_13 l0_14).flatMap pw4
def blob_Bytes.f (k : Nat) (a0_0 : Int) (a0_1 : Int) (a0_2 : Int) (a0_3 : Int) (a0_4 : Int) (a0_5 : Int) (l0_6 : List (S115)) (a0_7 : Int) (a0_8 : Int) (l0_9 : List Int) (l0_10 : List (S120)) (l0_11 : List Int) (a0_12 : Int) (a0_13 : Int) (l0_14 : List Int) : Option (List Int × Int) :=
 (blob_Right.f k a0_0 a0_1 a0_2 a0_3 a0_4 a0_5 l0_6 a0_7 a0_8 l0_9 l0_10 l0_11 a0_12 a0_13 l0_14).bind fun e => if e = 0 then (if l0_10.length ≤ 100000 ∧ (blob_Bytes.bytes a0_0 a0_1 a0_2 a0_3 a0_4 a0_5 l0_6 a0_7 a0_8 l0_9 l0_10 l0_11 a0_12 a0_13 l0_14).length ≤ 900000 then (seal_Close.f k (blob_Bytes.bytes a0_0 a0_1 a0_2 a0_3 a0_4 a0_5 l0_6 a0_7 a0_8 l0_9 l0_10 l0_11 a0_12 a0_13 l0_14)).bind fun s => some (s, 0) else none) else some ([], e)
theorem blob_Bytes.mono : ∀ a0_0 a0_1 a0_2 a0_3 a0_4 a0_5 l0_6 a0_7 a0_8 l0_9 l0_10 l0_11 a0_12 a0_13 l0_14 k, LeO (blob_Bytes.f k a0_0 a0_1 a0_2 a0_3 a0_4 a0_5 l0_6 a0_7 a0_8 l0_9 l0_10 l0_11 a0_12 a0_13 l0_14) (blob_Bytes.f (k + 1) a0_0 a0_1 a0_2 a0_3 a0_4 a0_5 l0_6 a0_7 a0_8 l0_9 l0_10 l0_11 a0_12 a0_13 l0_14) := by
 intro a0_0 a0_1 a0_2 a0_3 a0_4 a0_5 l0_6 a0_7 a0_8 l0_9 l0_10 l0_11 a0_12 a0_13 l0_14 k
 unfold blob_Bytes.f
 refine LeO.bind (blob_Right.mono _ _ _ _ _ _ _ _ _ _ _ _ _ _ _ _) (fun e => LeO.ite (LeO.ite (LeO.bind (seal_Close.mono _ _) (fun _ => LeO.refl _)) (LeO.none _)) (LeO.refl _))
set_option maxHeartbeats 8000000 in
set_option maxRecDepth 100000 in
theorem blob_Bytes.calls (k : Nat) (a0_0 : Int) (a0_1 : Int) (a0_2 : Int) (a0_3 : Int) (a0_4 : Int) (a0_5 : Int) (A0_6 : Option Addr) (c0_6 : Nat) (l0_6 : List (S115)) (a0_7 : Int) (a0_8 : Int) (A0_9 : Option Addr) (c0_9 : Nat) (l0_9 : List Int) (A0_10 : Option Addr) (c0_10 : Nat) (l0_10 : List (S120)) (A0_11 : Option Addr) (c0_11 : Nat) (l0_11 : List Int) (a0_12 : Int) (a0_13 : Int) (A0_14 : Option Addr) (c0_14 : Nat) (l0_14 : List Int) (r1 : List Int) (r2 : Int) (w : World) (hr0_6 : Kd.C k115 w A0_6 l0_6.length l0_6) (hc0_6 : l0_6.length ≤ c0_6) (hr0_9 : Kd.C (Kd.int .i32) w A0_9 l0_9.length l0_9) (hc0_9 : l0_9.length ≤ c0_9) (hr0_10 : Kd.C k120 w A0_10 l0_10.length l0_10) (hc0_10 : l0_10.length ≤ c0_10) (hr0_11 : Kd.C (Kd.int .i32) w A0_11 l0_11.length l0_11) (hc0_11 : l0_11.length ≤ c0_11) (hr0_14 : Kd.C (Kd.int .i32) w A0_14 l0_14.length l0_14) (hc0_14 : l0_14.length ≤ c0_14) (h : blob_Bytes.f k a0_0 a0_1 a0_2 a0_3 a0_4 a0_5 l0_6 a0_7 a0_8 l0_9 l0_10 l0_11 a0_12 a0_13 l0_14 = some (r1, r2)) :
  Calls Try.prog 30 #[.agg #[.int .i64 a0_0, .int .i64 a0_1, .int .i64 a0_2, .int .i64 a0_3, .int .i64 a0_4, .int .i64 a0_5, .slice A0_6 l0_6.length c0_6, .int .i64 a0_7, .int .i64 a0_8, .slice A0_9 l0_9.length c0_9, .slice A0_10 l0_10.length c0_10, .slice A0_11 l0_11.length c0_11, .int .i64 a0_12, .int .i64 a0_13, .slice A0_14 l0_14.length c0_14]] w fun e w' => ∃ v, e = .returned (.tuple #[v, .int .i64 r2]) ∧ Kd.R (Kd.int .u8) 5 w' w.heap.size (fun _ => True) v r1 ∧ Below w.heap.size w w' := by
 have hu54 := Try.underlying54
 have hu67 := Try.underlying67
 have hu105 := Try.underlying105
 have hu115 := Try.underlying115
 have HB := aM (Below.refl w.heap.size w)
 have HR6 := aM hr0_6
 have HC6 := aM hc0_6
 clear hr0_6 hc0_6
 have HR9 := aM hr0_9
 have HC9 := aM hc0_9
 clear hr0_9 hc0_9
 have HR10 := aM hr0_10
 have HC10 := aM hc0_10
 clear hr0_10 hc0_10
 have HR11 := aM hr0_11
 have HC11 := aM hc0_11
 clear hr0_11 hc0_11
 have HR14 := aM hr0_14
 have HC14 := aM hc0_14
 clear hr0_14 hc0_14
 unfold blob_Bytes.f at h
 obtain ⟨q, hq, h⟩ := Option.bind_eq_some_iff.mp h
 have HQ := aM hq
 clear hq
 by_cases hz0 : q = 0
 case neg =>
  rw [if_neg hz0] at h
  simp only [Option.some.injEq, Prod.mk.injEq] at h
  obtain ⟨rfl, rfl⟩ := h
  have c1 : (q != 0) = true := bne_iff_ne.mpr hz0
  clear hz0
  go_enter Try.func30, Try.ntmps30
  go_wp2_with (first | ((with_reducible refine gate_dst (N := 1) rfl ?_); refine box_event ?hg (N := 1) ?hd (cs := #[.int .i64 a0_0, .int .i64 a0_1, .int .i64 a0_2, .int .i64 a0_3, .int .i64 a0_4, .int .i64 a0_5, .slice A0_6 l0_6.length c0_6, .int .i64 a0_7, .int .i64 a0_8, .slice A0_9 l0_9.length c0_9, .slice A0_10 l0_10.length c0_10, .slice A0_11 l0_11.length c0_11, .int .i64 a0_12, .int .i64 a0_13, .slice A0_14 l0_14.length c0_14]) (t := 67) ?hr ?_; (case hd => rfl); (case hg => rfl); (case hr => first | (go_simp; done) | (go_simp; rfl)); intro gb hg w1 hbox hb; have hz1 := bx15 hbox; have BK := aM hbox; replace HB := aM hb; clear hbox hb hg) | (go_at_call 33; (with_reducible refine (blob_Right.calls k a0_0 a0_1 a0_2 a0_3 a0_4 a0_5 A0_6 c0_6 l0_6 a0_7 a0_8 A0_9 c0_9 l0_9 A0_10 c0_10 l0_10 A0_11 c0_11 l0_11 a0_12 a0_13 A0_14 c0_14 l0_14 _ _ (Kd.C_below HR6.out HB.out) HC6.out (Kd.C_below HR9.out HB.out) HC9.out (Kd.C_below HR10.out HB.out) HC10.out (Kd.C_below HR11.out HB.out) HC11.out (Kd.C_below HR14.out HB.out) HC14.out HQ.out).mono ?_); rintro e w2 ⟨rfl, hb⟩; replace HB := aM (below_step HB.out hb); replace BK := aM (blk_below BK.out hb); clear hb hz1; have hz2 := bx15 BK.out))
  go_ret2
  exact ⟨_, rfl, Kd.R_nil _ _ _ _ _, HB.out⟩
 subst hz0
 rw [if_pos rfl] at h
 by_cases hn : l0_10.length ≤ 100000 ∧ (blob_Bytes.bytes a0_0 a0_1 a0_2 a0_3 a0_4 a0_5 l0_6 a0_7 a0_8 l0_9 l0_10 l0_11 a0_12 a0_13 l0_14).length ≤ 900000
 case neg => (rw [if_neg hn] at h; cases h)
 rw [if_pos hn] at h
 obtain ⟨s, hs, h⟩ := Option.bind_eq_some_iff.mp h
 simp only [Option.some.injEq, Prod.mk.injEq] at h
 obtain ⟨rfl, rfl⟩ := h
 have HN := aM hn.1
 unfold blob_Bytes.bytes at hs hn
 obtain ⟨Is, hIs⟩ : ∃ l, infos a0_5 (wrap64 (a0_1 * a0_3)) (wrap64 (a0_2 * a0_3)) a0_4 a0_7 a0_8 l0_9 l0_10 l0_11 a0_12 a0_13 l0_14 = l := ⟨_, rfl⟩
 have HIS := aM hIs
 rw [hIs] at hs hn
 obtain ⟨hd, hhd⟩ : ∃ l, ([87, a0_0 % 256, a0_1 % 256, a0_2 % 256, a0_3 % 256, a0_4 % 256, a0_5 % 256] : List Int) = l := ⟨_, rfl⟩
 have HHD := aM hhd
 rw [hhd] at hs hn
 have HS := aM hs
 have HLT : Aside0 (hd.length ≤ 900000 ∧ (l0_6.flatMap tw4).length ≤ 900000 ∧ (Is.flatMap pw4).length ≤ 900000) := ⟨by have h_ := hn.2; rw [List.length_append, List.length_append] at h_; omega⟩
 clear hs hn hIs hhd
 obtain ⟨gl, ol, hgl⟩ := plain_of HR10.out
 have HGL := aM hgl
 clear hgl
 go_enter Try.func30, Try.ntmps30
 go_upto_region 5 with (first | ((with_reducible refine gate_dst (N := 1) rfl ?_); refine box_event ?hg (N := 1) ?hd (cs := #[.int .i64 a0_0, .int .i64 a0_1, .int .i64 a0_2, .int .i64 a0_3, .int .i64 a0_4, .int .i64 a0_5, .slice A0_6 l0_6.length c0_6, .int .i64 a0_7, .int .i64 a0_8, .slice A0_9 l0_9.length c0_9, .slice A0_10 l0_10.length c0_10, .slice A0_11 l0_11.length c0_11, .int .i64 a0_12, .int .i64 a0_13, .slice A0_14 l0_14.length c0_14]) (t := 67) ?hr ?_; (case hd => rfl); (case hg => rfl); (case hr => first | (go_simp; done) | (go_simp; rfl)); intro gb hg w1 hbox hb; have hz1 := bx15 hbox; have BK := aM hbox; replace HB := aM hb; clear hbox hb hg) | (go_at_call 33; (with_reducible refine (blob_Right.calls k a0_0 a0_1 a0_2 a0_3 a0_4 a0_5 A0_6 c0_6 l0_6 a0_7 a0_8 A0_9 c0_9 l0_9 A0_10 c0_10 l0_10 A0_11 c0_11 l0_11 a0_12 a0_13 A0_14 c0_14 l0_14 _ _ (Kd.C_below HR6.out HB.out) HC6.out (Kd.C_below HR9.out HB.out) HC9.out (Kd.C_below HR10.out HB.out) HC10.out (Kd.C_below HR11.out HB.out) HC11.out (Kd.C_below HR14.out HB.out) HC14.out HQ.out).mono ?_); rintro e w2 ⟨rfl, hb⟩; replace HB := aM (below_step HB.out hb); replace BK := aM (blk_below BK.out hb); clear hb hz1; have hz2 := bx15 BK.out) | ((with_reducible refine gate_dst (N := 5) rfl ?_); refine box_event ?hg (N := 5) ?hd (cs := #[.int .i64 0, .int .i64 0, .int .i64 0, .int .i64 0, .int .i64 0, .int .i64 0]) (t := 54) ?hr ?_; (case hd => rfl); (case hg => rfl); (case hr => first | (go_simp; done) | (go_simp; rfl)); intro gc hg_ w5 hbox hb; have GO := aM (by rw [hg_]; exact Nat.le_refl _ : w2.heap.size ≤ gc); have GC := aM hbox; have HX := aM hb; have hz5 := bx6 hbox; clear hbox hb hg_))
 have HX6 := aM ((((((HX.out.setCell (p := ⟨gc, 0, none⟩) GO.out (.int .i64 a0_0)).setCell (p := ⟨gc, 1, none⟩) GO.out (.int .i64 a0_1)).setCell (p := ⟨gc, 2, none⟩) GO.out (.int .i64 a0_2)).setCell (p := ⟨gc, 3, none⟩) GO.out (.int .i64 a0_3)).setCell (p := ⟨gc, 4, none⟩) GO.out (.int .i64 a0_4)).setCell (p := ⟨gc, 5, none⟩) GO.out (.int .i64 a0_5))
 replace GC := aM (blk_put (blk_put (blk_put (blk_put (blk_put (blk_put GC.out 0 (.int .i64 a0_0) (cs' := #[.int .i64 a0_0, .int .i64 0, .int .i64 0, .int .i64 0, .int .i64 0, .int .i64 0]) rfl) 1 (.int .i64 a0_1) (cs' := #[.int .i64 a0_0, .int .i64 a0_1, .int .i64 0, .int .i64 0, .int .i64 0, .int .i64 0]) rfl) 2 (.int .i64 a0_2) (cs' := #[.int .i64 a0_0, .int .i64 a0_1, .int .i64 a0_2, .int .i64 0, .int .i64 0, .int .i64 0]) rfl) 3 (.int .i64 a0_3) (cs' := #[.int .i64 a0_0, .int .i64 a0_1, .int .i64 a0_2, .int .i64 a0_3, .int .i64 0, .int .i64 0]) rfl) 4 (.int .i64 a0_4) (cs' := #[.int .i64 a0_0, .int .i64 a0_1, .int .i64 a0_2, .int .i64 a0_3, .int .i64 a0_4, .int .i64 0]) rfl) 5 (.int .i64 a0_5) (cs' := #[.int .i64 a0_0, .int .i64 a0_1, .int .i64 a0_2, .int .i64 a0_3, .int .i64 a0_4, .int .i64 a0_5]) rfl)
 clear hz5 hz2 HX GO
 generalize (((((w5.setCell ⟨gc, 0, none⟩ (.int .i64 a0_0)).setCell ⟨gc, 1, none⟩ (.int .i64 a0_1)).setCell ⟨gc, 2, none⟩ (.int .i64 a0_2)).setCell ⟨gc, 3, none⟩ (.int .i64 a0_3)).setCell ⟨gc, 4, none⟩ (.int .i64 a0_4)).setCell ⟨gc, 5, none⟩ (.int .i64 a0_5) = w6 at HX6 GC ⊢
 replace BK := aM (blk_below BK.out HX6.out)
 replace HB := aM (below_step HB.out HX6.out)
 have hz6 := bx6 GC.out
 clear HX6
 go_upto_region 6 with (first | ((with_reducible refine gate_dst (N := 39) rfl ?_); refine Kd.R_lit (Kd.int .u8) _ 5 ?hg (N := 39) ?hd (xs := ([87, a0_0 % 256, a0_1 % 256, a0_2 % 256, a0_3 % 256, a0_4 % 256, a0_5 % 256] : List Int)) (inner := [.int .u8 87, .int .u8 (a0_0 % 256), .int .u8 (a0_1 % 256), .int .u8 (a0_2 % 256), .int .u8 (a0_3 % 256), .int .u8 (a0_4 % 256), .int .u8 (a0_5 % 256)]) (ok := fun _ => True) (okp := fun _ => True) ?hr ?hp (fun _ hk => hk) trivial (Below.refl _ _) (Nat.le_refl _) (by simp) ?_; (case hd => rfl); (case hg => rfl); (case hr => first | (go_simp; done) | (go_simp; rfl)); (case hp => exact (Reps.one rfl (Reps.one rfl (Reps.one rfl (Reps.one rfl (Reps.one rfl (Reps.one rfl (Reps.one rfl (Reps.none _ _))))))))); intro v1 w7 ho1 hb hg_ hnew_; rw [HHD.out] at ho1; obtain ⟨A1, c1, rfl⟩ := Kd.R_slice ho1; have HRB := aM (Kd.R_lower ho1 (below_size HB.out)); replace BK := aM (blk_below BK.out hb); replace HB := aM (below_step HB.out hb); clear ho1 hb hg_ hnew_ hz6 GC) | ((with_reducible refine gate_dst (N := 6) rfl ?_); refine box_event ?hg (N := 6) ?hd (cs := #[.slice none 0 0]) (t := 32) ?hr ?_; (case hd => rfl); (case hg => rfl); (case hr => first | (go_simp; done) | (go_simp; rfl)); intro ob hg_ w8 hbox hb; have GO := aM (by rw [hg_]; exact Nat.le_refl _ : w7.heap.size ≤ ob); have GOB := aM (by rw [hg_]; exact below_size HB.out : w.heap.size ≤ ob); have OB := aM hbox; have HX := aM hb; have hz8 : w8.cell? ⟨ob, 0, none⟩ = some (.slice none 0 0) := (blk_cell hbox 0).trans rfl; have hzf8 := blk_frozen hbox; clear hbox hb hg_))
 have HX8 := aM (HX.out.setCell (p := ⟨ob, 0, none⟩) GO.out (.slice A1 hd.length c1))
 replace OB := aM (blk_put OB.out 0 (.slice A1 hd.length c1) (cs' := #[.slice A1 hd.length c1]) rfl)
 clear hz8 hzf8 HX GO
 generalize w8.setCell ⟨ob, 0, none⟩ (.slice A1 hd.length c1) = w9 at HX8 OB ⊢
 replace BK := aM (blk_below BK.out HX8.out)
 replace HRB := aM (Kd.R_below HRB.out HX8.out)
 replace HB := aM (below_step HB.out HX8.out)
 have hz := bx15 BK.out
 clear HX8
 go_wp2
 clear hz
 go_loopw [44] (fun i_ W' => ∃ (n : Nat) (v_ : Value), i_ = .int .i64 n ∧ Aside0 (n ≤ l0_6.length) ∧ Aside0 (W'.heap[ob]? = some (.cells #[v_] 32 (0, 0))) ∧ Aside0 (Kd.R (Kd.int .u8) 5 W' w.heap.size (fun _ => True) v_ (hd ++ (l0_6.take n).flatMap tw4)) ∧ Aside0 (W'.heap[gb]? = some (.cells #[.int .i64 a0_0, .int .i64 a0_1, .int .i64 a0_2, .int .i64 a0_3, .int .i64 a0_4, .int .i64 a0_5, .slice A0_6 l0_6.length c0_6, .int .i64 a0_7, .int .i64 a0_8, .slice A0_9 l0_9.length c0_9, .slice A0_10 l0_10.length c0_10, .slice A0_11 l0_11.length c0_11, .int .i64 a0_12, .int .i64 a0_13, .slice A0_14 l0_14.length c0_14] 67 (0, 0))) ∧ Aside0 (Below w.heap.size w W')) (fun i_ _ => l0_6.length - (intOf i_).toNat)
 case atStart => exact ⟨0, _, rfl, ⟨Nat.zero_le _⟩, OB, ⟨by rw [List.take_zero, List.flatMap_nil, List.append_nil]; exact HRB.out⟩, BK, HB⟩
 case round =>
  clear OB HRB BK HB
  obtain ⟨n, v, rfl, HJ, OB, HRB, BK, HB⟩ := hrel
  by_cases q : n < l0_6.length
  ·
   have f1 : decide ((n : Int) < (l0_6.length : Int)) = true := decide_eq_true (by omega)
   have f2 : decide (n < l0_6.length) = true := decide_eq_true q
   have hl63 := HR6.out.2.1
   have p0 : (0 : Int) ≤ (n : Int) := by omega
   have p1 : (n : Int) < (l0_6.length : Int) := by omega
   obtain ⟨t, ht⟩ : ∃ t, l0_6[n]? = some t := ⟨_, List.getElem?_eq_getElem q⟩
   have hrd : rd_T115 l0_6 (n : Int) = t := by unfold rd_T115; rw [List.getD_eq_getElem?_getD, Int.toNat_natCast, ht]; rfl
   obtain ⟨ad, he, hx0, hx1⟩ := at_T115 HR6.out (n : Int) p0 p1
   cases he
   rw [hrd] at hx0 hx1
   simp only [Int.toNat_natCast] at hx0 hx1
   replace hx0 := (HB.out.cell (World.block_lt_of_cell? w _ hx0)).trans hx0
   replace hx1 := (HB.out.cell (World.block_lt_of_cell? w _ hx1)).trans hx1
   obtain ⟨tc, hc⟩ : ∃ x_, t.f0 = x_ := ⟨_, rfl⟩
   obtain ⟨ts, hs_⟩ : ∃ x_, t.f1 = x_ := ⟨_, rfl⟩
   have HTK : Aside0 ((l0_6.take (n + 1)).flatMap tw4 = (l0_6.take n).flatMap tw4 ++ (wordOf tc ++ wordOf ts)) := ⟨by rw [fm_succ tw4 ht, ← hc, ← hs_]; rfl⟩
   rw [hc] at hx0
   rw [hs_] at hx1
   have HLE : Aside0 ((hd ++ (l0_6.take n).flatMap tw4).length ≤ 1800000) := ⟨by have h1_ := fm_le tw4 l0_6 n; have h2_ := HLT.out; rw [List.length_append]; omega⟩
   obtain ⟨bs, hbs⟩ : ∃ x_, hd ++ (l0_6.take n).flatMap tw4 = x_ := ⟨_, rfl⟩
   have HBS := aM hbs
   rw [hbs] at HRB HLE
   clear hrd ht hc hs_ hbs
   go_upto_region 10 with (fail)
   clear hx0 hx1
   have h_new := blk_new wr (.cells #[.int .i32 tc, .int .i32 ts] 115)
   have HX2 := aM (below_alloc (Below.refl wr.heap.size wr) (.cells #[.int .i32 tc, .int .i32 ts] 115))
   obtain ⟨g9, hg_⟩ : ∃ g_, g_ = wr.heap.size := ⟨_, rfl⟩
   rw [← hg_] at h_new ⊢
   have G9 := aM h_new
   clear h_new hg_
   generalize wr.alloc (.cells #[.int .i32 tc, .int .i32 ts] 115) = w11 at HX2 G9 ⊢
   replace BK := aM (blk_below BK.out HX2.out)
   replace OB := aM (blk_below OB.out HX2.out)
   replace HRB := aM (Kd.R_below HRB.out HX2.out)
   replace HB := aM (below_step HB.out HX2.out)
   have hz9 := bx2b G9.out
   clear HX2
   go_upto_region 11 with (go_at_call 61; (refine (bput.calls tc ob v (bs) w _ OB.out HRB.out HB.out GOB.out (by have := HLE.out; omega)).mono ?_); rintro e w12 ⟨vw12, rfl, ho, hr, hb, hk⟩; clear hz9; replace G9 := aM (blk_kept G9.out hk (no_put OB.out HRB.out G9.out (by decide) (by decide))); have hz9 := bx2b G9.out; replace BK := aM (blk_kept BK.out hk (no_put OB.out HRB.out BK.out (by decide) (by decide))); replace OB := aM ho; replace HRB := aM hr; replace HB := aM hb; clear ho hr hb hk)
   go_wp2_with (go_at_call 61; (refine (bput.calls ts ob vw12 (bs ++ wordOf tc) w _ OB.out HRB.out HB.out GOB.out (by have := HLE.out; rw [List.length_append]; show _ + 4 ≤ _; omega)).mono ?_); rintro e w13 ⟨vw13, rfl, ho, hr, hb, hk⟩; clear hz9; replace G9 := aM (blk_kept G9.out hk (no_put OB.out HRB.out G9.out (by decide) (by decide))); have hz9 := bx2b G9.out; replace BK := aM (blk_kept BK.out hk (no_put OB.out HRB.out BK.out (by decide) (by decide))); replace OB := aM ho; replace HRB := aM hr; replace HB := aM hb; clear ho hr hb hk)
   go_roundw
   case rel => exact ⟨n + 1, _, by go_num, ⟨q⟩, OB, ⟨by rw [HTK.out, ← List.append_assoc, HBS.out, ← List.append_assoc]; exact HRB.out⟩, BK, HB⟩
   case measure => simp [intOf]; omega
  ·
   have f1 : decide ((n : Int) < (l0_6.length : Int)) = false := decide_eq_false (by omega)
   have f2 : decide (n < l0_6.length) = false := decide_eq_false q
   obtain rfl : n = l0_6.length := by have := HJ.out; omega
   rw [List.take_length] at HRB
   have hz := bx15 BK.out
   go_upto_region 14 with (go_at_call 57; (with_reducible refine (bp.calls gb gl ol l0_10.length c0_10 A0_10 a0_0 a0_1 a0_2 a0_3 a0_4 a0_5 _ _ _ _ _ _ _ _ _ BK.out HGL.out (Nat.le_trans HN.out (by decide))).mono ?_); rintro e w14 ⟨vp, rfl, hv, hb⟩; have HV := aM (Kd.R_lower hv (below_size HB.out)); replace HB := aM (below_step HB.out hb); replace BK := aM (blk_below BK.out hb); replace OB := aM (blk_below OB.out hb); replace HRB := aM (Kd.R_below HRB.out hb); obtain ⟨Ap, cp, rfl⟩ := Kd.R_slice hv; clear hb hv hz)
   clear HJ q f1 f2
   have hlen := (all_I BK.out (Kd.C_below HR9.out HB.out) HC9.out (Kd.C_below HR10.out HB.out) HGL.out (Kd.C_below HR11.out HB.out) HC11.out (Kd.C_below HR14.out HB.out) HC14.out a0_5 (wrap64 (a0_1 * a0_3)) (wrap64 (a0_2 * a0_3)) a0_4).length
   rw [HIS.out] at hlen
   obtain ⟨rows, hrows⟩ : ∃ x_, bp.all gb gl ol l0_10.length a0_5 (wrap64 (a0_1 * a0_3)) (wrap64 (a0_2 * a0_3)) a0_4 = x_ := ⟨_, rfl⟩
   have HAI : Aside0 (∀ W_ : World, Below w.heap.size w W_ → W_.heap[gb]? = some (.cells #[.int .i64 a0_0, .int .i64 a0_1, .int .i64 a0_2, .int .i64 a0_3, .int .i64 a0_4, .int .i64 a0_5, .slice A0_6 l0_6.length c0_6, .int .i64 a0_7, .int .i64 a0_8, .slice A0_9 l0_9.length c0_9, .slice A0_10 l0_10.length c0_10, .slice A0_11 l0_11.length c0_11, .int .i64 a0_12, .int .i64 a0_13, .slice A0_14 l0_14.length c0_14] 67 (0, 0)) → ∀ (j : Nat) (row : List Value) (I : PI), rows[j]? = some row → Is[j]? = some I → RowI2 w W_ row I) := ⟨fun W_ hB_ hg_ => by rw [← hrows, ← HIS.out]; exact all_I2 hB_ hg_ HR9.out HC9.out HR10.out HGL.out HR11.out HC11.out HR14.out HC14.out _ _ _ _⟩
   rw [hrows] at hlen HV ⊢
   have HLEN := aM hlen
   clear hlen hrows
   have HNI : Aside0 (rows.length ≤ 1000000) := ⟨by rw [HLEN.out, ← HIS.out]; have := HN.out; simp only [infos, layI, List.length_append, List.length_cons, List.length_nil, List.length_flatMap]; exact infos_len this⟩
   obtain ⟨gv, hgv⟩ := row_plain HV.out
   have HGV := aM hgv
   clear hgv
   go_loopw [59] (fun i_ W' => ∃ (n : Nat) (v_ : Value), i_ = .int .i64 n ∧ Aside0 (n ≤ rows.length) ∧ Aside0 (W'.heap[ob]? = some (.cells #[v_] 32 (0, 0))) ∧ Aside0 (Kd.R (Kd.int .u8) 5 W' w.heap.size (fun _ => True) v_ ((hd ++ l0_6.flatMap tw4) ++ (Is.take n).flatMap pw4)) ∧ Aside0 (W'.heap[gb]? = some (.cells #[.int .i64 a0_0, .int .i64 a0_1, .int .i64 a0_2, .int .i64 a0_3, .int .i64 a0_4, .int .i64 a0_5, .slice A0_6 l0_6.length c0_6, .int .i64 a0_7, .int .i64 a0_8, .slice A0_9 l0_9.length c0_9, .slice A0_10 l0_10.length c0_10, .slice A0_11 l0_11.length c0_11, .int .i64 a0_12, .int .i64 a0_13, .slice A0_14 l0_14.length c0_14] 67 (0, 0))) ∧ Aside0 (Below w.heap.size w W') ∧ Aside0 ((Kd.raw 4).R 105 W' w.heap.size (fun _ => True) (.slice Ap rows.length cp) rows)) (fun i_ _ => rows.length - (intOf i_).toNat)
   case atStart => exact ⟨0, _, rfl, ⟨Nat.zero_le _⟩, OB, ⟨by rw [List.take_zero, List.flatMap_nil, List.append_nil]; exact HRB.out⟩, BK, HB, HV⟩
   case round =>
    clear OB HRB BK HB HV
    obtain ⟨n, v, rfl, HJ, OB, HRB, BK, HB, HV⟩ := hrel
    by_cases q : n < rows.length
    ·
     have f1 : decide ((n : Int) < (rows.length : Int)) = true := decide_eq_true (by omega)
     have f2 : decide (n < rows.length) = true := decide_eq_true q
     obtain rfl := HGV.out (by omega)
     obtain ⟨row, hrow⟩ : ∃ x_, rows[n]? = some x_ := ⟨_, List.getElem?_eq_getElem q⟩
     obtain ⟨I, hI⟩ : ∃ x_, Is[n]? = some x_ := ⟨_, List.getElem?_eq_getElem (by rw [← HLEN.out]; exact q)⟩
     obtain ⟨t, l, ⟨pt, pA, pn, pc⟩, rfl, hsee, -, hpn, hpc, hpC⟩ := HAI.out wr HB.out BK.out n row I hrow hI
     obtain ⟨hx0, hx1, hx2, hx3⟩ := prow_of HV.out hrow
     obtain ⟨ir, hir⟩ : ∃ x_, I.r = x_ := ⟨_, rfl⟩
     obtain ⟨ic, hic⟩ : ∃ x_, I.c = x_ := ⟨_, rfl⟩
     obtain ⟨xs, hxs⟩ : ∃ x_, I.xs = x_ := ⟨_, rfl⟩
     rw [hir] at hx2
     rw [hic] at hx3
     rw [hxs] at hpn hpC
     obtain rfl : pn = xs.length := hpn
     have HSEE := aM hsee
     have HPC : Aside0 ((Kd.int .i32).C w pA xs.length xs) := ⟨hpC⟩
     have HTK : Aside0 ((Is.take (n + 1)).flatMap pw4 = (Is.take n).flatMap pw4 ++ xs.flatMap wordOf) := ⟨by rw [fm_succ pw4 hI]; unfold pw4; rw [hxs]⟩
     have HXL : Aside0 ((xs.flatMap wordOf).length ≤ 900000) := ⟨by have h1_ := fm_le pw4 Is (n + 1); rw [HTK.out, List.length_append] at h1_; have h2_ := HLT.out.2.2; omega⟩
     have HLE : Aside0 (((hd ++ l0_6.flatMap tw4) ++ (Is.take n).flatMap pw4).length ≤ 2700000) := ⟨by have h1_ := fm_le pw4 Is n; have h2_ := HLT.out; rw [List.length_append, List.length_append]; omega⟩
     obtain ⟨bs, hbs⟩ : ∃ x_, (hd ++ l0_6.flatMap tw4) ++ (Is.take n).flatMap pw4 = x_ := ⟨_, rfl⟩
     have HBS := aM hbs
     rw [hbs] at HRB HLE
     clear hrow hI hsee hpC hpc hic hir hxs hbs
     go_upto_region 16 with (fail)
     clear hx0 hx1 hx2 hx3
     have h_new := blk_new wr (.cells #[.pointer t, .pointer l, .int .i64 ir, .int .i64 ic] 105)
     have HX2 := aM (below_alloc (Below.refl wr.heap.size wr) (.cells #[.pointer t, .pointer l, .int .i64 ir, .int .i64 ic] 105))
     obtain ⟨g11, hg_⟩ : ∃ g_, g_ = wr.heap.size := ⟨_, rfl⟩
     rw [← hg_] at h_new ⊢
     have G11 := aM h_new
     clear h_new hg_
     generalize wr.alloc (.cells #[.pointer t, .pointer l, .int .i64 ir, .int .i64 ic] 105) = w15 at HX2 G11 ⊢
     replace HSEE := aM (HSEE.out.below HX2.out)
     replace BK := aM (blk_below BK.out HX2.out)
     replace OB := aM (blk_below OB.out HX2.out)
     replace HRB := aM (Kd.R_below HRB.out HX2.out)
     replace HV := aM (Kd.R_below HV.out HX2.out)
     replace HB := aM (below_step HB.out HX2.out)
     have hz11 := bx4 G11.out
     clear HX2
     go_upto_region 17 with (go_at_call 62; (refine (pnum.calls t l ir ic ⟨pt, pA, xs.length, pc⟩ _ HSEE.out).mono ?_); rintro e w16 ⟨rfl, hb⟩; replace BK := aM (blk_below BK.out hb); replace OB := aM (blk_below OB.out hb); replace HRB := aM (Kd.R_below HRB.out hb); replace HV := aM (Kd.R_below HV.out hb); replace HB := aM (below_step HB.out hb); clear hb hz11 G11; skip)
     go_loopw [66] (fun i_ W' => ∃ (m : Nat) (v_ : Value), i_ = .int .i64 m ∧ Aside0 (m ≤ xs.length) ∧ Aside0 (W'.heap[ob]? = some (.cells #[v_] 32 (0, 0))) ∧ Aside0 (Kd.R (Kd.int .u8) 5 W' w.heap.size (fun _ => True) v_ (bs ++ (xs.take m).flatMap wordOf)) ∧ Aside0 (W'.heap[gb]? = some (.cells #[.int .i64 a0_0, .int .i64 a0_1, .int .i64 a0_2, .int .i64 a0_3, .int .i64 a0_4, .int .i64 a0_5, .slice A0_6 l0_6.length c0_6, .int .i64 a0_7, .int .i64 a0_8, .slice A0_9 l0_9.length c0_9, .slice A0_10 l0_10.length c0_10, .slice A0_11 l0_11.length c0_11, .int .i64 a0_12, .int .i64 a0_13, .slice A0_14 l0_14.length c0_14] 67 (0, 0))) ∧ Aside0 (Below w.heap.size w W') ∧ Aside0 ((Kd.raw 4).R 105 W' w.heap.size (fun _ => True) (.slice (some ⟨gv, 0, none⟩) rows.length cp) rows)) (fun i_ _ => xs.length - (intOf i_).toNat)
     case atStart => exact ⟨0, _, rfl, ⟨Nat.zero_le _⟩, OB, ⟨by rw [List.take_zero, List.flatMap_nil, List.append_nil]; exact HRB.out⟩, BK, HB, HV⟩
     case round =>
      clear OB HRB BK HB HV
      obtain ⟨m, v2, rfl, HJ2, OB, HRB, BK, HB, HV⟩ := hrel
      by_cases q2 : m < xs.length
      ·
       have e1 : decide ((m : Int) < (xs.length : Int)) = true := decide_eq_true (by omega)
       have e2 : decide (m < xs.length) = true := decide_eq_true q2
       have hl64 := HPC.out.2.1
       have p0 : (0 : Int) ≤ (m : Int) := by omega
       have p1 : (m : Int) < (xs.length : Int) := by omega
       obtain ⟨ad, he, hx⟩ := Kd.at_int HPC.out (m : Int) p0 p1
       cases he
       simp only [Int.toNat_natCast] at hx
       replace hx := (HB.out.cell (World.block_lt_of_cell? w _ hx)).trans hx
       obtain ⟨y, hy⟩ : ∃ x_, rd xs (m : Int) = x_ := ⟨_, rfl⟩
       rw [hy] at hx
       have hxy : xs[m]? = some y := by rw [← hy, List.getElem?_eq_getElem q2]; simp [rd, List.getElem?_eq_getElem q2]
       have HTK2 := aM (fm_succ wordOf hxy)
       have HLE2 : Aside0 ((bs ++ (xs.take m).flatMap wordOf).length ≤ 3600000) := ⟨by have h1_ := fm_le wordOf xs m; have h2_ := HXL.out; have h3_ := HLE.out; rw [List.length_append]; omega⟩
       obtain ⟨cs2, hcs2⟩ : ∃ x_, bs ++ (xs.take m).flatMap wordOf = x_ := ⟨_, rfl⟩
       have HCS2 := aM hcs2
       rw [hcs2] at HRB HLE2
       clear hy hxy hcs2
       go_wp2_with (go_at_call 61; (refine (bput.calls y ob v2 (cs2) w _ OB.out HRB.out HB.out GOB.out (by have := HLE2.out; omega)).mono ?_); rintro e w18 ⟨vw18, rfl, ho, hr, hb, hk⟩; clear hx; replace HV := aM (r_kept HV.out hk (fun k_ c_ q_ hq_ hc_ => no_put OB.out HRB.out hc_ (by rintro rfl; exact absurd hq_ (by decide)) (by rintro rfl; exact absurd hq_ (by decide)))); replace BK := aM (blk_kept BK.out hk (no_put OB.out HRB.out BK.out (by decide) (by decide))); replace OB := aM ho; replace HRB := aM hr; replace HB := aM hb; clear ho hr hb hk)
       go_roundw
       case rel => exact ⟨m + 1, _, by go_num, ⟨q2⟩, OB, ⟨by rw [HTK2.out, ← List.append_assoc, HCS2.out]; exact HRB.out⟩, BK, HB, HV⟩
       case measure => simp [intOf]; omega
      ·
       have e1 : decide ((m : Int) < (xs.length : Int)) = false := decide_eq_false (by omega)
       have e2 : decide (m < xs.length) = false := decide_eq_false q2
       obtain rfl : m = xs.length := by have := HJ2.out; omega
       rw [List.take_length] at HRB
       have hwn : wrap64 ((n : Int) + 1) = (n : Int) + 1 := by have := HNI.out; simp only [wrap64]; omega
       go_wp2
       rw [hwn]
       exact ⟨⟨n + 1, _, rfl, ⟨q⟩, OB, ⟨by rw [HTK.out, ← List.append_assoc, HBS.out]; exact HRB.out⟩, BK, HB, HV⟩, by simp only [intOf]; omega⟩
    ·
     have f1 : decide ((n : Int) < (rows.length : Int)) = false := decide_eq_false (by omega)
     have f2 : decide (n < rows.length) = false := decide_eq_false q
     obtain rfl : n = rows.length := by have := HJ.out; omega
     rw [HLEN.out, List.take_length] at HRB
     obtain ⟨tot, htot⟩ : ∃ x_, (hd ++ l0_6.flatMap tw4) ++ Is.flatMap pw4 = x_ := ⟨_, rfl⟩
     rw [htot] at HRB HS
     clear htot
     obtain ⟨Av, cv, rfl⟩ := Kd.R_slice HRB.out
     have hzo : wr.cell? ⟨ob, 0, none⟩ = some (.slice Av tot.length cv) := (blk_cell OB.out 0).trans rfl
     go_wp2_with (go_at_call 63; (with_reducible refine (seal_Close.calls k Av cv tot s _ (Kd.R_reads' HRB.out).2.2 (Kd.R_reads' HRB.out).2.1 HS.out).mono ?_); rintro e w22 ⟨vs, rfl, hr, hb⟩; have HF := aM (Kd.R_lower hr (below_size HB.out)); replace HB := aM (below_step HB.out hb); clear hr hb hzo)
     go_ret2
     exact ⟨_, rfl, HF.out, HB.out⟩
-- calls: blob_Right blob_Config_Numbers seal_Close

/-! ### seal_Reader_Take: function 86 -/
def seal_Reader_Take.f (s0_0 : List Int) (s0_1 : Bool) (a1 : Int) : Option (List Int × List Int × Bool) :=
 if (s0_0.length : Int) < a1 then some ([], [], true) else (bytes_Clone.f (s0_0.take a1.toNat)).bind fun c => some (c, s0_0.drop a1.toNat, s0_1)
theorem seal_Reader_Take.set_0 {w0 W : World} {g : Nat} {f0 : List Int} {f1 : Bool} (h : IsS141 w0 W g f0 f1) (A : Option Addr) (c : Nat) (xs : List Int) (hc : xs.length ≤ c) (ha : Arr141 w0 W g A xs) : IsS141 w0 (W.setCell ⟨g, 0, none⟩ (.slice A xs.length c)) g xs f1 := by
 obtain ⟨A0, c0, hb, hg, hl, hr⟩ := h
 refine ⟨A, c, by simpa using blk_set hb 0 (.slice A xs.length c), hg, hc, ha.move fun k cells hk hcell => blk_far hcell (by show k ≠ g; omega) _⟩
theorem seal_Reader_Take.arr_drop {w0 W : World} {g : Nat} {A0 : Option Addr} {f0 : List Int} (h : Arr141 w0 W g A0 f0) (m c : Nat) (hm : m ≤ f0.length) (hc : f0.length ≤ c) : Arr141 w0 W g (if c = m then A0 else A0.map (·.add m)) (f0.drop m) := by
 refine ⟨by have := h.1; rw [List.length_drop]; omega, fun hp => ?_⟩
 rw [List.length_drop] at hp
 obtain ⟨k, cells, off, h1, h2, h3, h4, h5⟩ := h.2 (by omega)
 refine ⟨k, cells, off + m, ?_, h2, h3, h4, fun j hj => ?_⟩
 ·
  rw [if_neg (by omega), h1]
  simp only [Option.map_some, Addr.add]
  by_cases h : m = 0 <;> simp [h]
 ·
  rw [List.length_drop] at hj
  rw [Nat.add_assoc, h5 (m + j) (by omega)]
  simp [List.getD_eq_getElem?_getD, List.getElem?_drop]
set_option maxHeartbeats 8000000 in
set_option maxRecDepth 100000 in
theorem seal_Reader_Take.calls (g : Nat) (s0_0 : List Int) (s0_1 : Bool) (a1 : Int) (r1 : List Int) (r2 : List Int) (r3 : Bool) (w0 w : World) (hI : IsS141 w0 w g s0_0 s0_1) (hB : Below w0.heap.size w0 w) (h : seal_Reader_Take.f s0_0 s0_1 a1 = some (r1, r2, r3)) :
  Calls Try.prog 86 #[.pointer (some ⟨g, 0, none⟩), .int .i64 a1] w fun e w' => ∃ v0_ : Value, e = .returned (v0_) ∧ Kd.R (Kd.int .u8) 5 w' w.heap.size (fun _ => True) v0_ r1 ∧ IsS141 w0 w' g r2 r3 ∧ Below w0.heap.size w0 w' ∧ KeepBut w w' g none := by
 unfold seal_Reader_Take.f at h
 have hn : (if (s0_0.length : Int) < a1 then some (([], [], true) : List Int × List Int × Bool) else (bytes_Clone.f (s0_0.take a1.toNat)).bind fun c => some (c, s0_0.drop a1.toNat, s0_1)) = some (r1, r2, r3) := h
 clear h
 have hI2 := hI
 obtain ⟨A0, c0, HG, hl0, hC, hAt⟩ := hI2.reads
 have HI := Aside0.mk hI
 have HB := Aside0.mk hB
 have hcell0 := cellS141_0 HG
 have hcell1 := cellS141_1 HG
 have hfz0 := blk_frozen HG 0
 have hfz1 := blk_frozen HG 1
 by_cases hlt : (s0_0.length : Int) < a1
 ·
  rw [if_pos hlt] at hn
  simp only [Option.some.injEq, Prod.mk.injEq] at hn
  obtain ⟨rfl, rfl, rfl⟩ := hn
  have hmx : (if a1 < 0 then 0 else a1) = a1 := by rw [if_neg (by omega)]
  have hb1 : decide ((s0_0.length : Int) < a1) = true := decide_eq_true hlt
  clear hI hI2 hB HG hC hAt hlt
  go_enter Try.func86, Try.ntmps86
  go_wp2
  go_ret
  refine ⟨_, rfl, Kd.R_nil _ _ _ _ _, ?_, ?_, ?_⟩
  ·
   have h1 := seal_Reader_Take.set_0 HI.out none 0 [] (Nat.le_refl _) ⟨by simp, fun hp => absurd hp (by simp)⟩
   exact h1.set_1 true
  ·
   exact below_set (below_set HB.out HI.out.ge) HI.out.ge
  ·
   exact ((KeepBut.refl w g none).set_ 0 _).set_ 1 _
 ·
  rw [if_neg hlt] at hn
  obtain ⟨c, hc, hn⟩ := Option.bind_eq_some_iff.mp hn
  simp only [Option.some.injEq, Prod.mk.injEq] at hn
  obtain ⟨rfl, rfl, rfl⟩ := hn
  have A1 := Aside0.mk hc
  have HC := Aside0.mk hC
  have HAt := Aside0.mk (show Arr141 w0 w g A0 s0_0 from by
   obtain ⟨A', c', hb', _, _, hr'⟩ := hI2
   rw [HG] at hb'
   injection hb' with hb'
   injection hb' with hb' _
   injection hb' with hb'
   injection hb' with hb' _
   injection hb' with hb' _ _
   rw [hb']
   exact hr')
  have HL := Aside0.mk hl0
  have hmx0 : 0 ≤ mx a1 0 := by unfold mx; omega
  have hmxl : mx a1 0 ≤ (s0_0.length : Int) := by unfold mx; omega
  have hmxn : (mx a1 0).toNat = a1.toNat := by unfold mx; omega
  obtain ⟨m, hm⟩ : ∃ m : Int, mx a1 0 = m := ⟨_, rfl⟩
  rw [hm] at hmx0 hmxl hmxn
  have hm2 : (if a1 < 0 then 0 else a1) = m := hm
  clear hm
  have HM := Aside0.mk hmxn
  have hlt2 : decide ((s0_0.length : Int) < m) = false := decide_eq_false (by omega)
  have hml : m.toNat ≤ s0_0.length := by omega
  have HML := Aside0.mk hml
  have cut1 := cut_to (P := Try.prog) 32 5 .i64 Try.underlying32 rfl A0 s0_0.length c0 m hmx0 hmxl hl0
  have cut2 := cut_from (P := Try.prog) 32 5 .i64 Try.underlying32 rfl 1 rfl A0 s0_0.length c0 m hmx0 hmxl
  obtain ⟨A', hA'⟩ : ∃ A' : Option Addr, (if c0 = m.toNat then A0 else A0.map (·.add (m.toNat * 1))) = A' := ⟨_, rfl⟩
  rw [hA'] at cut2
  have HA' := Aside0.mk hA'
  clear hA'
  have HG0 := Aside0.mk HG
  have hlen : (s0_0.take m.toNat).length = m.toNat := by rw [List.length_take]; omega
  have hdl : (s0_0.drop m.toNat).length = s0_0.length - m.toNat := List.length_drop ..
  have hg1 : s0_0.length - m.toNat ≤ c0 - m.toNat := by omega
  have HD := Aside0.mk (And.intro hdl hg1)
  have CC := Aside0.mk (fun (W : World) (hR : Kd.C (Kd.int .u8) W A0 m.toNat (s0_0.take m.toNat)) => by
   have h1 := bytes_Clone.calls A0 c0 (s0_0.take m.toNat) c W (by rw [hlen]; exact hR) (by rw [hlen]; omega) (by rw [HM.out]; exact A1.out)
   rw [hlen] at h1
   exact h1)
  have HC1 := Aside0.mk (show Kd.C (Kd.int .u8) w A0 m.toNat (s0_0.take m.toNat) from by have h1 := Kd.C_take HC.out HML.out; rw [hlen] at h1; exact h1)
  rw [← HM.out]
  clear hI hI2 hB HG hC hAt hlt hc hl0 hmxn hml hlen hdl hg1
  go_enter Try.func86, Try.ntmps86
  go_wp2_with (go_at_call 85; (with_reducible refine (CC.out _ HC1.out).mono ?_); rintro e w1 ⟨v, rfl, ho, hb⟩; have HO := Aside0.mk ho; have HW := Aside0.mk hb; have HG1 := blk_below HG0.out hb; have hcell2 := cellS141_0 HG1; have hfz2 := blk_frozen HG1 0; clear ho hb HG1)
  go_ret
  have hI1 := HI.out.below HW.out
  refine ⟨_, rfl, Kd.R_set HO.out (blk_below HG0.out HW.out) (by decide) 0 _, ?_, ?_, ?_⟩
  ·
   have h1 := seal_Reader_Take.set_0 hI1 A' (c0 - m.toNat) (s0_0.drop m.toNat) (by rw [HD.out.1]; exact HD.out.2) (by rw [← HA'.out, Nat.mul_one]; exact (seal_Reader_Take.arr_drop HAt.out m.toNat c0 HML.out HL.out).move (fun k cells hk hcl => blk_below hcl HW.out))
   rw [HD.out.1] at h1
   exact h1
  ·
   exact below_set (HB.out.trans (HW.out.mono HB.out.size)) HI.out.ge
  ·
   exact (KeepBut.of_below HW.out g none).set_ 0 _

/-! ### seal_Reader_Num: function 46 -/
def seal_Reader_Num.l0 : Nat → Int → List Int → Int → Int → List Int → Bool → Option (Int × List Int × Bool)
 | 0, _, _, _, _, _, _ => none
 | k + 1, x5, x11, x12, x13, x1000, x1001 => if x13 < x12 then (if 0 ≤ x13 then (if x13 < (x11.length : Int) then (seal_Reader_Num.l0 k (Go.bits .or .u64 (IntKind.u64.wrap (x5 * 256)) (IntKind.u64.wrap (rd x11 x13))) x11 x12 (wrap64 (x13 + 1)) x1000 x1001) else (none)) else (none)) else (some (x5, x1000, x1001))
def seal_Reader_Num.f (k : Nat) (s0_0 : List Int) (s0_1 : Bool) (a1 : Int) : Option (Int × List Int × Bool) := (seal_wide.f a1).bind fun t133 => ((seal_Reader_Take.f s0_0 s0_1 t133).bind fun bt134 => (seal_Reader_Num.l0 k 0 bt134.1 (bt134.1.length : Int) 0 bt134.2.1 bt134.2.2))
theorem seal_Reader_Num.mono_l : ∀ k, (∀ y0 y1 y2 y3 y4 y5, LeO (seal_Reader_Num.l0 k y0 y1 y2 y3 y4 y5) (seal_Reader_Num.l0 (k + 1) y0 y1 y2 y3 y4 y5))
 | 0 => fun _ _ _ _ _ _ r h => by simp [seal_Reader_Num.l0] at h
 | k + 1 => by
  have ih0 := seal_Reader_Num.mono_l k
  ·
   intro y0 y1 y2 y3 y4 y5
   unfold seal_Reader_Num.l0
   repeat' first
   | (with_reducible exact ih0 _ _ _ _ _ _)
   | (with_reducible exact LeO.refl _)
   | (with_reducible exact LeO.none _)
   | (with_reducible refine LeO.ite ?_ ?_)
   | (with_reducible refine LeO.bind ?_ (fun _ => ?_))
   | exact ih0 _ _ _ _ _ _
   | exact LeO.none _
   | refine LeO.ite ?_ ?_
   | refine LeO.bind ?_ (fun _ => ?_)
theorem seal_Reader_Num.mono : ∀ a0 a1 a2 k, LeO (seal_Reader_Num.f k a0 a1 a2) (seal_Reader_Num.f (k + 1) a0 a1 a2) := by
 intro a0 a1 a2 k
 have ih0 := seal_Reader_Num.mono_l k
 unfold seal_Reader_Num.f
 repeat' first
   | (with_reducible exact ih0 _ _ _ _ _ _)
   | (with_reducible exact LeO.refl _)
   | (with_reducible exact LeO.none _)
   | (with_reducible refine LeO.ite ?_ ?_)
   | (with_reducible refine LeO.bind ?_ (fun _ => ?_))
   | exact ih0 _ _ _ _ _ _
   | exact LeO.none _
   | refine LeO.ite ?_ ?_
   | refine LeO.bind ?_ (fun _ => ?_)
set_option maxHeartbeats 8000000 in
set_option maxRecDepth 100000 in
theorem seal_Reader_Num.calls (k : Nat) (g : Nat) (s0_0 : List Int) (s0_1 : Bool) (a1 : Int) (r1 : Int) (r2 : List Int) (r3 : Bool) (w0 w : World) (hI : IsS141 w0 w g s0_0 s0_1) (hB : Below w0.heap.size w0 w) (h : seal_Reader_Num.f k s0_0 s0_1 a1 = some (r1, r2, r3)) :
  Calls Try.prog 46 #[.pointer (some ⟨g, 0, none⟩), .int .i64 a1] w fun e w' => e = .returned (.int .u64 r1) ∧ IsS141 w0 w' g r2 r3 ∧ Below w0.heap.size w0 w' ∧ KeepBut w w' g none := by
 have HI0 := Aside0.mk hI
 have HK := Aside0.mk (KeepBut.refl w g none)
 have HL := Aside0.mk hB.size
 clear hI
 have HW0 := Aside0.mk hB.size
 have HB := Aside0.mk hB
 clear hB
 have H : ((seal_wide.f a1).bind fun t133 => ((seal_Reader_Take.f s0_0 s0_1 t133).bind fun bt134 => (seal_Reader_Num.l0 k 0 bt134.1 (bt134.1.length : Int) 0 bt134.2.1 bt134.2.2))) = some (r1, r2, r3) := h
 clear h
 replace H := Option.bind_eq_some_iff.mp H
 obtain ⟨t133, A30, H⟩ := H
 replace H : ((seal_Reader_Take.f s0_0 s0_1 t133).bind fun bt134 => (seal_Reader_Num.l0 k 0 bt134.1 (bt134.1.length : Int) 0 bt134.2.1 bt134.2.2)) = some (r1, r2, r3) := H
 have A3 := Aside0.mk A30
 clear A30
 replace H := Option.bind_eq_some_iff.mp H
 obtain ⟨⟨t134, t137, t138⟩, A40, H⟩ := H
 replace H : (seal_Reader_Num.l0 k 0 t134 (t134.length : Int) 0 t137 t138) = some (r1, r2, r3) := H
 have A4 := Aside0.mk A40
 clear A40
 have H' := Aside0.mk H
 clear H
 go_enter Try.func46, Try.ntmps46
 go_wp2_with (first | ((with_reducible refine gate_callee (f := 81) rfl ?_); refine goesL_ (some 10) rfl rfl Try.func81 (by kernel_rfl) rfl #[.int .i64 a1] rfl (by (try simp only [List.map_toArray, List.map_cons, List.map_nil]); first | done | rfl | (simp only [List.length_drop, List.length_take]; rfl)) ?_; (with_reducible refine (seal_wide.calls a1 t133 _ A3.out).mono ?_); rintro e w5 ⟨rfl, hb⟩; refine ⟨_, rfl, ?_⟩; have n0_ := Aside0.mk (IsS141.below (by with_reducible exact HI0.out) hb); have n1_ := Aside0.mk (KeepBut.trans (by with_reducible exact HK.out) (KeepBut.of_below hb g none) (.inl rfl)); have n2_ := Aside0.mk (below_step (by with_reducible exact HB.out) hb); clear HI0; clear HK; clear HB; have HI0 := n0_; have HK := n1_; have HB := n2_; clear n0_ n1_ n2_; (try clear hb); (try clear hb2); (try clear hk); (try clear hi)) | ((with_reducible refine gate_callee (f := 86) rfl ?_); refine goesL_ (some 11) rfl rfl Try.func86 (by kernel_rfl) rfl #[.pointer (some ⟨g, 0, none⟩), .int .i64 t133] rfl (by (try simp only [List.map_toArray, List.map_cons, List.map_nil]); first | done | rfl | (simp only [List.length_drop, List.length_take]; rfl)) ?_; (with_reducible refine (seal_Reader_Take.calls g s0_0 s0_1 t133 t134 t137 t138 w0 _ ?side1 ?side2 A4.out).mono ?_); (case side1 => with_reducible exact HI0.out); (case side2 => with_reducible exact HB.out); rintro e w6 ⟨v135, rfl, ho0, hi, hb, hk⟩; refine ⟨_, rfl, ?_⟩; have n0_ := Aside0.mk (Kd.R_lower ho0 (keep_size (w := w) (g := g) (row := none) (by with_reducible exact HK.out))); have n1_ := Aside0.mk (KeepBut.trans (by with_reducible exact HK.out) hk (.inl rfl)); have n2_ := Aside0.mk (hb); have n3_ := Aside0.mk (hi); clear HK; clear HB; clear HI0; have HO136 := n0_; have HK := n1_; have HB := n2_; have HI0 := n3_; clear n0_ n1_ n2_ n3_; (try clear hb); (try clear hb2); (try clear hk); (try clear hi); (try clear ho0); obtain ⟨Ao7, co7, eo7⟩ := Kd.R_slice HO136.out; subst eo7))
 go_loopg [5, 13] k (fun kq v5 v13 w' => ∃ (x5_1 : Int) (x13_1 : Int), v5 = .int .u64 x5_1 ∧ v13 = .int .i64 x13_1 ∧ Aside0 (seal_Reader_Num.l0 kq x5_1 t134 (t134.length : Int) x13_1 t137 t138 = some (r1, r2, r3)) ∧ Aside0 (kq ≤ k) ∧ Aside0 (Kd.R (Kd.int .u8) 5 w' w.heap.size (fun _ => True) (.slice Ao7 t134.length co7) t134) ∧ Aside0 (IsS141 w0 w' g t137 t138) ∧ Aside0 (KeepBut w w' g none) ∧ Aside0 (Below w0.heap.size w0 w'))
 case atStart => exact ⟨(0), (0), (by first | rfl | (simp; done) | (simp [*]; done)), (by first | rfl | (simp; done) | (simp [*]; done)), H', ⟨Nat.le_refl _⟩, ⟨by exact HO136.out⟩, ⟨by with_reducible exact HI0.out⟩, ⟨by with_reducible exact HK.out⟩, ⟨by with_reducible exact HB.out⟩⟩
 case round =>
  clear H'
  try clear p2
  try clear c4
  obtain ⟨x5_1, x13_1, rfl, rfl, HA, HK1, HO_11, HI0, HK, HB⟩ := hrel
  cases gk with
  | zero => exact absurd HA.out (by simp [seal_Reader_Num.l0])
  | succ k1 =>
   have H := HA.out
   clear HA
   simp only [seal_Reader_Num.l0] at H
   by_cases c8 : x13_1 < (t134.length : Int)
   ·
    rw [if_pos c8] at H
    have c8b0 : decide (x13_1 < (t134.length : Int)) = true := decide_eq_true c8
    clear c8
    by_cases c9 : 0 ≤ x13_1
    case neg => (rw [if_neg c9] at H; exact absurd H (by simp))
    rw [if_pos c9] at H
    have c9b0 : decide (0 ≤ x13_1) = true := decide_eq_true c9
    clear c9
    by_cases c10 : x13_1 < (t134.length : Int)
    case neg => (rw [if_neg c10] at H; exact absurd H (by simp))
    rw [if_pos c10] at H
    have c10b0 : decide (x13_1 < (t134.length : Int)) = true := decide_eq_true c10
    clear c10
    have H' := Aside0.mk H
    clear H
    have p139 : 0 ≤ (x13_1 : Int) := of_decide_eq_true (by first | (with_reducible assumption) | assumption)
    have q139 : x13_1 < (t134.length : Int) := of_decide_eq_true (by first | (with_reducible assumption) | assumption)
    obtain ⟨ad139, e139, hx139_0⟩ := Kd.at_int (Kd.R_reads' HO_11.out).2.2 x13_1 p139 q139
    cases e139
    replace p139 := eq_true p139
    replace q139 := eq_true q139
    go_wp2
    go_roundg k1
    case measure => have := HK1.out; omega
    case rel => exact ⟨(Go.bits .or .u64 (IntKind.u64.wrap (x5_1 * 256)) (IntKind.u64.wrap (rd t134 x13_1))), (wrap64 (x13_1 + 1)), (by first | rfl | (simp; done) | (simp [*]; done)), (by first | rfl | (simp; done) | (simp [*]; done)), H', ⟨by have := HK1.out; omega⟩, ⟨by exact HO_11.out⟩, ⟨by with_reducible exact HI0.out⟩, ⟨by with_reducible exact HK.out⟩, ⟨by with_reducible exact HB.out⟩⟩
   ·
    rw [if_neg c8] at H
    have c8b0 : decide (x13_1 < (t134.length : Int)) = false := decide_eq_false c8
    clear c8
    simp only [Option.some.injEq, Prod.mk.injEq] at H
    obtain ⟨rfl, rfl, rfl⟩ := H
    go_wp2
    go_ret
    exact ⟨by first | rfl | (simp [errW_none, errW_some] <;> rfl) | (simp [*, errW_none, errW_some] <;> rfl), by with_reducible exact HI0.out, by with_reducible exact HB.out, by with_reducible exact HK.out⟩

/-! ### seal_Reader_Signed: function 87 -/
def seal_Reader_Signed.f (k : Nat) (s0_0 : List Int) (s0_1 : Bool) : Option (Int × List Int × Bool) := (seal_Reader_Num.f k s0_0 s0_1 4).bind fun bt140 => (some (wrap32 ((bt140.1) % 4294967296), bt140.2.1, bt140.2.2))
theorem seal_Reader_Signed.mono : ∀ a0 a1 k, LeO (seal_Reader_Signed.f k a0 a1) (seal_Reader_Signed.f (k + 1) a0 a1) := by
 intro a0 a1 k
 unfold seal_Reader_Signed.f
 repeat' first
   | (with_reducible exact seal_Reader_Num.mono _ _ _ _)
   | (with_reducible exact LeO.refl _)
   | (with_reducible exact LeO.none _)
   | (with_reducible refine LeO.ite ?_ ?_)
   | (with_reducible refine LeO.bind ?_ (fun _ => ?_))
   | exact seal_Reader_Num.mono _ _ _ _
   | exact LeO.none _
   | refine LeO.ite ?_ ?_
   | refine LeO.bind ?_ (fun _ => ?_)
set_option maxHeartbeats 8000000 in
set_option maxRecDepth 100000 in
theorem seal_Reader_Signed.calls (k : Nat) (g : Nat) (s0_0 : List Int) (s0_1 : Bool) (r1 : Int) (r2 : List Int) (r3 : Bool) (w0 w : World) (hI : IsS141 w0 w g s0_0 s0_1) (hB : Below w0.heap.size w0 w) (h : seal_Reader_Signed.f k s0_0 s0_1 = some (r1, r2, r3)) :
  Calls Try.prog 87 #[.pointer (some ⟨g, 0, none⟩)] w fun e w' => e = .returned (.int .i32 r1) ∧ IsS141 w0 w' g r2 r3 ∧ Below w0.heap.size w0 w' ∧ KeepBut w w' g none := by
 have HI0 := Aside0.mk hI
 have HK := Aside0.mk (KeepBut.refl w g none)
 have HL := Aside0.mk hB.size
 clear hI
 have HW0 := Aside0.mk hB.size
 have HB := Aside0.mk hB
 clear hB
 have H : ((seal_Reader_Num.f k s0_0 s0_1 4).bind fun bt140 => (some (wrap32 ((bt140.1) % 4294967296), bt140.2.1, bt140.2.2))) = some (r1, r2, r3) := h
 clear h
 replace H := Option.bind_eq_some_iff.mp H
 obtain ⟨⟨t140, t141, t142⟩, A20, H⟩ := H
 replace H : (some (wrap32 ((t140) % 4294967296), t141, t142)) = some (r1, r2, r3) := H
 have A2 := Aside0.mk A20
 clear A20
 simp only [Option.some.injEq, Prod.mk.injEq] at H
 obtain ⟨rfl, rfl, rfl⟩ := H
 go_enter Try.func87, Try.ntmps87
 go_wp2_with (first | ((with_reducible refine gate_callee (f := 46) rfl ?_); refine goesL_ (some 4) rfl rfl Try.func46 (by kernel_rfl) rfl #[.pointer (some ⟨g, 0, none⟩), .int .i64 4] rfl (by (try simp only [List.map_toArray, List.map_cons, List.map_nil]); first | done | rfl | (simp only [List.length_drop, List.length_take]; rfl)) ?_; (with_reducible refine (seal_Reader_Num.calls k g s0_0 s0_1 4 t140 t141 t142 w0 _ ?side1 ?side2 A2.out).mono ?_); (case side1 => with_reducible exact HI0.out); (case side2 => with_reducible exact HB.out); rintro e w3 ⟨rfl, hi, hb, hk⟩; refine ⟨_, rfl, ?_⟩; have n0_ := Aside0.mk (KeepBut.trans (by with_reducible exact HK.out) hk (.inl rfl)); have n1_ := Aside0.mk (hb); have n2_ := Aside0.mk (hi); clear HK; clear HB; clear HI0; have HK := n0_; have HB := n1_; have HI0 := n2_; clear n0_ n1_ n2_; (try clear hb); (try clear hb2); (try clear hk); (try clear hi)))
 go_ret
 exact ⟨by first | rfl | (simp [errW_none, errW_some] <;> rfl) | (simp [*, errW_none, errW_some] <;> rfl), by with_reducible exact HI0.out, by with_reducible exact HB.out, by with_reducible exact HK.out⟩

end Go.Proofs.Ytehepnmagcjkaaa.PBlobParses
