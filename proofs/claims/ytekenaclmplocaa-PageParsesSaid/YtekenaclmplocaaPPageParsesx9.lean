-- Written by a program of this session (wip/tools/mkprint.py over the kit's print).
import Derived.Test.YtekenaclmplocaaPPageParsesx0
import Derived.Test.YtekenaclmplocaaPPageParsesx7
import Derived.Test.YtekenaclmplocaaPPageParsesx8
namespace Go.Proofs.Ytekenaclmplocaa.PPageParses
open Go.RowKit Go.Proofs.YtekenaclmplocaaW.PrintWords Go.Proofs.YtekenaclmplocaaW.PrintLast Go.Proofs.YtekenaclmplocaaW.PrintMore
attribute [local go_sem] max2_int min2_int max_two min_two max_three min_three max_four min_four
set_option linter.unusedVariables false
set_option maxHeartbeats 8000000
set_option maxRecDepth 100000
set_option linter.unusedSimpArgs false

def F72.f (l0 : List Int) : Option (List Int) := if l0.length < 140737488355328 then some l0 else none
theorem F72.calls (A0 : Option Addr) (c0 : Nat) (l0 : List Int) (r : List Int) (w : World) (hr0 : Kd.C (Kd.int .u8) w A0 l0.length l0) (hc0 : l0.length ≤ c0) (h : F72.f l0 = some r) :
  Calls Try.prog 72 #[.slice A0 l0.length c0] w fun e w' => ∃ v0_ : Value, e = .returned (v0_) ∧ Kd.R (Kd.int .u8) 5 w' w.heap.size (fun _ => True) v0_ r ∧ Below w.heap.size w w' := by
 unfold F72.f at h
 by_cases hlim : l0.length < 140737488355328
 ·
  rw [if_pos hlim] at h; obtain rfl := oI h; clear h; have HR0 := aM hr0; have HL := aM hlim; have hz := hr0.2.2; clear hr0 hlim hc0; have hcmp : ∀ W : World, (binOp .eql 36 (.slice A0 l0.length c0) (.slice none 0 0)).run Try.prog W = .ok (.bool A0.isNone) W := fun W => Lib.run_eql_slice_nil W _ _ A0 _ _ _ _ Try.underlying36
  cases A0 with
  | none =>
   have hl0 : l0 = [] := by
    rcases Nat.eq_zero_or_pos l0.length with h0 | h0
    ·
     exact List.eq_nil_of_length_eq_zero h0
    ·
     obtain ⟨ad, had, _⟩ := hz h0
     cases had
   subst hl0; clear hz; simp only [List.length_nil, Option.isNone_none] at hcmp; have HB := aM (Below.refl w.heap.size w)
   go_enter Try.func72, Try.ntmps72
   go_wp2
   go_ret
   exact ⟨_, rfl, Kd.R_nil _ _ _ _ _, HB.out⟩
  | some ad =>
   clear hz; simp only [Option.isNone_some] at hcmp; have HB := aM (Below.refl w.heap.size w)
   go_enter Try.func72, Try.ntmps72
   go_wp2_with (first | ((with_reducible refine gate_dst (N := 5) rfl ?_); (try (refine gate_guard (by rfl) ?_; dsimp only)); refine Kd.R_lit (Kd.int .u8) _ 5 ?hg (N := 5) ?hd (xs := ([] : List Int)) (inner := []) (ok := fun _ => True) (okp := fun _ => True) ?hr ?hp (fun _ hk => hk) trivial (Below.refl _ _) (Nat.le_refl _) (by simp) ?_; (case hd => rfl); (case hg => rfl); (case hr => first | (go_simp; done) | (go_simp; rfl)); (case hp => exact (Reps.none _ _)); intro v188 w10 ho11 hb hg_ hnew_; clear hg_ hnew_; have HO189 := aM (Kd.R_lower ho11 (bsz HB)); replace HB := bst HB hb; clear hb ho11) | ((with_reducible refine gate_builtin (b := .append) (xs := #[.tmp 5, .tmp 6]) rfl ?_); (try (refine gate_guard (by rfl) ?_; dsimp only)); at_builtin; refine Kd.R_append_rows (Kd.int .u8) (w0 := w) w.heap.size rfl (.tmp 5) (.tmp 6) 36 5 (.int .u8 0) 1 rfl Try.underlying36 info5 rfl (by decide) (by omega) v188 [] l0 _ _ _ (fun _ => True) (fun _ => False) rfl rfl ?aO ?aR (fun _ _ h => h) (fun _ h => h.elim) ?aF ?aB ?aS ?aL ?_; (case aR => exact (Kd.C_below HR0.out HB.out)); (case aB => exact HB.out); (case aF => exact (fun _ _ => trivial)); (case aO => exact HO189.out); (case aS => exact (bsz HB)); (case aL => have := HL.out; simp; omega); intro v191 w12 ho hb hg hat; have n0_ := aM (hb); have n1_ := aM (ho); clear HB; clear HO189; have HB := n0_; have HO192 := n1_; clear n0_ n1_; clear ho hb hg hat))
   go_ret
   exact ⟨_, rfl, by simpa using HO192.out, HB.out⟩
 ·
  rw [if_neg hlim] at h
  cases h

def F37.f (k : Nat) (l0 : List Int) : Option (List Int × Int) := if (wrap64 ((l0.length : Int) - 4)) < 0 then (some (([] : List Int), 16)) else (if 0 ≤ (wrap64 ((l0.length : Int) - 4)) then (if (wrap64 ((l0.length : Int) - 4)) ≤ (l0.length : Int) then ((F36.f k (l0.take ((wrap64 ((l0.length : Int) - 4)) : Int).toNat)).bind fun t239 => ((F71.f l0 t239).bind fun t242 => (if t242 = true then ((F72.f (l0.take ((wrap64 ((l0.length : Int) - 4)) : Int).toNat)).bind fun t243 => (some (t243, 0))) else (some (([] : List Int), 22))))) else (none)) else (none))
theorem F37.mono : ∀ a0 k, LeO (F37.f k a0) (F37.f (k + 1) a0) := by
 intro a0 k; unfold F37.f
 repeat' with_reducible first | exact F36.mono _ _ | exact LeO.refl _ | exact LeO.none _ | refine LeO.ite ?_ ?_ | refine LeO.bind ?_ (fun _ => ?_)
theorem F37.calls (k : Nat) (A0 : Option Addr) (c0 : Nat) (l0 : List Int) (r1 : List Int) (r2 : Int) (w : World) (hr0 : Kd.C (Kd.int .u8) w A0 l0.length l0) (hc0 : l0.length ≤ c0) (h : F37.f k l0 = some (r1, r2)) :
  Calls Try.prog 37 #[.slice A0 l0.length c0] w fun e w' => ∃ v0_ : Value, e = .returned (.tuple #[v0_, .int .i64 r2]) ∧ Kd.R (Kd.int .u8) 5 w' w.heap.size (fun _ => True) v0_ r1 ∧ Below w.heap.size w w' := by
 have HR0 := aM hr0; have HC0 := aM hc0; clear hr0 hc0; have HB := aM (Below.refl w.heap.size w); have H := h; clear h; unfold F37.f at H
 by_cases c2 : (wrap64 ((l0.length : Int) - 4)) < 0
 ·
  rw [if_pos c2] at H; have c2b0 : decide ((wrap64 ((l0.length : Int) - 4)) < 0) = true := dT c2; clear c2; simp only [Option.some.injEq, Prod.mk.injEq] at H; obtain ⟨rfl, rfl⟩ := H
  go_enter Try.func37, Try.ntmps37
  go_wp2
  go_ret2
  exact ⟨_, rfl, by first | exact Kd.R_nil _ _ _ _ _ | exact Kd.N_nil _ _ _ _ _ | exact Kd.V_nil _ _ _ _ _ | exact Kd.Q_nil _ _ _ _ _ | exact Kd.S_nil _ _ _ _ _, HB.out⟩
 ·
  rw [if_neg c2] at H; have c2b0 : decide ((wrap64 ((l0.length : Int) - 4)) < 0) = false := dF c2; clear c2; obtain ⟨ji3, hji3⟩ : ∃ j_ : Int, (wrap64 ((l0.length : Int) - 4)) = j_ := ⟨_, rfl⟩; (replace H : (if 0 ≤ (ji3) then (if (ji3) ≤ (l0.length : Int) then ((F36.f k (l0.take ((ji3) : Int).toNat)).bind fun t239 => ((F71.f l0 t239).bind fun t242 => (if t242 = true then ((F72.f (l0.take ((ji3) : Int).toNat)).bind fun t243 => (some (t243, 0))) else (some (([] : List Int), 22))))) else (none)) else (none)) = some (r1, r2) := by first | (rw [hji3] at H; exact H) | (simp only [hji3] at H ⊢; exact H)); (try rw [hji3] at c2b0); have hji3w : (IntKind.i64.wrap ((l0.length : Int) - 4)) = ji3 := (i64_w _).trans hji3; obtain ⟨c4, H⟩ := ifp H; have c4b0 := eq_true c4; have c4b1 : decide (0 ≤ (ji3)) = true := dT c4; clear c4; obtain ⟨c5, H⟩ := ifp H; have c5b0 := eq_true c5; have c5b1 : decide ((ji3) ≤ (l0.length : Int)) = true := dT c5; clear c5; obtain ⟨t239, A6, H⟩ := bnd H; obtain ⟨t242, A7, H⟩ := bnd H
  by_cases c8 : t242 = true
  ·
   subst c8; rw [if_pos rfl] at H; obtain ⟨t243, A9, H⟩ := bnd H; simp only [Option.some.injEq, Prod.mk.injEq] at H; obtain ⟨rfl, rfl⟩ := H; obtain ⟨i010, hi010, _, hsz10, _⟩ := info_parts info5; obtain ⟨hcut10, hA10, hC10⟩ := print_take_of (P := Try.prog) (Value.int .u8) 0 36 5 .i64 Try.underlying36 hi010 hsz10 A0 c0 l0 (ji3) oD oD HC0.out; have HR238 := aM (Kd.C_of_reads (h1 := fun _ => rfl) (hA10 _ (Kd.reads_of_C HR0.out))); have HC238 := aM hC10; clear hA10 hC10 hi010 hsz10
   go_enter Try.func37, Try.ntmps37
   go_wp2_with (first | ((with_reducible refine gate_callee (f := 36) rfl ?_); refine goesL_ (some 16) rfl rfl Try.func36 (by kernel_rfl) rfl #[.slice A0 (l0.take ((ji3) : Int).toNat).length c0] rfl (by (try simp only [List.map_toArray, List.map_cons, List.map_nil]); first | done | (rw [show (l0.take ((ji3) : Int).toNat).length = (ji3).toNat from (by rw [List.length_take]; have h_ : ((ji3) : Int) ≤ (l0.length : Int) := oD; omega)] <;> rfl) | (simp only [hji3]; rfl) | rfl | (simp only [List.length_drop, List.length_take]; rfl)) ?_; (with_reducible refine (F36.calls k _ _ (l0.take ((ji3) : Int).toNat) t239 _ ?side1 ?side2 A6.out).mono ?_); (case side1 => repeat (first | exact HR238.out | (with_reducible refine Kd.C_alloc ?_ _) | (with_reducible refine Kd.C_drewN ?_ _) | (with_reducible refine Kd.C_drew ?_))); (case side2 => exact HC238.out); rintro e w11 ⟨v240, rfl, ho0, hb⟩; refine ⟨_, rfl, ?_⟩; have HO241 := aM (Kd.R_lower ho0 (bsz HB)); replace HB := bst HB hb; clear hb ho0; obtain ⟨Ao12, co12, eo12⟩ := Kd.R_slice HO241.out; subst eo12) | ((with_reducible refine gate_callee (f := 71) rfl ?_); refine gL 17 Try.func71 #[.slice A0 l0.length c0, .slice Ao12 t239.length co12] (h := ?_); (with_reducible refine (F71.calls _ _ l0 _ _ t239 true _ ?side1 ?side2 ?side3 ?side4 A7.out).mono ?_); (case side1 => repeat (first | exact (Kd.C_below HR0.out HB.out) | (with_reducible refine Kd.C_alloc ?_ _) | (with_reducible refine Kd.C_drewN ?_ _) | (with_reducible refine Kd.C_drew ?_))); (case side2 => exact HC0.out); (case side3 => repeat (first | exact (Kd.R_reads' HO241.out).2.2 | (with_reducible refine Kd.C_alloc ?_ _) | (with_reducible refine Kd.C_drewN ?_ _) | (with_reducible refine Kd.C_drew ?_))); (case side4 => exact (Kd.R_reads' HO241.out).2.1); rintro e w' ⟨rfl, ⟨nd, rfl⟩⟩; refine ⟨_, rfl, ?_⟩) | ((with_reducible refine gate_callee (f := 72) rfl ?_); refine goesL_ (some 20) rfl rfl Try.func72 (by kernel_rfl) rfl #[.slice A0 (l0.take ((ji3) : Int).toNat).length c0] rfl (by (try simp only [List.map_toArray, List.map_cons, List.map_nil]); first | done | (rw [show (l0.take ((ji3) : Int).toNat).length = (ji3).toNat from (by rw [List.length_take]; have h_ : ((ji3) : Int) ≤ (l0.length : Int) := oD; omega)] <;> rfl) | (simp only [hji3]; rfl) | rfl | (simp only [List.length_drop, List.length_take]; rfl)) ?_; (with_reducible refine (F72.calls _ _ (l0.take ((ji3) : Int).toNat) t243 _ ?side1 ?side2 A9.out).mono ?_); (case side1 => repeat (first | exact (Kd.C_below HR238.out bZ) | (with_reducible refine Kd.C_alloc ?_ _) | (with_reducible refine Kd.C_drewN ?_ _) | (with_reducible refine Kd.C_drew ?_))); (case side2 => exact HC238.out); rintro e w13 ⟨v244, rfl, ho0, hb⟩; refine ⟨_, rfl, ?_⟩; have HO245 := aM (Kd.R_lower (Kd.R_new' ho0 (Kd.R_lt (kR HO241.out))) (below_size bZ)); replace HO241 := aM (Kd.R_elder' (kR HO241.out) (Kd.R_base ho0) hb); replace HB := aM (below_step bZ hb); clear hb ho0))
   go_ret2
   exact ⟨_, by first | rfl | (simp [errW_none, errW_some] <;> rfl) | (simp only [← hji3]; first | rfl | (simp [errW_none, errW_some] <;> rfl)) | (simp [*, errW_none, errW_some] <;> rfl), by exact Kd.R_mono HO245.out (fun _ hk => trivial), HB.out⟩
  ·
   replace c8 := Bool.eq_false_iff.mpr c8; subst c8; rw [if_neg (show ¬ (false = true) by decide)] at H; simp only [Option.some.injEq, Prod.mk.injEq] at H; obtain ⟨rfl, rfl⟩ := H; obtain ⟨i014, hi014, _, hsz14, _⟩ := info_parts info5; obtain ⟨hcut14, hA14, hC14⟩ := print_take_of (P := Try.prog) (Value.int .u8) 0 36 5 .i64 Try.underlying36 hi014 hsz14 A0 c0 l0 (ji3) oD oD HC0.out; have HR238 := aM (Kd.C_of_reads (h1 := fun _ => rfl) (hA14 _ (Kd.reads_of_C HR0.out))); have HC238 := aM hC14; clear hA14 hC14 hi014 hsz14
   go_enter Try.func37, Try.ntmps37
   go_wp2_with (first | ((with_reducible refine gate_callee (f := 36) rfl ?_); refine goesL_ (some 16) rfl rfl Try.func36 (by kernel_rfl) rfl #[.slice A0 (l0.take ((ji3) : Int).toNat).length c0] rfl (by (try simp only [List.map_toArray, List.map_cons, List.map_nil]); first | done | (rw [show (l0.take ((ji3) : Int).toNat).length = (ji3).toNat from (by rw [List.length_take]; have h_ : ((ji3) : Int) ≤ (l0.length : Int) := oD; omega)] <;> rfl) | (simp only [hji3]; rfl) | rfl | (simp only [List.length_drop, List.length_take]; rfl)) ?_; (with_reducible refine (F36.calls k _ _ (l0.take ((ji3) : Int).toNat) t239 _ ?side1 ?side2 A6.out).mono ?_); (case side1 => repeat (first | exact HR238.out | (with_reducible refine Kd.C_alloc ?_ _) | (with_reducible refine Kd.C_drewN ?_ _) | (with_reducible refine Kd.C_drew ?_))); (case side2 => exact HC238.out); rintro e w15 ⟨v240, rfl, ho0, hb⟩; refine ⟨_, rfl, ?_⟩; have HO241 := aM (Kd.R_lower ho0 (bsz HB)); replace HB := bst HB hb; clear hb ho0; obtain ⟨Ao16, co16, eo16⟩ := Kd.R_slice HO241.out; subst eo16) | ((with_reducible refine gate_callee (f := 71) rfl ?_); refine gL 17 Try.func71 #[.slice A0 l0.length c0, .slice Ao16 t239.length co16] (h := ?_); (with_reducible refine (F71.calls _ _ l0 _ _ t239 false _ ?side1 ?side2 ?side3 ?side4 A7.out).mono ?_); (case side1 => repeat (first | exact (Kd.C_below HR0.out HB.out) | (with_reducible refine Kd.C_alloc ?_ _) | (with_reducible refine Kd.C_drewN ?_ _) | (with_reducible refine Kd.C_drew ?_))); (case side2 => exact HC0.out); (case side3 => repeat (first | exact (Kd.R_reads' HO241.out).2.2 | (with_reducible refine Kd.C_alloc ?_ _) | (with_reducible refine Kd.C_drewN ?_ _) | (with_reducible refine Kd.C_drew ?_))); (case side4 => exact (Kd.R_reads' HO241.out).2.1); rintro e w' ⟨rfl, ⟨nd, rfl⟩⟩; refine ⟨_, rfl, ?_⟩))
   go_ret2
   exact ⟨_, by first | rfl | (simp [errW_none, errW_some] <;> rfl) | (simp only [← hji3]; first | rfl | (simp [errW_none, errW_some] <;> rfl)) | (simp [*, errW_none, errW_some] <;> rfl), by first | exact Kd.R_nil _ _ _ _ _ | exact Kd.N_nil _ _ _ _ _ | exact Kd.V_nil _ _ _ _ _ | exact Kd.Q_nil _ _ _ _ _ | exact Kd.S_nil _ _ _ _ _, bZ⟩

/-- A reader at block g of W: its bytes lie in an elder block, which nobody writes. -/
def Arr122 (w0 W : World) (g : Nat) (A0 : Option Addr) (f0 : List Int) : Prop :=
 f0.length ≤ 9223372036854775807 ∧ (0 < f0.length → ∃ k cells off, A0 = some ⟨k, off, none⟩ ∧ k < g ∧ w0.heap.size ≤ k ∧ W.heap[k]? = some (.cells cells 5 (0, 0)) ∧ ∀ j, j < f0.length → cells[off + j]? = some (.int .u8 (f0.getD j 0)))
def Ap122 (W : World) (g : Nat) (row : Option Nat) : Prop := some g ≠ row ∧ ∀ k cells, W.heap[k]? = some (.cells cells 5 (0, 0)) → some k ≠ row
@[simp] theorem Ap122_none (W : World) (g : Nat) : Ap122 W g none = True := by simp [Ap122]
def IsS122 (w0 W : World) (g : Nat) (f0 : List Int) (f1 : Bool) : Prop :=
 ∃ A0 c0, W.heap[g]? = some (.cells #[.slice A0 f0.length c0, .bool f1] 122 (0, 0)) ∧ w0.heap.size ≤ g ∧ f0.length ≤ c0 ∧ Arr122 w0 W g A0 f0
theorem Arr122.move {w0 W W1 : World} {g : Nat} {A0 : Option Addr} {f0 : List Int} (h : Arr122 w0 W g A0 f0) (hm : ∀ k cells, k < g → W.heap[k]? = some (.cells cells 5 (0, 0)) → W1.heap[k]? = some (.cells cells 5 (0, 0))) : Arr122 w0 W1 g A0 f0 := by
 refine ⟨h.1, fun hp => ?_⟩
 obtain ⟨k, cells, off, h1, h2, h3, h4, h5⟩ := h.2 hp
 exact ⟨k, cells, off, h1, h2, h3, hm _ _ h2 h4, h5⟩
theorem IsS122.move {w0 W W1 : World} {g : Nat} {f0 : List Int} {f1 : Bool} (h : IsS122 w0 W g f0 f1) (h1 : ∀ o, W.heap[g]? = some o → W1.heap[g]? = some o) (h2 : ∀ k cells, k < g → W.heap[k]? = some (.cells cells 5 (0, 0)) → W1.heap[k]? = some (.cells cells 5 (0, 0))) : IsS122 w0 W1 g f0 f1 := by
 obtain ⟨A0, c0, hb, hg, hl, hr0⟩ := h
 exact ⟨A0, c0, h1 _ hb, hg, hl, hr0.move h2⟩
theorem IsS122.grown {w0 W : World} {g : Nat} {f0 : List Int} {f1 : Bool} {W1 : World} {row : Option Nat} (h : IsS122 w0 W g f0 f1) (hw : W.grownBy W1 row) (hne : Ap122 W g row) : IsS122 w0 W1 g f0 f1 :=
 h.move (fun _ hb => blk_grown hb hw hne.1) (fun _ _ _ hb => blk_grown hb hw (hne.2 _ _ hb))
theorem IsS122.own_neN {w0 W : World} {g : Nat} {f0 : List Int} {f1 : Bool} {α : Type} {d : Kd α} {e : Nat} {base : Nat} {ok : Nat → Prop} {v : Value} {xs : List α} (h : IsS122 w0 W g f0 f1) (ho : Kd.N d e W base ok v xs) (ht : e ≠ 122) : some g ≠ v.ownBlock := by
 obtain ⟨A0, c0, hb, _⟩ := h
 exact Kd.N_ne ho hb ht
theorem IsS122.own_apN {w0 W : World} {g : Nat} {f0 : List Int} {f1 : Bool} {α : Type} {d : Kd α} {e : Nat} {base : Nat} {ok : Nat → Prop} {v : Value} {xs : List α} (h : IsS122 w0 W g f0 f1) (ho : Kd.N d e W base ok v xs) (ht : e ≠ 122 ∧ e ≠ 5) : Ap122 W g v.ownBlock :=
 ⟨h.own_neN ho ht.1, fun _ _ hc => Kd.N_ne ho hc ht.2⟩
theorem IsS122.fresh {w0 W : World} {g : Nat} {f0 : List Int} {f1 : Bool} (h : IsS122 w0 W g f0 f1) : ∀ k, W.heap.size ≤ k → k ≠ g := by
 obtain ⟨A0, c0, hb, _⟩ := h
 exact Kd.freshB hb
theorem IsS122.kept {w0 W : World} {g : Nat} {f0 : List Int} {f1 : Bool} {W1 : World} {S : Nat → Prop} (h : IsS122 w0 W g f0 f1) (hk : Kept W W1 S) (hne : ¬ S g) (hne2 : ∀ k cells, W.heap[k]? = some (.cells cells 5 (0, 0)) → ¬ S k) : IsS122 w0 W1 g f0 f1 :=
 h.move (fun _ hb => blk_kept hb hk hne) (fun _ _ _ hb => blk_kept hb hk (hne2 _ _ hb))
theorem IsS122.below {w0 W : World} {g : Nat} {f0 : List Int} {f1 : Bool} {W1 : World} (h : IsS122 w0 W g f0 f1) (hw : Below W.heap.size W W1) : IsS122 w0 W1 g f0 f1 := h.grown (grown_of_below hw none) (by simp)
theorem IsS122.alloc {w0 W : World} {g : Nat} {f0 : List Int} {f1 : Bool} (h : IsS122 w0 W g f0 f1) (o : Obj) : IsS122 w0 (W.alloc o) g f0 f1 := h.below (below_alloc (Below.refl _ _) o)
theorem IsS122.drewN {w0 W : World} {g : Nat} {f0 : List Int} {f1 : Bool} (h : IsS122 w0 W g f0 f1) (m : Nat) : IsS122 w0 (W.drewN m) g f0 f1 := h
theorem IsS122.drew {w0 W : World} {g : Nat} {f0 : List Int} {f1 : Bool} (h : IsS122 w0 W g f0 f1) : IsS122 w0 W.drew g f0 f1 := h
theorem IsS122.at_ {w0 W : World} {g : Nat} {f0 : List Int} {f1 : Bool} {w' : World} {m : Nat} (hq : W.drewN m = w') (h : IsS122 w0 W g f0 f1) : IsS122 w0 w' g f0 f1 := by subst hq; exact IsS122.drewN h m
theorem IsS122.apart {w0 W : World} {g : Nat} {f0 : List Int} {f1 : Bool} {α : Type} {d : Kd α} {e : Nat} {base : Nat} {ok : Nat → Prop} {v : Value} {xs : List α} (h : IsS122 w0 W g f0 f1) (ho : d.R e W base ok v xs) (ht : ∀ q, q ∈ e :: d.E → q ≠ 122) : d.R e W base (fun k => ok k ∧ k ≠ g) v xs := by
 obtain ⟨A0, c0, hb, _⟩ := h
 exact Kd.R_types ho hb ht
theorem IsS122.own_ne {w0 W : World} {g : Nat} {f0 : List Int} {f1 : Bool} {α : Type} {d : Kd α} {e : Nat} {base : Nat} {ok : Nat → Prop} {v : Value} {xs : List α} (h : IsS122 w0 W g f0 f1) (ho : d.R e W base ok v xs) (ht : e ≠ 122) : some g ≠ v.ownBlock := by
 obtain ⟨A0, c0, hb, _⟩ := h
 exact Kd.R_ne ho hb ht
theorem IsS122.own_ap {w0 W : World} {g : Nat} {f0 : List Int} {f1 : Bool} {α : Type} {d : Kd α} {e : Nat} {base : Nat} {ok : Nat → Prop} {v : Value} {xs : List α} (h : IsS122 w0 W g f0 f1) (ho : d.R e W base ok v xs) (ht : e ≠ 122 ∧ e ≠ 5) : Ap122 W g v.ownBlock :=
 ⟨h.own_ne ho ht.1, fun _ _ hc => Kd.R_ne ho hc ht.2⟩
theorem IsS122.apartQ {w0 W : World} {g : Nat} {f0 : List Int} {f1 : Bool} {α : Type} {d : Kd α} {e : Nat} {base : Nat} {ok : Nat → Prop} {v : Value} {xs : List α} (h : IsS122 w0 W g f0 f1) (ho : d.Q e W base ok v xs) (ht : ∀ q, q ∈ e :: d.E → q ≠ 122) : d.Q e W base (fun k => ok k ∧ k ≠ g) v xs := by
 obtain ⟨A0, c0, hb, _⟩ := h
 exact Kd.Q_types ho hb ht
theorem IsS122.own_neQ {w0 W : World} {g : Nat} {f0 : List Int} {f1 : Bool} {α : Type} {d : Kd α} {e : Nat} {base : Nat} {ok : Nat → Prop} {v : Value} {xs : List α} (h : IsS122 w0 W g f0 f1) (ho : d.Q e W base ok v xs) (ht : e ≠ 122) : some g ≠ v.ownBlock := by
 obtain ⟨A0, c0, hb, _⟩ := h
 exact Kd.Q_ne ho hb ht
theorem IsS122.own_apQ {w0 W : World} {g : Nat} {f0 : List Int} {f1 : Bool} {α : Type} {d : Kd α} {e : Nat} {base : Nat} {ok : Nat → Prop} {v : Value} {xs : List α} (h : IsS122 w0 W g f0 f1) (ho : d.Q e W base ok v xs) (ht : e ≠ 122 ∧ e ≠ 5) : Ap122 W g v.ownBlock :=
 ⟨h.own_neQ ho ht.1, fun _ _ hc => Kd.Q_ne ho hc ht.2⟩
theorem IsS122.lt {w0 W : World} {g : Nat} {f0 : List Int} {f1 : Bool} (h : IsS122 w0 W g f0 f1) : g < W.heap.size := by
 obtain ⟨A0, c0, hb, _⟩ := h
 exact blk_lt hb
theorem IsS122.ge {w0 W : World} {g : Nat} {f0 : List Int} {f1 : Bool} (h : IsS122 w0 W g f0 f1) : w0.heap.size ≤ g := by
 obtain ⟨A0, c0, hb, hg, _⟩ := h
 exact hg
theorem IsS122.ne_blk {w0 W : World} {g : Nat} {f0 : List Int} {f1 : Bool} {a : Nat} {cs : Array Value} {t : TypeId} {fr : Nat × Nat} (h : IsS122 w0 W g f0 f1) (hb2 : W.heap[a]? = some (.cells cs t fr)) (ht : t ≠ 122) : g ≠ a := by
 obtain ⟨A0, c0, hb, _⟩ := h; rintro rfl; rw [hb] at hb2; injection hb2 with hb2; injection hb2 with _ ht2
 exact ht ht2.symm
theorem IsS122.far {w0 W : World} {g : Nat} {f0 : List Int} {f1 : Bool} {p : Addr} (h : IsS122 w0 W g f0 f1) (hne : g ≠ p.block) (hlt : g < p.block) (u : Value) : IsS122 w0 (W.setCell p u) g f0 f1 := by
 obtain ⟨A0, c0, hb, hg, hl, hr0, hr1⟩ := h
 refine ⟨A0, c0, blk_far hb hne u, hg, hl, hr0, fun hp => ?_⟩
 obtain ⟨k, cells, off, h1, h2, h3, h4, h5⟩ := hr1 hp
 exact ⟨k, cells, off, h1, h2, h3, blk_far h4 (by omega) u, h5⟩
theorem cellS122_0 {W : World} {g : Nat} {A0 : Option Addr} {c0 : Nat} {f0 : List Int} {f1 : Bool} (h : W.heap[g]? = some (.cells #[.slice A0 f0.length c0, .bool f1] 122 (0, 0))) : W.cell? ⟨g, 0, none⟩ = some (.slice A0 f0.length c0) := (blk_cell h 0).trans rfl
theorem cellS122_1 {W : World} {g : Nat} {A0 : Option Addr} {c0 : Nat} {f0 : List Int} {f1 : Bool} (h : W.heap[g]? = some (.cells #[.slice A0 f0.length c0, .bool f1] 122 (0, 0))) : W.cell? ⟨g, 1, none⟩ = some (.bool f1) := (blk_cell h 1).trans rfl
theorem IsS122.set_1 {w0 W : World} {g : Nat} {f0 : List Int} {f1 : Bool} (h : IsS122 w0 W g f0 f1) (x : Bool) : IsS122 w0 (W.setCell ⟨g, 1, none⟩ (.bool x)) g f0 x := by
 obtain ⟨A0, c0, hb, hg, hl, hr0, hr1⟩ := h
 refine ⟨A0, c0, by simpa using blk_set hb 1 (.bool x), hg, hl, hr0, fun hp => ?_⟩
 obtain ⟨k, cells, off, h1, h2, h3, h4, h5⟩ := hr1 hp
 exact ⟨k, cells, off, h1, h2, h3, blk_far h4 (by show k ≠ g; omega) _, h5⟩
/-- Its bytes, read where they lie now. -/
theorem IsS122.reads {w0 W : World} {g : Nat} {f0 : List Int} {f1 : Bool} (h : IsS122 w0 W g f0 f1) : ∃ A0 c0, W.heap[g]? = some (.cells #[.slice A0 f0.length c0, .bool f1] 122 (0, 0)) ∧ f0.length ≤ c0 ∧ Kd.C (Kd.int .u8) W A0 f0.length f0 ∧ (0 < f0.length → ∃ k off, A0 = some ⟨k, off, none⟩ ∧ k < g) := by
 obtain ⟨A0, c0, hb, hg, hl, hr0, hr1⟩ := h
 refine ⟨A0, c0, hb, hl, ⟨rfl, hr0, fun hp => ?_⟩, fun hp => ?_⟩
 ·
  obtain ⟨k, cells, off, h1, h2, h3, h4, h5⟩ := hr1 hp
  refine ⟨_, h1, fun j p hj => ⟨[.int .u8 p], rfl, rfl, fun i u hu => ?_⟩⟩
  have hjl := (List.getElem?_eq_some_iff.1 hj).1
  have hi : i = 0 := by
   have := (List.getElem?_eq_some_iff.1 hu).1
   simpa using this
  subst hi; (have hu' : Value.int .u8 p = u := by simpa using hu); subst hu'
  have ha : (Addr.mk k off none).add (j * (Kd.int .u8).sz + 0) = ⟨k, off + j, none⟩ := by
   show (Addr.mk k off none).add (j * 1 + 0) = _
   unfold Addr.add
   by_cases h : j = 0 <;> simp [h]
  rw [ha, blk_cell h4, h5 j hjl]; rw [List.getD_eq_getElem?_getD, hj]
  rfl
 ·
  obtain ⟨k, cells, off, h1, h2, _⟩ := hr1 hp
  exact ⟨k, off, h1, h2⟩
/-- A row of the call's own, made before the reader. -/
theorem Arr122.of_R {w0 W : World} {base g : Nat} {ok : Nat → Prop} {A : Option Addr} {c : Nat} {xs : List Int} (h : Kd.R (Kd.int .u8) 5 W base ok (.slice A xs.length c) xs) (hb : w0.heap.size ≤ base) (hg : W.heap.size ≤ g) : Arr122 w0 W g A xs := by
 have ho := Kd.own_of_R h; rcases ho.2 with ⟨h1, h2⟩ | ⟨k, cap, cur, he, hbk, hh, hnc, hcm, hsz, htk⟩
 ·
  exact ⟨by omega, fun hp => by omega⟩
 ·
  injection he with he1 he2 he3
  refine ⟨by simp only [maxLen] at hcm; omega, fun _ => ⟨k, cur, 0, he1, Nat.lt_of_lt_of_le (blk_lt hh) hg, Nat.le_trans hb hbk, hh, fun j hj => ?_⟩⟩
  have hj2 : (encs (Value.int .u8) xs)[j]? = some (.int .u8 (xs.getD j 0)) := by
   simp [encs, List.getElem?_eq_getElem hj, List.getD_eq_getElem?_getD]
  rw [← htk, List.getElem?_take] at hj2
  split at hj2
  ·
   rw [Nat.zero_add, ← Array.getElem?_toList]
   exact hj2
  ·
   cases hj2
theorem IsS122.grown_far {w0 W : World} {g : Nat} {f0 : List Int} {f1 : Bool} {W1 : World} {row : Option Nat} (h : IsS122 w0 W g f0 f1) (hw : W.grownBy W1 row) (hne : some g ≠ row) (hlt : ∀ k, row = some k → k < w0.heap.size) : IsS122 w0 W1 g f0 f1 := by
 obtain ⟨A0, c0, hb, hg, hl, hr0, hr1⟩ := h
 refine ⟨A0, c0, blk_grown hb hw hne, hg, hl, hr0, fun hp => ?_⟩
 obtain ⟨k, cells, off, h1, h2, h3, h4, h5⟩ := hr1 hp
 exact ⟨k, cells, off, h1, h2, h3, blk_grown h4 hw (fun e => by have := hlt k e.symm; omega), h5⟩
theorem IsS122.lower {w w0 W : World} {g : Nat} {f0 : List Int} {f1 : Bool} (hle : w.heap.size ≤ w0.heap.size) (h : IsS122 w0 W g f0 f1) : IsS122 w W g f0 f1 := by
 obtain ⟨A0, c0, hb, hg, hl, hr0, hr1⟩ := h
 refine ⟨A0, c0, hb, Nat.le_trans hle hg, hl, hr0, fun hp => ?_⟩
 obtain ⟨k, cells, off, h1, h2, h3, h4, h5⟩ := hr1 hp
 exact ⟨k, cells, off, h1, h2, Nat.le_trans hle h3, h4, h5⟩
theorem IsS122.apartS {w0 W : World} {g : Nat} {f0 : List Int} {f1 : Bool} {α : Type} {d : Kd α} {e : Nat} {base : Nat} {ok : Nat → Prop} {v : Value} {xs : List α} (h : IsS122 w0 W g f0 f1) (ho : d.S e W base ok v xs) (ht : ∀ q, q ∈ e :: d.E → q ≠ 122) : d.S e W base (fun k => ok k ∧ k ≠ g) v xs := by
 obtain ⟨A0, c0, hb, _⟩ := h
 exact Kd.S_types ho hb ht
theorem IsS122.own_neS {w0 W : World} {g : Nat} {f0 : List Int} {f1 : Bool} {α : Type} {d : Kd α} {e : Nat} {base : Nat} {ok : Nat → Prop} {v : Value} {xs : List α} (h : IsS122 w0 W g f0 f1) (ho : d.S e W base ok v xs) (ht : e ≠ 122) : some g ≠ v.ownBlock := by
 obtain ⟨A0, c0, hb, _⟩ := h
 exact Kd.S_ne ho hb ht
theorem IsS122.own_apS {w0 W : World} {g : Nat} {f0 : List Int} {f1 : Bool} {α : Type} {d : Kd α} {e : Nat} {base : Nat} {ok : Nat → Prop} {v : Value} {xs : List α} (h : IsS122 w0 W g f0 f1) (ho : d.S e W base ok v xs) (ht : e ≠ 122 ∧ e ≠ 5) : Ap122 W g v.ownBlock :=
 h.own_ap (Kd.S_R ho) ht

def F38.f (l0 : List Int) : Option (List Int × Bool) := (F72.f l0).bind fun c => some (c, false)
theorem F38.calls (A0 : Option Addr) (c0 : Nat) (l0 : List Int) (r1 : List Int) (r2 : Bool) (w0 w : World) (hB : Below w0.heap.size w0 w) (hr0 : Kd.C (Kd.int .u8) w A0 l0.length l0) (hc0 : l0.length ≤ c0) (h : F38.f l0 = some (r1, r2)) :
  Calls Try.prog 38 #[.slice A0 l0.length c0] w fun e w' => ∃ g_ : Nat, e = .returned (.pointer (some ⟨g_, 0, none⟩)) ∧ IsS122 w0 w' g_ r1 r2 ∧ Below w0.heap.size w0 w' ∧ Below w.heap.size w w' := by
 unfold F38.f at h; obtain ⟨c, hc, h⟩ := Option.bind_eq_some_iff.mp h; injection h with h; injection h with h1 h2; subst h1 h2; have A1 := aM hc; have HR0 := aM hr0; have HC0 := aM hc0; have HB := aM hB; clear hc hr0 hc0 hB
 go_enter Try.func38, Try.ntmps38
 go_wp2_with (go_at_call 72; (with_reducible refine (F72.calls _ _ l0 c _ HR0.out HC0.out A1.out).mono ?_); rintro e w' ⟨v, rfl, ho, hb⟩; have HO := aM ho; have HW := aM hb; clear ho hb; obtain ⟨Ao, co, eo⟩ := Kd.R_slice HO.out; subst eo)
 go_ret
 refine ⟨_, rfl, ?_, ?_, ?_⟩
 ·
  have hs : w0.heap.size ≤ w'.heap.size := Nat.le_trans HB.out.size HW.out.size
  refine ⟨Ao, co, heap_alloc_new w' _, hs, (Kd.R_reads' HO.out).2.1, ?_⟩
  exact (Arr122.of_R (w0 := w0) HO.out HB.out.size (Nat.le_refl _)).move (fun k cells hk hc => blk_alloc hc _)
 ·
  exact below_alloc (below_step HB.out HW.out) _
 ·
  exact below_alloc HW.out _

def F73.f (s0_0 : List Int) (s0_1 : Bool) (a1 : Int) : Option (List Int × List Int × Bool) :=
 if (s0_0.length : Int) < a1 then some ([], [], true) else (F72.f (s0_0.take a1.toNat)).bind fun c => some (c, s0_0.drop a1.toNat, s0_1)
theorem F73.set_0 {w0 W : World} {g : Nat} {f0 : List Int} {f1 : Bool} (h : IsS122 w0 W g f0 f1) (A : Option Addr) (c : Nat) (xs : List Int) (hc : xs.length ≤ c) (ha : Arr122 w0 W g A xs) : IsS122 w0 (W.setCell ⟨g, 0, none⟩ (.slice A xs.length c)) g xs f1 := by
 obtain ⟨A0, c0, hb, hg, hl, hr⟩ := h
 refine ⟨A, c, by simpa using blk_set hb 0 (.slice A xs.length c), hg, hc, ha.move fun k cells hk hcell => blk_far hcell (by show k ≠ g; omega) _⟩
theorem F73.arr_drop {w0 W : World} {g : Nat} {A0 : Option Addr} {f0 : List Int} (h : Arr122 w0 W g A0 f0) (m c : Nat) (hm : m ≤ f0.length) (hc : f0.length ≤ c) : Arr122 w0 W g (if c = m then A0 else A0.map (·.add m)) (f0.drop m) := by
 refine ⟨by have := h.1; rw [List.length_drop]; omega, fun hp => ?_⟩
 rw [List.length_drop] at hp; obtain ⟨k, cells, off, h1, h2, h3, h4, h5⟩ := h.2 (by omega)
 refine ⟨k, cells, off + m, ?_, h2, h3, h4, fun j hj => ?_⟩
 ·
  rw [if_neg (by omega), h1]; simp only [Option.map_some, Addr.add]
  by_cases h : m = 0 <;> simp [h]
 ·
  rw [List.length_drop] at hj; rw [Nat.add_assoc, h5 (m + j) (by omega)]
  simp [List.getD_eq_getElem?_getD, List.getElem?_drop]
theorem F73.calls (g : Nat) (s0_0 : List Int) (s0_1 : Bool) (a1 : Int) (r1 : List Int) (r2 : List Int) (r3 : Bool) (w0 w : World) (hI : IsS122 w0 w g s0_0 s0_1) (hB : Below w0.heap.size w0 w) (h : F73.f s0_0 s0_1 a1 = some (r1, r2, r3)) :
  Calls Try.prog 73 #[.pointer (some ⟨g, 0, none⟩), .int .i64 a1] w fun e w' => ∃ v0_ : Value, e = .returned (v0_) ∧ Kd.R (Kd.int .u8) 5 w' w.heap.size (fun _ => True) v0_ r1 ∧ IsS122 w0 w' g r2 r3 ∧ Below w0.heap.size w0 w' ∧ KeepBut w w' g none := by
 unfold F73.f at h; have hn : (if (s0_0.length : Int) < a1 then some (([], [], true) : List Int × List Int × Bool) else (F72.f (s0_0.take a1.toNat)).bind fun c => some (c, s0_0.drop a1.toNat, s0_1)) = some (r1, r2, r3) := h; clear h; have hI2 := hI; obtain ⟨A0, c0, HG, hl0, hC, hAt⟩ := hI2.reads; have HI := aM hI; have HB := aM hB; have hcell0 := cellS122_0 HG; have hcell1 := cellS122_1 HG; have hfz0 := blk_frozen HG 0; have hfz1 := blk_frozen HG 1
 by_cases hlt : (s0_0.length : Int) < a1
 ·
  rw [if_pos hlt] at hn; simp only [Option.some.injEq, Prod.mk.injEq] at hn; obtain ⟨rfl, rfl, rfl⟩ := hn; (have hmx : (if a1 < 0 then 0 else a1) = a1 := by rw [if_neg (by omega)]); have hb1 : decide ((s0_0.length : Int) < a1) = true := dT hlt; clear hI hI2 hB HG hC hAt hlt
  go_enter Try.func73, Try.ntmps73
  go_wp2
  go_ret
  refine ⟨_, rfl, Kd.R_nil _ _ _ _ _, ?_, ?_, ?_⟩
  ·
   have h1 := F73.set_0 HI.out none 0 [] (Nat.le_refl _) ⟨by simp, fun hp => absurd hp (by simp)⟩
   exact h1.set_1 true
  ·
   exact below_set (below_set HB.out HI.out.ge) HI.out.ge
  ·
   exact ((KeepBut.refl w g none).set_ 0 _).set_ 1 _
 ·
  rw [if_neg hlt] at hn; obtain ⟨c, hc, hn⟩ := Option.bind_eq_some_iff.mp hn; simp only [Option.some.injEq, Prod.mk.injEq] at hn; obtain ⟨rfl, rfl, rfl⟩ := hn; have A1 := aM hc; have HC := aM hC
  have HAt := aM (show Arr122 w0 w g A0 s0_0 from by
   obtain ⟨A', c', hb', _, _, hr'⟩ := hI2; rw [HG] at hb'; injection hb' with hb'; injection hb' with hb' _; injection hb' with hb'; injection hb' with hb' _; injection hb' with hb' _ _; rw [hb']
   exact hr')
  have HL := aM hl0; (have hmx0 : 0 ≤ mx a1 0 := by unfold mx; omega); (have hmxl : mx a1 0 ≤ (s0_0.length : Int) := by unfold mx; omega); (have hmxn : (mx a1 0).toNat = a1.toNat := by unfold mx; omega); obtain ⟨m, hm⟩ : ∃ m : Int, mx a1 0 = m := ⟨_, rfl⟩; rw [hm] at hmx0 hmxl hmxn; have hm2 : (if a1 < 0 then 0 else a1) = m := hm; clear hm; have HM := aM hmxn; have hlt2 : decide ((s0_0.length : Int) < m) = false := dF (by omega); (have hml : m.toNat ≤ s0_0.length := by omega); have HML := aM hml; have cut1 := cut_to (P := Try.prog) 36 5 .i64 Try.underlying36 rfl A0 s0_0.length c0 m hmx0 hmxl hl0; have cut2 := cut_from (P := Try.prog) 36 5 .i64 Try.underlying36 rfl 1 rfl A0 s0_0.length c0 m hmx0 hmxl; obtain ⟨A', hA'⟩ : ∃ A' : Option Addr, (if c0 = m.toNat then A0 else A0.map (·.add (m.toNat * 1))) = A' := ⟨_, rfl⟩; rw [hA'] at cut2; have HA' := aM hA'; clear hA'; have HG0 := aM HG; (have hlen : (s0_0.take m.toNat).length = m.toNat := by rw [List.length_take]; omega); have hdl : (s0_0.drop m.toNat).length = s0_0.length - m.toNat := List.length_drop ..; (have hg1 : s0_0.length - m.toNat ≤ c0 - m.toNat := by omega); have HD := aM (And.intro hdl hg1)
  have CC := aM (fun (W : World) (hR : Kd.C (Kd.int .u8) W A0 m.toNat (s0_0.take m.toNat)) => by
   have h1 := F72.calls A0 c0 (s0_0.take m.toNat) c W (by rw [hlen]; exact hR) (by rw [hlen]; omega) (by rw [HM.out]; exact A1.out); rw [hlen] at h1
   exact h1)
  have HC1 := aM (show Kd.C (Kd.int .u8) w A0 m.toNat (s0_0.take m.toNat) from by have h1 := Kd.C_take HC.out HML.out; rw [hlen] at h1; exact h1); rw [← HM.out]; clear hI hI2 hB HG hC hAt hlt hc hl0 hmxn hml hlen hdl hg1
  go_enter Try.func73, Try.ntmps73
  go_wp2_with (go_at_call 72; (with_reducible refine (CC.out _ HC1.out).mono ?_); rintro e w1 ⟨v, rfl, ho, hb⟩; have HO := aM ho; have HW := aM hb; have HG1 := blk_below HG0.out hb; have hcell2 := cellS122_0 HG1; have hfz2 := blk_frozen HG1 0; clear ho hb HG1)
  go_ret
  have hI1 := HI.out.below HW.out
  refine ⟨_, rfl, Kd.R_set HO.out (blk_below HG0.out HW.out) (by decide) 0 _, ?_, ?_, ?_⟩
  ·
   have h1 := F73.set_0 hI1 A' (c0 - m.toNat) (s0_0.drop m.toNat) (by rw [HD.out.1]; exact HD.out.2) (by rw [← HA'.out, Nat.mul_one]; exact (F73.arr_drop HAt.out m.toNat c0 HML.out HL.out).move (fun k cells hk hcl => blk_below hcl HW.out)); rw [HD.out.1] at h1
   exact h1
  ·
   exact below_set (HB.out.trans (HW.out.mono HB.out.size)) HI.out.ge
  ·
   exact (KeepBut.of_below HW.out g none).set_ 0 _

def F39.l0 : Nat → Int → List Int → Int → Int → List Int → Bool → Option (Int × List Int × Bool)
 | 0, _, _, _, _, _, _ => none
 | k + 1, x5, x11, x12, x13, x1000, x1001 => if x13 < x12 then (if 0 ≤ x13 then (if x13 < (x11.length : Int) then (F39.l0 k (Go.bits .or .u64 (IntKind.u64.wrap (x5 * 256)) (IntKind.u64.wrap (rd x11 x13))) x11 x12 (wrap64 (x13 + 1)) x1000 x1001) else (none)) else (none)) else (some (x5, x1000, x1001))
def F39.f (k : Nat) (s0_0 : List Int) (s0_1 : Bool) (a1 : Int) : Option (Int × List Int × Bool) := (F69.f a1).bind fun t246 => ((F73.f s0_0 s0_1 t246).bind fun bt247 => (F39.l0 k 0 bt247.1 (bt247.1.length : Int) 0 bt247.2.1 bt247.2.2))
theorem F39.mono_l : ∀ k, (∀ y0 y1 y2 y3 y4 y5, LeO (F39.l0 k y0 y1 y2 y3 y4 y5) (F39.l0 (k + 1) y0 y1 y2 y3 y4 y5))
 | 0 => fun _ _ _ _ _ _ r h => by simp [F39.l0] at h
 | k + 1 => by
  have ih0 := F39.mono_l k
  ·
   intro y0 y1 y2 y3 y4 y5; unfold F39.l0
   repeat' with_reducible first | exact ih0 _ _ _ _ _ _ | exact LeO.refl _ | exact LeO.none _ | refine LeO.ite ?_ ?_ | refine LeO.bind ?_ (fun _ => ?_)
theorem F39.mono : ∀ a0 a1 a2 k, LeO (F39.f k a0 a1 a2) (F39.f (k + 1) a0 a1 a2) := by
 intro a0 a1 a2 k; have ih0 := F39.mono_l k; unfold F39.f
 repeat' with_reducible first | exact ih0 _ _ _ _ _ _ | exact LeO.refl _ | exact LeO.none _ | refine LeO.ite ?_ ?_ | refine LeO.bind ?_ (fun _ => ?_)
theorem F39.calls (k : Nat) (g : Nat) (s0_0 : List Int) (s0_1 : Bool) (a1 : Int) (r1 : Int) (r2 : List Int) (r3 : Bool) (w0 w : World) (hI : IsS122 w0 w g s0_0 s0_1) (hB : Below w0.heap.size w0 w) (h : F39.f k s0_0 s0_1 a1 = some (r1, r2, r3)) :
  Calls Try.prog 39 #[.pointer (some ⟨g, 0, none⟩), .int .i64 a1] w fun e w' => e = .returned (.int .u64 r1) ∧ IsS122 w0 w' g r2 r3 ∧ Below w0.heap.size w0 w' ∧ KeepBut w w' g none := by
 have HI0 := aM hI; have HK := aM (KeepBut.refl w g none); have HL := aM hB.size; clear hI; have HW0 := aM hB.size; have HB := aM hB; clear hB; have H := h; clear h; unfold F39.f at H; obtain ⟨t246, A3, H⟩ := bnd H; obtain ⟨⟨t247, t250, t251⟩, A4, H⟩ := bnd H
 try dsimp only at H
 have H' := aM H; clear H
 go_enter Try.func39, Try.ntmps39
 go_wp2_with (first | ((with_reducible refine gate_callee (f := 69) rfl ?_); refine gL 10 Try.func69 #[.int .i64 a1] (h := ?_); (with_reducible refine (F69.calls a1 t246 _ A3.out).mono ?_); rintro e w5 ⟨rfl, hb⟩; refine ⟨_, rfl, ?_⟩; replace HI0 := aM (IsS122.below HI0.out hb); replace HK := aM (KeepBut.trans HK.out (KeepBut.of_below hb g none) (.inl rfl)); replace HB := bst HB hb; clear hb) | ((with_reducible refine gate_callee (f := 73) rfl ?_); refine gL 11 Try.func73 #[.pointer (some ⟨g, 0, none⟩), .int .i64 t246] (h := ?_); (with_reducible refine (F73.calls g s0_0 s0_1 t246 t247 t250 t251 w0 _ ?side1 ?side2 A4.out).mono ?_); (case side1 => with_reducible exact HI0.out); (case side2 => with_reducible exact HB.out); rintro e w6 ⟨v248, rfl, ho0, hi, hb, hk⟩; refine ⟨_, rfl, ?_⟩; have HO249 := aM (Kd.R_lower ho0 (keep_size (w := w) (g := g) (row := none) HK.out)); replace HK := aM (KeepBut.trans HK.out hk (.inl rfl)); replace HB := aM (hb); replace HI0 := aM (hi); clear hb hk hi ho0; obtain ⟨Ao7, co7, eo7⟩ := Kd.R_slice HO249.out; subst eo7))
 go_loopg [5, 13] k (fun kq v5 v13 w' => ∃ (x5_1 : Int) (x13_1 : Int), v5 = .int .u64 x5_1 ∧ v13 = .int .i64 x13_1 ∧ Aside0 (F39.l0 kq x5_1 t247 (t247.length : Int) x13_1 t250 t251 = some (r1, r2, r3)) ∧ Aside0 (kq ≤ k) ∧ Aside0 (Kd.R (Kd.int .u8) 5 w' w.heap.size (fun _ => True) (.slice Ao7 t247.length co7) t247) ∧ Aside0 (IsS122 w0 w' g t250 t251) ∧ Aside0 (KeepBut w w' g none) ∧ Aside0 (Below w0.heap.size w0 w'))
 case atStart => exact ⟨(0), (0), rfl, rfl, H', ⟨Nat.le_refl _⟩, HO249, HI0, HK, HB⟩
 case round =>
  clear H'; (try clear p2); (try clear c3); (try clear c6); (try clear c7); obtain ⟨x5_1, x13_1, rfl, rfl, HA, HK1, HO_11, HI0, HK, HB⟩ := hrel
  cases gk with
  | zero => exact absurd HA.out (by simp [F39.l0])
  | succ k1 =>
   have H := HA.out; clear HA; simp only [F39.l0] at H
   by_cases c8 : x13_1 < (t247.length : Int)
   ·
    rw [if_pos c8] at H; have c8b0 : decide (x13_1 < (t247.length : Int)) = true := dT c8; clear c8; obtain ⟨c9, H⟩ := ifp H; have c9b0 : decide (0 ≤ x13_1) = true := dT c9; clear c9; obtain ⟨c10, H⟩ := ifp H; have c10b0 : decide (x13_1 < (t247.length : Int)) = true := dT c10; clear c10; have H' := aM H; clear H; have p252 : 0 ≤ (x13_1 : Int) := oD; have q252 : x13_1 < (t247.length : Int) := oD; obtain ⟨ad252, e252, hx252_0⟩ := Kd.at_int (Kd.R_reads' HO_11.out).2.2 x13_1 p252 q252
    cases e252
    replace p252 := eq_true p252; replace q252 := eq_true q252
    go_wp2
    go_roundg k1
    case measure => have := HK1.out; omega
    case rel => exact ⟨(Go.bits .or .u64 (IntKind.u64.wrap (x5_1 * 256)) (IntKind.u64.wrap (rd t247 x13_1))), (wrap64 (x13_1 + 1)), rfl, rfl, H', ⟨by have := HK1.out; omega⟩, HO_11, HI0, HK, HB⟩
   ·
    rw [if_neg c8] at H; have c8b0 : decide (x13_1 < (t247.length : Int)) = false := dF c8; clear c8; simp only [Option.some.injEq, Prod.mk.injEq] at H; obtain ⟨rfl, rfl, rfl⟩ := H
    go_wp2
    go_ret
    exact ⟨rfl, HI0.out, HB.out, HK.out⟩

def F40.go (k : Nat) : Nat → List Int → List Int → Bool → Option (List Int × List Int × Bool)
 | 0, acc, s, t => some (acc, s, t)
 | n + 1, acc, s, t => (F39.f k s t 1).bind fun r => F40.go k n (acc ++ [wrap64 r.1]) r.2.1 r.2.2
def F40.f (k : Nat) (s0_0 : List Int) (s0_1 : Bool) : Option (Int × Int × Int × Int × Int × Int × Int × List Int × Bool) :=
 (F40.go k 6 [] s0_0 s0_1).bind fun r => (F39.f k r.2.1 r.2.2 2).bind fun q =>
  some (r.1.getD 0 0, r.1.getD 1 0, r.1.getD 2 0, r.1.getD 3 0, r.1.getD 4 0, r.1.getD 5 0, wrap64 q.1, q.2.1, q.2.2)
theorem F40.go_mono (k : Nat) : ∀ (n : Nat) (acc s : List Int) (t : Bool), LeO (F40.go k n acc s t) (F40.go (k + 1) n acc s t)
 | 0, acc, s, t => LeO.refl _
 | n + 1, acc, s, t => LeO.bind (F39.mono _ _ _ _) (fun r => F40.go_mono k n _ _ _)
theorem F40.mono : ∀ s0_0 s0_1 k, LeO (F40.f k s0_0 s0_1) (F40.f (k + 1) s0_0 s0_1) := by
 intro s0_0 s0_1 k; unfold F40.f
 exact LeO.bind (F40.go_mono _ _ _ _ _) (fun r => LeO.bind (F39.mono _ _ _ _) (fun q => LeO.refl _))
def F40.arr (l : List Int) : Array Value := #[.int .i64 (l.getD 0 0), .int .i64 (l.getD 1 0), .int .i64 (l.getD 2 0), .int .i64 (l.getD 3 0), .int .i64 (l.getD 4 0), .int .i64 (l.getD 5 0)]
def F40.zeros : Array Value := #[.int .i64 0, .int .i64 0, .int .i64 0, .int .i64 0, .int .i64 0, .int .i64 0, .int .i64 0]
def F40.T7 : Bool × List (List Nat × List Nat) := (true, [([], []), ([0], [0]), ([], []), ([2], [2]), ([], []), ([4], [4]), ([], []), ([6], [6]), ([], []), ([8], [8]), ([], []), ([10], [10]), ([], []), ([12], [12]), ([13], [13]), ([1, 3, 5, 7, 9, 11, 14], [1, 3, 5, 7, 9, 11, 14]), ([15, 13, 0, 1, 2, 3, 4, 5, 6, 7, 8, 9, 10, 11, 12, 13, 14, 15], [15])])
def F40.B7 : List Nat := [0, 1, 0, 4, 0, 16, 0, 64, 0, 256, 0, 1024, 0, 4096, 12288, 32767, 65535]
theorem F40.tab7 : rtab .any (opsOf Try.f40 7) = F40.T7 := by kernel_rfl
theorem F40.bits7 : waitsOk F40.T7.2 F40.B7 = true := by kernel_rfl
theorem F40.calls (k : Nat) (g : Nat) (s0_0 : List Int) (s0_1 : Bool) (r1 r2 r3 r4 r5 r6 r7 : Int) (r8 : List Int) (r9 : Bool) (w0 w : World) (hI : IsS122 w0 w g s0_0 s0_1) (hB : Below w0.heap.size w0 w) (h : F40.f k s0_0 s0_1 = some (r1, r2, r3, r4, r5, r6, r7, r8, r9)) :
  Calls Try.prog 40 #[.pointer (some ⟨g, 0, none⟩)] w fun e w' => e = .returned (.agg #[.int .i64 r1, .int .i64 r2, .int .i64 r3, .int .i64 r4, .int .i64 r5, .int .i64 r6, .int .i64 r7]) ∧ IsS122 w0 w' g r8 r9 ∧ Below w0.heap.size w0 w' ∧ KeepBut w w' g none := by
 unfold F40.f at h; obtain ⟨⟨l, s6, t6⟩, h6, h⟩ := Option.bind_eq_some_iff.mp h; obtain ⟨⟨q1, q2, q3⟩, h7, h⟩ := Option.bind_eq_some_iff.mp h; simp only [Option.some.injEq, Prod.mk.injEq] at h; obtain ⟨rfl, rfl, rfl, rfl, rfl, rfl, rfl, rfl, rfl⟩ := h; have HG := aM h6; have H7 := aM (show F39.f k s6 t6 2 = some (q1, q2, q3) from h7); have HI := aM hI; have HB := aM hB; have HL := aM hI.lt; have HW := aM hB.size; have HN := aM (show g ≠ w.heap.size ∧ g ≠ w.heap.size + 1 ∧ w.heap.size ≠ g ∧ w.heap.size + 1 ≠ g ∧ g < w.heap.size + 1 ∧ w0.heap.size ≤ w.heap.size + 1 ∧ w.heap.size ≤ w.heap.size + 1 from by have := hI.lt; have := hB.size; omega); clear h6 h7 hI hB; have hu76 := Try.underlying76; have hu23 := Try.underlying23
 go_enter Try.func40, Try.ntmps40
 go_wp2
 go_loopg [5] 6 (fun kq v5 w' => ∃ (acc s : List Int) (t : Bool) (i : Int), acc.length + kq = 6 ∧ i = (acc.length : Int) ∧ v5 = .int .i64 i ∧ Aside0 (F40.go k kq acc s t = some (l, s6, t6)) ∧ Aside0 (w'.heap[w.heap.size]? = some (.cells F40.zeros 23 (0, 0))) ∧ Aside0 (w'.heap[w.heap.size + 1]? = some (.cells (F40.arr acc) 76 (0, 0))) ∧ Aside0 (IsS122 w0 w' g s t) ∧ Aside0 (KeepBut w w' g none) ∧ Aside0 (Below w0.heap.size w0 w'))
 case atStart => exact ⟨[], s0_0, s0_1, 0, rfl, rfl, rfl, HG, ⟨blk_below (blk_new w _) (below_alloc (Below.refl _ _) _)⟩, ⟨by have h_ := blk_new (w.alloc (.cells F40.zeros 23)) (.cells (F40.arr []) 76); rw [show (w.alloc (.cells F40.zeros 23)).heap.size = w.heap.size + 1 from by simp] at h_; exact h_⟩, ⟨(HI.out.alloc _).alloc _⟩, ⟨by repeat (first | exact KeepBut.refl _ _ _ | apply keep_alloc)⟩, ⟨below_alloc (below_alloc HB.out _) _⟩⟩
 case round =>
  obtain ⟨acc, s, t, i, hlen, hi, rfl, HA, BH, BA, HI1, HK, HB1⟩ := hrel; rcases acc with _ | ⟨a0, _ | ⟨a1, _ | ⟨a2, _ | ⟨a3, _ | ⟨a4, _ | ⟨a5, acc⟩⟩⟩⟩⟩⟩
  ·
   (obtain rfl : gk = 6 := by simp at hlen; omega); (obtain rfl : i = 0 := by simpa using hi); clear hi hlen; obtain ⟨⟨v, s1, t1⟩, hv, hA⟩ := Option.bind_eq_some_iff.mp (show (F39.f k s t 1).bind (fun r => F40.go k 5 ([] ++ [wrap64 r.1]) r.2.1 r.2.2) = some (l, s6, t6) from HA.out); have HV := aM hv; have HA1 := aM (show F40.go k 5 [wrap64 v] s1 t1 = some (l, s6, t6) from hA); clear hv hA HA
   go_wp2_with (first | (go_at_call 39; (with_reducible refine (F39.calls k g s t 1 v s1 t1 w0 _ ?b1 ?b2 HV.out).mono ?_); (case b1 => exact HI1.out); (case b2 => exact HB1.out); rintro e w1 ⟨rfl, hi, hb, hk⟩; have BH1 := aM (KeepBut.blk hk BH.out HN.out.2.2.1 (by simp)); have BA1 := aM (KeepBut.blk hk BA.out HN.out.2.2.2.1 (by simp)); have hfz := blk_frozen BA1.out 0; have hcl : w1.cell? ⟨w.heap.size + 1, 0, none⟩ = some (.int .i64 0) := cL BA1 0; have HI2 := aM hi; have HK1 := aM (KeepBut.trans HK.out hk (.inl rfl)); have HB2 := aM hb; clear hi hb hk))
   go_roundg 5
   case measure => omega
   case rel => exact ⟨[wrap64 v], s1, t1, 1, by simp, by simp, by first | rfl | go_num, HA1, ⟨blk_far BH1.out (by show w.heap.size ≠ w.heap.size + 1; omega) _⟩, ⟨blk_put BA1.out 0 _ rfl⟩, ⟨IsS122.far HI2.out HN.out.2.1 HN.out.2.2.2.2.1 _⟩, ⟨keep_far HK1.out HN.out.2.2.2.2.2.2 _⟩, ⟨below_set HB2.out HN.out.2.2.2.2.2.1⟩⟩
  ·
   (obtain rfl : gk = 5 := by simp at hlen; omega); (obtain rfl : i = 1 := by simpa using hi); clear hi hlen; obtain ⟨⟨v, s1, t1⟩, hv, hA⟩ := Option.bind_eq_some_iff.mp (show (F39.f k s t 1).bind (fun r => F40.go k 4 ([a0] ++ [wrap64 r.1]) r.2.1 r.2.2) = some (l, s6, t6) from HA.out); have HV := aM hv; have HA1 := aM (show F40.go k 4 [a0, wrap64 v] s1 t1 = some (l, s6, t6) from hA); clear hv hA HA
   go_wp2_with (first | (go_at_call 39; (with_reducible refine (F39.calls k g s t 1 v s1 t1 w0 _ ?b1 ?b2 HV.out).mono ?_); (case b1 => exact HI1.out); (case b2 => exact HB1.out); rintro e w1 ⟨rfl, hi, hb, hk⟩; have BH1 := aM (KeepBut.blk hk BH.out HN.out.2.2.1 (by simp)); have BA1 := aM (KeepBut.blk hk BA.out HN.out.2.2.2.1 (by simp)); have hfz := blk_frozen BA1.out 1; have hcl : w1.cell? ⟨w.heap.size + 1, 1, none⟩ = some (.int .i64 0) := cL BA1 1; have HI2 := aM hi; have HK1 := aM (KeepBut.trans HK.out hk (.inl rfl)); have HB2 := aM hb; clear hi hb hk))
   go_roundg 4
   case measure => omega
   case rel => exact ⟨[a0, wrap64 v], s1, t1, 2, by simp, by simp, by first | rfl | go_num, HA1, ⟨blk_far BH1.out (by show w.heap.size ≠ w.heap.size + 1; omega) _⟩, ⟨blk_put BA1.out 1 _ rfl⟩, ⟨IsS122.far HI2.out HN.out.2.1 HN.out.2.2.2.2.1 _⟩, ⟨keep_far HK1.out HN.out.2.2.2.2.2.2 _⟩, ⟨below_set HB2.out HN.out.2.2.2.2.2.1⟩⟩
  ·
   (obtain rfl : gk = 4 := by simp at hlen; omega); (obtain rfl : i = 2 := by simpa using hi); clear hi hlen; obtain ⟨⟨v, s1, t1⟩, hv, hA⟩ := Option.bind_eq_some_iff.mp (show (F39.f k s t 1).bind (fun r => F40.go k 3 ([a0, a1] ++ [wrap64 r.1]) r.2.1 r.2.2) = some (l, s6, t6) from HA.out); have HV := aM hv; have HA1 := aM (show F40.go k 3 [a0, a1, wrap64 v] s1 t1 = some (l, s6, t6) from hA); clear hv hA HA
   go_wp2_with (first | (go_at_call 39; (with_reducible refine (F39.calls k g s t 1 v s1 t1 w0 _ ?b1 ?b2 HV.out).mono ?_); (case b1 => exact HI1.out); (case b2 => exact HB1.out); rintro e w1 ⟨rfl, hi, hb, hk⟩; have BH1 := aM (KeepBut.blk hk BH.out HN.out.2.2.1 (by simp)); have BA1 := aM (KeepBut.blk hk BA.out HN.out.2.2.2.1 (by simp)); have hfz := blk_frozen BA1.out 2; have hcl : w1.cell? ⟨w.heap.size + 1, 2, none⟩ = some (.int .i64 0) := cL BA1 2; have HI2 := aM hi; have HK1 := aM (KeepBut.trans HK.out hk (.inl rfl)); have HB2 := aM hb; clear hi hb hk))
   go_roundg 3
   case measure => omega
   case rel => exact ⟨[a0, a1, wrap64 v], s1, t1, 3, by simp, by simp, by first | rfl | go_num, HA1, ⟨blk_far BH1.out (by show w.heap.size ≠ w.heap.size + 1; omega) _⟩, ⟨blk_put BA1.out 2 _ rfl⟩, ⟨IsS122.far HI2.out HN.out.2.1 HN.out.2.2.2.2.1 _⟩, ⟨keep_far HK1.out HN.out.2.2.2.2.2.2 _⟩, ⟨below_set HB2.out HN.out.2.2.2.2.2.1⟩⟩
  ·
   (obtain rfl : gk = 3 := by simp at hlen; omega); (obtain rfl : i = 3 := by simpa using hi); clear hi hlen; obtain ⟨⟨v, s1, t1⟩, hv, hA⟩ := Option.bind_eq_some_iff.mp (show (F39.f k s t 1).bind (fun r => F40.go k 2 ([a0, a1, a2] ++ [wrap64 r.1]) r.2.1 r.2.2) = some (l, s6, t6) from HA.out); have HV := aM hv; have HA1 := aM (show F40.go k 2 [a0, a1, a2, wrap64 v] s1 t1 = some (l, s6, t6) from hA); clear hv hA HA
   go_wp2_with (first | (go_at_call 39; (with_reducible refine (F39.calls k g s t 1 v s1 t1 w0 _ ?b1 ?b2 HV.out).mono ?_); (case b1 => exact HI1.out); (case b2 => exact HB1.out); rintro e w1 ⟨rfl, hi, hb, hk⟩; have BH1 := aM (KeepBut.blk hk BH.out HN.out.2.2.1 (by simp)); have BA1 := aM (KeepBut.blk hk BA.out HN.out.2.2.2.1 (by simp)); have hfz := blk_frozen BA1.out 3; have hcl : w1.cell? ⟨w.heap.size + 1, 3, none⟩ = some (.int .i64 0) := cL BA1 3; have HI2 := aM hi; have HK1 := aM (KeepBut.trans HK.out hk (.inl rfl)); have HB2 := aM hb; clear hi hb hk))
   go_roundg 2
   case measure => omega
   case rel => exact ⟨[a0, a1, a2, wrap64 v], s1, t1, 4, by simp, by simp, by first | rfl | go_num, HA1, ⟨blk_far BH1.out (by show w.heap.size ≠ w.heap.size + 1; omega) _⟩, ⟨blk_put BA1.out 3 _ rfl⟩, ⟨IsS122.far HI2.out HN.out.2.1 HN.out.2.2.2.2.1 _⟩, ⟨keep_far HK1.out HN.out.2.2.2.2.2.2 _⟩, ⟨below_set HB2.out HN.out.2.2.2.2.2.1⟩⟩
  ·
   (obtain rfl : gk = 2 := by simp at hlen; omega); (obtain rfl : i = 4 := by simpa using hi); clear hi hlen; obtain ⟨⟨v, s1, t1⟩, hv, hA⟩ := Option.bind_eq_some_iff.mp (show (F39.f k s t 1).bind (fun r => F40.go k 1 ([a0, a1, a2, a3] ++ [wrap64 r.1]) r.2.1 r.2.2) = some (l, s6, t6) from HA.out); have HV := aM hv; have HA1 := aM (show F40.go k 1 [a0, a1, a2, a3, wrap64 v] s1 t1 = some (l, s6, t6) from hA); clear hv hA HA
   go_wp2_with (first | (go_at_call 39; (with_reducible refine (F39.calls k g s t 1 v s1 t1 w0 _ ?b1 ?b2 HV.out).mono ?_); (case b1 => exact HI1.out); (case b2 => exact HB1.out); rintro e w1 ⟨rfl, hi, hb, hk⟩; have BH1 := aM (KeepBut.blk hk BH.out HN.out.2.2.1 (by simp)); have BA1 := aM (KeepBut.blk hk BA.out HN.out.2.2.2.1 (by simp)); have hfz := blk_frozen BA1.out 4; have hcl : w1.cell? ⟨w.heap.size + 1, 4, none⟩ = some (.int .i64 0) := cL BA1 4; have HI2 := aM hi; have HK1 := aM (KeepBut.trans HK.out hk (.inl rfl)); have HB2 := aM hb; clear hi hb hk))
   go_roundg 1
   case measure => omega
   case rel => exact ⟨[a0, a1, a2, a3, wrap64 v], s1, t1, 5, by simp, by simp, by first | rfl | go_num, HA1, ⟨blk_far BH1.out (by show w.heap.size ≠ w.heap.size + 1; omega) _⟩, ⟨blk_put BA1.out 4 _ rfl⟩, ⟨IsS122.far HI2.out HN.out.2.1 HN.out.2.2.2.2.1 _⟩, ⟨keep_far HK1.out HN.out.2.2.2.2.2.2 _⟩, ⟨below_set HB2.out HN.out.2.2.2.2.2.1⟩⟩
  ·
   (obtain rfl : gk = 1 := by simp at hlen; omega); (obtain rfl : i = 5 := by simpa using hi); clear hi hlen; obtain ⟨⟨v, s1, t1⟩, hv, hA⟩ := Option.bind_eq_some_iff.mp (show (F39.f k s t 1).bind (fun r => F40.go k 0 ([a0, a1, a2, a3, a4] ++ [wrap64 r.1]) r.2.1 r.2.2) = some (l, s6, t6) from HA.out); have HV := aM hv; have HA1 := aM (show F40.go k 0 [a0, a1, a2, a3, a4, wrap64 v] s1 t1 = some (l, s6, t6) from hA); clear hv hA HA
   go_wp2_with (first | (go_at_call 39; (with_reducible refine (F39.calls k g s t 1 v s1 t1 w0 _ ?b1 ?b2 HV.out).mono ?_); (case b1 => exact HI1.out); (case b2 => exact HB1.out); rintro e w1 ⟨rfl, hi, hb, hk⟩; have BH1 := aM (KeepBut.blk hk BH.out HN.out.2.2.1 (by simp)); have BA1 := aM (KeepBut.blk hk BA.out HN.out.2.2.2.1 (by simp)); have hfz := blk_frozen BA1.out 5; have hcl : w1.cell? ⟨w.heap.size + 1, 5, none⟩ = some (.int .i64 0) := cL BA1 5; have HI2 := aM hi; have HK1 := aM (KeepBut.trans HK.out hk (.inl rfl)); have HB2 := aM hb; clear hi hb hk))
   go_roundg 0
   case measure => omega
   case rel => exact ⟨[a0, a1, a2, a3, a4, wrap64 v], s1, t1, 6, by simp, by simp, by first | rfl | go_num, HA1, ⟨blk_far BH1.out (by show w.heap.size ≠ w.heap.size + 1; omega) _⟩, ⟨blk_put BA1.out 5 _ rfl⟩, ⟨IsS122.far HI2.out HN.out.2.1 HN.out.2.2.2.2.1 _⟩, ⟨keep_far HK1.out HN.out.2.2.2.2.2.2 _⟩, ⟨below_set HB2.out HN.out.2.2.2.2.2.1⟩⟩
  ·
   (obtain rfl : gk = 0 := by simp at hlen; omega); (obtain rfl : acc = [] := by cases acc with | nil => rfl | cons x y => (exfalso; simp only [List.length_cons] at hlen; omega)); (obtain rfl : i = 6 := by simpa using hi); clear hi hlen; have hA := HA.out; simp only [F40.go, Option.some.injEq, Prod.mk.injEq] at hA; obtain ⟨rfl, rfl, rfl⟩ := hA; clear HA; have BK260 := aM (show wr.heap[w.heap.size]? = some (.cells #[.int .i64 0, .int .i64 0, .int .i64 0, .int .i64 0, .int .i64 0, .int .i64 0, .int .i64 0] 23 (0, 0)) from BH.out); have BK261 := aM (show wr.heap[w.heap.size + 1]? = some (.cells #[.int .i64 a0, .int .i64 a1, .int .i64 a2, .int .i64 a3, .int .i64 a4, .int .i64 a5] 76 (0, 0)) from BA.out); have HI0 := HI1; have HB := HB1; have GW260 : Aside0 (w.heap.size ≤ w.heap.size) := ⟨by have := HL.out; have := HW.out; omega⟩; have GW261 : Aside0 (w.heap.size ≤ w.heap.size + 1) := ⟨by have := HL.out; have := HW.out; omega⟩; have GE260 : Aside0 (w0.heap.size ≤ w.heap.size) := ⟨by have := HL.out; have := HW.out; omega⟩; have GE261 : Aside0 (w0.heap.size ≤ w.heap.size + 1) := ⟨by have := HL.out; have := HW.out; omega⟩; have NB260_261 : Aside0 (w.heap.size ≠ w.heap.size + 1) := ⟨by have := HL.out; have := HW.out; omega⟩; have NB261_260 : Aside0 (w.heap.size + 1 ≠ w.heap.size) := ⟨by have := HL.out; have := HW.out; omega⟩; have FB0_260 : Aside0 (g < w.heap.size) := ⟨by have := HL.out; have := HW.out; omega⟩; have FB0_261 : Aside0 (g < w.heap.size + 1) := ⟨by have := HL.out; have := HW.out; omega⟩; have NB0_260 : Aside0 (g ≠ w.heap.size) := ⟨by have := HL.out; have := HW.out; omega⟩; have NB0_261 : Aside0 (g ≠ w.heap.size + 1) := ⟨by have := HL.out; have := HW.out; omega⟩; have NB260_0 : Aside0 (w.heap.size ≠ g) := ⟨by have := HL.out; have := HW.out; omega⟩; have NB261_0 : Aside0 (w.heap.size + 1 ≠ g) := ⟨by have := HL.out; have := HW.out; omega⟩; clear BH BA HI1 HB1
   try go_wp2
   replace BK260 := aM (blk_drew BK260.out); replace BK261 := aM (blk_drew BK261.out); replace HI0 := aM (IsS122.drew HI0.out); replace HK := aM (keep_drew HK.out); replace HB := aM (below_drew1 HB.out)
   refine start_ (n := 17) (S := fun w' => w'.cell? ⟨(w.heap.size + 1), 0, none⟩ = some (.int .i64 a0) ∧ w'.cell? ⟨(w.heap.size + 1), 1, none⟩ = some (.int .i64 a1) ∧ w'.cell? ⟨(w.heap.size + 1), 2, none⟩ = some (.int .i64 a2) ∧ w'.cell? ⟨(w.heap.size + 1), 3, none⟩ = some (.int .i64 a3) ∧ w'.cell? ⟨(w.heap.size + 1), 4, none⟩ = some (.int .i64 a4) ∧ w'.cell? ⟨(w.heap.size + 1), 5, none⟩ = some (.int .i64 a5)) (ds := []) (bA 17 0) (by kernel_rfl) rfl (by kernel_rfl) (cx6 BK261.out) (fun hHeld => ?_); refine with_tabW F40.tab7 F40.bits7 (fun HT_ HW_ => ?_)
   generalize wr.drew = w11 at BK260 BK261 HI0 HK HB hHeld ⊢
   refine pT 17 0 14 1 HT_ (h := ?_)
   refine pT 17 2 16 5 HT_ (h := ?_)
   refine pT 17 4 18 21 HT_ (h := ?_)
   refine pT 17 6 20 85 HT_ (h := ?_)
   refine pT 17 8 22 341 HT_ (h := ?_)
   refine pT 17 10 24 1365 HT_ (h := ?_)
   refine pT 17 12 26 5461 HT_ (h := ?_)
   refine tT 17 1 15 5463 HT_ HW_ hHeld (h := ?_)
   refine tT 17 3 17 5471 HT_ HW_ hHeld (h := ?_)
   refine tT 17 5 19 5503 HT_ HW_ hHeld (h := ?_)
   refine tT 17 7 21 5631 HT_ HW_ hHeld (h := ?_)
   refine tT 17 9 23 6143 HT_ HW_ hHeld (h := ?_)
   refine tT 17 11 25 8191 HT_ HW_ hHeld (h := ?_)
   refine one_ (i := 13) (N := some 27) (bA 17 16383) rfl rfl (one_of HT_.out (by kernel_rfl)) (by decide) (fun K hK => ?_)
   refine gA Try.func39 #[.pointer (some ⟨g, 0, none⟩), .int .i64 2] (h := ?_)
   with_reducible refine (F39.calls k g s t 2 q1 q2 q3 w0 _ ?side1 ?side2 H7.out).mono ?_
   (case side1 => with_reducible exact HI0.out); (case side2 => with_reducible exact HB.out); rintro e w12 ⟨rfl, hi, hb, hk⟩
   refine ⟨_, rfl, ?_⟩
   replace BK260 := aM (KeepBut.blk hk (g' := (w.heap.size)) (o := .cells #[.int .i64 0, .int .i64 0, .int .i64 0, .int .i64 0, .int .i64 0, .int .i64 0, .int .i64 0] 23 (0, 0)) (bK BK260.out) NB260_0.out (by simp)); replace BK261 := aM (KeepBut.blk hk (g' := (w.heap.size + 1)) (o := .cells #[.int .i64 a0, .int .i64 a1, .int .i64 a2, .int .i64 a3, .int .i64 a4, .int .i64 a5] 76 (0, 0)) (bK BK261.out) NB261_0.out (by simp)); replace HK := aM (KeepBut.trans (by repeat (first | (with_reducible first | exact HK.out | apply KeepBut.set_ | apply keep_drewN | apply keep_drew | apply keep_alloc | refine keep_far ?_ GW260.out _ | refine keep_far ?_ GW261.out _) | exact HK.out)) hk (.inl rfl)); replace HB := aM (hb); replace HI0 := aM (hi); (try clear hb); (try clear hb2); (try clear hk); (try clear hi)
   refine hK.out _ _ (cx6 BK261.out) (fun hHeld => ?_)
   clear hK K
   refine nT 27 (h := ?_)
   refine pT 17 14 28 32767 HT_ (h := ?_)
   refine pT 17 15 29 65535 HT_ (h := ?_)
   refine one_ (i := 16) (N := none) (bA 17 131071) rfl rfl (one_of HT_.out (by kernel_rfl)) (by decide) (fun K hK => ?_)
   have hs13 : w12.cell? ⟨(w.heap.size), 0, none⟩ = some (.int .i64 0) := cL BK260 0; have hfs13 := blk_frozen BK260.out 0; have hns13_1 := NB261_260.out; have hms13_1 := NB260_261.out; have hs14 : w12.cell? ⟨(w.heap.size), 1, none⟩ = some (.int .i64 0) := cL BK260 1; have hfs14 := blk_frozen BK260.out 1; have hns14_1 := NB261_260.out; have hms14_1 := NB260_261.out; have hs15 : w12.cell? ⟨(w.heap.size), 2, none⟩ = some (.int .i64 0) := cL BK260 2; have hfs15 := blk_frozen BK260.out 2; have hns15_1 := NB261_260.out; have hms15_1 := NB260_261.out; have hs16 : w12.cell? ⟨(w.heap.size), 3, none⟩ = some (.int .i64 0) := cL BK260 3; have hfs16 := blk_frozen BK260.out 3; have hns16_1 := NB261_260.out; have hms16_1 := NB260_261.out; have hs17 : w12.cell? ⟨(w.heap.size), 4, none⟩ = some (.int .i64 0) := cL BK260 4; have hfs17 := blk_frozen BK260.out 4; have hns17_1 := NB261_260.out; have hms17_1 := NB260_261.out; have hs18 : w12.cell? ⟨(w.heap.size), 5, none⟩ = some (.int .i64 0) := cL BK260 5; have hfs18 := blk_frozen BK260.out 5; have hns18_1 := NB261_260.out; have hms18_1 := NB260_261.out; have hs19 : w12.cell? ⟨(w.heap.size), 6, none⟩ = some (.int .i64 0) := cL BK260 6; have hfs19 := blk_frozen BK260.out 6; have hns19_1 := NB261_260.out; have hms19_1 := NB260_261.out
   refine skip_ (w1 := ?_) (by rfl) rfl ?_ ?_
   rotate_left
   ·
    go_simp
    rfl
   refine hK.out _ _ ⟨(cF NB261_260 hHeld.1), (cF NB261_260 hHeld.2.1), (cF NB261_260 hHeld.2.2.1), (cF NB261_260 hHeld.2.2.2.1), (cF NB261_260 hHeld.2.2.2.2.1), (cF NB261_260 hHeld.2.2.2.2.2)⟩ (fun hHeld => ?_)
   clear hK K
   refine done_ (done_of HT_.out (by kernel_rfl)) ?_
   try go_wp2
   refine bodyPost_ret (results_cell_row rfl _ _ (w.heap.size) 23 #[.int .i64 a0, .int .i64 a1, .int .i64 a2, .int .i64 a3, .int .i64 a4, .int .i64 a5, .int .i64 (wrap64 (q1))] (0, 0) _ rfl (blk_put (blk_put (blk_put (blk_put (blk_put (blk_put (blk_put BK260.out 0 _ rfl) 1 _ rfl) 2 _ rfl) 3 _ rfl) 4 _ rfl) 5 _ rfl) 6 _ rfl) Try.underlying23 rfl (by kernel_rfl)) rfl ?_
   exact ⟨rfl, by repeat (first | (with_reducible first | exact HI0.out | apply IsS122.alloc | apply IsS122.drewN | apply IsS122.drew | apply IsS122.set_1 | refine IsS122.far ?_ NB0_260.out FB0_260.out _ | refine IsS122.far ?_ NB0_261.out FB0_261.out _) | exact HI0.out), by repeat (first | (with_reducible first | exact HB.out | apply below_alloc | apply pw_below_drewN | apply below_drew1 | refine below_set ?_ (IsS122.ge HI0.out) | refine below_set ?_ GE260.out | refine below_set ?_ GE261.out) | exact HB.out), by repeat (first | (with_reducible first | exact HK.out | apply KeepBut.set_ | apply keep_drewN | apply keep_drew | apply keep_alloc | refine keep_far ?_ GW260.out _ | refine keep_far ?_ GW261.out _) | exact HK.out)⟩

def F41.f (s0_0 : List Int) (s0_1 : Bool) : Option (Bool × List Int × Bool) := some (s0_1, s0_0, s0_1)
theorem F41.calls (g : Nat) (s0_0 : List Int) (s0_1 : Bool) (r1 : Bool) (r2 : List Int) (r3 : Bool) (w0 w : World) (hI : IsS122 w0 w g s0_0 s0_1) (hB : Below w0.heap.size w0 w) (h : F41.f s0_0 s0_1 = some (r1, r2, r3)) :
  Calls Try.prog 41 #[.pointer (some ⟨g, 0, none⟩)] w fun e w' => e = .returned (.bool r1) ∧ IsS122 w0 w' g r2 r3 ∧ Below w0.heap.size w0 w' ∧ KeepBut w w' g none := by
 have HI0 := aM hI; have HK := aM (KeepBut.refl w g none); have HL := aM hB.size; clear hI; have HW0 := aM hB.size; have HB := aM hB; clear hB; have H := h; clear h; unfold F41.f at H; simp only [Option.some.injEq, Prod.mk.injEq] at H; obtain ⟨rfl, rfl, rfl⟩ := H; obtain ⟨ASz2_0, cSz2_0, HGz2, hgz2, HSz2_0⟩ := HI0.out; have hcz2_0 := cellS122_0 HGz2; have hcz2_1 := cellS122_1 HGz2; have hfz2_0 := blk_frozen HGz2 0; have hfz2_1 := blk_frozen HGz2 1; clear HGz2 hgz2
 go_enter Try.func41, Try.ntmps41
 go_wp2
 go_ret
 exact ⟨rfl, HI0.out, HB.out, HK.out⟩

end Go.Proofs.Ytekenaclmplocaa.PPageParses
