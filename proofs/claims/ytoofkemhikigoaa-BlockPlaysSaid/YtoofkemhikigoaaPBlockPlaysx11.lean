-- Written by a program of this session (wip/tools/mkprint.py over the kit's print).
import Derived.Test.YtoofkemhikigoaaPBlockPlaysx0
import Derived.Test.YtoofkemhikigoaaPBlockPlaysx6
import Derived.Test.YtoofkemhikigoaaPBlockPlaysx7
import Derived.Test.YtoofkemhikigoaaPBlockPlaysx8
import Derived.Test.YtoofkemhikigoaaPBlockPlaysx9
import Derived.Test.YtoofkemhikigoaaPBlockPlaysx10
namespace Go.Proofs.Ytoofkemhikigoaa.PBlockPlays
open Go.RowKit Go.Proofs.YtoofkemhikigoaaW.PrintWords Go.Proofs.YtoofkemhikigoaaW.PrintLast Go.Proofs.YtoofkemhikigoaaW.PrintMore
attribute [local go_sem] max2_int min2_int max_two min_two max_three min_three max_four min_four   -- for this text's walks alone
set_option linter.unusedVariables false
set_option linter.unusedSimpArgs false

/-! ### credenzalaw11_play_step: function 30 -/
def pst28.T28 : Bool × List (List Nat × List Nat) := (true, [([], []), ([0], [0]), ([1], [1]), ([2], [2]), ([3, 2], [2, 3]), ([4, 2], [2, 4]), ([2, 5], [2, 5]), ([6, 2], [6]), ([7], [7]), ([8, 7], [7, 8]), ([7], [7]), ([7], [7]), ([11, 7], [7, 11]), ([10, 12, 7], [7, 10, 12]), ([13, 7], [7, 13]), ([14, 7], [7, 14]), ([9, 15, 7], [7, 9, 15]), ([7, 16], [7, 16])])
def pst28.B28 : List Nat := [0, 1, 3, 7, 15, 31, 63, 127, 255, 511, 255, 255, 2303, 7423, 15615, 31999, 65535, 131071]
theorem pst28.tab28 : rtab .any (opsOf Try.f30 28) = pst28.T28 := by kernel_rfl
theorem pst28.bits28 : waitsOk pst28.T28.2 pst28.B28 = true := by kernel_rfl
def pst30.T30 : Bool × List (List Nat × List Nat) := (true, [([], []), ([0], [0]), ([1], [1]), ([2], [2]), ([3, 2], [2, 3]), ([2, 4], [2, 4]), ([5, 2], [5]), ([6], [6]), ([7, 6, 6], [6, 7]), ([8, 6], [6, 8]), ([6], [6]), ([10, 6], [6, 10]), ([11, 6], [6, 11]), ([12, 6], [6, 12]), ([13, 6], [6, 13]), ([6], [6]), ([6], [6]), ([16, 6], [6, 16]), ([15, 17, 6], [6, 15, 17]), ([18, 6], [6, 18]), ([6], [6]), ([20, 6], [6, 20]), ([19, 21, 6], [6, 19, 21]), ([22, 6], [6, 22]), ([14, 23, 6], [6, 14, 23]), ([24, 6], [6, 24]), ([9, 25, 6], [6, 9, 25]), ([6, 26], [6, 26]), ([27, 8, 0, 1, 2, 3, 4, 5, 6, 7, 8, 9, 10, 11, 12, 13, 14, 15, 16, 17, 18, 19, 20, 21, 22, 23, 24, 25, 26, 27], [27])])
def pst30.B30 : List Nat := [0, 1, 3, 7, 15, 31, 63, 127, 255, 511, 127, 1151, 3199, 7295, 15487, 127, 127, 65663, 229503, 491647, 127, 1048703, 4161663, 8355967, 16776319, 33553535, 67108863, 134217727, 268435455]
theorem pst30.tab30 : rtab .any (opsOf Try.f30 30) = pst30.T30 := by kernel_rfl
theorem pst30.bits30 : waitsOk pst30.T30.2 pst30.B30 = true := by kernel_rfl
theorem PgAt.drewP {W : World} {b : Nat} {m : Int} (h : PgAt W b m) : PgAt W.drew b m := h
section
variable {w0 W W' w : World} {own : Nat → Nat} {pb g s : Nat} {L L' : List Slot} {f f' : Int} {v0 v1 u0 u1 : Value} {l0 l1 m0 m1 : List Int} {x0 x1 ca cr av av1 : Value} {TA : List Nat} {rv rv1 : Value} {D : List (List (List Int))} {TS : List Tab} {cv cv1 : Value} {cl cl1 : List (List Int)} {E : List (Nat × Array Value)}
set_option maxHeartbeats 8000000 in
set_option maxRecDepth 100000 in
theorem stepAtNeg.calls (h : PlayAt w0 w pb g s L f TS) (i : Nat) (t : Tab) (hi : TS[i]? = some t) (Tb : Int) (hTb : (if Tb < 0 then 0 else Tb).tmod (TS.length : Int) = (i : Int)) (hT6 : TS.length ≤ 6) (Row NN : Int) (KK : Int) (hK : ¬ KK = 1 ∧ ¬ KK = 2 ∧ ¬ KK = 3) (hR : ¬ 0 ≤ Row) :
  Calls Try.prog 30 #[.pointer (some ⟨pb, 0, none⟩), .agg #[.int .i64 KK, .int .i64 Tb, .int .i64 Row, .int .i64 NN]] w fun e w' => e = .returned (.bool true) ∧ PlayAt w0 w' pb g s L f TS := by
 have HI := aM hi
 have HT6 := aM hT6
 obtain ⟨own, v0, v1, av, rv, h⟩ := h
 obtain ⟨Aa, ac, rfl⟩ := Kd.R_slice h.A
 obtain ⟨Ar, rc, rfl⟩ := Kd.R_slice h.R
 obtain ⟨nT, hnT⟩ : ∃ n, TS.length = n := ⟨_, rfl⟩
 rw [show (List.map (fun b => [Value.pointer (some ⟨b, 0, none⟩)]) (TS.map Tab.tb)).length = nT by rw [List.length_map, List.length_map]; exact hnT, show (TS.map Tab.rows).length = nT by rw [List.length_map]; exact hnT] at h
 rw [hnT] at hTb
 have HTB := aM hTb
 have HNT := aM hnT
 have hin := (List.getElem?_eq_some_iff.mp hi).1
 have HTA : Aside0 ((TS.map Tab.tb)[i]? = some t.tb) := ⟨by rw [List.getElem?_map, hi]; rfl⟩
 obtain ⟨ab, e1, -, -⟩ := h.ptr rfl HTA.out
 obtain ⟨rb, A_, c_, e2, -, -, -⟩ := h.take rfl (show (TS.map Tab.rows)[i]? = some t.rows by rw [List.getElem?_map, hi]; rfl)
 subst e1 e2
 have hn0 : (nT = 0) = False := eq_false (by omega)
 have q0 : ((0 : Int) ≤ (i : Int)) = True := eq_true (by omega)
 have q1 : ((i : Int) < (nT : Int)) = True := eq_true (by omega)
 have q2 : (i < nT) = True := eq_true (by omega)
 have T := aM h
 have HT := aM (h.ht i t hi)
 have HN16 := aM (h.ht i t hi).hn
 have hu63 := Try.underlying63
 have hu57 := Try.underlying57
 have hu30 := Try.underlying30
 have k1 : (KK == 1) = false := beq_eq_false_iff_ne.mpr hK.1
 have k2 : (KK == 2) = false := beq_eq_false_iff_ne.mpr hK.2.1
 have k3 : (KK == 3) = false := beq_eq_false_iff_ne.mpr hK.2.2
 clear hK
 have d1 : decide (0 ≤ Row) = false := decide_eq_false hR
 have HR := aM (show Row < 0 by omega)
 clear hR
 clear h hi hTb hT6 hnT hin A_ c_ HT
 go_enter Try.func30, Try.ntmps30
 go_upto_region 1 with (((with_reducible refine gate_dst (N := 3) rfl ?_); refine box_event ?hg (N := 3) ?hd (cs := #[.int .i64 KK, .int .i64 Tb, .int .i64 Row, .int .i64 NN]) (t := 57) ?hr ?_; (case hd => rfl); (case hg => rfl); (case hr => first | (go_simp; done) | (go_simp; rfl)); intro bo hg_ wa hbox hb; replace T := aM ((T.out.below hb).box hbox); have hz := T.out.cells; have hzb := T.out.boxed; clear hbox hb hg_))
 clear hz hzb
 replace T := aM (T.out.drew)
 refine start_ (n := 10) (S := fun w' => w'.cell? ⟨bo, 1, none⟩ = some (.int .i64 Tb) ∧ w'.cell? ⟨pb, 3, none⟩ = some (.slice (some ⟨ab, 0, none⟩) nT ac)) (ds := []) #[false, false, false, false, false, false, false, false, false, false] (by kernel_rfl) rfl rfl ⟨T.out.boxed.2.1, T.out.cells.2.2.2.1⟩ (fun hHeld => ?_); refine with_tabW pst1.tab1 pst1.bits1 (fun HT_ HW_ => ?_)
 generalize wa.drew = wb at T hHeld ⊢
 refine pure_ (i := 0) (N := some 15) (v := ?_) (a' := ?_) #[true, false, false, false, false, false, false, false, false, false] rfl rfl (any_of HT_.out (by kernel_rfl)) (fun _ _ _ h => h) (Or.inl ⟨by rfl, ?_⟩) ?_ ?_
 rotate_left; exact pI; rotate_left; exact pS
 refine pure_ (i := 3) (N := some 18) (v := ?_) (a' := ?_) #[true, false, false, true, false, false, false, false, false, false] rfl rfl (any_of HT_.out (by kernel_rfl)) (fun _ _ _ h => h) (Or.inl ⟨by rfl, ?_⟩) ?_ ?_
 rotate_left; exact pI; rotate_left; exact pS
 refine pure_ (i := 4) (N := some 19) (v := ?_) (a' := ?_) #[true, false, false, true, true, false, false, false, false, false] rfl rfl (any_of HT_.out (by kernel_rfl)) (fun _ _ _ h => h) (Or.inl ⟨by rfl, ?_⟩) ?_ ?_
 rotate_left; exact pI; rotate_left; exact pS
 refine pure_ (i := 5) (N := some 20) (v := ?_) (a' := ?_) #[true, false, false, true, true, true, false, false, false, false] rfl rfl (any_of HT_.out (by kernel_rfl)) (fun _ _ _ h => h) (Or.inl ⟨by rfl, ?_⟩) ?_ ?_
 rotate_left; exact pI; rotate_left; exact pS
 refine take_ (i := 1) (N := some 16) (v := ?_) (a' := ?_) #[true, true, false, true, true, true, false, false, false, false] rfl rfl (take_ofW HT_.out HW_.out (by kernel_rfl)) (fun _ _ _ h => h) (Or.inl ⟨by rfl, ?_⟩) hHeld ?_ ?_
 rotate_left
 ·
  rintro w' ⟨s0, s1⟩
  go_simp
  with_reducible rfl
 rotate_left
 ·
  exact pS
 refine pure_ (i := 2) (N := some 17) (v := ?_) (a' := ?_) #[true, true, true, true, true, true, false, false, false, false] rfl rfl (any_of HT_.out (by kernel_rfl)) (fun _ _ _ h => h) (Or.inl ⟨by rfl, ?_⟩) ?_ ?_
 rotate_left; exact pI; rotate_left; exact pS
 refine take_ (i := 6) (N := some 21) (v := ?_) (a' := ?_) #[true, true, true, true, true, true, true, false, false, false] rfl rfl (take_ofW HT_.out HW_.out (by kernel_rfl)) (fun _ _ _ h => h) (Or.inl ⟨by rfl, ?_⟩) hHeld ?_ ?_
 rotate_left
 ·
  rintro w' ⟨s0, s1⟩
  go_simp
  with_reducible rfl
 rotate_left
 ·
  exact pS
 refine pure_ (i := 7) (N := some 22) (v := ?_) (a' := ?_) #[true, true, true, true, true, true, true, true, false, false] rfl rfl (any_of HT_.out (by kernel_rfl)) (fun _ _ _ h => h) (Or.inl ⟨by rfl, ?_⟩) ?_ ?_
 rotate_left; exact pI; rotate_left; exact pS
 refine pure_ (i := 8) (N := some 23) (v := ?_) (a' := ?_) #[true, true, true, true, true, true, true, true, true, false] rfl rfl (any_of HT_.out (by kernel_rfl)) (fun _ _ _ h => h) (Or.inl ⟨by rfl, ?_⟩) ?_ ?_
 rotate_left; exact pI; rotate_left; exact pS
 refine pure_ (i := 9) (N := some 5) (v := ?_) (a' := ?_) #[true, true, true, true, true, true, true, true, true, true] rfl rfl (any_of HT_.out (by kernel_rfl)) (fun _ _ _ h => h) (Or.inl ⟨by rfl, ?_⟩) ?_ ?_
 rotate_left; exact pI; rotate_left; exact pS
 refine done_ (done_of HT_.out (by kernel_rfl)) ?_
 generalize (if Tb < 0 then (0 : Int) else Tb) = mx at HTB ⊢
 go_upto_region 2 with (fail)
 rw [HTB.out]
 obtain ⟨rb2, Ac, cc, er, -, hcr, hT⟩ := T.out.take rfl (show (TS.map Tab.rows)[i]? = some t.rows by rw [List.getElem?_map, HI.out]; rfl)
 obtain rfl : rb = rb2 := by injection er with er; injection er
 replace T := aM hT
 have HCR := aM hcr
 clear hcr hT er
 replace T := aM (T.out.drew)
 replace HCR := aM (cell_dr HCR.out)
 refine start_ (n := 16) (S := fun w' => w'.cell? ⟨pb, 3, none⟩ = some (.slice (some ⟨ab, 0, none⟩) nT ac) ∧ w'.cell? ⟨pb, 4, none⟩ = some (.slice (some ⟨rb, 0, none⟩) nT rc) ∧ w'.cell? ⟨ab, i, none⟩ = some (.pointer (some ⟨t.tb, 0, none⟩)) ∧ w'.cell? ⟨rb, i, none⟩ = some (.slice Ac t.rows.length cc)) (ds := []) #[false, false, false, false, false, false, false, false, false, false, false, false, false, false, false, false] (by kernel_rfl) rfl rfl ⟨T.out.cells.2.2.2.1, T.out.cells.2.2.2.2.1, T.out.cellA rfl HTA.out, HCR.out⟩ (fun hHeld => ?_); refine with_tabW pst2.tab2 pst2.bits2 (fun HT_ HW_ => ?_)
 generalize wb.drew = wc at T HCR hHeld ⊢
 refine pure_ (i := 0) (N := some 24) (v := ?_) (a' := ?_) #[true, false, false, false, false, false, false, false, false, false, false, false, false, false, false, false] rfl rfl (any_of HT_.out (by kernel_rfl)) (fun _ _ _ h => h) (Or.inl ⟨by rfl, ?_⟩) ?_ ?_
 rotate_left; exact pI; rotate_left; exact pS
 refine pure_ (i := 1) (N := some 25) (v := ?_) (a' := ?_) #[true, true, false, false, false, false, false, false, false, false, false, false, false, false, false, false] rfl rfl (any_of HT_.out (by kernel_rfl)) (fun _ _ _ h => h) (Or.inl ⟨by rfl, ?_⟩) ?_ ?_
 rotate_left; exact pI; rotate_left; exact pS
 refine pure_ (i := 2) (N := some 26) (v := ?_) (a' := ?_) #[true, true, true, false, false, false, false, false, false, false, false, false, false, false, false, false] rfl rfl (any_of HT_.out (by kernel_rfl)) (fun _ _ _ h => h) (Or.inl ⟨by rfl, ?_⟩) ?_ ?_
 rotate_left; exact pI; rotate_left; exact pS
 refine pure_ (i := 4) (N := some 28) (v := ?_) (a' := ?_) #[true, true, true, false, true, false, false, false, false, false, false, false, false, false, false, false] rfl rfl (any_of HT_.out (by kernel_rfl)) (fun _ _ _ h => h) (Or.inl ⟨by rfl, ?_⟩) ?_ ?_
 rotate_left; exact pI; rotate_left; exact pS
 refine pure_ (i := 7) (N := some 31) (v := ?_) (a' := ?_) #[true, true, true, false, true, false, false, true, false, false, false, false, false, false, false, false] rfl rfl (any_of HT_.out (by kernel_rfl)) (fun _ _ _ h => h) (Or.inl ⟨by rfl, ?_⟩) ?_ ?_
 rotate_left; exact pI; rotate_left; exact pS
 refine pure_ (i := 8) (N := some 32) (v := ?_) (a' := ?_) #[true, true, true, false, true, false, false, true, true, false, false, false, false, false, false, false] rfl rfl (any_of HT_.out (by kernel_rfl)) (fun _ _ _ h => h) (Or.inl ⟨by rfl, ?_⟩) ?_ ?_
 rotate_left; exact pI; rotate_left; exact pS
 refine pure_ (i := 9) (N := some 33) (v := ?_) (a' := ?_) #[true, true, true, false, true, false, false, true, true, true, false, false, false, false, false, false] rfl rfl (any_of HT_.out (by kernel_rfl)) (fun _ _ _ h => h) (Or.inl ⟨by rfl, ?_⟩) ?_ ?_
 rotate_left; exact pI; rotate_left; exact pS
 refine pure_ (i := 11) (N := some 35) (v := ?_) (a' := ?_) #[true, true, true, false, true, false, false, true, true, true, false, true, false, false, false, false] rfl rfl (any_of HT_.out (by kernel_rfl)) (fun _ _ _ h => h) (Or.inl ⟨by rfl, ?_⟩) ?_ ?_
 rotate_left; exact pI; rotate_left; exact pS
 refine take_ (i := 3) (N := some 27) (v := ?_) (a' := ?_) #[true, true, true, true, true, false, false, true, true, true, false, true, false, false, false, false] rfl rfl (take_ofW HT_.out HW_.out (by kernel_rfl)) (fun _ _ _ h => h) (Or.inl ⟨by rfl, ?_⟩) hHeld ?_ ?_
 rotate_left
 ·
  rintro w' ⟨s0, s1, s2, s3⟩
  go_simp
  with_reducible rfl
 rotate_left
 ·
  exact pS
 refine pure_ (i := 5) (N := some 29) (v := ?_) (a' := ?_) #[true, true, true, true, true, true, false, true, true, true, false, true, false, false, false, false] rfl rfl (any_of HT_.out (by kernel_rfl)) (fun _ _ _ h => h) (Or.inl ⟨by rfl, ?_⟩) ?_ ?_
 rotate_left; exact pI; rotate_left; exact pS
 refine take_ (i := 6) (N := some 30) (v := ?_) (a' := ?_) #[true, true, true, true, true, true, true, true, true, true, false, true, false, false, false, false] rfl rfl (take_ofW HT_.out HW_.out (by kernel_rfl)) (fun _ _ _ h => h) (Or.inl ⟨by rfl, ?_⟩) hHeld ?_ ?_
 rotate_left
 ·
  rintro w' ⟨s0, s1, s2, s3⟩
  go_simp
  with_reducible rfl
 rotate_left
 ·
  exact pS
 refine pure_ (i := 14) (N := some 6) (v := ?_) (a' := ?_) #[true, true, true, true, true, true, true, true, true, true, false, true, false, false, true, false] rfl rfl (any_of HT_.out (by kernel_rfl)) (fun _ _ _ h => h) (Or.inl ⟨by rfl, ?_⟩) ?_ ?_
 rotate_left; exact pI; rotate_left; exact pS
 refine take_ (i := 10) (N := some 34) (v := ?_) (a' := ?_) #[true, true, true, true, true, true, true, true, true, true, true, true, false, false, true, false] rfl rfl (take_ofW HT_.out HW_.out (by kernel_rfl)) (fun _ _ _ h => h) (Or.inl ⟨by rfl, ?_⟩) hHeld ?_ ?_
 rotate_left
 ·
  rintro w' ⟨s0, s1, s2, s3⟩
  go_simp
  with_reducible rfl
 rotate_left
 ·
  exact pS
 refine pure_ (i := 12) (N := some 36) (v := ?_) (a' := ?_) #[true, true, true, true, true, true, true, true, true, true, true, true, true, false, true, false] rfl rfl (any_of HT_.out (by kernel_rfl)) (fun _ _ _ h => h) (Or.inl ⟨by rfl, ?_⟩) ?_ ?_
 rotate_left; exact pI; rotate_left; exact pS
 refine take_ (i := 13) (N := some 37) (v := ?_) (a' := ?_) #[true, true, true, true, true, true, true, true, true, true, true, true, true, true, true, false] rfl rfl (take_ofW HT_.out HW_.out (by kernel_rfl)) (fun _ _ _ h => h) (Or.inl ⟨by rfl, ?_⟩) hHeld ?_ ?_
 rotate_left
 ·
  rintro w' ⟨s0, s1, s2, s3⟩
  go_simp
  with_reducible rfl
 rotate_left
 ·
  exact pS
 refine pure_ (i := 15) (N := some 7) (v := ?_) (a' := ?_) #[true, true, true, true, true, true, true, true, true, true, true, true, true, true, true, true] rfl rfl (any_of HT_.out (by kernel_rfl)) (fun _ _ _ h => h) (Or.inl ⟨by rfl, ?_⟩) ?_ ?_
 rotate_left; exact pI; rotate_left; exact pS
 refine done_ (done_of HT_.out (by kernel_rfl)) ?_
 have hz := T.out.cells
 have hzb := T.out.boxed
 go_upto_region 28 with (go_at_call 37; (refine (blockAtNo.calls (T.out.ht i t HI.out) Row (.inl HR.out) NN).mono ?_); rintro e wd ⟨rfl, rfl⟩; skip)
 clear hz hzb
 replace T := aM (T.out.drew)
 refine start_ (n := 18) (S := fun w' => True) (ds := []) #[false, false, false, false, false, false, false, false, false, false, false, false, false, false, false, false, false, false] (by kernel_rfl) rfl rfl trivial (fun hHeld => ?_); refine with_tabW pst28.tab28 pst28.bits28 (fun HT_ HW_ => ?_)
 generalize wc.drew = wf at T hHeld ⊢
 refine pure_ (i := 0) (N := some 171) (v := ?_) (a' := ?_) #[true, false, false, false, false, false, false, false, false, false, false, false, false, false, false, false, false, false] rfl rfl (any_of HT_.out (by kernel_rfl)) (fun _ _ _ h => h) (Or.inl ⟨by rfl, ?_⟩) ?_ ?_
 rotate_left; exact pI; rotate_left; exact pS
 refine pure_ (i := 1) (N := some 172) (v := ?_) (a' := ?_) #[true, true, false, false, false, false, false, false, false, false, false, false, false, false, false, false, false, false] rfl rfl (any_of HT_.out (by kernel_rfl)) (fun _ _ _ h => h) (Or.inl ⟨by rfl, ?_⟩) ?_ ?_
 rotate_left; exact pI; rotate_left; exact pS
 refine pure_ (i := 2) (N := some 173) (v := ?_) (a' := ?_) #[true, true, true, false, false, false, false, false, false, false, false, false, false, false, false, false, false, false] rfl rfl (any_of HT_.out (by kernel_rfl)) (fun _ _ _ h => h) (Or.inl ⟨by rfl, ?_⟩) ?_ ?_
 rotate_left; exact pI; rotate_left; exact pS
 refine pure_ (i := 3) (N := some 174) (v := undef) (a' := ?_) #[true, true, true, true, false, false, false, false, false, false, false, false, false, false, false, false, false, false] rfl rfl (any_of HT_.out (by kernel_rfl)) (fun _ _ _ h => h) (Or.inr ⟨by rfl, rfl⟩) ?_ ?_
 rotate_left
 ·
  exact pS
 refine pure_ (i := 4) (N := some 175) (v := undef) (a' := ?_) #[true, true, true, true, true, false, false, false, false, false, false, false, false, false, false, false, false, false] rfl rfl (any_of HT_.out (by kernel_rfl)) (fun _ _ _ h => h) (Or.inr ⟨by rfl, rfl⟩) ?_ ?_
 rotate_left
 ·
  exact pS
 refine pure_ (i := 5) (N := some 176) (v := undef) (a' := ?_) #[true, true, true, true, true, true, false, false, false, false, false, false, false, false, false, false, false, false] rfl rfl (any_of HT_.out (by kernel_rfl)) (fun _ _ _ h => h) (Or.inr ⟨by rfl, rfl⟩) ?_ ?_
 rotate_left
 ·
  exact pS
 refine pure_ (i := 6) (N := some 177) (v := ?_) (a' := ?_) #[true, true, true, true, true, true, true, false, false, false, false, false, false, false, false, false, false, false] rfl rfl (any_of HT_.out (by kernel_rfl)) (fun _ _ _ h => h) (Or.inl ⟨by rfl, ?_⟩) ?_ ?_
 rotate_left; exact pI; rotate_left; exact pS
 refine pure_ (i := 7) (N := some 178) (v := ?_) (a' := ?_) #[true, true, true, true, true, true, true, true, false, false, false, false, false, false, false, false, false, false] rfl rfl (any_of HT_.out (by kernel_rfl)) (fun _ _ _ h => h) (Or.inl ⟨by rfl, ?_⟩) ?_ ?_
 rotate_left; exact pI; rotate_left; exact pS
 refine pure_ (i := 8) (N := some 179) (v := undef) (a' := ?_) #[true, true, true, true, true, true, true, true, true, false, false, false, false, false, false, false, false, false] rfl rfl (any_of HT_.out (by kernel_rfl)) (fun _ _ _ h => h) (Or.inr ⟨by rfl, rfl⟩) ?_ ?_
 rotate_left
 ·
  exact pS
 refine pure_ (i := 9) (N := some 180) (v := undef) (a' := ?_) #[true, true, true, true, true, true, true, true, true, true, false, false, false, false, false, false, false, false] rfl rfl (any_of HT_.out (by kernel_rfl)) (fun _ _ _ h => h) (Or.inr ⟨by rfl, rfl⟩) ?_ ?_
 rotate_left
 ·
  exact pS
 refine pure_ (i := 10) (N := some 181) (v := undef) (a' := ?_) #[true, true, true, true, true, true, true, true, true, true, true, false, false, false, false, false, false, false] rfl rfl (any_of HT_.out (by kernel_rfl)) (fun _ _ _ h => h) (Or.inr ⟨by rfl, rfl⟩) ?_ ?_
 rotate_left
 ·
  exact pS
 refine pure_ (i := 11) (N := some 182) (v := undef) (a' := ?_) #[true, true, true, true, true, true, true, true, true, true, true, true, false, false, false, false, false, false] rfl rfl (any_of HT_.out (by kernel_rfl)) (fun _ _ _ h => h) (Or.inr ⟨by rfl, rfl⟩) ?_ ?_
 rotate_left
 ·
  exact pS
 refine pure_ (i := 12) (N := some 183) (v := undef) (a' := ?_) #[true, true, true, true, true, true, true, true, true, true, true, true, true, false, false, false, false, false] rfl rfl (any_of HT_.out (by kernel_rfl)) (fun _ _ _ h => h) (Or.inr ⟨by rfl, rfl⟩) ?_ ?_
 rotate_left
 ·
  exact pS
 refine pure_ (i := 13) (N := some 184) (v := undef) (a' := ?_) #[true, true, true, true, true, true, true, true, true, true, true, true, true, true, false, false, false, false] rfl rfl (any_of HT_.out (by kernel_rfl)) (fun _ _ _ h => h) (Or.inr ⟨by rfl, rfl⟩) ?_ ?_
 rotate_left
 ·
  exact pS
 refine pure_ (i := 14) (N := some 185) (v := undef) (a' := ?_) #[true, true, true, true, true, true, true, true, true, true, true, true, true, true, true, false, false, false] rfl rfl (any_of HT_.out (by kernel_rfl)) (fun _ _ _ h => h) (Or.inr ⟨by rfl, rfl⟩) ?_ ?_
 rotate_left
 ·
  exact pS
 refine pure_ (i := 15) (N := some 186) (v := undef) (a' := ?_) #[true, true, true, true, true, true, true, true, true, true, true, true, true, true, true, true, false, false] rfl rfl (any_of HT_.out (by kernel_rfl)) (fun _ _ _ h => h) (Or.inr ⟨by rfl, rfl⟩) ?_ ?_
 rotate_left
 ·
  exact pS
 refine pure_ (i := 16) (N := some 187) (v := undef) (a' := ?_) #[true, true, true, true, true, true, true, true, true, true, true, true, true, true, true, true, true, false] rfl rfl (any_of HT_.out (by kernel_rfl)) (fun _ _ _ h => h) (Or.inr ⟨by rfl, rfl⟩) ?_ ?_
 rotate_left
 ·
  exact pS
 refine pure_ (i := 17) (N := some 188) (v := ?_) (a' := ?_) #[true, true, true, true, true, true, true, true, true, true, true, true, true, true, true, true, true, true] rfl rfl (any_of HT_.out (by kernel_rfl)) (fun _ _ _ h => h) (Or.inl ⟨by rfl, ?_⟩) ?_ ?_
 rotate_left; exact pI; rotate_left; exact pS
 refine done_ (done_of HT_.out (by kernel_rfl)) ?_
 try go_wp2
 go_ret
 exact ⟨rfl, T.out.unbox.rest rfl rfl⟩
set_option maxHeartbeats 8000000 in
set_option maxRecDepth 100000 in
theorem stepAtBig.calls (h : PlayAt w0 w pb g s L f TS) (i : Nat) (t : Tab) (hi : TS[i]? = some t) (Tb : Int) (hTb : (if Tb < 0 then 0 else Tb).tmod (TS.length : Int) = (i : Int)) (hT6 : TS.length ≤ 6) (Row NN : Int) (KK : Int) (hK : ¬ KK = 1 ∧ ¬ KK = 2 ∧ ¬ KK = 3) (hR : (t.rows.length : Int) ≤ Row) :
  Calls Try.prog 30 #[.pointer (some ⟨pb, 0, none⟩), .agg #[.int .i64 KK, .int .i64 Tb, .int .i64 Row, .int .i64 NN]] w fun e w' => e = .returned (.bool true) ∧ PlayAt w0 w' pb g s L f TS := by
 have HI := aM hi
 have HT6 := aM hT6
 obtain ⟨own, v0, v1, av, rv, h⟩ := h
 obtain ⟨Aa, ac, rfl⟩ := Kd.R_slice h.A
 obtain ⟨Ar, rc, rfl⟩ := Kd.R_slice h.R
 obtain ⟨nT, hnT⟩ : ∃ n, TS.length = n := ⟨_, rfl⟩
 rw [show (List.map (fun b => [Value.pointer (some ⟨b, 0, none⟩)]) (TS.map Tab.tb)).length = nT by rw [List.length_map, List.length_map]; exact hnT, show (TS.map Tab.rows).length = nT by rw [List.length_map]; exact hnT] at h
 rw [hnT] at hTb
 have HTB := aM hTb
 have HNT := aM hnT
 have hin := (List.getElem?_eq_some_iff.mp hi).1
 have HTA : Aside0 ((TS.map Tab.tb)[i]? = some t.tb) := ⟨by rw [List.getElem?_map, hi]; rfl⟩
 obtain ⟨ab, e1, -, -⟩ := h.ptr rfl HTA.out
 obtain ⟨rb, A_, c_, e2, -, -, -⟩ := h.take rfl (show (TS.map Tab.rows)[i]? = some t.rows by rw [List.getElem?_map, hi]; rfl)
 subst e1 e2
 have hn0 : (nT = 0) = False := eq_false (by omega)
 have q0 : ((0 : Int) ≤ (i : Int)) = True := eq_true (by omega)
 have q1 : ((i : Int) < (nT : Int)) = True := eq_true (by omega)
 have q2 : (i < nT) = True := eq_true (by omega)
 have T := aM h
 have HT := aM (h.ht i t hi)
 have HN16 := aM (h.ht i t hi).hn
 have hu63 := Try.underlying63
 have hu57 := Try.underlying57
 have hu30 := Try.underlying30
 have k1 : (KK == 1) = false := beq_eq_false_iff_ne.mpr hK.1
 have k2 : (KK == 2) = false := beq_eq_false_iff_ne.mpr hK.2.1
 have k3 : (KK == 3) = false := beq_eq_false_iff_ne.mpr hK.2.2
 clear hK
 have d1 : decide (0 ≤ Row) = true := decide_eq_true (by omega)
 have d2 : decide (Row < (t.rows.length : Int)) = false := decide_eq_false (by omega)
 have HR := aM hR
 clear hR
 clear h hi hTb hT6 hnT hin A_ c_ HT
 go_enter Try.func30, Try.ntmps30
 go_upto_region 1 with (((with_reducible refine gate_dst (N := 3) rfl ?_); refine box_event ?hg (N := 3) ?hd (cs := #[.int .i64 KK, .int .i64 Tb, .int .i64 Row, .int .i64 NN]) (t := 57) ?hr ?_; (case hd => rfl); (case hg => rfl); (case hr => first | (go_simp; done) | (go_simp; rfl)); intro bo hg_ wa hbox hb; replace T := aM ((T.out.below hb).box hbox); have hz := T.out.cells; have hzb := T.out.boxed; clear hbox hb hg_))
 clear hz hzb
 replace T := aM (T.out.drew)
 refine start_ (n := 10) (S := fun w' => w'.cell? ⟨bo, 1, none⟩ = some (.int .i64 Tb) ∧ w'.cell? ⟨pb, 3, none⟩ = some (.slice (some ⟨ab, 0, none⟩) nT ac)) (ds := []) #[false, false, false, false, false, false, false, false, false, false] (by kernel_rfl) rfl rfl ⟨T.out.boxed.2.1, T.out.cells.2.2.2.1⟩ (fun hHeld => ?_); refine with_tabW pst1.tab1 pst1.bits1 (fun HT_ HW_ => ?_)
 generalize wa.drew = wb at T hHeld ⊢
 refine pure_ (i := 0) (N := some 15) (v := ?_) (a' := ?_) #[true, false, false, false, false, false, false, false, false, false] rfl rfl (any_of HT_.out (by kernel_rfl)) (fun _ _ _ h => h) (Or.inl ⟨by rfl, ?_⟩) ?_ ?_
 rotate_left; exact pI; rotate_left; exact pS
 refine pure_ (i := 3) (N := some 18) (v := ?_) (a' := ?_) #[true, false, false, true, false, false, false, false, false, false] rfl rfl (any_of HT_.out (by kernel_rfl)) (fun _ _ _ h => h) (Or.inl ⟨by rfl, ?_⟩) ?_ ?_
 rotate_left; exact pI; rotate_left; exact pS
 refine pure_ (i := 4) (N := some 19) (v := ?_) (a' := ?_) #[true, false, false, true, true, false, false, false, false, false] rfl rfl (any_of HT_.out (by kernel_rfl)) (fun _ _ _ h => h) (Or.inl ⟨by rfl, ?_⟩) ?_ ?_
 rotate_left; exact pI; rotate_left; exact pS
 refine pure_ (i := 5) (N := some 20) (v := ?_) (a' := ?_) #[true, false, false, true, true, true, false, false, false, false] rfl rfl (any_of HT_.out (by kernel_rfl)) (fun _ _ _ h => h) (Or.inl ⟨by rfl, ?_⟩) ?_ ?_
 rotate_left; exact pI; rotate_left; exact pS
 refine take_ (i := 1) (N := some 16) (v := ?_) (a' := ?_) #[true, true, false, true, true, true, false, false, false, false] rfl rfl (take_ofW HT_.out HW_.out (by kernel_rfl)) (fun _ _ _ h => h) (Or.inl ⟨by rfl, ?_⟩) hHeld ?_ ?_
 rotate_left
 ·
  rintro w' ⟨s0, s1⟩
  go_simp
  with_reducible rfl
 rotate_left
 ·
  exact pS
 refine pure_ (i := 2) (N := some 17) (v := ?_) (a' := ?_) #[true, true, true, true, true, true, false, false, false, false] rfl rfl (any_of HT_.out (by kernel_rfl)) (fun _ _ _ h => h) (Or.inl ⟨by rfl, ?_⟩) ?_ ?_
 rotate_left; exact pI; rotate_left; exact pS
 refine take_ (i := 6) (N := some 21) (v := ?_) (a' := ?_) #[true, true, true, true, true, true, true, false, false, false] rfl rfl (take_ofW HT_.out HW_.out (by kernel_rfl)) (fun _ _ _ h => h) (Or.inl ⟨by rfl, ?_⟩) hHeld ?_ ?_
 rotate_left
 ·
  rintro w' ⟨s0, s1⟩
  go_simp
  with_reducible rfl
 rotate_left
 ·
  exact pS
 refine pure_ (i := 7) (N := some 22) (v := ?_) (a' := ?_) #[true, true, true, true, true, true, true, true, false, false] rfl rfl (any_of HT_.out (by kernel_rfl)) (fun _ _ _ h => h) (Or.inl ⟨by rfl, ?_⟩) ?_ ?_
 rotate_left; exact pI; rotate_left; exact pS
 refine pure_ (i := 8) (N := some 23) (v := ?_) (a' := ?_) #[true, true, true, true, true, true, true, true, true, false] rfl rfl (any_of HT_.out (by kernel_rfl)) (fun _ _ _ h => h) (Or.inl ⟨by rfl, ?_⟩) ?_ ?_
 rotate_left; exact pI; rotate_left; exact pS
 refine pure_ (i := 9) (N := some 5) (v := ?_) (a' := ?_) #[true, true, true, true, true, true, true, true, true, true] rfl rfl (any_of HT_.out (by kernel_rfl)) (fun _ _ _ h => h) (Or.inl ⟨by rfl, ?_⟩) ?_ ?_
 rotate_left; exact pI; rotate_left; exact pS
 refine done_ (done_of HT_.out (by kernel_rfl)) ?_
 generalize (if Tb < 0 then (0 : Int) else Tb) = mx at HTB ⊢
 go_upto_region 2 with (fail)
 rw [HTB.out]
 obtain ⟨rb2, Ac, cc, er, -, hcr, hT⟩ := T.out.take rfl (show (TS.map Tab.rows)[i]? = some t.rows by rw [List.getElem?_map, HI.out]; rfl)
 obtain rfl : rb = rb2 := by injection er with er; injection er
 replace T := aM hT
 have HCR := aM hcr
 clear hcr hT er
 replace T := aM (T.out.drew)
 replace HCR := aM (cell_dr HCR.out)
 refine start_ (n := 16) (S := fun w' => w'.cell? ⟨pb, 3, none⟩ = some (.slice (some ⟨ab, 0, none⟩) nT ac) ∧ w'.cell? ⟨pb, 4, none⟩ = some (.slice (some ⟨rb, 0, none⟩) nT rc) ∧ w'.cell? ⟨ab, i, none⟩ = some (.pointer (some ⟨t.tb, 0, none⟩)) ∧ w'.cell? ⟨rb, i, none⟩ = some (.slice Ac t.rows.length cc)) (ds := []) #[false, false, false, false, false, false, false, false, false, false, false, false, false, false, false, false] (by kernel_rfl) rfl rfl ⟨T.out.cells.2.2.2.1, T.out.cells.2.2.2.2.1, T.out.cellA rfl HTA.out, HCR.out⟩ (fun hHeld => ?_); refine with_tabW pst2.tab2 pst2.bits2 (fun HT_ HW_ => ?_)
 generalize wb.drew = wc at T HCR hHeld ⊢
 refine pure_ (i := 0) (N := some 24) (v := ?_) (a' := ?_) #[true, false, false, false, false, false, false, false, false, false, false, false, false, false, false, false] rfl rfl (any_of HT_.out (by kernel_rfl)) (fun _ _ _ h => h) (Or.inl ⟨by rfl, ?_⟩) ?_ ?_
 rotate_left; exact pI; rotate_left; exact pS
 refine pure_ (i := 1) (N := some 25) (v := ?_) (a' := ?_) #[true, true, false, false, false, false, false, false, false, false, false, false, false, false, false, false] rfl rfl (any_of HT_.out (by kernel_rfl)) (fun _ _ _ h => h) (Or.inl ⟨by rfl, ?_⟩) ?_ ?_
 rotate_left; exact pI; rotate_left; exact pS
 refine pure_ (i := 2) (N := some 26) (v := ?_) (a' := ?_) #[true, true, true, false, false, false, false, false, false, false, false, false, false, false, false, false] rfl rfl (any_of HT_.out (by kernel_rfl)) (fun _ _ _ h => h) (Or.inl ⟨by rfl, ?_⟩) ?_ ?_
 rotate_left; exact pI; rotate_left; exact pS
 refine pure_ (i := 4) (N := some 28) (v := ?_) (a' := ?_) #[true, true, true, false, true, false, false, false, false, false, false, false, false, false, false, false] rfl rfl (any_of HT_.out (by kernel_rfl)) (fun _ _ _ h => h) (Or.inl ⟨by rfl, ?_⟩) ?_ ?_
 rotate_left; exact pI; rotate_left; exact pS
 refine pure_ (i := 7) (N := some 31) (v := ?_) (a' := ?_) #[true, true, true, false, true, false, false, true, false, false, false, false, false, false, false, false] rfl rfl (any_of HT_.out (by kernel_rfl)) (fun _ _ _ h => h) (Or.inl ⟨by rfl, ?_⟩) ?_ ?_
 rotate_left; exact pI; rotate_left; exact pS
 refine pure_ (i := 8) (N := some 32) (v := ?_) (a' := ?_) #[true, true, true, false, true, false, false, true, true, false, false, false, false, false, false, false] rfl rfl (any_of HT_.out (by kernel_rfl)) (fun _ _ _ h => h) (Or.inl ⟨by rfl, ?_⟩) ?_ ?_
 rotate_left; exact pI; rotate_left; exact pS
 refine pure_ (i := 9) (N := some 33) (v := ?_) (a' := ?_) #[true, true, true, false, true, false, false, true, true, true, false, false, false, false, false, false] rfl rfl (any_of HT_.out (by kernel_rfl)) (fun _ _ _ h => h) (Or.inl ⟨by rfl, ?_⟩) ?_ ?_
 rotate_left; exact pI; rotate_left; exact pS
 refine pure_ (i := 11) (N := some 35) (v := ?_) (a' := ?_) #[true, true, true, false, true, false, false, true, true, true, false, true, false, false, false, false] rfl rfl (any_of HT_.out (by kernel_rfl)) (fun _ _ _ h => h) (Or.inl ⟨by rfl, ?_⟩) ?_ ?_
 rotate_left; exact pI; rotate_left; exact pS
 refine take_ (i := 3) (N := some 27) (v := ?_) (a' := ?_) #[true, true, true, true, true, false, false, true, true, true, false, true, false, false, false, false] rfl rfl (take_ofW HT_.out HW_.out (by kernel_rfl)) (fun _ _ _ h => h) (Or.inl ⟨by rfl, ?_⟩) hHeld ?_ ?_
 rotate_left
 ·
  rintro w' ⟨s0, s1, s2, s3⟩
  go_simp
  with_reducible rfl
 rotate_left
 ·
  exact pS
 refine pure_ (i := 5) (N := some 29) (v := ?_) (a' := ?_) #[true, true, true, true, true, true, false, true, true, true, false, true, false, false, false, false] rfl rfl (any_of HT_.out (by kernel_rfl)) (fun _ _ _ h => h) (Or.inl ⟨by rfl, ?_⟩) ?_ ?_
 rotate_left; exact pI; rotate_left; exact pS
 refine take_ (i := 6) (N := some 30) (v := ?_) (a' := ?_) #[true, true, true, true, true, true, true, true, true, true, false, true, false, false, false, false] rfl rfl (take_ofW HT_.out HW_.out (by kernel_rfl)) (fun _ _ _ h => h) (Or.inl ⟨by rfl, ?_⟩) hHeld ?_ ?_
 rotate_left
 ·
  rintro w' ⟨s0, s1, s2, s3⟩
  go_simp
  with_reducible rfl
 rotate_left
 ·
  exact pS
 refine pure_ (i := 14) (N := some 6) (v := ?_) (a' := ?_) #[true, true, true, true, true, true, true, true, true, true, false, true, false, false, true, false] rfl rfl (any_of HT_.out (by kernel_rfl)) (fun _ _ _ h => h) (Or.inl ⟨by rfl, ?_⟩) ?_ ?_
 rotate_left; exact pI; rotate_left; exact pS
 refine take_ (i := 10) (N := some 34) (v := ?_) (a' := ?_) #[true, true, true, true, true, true, true, true, true, true, true, true, false, false, true, false] rfl rfl (take_ofW HT_.out HW_.out (by kernel_rfl)) (fun _ _ _ h => h) (Or.inl ⟨by rfl, ?_⟩) hHeld ?_ ?_
 rotate_left
 ·
  rintro w' ⟨s0, s1, s2, s3⟩
  go_simp
  with_reducible rfl
 rotate_left
 ·
  exact pS
 refine pure_ (i := 12) (N := some 36) (v := ?_) (a' := ?_) #[true, true, true, true, true, true, true, true, true, true, true, true, true, false, true, false] rfl rfl (any_of HT_.out (by kernel_rfl)) (fun _ _ _ h => h) (Or.inl ⟨by rfl, ?_⟩) ?_ ?_
 rotate_left; exact pI; rotate_left; exact pS
 refine take_ (i := 13) (N := some 37) (v := ?_) (a' := ?_) #[true, true, true, true, true, true, true, true, true, true, true, true, true, true, true, false] rfl rfl (take_ofW HT_.out HW_.out (by kernel_rfl)) (fun _ _ _ h => h) (Or.inl ⟨by rfl, ?_⟩) hHeld ?_ ?_
 rotate_left
 ·
  rintro w' ⟨s0, s1, s2, s3⟩
  go_simp
  with_reducible rfl
 rotate_left
 ·
  exact pS
 refine pure_ (i := 15) (N := some 7) (v := ?_) (a' := ?_) #[true, true, true, true, true, true, true, true, true, true, true, true, true, true, true, true] rfl rfl (any_of HT_.out (by kernel_rfl)) (fun _ _ _ h => h) (Or.inl ⟨by rfl, ?_⟩) ?_ ?_
 rotate_left; exact pI; rotate_left; exact pS
 refine done_ (done_of HT_.out (by kernel_rfl)) ?_
 have hz := T.out.cells
 have hzb := T.out.boxed
 go_upto_region 28 with (go_at_call 37; (refine (blockAtNo.calls (T.out.ht i t HI.out) Row (.inr HR.out) NN).mono ?_); rintro e wd ⟨rfl, rfl⟩; skip)
 clear hz hzb
 replace T := aM (T.out.drew)
 refine start_ (n := 18) (S := fun w' => True) (ds := []) #[false, false, false, false, false, false, false, false, false, false, false, false, false, false, false, false, false, false] (by kernel_rfl) rfl rfl trivial (fun hHeld => ?_); refine with_tabW pst28.tab28 pst28.bits28 (fun HT_ HW_ => ?_)
 generalize wc.drew = wf at T hHeld ⊢
 refine pure_ (i := 0) (N := some 171) (v := ?_) (a' := ?_) #[true, false, false, false, false, false, false, false, false, false, false, false, false, false, false, false, false, false] rfl rfl (any_of HT_.out (by kernel_rfl)) (fun _ _ _ h => h) (Or.inl ⟨by rfl, ?_⟩) ?_ ?_
 rotate_left; exact pI; rotate_left; exact pS
 refine pure_ (i := 1) (N := some 172) (v := ?_) (a' := ?_) #[true, true, false, false, false, false, false, false, false, false, false, false, false, false, false, false, false, false] rfl rfl (any_of HT_.out (by kernel_rfl)) (fun _ _ _ h => h) (Or.inl ⟨by rfl, ?_⟩) ?_ ?_
 rotate_left; exact pI; rotate_left; exact pS
 refine pure_ (i := 2) (N := some 173) (v := ?_) (a' := ?_) #[true, true, true, false, false, false, false, false, false, false, false, false, false, false, false, false, false, false] rfl rfl (any_of HT_.out (by kernel_rfl)) (fun _ _ _ h => h) (Or.inl ⟨by rfl, ?_⟩) ?_ ?_
 rotate_left; exact pI; rotate_left; exact pS
 refine pure_ (i := 3) (N := some 174) (v := undef) (a' := ?_) #[true, true, true, true, false, false, false, false, false, false, false, false, false, false, false, false, false, false] rfl rfl (any_of HT_.out (by kernel_rfl)) (fun _ _ _ h => h) (Or.inr ⟨by rfl, rfl⟩) ?_ ?_
 rotate_left
 ·
  exact pS
 refine pure_ (i := 4) (N := some 175) (v := undef) (a' := ?_) #[true, true, true, true, true, false, false, false, false, false, false, false, false, false, false, false, false, false] rfl rfl (any_of HT_.out (by kernel_rfl)) (fun _ _ _ h => h) (Or.inr ⟨by rfl, rfl⟩) ?_ ?_
 rotate_left
 ·
  exact pS
 refine pure_ (i := 5) (N := some 176) (v := undef) (a' := ?_) #[true, true, true, true, true, true, false, false, false, false, false, false, false, false, false, false, false, false] rfl rfl (any_of HT_.out (by kernel_rfl)) (fun _ _ _ h => h) (Or.inr ⟨by rfl, rfl⟩) ?_ ?_
 rotate_left
 ·
  exact pS
 refine pure_ (i := 6) (N := some 177) (v := ?_) (a' := ?_) #[true, true, true, true, true, true, true, false, false, false, false, false, false, false, false, false, false, false] rfl rfl (any_of HT_.out (by kernel_rfl)) (fun _ _ _ h => h) (Or.inl ⟨by rfl, ?_⟩) ?_ ?_
 rotate_left; exact pI; rotate_left; exact pS
 refine pure_ (i := 7) (N := some 178) (v := ?_) (a' := ?_) #[true, true, true, true, true, true, true, true, false, false, false, false, false, false, false, false, false, false] rfl rfl (any_of HT_.out (by kernel_rfl)) (fun _ _ _ h => h) (Or.inl ⟨by rfl, ?_⟩) ?_ ?_
 rotate_left; exact pI; rotate_left; exact pS
 refine pure_ (i := 8) (N := some 179) (v := undef) (a' := ?_) #[true, true, true, true, true, true, true, true, true, false, false, false, false, false, false, false, false, false] rfl rfl (any_of HT_.out (by kernel_rfl)) (fun _ _ _ h => h) (Or.inr ⟨by rfl, rfl⟩) ?_ ?_
 rotate_left
 ·
  exact pS
 refine pure_ (i := 9) (N := some 180) (v := undef) (a' := ?_) #[true, true, true, true, true, true, true, true, true, true, false, false, false, false, false, false, false, false] rfl rfl (any_of HT_.out (by kernel_rfl)) (fun _ _ _ h => h) (Or.inr ⟨by rfl, rfl⟩) ?_ ?_
 rotate_left
 ·
  exact pS
 refine pure_ (i := 10) (N := some 181) (v := undef) (a' := ?_) #[true, true, true, true, true, true, true, true, true, true, true, false, false, false, false, false, false, false] rfl rfl (any_of HT_.out (by kernel_rfl)) (fun _ _ _ h => h) (Or.inr ⟨by rfl, rfl⟩) ?_ ?_
 rotate_left
 ·
  exact pS
 refine pure_ (i := 11) (N := some 182) (v := undef) (a' := ?_) #[true, true, true, true, true, true, true, true, true, true, true, true, false, false, false, false, false, false] rfl rfl (any_of HT_.out (by kernel_rfl)) (fun _ _ _ h => h) (Or.inr ⟨by rfl, rfl⟩) ?_ ?_
 rotate_left
 ·
  exact pS
 refine pure_ (i := 12) (N := some 183) (v := undef) (a' := ?_) #[true, true, true, true, true, true, true, true, true, true, true, true, true, false, false, false, false, false] rfl rfl (any_of HT_.out (by kernel_rfl)) (fun _ _ _ h => h) (Or.inr ⟨by rfl, rfl⟩) ?_ ?_
 rotate_left
 ·
  exact pS
 refine pure_ (i := 13) (N := some 184) (v := undef) (a' := ?_) #[true, true, true, true, true, true, true, true, true, true, true, true, true, true, false, false, false, false] rfl rfl (any_of HT_.out (by kernel_rfl)) (fun _ _ _ h => h) (Or.inr ⟨by rfl, rfl⟩) ?_ ?_
 rotate_left
 ·
  exact pS
 refine pure_ (i := 14) (N := some 185) (v := undef) (a' := ?_) #[true, true, true, true, true, true, true, true, true, true, true, true, true, true, true, false, false, false] rfl rfl (any_of HT_.out (by kernel_rfl)) (fun _ _ _ h => h) (Or.inr ⟨by rfl, rfl⟩) ?_ ?_
 rotate_left
 ·
  exact pS
 refine pure_ (i := 15) (N := some 186) (v := undef) (a' := ?_) #[true, true, true, true, true, true, true, true, true, true, true, true, true, true, true, true, false, false] rfl rfl (any_of HT_.out (by kernel_rfl)) (fun _ _ _ h => h) (Or.inr ⟨by rfl, rfl⟩) ?_ ?_
 rotate_left
 ·
  exact pS
 refine pure_ (i := 16) (N := some 187) (v := undef) (a' := ?_) #[true, true, true, true, true, true, true, true, true, true, true, true, true, true, true, true, true, false] rfl rfl (any_of HT_.out (by kernel_rfl)) (fun _ _ _ h => h) (Or.inr ⟨by rfl, rfl⟩) ?_ ?_
 rotate_left
 ·
  exact pS
 refine pure_ (i := 17) (N := some 188) (v := ?_) (a' := ?_) #[true, true, true, true, true, true, true, true, true, true, true, true, true, true, true, true, true, true] rfl rfl (any_of HT_.out (by kernel_rfl)) (fun _ _ _ h => h) (Or.inl ⟨by rfl, ?_⟩) ?_ ?_
 rotate_left; exact pI; rotate_left; exact pS
 refine done_ (done_of HT_.out (by kernel_rfl)) ?_
 try go_wp2
 go_ret
 exact ⟨rfl, T.out.unbox.rest rfl rfl⟩
set_option maxHeartbeats 8000000 in
set_option maxRecDepth 100000 in
theorem stepAtLow.calls (h : PlayAt w0 w pb g s L f TS) (i : Nat) (t : Tab) (hi : TS[i]? = some t) (Tb : Int) (hTb : (if Tb < 0 then 0 else Tb).tmod (TS.length : Int) = (i : Int)) (hT6 : TS.length ≤ 6) (NN : Int) (KK : Int) (hK : ¬ KK = 1 ∧ ¬ KK = 2 ∧ ¬ KK = 3) (r : Nat) (l : List Int) (hl : t.rows[r]? = some l) (hll : l.length ≤ 1000) (hN : NN < 0) :
  Calls Try.prog 30 #[.pointer (some ⟨pb, 0, none⟩), .agg #[.int .i64 KK, .int .i64 Tb, .int .i64 (r : Int), .int .i64 NN]] w fun e w' => e = .returned (.bool true) ∧ PlayAt w0 w' pb g s L f TS := by
 have HI := aM hi
 have HT6 := aM hT6
 obtain ⟨own, v0, v1, av, rv, h⟩ := h
 obtain ⟨Aa, ac, rfl⟩ := Kd.R_slice h.A
 obtain ⟨Ar, rc, rfl⟩ := Kd.R_slice h.R
 obtain ⟨nT, hnT⟩ : ∃ n, TS.length = n := ⟨_, rfl⟩
 rw [show (List.map (fun b => [Value.pointer (some ⟨b, 0, none⟩)]) (TS.map Tab.tb)).length = nT by rw [List.length_map, List.length_map]; exact hnT, show (TS.map Tab.rows).length = nT by rw [List.length_map]; exact hnT] at h
 rw [hnT] at hTb
 have HTB := aM hTb
 have HNT := aM hnT
 have hin := (List.getElem?_eq_some_iff.mp hi).1
 have HTA : Aside0 ((TS.map Tab.tb)[i]? = some t.tb) := ⟨by rw [List.getElem?_map, hi]; rfl⟩
 obtain ⟨ab, e1, -, -⟩ := h.ptr rfl HTA.out
 obtain ⟨rb, A_, c_, e2, -, -, -⟩ := h.take rfl (show (TS.map Tab.rows)[i]? = some t.rows by rw [List.getElem?_map, hi]; rfl)
 subst e1 e2
 have hn0 : (nT = 0) = False := eq_false (by omega)
 have q0 : ((0 : Int) ≤ (i : Int)) = True := eq_true (by omega)
 have q1 : ((i : Int) < (nT : Int)) = True := eq_true (by omega)
 have q2 : (i < nT) = True := eq_true (by omega)
 have T := aM h
 have HT := aM (h.ht i t hi)
 have HN16 := aM (h.ht i t hi).hn
 have hu63 := Try.underlying63
 have hu57 := Try.underlying57
 have hu30 := Try.underlying30
 have k1 : (KK == 1) = false := beq_eq_false_iff_ne.mpr hK.1
 have k2 : (KK == 2) = false := beq_eq_false_iff_ne.mpr hK.2.1
 have k3 : (KK == 3) = false := beq_eq_false_iff_ne.mpr hK.2.2
 clear hK
 have hrl := (List.getElem?_eq_some_iff.mp hl).1
 have d1 : decide (0 ≤ (r : Int)) = true := decide_eq_true (by omega)
 have d2 : decide ((r : Int) < (t.rows.length : Int)) = true := decide_eq_true (by omega)
 have d3 : decide (r < t.rows.length) = true := decide_eq_true hrl
 have r0 : ((0 : Int) ≤ (r : Int)) = True := eq_true (by omega)
 have r1 : ((r : Int) < (t.rows.length : Int)) = True := eq_true (by omega)
 have r2 : (r < t.rows.length) = True := eq_true hrl
 have HRL := aM (show 0 < t.rows.length by omega)
 have HLT := aM hl
 have HLL := aM hll
 clear hrl hl hll
 have e1 : decide (NN < 0) = true := decide_eq_true hN
 have HN := aM hN
 clear hN
 clear h hi hTb hT6 hnT hin A_ c_ HT
 go_enter Try.func30, Try.ntmps30
 go_upto_region 1 with (((with_reducible refine gate_dst (N := 3) rfl ?_); refine box_event ?hg (N := 3) ?hd (cs := #[.int .i64 KK, .int .i64 Tb, .int .i64 (r : Int), .int .i64 NN]) (t := 57) ?hr ?_; (case hd => rfl); (case hg => rfl); (case hr => first | (go_simp; done) | (go_simp; rfl)); intro bo hg_ wa hbox hb; replace T := aM ((T.out.below hb).box hbox); have hz := T.out.cells; have hzb := T.out.boxed; clear hbox hb hg_))
 clear hz hzb
 replace T := aM (T.out.drew)
 refine start_ (n := 10) (S := fun w' => w'.cell? ⟨bo, 1, none⟩ = some (.int .i64 Tb) ∧ w'.cell? ⟨pb, 3, none⟩ = some (.slice (some ⟨ab, 0, none⟩) nT ac)) (ds := []) #[false, false, false, false, false, false, false, false, false, false] (by kernel_rfl) rfl rfl ⟨T.out.boxed.2.1, T.out.cells.2.2.2.1⟩ (fun hHeld => ?_); refine with_tabW pst1.tab1 pst1.bits1 (fun HT_ HW_ => ?_)
 generalize wa.drew = wb at T hHeld ⊢
 refine pure_ (i := 0) (N := some 15) (v := ?_) (a' := ?_) #[true, false, false, false, false, false, false, false, false, false] rfl rfl (any_of HT_.out (by kernel_rfl)) (fun _ _ _ h => h) (Or.inl ⟨by rfl, ?_⟩) ?_ ?_
 rotate_left; exact pI; rotate_left; exact pS
 refine pure_ (i := 3) (N := some 18) (v := ?_) (a' := ?_) #[true, false, false, true, false, false, false, false, false, false] rfl rfl (any_of HT_.out (by kernel_rfl)) (fun _ _ _ h => h) (Or.inl ⟨by rfl, ?_⟩) ?_ ?_
 rotate_left; exact pI; rotate_left; exact pS
 refine pure_ (i := 4) (N := some 19) (v := ?_) (a' := ?_) #[true, false, false, true, true, false, false, false, false, false] rfl rfl (any_of HT_.out (by kernel_rfl)) (fun _ _ _ h => h) (Or.inl ⟨by rfl, ?_⟩) ?_ ?_
 rotate_left; exact pI; rotate_left; exact pS
 refine pure_ (i := 5) (N := some 20) (v := ?_) (a' := ?_) #[true, false, false, true, true, true, false, false, false, false] rfl rfl (any_of HT_.out (by kernel_rfl)) (fun _ _ _ h => h) (Or.inl ⟨by rfl, ?_⟩) ?_ ?_
 rotate_left; exact pI; rotate_left; exact pS
 refine take_ (i := 1) (N := some 16) (v := ?_) (a' := ?_) #[true, true, false, true, true, true, false, false, false, false] rfl rfl (take_ofW HT_.out HW_.out (by kernel_rfl)) (fun _ _ _ h => h) (Or.inl ⟨by rfl, ?_⟩) hHeld ?_ ?_
 rotate_left
 ·
  rintro w' ⟨s0, s1⟩
  go_simp
  with_reducible rfl
 rotate_left
 ·
  exact pS
 refine pure_ (i := 2) (N := some 17) (v := ?_) (a' := ?_) #[true, true, true, true, true, true, false, false, false, false] rfl rfl (any_of HT_.out (by kernel_rfl)) (fun _ _ _ h => h) (Or.inl ⟨by rfl, ?_⟩) ?_ ?_
 rotate_left; exact pI; rotate_left; exact pS
 refine take_ (i := 6) (N := some 21) (v := ?_) (a' := ?_) #[true, true, true, true, true, true, true, false, false, false] rfl rfl (take_ofW HT_.out HW_.out (by kernel_rfl)) (fun _ _ _ h => h) (Or.inl ⟨by rfl, ?_⟩) hHeld ?_ ?_
 rotate_left
 ·
  rintro w' ⟨s0, s1⟩
  go_simp
  with_reducible rfl
 rotate_left
 ·
  exact pS
 refine pure_ (i := 7) (N := some 22) (v := ?_) (a' := ?_) #[true, true, true, true, true, true, true, true, false, false] rfl rfl (any_of HT_.out (by kernel_rfl)) (fun _ _ _ h => h) (Or.inl ⟨by rfl, ?_⟩) ?_ ?_
 rotate_left; exact pI; rotate_left; exact pS
 refine pure_ (i := 8) (N := some 23) (v := ?_) (a' := ?_) #[true, true, true, true, true, true, true, true, true, false] rfl rfl (any_of HT_.out (by kernel_rfl)) (fun _ _ _ h => h) (Or.inl ⟨by rfl, ?_⟩) ?_ ?_
 rotate_left; exact pI; rotate_left; exact pS
 refine pure_ (i := 9) (N := some 5) (v := ?_) (a' := ?_) #[true, true, true, true, true, true, true, true, true, true] rfl rfl (any_of HT_.out (by kernel_rfl)) (fun _ _ _ h => h) (Or.inl ⟨by rfl, ?_⟩) ?_ ?_
 rotate_left; exact pI; rotate_left; exact pS
 refine done_ (done_of HT_.out (by kernel_rfl)) ?_
 generalize (if Tb < 0 then (0 : Int) else Tb) = mx at HTB ⊢
 go_upto_region 2 with (fail)
 rw [HTB.out]
 obtain ⟨rb2, Ac, cc, er, -, hcr, hT⟩ := T.out.take rfl (show (TS.map Tab.rows)[i]? = some t.rows by rw [List.getElem?_map, HI.out]; rfl)
 obtain rfl : rb = rb2 := by injection er with er; injection er
 replace T := aM hT
 have HCR := aM hcr
 clear hcr hT er
 replace T := aM (T.out.drew)
 replace HCR := aM (cell_dr HCR.out)
 refine start_ (n := 16) (S := fun w' => w'.cell? ⟨pb, 3, none⟩ = some (.slice (some ⟨ab, 0, none⟩) nT ac) ∧ w'.cell? ⟨pb, 4, none⟩ = some (.slice (some ⟨rb, 0, none⟩) nT rc) ∧ w'.cell? ⟨ab, i, none⟩ = some (.pointer (some ⟨t.tb, 0, none⟩)) ∧ w'.cell? ⟨rb, i, none⟩ = some (.slice Ac t.rows.length cc)) (ds := []) #[false, false, false, false, false, false, false, false, false, false, false, false, false, false, false, false] (by kernel_rfl) rfl rfl ⟨T.out.cells.2.2.2.1, T.out.cells.2.2.2.2.1, T.out.cellA rfl HTA.out, HCR.out⟩ (fun hHeld => ?_); refine with_tabW pst2.tab2 pst2.bits2 (fun HT_ HW_ => ?_)
 generalize wb.drew = wc at T HCR hHeld ⊢
 refine pure_ (i := 0) (N := some 24) (v := ?_) (a' := ?_) #[true, false, false, false, false, false, false, false, false, false, false, false, false, false, false, false] rfl rfl (any_of HT_.out (by kernel_rfl)) (fun _ _ _ h => h) (Or.inl ⟨by rfl, ?_⟩) ?_ ?_
 rotate_left; exact pI; rotate_left; exact pS
 refine pure_ (i := 1) (N := some 25) (v := ?_) (a' := ?_) #[true, true, false, false, false, false, false, false, false, false, false, false, false, false, false, false] rfl rfl (any_of HT_.out (by kernel_rfl)) (fun _ _ _ h => h) (Or.inl ⟨by rfl, ?_⟩) ?_ ?_
 rotate_left; exact pI; rotate_left; exact pS
 refine pure_ (i := 2) (N := some 26) (v := ?_) (a' := ?_) #[true, true, true, false, false, false, false, false, false, false, false, false, false, false, false, false] rfl rfl (any_of HT_.out (by kernel_rfl)) (fun _ _ _ h => h) (Or.inl ⟨by rfl, ?_⟩) ?_ ?_
 rotate_left; exact pI; rotate_left; exact pS
 refine pure_ (i := 4) (N := some 28) (v := ?_) (a' := ?_) #[true, true, true, false, true, false, false, false, false, false, false, false, false, false, false, false] rfl rfl (any_of HT_.out (by kernel_rfl)) (fun _ _ _ h => h) (Or.inl ⟨by rfl, ?_⟩) ?_ ?_
 rotate_left; exact pI; rotate_left; exact pS
 refine pure_ (i := 7) (N := some 31) (v := ?_) (a' := ?_) #[true, true, true, false, true, false, false, true, false, false, false, false, false, false, false, false] rfl rfl (any_of HT_.out (by kernel_rfl)) (fun _ _ _ h => h) (Or.inl ⟨by rfl, ?_⟩) ?_ ?_
 rotate_left; exact pI; rotate_left; exact pS
 refine pure_ (i := 8) (N := some 32) (v := ?_) (a' := ?_) #[true, true, true, false, true, false, false, true, true, false, false, false, false, false, false, false] rfl rfl (any_of HT_.out (by kernel_rfl)) (fun _ _ _ h => h) (Or.inl ⟨by rfl, ?_⟩) ?_ ?_
 rotate_left; exact pI; rotate_left; exact pS
 refine pure_ (i := 9) (N := some 33) (v := ?_) (a' := ?_) #[true, true, true, false, true, false, false, true, true, true, false, false, false, false, false, false] rfl rfl (any_of HT_.out (by kernel_rfl)) (fun _ _ _ h => h) (Or.inl ⟨by rfl, ?_⟩) ?_ ?_
 rotate_left; exact pI; rotate_left; exact pS
 refine pure_ (i := 11) (N := some 35) (v := ?_) (a' := ?_) #[true, true, true, false, true, false, false, true, true, true, false, true, false, false, false, false] rfl rfl (any_of HT_.out (by kernel_rfl)) (fun _ _ _ h => h) (Or.inl ⟨by rfl, ?_⟩) ?_ ?_
 rotate_left; exact pI; rotate_left; exact pS
 refine take_ (i := 3) (N := some 27) (v := ?_) (a' := ?_) #[true, true, true, true, true, false, false, true, true, true, false, true, false, false, false, false] rfl rfl (take_ofW HT_.out HW_.out (by kernel_rfl)) (fun _ _ _ h => h) (Or.inl ⟨by rfl, ?_⟩) hHeld ?_ ?_
 rotate_left
 ·
  rintro w' ⟨s0, s1, s2, s3⟩
  go_simp
  with_reducible rfl
 rotate_left
 ·
  exact pS
 refine pure_ (i := 5) (N := some 29) (v := ?_) (a' := ?_) #[true, true, true, true, true, true, false, true, true, true, false, true, false, false, false, false] rfl rfl (any_of HT_.out (by kernel_rfl)) (fun _ _ _ h => h) (Or.inl ⟨by rfl, ?_⟩) ?_ ?_
 rotate_left; exact pI; rotate_left; exact pS
 refine take_ (i := 6) (N := some 30) (v := ?_) (a' := ?_) #[true, true, true, true, true, true, true, true, true, true, false, true, false, false, false, false] rfl rfl (take_ofW HT_.out HW_.out (by kernel_rfl)) (fun _ _ _ h => h) (Or.inl ⟨by rfl, ?_⟩) hHeld ?_ ?_
 rotate_left
 ·
  rintro w' ⟨s0, s1, s2, s3⟩
  go_simp
  with_reducible rfl
 rotate_left
 ·
  exact pS
 refine pure_ (i := 14) (N := some 6) (v := ?_) (a' := ?_) #[true, true, true, true, true, true, true, true, true, true, false, true, false, false, true, false] rfl rfl (any_of HT_.out (by kernel_rfl)) (fun _ _ _ h => h) (Or.inl ⟨by rfl, ?_⟩) ?_ ?_
 rotate_left; exact pI; rotate_left; exact pS
 refine take_ (i := 10) (N := some 34) (v := ?_) (a' := ?_) #[true, true, true, true, true, true, true, true, true, true, true, true, false, false, true, false] rfl rfl (take_ofW HT_.out HW_.out (by kernel_rfl)) (fun _ _ _ h => h) (Or.inl ⟨by rfl, ?_⟩) hHeld ?_ ?_
 rotate_left
 ·
  rintro w' ⟨s0, s1, s2, s3⟩
  go_simp
  with_reducible rfl
 rotate_left
 ·
  exact pS
 refine pure_ (i := 12) (N := some 36) (v := ?_) (a' := ?_) #[true, true, true, true, true, true, true, true, true, true, true, true, true, false, true, false] rfl rfl (any_of HT_.out (by kernel_rfl)) (fun _ _ _ h => h) (Or.inl ⟨by rfl, ?_⟩) ?_ ?_
 rotate_left; exact pI; rotate_left; exact pS
 refine take_ (i := 13) (N := some 37) (v := ?_) (a' := ?_) #[true, true, true, true, true, true, true, true, true, true, true, true, true, true, true, false] rfl rfl (take_ofW HT_.out HW_.out (by kernel_rfl)) (fun _ _ _ h => h) (Or.inl ⟨by rfl, ?_⟩) hHeld ?_ ?_
 rotate_left
 ·
  rintro w' ⟨s0, s1, s2, s3⟩
  go_simp
  with_reducible rfl
 rotate_left
 ·
  exact pS
 refine pure_ (i := 15) (N := some 7) (v := ?_) (a' := ?_) #[true, true, true, true, true, true, true, true, true, true, true, true, true, true, true, true] rfl rfl (any_of HT_.out (by kernel_rfl)) (fun _ _ _ h => h) (Or.inl ⟨by rfl, ?_⟩) ?_ ?_
 rotate_left; exact pI; rotate_left; exact pS
 refine done_ (done_of HT_.out (by kernel_rfl)) ?_
 have hz := T.out.cells
 have hzb := T.out.boxed
 go_upto_region 28 with (go_at_call 37; (refine (blockAtBad.calls (T.out.ht i t HI.out) r l HLT.out NN (.inl HN.out)).mono ?_); rintro e wd ⟨rfl, rfl⟩; skip)
 clear hz hzb
 replace T := aM (T.out.drew)
 refine start_ (n := 18) (S := fun w' => w'.cell? ⟨bo, 3, none⟩ = some (.int .i64 NN)) (ds := []) #[false, false, false, false, false, false, false, false, false, false, false, false, false, false, false, false, false, false] (by kernel_rfl) rfl rfl (T.out.boxed.2.2.2) (fun hHeld => ?_); refine with_tabW pst28.tab28 pst28.bits28 (fun HT_ HW_ => ?_)
 generalize wc.drew = wf at T hHeld ⊢
 refine pure_ (i := 0) (N := some 171) (v := ?_) (a' := ?_) #[true, false, false, false, false, false, false, false, false, false, false, false, false, false, false, false, false, false] rfl rfl (any_of HT_.out (by kernel_rfl)) (fun _ _ _ h => h) (Or.inl ⟨by rfl, ?_⟩) ?_ ?_
 rotate_left; exact pI; rotate_left; exact pS
 refine pure_ (i := 1) (N := some 172) (v := ?_) (a' := ?_) #[true, true, false, false, false, false, false, false, false, false, false, false, false, false, false, false, false, false] rfl rfl (any_of HT_.out (by kernel_rfl)) (fun _ _ _ h => h) (Or.inl ⟨by rfl, ?_⟩) ?_ ?_
 rotate_left; exact pI; rotate_left; exact pS
 refine pure_ (i := 2) (N := some 173) (v := ?_) (a' := ?_) #[true, true, true, false, false, false, false, false, false, false, false, false, false, false, false, false, false, false] rfl rfl (any_of HT_.out (by kernel_rfl)) (fun _ _ _ h => h) (Or.inl ⟨by rfl, ?_⟩) ?_ ?_
 rotate_left; exact pI; rotate_left; exact pS
 refine pure_ (i := 3) (N := some 174) (v := ?_) (a' := ?_) #[true, true, true, true, false, false, false, false, false, false, false, false, false, false, false, false, false, false] rfl rfl (any_of HT_.out (by kernel_rfl)) (fun _ _ _ h => h) (Or.inl ⟨by rfl, ?_⟩) ?_ ?_
 rotate_left; exact pI; rotate_left; exact pS
 refine take_ (i := 4) (N := some 175) (v := ?_) (a' := ?_) #[true, true, true, true, true, false, false, false, false, false, false, false, false, false, false, false, false, false] rfl rfl (take_ofW HT_.out HW_.out (by kernel_rfl)) (fun _ _ _ h => h) (Or.inl ⟨by rfl, ?_⟩) hHeld ?_ ?_
 rotate_left
 ·
  intro w' s0
  go_simp
  with_reducible rfl
 rotate_left
 ·
  exact pS
 refine pure_ (i := 5) (N := some 176) (v := ?_) (a' := ?_) #[true, true, true, true, true, true, false, false, false, false, false, false, false, false, false, false, false, false] rfl rfl (any_of HT_.out (by kernel_rfl)) (fun _ _ _ h => h) (Or.inl ⟨by rfl, ?_⟩) ?_ ?_
 rotate_left; exact pI; rotate_left; exact pS
 refine pure_ (i := 6) (N := some 177) (v := ?_) (a' := ?_) #[true, true, true, true, true, true, true, false, false, false, false, false, false, false, false, false, false, false] rfl rfl (any_of HT_.out (by kernel_rfl)) (fun _ _ _ h => h) (Or.inl ⟨by rfl, ?_⟩) ?_ ?_
 rotate_left; exact pI; rotate_left; exact pS
 refine pure_ (i := 7) (N := some 178) (v := ?_) (a' := ?_) #[true, true, true, true, true, true, true, true, false, false, false, false, false, false, false, false, false, false] rfl rfl (any_of HT_.out (by kernel_rfl)) (fun _ _ _ h => h) (Or.inl ⟨by rfl, ?_⟩) ?_ ?_
 rotate_left; exact pI; rotate_left; exact pS
 refine pure_ (i := 8) (N := some 179) (v := undef) (a' := ?_) #[true, true, true, true, true, true, true, true, true, false, false, false, false, false, false, false, false, false] rfl rfl (any_of HT_.out (by kernel_rfl)) (fun _ _ _ h => h) (Or.inr ⟨by rfl, rfl⟩) ?_ ?_
 rotate_left
 ·
  exact pS
 refine pure_ (i := 9) (N := some 180) (v := undef) (a' := ?_) #[true, true, true, true, true, true, true, true, true, true, false, false, false, false, false, false, false, false] rfl rfl (any_of HT_.out (by kernel_rfl)) (fun _ _ _ h => h) (Or.inr ⟨by rfl, rfl⟩) ?_ ?_
 rotate_left
 ·
  exact pS
 refine pure_ (i := 10) (N := some 181) (v := undef) (a' := ?_) #[true, true, true, true, true, true, true, true, true, true, true, false, false, false, false, false, false, false] rfl rfl (any_of HT_.out (by kernel_rfl)) (fun _ _ _ h => h) (Or.inr ⟨by rfl, rfl⟩) ?_ ?_
 rotate_left
 ·
  exact pS
 refine pure_ (i := 11) (N := some 182) (v := undef) (a' := ?_) #[true, true, true, true, true, true, true, true, true, true, true, true, false, false, false, false, false, false] rfl rfl (any_of HT_.out (by kernel_rfl)) (fun _ _ _ h => h) (Or.inr ⟨by rfl, rfl⟩) ?_ ?_
 rotate_left
 ·
  exact pS
 refine pure_ (i := 12) (N := some 183) (v := undef) (a' := ?_) #[true, true, true, true, true, true, true, true, true, true, true, true, true, false, false, false, false, false] rfl rfl (any_of HT_.out (by kernel_rfl)) (fun _ _ _ h => h) (Or.inr ⟨by rfl, rfl⟩) ?_ ?_
 rotate_left
 ·
  exact pS
 refine pure_ (i := 13) (N := some 184) (v := undef) (a' := ?_) #[true, true, true, true, true, true, true, true, true, true, true, true, true, true, false, false, false, false] rfl rfl (any_of HT_.out (by kernel_rfl)) (fun _ _ _ h => h) (Or.inr ⟨by rfl, rfl⟩) ?_ ?_
 rotate_left
 ·
  exact pS
 refine pure_ (i := 14) (N := some 185) (v := undef) (a' := ?_) #[true, true, true, true, true, true, true, true, true, true, true, true, true, true, true, false, false, false] rfl rfl (any_of HT_.out (by kernel_rfl)) (fun _ _ _ h => h) (Or.inr ⟨by rfl, rfl⟩) ?_ ?_
 rotate_left
 ·
  exact pS
 refine pure_ (i := 15) (N := some 186) (v := undef) (a' := ?_) #[true, true, true, true, true, true, true, true, true, true, true, true, true, true, true, true, false, false] rfl rfl (any_of HT_.out (by kernel_rfl)) (fun _ _ _ h => h) (Or.inr ⟨by rfl, rfl⟩) ?_ ?_
 rotate_left
 ·
  exact pS
 refine pure_ (i := 16) (N := some 187) (v := undef) (a' := ?_) #[true, true, true, true, true, true, true, true, true, true, true, true, true, true, true, true, true, false] rfl rfl (any_of HT_.out (by kernel_rfl)) (fun _ _ _ h => h) (Or.inr ⟨by rfl, rfl⟩) ?_ ?_
 rotate_left
 ·
  exact pS
 refine pure_ (i := 17) (N := some 188) (v := ?_) (a' := ?_) #[true, true, true, true, true, true, true, true, true, true, true, true, true, true, true, true, true, true] rfl rfl (any_of HT_.out (by kernel_rfl)) (fun _ _ _ h => h) (Or.inl ⟨by rfl, ?_⟩) ?_ ?_
 rotate_left; exact pI; rotate_left; exact pS
 refine done_ (done_of HT_.out (by kernel_rfl)) ?_
 try go_wp2
 go_ret
 exact ⟨rfl, T.out.unbox.rest rfl rfl⟩
set_option maxHeartbeats 8000000 in
set_option maxRecDepth 100000 in
theorem stepAtHigh.calls (h : PlayAt w0 w pb g s L f TS) (i : Nat) (t : Tab) (hi : TS[i]? = some t) (Tb : Int) (hTb : (if Tb < 0 then 0 else Tb).tmod (TS.length : Int) = (i : Int)) (hT6 : TS.length ≤ 6) (NN : Int) (KK : Int) (hK : ¬ KK = 1 ∧ ¬ KK = 2 ∧ ¬ KK = 3) (r : Nat) (l : List Int) (hl : t.rows[r]? = some l) (hll : l.length ≤ 1000) (hN : (l.length : Int) ≤ NN) :
  Calls Try.prog 30 #[.pointer (some ⟨pb, 0, none⟩), .agg #[.int .i64 KK, .int .i64 Tb, .int .i64 (r : Int), .int .i64 NN]] w fun e w' => e = .returned (.bool true) ∧ PlayAt w0 w' pb g s L f TS := by
 have HI := aM hi
 have HT6 := aM hT6
 obtain ⟨own, v0, v1, av, rv, h⟩ := h
 obtain ⟨Aa, ac, rfl⟩ := Kd.R_slice h.A
 obtain ⟨Ar, rc, rfl⟩ := Kd.R_slice h.R
 obtain ⟨nT, hnT⟩ : ∃ n, TS.length = n := ⟨_, rfl⟩
 rw [show (List.map (fun b => [Value.pointer (some ⟨b, 0, none⟩)]) (TS.map Tab.tb)).length = nT by rw [List.length_map, List.length_map]; exact hnT, show (TS.map Tab.rows).length = nT by rw [List.length_map]; exact hnT] at h
 rw [hnT] at hTb
 have HTB := aM hTb
 have HNT := aM hnT
 have hin := (List.getElem?_eq_some_iff.mp hi).1
 have HTA : Aside0 ((TS.map Tab.tb)[i]? = some t.tb) := ⟨by rw [List.getElem?_map, hi]; rfl⟩
 obtain ⟨ab, e1, -, -⟩ := h.ptr rfl HTA.out
 obtain ⟨rb, A_, c_, e2, -, -, -⟩ := h.take rfl (show (TS.map Tab.rows)[i]? = some t.rows by rw [List.getElem?_map, hi]; rfl)
 subst e1 e2
 have hn0 : (nT = 0) = False := eq_false (by omega)
 have q0 : ((0 : Int) ≤ (i : Int)) = True := eq_true (by omega)
 have q1 : ((i : Int) < (nT : Int)) = True := eq_true (by omega)
 have q2 : (i < nT) = True := eq_true (by omega)
 have T := aM h
 have HT := aM (h.ht i t hi)
 have HN16 := aM (h.ht i t hi).hn
 have hu63 := Try.underlying63
 have hu57 := Try.underlying57
 have hu30 := Try.underlying30
 have k1 : (KK == 1) = false := beq_eq_false_iff_ne.mpr hK.1
 have k2 : (KK == 2) = false := beq_eq_false_iff_ne.mpr hK.2.1
 have k3 : (KK == 3) = false := beq_eq_false_iff_ne.mpr hK.2.2
 clear hK
 have hrl := (List.getElem?_eq_some_iff.mp hl).1
 have d1 : decide (0 ≤ (r : Int)) = true := decide_eq_true (by omega)
 have d2 : decide ((r : Int) < (t.rows.length : Int)) = true := decide_eq_true (by omega)
 have d3 : decide (r < t.rows.length) = true := decide_eq_true hrl
 have r0 : ((0 : Int) ≤ (r : Int)) = True := eq_true (by omega)
 have r1 : ((r : Int) < (t.rows.length : Int)) = True := eq_true (by omega)
 have r2 : (r < t.rows.length) = True := eq_true hrl
 have HRL := aM (show 0 < t.rows.length by omega)
 have HLT := aM hl
 have HLL := aM hll
 clear hrl hl hll
 have e1 : decide (NN < 0) = false := decide_eq_false (by omega)
 have e2 : decide ((l.length : Int) ≤ NN) = true := decide_eq_true hN
 have HN := aM hN
 clear hN
 clear h hi hTb hT6 hnT hin A_ c_ HT
 go_enter Try.func30, Try.ntmps30
 go_upto_region 1 with (((with_reducible refine gate_dst (N := 3) rfl ?_); refine box_event ?hg (N := 3) ?hd (cs := #[.int .i64 KK, .int .i64 Tb, .int .i64 (r : Int), .int .i64 NN]) (t := 57) ?hr ?_; (case hd => rfl); (case hg => rfl); (case hr => first | (go_simp; done) | (go_simp; rfl)); intro bo hg_ wa hbox hb; replace T := aM ((T.out.below hb).box hbox); have hz := T.out.cells; have hzb := T.out.boxed; clear hbox hb hg_))
 clear hz hzb
 replace T := aM (T.out.drew)
 refine start_ (n := 10) (S := fun w' => w'.cell? ⟨bo, 1, none⟩ = some (.int .i64 Tb) ∧ w'.cell? ⟨pb, 3, none⟩ = some (.slice (some ⟨ab, 0, none⟩) nT ac)) (ds := []) #[false, false, false, false, false, false, false, false, false, false] (by kernel_rfl) rfl rfl ⟨T.out.boxed.2.1, T.out.cells.2.2.2.1⟩ (fun hHeld => ?_); refine with_tabW pst1.tab1 pst1.bits1 (fun HT_ HW_ => ?_)
 generalize wa.drew = wb at T hHeld ⊢
 refine pure_ (i := 0) (N := some 15) (v := ?_) (a' := ?_) #[true, false, false, false, false, false, false, false, false, false] rfl rfl (any_of HT_.out (by kernel_rfl)) (fun _ _ _ h => h) (Or.inl ⟨by rfl, ?_⟩) ?_ ?_
 rotate_left; exact pI; rotate_left; exact pS
 refine pure_ (i := 3) (N := some 18) (v := ?_) (a' := ?_) #[true, false, false, true, false, false, false, false, false, false] rfl rfl (any_of HT_.out (by kernel_rfl)) (fun _ _ _ h => h) (Or.inl ⟨by rfl, ?_⟩) ?_ ?_
 rotate_left; exact pI; rotate_left; exact pS
 refine pure_ (i := 4) (N := some 19) (v := ?_) (a' := ?_) #[true, false, false, true, true, false, false, false, false, false] rfl rfl (any_of HT_.out (by kernel_rfl)) (fun _ _ _ h => h) (Or.inl ⟨by rfl, ?_⟩) ?_ ?_
 rotate_left; exact pI; rotate_left; exact pS
 refine pure_ (i := 5) (N := some 20) (v := ?_) (a' := ?_) #[true, false, false, true, true, true, false, false, false, false] rfl rfl (any_of HT_.out (by kernel_rfl)) (fun _ _ _ h => h) (Or.inl ⟨by rfl, ?_⟩) ?_ ?_
 rotate_left; exact pI; rotate_left; exact pS
 refine take_ (i := 1) (N := some 16) (v := ?_) (a' := ?_) #[true, true, false, true, true, true, false, false, false, false] rfl rfl (take_ofW HT_.out HW_.out (by kernel_rfl)) (fun _ _ _ h => h) (Or.inl ⟨by rfl, ?_⟩) hHeld ?_ ?_
 rotate_left
 ·
  rintro w' ⟨s0, s1⟩
  go_simp
  with_reducible rfl
 rotate_left
 ·
  exact pS
 refine pure_ (i := 2) (N := some 17) (v := ?_) (a' := ?_) #[true, true, true, true, true, true, false, false, false, false] rfl rfl (any_of HT_.out (by kernel_rfl)) (fun _ _ _ h => h) (Or.inl ⟨by rfl, ?_⟩) ?_ ?_
 rotate_left; exact pI; rotate_left; exact pS
 refine take_ (i := 6) (N := some 21) (v := ?_) (a' := ?_) #[true, true, true, true, true, true, true, false, false, false] rfl rfl (take_ofW HT_.out HW_.out (by kernel_rfl)) (fun _ _ _ h => h) (Or.inl ⟨by rfl, ?_⟩) hHeld ?_ ?_
 rotate_left
 ·
  rintro w' ⟨s0, s1⟩
  go_simp
  with_reducible rfl
 rotate_left
 ·
  exact pS
 refine pure_ (i := 7) (N := some 22) (v := ?_) (a' := ?_) #[true, true, true, true, true, true, true, true, false, false] rfl rfl (any_of HT_.out (by kernel_rfl)) (fun _ _ _ h => h) (Or.inl ⟨by rfl, ?_⟩) ?_ ?_
 rotate_left; exact pI; rotate_left; exact pS
 refine pure_ (i := 8) (N := some 23) (v := ?_) (a' := ?_) #[true, true, true, true, true, true, true, true, true, false] rfl rfl (any_of HT_.out (by kernel_rfl)) (fun _ _ _ h => h) (Or.inl ⟨by rfl, ?_⟩) ?_ ?_
 rotate_left; exact pI; rotate_left; exact pS
 refine pure_ (i := 9) (N := some 5) (v := ?_) (a' := ?_) #[true, true, true, true, true, true, true, true, true, true] rfl rfl (any_of HT_.out (by kernel_rfl)) (fun _ _ _ h => h) (Or.inl ⟨by rfl, ?_⟩) ?_ ?_
 rotate_left; exact pI; rotate_left; exact pS
 refine done_ (done_of HT_.out (by kernel_rfl)) ?_
 generalize (if Tb < 0 then (0 : Int) else Tb) = mx at HTB ⊢
 go_upto_region 2 with (fail)
 rw [HTB.out]
 obtain ⟨rb2, Ac, cc, er, -, hcr, hT⟩ := T.out.take rfl (show (TS.map Tab.rows)[i]? = some t.rows by rw [List.getElem?_map, HI.out]; rfl)
 obtain rfl : rb = rb2 := by injection er with er; injection er
 replace T := aM hT
 have HCR := aM hcr
 clear hcr hT er
 replace T := aM (T.out.drew)
 replace HCR := aM (cell_dr HCR.out)
 refine start_ (n := 16) (S := fun w' => w'.cell? ⟨pb, 3, none⟩ = some (.slice (some ⟨ab, 0, none⟩) nT ac) ∧ w'.cell? ⟨pb, 4, none⟩ = some (.slice (some ⟨rb, 0, none⟩) nT rc) ∧ w'.cell? ⟨ab, i, none⟩ = some (.pointer (some ⟨t.tb, 0, none⟩)) ∧ w'.cell? ⟨rb, i, none⟩ = some (.slice Ac t.rows.length cc)) (ds := []) #[false, false, false, false, false, false, false, false, false, false, false, false, false, false, false, false] (by kernel_rfl) rfl rfl ⟨T.out.cells.2.2.2.1, T.out.cells.2.2.2.2.1, T.out.cellA rfl HTA.out, HCR.out⟩ (fun hHeld => ?_); refine with_tabW pst2.tab2 pst2.bits2 (fun HT_ HW_ => ?_)
 generalize wb.drew = wc at T HCR hHeld ⊢
 refine pure_ (i := 0) (N := some 24) (v := ?_) (a' := ?_) #[true, false, false, false, false, false, false, false, false, false, false, false, false, false, false, false] rfl rfl (any_of HT_.out (by kernel_rfl)) (fun _ _ _ h => h) (Or.inl ⟨by rfl, ?_⟩) ?_ ?_
 rotate_left; exact pI; rotate_left; exact pS
 refine pure_ (i := 1) (N := some 25) (v := ?_) (a' := ?_) #[true, true, false, false, false, false, false, false, false, false, false, false, false, false, false, false] rfl rfl (any_of HT_.out (by kernel_rfl)) (fun _ _ _ h => h) (Or.inl ⟨by rfl, ?_⟩) ?_ ?_
 rotate_left; exact pI; rotate_left; exact pS
 refine pure_ (i := 2) (N := some 26) (v := ?_) (a' := ?_) #[true, true, true, false, false, false, false, false, false, false, false, false, false, false, false, false] rfl rfl (any_of HT_.out (by kernel_rfl)) (fun _ _ _ h => h) (Or.inl ⟨by rfl, ?_⟩) ?_ ?_
 rotate_left; exact pI; rotate_left; exact pS
 refine pure_ (i := 4) (N := some 28) (v := ?_) (a' := ?_) #[true, true, true, false, true, false, false, false, false, false, false, false, false, false, false, false] rfl rfl (any_of HT_.out (by kernel_rfl)) (fun _ _ _ h => h) (Or.inl ⟨by rfl, ?_⟩) ?_ ?_
 rotate_left; exact pI; rotate_left; exact pS
 refine pure_ (i := 7) (N := some 31) (v := ?_) (a' := ?_) #[true, true, true, false, true, false, false, true, false, false, false, false, false, false, false, false] rfl rfl (any_of HT_.out (by kernel_rfl)) (fun _ _ _ h => h) (Or.inl ⟨by rfl, ?_⟩) ?_ ?_
 rotate_left; exact pI; rotate_left; exact pS
 refine pure_ (i := 8) (N := some 32) (v := ?_) (a' := ?_) #[true, true, true, false, true, false, false, true, true, false, false, false, false, false, false, false] rfl rfl (any_of HT_.out (by kernel_rfl)) (fun _ _ _ h => h) (Or.inl ⟨by rfl, ?_⟩) ?_ ?_
 rotate_left; exact pI; rotate_left; exact pS
 refine pure_ (i := 9) (N := some 33) (v := ?_) (a' := ?_) #[true, true, true, false, true, false, false, true, true, true, false, false, false, false, false, false] rfl rfl (any_of HT_.out (by kernel_rfl)) (fun _ _ _ h => h) (Or.inl ⟨by rfl, ?_⟩) ?_ ?_
 rotate_left; exact pI; rotate_left; exact pS
 refine pure_ (i := 11) (N := some 35) (v := ?_) (a' := ?_) #[true, true, true, false, true, false, false, true, true, true, false, true, false, false, false, false] rfl rfl (any_of HT_.out (by kernel_rfl)) (fun _ _ _ h => h) (Or.inl ⟨by rfl, ?_⟩) ?_ ?_
 rotate_left; exact pI; rotate_left; exact pS
 refine take_ (i := 3) (N := some 27) (v := ?_) (a' := ?_) #[true, true, true, true, true, false, false, true, true, true, false, true, false, false, false, false] rfl rfl (take_ofW HT_.out HW_.out (by kernel_rfl)) (fun _ _ _ h => h) (Or.inl ⟨by rfl, ?_⟩) hHeld ?_ ?_
 rotate_left
 ·
  rintro w' ⟨s0, s1, s2, s3⟩
  go_simp
  with_reducible rfl
 rotate_left
 ·
  exact pS
 refine pure_ (i := 5) (N := some 29) (v := ?_) (a' := ?_) #[true, true, true, true, true, true, false, true, true, true, false, true, false, false, false, false] rfl rfl (any_of HT_.out (by kernel_rfl)) (fun _ _ _ h => h) (Or.inl ⟨by rfl, ?_⟩) ?_ ?_
 rotate_left; exact pI; rotate_left; exact pS
 refine take_ (i := 6) (N := some 30) (v := ?_) (a' := ?_) #[true, true, true, true, true, true, true, true, true, true, false, true, false, false, false, false] rfl rfl (take_ofW HT_.out HW_.out (by kernel_rfl)) (fun _ _ _ h => h) (Or.inl ⟨by rfl, ?_⟩) hHeld ?_ ?_
 rotate_left
 ·
  rintro w' ⟨s0, s1, s2, s3⟩
  go_simp
  with_reducible rfl
 rotate_left
 ·
  exact pS
 refine pure_ (i := 14) (N := some 6) (v := ?_) (a' := ?_) #[true, true, true, true, true, true, true, true, true, true, false, true, false, false, true, false] rfl rfl (any_of HT_.out (by kernel_rfl)) (fun _ _ _ h => h) (Or.inl ⟨by rfl, ?_⟩) ?_ ?_
 rotate_left; exact pI; rotate_left; exact pS
 refine take_ (i := 10) (N := some 34) (v := ?_) (a' := ?_) #[true, true, true, true, true, true, true, true, true, true, true, true, false, false, true, false] rfl rfl (take_ofW HT_.out HW_.out (by kernel_rfl)) (fun _ _ _ h => h) (Or.inl ⟨by rfl, ?_⟩) hHeld ?_ ?_
 rotate_left
 ·
  rintro w' ⟨s0, s1, s2, s3⟩
  go_simp
  with_reducible rfl
 rotate_left
 ·
  exact pS
 refine pure_ (i := 12) (N := some 36) (v := ?_) (a' := ?_) #[true, true, true, true, true, true, true, true, true, true, true, true, true, false, true, false] rfl rfl (any_of HT_.out (by kernel_rfl)) (fun _ _ _ h => h) (Or.inl ⟨by rfl, ?_⟩) ?_ ?_
 rotate_left; exact pI; rotate_left; exact pS
 refine take_ (i := 13) (N := some 37) (v := ?_) (a' := ?_) #[true, true, true, true, true, true, true, true, true, true, true, true, true, true, true, false] rfl rfl (take_ofW HT_.out HW_.out (by kernel_rfl)) (fun _ _ _ h => h) (Or.inl ⟨by rfl, ?_⟩) hHeld ?_ ?_
 rotate_left
 ·
  rintro w' ⟨s0, s1, s2, s3⟩
  go_simp
  with_reducible rfl
 rotate_left
 ·
  exact pS
 refine pure_ (i := 15) (N := some 7) (v := ?_) (a' := ?_) #[true, true, true, true, true, true, true, true, true, true, true, true, true, true, true, true] rfl rfl (any_of HT_.out (by kernel_rfl)) (fun _ _ _ h => h) (Or.inl ⟨by rfl, ?_⟩) ?_ ?_
 rotate_left; exact pI; rotate_left; exact pS
 refine done_ (done_of HT_.out (by kernel_rfl)) ?_
 have hz := T.out.cells
 have hzb := T.out.boxed
 obtain ⟨db, cs, er, hblk⟩ := T.out.curBlk rfl HRL.out
 subst er
 obtain ⟨A1, c1, hcs, -⟩ := T.out.rowAt rfl HLT.out hblk
 have HBK := aM hblk
 have HCS := aM hcs
 clear hblk hcs
 go_upto_region 28 with (go_at_call 37; (refine (blockAtBad.calls (T.out.ht i t HI.out) r l HLT.out NN (.inr HN.out)).mono ?_); rintro e wd ⟨rfl, rfl⟩; skip)
 clear hz hzb
 replace T := aM (T.out.drew)
 replace HBK := aM (blk_drew HBK.out)
 refine start_ (n := 18) (S := fun w' => w'.cell? ⟨bo, 2, none⟩ = some (.int .i64 (r : Int)) ∧ w'.cell? ⟨bo, 3, none⟩ = some (.int .i64 NN) ∧ w'.cell? ⟨db, r, none⟩ = some (.slice A1 l.length c1)) (ds := []) #[false, false, false, false, false, false, false, false, false, false, false, false, false, false, false, false, false, false] (by kernel_rfl) rfl rfl ⟨T.out.boxed.2.2.1, T.out.boxed.2.2.2, (blk_cell HBK.out r).trans HCS.out⟩ (fun hHeld => ?_); refine with_tabW pst28.tab28 pst28.bits28 (fun HT_ HW_ => ?_)
 generalize wc.drew = wf at T HBK hHeld ⊢
 refine pure_ (i := 0) (N := some 171) (v := ?_) (a' := ?_) #[true, false, false, false, false, false, false, false, false, false, false, false, false, false, false, false, false, false] rfl rfl (any_of HT_.out (by kernel_rfl)) (fun _ _ _ h => h) (Or.inl ⟨by rfl, ?_⟩) ?_ ?_
 rotate_left; exact pI; rotate_left; exact pS
 refine pure_ (i := 1) (N := some 172) (v := ?_) (a' := ?_) #[true, true, false, false, false, false, false, false, false, false, false, false, false, false, false, false, false, false] rfl rfl (any_of HT_.out (by kernel_rfl)) (fun _ _ _ h => h) (Or.inl ⟨by rfl, ?_⟩) ?_ ?_
 rotate_left; exact pI; rotate_left; exact pS
 refine pure_ (i := 2) (N := some 173) (v := ?_) (a' := ?_) #[true, true, true, false, false, false, false, false, false, false, false, false, false, false, false, false, false, false] rfl rfl (any_of HT_.out (by kernel_rfl)) (fun _ _ _ h => h) (Or.inl ⟨by rfl, ?_⟩) ?_ ?_
 rotate_left; exact pI; rotate_left; exact pS
 refine pure_ (i := 3) (N := some 174) (v := ?_) (a' := ?_) #[true, true, true, true, false, false, false, false, false, false, false, false, false, false, false, false, false, false] rfl rfl (any_of HT_.out (by kernel_rfl)) (fun _ _ _ h => h) (Or.inl ⟨by rfl, ?_⟩) ?_ ?_
 rotate_left; exact pI; rotate_left; exact pS
 refine take_ (i := 4) (N := some 175) (v := ?_) (a' := ?_) #[true, true, true, true, true, false, false, false, false, false, false, false, false, false, false, false, false, false] rfl rfl (take_ofW HT_.out HW_.out (by kernel_rfl)) (fun _ _ _ h => h) (Or.inl ⟨by rfl, ?_⟩) hHeld ?_ ?_
 rotate_left
 ·
  rintro w' ⟨s0, s1, s2⟩
  go_simp
  with_reducible rfl
 rotate_left
 ·
  exact pS
 refine pure_ (i := 5) (N := some 176) (v := ?_) (a' := ?_) #[true, true, true, true, true, true, false, false, false, false, false, false, false, false, false, false, false, false] rfl rfl (any_of HT_.out (by kernel_rfl)) (fun _ _ _ h => h) (Or.inl ⟨by rfl, ?_⟩) ?_ ?_
 rotate_left; exact pI; rotate_left; exact pS
 refine pure_ (i := 6) (N := some 177) (v := ?_) (a' := ?_) #[true, true, true, true, true, true, true, false, false, false, false, false, false, false, false, false, false, false] rfl rfl (any_of HT_.out (by kernel_rfl)) (fun _ _ _ h => h) (Or.inl ⟨by rfl, ?_⟩) ?_ ?_
 rotate_left; exact pI; rotate_left; exact pS
 refine pure_ (i := 7) (N := some 178) (v := ?_) (a' := ?_) #[true, true, true, true, true, true, true, true, false, false, false, false, false, false, false, false, false, false] rfl rfl (any_of HT_.out (by kernel_rfl)) (fun _ _ _ h => h) (Or.inl ⟨by rfl, ?_⟩) ?_ ?_
 rotate_left; exact pI; rotate_left; exact pS
 refine pure_ (i := 8) (N := some 179) (v := ?_) (a' := ?_) #[true, true, true, true, true, true, true, true, true, false, false, false, false, false, false, false, false, false] rfl rfl (any_of HT_.out (by kernel_rfl)) (fun _ _ _ h => h) (Or.inl ⟨by rfl, ?_⟩) ?_ ?_
 rotate_left; exact pI; rotate_left; exact pS
 refine pure_ (i := 10) (N := some 181) (v := ?_) (a' := ?_) #[true, true, true, true, true, true, true, true, true, false, true, false, false, false, false, false, false, false] rfl rfl (any_of HT_.out (by kernel_rfl)) (fun _ _ _ h => h) (Or.inl ⟨by rfl, ?_⟩) ?_ ?_
 rotate_left; exact pI; rotate_left; exact pS
 refine pure_ (i := 11) (N := some 182) (v := ?_) (a' := ?_) #[true, true, true, true, true, true, true, true, true, false, true, true, false, false, false, false, false, false] rfl rfl (any_of HT_.out (by kernel_rfl)) (fun _ _ _ h => h) (Or.inl ⟨by rfl, ?_⟩) ?_ ?_
 rotate_left; exact pI; rotate_left; exact pS
 refine take_ (i := 9) (N := some 180) (v := ?_) (a' := ?_) #[true, true, true, true, true, true, true, true, true, true, true, true, false, false, false, false, false, false] rfl rfl (take_ofW HT_.out HW_.out (by kernel_rfl)) (fun _ _ _ h => h) (Or.inl ⟨by rfl, ?_⟩) hHeld ?_ ?_
 rotate_left
 ·
  rintro w' ⟨s0, s1, s2⟩
  go_simp
  with_reducible rfl
 rotate_left
 ·
  exact pS
 refine take_ (i := 12) (N := some 183) (v := ?_) (a' := ?_) #[true, true, true, true, true, true, true, true, true, true, true, true, true, false, false, false, false, false] rfl rfl (take_ofW HT_.out HW_.out (by kernel_rfl)) (fun _ _ _ h => h) (Or.inl ⟨by rfl, ?_⟩) hHeld ?_ ?_
 rotate_left
 ·
  rintro w' ⟨s0, s1, s2⟩
  go_simp
  with_reducible rfl
 rotate_left
 ·
  exact pS
 refine pure_ (i := 13) (N := some 184) (v := ?_) (a' := ?_) #[true, true, true, true, true, true, true, true, true, true, true, true, true, true, false, false, false, false] rfl rfl (any_of HT_.out (by kernel_rfl)) (fun _ _ _ h => h) (Or.inl ⟨by rfl, ?_⟩) ?_ ?_
 rotate_left; exact pI; rotate_left; exact pS
 refine take_ (i := 14) (N := some 185) (v := ?_) (a' := ?_) #[true, true, true, true, true, true, true, true, true, true, true, true, true, true, true, false, false, false] rfl rfl (take_ofW HT_.out HW_.out (by kernel_rfl)) (fun _ _ _ h => h) (Or.inl ⟨by rfl, ?_⟩) hHeld ?_ ?_
 rotate_left
 ·
  rintro w' ⟨s0, s1, s2⟩
  go_simp
  with_reducible rfl
 rotate_left
 ·
  exact pS
 refine pure_ (i := 15) (N := some 186) (v := ?_) (a' := ?_) #[true, true, true, true, true, true, true, true, true, true, true, true, true, true, true, true, false, false] rfl rfl (any_of HT_.out (by kernel_rfl)) (fun _ _ _ h => h) (Or.inl ⟨by rfl, ?_⟩) ?_ ?_
 rotate_left; exact pI; rotate_left; exact pS
 refine pure_ (i := 16) (N := some 187) (v := ?_) (a' := ?_) #[true, true, true, true, true, true, true, true, true, true, true, true, true, true, true, true, true, false] rfl rfl (any_of HT_.out (by kernel_rfl)) (fun _ _ _ h => h) (Or.inl ⟨by rfl, ?_⟩) ?_ ?_
 rotate_left; exact pI; rotate_left; exact pS
 refine pure_ (i := 17) (N := some 188) (v := ?_) (a' := ?_) #[true, true, true, true, true, true, true, true, true, true, true, true, true, true, true, true, true, true] rfl rfl (any_of HT_.out (by kernel_rfl)) (fun _ _ _ h => h) (Or.inl ⟨by rfl, ?_⟩) ?_ ?_
 rotate_left; exact pI; rotate_left; exact pS
 refine done_ (done_of HT_.out (by kernel_rfl)) ?_
 try go_wp2
 go_ret
 exact ⟨rfl, T.out.unbox.rest rfl rfl⟩
set_option maxHeartbeats 8000000 in
set_option maxRecDepth 100000 in
theorem stepAtGood.calls (h : PlayAt w0 w pb g s L f TS) (i : Nat) (t : Tab) (hi : TS[i]? = some t) (Tb : Int) (hTb : (if Tb < 0 then 0 else Tb).tmod (TS.length : Int) = (i : Int)) (hT6 : TS.length ≤ 6)  (KK : Int) (hK : ¬ KK = 1 ∧ ¬ KK = 2 ∧ ¬ KK = 3) (r : Nat) (l : List Int) (hl : t.rows[r]? = some l) (hll : l.length ≤ 1000) (p m : Nat) (hp : l[p]? = some (m : Int)) (x : Slot) (hx : L[m]? = some x) (hxr : ¬ x.refs = 0) :
  Calls Try.prog 30 #[.pointer (some ⟨pb, 0, none⟩), .agg #[.int .i64 KK, .int .i64 Tb, .int .i64 (r : Int), .int .i64 (p : Int)]] w fun e w' => e = .returned (.bool true) ∧ PlayAt w0 w' pb g s L f TS := by
 have HI := aM hi
 have HT6 := aM hT6
 obtain ⟨own, v0, v1, av, rv, h⟩ := h
 obtain ⟨Aa, ac, rfl⟩ := Kd.R_slice h.A
 obtain ⟨Ar, rc, rfl⟩ := Kd.R_slice h.R
 obtain ⟨nT, hnT⟩ : ∃ n, TS.length = n := ⟨_, rfl⟩
 rw [show (List.map (fun b => [Value.pointer (some ⟨b, 0, none⟩)]) (TS.map Tab.tb)).length = nT by rw [List.length_map, List.length_map]; exact hnT, show (TS.map Tab.rows).length = nT by rw [List.length_map]; exact hnT] at h
 rw [hnT] at hTb
 have HTB := aM hTb
 have HNT := aM hnT
 have hin := (List.getElem?_eq_some_iff.mp hi).1
 have HTA : Aside0 ((TS.map Tab.tb)[i]? = some t.tb) := ⟨by rw [List.getElem?_map, hi]; rfl⟩
 obtain ⟨ab, e1, -, -⟩ := h.ptr rfl HTA.out
 obtain ⟨rb, A_, c_, e2, -, -, -⟩ := h.take rfl (show (TS.map Tab.rows)[i]? = some t.rows by rw [List.getElem?_map, hi]; rfl)
 subst e1 e2
 have hn0 : (nT = 0) = False := eq_false (by omega)
 have q0 : ((0 : Int) ≤ (i : Int)) = True := eq_true (by omega)
 have q1 : ((i : Int) < (nT : Int)) = True := eq_true (by omega)
 have q2 : (i < nT) = True := eq_true (by omega)
 have T := aM h
 have HT := aM (h.ht i t hi)
 have HN16 := aM (h.ht i t hi).hn
 have hu63 := Try.underlying63
 have hu57 := Try.underlying57
 have hu30 := Try.underlying30
 have k1 : (KK == 1) = false := beq_eq_false_iff_ne.mpr hK.1
 have k2 : (KK == 2) = false := beq_eq_false_iff_ne.mpr hK.2.1
 have k3 : (KK == 3) = false := beq_eq_false_iff_ne.mpr hK.2.2
 clear hK
 have hrl := (List.getElem?_eq_some_iff.mp hl).1
 have d1 : decide (0 ≤ (r : Int)) = true := decide_eq_true (by omega)
 have d2 : decide ((r : Int) < (t.rows.length : Int)) = true := decide_eq_true (by omega)
 have d3 : decide (r < t.rows.length) = true := decide_eq_true hrl
 have r0 : ((0 : Int) ≤ (r : Int)) = True := eq_true (by omega)
 have r1 : ((r : Int) < (t.rows.length : Int)) = True := eq_true (by omega)
 have r2 : (r < t.rows.length) = True := eq_true hrl
 have HRL := aM (show 0 < t.rows.length by omega)
 have HLT := aM hl
 have HLL := aM hll
 clear hrl hl hll
 have hpl := (List.getElem?_eq_some_iff.mp hp).1
 have hml := (List.getElem?_eq_some_iff.mp hx).1
 have e1 : decide ((p : Int) < 0) = false := decide_eq_false (by omega)
 have e2 : decide ((l.length : Int) ≤ (p : Int)) = false := decide_eq_false (by omega)
 have e3 : decide (l.length ≤ p) = false := decide_eq_false (by omega)
 have s0 : ((0 : Int) ≤ (p : Int)) = True := eq_true (by omega)
 have s1 : ((p : Int) < (l.length : Int)) = True := eq_true (by omega)
 have s2 : (p < l.length) = True := eq_true hpl
 have u0 : ((0 : Int) ≤ (m : Int)) = True := eq_true (by omega)
 have u1 : ((m : Int) < ((MM L).length : Int)) = True := eq_true (by rw [MM_len]; omega)
 have u2 : (m < (MM L).length) = True := eq_true (by rw [MM_len]; exact hml)
 have hfd := field6
 have HPL := aM hpl
 have HML := aM hml
 have HPX := aM hp
 have HX := aM hx
 have HXR := aM hxr
 clear hpl hml hp hx hxr
 clear h hi hTb hT6 hnT hin A_ c_ HT
 go_enter Try.func30, Try.ntmps30
 go_upto_region 1 with (((with_reducible refine gate_dst (N := 3) rfl ?_); refine box_event ?hg (N := 3) ?hd (cs := #[.int .i64 KK, .int .i64 Tb, .int .i64 (r : Int), .int .i64 (p : Int)]) (t := 57) ?hr ?_; (case hd => rfl); (case hg => rfl); (case hr => first | (go_simp; done) | (go_simp; rfl)); intro bo hg_ wa hbox hb; replace T := aM ((T.out.below hb).box hbox); have hz := T.out.cells; have hzb := T.out.boxed; clear hbox hb hg_))
 clear hz hzb
 replace T := aM (T.out.drew)
 refine start_ (n := 10) (S := fun w' => w'.cell? ⟨bo, 1, none⟩ = some (.int .i64 Tb) ∧ w'.cell? ⟨pb, 3, none⟩ = some (.slice (some ⟨ab, 0, none⟩) nT ac)) (ds := []) #[false, false, false, false, false, false, false, false, false, false] (by kernel_rfl) rfl rfl ⟨T.out.boxed.2.1, T.out.cells.2.2.2.1⟩ (fun hHeld => ?_); refine with_tabW pst1.tab1 pst1.bits1 (fun HT_ HW_ => ?_)
 generalize wa.drew = wb at T hHeld ⊢
 refine pure_ (i := 0) (N := some 15) (v := ?_) (a' := ?_) #[true, false, false, false, false, false, false, false, false, false] rfl rfl (any_of HT_.out (by kernel_rfl)) (fun _ _ _ h => h) (Or.inl ⟨by rfl, ?_⟩) ?_ ?_
 rotate_left; exact pI; rotate_left; exact pS
 refine pure_ (i := 3) (N := some 18) (v := ?_) (a' := ?_) #[true, false, false, true, false, false, false, false, false, false] rfl rfl (any_of HT_.out (by kernel_rfl)) (fun _ _ _ h => h) (Or.inl ⟨by rfl, ?_⟩) ?_ ?_
 rotate_left; exact pI; rotate_left; exact pS
 refine pure_ (i := 4) (N := some 19) (v := ?_) (a' := ?_) #[true, false, false, true, true, false, false, false, false, false] rfl rfl (any_of HT_.out (by kernel_rfl)) (fun _ _ _ h => h) (Or.inl ⟨by rfl, ?_⟩) ?_ ?_
 rotate_left; exact pI; rotate_left; exact pS
 refine pure_ (i := 5) (N := some 20) (v := ?_) (a' := ?_) #[true, false, false, true, true, true, false, false, false, false] rfl rfl (any_of HT_.out (by kernel_rfl)) (fun _ _ _ h => h) (Or.inl ⟨by rfl, ?_⟩) ?_ ?_
 rotate_left; exact pI; rotate_left; exact pS
 refine take_ (i := 1) (N := some 16) (v := ?_) (a' := ?_) #[true, true, false, true, true, true, false, false, false, false] rfl rfl (take_ofW HT_.out HW_.out (by kernel_rfl)) (fun _ _ _ h => h) (Or.inl ⟨by rfl, ?_⟩) hHeld ?_ ?_
 rotate_left
 ·
  rintro w' ⟨s0, s1⟩
  go_simp
  with_reducible rfl
 rotate_left
 ·
  exact pS
 refine pure_ (i := 2) (N := some 17) (v := ?_) (a' := ?_) #[true, true, true, true, true, true, false, false, false, false] rfl rfl (any_of HT_.out (by kernel_rfl)) (fun _ _ _ h => h) (Or.inl ⟨by rfl, ?_⟩) ?_ ?_
 rotate_left; exact pI; rotate_left; exact pS
 refine take_ (i := 6) (N := some 21) (v := ?_) (a' := ?_) #[true, true, true, true, true, true, true, false, false, false] rfl rfl (take_ofW HT_.out HW_.out (by kernel_rfl)) (fun _ _ _ h => h) (Or.inl ⟨by rfl, ?_⟩) hHeld ?_ ?_
 rotate_left
 ·
  rintro w' ⟨s0, s1⟩
  go_simp
  with_reducible rfl
 rotate_left
 ·
  exact pS
 refine pure_ (i := 7) (N := some 22) (v := ?_) (a' := ?_) #[true, true, true, true, true, true, true, true, false, false] rfl rfl (any_of HT_.out (by kernel_rfl)) (fun _ _ _ h => h) (Or.inl ⟨by rfl, ?_⟩) ?_ ?_
 rotate_left; exact pI; rotate_left; exact pS
 refine pure_ (i := 8) (N := some 23) (v := ?_) (a' := ?_) #[true, true, true, true, true, true, true, true, true, false] rfl rfl (any_of HT_.out (by kernel_rfl)) (fun _ _ _ h => h) (Or.inl ⟨by rfl, ?_⟩) ?_ ?_
 rotate_left; exact pI; rotate_left; exact pS
 refine pure_ (i := 9) (N := some 5) (v := ?_) (a' := ?_) #[true, true, true, true, true, true, true, true, true, true] rfl rfl (any_of HT_.out (by kernel_rfl)) (fun _ _ _ h => h) (Or.inl ⟨by rfl, ?_⟩) ?_ ?_
 rotate_left; exact pI; rotate_left; exact pS
 refine done_ (done_of HT_.out (by kernel_rfl)) ?_
 generalize (if Tb < 0 then (0 : Int) else Tb) = mx at HTB ⊢
 go_upto_region 2 with (fail)
 rw [HTB.out]
 obtain ⟨rb2, Ac, cc, er, -, hcr, hT⟩ := T.out.take rfl (show (TS.map Tab.rows)[i]? = some t.rows by rw [List.getElem?_map, HI.out]; rfl)
 obtain rfl : rb = rb2 := by injection er with er; injection er
 replace T := aM hT
 have HCR := aM hcr
 clear hcr hT er
 replace T := aM (T.out.drew)
 replace HCR := aM (cell_dr HCR.out)
 refine start_ (n := 16) (S := fun w' => w'.cell? ⟨pb, 3, none⟩ = some (.slice (some ⟨ab, 0, none⟩) nT ac) ∧ w'.cell? ⟨pb, 4, none⟩ = some (.slice (some ⟨rb, 0, none⟩) nT rc) ∧ w'.cell? ⟨ab, i, none⟩ = some (.pointer (some ⟨t.tb, 0, none⟩)) ∧ w'.cell? ⟨rb, i, none⟩ = some (.slice Ac t.rows.length cc)) (ds := []) #[false, false, false, false, false, false, false, false, false, false, false, false, false, false, false, false] (by kernel_rfl) rfl rfl ⟨T.out.cells.2.2.2.1, T.out.cells.2.2.2.2.1, T.out.cellA rfl HTA.out, HCR.out⟩ (fun hHeld => ?_); refine with_tabW pst2.tab2 pst2.bits2 (fun HT_ HW_ => ?_)
 generalize wb.drew = wc at T HCR hHeld ⊢
 refine pure_ (i := 0) (N := some 24) (v := ?_) (a' := ?_) #[true, false, false, false, false, false, false, false, false, false, false, false, false, false, false, false] rfl rfl (any_of HT_.out (by kernel_rfl)) (fun _ _ _ h => h) (Or.inl ⟨by rfl, ?_⟩) ?_ ?_
 rotate_left; exact pI; rotate_left; exact pS
 refine pure_ (i := 1) (N := some 25) (v := ?_) (a' := ?_) #[true, true, false, false, false, false, false, false, false, false, false, false, false, false, false, false] rfl rfl (any_of HT_.out (by kernel_rfl)) (fun _ _ _ h => h) (Or.inl ⟨by rfl, ?_⟩) ?_ ?_
 rotate_left; exact pI; rotate_left; exact pS
 refine pure_ (i := 2) (N := some 26) (v := ?_) (a' := ?_) #[true, true, true, false, false, false, false, false, false, false, false, false, false, false, false, false] rfl rfl (any_of HT_.out (by kernel_rfl)) (fun _ _ _ h => h) (Or.inl ⟨by rfl, ?_⟩) ?_ ?_
 rotate_left; exact pI; rotate_left; exact pS
 refine pure_ (i := 4) (N := some 28) (v := ?_) (a' := ?_) #[true, true, true, false, true, false, false, false, false, false, false, false, false, false, false, false] rfl rfl (any_of HT_.out (by kernel_rfl)) (fun _ _ _ h => h) (Or.inl ⟨by rfl, ?_⟩) ?_ ?_
 rotate_left; exact pI; rotate_left; exact pS
 refine pure_ (i := 7) (N := some 31) (v := ?_) (a' := ?_) #[true, true, true, false, true, false, false, true, false, false, false, false, false, false, false, false] rfl rfl (any_of HT_.out (by kernel_rfl)) (fun _ _ _ h => h) (Or.inl ⟨by rfl, ?_⟩) ?_ ?_
 rotate_left; exact pI; rotate_left; exact pS
 refine pure_ (i := 8) (N := some 32) (v := ?_) (a' := ?_) #[true, true, true, false, true, false, false, true, true, false, false, false, false, false, false, false] rfl rfl (any_of HT_.out (by kernel_rfl)) (fun _ _ _ h => h) (Or.inl ⟨by rfl, ?_⟩) ?_ ?_
 rotate_left; exact pI; rotate_left; exact pS
 refine pure_ (i := 9) (N := some 33) (v := ?_) (a' := ?_) #[true, true, true, false, true, false, false, true, true, true, false, false, false, false, false, false] rfl rfl (any_of HT_.out (by kernel_rfl)) (fun _ _ _ h => h) (Or.inl ⟨by rfl, ?_⟩) ?_ ?_
 rotate_left; exact pI; rotate_left; exact pS
 refine pure_ (i := 11) (N := some 35) (v := ?_) (a' := ?_) #[true, true, true, false, true, false, false, true, true, true, false, true, false, false, false, false] rfl rfl (any_of HT_.out (by kernel_rfl)) (fun _ _ _ h => h) (Or.inl ⟨by rfl, ?_⟩) ?_ ?_
 rotate_left; exact pI; rotate_left; exact pS
 refine take_ (i := 3) (N := some 27) (v := ?_) (a' := ?_) #[true, true, true, true, true, false, false, true, true, true, false, true, false, false, false, false] rfl rfl (take_ofW HT_.out HW_.out (by kernel_rfl)) (fun _ _ _ h => h) (Or.inl ⟨by rfl, ?_⟩) hHeld ?_ ?_
 rotate_left
 ·
  rintro w' ⟨s0, s1, s2, s3⟩
  go_simp
  with_reducible rfl
 rotate_left
 ·
  exact pS
 refine pure_ (i := 5) (N := some 29) (v := ?_) (a' := ?_) #[true, true, true, true, true, true, false, true, true, true, false, true, false, false, false, false] rfl rfl (any_of HT_.out (by kernel_rfl)) (fun _ _ _ h => h) (Or.inl ⟨by rfl, ?_⟩) ?_ ?_
 rotate_left; exact pI; rotate_left; exact pS
 refine take_ (i := 6) (N := some 30) (v := ?_) (a' := ?_) #[true, true, true, true, true, true, true, true, true, true, false, true, false, false, false, false] rfl rfl (take_ofW HT_.out HW_.out (by kernel_rfl)) (fun _ _ _ h => h) (Or.inl ⟨by rfl, ?_⟩) hHeld ?_ ?_
 rotate_left
 ·
  rintro w' ⟨s0, s1, s2, s3⟩
  go_simp
  with_reducible rfl
 rotate_left
 ·
  exact pS
 refine pure_ (i := 14) (N := some 6) (v := ?_) (a' := ?_) #[true, true, true, true, true, true, true, true, true, true, false, true, false, false, true, false] rfl rfl (any_of HT_.out (by kernel_rfl)) (fun _ _ _ h => h) (Or.inl ⟨by rfl, ?_⟩) ?_ ?_
 rotate_left; exact pI; rotate_left; exact pS
 refine take_ (i := 10) (N := some 34) (v := ?_) (a' := ?_) #[true, true, true, true, true, true, true, true, true, true, true, true, false, false, true, false] rfl rfl (take_ofW HT_.out HW_.out (by kernel_rfl)) (fun _ _ _ h => h) (Or.inl ⟨by rfl, ?_⟩) hHeld ?_ ?_
 rotate_left
 ·
  rintro w' ⟨s0, s1, s2, s3⟩
  go_simp
  with_reducible rfl
 rotate_left
 ·
  exact pS
 refine pure_ (i := 12) (N := some 36) (v := ?_) (a' := ?_) #[true, true, true, true, true, true, true, true, true, true, true, true, true, false, true, false] rfl rfl (any_of HT_.out (by kernel_rfl)) (fun _ _ _ h => h) (Or.inl ⟨by rfl, ?_⟩) ?_ ?_
 rotate_left; exact pI; rotate_left; exact pS
 refine take_ (i := 13) (N := some 37) (v := ?_) (a' := ?_) #[true, true, true, true, true, true, true, true, true, true, true, true, true, true, true, false] rfl rfl (take_ofW HT_.out HW_.out (by kernel_rfl)) (fun _ _ _ h => h) (Or.inl ⟨by rfl, ?_⟩) hHeld ?_ ?_
 rotate_left
 ·
  rintro w' ⟨s0, s1, s2, s3⟩
  go_simp
  with_reducible rfl
 rotate_left
 ·
  exact pS
 refine pure_ (i := 15) (N := some 7) (v := ?_) (a' := ?_) #[true, true, true, true, true, true, true, true, true, true, true, true, true, true, true, true] rfl rfl (any_of HT_.out (by kernel_rfl)) (fun _ _ _ h => h) (Or.inl ⟨by rfl, ?_⟩) ?_ ?_
 rotate_left; exact pI; rotate_left; exact pS
 refine done_ (done_of HT_.out (by kernel_rfl)) ?_
 have hz := T.out.cells
 have hzb := T.out.boxed
 obtain ⟨db, cs, er, hblk⟩ := T.out.curBlk rfl HRL.out
 subst er
 obtain ⟨A1, c1, hcs, hRl⟩ := T.out.rowAt rfl HLT.out hblk
 have HBK := aM hblk
 have HCS := aM hcs
 clear hblk hcs
 obtain ⟨adl, el, hcl⟩ := Kd.at_int (Kd.R_reads' hRl).2.2 (p : Int) (by omega) (by have := HPL.out; omega)
 subst el
 obtain ⟨Am, cm, ev⟩ := Kd.R_slice T.out.X.r1
 obtain ⟨adm, em, hcm⟩ := Kd.at_int (Kd.R_reads' (ev ▸ T.out.X.r1)).2.2 (m : Int) (by omega) (by rw [MM_len]; have := HML.out; omega)
 subst em
 subst ev
 have hrd : rd l (p : Int) = (m : Int) := by simp [rd, List.getD_eq_getElem?_getD, HPX.out]
 have hrm : rd (MM L) (m : Int) = x.mark := by simp [rd, List.getD_eq_getElem?_getD, MM_get HX.out]
 rw [hrd, Int.toNat_natCast] at hcl
 rw [hrm, Int.toNat_natCast] at hcm
 have HC := aM hcl
 have HM := aM hcm
 obtain ⟨b, eb, hq, -⟩ := T.out.P.hp x (List.mem_of_getElem? HX.out) HXR.out
 have HEB := aM eb
 have Q := aM hq
 clear hcl hcm hrd hrm hRl eb hq
 go_upto_region 28 with (go_at_call 37; (refine (blockAt.calls (T.out.ht i t HI.out) T.out.P r l HLT.out p m HPX.out x b HX.out HXR.out HEB.out).mono ?_); rintro e wd ⟨rfl, hb⟩; replace Q := aM (Q.out.same (hb.block _ Q.out.lt)); replace HBK := aM (blk_below HBK.out hb); replace T := aM (T.out.below hb); replace HC := aM ((hb.cell (World.block_lt_of_cell? _ _ HC.out)).trans HC.out); replace HM := aM ((hb.cell (World.block_lt_of_cell? _ _ HM.out)).trans HM.out); clear hz hzb hb; have hz := T.out.cells; have hzb := T.out.boxed)
 clear hz hzb
 replace T := aM (T.out.drew)
 replace HBK := aM (blk_drew HBK.out)
 replace HC := aM (cell_dr HC.out)
 replace HM := aM (cell_dr HM.out)
 replace Q := aM (Q.out.drewP)
 refine start_ (n := 18) (S := fun w' => w'.cell? ⟨bo, 2, none⟩ = some (.int .i64 (r : Int)) ∧ w'.cell? ⟨bo, 3, none⟩ = some (.int .i64 (p : Int)) ∧ w'.cell? ⟨db, r, none⟩ = some (.slice (some adl) l.length c1)) (ds := []) #[false, false, false, false, false, false, false, false, false, false, false, false, false, false, false, false, false, false] (by kernel_rfl) rfl rfl ⟨T.out.boxed.2.2.1, T.out.boxed.2.2.2, (blk_cell HBK.out r).trans HCS.out⟩ (fun hHeld => ?_); refine with_tabW pst28.tab28 pst28.bits28 (fun HT_ HW_ => ?_)
 generalize wd.drew = wf at T HBK HC HM Q hHeld ⊢
 refine pure_ (i := 0) (N := some 171) (v := ?_) (a' := ?_) #[true, false, false, false, false, false, false, false, false, false, false, false, false, false, false, false, false, false] rfl rfl (any_of HT_.out (by kernel_rfl)) (fun _ _ _ h => h) (Or.inl ⟨by rfl, ?_⟩) ?_ ?_
 rotate_left; exact pI; rotate_left; exact pS
 refine pure_ (i := 1) (N := some 172) (v := ?_) (a' := ?_) #[true, true, false, false, false, false, false, false, false, false, false, false, false, false, false, false, false, false] rfl rfl (any_of HT_.out (by kernel_rfl)) (fun _ _ _ h => h) (Or.inl ⟨by rfl, ?_⟩) ?_ ?_
 rotate_left; exact pI; rotate_left; exact pS
 refine pure_ (i := 2) (N := some 173) (v := ?_) (a' := ?_) #[true, true, true, false, false, false, false, false, false, false, false, false, false, false, false, false, false, false] rfl rfl (any_of HT_.out (by kernel_rfl)) (fun _ _ _ h => h) (Or.inl ⟨by rfl, ?_⟩) ?_ ?_
 rotate_left; exact pI; rotate_left; exact pS
 refine pure_ (i := 3) (N := some 174) (v := ?_) (a' := ?_) #[true, true, true, true, false, false, false, false, false, false, false, false, false, false, false, false, false, false] rfl rfl (any_of HT_.out (by kernel_rfl)) (fun _ _ _ h => h) (Or.inl ⟨by rfl, ?_⟩) ?_ ?_
 rotate_left; exact pI; rotate_left; exact pS
 refine take_ (i := 4) (N := some 175) (v := ?_) (a' := ?_) #[true, true, true, true, true, false, false, false, false, false, false, false, false, false, false, false, false, false] rfl rfl (take_ofW HT_.out HW_.out (by kernel_rfl)) (fun _ _ _ h => h) (Or.inl ⟨by rfl, ?_⟩) hHeld ?_ ?_
 rotate_left
 ·
  rintro w' ⟨s0, s1, s2⟩
  go_simp
  with_reducible rfl
 rotate_left
 ·
  exact pS
 refine pure_ (i := 5) (N := some 176) (v := ?_) (a' := ?_) #[true, true, true, true, true, true, false, false, false, false, false, false, false, false, false, false, false, false] rfl rfl (any_of HT_.out (by kernel_rfl)) (fun _ _ _ h => h) (Or.inl ⟨by rfl, ?_⟩) ?_ ?_
 rotate_left; exact pI; rotate_left; exact pS
 refine pure_ (i := 6) (N := some 177) (v := ?_) (a' := ?_) #[true, true, true, true, true, true, true, false, false, false, false, false, false, false, false, false, false, false] rfl rfl (any_of HT_.out (by kernel_rfl)) (fun _ _ _ h => h) (Or.inl ⟨by rfl, ?_⟩) ?_ ?_
 rotate_left; exact pI; rotate_left; exact pS
 refine pure_ (i := 7) (N := some 178) (v := ?_) (a' := ?_) #[true, true, true, true, true, true, true, true, false, false, false, false, false, false, false, false, false, false] rfl rfl (any_of HT_.out (by kernel_rfl)) (fun _ _ _ h => h) (Or.inl ⟨by rfl, ?_⟩) ?_ ?_
 rotate_left; exact pI; rotate_left; exact pS
 refine pure_ (i := 8) (N := some 179) (v := ?_) (a' := ?_) #[true, true, true, true, true, true, true, true, true, false, false, false, false, false, false, false, false, false] rfl rfl (any_of HT_.out (by kernel_rfl)) (fun _ _ _ h => h) (Or.inl ⟨by rfl, ?_⟩) ?_ ?_
 rotate_left; exact pI; rotate_left; exact pS
 refine pure_ (i := 10) (N := some 181) (v := ?_) (a' := ?_) #[true, true, true, true, true, true, true, true, true, false, true, false, false, false, false, false, false, false] rfl rfl (any_of HT_.out (by kernel_rfl)) (fun _ _ _ h => h) (Or.inl ⟨by rfl, ?_⟩) ?_ ?_
 rotate_left; exact pI; rotate_left; exact pS
 refine pure_ (i := 11) (N := some 182) (v := ?_) (a' := ?_) #[true, true, true, true, true, true, true, true, true, false, true, true, false, false, false, false, false, false] rfl rfl (any_of HT_.out (by kernel_rfl)) (fun _ _ _ h => h) (Or.inl ⟨by rfl, ?_⟩) ?_ ?_
 rotate_left; exact pI; rotate_left; exact pS
 refine take_ (i := 9) (N := some 180) (v := ?_) (a' := ?_) #[true, true, true, true, true, true, true, true, true, true, true, true, false, false, false, false, false, false] rfl rfl (take_ofW HT_.out HW_.out (by kernel_rfl)) (fun _ _ _ h => h) (Or.inl ⟨by rfl, ?_⟩) hHeld ?_ ?_
 rotate_left
 ·
  rintro w' ⟨s0, s1, s2⟩
  go_simp
  with_reducible rfl
 rotate_left
 ·
  exact pS
 refine take_ (i := 12) (N := some 183) (v := ?_) (a' := ?_) #[true, true, true, true, true, true, true, true, true, true, true, true, true, false, false, false, false, false] rfl rfl (take_ofW HT_.out HW_.out (by kernel_rfl)) (fun _ _ _ h => h) (Or.inl ⟨by rfl, ?_⟩) hHeld ?_ ?_
 rotate_left
 ·
  rintro w' ⟨s0, s1, s2⟩
  go_simp
  with_reducible rfl
 rotate_left
 ·
  exact pS
 refine pure_ (i := 13) (N := some 184) (v := ?_) (a' := ?_) #[true, true, true, true, true, true, true, true, true, true, true, true, true, true, false, false, false, false] rfl rfl (any_of HT_.out (by kernel_rfl)) (fun _ _ _ h => h) (Or.inl ⟨by rfl, ?_⟩) ?_ ?_
 rotate_left; exact pI; rotate_left; exact pS
 refine take_ (i := 14) (N := some 185) (v := ?_) (a' := ?_) #[true, true, true, true, true, true, true, true, true, true, true, true, true, true, true, false, false, false] rfl rfl (take_ofW HT_.out HW_.out (by kernel_rfl)) (fun _ _ _ h => h) (Or.inl ⟨by rfl, ?_⟩) hHeld ?_ ?_
 rotate_left
 ·
  rintro w' ⟨s0, s1, s2⟩
  go_simp
  with_reducible rfl
 rotate_left
 ·
  exact pS
 refine pure_ (i := 15) (N := some 186) (v := ?_) (a' := ?_) #[true, true, true, true, true, true, true, true, true, true, true, true, true, true, true, true, false, false] rfl rfl (any_of HT_.out (by kernel_rfl)) (fun _ _ _ h => h) (Or.inl ⟨by rfl, ?_⟩) ?_ ?_
 rotate_left; exact pI; rotate_left; exact pS
 refine pure_ (i := 16) (N := some 187) (v := ?_) (a' := ?_) #[true, true, true, true, true, true, true, true, true, true, true, true, true, true, true, true, true, false] rfl rfl (any_of HT_.out (by kernel_rfl)) (fun _ _ _ h => h) (Or.inl ⟨by rfl, ?_⟩) ?_ ?_
 rotate_left; exact pI; rotate_left; exact pS
 refine pure_ (i := 17) (N := some 188) (v := ?_) (a' := ?_) #[true, true, true, true, true, true, true, true, true, true, true, true, true, true, true, true, true, true] rfl rfl (any_of HT_.out (by kernel_rfl)) (fun _ _ _ h => h) (Or.inl ⟨by rfl, ?_⟩) ?_ ?_
 rotate_left; exact pI; rotate_left; exact pS
 refine done_ (done_of HT_.out (by kernel_rfl)) ?_
 try go_wp2
 go_upto_region 30 with (fail)
 replace T := aM (T.out.drew)
 replace HBK := aM (blk_drew HBK.out)
 replace HC := aM (cell_dr HC.out)
 replace HM := aM (cell_dr HM.out)
 replace Q := aM (Q.out.drewP)
 refine start_ (n := 29) (S := fun w' => w'.cell? ⟨pb, 2, none⟩ = some (.slice (some adm) (MM L).length cm) ∧ w'.cell? ⟨bo, 2, none⟩ = some (.int .i64 (r : Int)) ∧ w'.cell? ⟨bo, 3, none⟩ = some (.int .i64 (p : Int)) ∧ w'.cell? ⟨db, r, none⟩ = some (.slice (some adl) l.length c1) ∧ w'.cell? (adl.add p) = some (.int .i64 (m : Int)) ∧ w'.cell? (adm.add m) = some (.int .i64 x.mark)) (ds := []) #[false, false, false, false, false, false, false, false, false, false, false, false, false, false, false, false, false, false, false, false, false, false, false, false, false, false, false, false, false] (by kernel_rfl) rfl rfl ⟨T.out.cells.2.2.1, T.out.boxed.2.2.1, T.out.boxed.2.2.2, (blk_cell HBK.out r).trans HCS.out, HC.out, HM.out⟩ (fun hHeld => ?_); refine with_tabW pst30.tab30 pst30.bits30 (fun HT_ HW_ => ?_)
 generalize wf.drew = wg at T HBK HC HM Q hHeld ⊢
 refine pure_ (i := 0) (N := some 195) (v := ?_) (a' := ?_) #[true, false, false, false, false, false, false, false, false, false, false, false, false, false, false, false, false, false, false, false, false, false, false, false, false, false, false, false, false] rfl rfl (any_of HT_.out (by kernel_rfl)) (fun _ _ _ h => h) (Or.inl ⟨by rfl, ?_⟩) ?_ ?_
 rotate_left; exact pI; rotate_left; exact pS
 refine pure_ (i := 1) (N := some 196) (v := ?_) (a' := ?_) #[true, true, false, false, false, false, false, false, false, false, false, false, false, false, false, false, false, false, false, false, false, false, false, false, false, false, false, false, false] rfl rfl (any_of HT_.out (by kernel_rfl)) (fun _ _ _ h => h) (Or.inl ⟨by rfl, ?_⟩) ?_ ?_
 rotate_left; exact pI; rotate_left; exact pS
 refine pure_ (i := 2) (N := some 197) (v := ?_) (a' := ?_) #[true, true, true, false, false, false, false, false, false, false, false, false, false, false, false, false, false, false, false, false, false, false, false, false, false, false, false, false, false] rfl rfl (any_of HT_.out (by kernel_rfl)) (fun _ _ _ h => h) (Or.inl ⟨by rfl, ?_⟩) ?_ ?_
 rotate_left; exact pI; rotate_left; exact pS
 refine pure_ (i := 3) (N := some 198) (v := ?_) (a' := ?_) #[true, true, true, true, false, false, false, false, false, false, false, false, false, false, false, false, false, false, false, false, false, false, false, false, false, false, false, false, false] rfl rfl (any_of HT_.out (by kernel_rfl)) (fun _ _ _ h => h) (Or.inl ⟨by rfl, ?_⟩) ?_ ?_
 rotate_left; exact pI; rotate_left; exact pS
 refine pure_ (i := 4) (N := some 199) (v := ?_) (a' := ?_) #[true, true, true, true, true, false, false, false, false, false, false, false, false, false, false, false, false, false, false, false, false, false, false, false, false, false, false, false, false] rfl rfl (any_of HT_.out (by kernel_rfl)) (fun _ _ _ h => h) (Or.inl ⟨by rfl, ?_⟩) ?_ ?_
 rotate_left; exact pI; rotate_left; exact pS
 refine pure_ (i := 5) (N := some 200) (v := ?_) (a' := ?_) #[true, true, true, true, true, true, false, false, false, false, false, false, false, false, false, false, false, false, false, false, false, false, false, false, false, false, false, false, false] rfl rfl (any_of HT_.out (by kernel_rfl)) (fun _ _ _ h => h) (Or.inl ⟨by rfl, ?_⟩) ?_ ?_
 rotate_left; exact pI; rotate_left; exact pS
 refine pure_ (i := 6) (N := some 201) (v := ?_) (a' := ?_) #[true, true, true, true, true, true, true, false, false, false, false, false, false, false, false, false, false, false, false, false, false, false, false, false, false, false, false, false, false] rfl rfl (any_of HT_.out (by kernel_rfl)) (fun _ _ _ h => h) (Or.inl ⟨by rfl, ?_⟩) ?_ ?_
 rotate_left; exact pI; rotate_left; exact pS
 refine pure_ (i := 7) (N := some 202) (v := ?_) (a' := ?_) #[true, true, true, true, true, true, true, true, false, false, false, false, false, false, false, false, false, false, false, false, false, false, false, false, false, false, false, false, false] rfl rfl (any_of HT_.out (by kernel_rfl)) (fun _ _ _ h => h) (Or.inl ⟨by rfl, ?_⟩) ?_ ?_
 rotate_left; exact pI; rotate_left; exact pS
 refine pure_ (i := 10) (N := some 205) (v := ?_) (a' := ?_) #[true, true, true, true, true, true, true, true, false, false, true, false, false, false, false, false, false, false, false, false, false, false, false, false, false, false, false, false, false] rfl rfl (any_of HT_.out (by kernel_rfl)) (fun _ _ _ h => h) (Or.inl ⟨by rfl, ?_⟩) ?_ ?_
 rotate_left; exact pI; rotate_left; exact pS
 refine pure_ (i := 11) (N := some 206) (v := ?_) (a' := ?_) #[true, true, true, true, true, true, true, true, false, false, true, true, false, false, false, false, false, false, false, false, false, false, false, false, false, false, false, false, false] rfl rfl (any_of HT_.out (by kernel_rfl)) (fun _ _ _ h => h) (Or.inl ⟨by rfl, ?_⟩) ?_ ?_
 rotate_left; exact pI; rotate_left; exact pS
 refine pure_ (i := 12) (N := some 207) (v := ?_) (a' := ?_) #[true, true, true, true, true, true, true, true, false, false, true, true, true, false, false, false, false, false, false, false, false, false, false, false, false, false, false, false, false] rfl rfl (any_of HT_.out (by kernel_rfl)) (fun _ _ _ h => h) (Or.inl ⟨by rfl, ?_⟩) ?_ ?_
 rotate_left; exact pI; rotate_left; exact pS
 refine pure_ (i := 13) (N := some 208) (v := ?_) (a' := ?_) #[true, true, true, true, true, true, true, true, false, false, true, true, true, true, false, false, false, false, false, false, false, false, false, false, false, false, false, false, false] rfl rfl (any_of HT_.out (by kernel_rfl)) (fun _ _ _ h => h) (Or.inl ⟨by rfl, ?_⟩) ?_ ?_
 rotate_left; exact pI; rotate_left; exact pS
 refine pure_ (i := 15) (N := some 210) (v := ?_) (a' := ?_) #[true, true, true, true, true, true, true, true, false, false, true, true, true, true, false, true, false, false, false, false, false, false, false, false, false, false, false, false, false] rfl rfl (any_of HT_.out (by kernel_rfl)) (fun _ _ _ h => h) (Or.inl ⟨by rfl, ?_⟩) ?_ ?_
 rotate_left; exact pI; rotate_left; exact pS
 refine pure_ (i := 16) (N := some 211) (v := ?_) (a' := ?_) #[true, true, true, true, true, true, true, true, false, false, true, true, true, true, false, true, true, false, false, false, false, false, false, false, false, false, false, false, false] rfl rfl (any_of HT_.out (by kernel_rfl)) (fun _ _ _ h => h) (Or.inl ⟨by rfl, ?_⟩) ?_ ?_
 rotate_left; exact pI; rotate_left; exact pS
 refine pure_ (i := 20) (N := some 215) (v := ?_) (a' := ?_) #[true, true, true, true, true, true, true, true, false, false, true, true, true, true, false, true, true, false, false, false, true, false, false, false, false, false, false, false, false] rfl rfl (any_of HT_.out (by kernel_rfl)) (fun _ _ _ h => h) (Or.inl ⟨by rfl, ?_⟩) ?_ ?_
 rotate_left; exact pI; rotate_left; exact pS
 refine take_ (i := 14) (N := some 209) (v := ?_) (a' := ?_) #[true, true, true, true, true, true, true, true, false, false, true, true, true, true, true, true, true, false, false, false, true, false, false, false, false, false, false, false, false] rfl rfl (take_ofW HT_.out HW_.out (by kernel_rfl)) (fun _ _ _ h => h) (Or.inl ⟨by rfl, ?_⟩) hHeld ?_ ?_
 rotate_left
 ·
  rintro w' ⟨s0, s1, s2, s3, s4, s5⟩
  go_simp
  with_reducible rfl
 rotate_left
 ·
  exact pS
 refine take_ (i := 17) (N := some 212) (v := ?_) (a' := ?_) #[true, true, true, true, true, true, true, true, false, false, true, true, true, true, true, true, true, true, false, false, true, false, false, false, false, false, false, false, false] rfl rfl (take_ofW HT_.out HW_.out (by kernel_rfl)) (fun _ _ _ h => h) (Or.inl ⟨by rfl, ?_⟩) hHeld ?_ ?_
 rotate_left
 ·
  rintro w' ⟨s0, s1, s2, s3, s4, s5⟩
  go_simp
  with_reducible rfl
 rotate_left
 ·
  exact pS
 refine pure_ (i := 18) (N := some 213) (v := ?_) (a' := ?_) #[true, true, true, true, true, true, true, true, false, false, true, true, true, true, true, true, true, true, true, false, true, false, false, false, false, false, false, false, false] rfl rfl (any_of HT_.out (by kernel_rfl)) (fun _ _ _ h => h) (Or.inl ⟨by rfl, ?_⟩) ?_ ?_
 rotate_left; exact pI; rotate_left; exact pS
 refine take_ (i := 19) (N := some 214) (v := ?_) (a' := ?_) #[true, true, true, true, true, true, true, true, false, false, true, true, true, true, true, true, true, true, true, true, true, false, false, false, false, false, false, false, false] rfl rfl (take_ofW HT_.out HW_.out (by kernel_rfl)) (fun _ _ _ h => h) (Or.inl ⟨by rfl, ?_⟩) hHeld ?_ ?_
 rotate_left
 ·
  rintro w' ⟨s0, s1, s2, s3, s4, s5⟩
  go_simp
  with_reducible rfl
 rotate_left
 ·
  exact pS
 refine take_ (i := 21) (N := some 216) (v := ?_) (a' := ?_) #[true, true, true, true, true, true, true, true, false, false, true, true, true, true, true, true, true, true, true, true, true, true, false, false, false, false, false, false, false] rfl rfl (take_ofW HT_.out HW_.out (by kernel_rfl)) (fun _ _ _ h => h) (Or.inl ⟨by rfl, ?_⟩) hHeld ?_ ?_
 rotate_left
 ·
  rintro w' ⟨s0, s1, s2, s3, s4, s5⟩
  go_simp
  with_reducible rfl
 rotate_left
 ·
  exact pS
 refine pure_ (i := 22) (N := some 217) (v := ?_) (a' := ?_) #[true, true, true, true, true, true, true, true, false, false, true, true, true, true, true, true, true, true, true, true, true, true, true, false, false, false, false, false, false] rfl rfl (any_of HT_.out (by kernel_rfl)) (fun _ _ _ h => h) (Or.inl ⟨by rfl, ?_⟩) ?_ ?_
 rotate_left; exact pI; rotate_left; exact pS
 refine take_ (i := 23) (N := some 218) (v := ?_) (a' := ?_) #[true, true, true, true, true, true, true, true, false, false, true, true, true, true, true, true, true, true, true, true, true, true, true, true, false, false, false, false, false] rfl rfl (take_ofW HT_.out HW_.out (by kernel_rfl)) (fun _ _ _ h => h) (Or.inl ⟨by rfl, ?_⟩) hHeld ?_ ?_
 rotate_left
 ·
  rintro w' ⟨s0, s1, s2, s3, s4, s5⟩
  go_simp
  with_reducible rfl
 rotate_left
 ·
  exact pS
 refine pure_ (i := 24) (N := some 219) (v := ?_) (a' := ?_) #[true, true, true, true, true, true, true, true, false, false, true, true, true, true, true, true, true, true, true, true, true, true, true, true, true, false, false, false, false] rfl rfl (any_of HT_.out (by kernel_rfl)) (fun _ _ _ h => h) (Or.inl ⟨by rfl, ?_⟩) ?_ ?_
 rotate_left; exact pI; rotate_left; exact pS
 refine take_ (i := 25) (N := some 220) (v := ?_) (a' := ?_) #[true, true, true, true, true, true, true, true, false, false, true, true, true, true, true, true, true, true, true, true, true, true, true, true, true, true, false, false, false] rfl rfl (take_ofW HT_.out HW_.out (by kernel_rfl)) (fun _ _ _ h => h) (Or.inl ⟨by rfl, ?_⟩) hHeld ?_ ?_
 rotate_left
 ·
  rintro w' ⟨s0, s1, s2, s3, s4, s5⟩
  go_simp
  with_reducible rfl
 rotate_left
 ·
  exact pS
 refine one_ (i := 8) (N := some 203) #[true, true, true, true, true, true, true, true, true, false, true, true, true, true, true, true, true, true, true, true, true, true, true, true, true, true, false, false, false] rfl rfl (one_of HT_.out (by kernel_rfl)) (by decide) (fun K hK => ?_)
 refine goes_ Try.func25 (by kernel_rfl) rfl #[.pointer (some ⟨b, 0, none⟩)] (by rfl) rfl rfl (by simp only [List.map_toArray, List.map_cons, List.map_nil]; rfl) ?_
 with_reducible refine (poolHead.calls b x.mark _ Q.out).mono ?_
 rintro e wi ⟨h0, h1, h2, h3, h4, h5, rfl, hb⟩
 refine ⟨_, rfl, ?_⟩
 replace HBK := aM (blk_below HBK.out hb)
 replace T := aM (T.out.below hb)
 replace HC := aM ((hb.cell (World.block_lt_of_cell? _ _ HC.out)).trans HC.out)
 replace HM := aM ((hb.cell (World.block_lt_of_cell? _ _ HM.out)).trans HM.out)
 clear hb Q
 refine hK.out _ _ ⟨T.out.cells.2.2.1, T.out.boxed.2.2.1, T.out.boxed.2.2.2, (blk_cell HBK.out r).trans HCS.out, HC.out, HM.out⟩ (fun hHeld => ?_)
 clear hK K
 refine norm_ (a' := ?_) ?_ ?_
 rotate_left
 ·
  show Act.put _ (some 203) _ = _
  simp only [Act.put, List.setIfInBounds_toArray, List.set_cons_zero, List.set_cons_succ, i64_w, i32_w, IntKind.wrap_u32]
  rfl
 refine pure_ (i := 9) (N := some 204) (v := ?_) (a' := ?_) #[true, true, true, true, true, true, true, true, true, true, true, true, true, true, true, true, true, true, true, true, true, true, true, true, true, true, false, false, false] rfl rfl (any_of HT_.out (by kernel_rfl)) (fun _ _ _ h => h) (Or.inl ⟨by rfl, ?_⟩) ?_ ?_
 rotate_left; exact pI; rotate_left; exact pS
 refine pure_ (i := 26) (N := some 221) (v := ?_) (a' := ?_) #[true, true, true, true, true, true, true, true, true, true, true, true, true, true, true, true, true, true, true, true, true, true, true, true, true, true, true, false, false] rfl rfl (any_of HT_.out (by kernel_rfl)) (fun _ _ _ h => h) (Or.inl ⟨by rfl, ?_⟩) ?_ ?_
 rotate_left; exact pI; rotate_left; exact pS
 refine pure_ (i := 27) (N := some 222) (v := ?_) (a' := ?_) #[true, true, true, true, true, true, true, true, true, true, true, true, true, true, true, true, true, true, true, true, true, true, true, true, true, true, true, true, false] rfl rfl (any_of HT_.out (by kernel_rfl)) (fun _ _ _ h => h) (Or.inl ⟨by rfl, ?_⟩) ?_ ?_
 rotate_left; exact pI; rotate_left; exact pS
 refine pure_ (i := 28) (N := some 4) (v := ?_) (a' := ?_) #[true, true, true, true, true, true, true, true, true, true, true, true, true, true, true, true, true, true, true, true, true, true, true, true, true, true, true, true, true] rfl rfl (any_of HT_.out (by kernel_rfl)) (fun _ _ _ h => h) (Or.inl ⟨by rfl, ?_⟩) ?_ ?_
 rotate_left; exact pI; rotate_left; exact pS
 refine done_ (done_of HT_.out (by kernel_rfl)) ?_
 try go_wp2
 go_ret
 exact ⟨rfl, T.out.unbox.rest rfl rfl⟩
end
def pst7.T7 : Bool × List (List Nat × List Nat) := (true, [([], []), ([], []), ([1], [1]), ([], []), ([3], [3]), ([4], [4]), ([0, 2, 5, 5], [0, 2, 5]), ([6], [6]), ([7, 6, 0, 1, 2, 3, 4, 5, 6, 7], [7])])
def pst7.B7 : List Nat := [0, 0, 2, 0, 8, 24, 63, 127, 255]
theorem pst7.tab7 : rtab .any (opsOf Try.f30 7) = pst7.T7 := by kernel_rfl
theorem pst7.bits7 : waitsOk pst7.T7.2 pst7.B7 = true := by kernel_rfl
def pst8.T8 : Bool × List (List Nat × List Nat) := (true, [([], []), ([0], [0]), ([1], [1]), ([2], [2]), ([], []), ([4], [4]), ([5], [5]), ([3, 6], [3, 6]), ([7], [7]), ([8], [8]), ([8], [8]), ([8], [8]), ([], []), ([12, 9, 7, 0, 1, 2, 3, 4, 5, 6, 7, 8, 9, 12], [9, 12]), ([10, 13, 0, 1, 2, 3, 4, 5, 6, 7, 8, 9, 10, 12, 13], [10]), ([11, 14, 0, 1, 2, 3, 4, 5, 6, 7, 8, 9, 10, 11, 12, 13, 14], [11])])
def pst8.B8 : List Nat := [0, 1, 3, 7, 0, 16, 48, 127, 255, 511, 511, 511, 0, 5119, 14335, 32767]
theorem pst8.tab8 : rtab .any (opsOf Try.f30 8) = pst8.T8 := by kernel_rfl
theorem pst8.bits8 : waitsOk pst8.T8.2 pst8.B8 = true := by kernel_rfl
def pst14.T14 : Bool × List (List Nat × List Nat) := (true, [([], []), ([], []), ([1], [1]), ([], []), ([3], [3]), ([4], [4]), ([0, 2, 5, 5], [0, 2, 5]), ([], []), ([6, 7], [6, 7]), ([8, 6, 0, 1, 2, 3, 4, 5, 6, 7, 8], [8])])
def pst14.B14 : List Nat := [0, 0, 2, 0, 8, 24, 63, 0, 255, 511]
theorem pst14.tab14 : rtab .any (opsOf Try.f30 14) = pst14.T14 := by kernel_rfl
theorem pst14.bits14 : waitsOk pst14.T14.2 pst14.B14 = true := by kernel_rfl
def pst12.T12 : Bool × List (List Nat × List Nat) := (true, [([], []), ([], []), ([1], [1]), ([], []), ([], []), ([4], [4]), ([3, 5], [3, 5]), ([6], [6]), ([], []), ([8], [8]), ([7, 9], [7, 9]), ([0, 2, 0, 1, 2, 3, 4, 5, 6, 7, 8, 9, 10], [0, 2]), ([11, 10, 10, 0, 1, 2, 3, 4, 5, 6, 7, 8, 9, 10], [10, 11])])
def pst12.B12 : List Nat := [0, 0, 2, 0, 0, 16, 56, 120, 0, 256, 1016, 2047, 4095]
theorem pst12.tab12 : rtab .any (opsOf Try.f30 12) = pst12.T12 := by kernel_rfl
theorem pst12.bits12 : waitsOk pst12.T12.2 pst12.B12 = true := by kernel_rfl
theorem XAt.ne2 {B : Nat} {W : World} {v0 v1 : Value} {l0 l1 : List Int} (h : XAt B W v0 v1 l0 l1) : ∀ k, some k = v1.ownBlock → ¬ some k = v0.ownBlock := fun k h1 h2 => h.ne k h2 h1
theorem bx2 {w : World} {g : Nat} {t : TypeId} {a0 a1 : Value} (h : w.heap[g]? = some (.cells #[a0, a1] t (0, 0))) : w.cell? ⟨g, 0, none⟩ = some a0 ∧ w.cell? ⟨g, 1, none⟩ = some a1 ∧ (∀ i, w.frozen? ⟨g, i, none⟩ = false) := ⟨(blk_cell h 0).trans rfl, (blk_cell h 1).trans rfl, blk_frozen h⟩
/-- One row of a copy takes another value. -/
theorem copy_put {W : World} {B g n c r : Nat} {xs : List (List Int)} {l : List Int} (hS : Kd.S (Kd.slice 3 (Kd.int .i64)) 28 W B (fun _ => True) (.slice (some ⟨g, 0, none⟩) n c) xs) (hr : xs[r]? = some l) : ∃ u, W.cell? ⟨g, r, none⟩ = some u ∧ W.frozen? ⟨g, r, none⟩ = false ∧ Kd.R (Kd.int .i64) 3 W B (fun _ => True) u l ∧ ∀ (w1 : World) (v1 : Value) (l1 : List Int), W.grownBy w1 u.ownBlock → Kd.R (Kd.int .i64) 3 w1 B (fun _ => True) v1 l1 → (v1.ownBlock = u.ownBlock ∨ ∃ b, v1.ownBlock = some b ∧ W.heap.size ≤ b) → w1.cell? ⟨g, r, none⟩ = some u ∧ w1.frozen? ⟨g, r, none⟩ = false ∧ Kd.R (Kd.slice 3 (Kd.int .i64)) 28 (w1.setCell ⟨g, r, none⟩ v1) B (fun _ => True) (.slice (some ⟨g, 0, none⟩) n c) (xs.set r l1) := by
 have hn := (Kd.R_reads' (Kd.S_R hS)).1
 have hi := (List.getElem?_eq_some_iff.mp hr).1
 obtain ⟨cs, hb⟩ := Kd.S_typed hS g rfl
 obtain ⟨oki, c', hcl, hM, hcc, hfr, hoki, hH⟩ := Kd.S_elem hS [] (r : Int) (by omega) (by omega)
 obtain ⟨u, rfl, hu⟩ := hM
 have hx : xs.getD (r : Int).toNat [] = l := by simp [List.getD_eq_getElem?_getD, hr]
 rw [hx] at hu
 have hs0 : (r : Int).toNat * (Kd.sz (Kd.slice 3 (Kd.int .i64))) + 0 = r := by show (r : Int).toNat * 1 + 0 = r; omega
 have h0 := hcc 0 _ rfl
 have hf0 := hfr 0
 rw [hs0] at h0 hf0
 refine ⟨u, h0, hf0, Kd.R_mono hu (fun _ _ => trivial), fun w1 v1 l1 hg hv hat => ?_⟩
 have hne : some g ≠ u.ownBlock := Kd.R_ne hu hb (by decide)
 have hb1 := blk_grown hb hg hne
 have hH1 := Kd.H_grown (Kd.H_widen hH) hg (fun k hk => .inl (hu.1 k hk))
 obtain ⟨hH2, -⟩ := Kd.H_seg hH1 (by omega) (by omega) (seg := [v1]) (j := 0) (Nat.le_refl 1) (fun q hq => by rw [List.mem_singleton.1 hq]; exact (Kd.R_val hv).2)
 rw [hs0, setCells1] at hH2
 have hv1 := Kd.R_far (p := ⟨g, r, none⟩) (Kd.R_tight rfl hv) (fun k hk e => Kd.R_ne hv hb1 (by decide) (by rw [← hk]; exact congrArg some e.symm)) v1
 have hbk := Kd.H_back hH2 (x' := l1) (okp := fun k => some k = v1.ownBlock) ⟨v1, rfl, hv1⟩ (fun k hk => by
  rcases hat with e | ⟨b, e, hge⟩
  ·
   rw [e] at hk
   exact .inl (hu.1 k hk.symm)
  ·
   rw [e] at hk
   obtain rfl := Option.some.inj hk
   exact .inr ⟨trivial, hge⟩)
 rw [Int.toNat_natCast] at hbk
 exact ⟨(blk_cell hb1 r).trans ((blk_cell hb r).symm.trans h0), blk_frozen hb1 r, Kd.S_R hbk⟩
def AddR (w0 W : World) (pb g s : Nat) (L : List Slot) (f : Int) (TS : List Tab) (i : Nat) (t : Tab) (r : Nat) (l : List Int) (kk : Nat) (NN : Int) : Prop := ∃ b t', PlayAt w0 W pb g s (L.set kk ⟨1, mk NN, some b⟩) (f + -1) (TS.set i t') ∧ t'.tb = t.tb ∧ t'.rows = t.rows.set r (l ++ [(kk : Int)])
section
variable {w0 W W' w : World} {own : Nat → Nat} {pb g s : Nat} {L L' : List Slot} {f f' : Int} {v0 v1 u0 u1 : Value} {l0 l1 m0 m1 : List Int} {x0 x1 ca cr av av1 : Value} {TA : List Nat} {rv rv1 : Value} {D : List (List (List Int))} {TS : List Tab} {cv cv1 : Value} {cl cl1 : List (List Int)} {E : List (Nat × Array Value)}
set_option maxHeartbeats 8000000 in
set_option maxRecDepth 100000 in
theorem stepAddNeg.calls (h : PlayAt w0 w pb g s L f TS) (i : Nat) (t : Tab) (hi : TS[i]? = some t) (Tb : Int) (hTb : (if Tb < 0 then 0 else Tb).tmod (TS.length : Int) = (i : Int)) (hT6 : TS.length ≤ 6) (Row NN : Int) (k : Nat) (hk : madeAll k = true) (hR : ¬ 0 ≤ Row) :
  Calls Try.prog 30 #[.pointer (some ⟨pb, 0, none⟩), .agg #[.int .i64 1, .int .i64 Tb, .int .i64 Row, .int .i64 NN]] w fun e w' => e = .returned (.bool true) ∧ PlayAt w0 w' pb g s L f TS := by
 have HI := aM hi
 have HT6 := aM hT6
 obtain ⟨own, v0, v1, av, rv, h⟩ := h
 obtain ⟨Aa, ac, rfl⟩ := Kd.R_slice h.A
 obtain ⟨Ar, rc, rfl⟩ := Kd.R_slice h.R
 obtain ⟨nT, hnT⟩ : ∃ n, TS.length = n := ⟨_, rfl⟩
 rw [show (List.map (fun b => [Value.pointer (some ⟨b, 0, none⟩)]) (TS.map Tab.tb)).length = nT by rw [List.length_map, List.length_map]; exact hnT, show (TS.map Tab.rows).length = nT by rw [List.length_map]; exact hnT] at h
 rw [hnT] at hTb
 have HTB := aM hTb
 have HNT := aM hnT
 have hin := (List.getElem?_eq_some_iff.mp hi).1
 have HTA : Aside0 ((TS.map Tab.tb)[i]? = some t.tb) := ⟨by rw [List.getElem?_map, hi]; rfl⟩
 obtain ⟨ab, e1, -, -⟩ := h.ptr rfl HTA.out
 obtain ⟨rb, A_, c_, e2, -, -, -⟩ := h.take rfl (show (TS.map Tab.rows)[i]? = some t.rows by rw [List.getElem?_map, hi]; rfl)
 subst e1 e2
 have hn0 : (nT = 0) = False := eq_false (by omega)
 have q0 : ((0 : Int) ≤ (i : Int)) = True := eq_true (by omega)
 have q1 : ((i : Int) < (nT : Int)) = True := eq_true (by omega)
 have q2 : (i < nT) = True := eq_true (by omega)
 have T := aM h
 have HT := aM (h.ht i t hi)
 have HN16 := aM (h.ht i t hi).hn
 have hu63 := Try.underlying63
 have hu57 := Try.underlying57
 have hu30 := Try.underlying30
 have HK := aM hk
 clear hk
 have d1 : decide (0 ≤ Row) = false := decide_eq_false hR
 have HR := aM (show Row < 0 ∨ (t.rows.length : Int) ≤ Row from .inl (by omega))
 clear hR
 clear h hi hTb hT6 hnT hin A_ c_ HT
 go_enter Try.func30, Try.ntmps30
 go_upto_region 1 with (((with_reducible refine gate_dst (N := 3) rfl ?_); refine box_event ?hg (N := 3) ?hd (cs := #[.int .i64 1, .int .i64 Tb, .int .i64 Row, .int .i64 NN]) (t := 57) ?hr ?_; (case hd => rfl); (case hg => rfl); (case hr => first | (go_simp; done) | (go_simp; rfl)); intro bo hg_ wa hbox hb; replace T := aM ((T.out.below hb).box hbox); have hz := T.out.cells; have hzb := T.out.boxed; clear hbox hb hg_))
 clear hz hzb
 replace T := aM (T.out.drew)
 refine start_ (n := 10) (S := fun w' => w'.cell? ⟨bo, 1, none⟩ = some (.int .i64 Tb) ∧ w'.cell? ⟨pb, 3, none⟩ = some (.slice (some ⟨ab, 0, none⟩) nT ac)) (ds := []) #[false, false, false, false, false, false, false, false, false, false] (by kernel_rfl) rfl rfl ⟨T.out.boxed.2.1, T.out.cells.2.2.2.1⟩ (fun hHeld => ?_); refine with_tabW pst1.tab1 pst1.bits1 (fun HT_ HW_ => ?_)
 generalize wa.drew = wb at T hHeld ⊢
 refine pure_ (i := 0) (N := some 15) (v := ?_) (a' := ?_) #[true, false, false, false, false, false, false, false, false, false] rfl rfl (any_of HT_.out (by kernel_rfl)) (fun _ _ _ h => h) (Or.inl ⟨by rfl, ?_⟩) ?_ ?_
 rotate_left; exact pI; rotate_left; exact pS
 refine pure_ (i := 3) (N := some 18) (v := ?_) (a' := ?_) #[true, false, false, true, false, false, false, false, false, false] rfl rfl (any_of HT_.out (by kernel_rfl)) (fun _ _ _ h => h) (Or.inl ⟨by rfl, ?_⟩) ?_ ?_
 rotate_left; exact pI; rotate_left; exact pS
 refine pure_ (i := 4) (N := some 19) (v := ?_) (a' := ?_) #[true, false, false, true, true, false, false, false, false, false] rfl rfl (any_of HT_.out (by kernel_rfl)) (fun _ _ _ h => h) (Or.inl ⟨by rfl, ?_⟩) ?_ ?_
 rotate_left; exact pI; rotate_left; exact pS
 refine pure_ (i := 5) (N := some 20) (v := ?_) (a' := ?_) #[true, false, false, true, true, true, false, false, false, false] rfl rfl (any_of HT_.out (by kernel_rfl)) (fun _ _ _ h => h) (Or.inl ⟨by rfl, ?_⟩) ?_ ?_
 rotate_left; exact pI; rotate_left; exact pS
 refine take_ (i := 1) (N := some 16) (v := ?_) (a' := ?_) #[true, true, false, true, true, true, false, false, false, false] rfl rfl (take_ofW HT_.out HW_.out (by kernel_rfl)) (fun _ _ _ h => h) (Or.inl ⟨by rfl, ?_⟩) hHeld ?_ ?_
 rotate_left
 ·
  rintro w' ⟨s0, s1⟩
  go_simp
  with_reducible rfl
 rotate_left
 ·
  exact pS
 refine pure_ (i := 2) (N := some 17) (v := ?_) (a' := ?_) #[true, true, true, true, true, true, false, false, false, false] rfl rfl (any_of HT_.out (by kernel_rfl)) (fun _ _ _ h => h) (Or.inl ⟨by rfl, ?_⟩) ?_ ?_
 rotate_left; exact pI; rotate_left; exact pS
 refine take_ (i := 6) (N := some 21) (v := ?_) (a' := ?_) #[true, true, true, true, true, true, true, false, false, false] rfl rfl (take_ofW HT_.out HW_.out (by kernel_rfl)) (fun _ _ _ h => h) (Or.inl ⟨by rfl, ?_⟩) hHeld ?_ ?_
 rotate_left
 ·
  rintro w' ⟨s0, s1⟩
  go_simp
  with_reducible rfl
 rotate_left
 ·
  exact pS
 refine pure_ (i := 7) (N := some 22) (v := ?_) (a' := ?_) #[true, true, true, true, true, true, true, true, false, false] rfl rfl (any_of HT_.out (by kernel_rfl)) (fun _ _ _ h => h) (Or.inl ⟨by rfl, ?_⟩) ?_ ?_
 rotate_left; exact pI; rotate_left; exact pS
 refine pure_ (i := 8) (N := some 23) (v := ?_) (a' := ?_) #[true, true, true, true, true, true, true, true, true, false] rfl rfl (any_of HT_.out (by kernel_rfl)) (fun _ _ _ h => h) (Or.inl ⟨by rfl, ?_⟩) ?_ ?_
 rotate_left; exact pI; rotate_left; exact pS
 refine pure_ (i := 9) (N := some 5) (v := ?_) (a' := ?_) #[true, true, true, true, true, true, true, true, true, true] rfl rfl (any_of HT_.out (by kernel_rfl)) (fun _ _ _ h => h) (Or.inl ⟨by rfl, ?_⟩) ?_ ?_
 rotate_left; exact pI; rotate_left; exact pS
 refine done_ (done_of HT_.out (by kernel_rfl)) ?_
 generalize (if Tb < 0 then (0 : Int) else Tb) = mx at HTB ⊢
 go_upto_region 2 with (fail)
 rw [HTB.out]
 obtain ⟨rb2, Ac, cc, er, -, hcr, hT⟩ := T.out.take rfl (show (TS.map Tab.rows)[i]? = some t.rows by rw [List.getElem?_map, HI.out]; rfl)
 obtain rfl : rb = rb2 := by injection er with er; injection er
 replace T := aM hT
 have HCR := aM hcr
 clear hcr hT er
 replace T := aM (T.out.drew)
 replace HCR := aM (cell_dr HCR.out)
 refine start_ (n := 16) (S := fun w' => w'.cell? ⟨pb, 3, none⟩ = some (.slice (some ⟨ab, 0, none⟩) nT ac) ∧ w'.cell? ⟨pb, 4, none⟩ = some (.slice (some ⟨rb, 0, none⟩) nT rc) ∧ w'.cell? ⟨ab, i, none⟩ = some (.pointer (some ⟨t.tb, 0, none⟩)) ∧ w'.cell? ⟨rb, i, none⟩ = some (.slice Ac t.rows.length cc)) (ds := []) #[false, false, false, false, false, false, false, false, false, false, false, false, false, false, false, false] (by kernel_rfl) rfl rfl ⟨T.out.cells.2.2.2.1, T.out.cells.2.2.2.2.1, T.out.cellA rfl HTA.out, HCR.out⟩ (fun hHeld => ?_); refine with_tabW pst2.tab2 pst2.bits2 (fun HT_ HW_ => ?_)
 generalize wb.drew = wc at T HCR hHeld ⊢
 refine pure_ (i := 0) (N := some 24) (v := ?_) (a' := ?_) #[true, false, false, false, false, false, false, false, false, false, false, false, false, false, false, false] rfl rfl (any_of HT_.out (by kernel_rfl)) (fun _ _ _ h => h) (Or.inl ⟨by rfl, ?_⟩) ?_ ?_
 rotate_left; exact pI; rotate_left; exact pS
 refine pure_ (i := 1) (N := some 25) (v := ?_) (a' := ?_) #[true, true, false, false, false, false, false, false, false, false, false, false, false, false, false, false] rfl rfl (any_of HT_.out (by kernel_rfl)) (fun _ _ _ h => h) (Or.inl ⟨by rfl, ?_⟩) ?_ ?_
 rotate_left; exact pI; rotate_left; exact pS
 refine pure_ (i := 2) (N := some 26) (v := ?_) (a' := ?_) #[true, true, true, false, false, false, false, false, false, false, false, false, false, false, false, false] rfl rfl (any_of HT_.out (by kernel_rfl)) (fun _ _ _ h => h) (Or.inl ⟨by rfl, ?_⟩) ?_ ?_
 rotate_left; exact pI; rotate_left; exact pS
 refine pure_ (i := 4) (N := some 28) (v := ?_) (a' := ?_) #[true, true, true, false, true, false, false, false, false, false, false, false, false, false, false, false] rfl rfl (any_of HT_.out (by kernel_rfl)) (fun _ _ _ h => h) (Or.inl ⟨by rfl, ?_⟩) ?_ ?_
 rotate_left; exact pI; rotate_left; exact pS
 refine pure_ (i := 7) (N := some 31) (v := ?_) (a' := ?_) #[true, true, true, false, true, false, false, true, false, false, false, false, false, false, false, false] rfl rfl (any_of HT_.out (by kernel_rfl)) (fun _ _ _ h => h) (Or.inl ⟨by rfl, ?_⟩) ?_ ?_
 rotate_left; exact pI; rotate_left; exact pS
 refine pure_ (i := 8) (N := some 32) (v := ?_) (a' := ?_) #[true, true, true, false, true, false, false, true, true, false, false, false, false, false, false, false] rfl rfl (any_of HT_.out (by kernel_rfl)) (fun _ _ _ h => h) (Or.inl ⟨by rfl, ?_⟩) ?_ ?_
 rotate_left; exact pI; rotate_left; exact pS
 refine pure_ (i := 9) (N := some 33) (v := ?_) (a' := ?_) #[true, true, true, false, true, false, false, true, true, true, false, false, false, false, false, false] rfl rfl (any_of HT_.out (by kernel_rfl)) (fun _ _ _ h => h) (Or.inl ⟨by rfl, ?_⟩) ?_ ?_
 rotate_left; exact pI; rotate_left; exact pS
 refine pure_ (i := 11) (N := some 35) (v := ?_) (a' := ?_) #[true, true, true, false, true, false, false, true, true, true, false, true, false, false, false, false] rfl rfl (any_of HT_.out (by kernel_rfl)) (fun _ _ _ h => h) (Or.inl ⟨by rfl, ?_⟩) ?_ ?_
 rotate_left; exact pI; rotate_left; exact pS
 refine take_ (i := 3) (N := some 27) (v := ?_) (a' := ?_) #[true, true, true, true, true, false, false, true, true, true, false, true, false, false, false, false] rfl rfl (take_ofW HT_.out HW_.out (by kernel_rfl)) (fun _ _ _ h => h) (Or.inl ⟨by rfl, ?_⟩) hHeld ?_ ?_
 rotate_left
 ·
  rintro w' ⟨s0, s1, s2, s3⟩
  go_simp
  with_reducible rfl
 rotate_left
 ·
  exact pS
 refine pure_ (i := 5) (N := some 29) (v := ?_) (a' := ?_) #[true, true, true, true, true, true, false, true, true, true, false, true, false, false, false, false] rfl rfl (any_of HT_.out (by kernel_rfl)) (fun _ _ _ h => h) (Or.inl ⟨by rfl, ?_⟩) ?_ ?_
 rotate_left; exact pI; rotate_left; exact pS
 refine take_ (i := 6) (N := some 30) (v := ?_) (a' := ?_) #[true, true, true, true, true, true, true, true, true, true, false, true, false, false, false, false] rfl rfl (take_ofW HT_.out HW_.out (by kernel_rfl)) (fun _ _ _ h => h) (Or.inl ⟨by rfl, ?_⟩) hHeld ?_ ?_
 rotate_left
 ·
  rintro w' ⟨s0, s1, s2, s3⟩
  go_simp
  with_reducible rfl
 rotate_left
 ·
  exact pS
 refine pure_ (i := 14) (N := some 6) (v := ?_) (a' := ?_) #[true, true, true, true, true, true, true, true, true, true, false, true, false, false, true, false] rfl rfl (any_of HT_.out (by kernel_rfl)) (fun _ _ _ h => h) (Or.inl ⟨by rfl, ?_⟩) ?_ ?_
 rotate_left; exact pI; rotate_left; exact pS
 refine take_ (i := 10) (N := some 34) (v := ?_) (a' := ?_) #[true, true, true, true, true, true, true, true, true, true, true, true, false, false, true, false] rfl rfl (take_ofW HT_.out HW_.out (by kernel_rfl)) (fun _ _ _ h => h) (Or.inl ⟨by rfl, ?_⟩) hHeld ?_ ?_
 rotate_left
 ·
  rintro w' ⟨s0, s1, s2, s3⟩
  go_simp
  with_reducible rfl
 rotate_left
 ·
  exact pS
 refine pure_ (i := 12) (N := some 36) (v := ?_) (a' := ?_) #[true, true, true, true, true, true, true, true, true, true, true, true, true, false, true, false] rfl rfl (any_of HT_.out (by kernel_rfl)) (fun _ _ _ h => h) (Or.inl ⟨by rfl, ?_⟩) ?_ ?_
 rotate_left; exact pI; rotate_left; exact pS
 refine take_ (i := 13) (N := some 37) (v := ?_) (a' := ?_) #[true, true, true, true, true, true, true, true, true, true, true, true, true, true, true, false] rfl rfl (take_ofW HT_.out HW_.out (by kernel_rfl)) (fun _ _ _ h => h) (Or.inl ⟨by rfl, ?_⟩) hHeld ?_ ?_
 rotate_left
 ·
  rintro w' ⟨s0, s1, s2, s3⟩
  go_simp
  with_reducible rfl
 rotate_left
 ·
  exact pS
 refine pure_ (i := 15) (N := some 7) (v := ?_) (a' := ?_) #[true, true, true, true, true, true, true, true, true, true, true, true, true, true, true, true] rfl rfl (any_of HT_.out (by kernel_rfl)) (fun _ _ _ h => h) (Or.inl ⟨by rfl, ?_⟩) ?_ ?_
 rotate_left; exact pI; rotate_left; exact pS
 refine done_ (done_of HT_.out (by kernel_rfl)) ?_
 have hz := T.out.cells
 have hzb := T.out.boxed
 go_upto_region 7 with (fail)
 clear hz hzb
 replace T := aM (T.out.drew)
 refine start_ (n := 9) (S := fun w' => w'.cell? ⟨bo, 2, none⟩ = some (.int .i64 Row) ∧ w'.cell? ⟨bo, 3, none⟩ = some (.int .i64 NN)) (ds := []) #[false, false, false, false, false, false, false, false, false] (by kernel_rfl) rfl rfl ⟨T.out.boxed.2.2.1, T.out.boxed.2.2.2⟩ (fun hHeld => ?_); refine with_tabW pst7.tab7 pst7.bits7 (fun HT_ HW_ => ?_)
 generalize wc.drew = wf at T hHeld ⊢
 refine pure_ (i := 0) (N := some 54) (v := ?_) (a' := ?_) #[true, false, false, false, false, false, false, false, false] rfl rfl (any_of HT_.out (by kernel_rfl)) (fun _ _ _ h => h) (Or.inl ⟨by rfl, ?_⟩) ?_ ?_
 rotate_left; exact pI; rotate_left; exact pS
 refine pure_ (i := 1) (N := some 55) (v := ?_) (a' := ?_) #[true, true, false, false, false, false, false, false, false] rfl rfl (any_of HT_.out (by kernel_rfl)) (fun _ _ _ h => h) (Or.inl ⟨by rfl, ?_⟩) ?_ ?_
 rotate_left; exact pI; rotate_left; exact pS
 refine pure_ (i := 3) (N := some 57) (v := ?_) (a' := ?_) #[true, true, false, true, false, false, false, false, false] rfl rfl (any_of HT_.out (by kernel_rfl)) (fun _ _ _ h => h) (Or.inl ⟨by rfl, ?_⟩) ?_ ?_
 rotate_left; exact pI; rotate_left; exact pS
 refine take_ (i := 2) (N := some 56) (v := ?_) (a' := ?_) #[true, true, true, true, false, false, false, false, false] rfl rfl (take_ofW HT_.out HW_.out (by kernel_rfl)) (fun _ _ _ h => h) (Or.inl ⟨by rfl, ?_⟩) hHeld ?_ ?_
 rotate_left
 ·
  rintro w' ⟨s0, s1⟩
  go_simp
  with_reducible rfl
 rotate_left
 ·
  exact pS
 refine take_ (i := 4) (N := some 58) (v := ?_) (a' := ?_) #[true, true, true, true, true, false, false, false, false] rfl rfl (take_ofW HT_.out HW_.out (by kernel_rfl)) (fun _ _ _ h => h) (Or.inl ⟨by rfl, ?_⟩) hHeld ?_ ?_
 rotate_left
 ·
  rintro w' ⟨s0, s1⟩
  go_simp
  with_reducible rfl
 rotate_left
 ·
  exact pS
 refine one_ (i := 5) (N := some 59) #[true, true, true, true, true, true, false, false, false] rfl rfl (one_of HT_.out (by kernel_rfl)) (by decide) (fun K hK => ?_)
 refine goes_ Try.func34 (by kernel_rfl) rfl #[.int .i64 NN] (by rfl) rfl rfl (by simp only [List.map_toArray, List.map_cons, List.map_nil]; rfl) ?_
 with_reducible refine (madeP.calls k HK.out NN _).mono ?_
 rintro e wd ⟨b1, rfl, -, -, hb⟩
 refine ⟨_, rfl, ?_⟩
 replace T := aM (T.out.below hb)
 clear hb
 refine hK.out _ _ ⟨T.out.boxed.2.2.1, T.out.boxed.2.2.2⟩ (fun hHeld => ?_)
 clear hK K
 refine norm_ (a' := ?_) ?_ ?_
 rotate_left
 ·
  show Act.put _ (some 59) _ = _
  simp only [Act.put, List.setIfInBounds_toArray, List.set_cons_zero, List.set_cons_succ, i64_w, i32_w, IntKind.wrap_u32]
  rfl
 refine one_ (i := 6) (N := some 60) #[true, true, true, true, true, true, true, false, false] rfl rfl (one_of HT_.out (by kernel_rfl)) (by decide) (fun K hK => ?_)
 refine goes_ Try.func33 (by kernel_rfl) rfl #[.pointer (some ⟨t.tb, 0, none⟩), .int .i64 Row, .pointer (some ⟨b1, 0, none⟩)] (by rfl) rfl rfl (by simp only [List.map_toArray, List.map_cons, List.map_nil]; rfl) ?_
 with_reducible refine (blockAddNo.calls (T.out.ht i t HI.out) Row HR.out (some ⟨b1, 0, none⟩)).mono ?_
 rintro e we ⟨rfl, rfl⟩
 refine ⟨_, rfl, ?_⟩
 refine hK.out _ _ ⟨T.out.boxed.2.2.1, T.out.boxed.2.2.2⟩ (fun hHeld => ?_)
 clear hK K
 refine norm_ (a' := ?_) ?_ ?_
 rotate_left
 ·
  show Act.put _ (some 60) _ = _
  simp only [Act.put, List.setIfInBounds_toArray, List.set_cons_zero, List.set_cons_succ, i64_w, i32_w, IntKind.wrap_u32]
  rfl
 refine pure_ (i := 7) (N := some 61) (v := ?_) (a' := ?_) #[true, true, true, true, true, true, true, true, false] rfl rfl (any_of HT_.out (by kernel_rfl)) (fun _ _ _ h => h) (Or.inl ⟨by rfl, ?_⟩) ?_ ?_
 rotate_left; exact pI; rotate_left; exact pS
 refine pure_ (i := 8) (N := some 4) (v := ?_) (a' := ?_) #[true, true, true, true, true, true, true, true, true] rfl rfl (any_of HT_.out (by kernel_rfl)) (fun _ _ _ h => h) (Or.inl ⟨by rfl, ?_⟩) ?_ ?_
 rotate_left; exact pI; rotate_left; exact pS
 refine done_ (done_of HT_.out (by kernel_rfl)) ?_
 try go_wp2
 go_ret
 exact ⟨rfl, T.out.unbox.rest rfl rfl⟩
set_option maxHeartbeats 8000000 in
set_option maxRecDepth 100000 in
theorem stepAddBig.calls (h : PlayAt w0 w pb g s L f TS) (i : Nat) (t : Tab) (hi : TS[i]? = some t) (Tb : Int) (hTb : (if Tb < 0 then 0 else Tb).tmod (TS.length : Int) = (i : Int)) (hT6 : TS.length ≤ 6) (Row NN : Int) (k : Nat) (hk : madeAll k = true) (hR : (t.rows.length : Int) ≤ Row) :
  Calls Try.prog 30 #[.pointer (some ⟨pb, 0, none⟩), .agg #[.int .i64 1, .int .i64 Tb, .int .i64 Row, .int .i64 NN]] w fun e w' => e = .returned (.bool true) ∧ PlayAt w0 w' pb g s L f TS := by
 have HI := aM hi
 have HT6 := aM hT6
 obtain ⟨own, v0, v1, av, rv, h⟩ := h
 obtain ⟨Aa, ac, rfl⟩ := Kd.R_slice h.A
 obtain ⟨Ar, rc, rfl⟩ := Kd.R_slice h.R
 obtain ⟨nT, hnT⟩ : ∃ n, TS.length = n := ⟨_, rfl⟩
 rw [show (List.map (fun b => [Value.pointer (some ⟨b, 0, none⟩)]) (TS.map Tab.tb)).length = nT by rw [List.length_map, List.length_map]; exact hnT, show (TS.map Tab.rows).length = nT by rw [List.length_map]; exact hnT] at h
 rw [hnT] at hTb
 have HTB := aM hTb
 have HNT := aM hnT
 have hin := (List.getElem?_eq_some_iff.mp hi).1
 have HTA : Aside0 ((TS.map Tab.tb)[i]? = some t.tb) := ⟨by rw [List.getElem?_map, hi]; rfl⟩
 obtain ⟨ab, e1, -, -⟩ := h.ptr rfl HTA.out
 obtain ⟨rb, A_, c_, e2, -, -, -⟩ := h.take rfl (show (TS.map Tab.rows)[i]? = some t.rows by rw [List.getElem?_map, hi]; rfl)
 subst e1 e2
 have hn0 : (nT = 0) = False := eq_false (by omega)
 have q0 : ((0 : Int) ≤ (i : Int)) = True := eq_true (by omega)
 have q1 : ((i : Int) < (nT : Int)) = True := eq_true (by omega)
 have q2 : (i < nT) = True := eq_true (by omega)
 have T := aM h
 have HT := aM (h.ht i t hi)
 have HN16 := aM (h.ht i t hi).hn
 have hu63 := Try.underlying63
 have hu57 := Try.underlying57
 have hu30 := Try.underlying30
 have HK := aM hk
 clear hk
 have d1 : decide (0 ≤ Row) = true := decide_eq_true (by omega)
 have d2 : decide (Row < (t.rows.length : Int)) = false := decide_eq_false (by omega)
 have HR := aM (show Row < 0 ∨ (t.rows.length : Int) ≤ Row from .inr hR)
 clear hR
 clear h hi hTb hT6 hnT hin A_ c_ HT
 go_enter Try.func30, Try.ntmps30
 go_upto_region 1 with (((with_reducible refine gate_dst (N := 3) rfl ?_); refine box_event ?hg (N := 3) ?hd (cs := #[.int .i64 1, .int .i64 Tb, .int .i64 Row, .int .i64 NN]) (t := 57) ?hr ?_; (case hd => rfl); (case hg => rfl); (case hr => first | (go_simp; done) | (go_simp; rfl)); intro bo hg_ wa hbox hb; replace T := aM ((T.out.below hb).box hbox); have hz := T.out.cells; have hzb := T.out.boxed; clear hbox hb hg_))
 clear hz hzb
 replace T := aM (T.out.drew)
 refine start_ (n := 10) (S := fun w' => w'.cell? ⟨bo, 1, none⟩ = some (.int .i64 Tb) ∧ w'.cell? ⟨pb, 3, none⟩ = some (.slice (some ⟨ab, 0, none⟩) nT ac)) (ds := []) #[false, false, false, false, false, false, false, false, false, false] (by kernel_rfl) rfl rfl ⟨T.out.boxed.2.1, T.out.cells.2.2.2.1⟩ (fun hHeld => ?_); refine with_tabW pst1.tab1 pst1.bits1 (fun HT_ HW_ => ?_)
 generalize wa.drew = wb at T hHeld ⊢
 refine pure_ (i := 0) (N := some 15) (v := ?_) (a' := ?_) #[true, false, false, false, false, false, false, false, false, false] rfl rfl (any_of HT_.out (by kernel_rfl)) (fun _ _ _ h => h) (Or.inl ⟨by rfl, ?_⟩) ?_ ?_
 rotate_left; exact pI; rotate_left; exact pS
 refine pure_ (i := 3) (N := some 18) (v := ?_) (a' := ?_) #[true, false, false, true, false, false, false, false, false, false] rfl rfl (any_of HT_.out (by kernel_rfl)) (fun _ _ _ h => h) (Or.inl ⟨by rfl, ?_⟩) ?_ ?_
 rotate_left; exact pI; rotate_left; exact pS
 refine pure_ (i := 4) (N := some 19) (v := ?_) (a' := ?_) #[true, false, false, true, true, false, false, false, false, false] rfl rfl (any_of HT_.out (by kernel_rfl)) (fun _ _ _ h => h) (Or.inl ⟨by rfl, ?_⟩) ?_ ?_
 rotate_left; exact pI; rotate_left; exact pS
 refine pure_ (i := 5) (N := some 20) (v := ?_) (a' := ?_) #[true, false, false, true, true, true, false, false, false, false] rfl rfl (any_of HT_.out (by kernel_rfl)) (fun _ _ _ h => h) (Or.inl ⟨by rfl, ?_⟩) ?_ ?_
 rotate_left; exact pI; rotate_left; exact pS
 refine take_ (i := 1) (N := some 16) (v := ?_) (a' := ?_) #[true, true, false, true, true, true, false, false, false, false] rfl rfl (take_ofW HT_.out HW_.out (by kernel_rfl)) (fun _ _ _ h => h) (Or.inl ⟨by rfl, ?_⟩) hHeld ?_ ?_
 rotate_left
 ·
  rintro w' ⟨s0, s1⟩
  go_simp
  with_reducible rfl
 rotate_left
 ·
  exact pS
 refine pure_ (i := 2) (N := some 17) (v := ?_) (a' := ?_) #[true, true, true, true, true, true, false, false, false, false] rfl rfl (any_of HT_.out (by kernel_rfl)) (fun _ _ _ h => h) (Or.inl ⟨by rfl, ?_⟩) ?_ ?_
 rotate_left; exact pI; rotate_left; exact pS
 refine take_ (i := 6) (N := some 21) (v := ?_) (a' := ?_) #[true, true, true, true, true, true, true, false, false, false] rfl rfl (take_ofW HT_.out HW_.out (by kernel_rfl)) (fun _ _ _ h => h) (Or.inl ⟨by rfl, ?_⟩) hHeld ?_ ?_
 rotate_left
 ·
  rintro w' ⟨s0, s1⟩
  go_simp
  with_reducible rfl
 rotate_left
 ·
  exact pS
 refine pure_ (i := 7) (N := some 22) (v := ?_) (a' := ?_) #[true, true, true, true, true, true, true, true, false, false] rfl rfl (any_of HT_.out (by kernel_rfl)) (fun _ _ _ h => h) (Or.inl ⟨by rfl, ?_⟩) ?_ ?_
 rotate_left; exact pI; rotate_left; exact pS
 refine pure_ (i := 8) (N := some 23) (v := ?_) (a' := ?_) #[true, true, true, true, true, true, true, true, true, false] rfl rfl (any_of HT_.out (by kernel_rfl)) (fun _ _ _ h => h) (Or.inl ⟨by rfl, ?_⟩) ?_ ?_
 rotate_left; exact pI; rotate_left; exact pS
 refine pure_ (i := 9) (N := some 5) (v := ?_) (a' := ?_) #[true, true, true, true, true, true, true, true, true, true] rfl rfl (any_of HT_.out (by kernel_rfl)) (fun _ _ _ h => h) (Or.inl ⟨by rfl, ?_⟩) ?_ ?_
 rotate_left; exact pI; rotate_left; exact pS
 refine done_ (done_of HT_.out (by kernel_rfl)) ?_
 generalize (if Tb < 0 then (0 : Int) else Tb) = mx at HTB ⊢
 go_upto_region 2 with (fail)
 rw [HTB.out]
 obtain ⟨rb2, Ac, cc, er, -, hcr, hT⟩ := T.out.take rfl (show (TS.map Tab.rows)[i]? = some t.rows by rw [List.getElem?_map, HI.out]; rfl)
 obtain rfl : rb = rb2 := by injection er with er; injection er
 replace T := aM hT
 have HCR := aM hcr
 clear hcr hT er
 replace T := aM (T.out.drew)
 replace HCR := aM (cell_dr HCR.out)
 refine start_ (n := 16) (S := fun w' => w'.cell? ⟨pb, 3, none⟩ = some (.slice (some ⟨ab, 0, none⟩) nT ac) ∧ w'.cell? ⟨pb, 4, none⟩ = some (.slice (some ⟨rb, 0, none⟩) nT rc) ∧ w'.cell? ⟨ab, i, none⟩ = some (.pointer (some ⟨t.tb, 0, none⟩)) ∧ w'.cell? ⟨rb, i, none⟩ = some (.slice Ac t.rows.length cc)) (ds := []) #[false, false, false, false, false, false, false, false, false, false, false, false, false, false, false, false] (by kernel_rfl) rfl rfl ⟨T.out.cells.2.2.2.1, T.out.cells.2.2.2.2.1, T.out.cellA rfl HTA.out, HCR.out⟩ (fun hHeld => ?_); refine with_tabW pst2.tab2 pst2.bits2 (fun HT_ HW_ => ?_)
 generalize wb.drew = wc at T HCR hHeld ⊢
 refine pure_ (i := 0) (N := some 24) (v := ?_) (a' := ?_) #[true, false, false, false, false, false, false, false, false, false, false, false, false, false, false, false] rfl rfl (any_of HT_.out (by kernel_rfl)) (fun _ _ _ h => h) (Or.inl ⟨by rfl, ?_⟩) ?_ ?_
 rotate_left; exact pI; rotate_left; exact pS
 refine pure_ (i := 1) (N := some 25) (v := ?_) (a' := ?_) #[true, true, false, false, false, false, false, false, false, false, false, false, false, false, false, false] rfl rfl (any_of HT_.out (by kernel_rfl)) (fun _ _ _ h => h) (Or.inl ⟨by rfl, ?_⟩) ?_ ?_
 rotate_left; exact pI; rotate_left; exact pS
 refine pure_ (i := 2) (N := some 26) (v := ?_) (a' := ?_) #[true, true, true, false, false, false, false, false, false, false, false, false, false, false, false, false] rfl rfl (any_of HT_.out (by kernel_rfl)) (fun _ _ _ h => h) (Or.inl ⟨by rfl, ?_⟩) ?_ ?_
 rotate_left; exact pI; rotate_left; exact pS
 refine pure_ (i := 4) (N := some 28) (v := ?_) (a' := ?_) #[true, true, true, false, true, false, false, false, false, false, false, false, false, false, false, false] rfl rfl (any_of HT_.out (by kernel_rfl)) (fun _ _ _ h => h) (Or.inl ⟨by rfl, ?_⟩) ?_ ?_
 rotate_left; exact pI; rotate_left; exact pS
 refine pure_ (i := 7) (N := some 31) (v := ?_) (a' := ?_) #[true, true, true, false, true, false, false, true, false, false, false, false, false, false, false, false] rfl rfl (any_of HT_.out (by kernel_rfl)) (fun _ _ _ h => h) (Or.inl ⟨by rfl, ?_⟩) ?_ ?_
 rotate_left; exact pI; rotate_left; exact pS
 refine pure_ (i := 8) (N := some 32) (v := ?_) (a' := ?_) #[true, true, true, false, true, false, false, true, true, false, false, false, false, false, false, false] rfl rfl (any_of HT_.out (by kernel_rfl)) (fun _ _ _ h => h) (Or.inl ⟨by rfl, ?_⟩) ?_ ?_
 rotate_left; exact pI; rotate_left; exact pS
 refine pure_ (i := 9) (N := some 33) (v := ?_) (a' := ?_) #[true, true, true, false, true, false, false, true, true, true, false, false, false, false, false, false] rfl rfl (any_of HT_.out (by kernel_rfl)) (fun _ _ _ h => h) (Or.inl ⟨by rfl, ?_⟩) ?_ ?_
 rotate_left; exact pI; rotate_left; exact pS
 refine pure_ (i := 11) (N := some 35) (v := ?_) (a' := ?_) #[true, true, true, false, true, false, false, true, true, true, false, true, false, false, false, false] rfl rfl (any_of HT_.out (by kernel_rfl)) (fun _ _ _ h => h) (Or.inl ⟨by rfl, ?_⟩) ?_ ?_
 rotate_left; exact pI; rotate_left; exact pS
 refine take_ (i := 3) (N := some 27) (v := ?_) (a' := ?_) #[true, true, true, true, true, false, false, true, true, true, false, true, false, false, false, false] rfl rfl (take_ofW HT_.out HW_.out (by kernel_rfl)) (fun _ _ _ h => h) (Or.inl ⟨by rfl, ?_⟩) hHeld ?_ ?_
 rotate_left
 ·
  rintro w' ⟨s0, s1, s2, s3⟩
  go_simp
  with_reducible rfl
 rotate_left
 ·
  exact pS
 refine pure_ (i := 5) (N := some 29) (v := ?_) (a' := ?_) #[true, true, true, true, true, true, false, true, true, true, false, true, false, false, false, false] rfl rfl (any_of HT_.out (by kernel_rfl)) (fun _ _ _ h => h) (Or.inl ⟨by rfl, ?_⟩) ?_ ?_
 rotate_left; exact pI; rotate_left; exact pS
 refine take_ (i := 6) (N := some 30) (v := ?_) (a' := ?_) #[true, true, true, true, true, true, true, true, true, true, false, true, false, false, false, false] rfl rfl (take_ofW HT_.out HW_.out (by kernel_rfl)) (fun _ _ _ h => h) (Or.inl ⟨by rfl, ?_⟩) hHeld ?_ ?_
 rotate_left
 ·
  rintro w' ⟨s0, s1, s2, s3⟩
  go_simp
  with_reducible rfl
 rotate_left
 ·
  exact pS
 refine pure_ (i := 14) (N := some 6) (v := ?_) (a' := ?_) #[true, true, true, true, true, true, true, true, true, true, false, true, false, false, true, false] rfl rfl (any_of HT_.out (by kernel_rfl)) (fun _ _ _ h => h) (Or.inl ⟨by rfl, ?_⟩) ?_ ?_
 rotate_left; exact pI; rotate_left; exact pS
 refine take_ (i := 10) (N := some 34) (v := ?_) (a' := ?_) #[true, true, true, true, true, true, true, true, true, true, true, true, false, false, true, false] rfl rfl (take_ofW HT_.out HW_.out (by kernel_rfl)) (fun _ _ _ h => h) (Or.inl ⟨by rfl, ?_⟩) hHeld ?_ ?_
 rotate_left
 ·
  rintro w' ⟨s0, s1, s2, s3⟩
  go_simp
  with_reducible rfl
 rotate_left
 ·
  exact pS
 refine pure_ (i := 12) (N := some 36) (v := ?_) (a' := ?_) #[true, true, true, true, true, true, true, true, true, true, true, true, true, false, true, false] rfl rfl (any_of HT_.out (by kernel_rfl)) (fun _ _ _ h => h) (Or.inl ⟨by rfl, ?_⟩) ?_ ?_
 rotate_left; exact pI; rotate_left; exact pS
 refine take_ (i := 13) (N := some 37) (v := ?_) (a' := ?_) #[true, true, true, true, true, true, true, true, true, true, true, true, true, true, true, false] rfl rfl (take_ofW HT_.out HW_.out (by kernel_rfl)) (fun _ _ _ h => h) (Or.inl ⟨by rfl, ?_⟩) hHeld ?_ ?_
 rotate_left
 ·
  rintro w' ⟨s0, s1, s2, s3⟩
  go_simp
  with_reducible rfl
 rotate_left
 ·
  exact pS
 refine pure_ (i := 15) (N := some 7) (v := ?_) (a' := ?_) #[true, true, true, true, true, true, true, true, true, true, true, true, true, true, true, true] rfl rfl (any_of HT_.out (by kernel_rfl)) (fun _ _ _ h => h) (Or.inl ⟨by rfl, ?_⟩) ?_ ?_
 rotate_left; exact pI; rotate_left; exact pS
 refine done_ (done_of HT_.out (by kernel_rfl)) ?_
 have hz := T.out.cells
 have hzb := T.out.boxed
 go_upto_region 7 with (fail)
 clear hz hzb
 replace T := aM (T.out.drew)
 refine start_ (n := 9) (S := fun w' => w'.cell? ⟨bo, 2, none⟩ = some (.int .i64 Row) ∧ w'.cell? ⟨bo, 3, none⟩ = some (.int .i64 NN)) (ds := []) #[false, false, false, false, false, false, false, false, false] (by kernel_rfl) rfl rfl ⟨T.out.boxed.2.2.1, T.out.boxed.2.2.2⟩ (fun hHeld => ?_); refine with_tabW pst7.tab7 pst7.bits7 (fun HT_ HW_ => ?_)
 generalize wc.drew = wf at T hHeld ⊢
 refine pure_ (i := 0) (N := some 54) (v := ?_) (a' := ?_) #[true, false, false, false, false, false, false, false, false] rfl rfl (any_of HT_.out (by kernel_rfl)) (fun _ _ _ h => h) (Or.inl ⟨by rfl, ?_⟩) ?_ ?_
 rotate_left; exact pI; rotate_left; exact pS
 refine pure_ (i := 1) (N := some 55) (v := ?_) (a' := ?_) #[true, true, false, false, false, false, false, false, false] rfl rfl (any_of HT_.out (by kernel_rfl)) (fun _ _ _ h => h) (Or.inl ⟨by rfl, ?_⟩) ?_ ?_
 rotate_left; exact pI; rotate_left; exact pS
 refine pure_ (i := 3) (N := some 57) (v := ?_) (a' := ?_) #[true, true, false, true, false, false, false, false, false] rfl rfl (any_of HT_.out (by kernel_rfl)) (fun _ _ _ h => h) (Or.inl ⟨by rfl, ?_⟩) ?_ ?_
 rotate_left; exact pI; rotate_left; exact pS
 refine take_ (i := 2) (N := some 56) (v := ?_) (a' := ?_) #[true, true, true, true, false, false, false, false, false] rfl rfl (take_ofW HT_.out HW_.out (by kernel_rfl)) (fun _ _ _ h => h) (Or.inl ⟨by rfl, ?_⟩) hHeld ?_ ?_
 rotate_left
 ·
  rintro w' ⟨s0, s1⟩
  go_simp
  with_reducible rfl
 rotate_left
 ·
  exact pS
 refine take_ (i := 4) (N := some 58) (v := ?_) (a' := ?_) #[true, true, true, true, true, false, false, false, false] rfl rfl (take_ofW HT_.out HW_.out (by kernel_rfl)) (fun _ _ _ h => h) (Or.inl ⟨by rfl, ?_⟩) hHeld ?_ ?_
 rotate_left
 ·
  rintro w' ⟨s0, s1⟩
  go_simp
  with_reducible rfl
 rotate_left
 ·
  exact pS
 refine one_ (i := 5) (N := some 59) #[true, true, true, true, true, true, false, false, false] rfl rfl (one_of HT_.out (by kernel_rfl)) (by decide) (fun K hK => ?_)
 refine goes_ Try.func34 (by kernel_rfl) rfl #[.int .i64 NN] (by rfl) rfl rfl (by simp only [List.map_toArray, List.map_cons, List.map_nil]; rfl) ?_
 with_reducible refine (madeP.calls k HK.out NN _).mono ?_
 rintro e wd ⟨b1, rfl, -, -, hb⟩
 refine ⟨_, rfl, ?_⟩
 replace T := aM (T.out.below hb)
 clear hb
 refine hK.out _ _ ⟨T.out.boxed.2.2.1, T.out.boxed.2.2.2⟩ (fun hHeld => ?_)
 clear hK K
 refine norm_ (a' := ?_) ?_ ?_
 rotate_left
 ·
  show Act.put _ (some 59) _ = _
  simp only [Act.put, List.setIfInBounds_toArray, List.set_cons_zero, List.set_cons_succ, i64_w, i32_w, IntKind.wrap_u32]
  rfl
 refine one_ (i := 6) (N := some 60) #[true, true, true, true, true, true, true, false, false] rfl rfl (one_of HT_.out (by kernel_rfl)) (by decide) (fun K hK => ?_)
 refine goes_ Try.func33 (by kernel_rfl) rfl #[.pointer (some ⟨t.tb, 0, none⟩), .int .i64 Row, .pointer (some ⟨b1, 0, none⟩)] (by rfl) rfl rfl (by simp only [List.map_toArray, List.map_cons, List.map_nil]; rfl) ?_
 with_reducible refine (blockAddNo.calls (T.out.ht i t HI.out) Row HR.out (some ⟨b1, 0, none⟩)).mono ?_
 rintro e we ⟨rfl, rfl⟩
 refine ⟨_, rfl, ?_⟩
 refine hK.out _ _ ⟨T.out.boxed.2.2.1, T.out.boxed.2.2.2⟩ (fun hHeld => ?_)
 clear hK K
 refine norm_ (a' := ?_) ?_ ?_
 rotate_left
 ·
  show Act.put _ (some 60) _ = _
  simp only [Act.put, List.setIfInBounds_toArray, List.set_cons_zero, List.set_cons_succ, i64_w, i32_w, IntKind.wrap_u32]
  rfl
 refine pure_ (i := 7) (N := some 61) (v := ?_) (a' := ?_) #[true, true, true, true, true, true, true, true, false] rfl rfl (any_of HT_.out (by kernel_rfl)) (fun _ _ _ h => h) (Or.inl ⟨by rfl, ?_⟩) ?_ ?_
 rotate_left; exact pI; rotate_left; exact pS
 refine pure_ (i := 8) (N := some 4) (v := ?_) (a' := ?_) #[true, true, true, true, true, true, true, true, true] rfl rfl (any_of HT_.out (by kernel_rfl)) (fun _ _ _ h => h) (Or.inl ⟨by rfl, ?_⟩) ?_ ?_
 rotate_left; exact pI; rotate_left; exact pS
 refine done_ (done_of HT_.out (by kernel_rfl)) ?_
 try go_wp2
 go_ret
 exact ⟨rfl, T.out.unbox.rest rfl rfl⟩
set_option maxHeartbeats 8000000 in
set_option maxRecDepth 100000 in
theorem stepAddFull.calls (h : PlayAt w0 w pb g s L f TS) (i : Nat) (t : Tab) (hi : TS[i]? = some t) (Tb : Int) (hTb : (if Tb < 0 then 0 else Tb).tmod (TS.length : Int) = (i : Int)) (hT6 : TS.length ≤ 6) (NN : Int) (k : Nat) (hk : madeAll k = true) (r : Nat) (l : List Int) (hl : t.rows[r]? = some l) (hll : l.length ≤ 1000) (hfull : ∀ x ∈ L, ¬ x.refs = 0) (hL : L.length ≤ 190) :
  Calls Try.prog 30 #[.pointer (some ⟨pb, 0, none⟩), .agg #[.int .i64 1, .int .i64 Tb, .int .i64 (r : Int), .int .i64 NN]] w fun e w' => e = .returned (.bool true) ∧ PlayAt w0 w' pb g s L f TS := by
 have HI := aM hi
 have HT6 := aM hT6
 obtain ⟨own, v0, v1, av, rv, h⟩ := h
 obtain ⟨Aa, ac, rfl⟩ := Kd.R_slice h.A
 obtain ⟨Ar, rc, rfl⟩ := Kd.R_slice h.R
 obtain ⟨nT, hnT⟩ : ∃ n, TS.length = n := ⟨_, rfl⟩
 rw [show (List.map (fun b => [Value.pointer (some ⟨b, 0, none⟩)]) (TS.map Tab.tb)).length = nT by rw [List.length_map, List.length_map]; exact hnT, show (TS.map Tab.rows).length = nT by rw [List.length_map]; exact hnT] at h
 rw [hnT] at hTb
 have HTB := aM hTb
 have HNT := aM hnT
 have hin := (List.getElem?_eq_some_iff.mp hi).1
 have HTA : Aside0 ((TS.map Tab.tb)[i]? = some t.tb) := ⟨by rw [List.getElem?_map, hi]; rfl⟩
 obtain ⟨ab, e1, -, -⟩ := h.ptr rfl HTA.out
 obtain ⟨rb, A_, c_, e2, -, -, -⟩ := h.take rfl (show (TS.map Tab.rows)[i]? = some t.rows by rw [List.getElem?_map, hi]; rfl)
 subst e1 e2
 have hn0 : (nT = 0) = False := eq_false (by omega)
 have q0 : ((0 : Int) ≤ (i : Int)) = True := eq_true (by omega)
 have q1 : ((i : Int) < (nT : Int)) = True := eq_true (by omega)
 have q2 : (i < nT) = True := eq_true (by omega)
 have T := aM h
 have HT := aM (h.ht i t hi)
 have HN16 := aM (h.ht i t hi).hn
 have hu63 := Try.underlying63
 have hu57 := Try.underlying57
 have hu30 := Try.underlying30
 have HK := aM hk
 clear hk
 have hrl := (List.getElem?_eq_some_iff.mp hl).1
 have d1 : decide (0 ≤ (r : Int)) = true := decide_eq_true (by omega)
 have d2 : decide ((r : Int) < (t.rows.length : Int)) = true := decide_eq_true (by omega)
 have d3 : decide (r < t.rows.length) = true := decide_eq_true hrl
 have rr0 : ((0 : Int) ≤ (r : Int)) = True := eq_true (by omega)
 have rr1 : ((r : Int) < (t.rows.length : Int)) = True := eq_true (by omega)
 have rr2 : (r < t.rows.length) = True := eq_true hrl
 have HRL := aM (show 0 < t.rows.length by omega)
 have HLT := aM hl
 have HLL := aM hll
 clear hrl hl hll
 have HFU := aM hfull
 obtain ⟨r0, hr0⟩ : ∃ r0, RR L = r0 := ⟨_, rfl⟩
 obtain ⟨r1, hr1⟩ : ∃ r1, MM L = r1 := ⟨_, rfl⟩
 have HPUT : Aside0 (credenzaref10_Pool_Put.f 200 (RR L) (MM L) (mk NN) = some (r0, r1, 0, 23)) := ⟨by rw [← hr0, ← hr1]; exact putR_ref (f := 0) (f' := 0) hL (.inr ⟨hfull, rfl, rfl, rfl, rfl⟩)⟩
 have HR0 := aM hr0
 have HR1 := aM hr1
 clear hfull hL hr0 hr1
 clear h hi hTb hT6 hnT hin A_ c_ HT
 go_enter Try.func30, Try.ntmps30
 go_upto_region 1 with (((with_reducible refine gate_dst (N := 3) rfl ?_); refine box_event ?hg (N := 3) ?hd (cs := #[.int .i64 1, .int .i64 Tb, .int .i64 (r : Int), .int .i64 NN]) (t := 57) ?hr ?_; (case hd => rfl); (case hg => rfl); (case hr => first | (go_simp; done) | (go_simp; rfl)); intro bo hg_ wa hbox hb; replace T := aM ((T.out.below hb).box hbox); have hz := T.out.cells; have hzb := T.out.boxed; clear hbox hb hg_))
 clear hz hzb
 replace T := aM (T.out.drew)
 refine start_ (n := 10) (S := fun w' => w'.cell? ⟨bo, 1, none⟩ = some (.int .i64 Tb) ∧ w'.cell? ⟨pb, 3, none⟩ = some (.slice (some ⟨ab, 0, none⟩) nT ac)) (ds := []) #[false, false, false, false, false, false, false, false, false, false] (by kernel_rfl) rfl rfl ⟨T.out.boxed.2.1, T.out.cells.2.2.2.1⟩ (fun hHeld => ?_); refine with_tabW pst1.tab1 pst1.bits1 (fun HT_ HW_ => ?_)
 generalize wa.drew = wb at T hHeld ⊢
 refine pure_ (i := 0) (N := some 15) (v := ?_) (a' := ?_) #[true, false, false, false, false, false, false, false, false, false] rfl rfl (any_of HT_.out (by kernel_rfl)) (fun _ _ _ h => h) (Or.inl ⟨by rfl, ?_⟩) ?_ ?_
 rotate_left; exact pI; rotate_left; exact pS
 refine pure_ (i := 3) (N := some 18) (v := ?_) (a' := ?_) #[true, false, false, true, false, false, false, false, false, false] rfl rfl (any_of HT_.out (by kernel_rfl)) (fun _ _ _ h => h) (Or.inl ⟨by rfl, ?_⟩) ?_ ?_
 rotate_left; exact pI; rotate_left; exact pS
 refine pure_ (i := 4) (N := some 19) (v := ?_) (a' := ?_) #[true, false, false, true, true, false, false, false, false, false] rfl rfl (any_of HT_.out (by kernel_rfl)) (fun _ _ _ h => h) (Or.inl ⟨by rfl, ?_⟩) ?_ ?_
 rotate_left; exact pI; rotate_left; exact pS
 refine pure_ (i := 5) (N := some 20) (v := ?_) (a' := ?_) #[true, false, false, true, true, true, false, false, false, false] rfl rfl (any_of HT_.out (by kernel_rfl)) (fun _ _ _ h => h) (Or.inl ⟨by rfl, ?_⟩) ?_ ?_
 rotate_left; exact pI; rotate_left; exact pS
 refine take_ (i := 1) (N := some 16) (v := ?_) (a' := ?_) #[true, true, false, true, true, true, false, false, false, false] rfl rfl (take_ofW HT_.out HW_.out (by kernel_rfl)) (fun _ _ _ h => h) (Or.inl ⟨by rfl, ?_⟩) hHeld ?_ ?_
 rotate_left
 ·
  rintro w' ⟨s0, s1⟩
  go_simp
  with_reducible rfl
 rotate_left
 ·
  exact pS
 refine pure_ (i := 2) (N := some 17) (v := ?_) (a' := ?_) #[true, true, true, true, true, true, false, false, false, false] rfl rfl (any_of HT_.out (by kernel_rfl)) (fun _ _ _ h => h) (Or.inl ⟨by rfl, ?_⟩) ?_ ?_
 rotate_left; exact pI; rotate_left; exact pS
 refine take_ (i := 6) (N := some 21) (v := ?_) (a' := ?_) #[true, true, true, true, true, true, true, false, false, false] rfl rfl (take_ofW HT_.out HW_.out (by kernel_rfl)) (fun _ _ _ h => h) (Or.inl ⟨by rfl, ?_⟩) hHeld ?_ ?_
 rotate_left
 ·
  rintro w' ⟨s0, s1⟩
  go_simp
  with_reducible rfl
 rotate_left
 ·
  exact pS
 refine pure_ (i := 7) (N := some 22) (v := ?_) (a' := ?_) #[true, true, true, true, true, true, true, true, false, false] rfl rfl (any_of HT_.out (by kernel_rfl)) (fun _ _ _ h => h) (Or.inl ⟨by rfl, ?_⟩) ?_ ?_
 rotate_left; exact pI; rotate_left; exact pS
 refine pure_ (i := 8) (N := some 23) (v := ?_) (a' := ?_) #[true, true, true, true, true, true, true, true, true, false] rfl rfl (any_of HT_.out (by kernel_rfl)) (fun _ _ _ h => h) (Or.inl ⟨by rfl, ?_⟩) ?_ ?_
 rotate_left; exact pI; rotate_left; exact pS
 refine pure_ (i := 9) (N := some 5) (v := ?_) (a' := ?_) #[true, true, true, true, true, true, true, true, true, true] rfl rfl (any_of HT_.out (by kernel_rfl)) (fun _ _ _ h => h) (Or.inl ⟨by rfl, ?_⟩) ?_ ?_
 rotate_left; exact pI; rotate_left; exact pS
 refine done_ (done_of HT_.out (by kernel_rfl)) ?_
 generalize (if Tb < 0 then (0 : Int) else Tb) = mx at HTB ⊢
 go_upto_region 2 with (fail)
 rw [HTB.out]
 obtain ⟨rb2, Ac, cc, er, -, hcr, hT⟩ := T.out.take rfl (show (TS.map Tab.rows)[i]? = some t.rows by rw [List.getElem?_map, HI.out]; rfl)
 obtain rfl : rb = rb2 := by injection er with er; injection er
 replace T := aM hT
 have HCR := aM hcr
 clear hcr hT er
 replace T := aM (T.out.drew)
 replace HCR := aM (cell_dr HCR.out)
 refine start_ (n := 16) (S := fun w' => w'.cell? ⟨pb, 3, none⟩ = some (.slice (some ⟨ab, 0, none⟩) nT ac) ∧ w'.cell? ⟨pb, 4, none⟩ = some (.slice (some ⟨rb, 0, none⟩) nT rc) ∧ w'.cell? ⟨ab, i, none⟩ = some (.pointer (some ⟨t.tb, 0, none⟩)) ∧ w'.cell? ⟨rb, i, none⟩ = some (.slice Ac t.rows.length cc)) (ds := []) #[false, false, false, false, false, false, false, false, false, false, false, false, false, false, false, false] (by kernel_rfl) rfl rfl ⟨T.out.cells.2.2.2.1, T.out.cells.2.2.2.2.1, T.out.cellA rfl HTA.out, HCR.out⟩ (fun hHeld => ?_); refine with_tabW pst2.tab2 pst2.bits2 (fun HT_ HW_ => ?_)
 generalize wb.drew = wc at T HCR hHeld ⊢
 refine pure_ (i := 0) (N := some 24) (v := ?_) (a' := ?_) #[true, false, false, false, false, false, false, false, false, false, false, false, false, false, false, false] rfl rfl (any_of HT_.out (by kernel_rfl)) (fun _ _ _ h => h) (Or.inl ⟨by rfl, ?_⟩) ?_ ?_
 rotate_left; exact pI; rotate_left; exact pS
 refine pure_ (i := 1) (N := some 25) (v := ?_) (a' := ?_) #[true, true, false, false, false, false, false, false, false, false, false, false, false, false, false, false] rfl rfl (any_of HT_.out (by kernel_rfl)) (fun _ _ _ h => h) (Or.inl ⟨by rfl, ?_⟩) ?_ ?_
 rotate_left; exact pI; rotate_left; exact pS
 refine pure_ (i := 2) (N := some 26) (v := ?_) (a' := ?_) #[true, true, true, false, false, false, false, false, false, false, false, false, false, false, false, false] rfl rfl (any_of HT_.out (by kernel_rfl)) (fun _ _ _ h => h) (Or.inl ⟨by rfl, ?_⟩) ?_ ?_
 rotate_left; exact pI; rotate_left; exact pS
 refine pure_ (i := 4) (N := some 28) (v := ?_) (a' := ?_) #[true, true, true, false, true, false, false, false, false, false, false, false, false, false, false, false] rfl rfl (any_of HT_.out (by kernel_rfl)) (fun _ _ _ h => h) (Or.inl ⟨by rfl, ?_⟩) ?_ ?_
 rotate_left; exact pI; rotate_left; exact pS
 refine pure_ (i := 7) (N := some 31) (v := ?_) (a' := ?_) #[true, true, true, false, true, false, false, true, false, false, false, false, false, false, false, false] rfl rfl (any_of HT_.out (by kernel_rfl)) (fun _ _ _ h => h) (Or.inl ⟨by rfl, ?_⟩) ?_ ?_
 rotate_left; exact pI; rotate_left; exact pS
 refine pure_ (i := 8) (N := some 32) (v := ?_) (a' := ?_) #[true, true, true, false, true, false, false, true, true, false, false, false, false, false, false, false] rfl rfl (any_of HT_.out (by kernel_rfl)) (fun _ _ _ h => h) (Or.inl ⟨by rfl, ?_⟩) ?_ ?_
 rotate_left; exact pI; rotate_left; exact pS
 refine pure_ (i := 9) (N := some 33) (v := ?_) (a' := ?_) #[true, true, true, false, true, false, false, true, true, true, false, false, false, false, false, false] rfl rfl (any_of HT_.out (by kernel_rfl)) (fun _ _ _ h => h) (Or.inl ⟨by rfl, ?_⟩) ?_ ?_
 rotate_left; exact pI; rotate_left; exact pS
 refine pure_ (i := 11) (N := some 35) (v := ?_) (a' := ?_) #[true, true, true, false, true, false, false, true, true, true, false, true, false, false, false, false] rfl rfl (any_of HT_.out (by kernel_rfl)) (fun _ _ _ h => h) (Or.inl ⟨by rfl, ?_⟩) ?_ ?_
 rotate_left; exact pI; rotate_left; exact pS
 refine take_ (i := 3) (N := some 27) (v := ?_) (a' := ?_) #[true, true, true, true, true, false, false, true, true, true, false, true, false, false, false, false] rfl rfl (take_ofW HT_.out HW_.out (by kernel_rfl)) (fun _ _ _ h => h) (Or.inl ⟨by rfl, ?_⟩) hHeld ?_ ?_
 rotate_left
 ·
  rintro w' ⟨s0, s1, s2, s3⟩
  go_simp
  with_reducible rfl
 rotate_left
 ·
  exact pS
 refine pure_ (i := 5) (N := some 29) (v := ?_) (a' := ?_) #[true, true, true, true, true, true, false, true, true, true, false, true, false, false, false, false] rfl rfl (any_of HT_.out (by kernel_rfl)) (fun _ _ _ h => h) (Or.inl ⟨by rfl, ?_⟩) ?_ ?_
 rotate_left; exact pI; rotate_left; exact pS
 refine take_ (i := 6) (N := some 30) (v := ?_) (a' := ?_) #[true, true, true, true, true, true, true, true, true, true, false, true, false, false, false, false] rfl rfl (take_ofW HT_.out HW_.out (by kernel_rfl)) (fun _ _ _ h => h) (Or.inl ⟨by rfl, ?_⟩) hHeld ?_ ?_
 rotate_left
 ·
  rintro w' ⟨s0, s1, s2, s3⟩
  go_simp
  with_reducible rfl
 rotate_left
 ·
  exact pS
 refine pure_ (i := 14) (N := some 6) (v := ?_) (a' := ?_) #[true, true, true, true, true, true, true, true, true, true, false, true, false, false, true, false] rfl rfl (any_of HT_.out (by kernel_rfl)) (fun _ _ _ h => h) (Or.inl ⟨by rfl, ?_⟩) ?_ ?_
 rotate_left; exact pI; rotate_left; exact pS
 refine take_ (i := 10) (N := some 34) (v := ?_) (a' := ?_) #[true, true, true, true, true, true, true, true, true, true, true, true, false, false, true, false] rfl rfl (take_ofW HT_.out HW_.out (by kernel_rfl)) (fun _ _ _ h => h) (Or.inl ⟨by rfl, ?_⟩) hHeld ?_ ?_
 rotate_left
 ·
  rintro w' ⟨s0, s1, s2, s3⟩
  go_simp
  with_reducible rfl
 rotate_left
 ·
  exact pS
 refine pure_ (i := 12) (N := some 36) (v := ?_) (a' := ?_) #[true, true, true, true, true, true, true, true, true, true, true, true, true, false, true, false] rfl rfl (any_of HT_.out (by kernel_rfl)) (fun _ _ _ h => h) (Or.inl ⟨by rfl, ?_⟩) ?_ ?_
 rotate_left; exact pI; rotate_left; exact pS
 refine take_ (i := 13) (N := some 37) (v := ?_) (a' := ?_) #[true, true, true, true, true, true, true, true, true, true, true, true, true, true, true, false] rfl rfl (take_ofW HT_.out HW_.out (by kernel_rfl)) (fun _ _ _ h => h) (Or.inl ⟨by rfl, ?_⟩) hHeld ?_ ?_
 rotate_left
 ·
  rintro w' ⟨s0, s1, s2, s3⟩
  go_simp
  with_reducible rfl
 rotate_left
 ·
  exact pS
 refine pure_ (i := 15) (N := some 7) (v := ?_) (a' := ?_) #[true, true, true, true, true, true, true, true, true, true, true, true, true, true, true, true] rfl rfl (any_of HT_.out (by kernel_rfl)) (fun _ _ _ h => h) (Or.inl ⟨by rfl, ?_⟩) ?_ ?_
 rotate_left; exact pI; rotate_left; exact pS
 refine done_ (done_of HT_.out (by kernel_rfl)) ?_
 have hz := T.out.cells
 have hzb := T.out.boxed
 obtain ⟨Ap, cp, ep⟩ := Kd.R_slice T.out.X.r0
 subst ep
 obtain ⟨Aq, cq, eq⟩ := Kd.R_slice T.out.X.r1
 subst eq
 go_upto_region 8 with (fail)
 clear hz hzb
 replace T := aM (T.out.drew)
 refine start_ (n := 16) (S := fun w' => w'.cell? ⟨pb, 1, none⟩ = some (.slice Ap (RR L).length cp) ∧ w'.cell? ⟨pb, 2, none⟩ = some (.slice Aq (MM L).length cq) ∧ w'.cell? ⟨bo, 3, none⟩ = some (.int .i64 NN)) (ds := []) #[false, false, false, false, false, false, false, false, false, false, false, false, false, false, false, false] (by kernel_rfl) rfl rfl ⟨T.out.cells.2.1, T.out.cells.2.2.1, T.out.boxed.2.2.2⟩ (fun hHeld => ?_); refine with_tabW pst8.tab8 pst8.bits8 (fun HT_ HW_ => ?_)
 generalize wc.drew = wf at T hHeld ⊢
 refine pure_ (i := 0) (N := some 63) (v := ?_) (a' := ?_) #[true, false, false, false, false, false, false, false, false, false, false, false, false, false, false, false] rfl rfl (any_of HT_.out (by kernel_rfl)) (fun _ _ _ h => h) (Or.inl ⟨by rfl, ?_⟩) ?_ ?_
 rotate_left; exact pI; rotate_left; exact pS
 refine pure_ (i := 1) (N := some 64) (v := ?_) (a' := ?_) #[true, true, false, false, false, false, false, false, false, false, false, false, false, false, false, false] rfl rfl (any_of HT_.out (by kernel_rfl)) (fun _ _ _ h => h) (Or.inl ⟨by rfl, ?_⟩) ?_ ?_
 rotate_left; exact pI; rotate_left; exact pS
 refine pure_ (i := 2) (N := some 65) (v := ?_) (a' := ?_) #[true, true, true, false, false, false, false, false, false, false, false, false, false, false, false, false] rfl rfl (any_of HT_.out (by kernel_rfl)) (fun _ _ _ h => h) (Or.inl ⟨by rfl, ?_⟩) ?_ ?_
 rotate_left; exact pI; rotate_left; exact pS
 refine pure_ (i := 4) (N := some 67) (v := ?_) (a' := ?_) #[true, true, true, false, true, false, false, false, false, false, false, false, false, false, false, false] rfl rfl (any_of HT_.out (by kernel_rfl)) (fun _ _ _ h => h) (Or.inl ⟨by rfl, ?_⟩) ?_ ?_
 rotate_left; exact pI; rotate_left; exact pS
 refine take_ (i := 3) (N := some 66) (v := ?_) (a' := ?_) #[true, true, true, true, true, false, false, false, false, false, false, false, false, false, false, false] rfl rfl (take_ofW HT_.out HW_.out (by kernel_rfl)) (fun _ _ _ h => h) (Or.inl ⟨by rfl, ?_⟩) hHeld ?_ ?_
 rotate_left
 ·
  rintro w' ⟨s0, s1, s2⟩
  go_simp
  with_reducible rfl
 rotate_left
 ·
  exact pS
 refine take_ (i := 5) (N := some 68) (v := ?_) (a' := ?_) #[true, true, true, true, true, true, false, false, false, false, false, false, false, false, false, false] rfl rfl (take_ofW HT_.out HW_.out (by kernel_rfl)) (fun _ _ _ h => h) (Or.inl ⟨by rfl, ?_⟩) hHeld ?_ ?_
 rotate_left
 ·
  rintro w' ⟨s0, s1, s2⟩
  go_simp
  with_reducible rfl
 rotate_left
 ·
  exact pS
 refine pure_ (i := 6) (N := some 69) (v := ?_) (a' := ?_) #[true, true, true, true, true, true, true, false, false, false, false, false, false, false, false, false] rfl rfl (any_of HT_.out (by kernel_rfl)) (fun _ _ _ h => h) (Or.inl ⟨by rfl, ?_⟩) ?_ ?_
 rotate_left; exact pI; rotate_left; exact pS
 refine join_ (σ := (Option Addr × Nat) × (Option Addr × Nat) × Nat) 3 #[true, true, true, true, true, true, true, true, true, true, true, true, true, false, false, false] (fun st => [(70, .tuple #[.agg #[.slice st.1.1 r0.length st.1.2, .slice st.2.1.1 r1.length st.2.1.2], .int .i64 0, .int .i64 23]), (62, .tuple #[.agg #[.slice st.1.1 r0.length st.1.2, .slice st.2.1.1 r1.length st.2.1.2], .int .i64 0, .int .i64 23]), (71, .agg #[.slice st.1.1 r0.length st.1.2, .slice st.2.1.1 r1.length st.2.1.2]), (72, .int .i64 0), (73, .int .i64 23), (9, .pointer (some ⟨st.2.2, 0, none⟩))]) (fun st w' => (∃ own', PlayO w0 w' own' pb g s L f (.slice st.1.1 r0.length st.1.2) (.slice st.2.1.1 r1.length st.2.1.2) r0 r1 ((.slice Ap (RR L).length cp)) ((.slice Aq (MM L).length cq)) (.slice (some ⟨ab, 0, none⟩) nT ac) (.slice (some ⟨rb, 0, none⟩) nT rc) (.slice (some ⟨ab, 0, none⟩) nT ac) (TS.map Tab.tb) (.slice (some ⟨rb, 0, none⟩) nT rc) (TS.map Tab.rows) TS (.slice Ac t.rows.length cc) t.rows ([(bo, #[.int .i64 1, .int .i64 Tb, .int .i64 (r : Int), .int .i64 NN])])) ∧ Aside0 (w'.heap[st.2.2]? = some (.cells #[.slice none 0 0, .slice none 0 0] 30 (0, 0))) ∧ Aside0 (w0.heap.size ≤ st.2.2)) ?_ ?_
 rotate_left
 ·
  intro hCont
  refine two_ (i := 7) (j := 12) (Ni := some 70) (Nj := some 9) #[true, true, true, true, true, true, true, true, false, false, false, false, false, false, false, false] #[true, true, true, true, true, true, true, false, false, false, false, false, true, false, false, false] rfl rfl rfl rfl (two_of HT_.out (by kernel_rfl)) (by decide) (by decide) (fun K hK => ?_) (fun K hK => ?_)
  ·
   skip
   refine goes_ Try.func41 (by kernel_rfl) rfl #[.agg #[(.slice Ap (RR L).length cp), (.slice Aq (MM L).length cq)], .int .i64 (mk NN)] (by rfl) rfl rfl (by simp only [List.map_toArray, List.map_cons, List.map_nil]; rfl) ?_
   with_reducible refine (credenzaref10_Pool_Put.calls 200 _ _ (RR L) _ _ (MM L) (mk NN) r0 r1 0 23 w0 _ T.out.HB T.out.X.r0 T.out.X.ne T.out.X.r1 T.out.X.ne2 HPUT.out).mono ?_
   rintro e wd ⟨u0, u1, rfl, h0, h1, hb, hkp⟩
   refine ⟨_, rfl, ?_⟩
   obtain ⟨B0, d0, rfl⟩ := Kd.R_slice h0
   obtain ⟨B1, d1_, rfl⟩ := Kd.R_slice h1
   try replace BX := aM (T.out.ref_blk hkp BX.out (by decide))
   obtain ⟨own2, hT⟩ := T.out.ref hkp (XAt.of h0 h1) (XAt.own_of (B' := 0) h0 h1) hb
   replace T := aM hT
   clear h0 h1 hb hkp hT
   refine hK.out _ _ ⟨T.out.cells.2.1, T.out.cells.2.2.1, T.out.boxed.2.2.2⟩ (fun hHeld => ?_)
   clear hK K
   refine norm_ (a' := ?_) ?_ ?_
   rotate_left
   ·
    show Act.put _ (some 70) _ = _
    simp only [Act.put, List.setIfInBounds_toArray, List.set_cons_zero, List.set_cons_succ, i64_w, i32_w, IntKind.wrap_u32]
    rfl
   refine pure_ (i := 8) (N := some 62) (v := ?_) (a' := ?_) #[true, true, true, true, true, true, true, true, true, false, false, false, false, false, false, false] rfl rfl (any_of HT_.out (by kernel_rfl)) (fun _ _ _ h => h) (Or.inl ⟨by rfl, ?_⟩) ?_ ?_
   rotate_left; exact pI; rotate_left; exact pS
   refine pure_ (i := 9) (N := some 71) (v := ?_) (a' := ?_) #[true, true, true, true, true, true, true, true, true, true, false, false, false, false, false, false] rfl rfl (any_of HT_.out (by kernel_rfl)) (fun _ _ _ h => h) (Or.inl ⟨by rfl, ?_⟩) ?_ ?_
   rotate_left; exact pI; rotate_left; exact pS
   refine pure_ (i := 10) (N := some 72) (v := ?_) (a' := ?_) #[true, true, true, true, true, true, true, true, true, true, true, false, false, false, false, false] rfl rfl (any_of HT_.out (by kernel_rfl)) (fun _ _ _ h => h) (Or.inl ⟨by rfl, ?_⟩) ?_ ?_
   rotate_left; exact pI; rotate_left; exact pS
   refine pure_ (i := 11) (N := some 73) (v := ?_) (a' := ?_) #[true, true, true, true, true, true, true, true, true, true, true, true, false, false, false, false] rfl rfl (any_of HT_.out (by kernel_rfl)) (fun _ _ _ h => h) (Or.inl ⟨by rfl, ?_⟩) ?_ ?_
   rotate_left; exact pI; rotate_left; exact pS
   refine one_ (i := 12) (N := some 9) #[true, true, true, true, true, true, true, true, true, true, true, true, true, false, false, false] rfl rfl (one_of HT_.out (by kernel_rfl)) (by decide) (fun K hK => ?_)
   refine box_step (by rfl) rfl (cs := #[.slice none 0 0, .slice none 0 0]) (t := 30) ?hr ?_
   (case hr => first | (go_simp; done) | (go_simp; rfl))
   intro bx hge wx hbox hb
   have BX := aM hbox
   have GX := aM (show w0.heap.size ≤ bx by rw [hge]; exact below_size T.out.HB)
   replace T := aM (T.out.below hb)
   clear hge hbox hb
   refine hK.out _ _ ⟨T.out.cells.2.1, T.out.cells.2.2.1, T.out.boxed.2.2.2⟩ (fun hHeld => ?_)
   clear hK K
   refine norm_ (a' := ?_) ?_ ?_
   rotate_left
   ·
    show Act.put _ (some 9) _ = _
    simp only [Act.put, List.setIfInBounds_toArray, List.set_cons_zero, List.set_cons_succ, i64_w, i32_w, IntKind.wrap_u32]
    rfl
   exact norm_ (by simp only [putAll, Act.put, List.setIfInBounds_toArray, List.set_cons_zero, List.set_cons_succ]) (hCont ((B0, d0), (B1, d1_), bx) _ ⟨⟨_, T.out⟩, BX, GX⟩)
  ·
   skip
   refine box_step (by rfl) rfl (cs := #[.slice none 0 0, .slice none 0 0]) (t := 30) ?hr ?_
   (case hr => first | (go_simp; done) | (go_simp; rfl))
   intro bx hge wx hbox hb
   have BX := aM hbox
   have GX := aM (show w0.heap.size ≤ bx by rw [hge]; exact below_size T.out.HB)
   replace T := aM (T.out.below hb)
   clear hge hbox hb
   refine hK.out _ _ ⟨T.out.cells.2.1, T.out.cells.2.2.1, T.out.boxed.2.2.2⟩ (fun hHeld => ?_)
   clear hK K
   refine norm_ (a' := ?_) ?_ ?_
   rotate_left
   ·
    show Act.put _ (some 9) _ = _
    simp only [Act.put, List.setIfInBounds_toArray, List.set_cons_zero, List.set_cons_succ, i64_w, i32_w, IntKind.wrap_u32]
    rfl
   refine one_ (i := 7) (N := some 70) #[true, true, true, true, true, true, true, true, false, false, false, false, true, false, false, false] rfl rfl (one_of HT_.out (by kernel_rfl)) (by decide) (fun K hK => ?_)
   refine goes_ Try.func41 (by kernel_rfl) rfl #[.agg #[(.slice Ap (RR L).length cp), (.slice Aq (MM L).length cq)], .int .i64 (mk NN)] (by rfl) rfl rfl (by simp only [List.map_toArray, List.map_cons, List.map_nil]; rfl) ?_
   with_reducible refine (credenzaref10_Pool_Put.calls 200 _ _ (RR L) _ _ (MM L) (mk NN) r0 r1 0 23 w0 _ T.out.HB T.out.X.r0 T.out.X.ne T.out.X.r1 T.out.X.ne2 HPUT.out).mono ?_
   rintro e wd ⟨u0, u1, rfl, h0, h1, hb, hkp⟩
   refine ⟨_, rfl, ?_⟩
   obtain ⟨B0, d0, rfl⟩ := Kd.R_slice h0
   obtain ⟨B1, d1_, rfl⟩ := Kd.R_slice h1
   try replace BX := aM (T.out.ref_blk hkp BX.out (by decide))
   obtain ⟨own2, hT⟩ := T.out.ref hkp (XAt.of h0 h1) (XAt.own_of (B' := 0) h0 h1) hb
   replace T := aM hT
   clear h0 h1 hb hkp hT
   refine hK.out _ _ ⟨T.out.cells.2.1, T.out.cells.2.2.1, T.out.boxed.2.2.2⟩ (fun hHeld => ?_)
   clear hK K
   refine norm_ (a' := ?_) ?_ ?_
   rotate_left
   ·
    show Act.put _ (some 70) _ = _
    simp only [Act.put, List.setIfInBounds_toArray, List.set_cons_zero, List.set_cons_succ, i64_w, i32_w, IntKind.wrap_u32]
    rfl
   refine pure_ (i := 8) (N := some 62) (v := ?_) (a' := ?_) #[true, true, true, true, true, true, true, true, true, false, false, false, true, false, false, false] rfl rfl (any_of HT_.out (by kernel_rfl)) (fun _ _ _ h => h) (Or.inl ⟨by rfl, ?_⟩) ?_ ?_
   rotate_left; exact pI; rotate_left; exact pS
   refine pure_ (i := 9) (N := some 71) (v := ?_) (a' := ?_) #[true, true, true, true, true, true, true, true, true, true, false, false, true, false, false, false] rfl rfl (any_of HT_.out (by kernel_rfl)) (fun _ _ _ h => h) (Or.inl ⟨by rfl, ?_⟩) ?_ ?_
   rotate_left; exact pI; rotate_left; exact pS
   refine pure_ (i := 10) (N := some 72) (v := ?_) (a' := ?_) #[true, true, true, true, true, true, true, true, true, true, true, false, true, false, false, false] rfl rfl (any_of HT_.out (by kernel_rfl)) (fun _ _ _ h => h) (Or.inl ⟨by rfl, ?_⟩) ?_ ?_
   rotate_left; exact pI; rotate_left; exact pS
   refine pure_ (i := 11) (N := some 73) (v := ?_) (a' := ?_) #[true, true, true, true, true, true, true, true, true, true, true, true, true, false, false, false] rfl rfl (any_of HT_.out (by kernel_rfl)) (fun _ _ _ h => h) (Or.inl ⟨by rfl, ?_⟩) ?_ ?_
   rotate_left; exact pI; rotate_left; exact pS
   exact norm_ (by simp only [putAll, Act.put, List.setIfInBounds_toArray, List.set_cons_zero, List.set_cons_succ]) (hCont ((B0, d0), (B1, d1_), bx) _ ⟨⟨_, T.out⟩, BX, GX⟩)
 clear T
 rintro ⟨⟨B0, d0⟩, ⟨B1, d1_⟩, bx⟩ wd ⟨⟨own2, hT⟩, BX, GX⟩
 dsimp only at hT BX GX ⊢
 have T := aM hT
 have hHeld : wd.cell? ⟨pb, 1, none⟩ = some (.slice Ap (RR L).length cp) ∧ wd.cell? ⟨pb, 2, none⟩ = some (.slice Aq (MM L).length cq) ∧ wd.cell? ⟨bo, 3, none⟩ = some (.int .i64 NN) := ⟨T.out.cells.2.1, T.out.cells.2.2.1, T.out.boxed.2.2.2⟩
 clear hT
 refine norm_ (a' := ?_) ?_ ?_
 rotate_left
 ·
  simp only [putAll, Act.put, List.setIfInBounds_toArray, List.set_cons_zero, List.set_cons_succ]
  rfl
 refine one_ (i := 13) (N := none) #[true, true, true, true, true, true, true, true, true, true, true, true, true, true, false, false] rfl rfl (one_of HT_.out (by kernel_rfl)) (by decide) (fun K hK => ?_)
 have hb2 := bx2 BX.out
 refine skip_ (w1 := ?_) (by rfl) rfl ?_ ?_
 rotate_left
 ·
  go_simp
  rfl
 clear hb2
 have BX2 := aM (blk_put (blk_put BX.out 0 (Value.slice B0 r0.length d0) rfl) 1 (Value.slice B1 r1.length d1_) (cs' := #[(Value.slice B0 r0.length d0), (Value.slice B1 r1.length d1_)]) rfl)
 replace T := aM ((T.out.aside BX.out GX.out 0 (Value.slice B0 r0.length d0)).aside (blk_put BX.out 0 (Value.slice B0 r0.length d0) rfl) GX.out 1 (Value.slice B1 r1.length d1_))
 clear BX
 refine hK.out _ _ ⟨T.out.cells.2.1, T.out.cells.2.2.1, T.out.boxed.2.2.2⟩ (fun hHeld => ?_)
 clear hK K
 refine pure_ (i := 14) (N := some 10) (v := ?_) (a' := ?_) #[true, true, true, true, true, true, true, true, true, true, true, true, true, true, true, false] rfl rfl (any_of HT_.out (by kernel_rfl)) (fun _ _ _ h => h) (Or.inl ⟨by rfl, ?_⟩) ?_ ?_
 rotate_left; exact pI; rotate_left; exact pS
 refine pure_ (i := 15) (N := some 11) (v := ?_) (a' := ?_) #[true, true, true, true, true, true, true, true, true, true, true, true, true, true, true, true] rfl rfl (any_of HT_.out (by kernel_rfl)) (fun _ _ _ h => h) (Or.inl ⟨by rfl, ?_⟩) ?_ ?_
 rotate_left; exact pI; rotate_left; exact pS
 refine done_ (done_of HT_.out (by kernel_rfl)) ?_
 generalize (wd.setCell ⟨bx, 0, none⟩ (Value.slice B0 r0.length d0)).setCell ⟨bx, 1, none⟩ (Value.slice B1 r1.length d1_) = wg at T BX2 hHeld ⊢
 have hz := T.out.cells
 have hzx := bx2 BX2.out
 go_upto_region 10 with (fail)
 replace T := aM (T.out.setX (Value.slice B0 r0.length d0) (Value.slice B1 r1.length d1_))
 clear hz hzx BX2 GX
 generalize (wg.setCell ⟨pb, 1, none⟩ (Value.slice B0 r0.length d0)).setCell ⟨pb, 2, none⟩ (Value.slice B1 r1.length d1_) = wh at T ⊢
 have hz := T.out.cells
 have hzb := T.out.boxed
 go_upto_region 14 with (fail)
 clear hz hzb
 replace T := aM (T.out.drew)
 refine start_ (n := 10) (S := fun w' => w'.cell? ⟨bo, 2, none⟩ = some (.int .i64 (r : Int)) ∧ w'.cell? ⟨bo, 3, none⟩ = some (.int .i64 NN)) (ds := []) #[false, false, false, false, false, false, false, false, false, false] (by kernel_rfl) rfl rfl ⟨T.out.boxed.2.2.1, T.out.boxed.2.2.2⟩ (fun hHeld => ?_); refine with_tabW pst14.tab14 pst14.bits14 (fun HT_ HW_ => ?_)
 generalize wh.drew = wz at T hHeld ⊢
 refine pure_ (i := 0) (N := some 101) (v := ?_) (a' := ?_) #[true, false, false, false, false, false, false, false, false, false] rfl rfl (any_of HT_.out (by kernel_rfl)) (fun _ _ _ h => h) (Or.inl ⟨by rfl, ?_⟩) ?_ ?_
 rotate_left; exact pI; rotate_left; exact pS
 refine pure_ (i := 1) (N := some 102) (v := ?_) (a' := ?_) #[true, true, false, false, false, false, false, false, false, false] rfl rfl (any_of HT_.out (by kernel_rfl)) (fun _ _ _ h => h) (Or.inl ⟨by rfl, ?_⟩) ?_ ?_
 rotate_left; exact pI; rotate_left; exact pS
 refine pure_ (i := 3) (N := some 104) (v := ?_) (a' := ?_) #[true, true, false, true, false, false, false, false, false, false] rfl rfl (any_of HT_.out (by kernel_rfl)) (fun _ _ _ h => h) (Or.inl ⟨by rfl, ?_⟩) ?_ ?_
 rotate_left; exact pI; rotate_left; exact pS
 refine pure_ (i := 7) (N := some 108) (v := ?_) (a' := ?_) #[true, true, false, true, false, false, false, true, false, false] rfl rfl (any_of HT_.out (by kernel_rfl)) (fun _ _ _ h => h) (Or.inl ⟨by rfl, ?_⟩) ?_ ?_
 rotate_left; exact pI; rotate_left; exact pS
 refine take_ (i := 2) (N := some 103) (v := ?_) (a' := ?_) #[true, true, true, true, false, false, false, true, false, false] rfl rfl (take_ofW HT_.out HW_.out (by kernel_rfl)) (fun _ _ _ h => h) (Or.inl ⟨by rfl, ?_⟩) hHeld ?_ ?_
 rotate_left
 ·
  rintro w' ⟨s0, s1⟩
  go_simp
  with_reducible rfl
 rotate_left
 ·
  exact pS
 refine take_ (i := 4) (N := some 105) (v := ?_) (a' := ?_) #[true, true, true, true, true, false, false, true, false, false] rfl rfl (take_ofW HT_.out HW_.out (by kernel_rfl)) (fun _ _ _ h => h) (Or.inl ⟨by rfl, ?_⟩) hHeld ?_ ?_
 rotate_left
 ·
  rintro w' ⟨s0, s1⟩
  go_simp
  with_reducible rfl
 rotate_left
 ·
  exact pS
 refine one_ (i := 5) (N := some 106) #[true, true, true, true, true, true, false, true, false, false] rfl rfl (one_of HT_.out (by kernel_rfl)) (by decide) (fun K hK => ?_)
 refine goes_ Try.func34 (by kernel_rfl) rfl #[.int .i64 NN] (by rfl) rfl rfl (by simp only [List.map_toArray, List.map_cons, List.map_nil]; rfl) ?_
 with_reducible refine (madeP.calls k HK.out NN _).mono ?_
 rintro e wi ⟨b1, rfl, hq, hge, hb⟩
 refine ⟨_, rfl, ?_⟩
 have hgl := T.out.P.gl
 have hsl := T.out.P.sl
 have Q := aM hq
 have N1 : Aside0 (b1 ≠ g ∧ b1 ≠ s) := ⟨by omega, by omega⟩
 replace T := aM (T.out.below hb)
 clear hgl hsl hge hq hb
 refine hK.out _ _ ⟨T.out.boxed.2.2.1, T.out.boxed.2.2.2⟩ (fun hHeld => ?_)
 clear hK K
 refine norm_ (a' := ?_) ?_ ?_
 rotate_left
 ·
  show Act.put _ (some 106) _ = _
  simp only [Act.put, List.setIfInBounds_toArray, List.set_cons_zero, List.set_cons_succ, i64_w, i32_w, IntKind.wrap_u32]
  rfl
 refine one_ (i := 6) (N := some 107) #[true, true, true, true, true, true, true, true, false, false] rfl rfl (one_of HT_.out (by kernel_rfl)) (by decide) (fun K hK => ?_)
 refine goes_ Try.func33 (by kernel_rfl) rfl #[.pointer (some ⟨t.tb, 0, none⟩), .int .i64 (r : Int), .pointer (some ⟨b1, 0, none⟩)] (by rfl) rfl rfl (by simp only [List.map_toArray, List.map_cons, List.map_nil]; rfl) ?_
 with_reducible refine (blockAddFull.calls (T.out.ht i t HI.out) T.out.P HFU.out r l HLT.out (some ⟨b1, 0, none⟩)).mono ?_
 rintro e wj ⟨rfl, rfl⟩
 refine ⟨_, rfl, ?_⟩
 refine hK.out _ _ ⟨T.out.boxed.2.2.1, T.out.boxed.2.2.2⟩ (fun hHeld => ?_)
 clear hK K
 refine norm_ (a' := ?_) ?_ ?_
 rotate_left
 ·
  show Act.put _ (some 107) _ = _
  simp only [Act.put, List.setIfInBounds_toArray, List.set_cons_zero, List.set_cons_succ, i64_w, i32_w, IntKind.wrap_u32]
  rfl
 refine pure_ (i := 8) (N := some 109) (v := ?_) (a' := ?_) #[true, true, true, true, true, true, true, true, true, false] rfl rfl (any_of HT_.out (by kernel_rfl)) (fun _ _ _ h => h) (Or.inl ⟨by rfl, ?_⟩) ?_ ?_
 rotate_left; exact pI; rotate_left; exact pS
 refine pure_ (i := 9) (N := some 4) (v := ?_) (a' := ?_) #[true, true, true, true, true, true, true, true, true, true] rfl rfl (any_of HT_.out (by kernel_rfl)) (fun _ _ _ h => h) (Or.inl ⟨by rfl, ?_⟩) ?_ ?_
 rotate_left; exact pI; rotate_left; exact pS
 refine done_ (done_of HT_.out (by kernel_rfl)) ?_
 try go_wp2
 go_ret
 have hfin := T.out
 rw [← HR0.out, ← HR1.out] at hfin
 exact ⟨rfl, hfin.unbox.rest rfl rfl⟩
set_option maxHeartbeats 8000000 in
set_option maxRecDepth 100000 in
theorem stepAddHit.calls (h : PlayAt w0 w pb g s L f TS) (i : Nat) (t : Tab) (hi : TS[i]? = some t) (Tb : Int) (hTb : (if Tb < 0 then 0 else Tb).tmod (TS.length : Int) = (i : Int)) (hT6 : TS.length ≤ 6) (NN : Int) (k : Nat) (hk : madeAll k = true) (r : Nat) (l : List Int) (hl : t.rows[r]? = some l) (hll : l.length ≤ 1000) (kk : Nat) (y : Slot) (hkk : L[kk]? = some y) (hy : y.refs = 0) (hbef : ∀ (j : Nat) (x : Slot), j < kk → L[j]? = some x → ¬ x.refs = 0) (hL : L.length ≤ 190) (hf : t.rows.flatten.length ≤ 1000) (hff : -999999 ≤ f) :
  Calls Try.prog 30 #[.pointer (some ⟨pb, 0, none⟩), .agg #[.int .i64 1, .int .i64 Tb, .int .i64 (r : Int), .int .i64 NN]] w fun e w' => e = .returned (.bool true) ∧ AddR w0 w' pb g s L f TS i t r l kk NN := by
 have HI := aM hi
 have HT6 := aM hT6
 obtain ⟨own, v0, v1, av, rv, h⟩ := h
 obtain ⟨Aa, ac, rfl⟩ := Kd.R_slice h.A
 obtain ⟨Ar, rc, rfl⟩ := Kd.R_slice h.R
 obtain ⟨nT, hnT⟩ : ∃ n, TS.length = n := ⟨_, rfl⟩
 rw [show (List.map (fun b => [Value.pointer (some ⟨b, 0, none⟩)]) (TS.map Tab.tb)).length = nT by rw [List.length_map, List.length_map]; exact hnT, show (TS.map Tab.rows).length = nT by rw [List.length_map]; exact hnT] at h
 rw [hnT] at hTb
 have HTB := aM hTb
 have HNT := aM hnT
 have hin := (List.getElem?_eq_some_iff.mp hi).1
 have HTA : Aside0 ((TS.map Tab.tb)[i]? = some t.tb) := ⟨by rw [List.getElem?_map, hi]; rfl⟩
 obtain ⟨ab, e1, -, -⟩ := h.ptr rfl HTA.out
 obtain ⟨rb, A_, c_, e2, -, -, -⟩ := h.take rfl (show (TS.map Tab.rows)[i]? = some t.rows by rw [List.getElem?_map, hi]; rfl)
 subst e1 e2
 have hn0 : (nT = 0) = False := eq_false (by omega)
 have q0 : ((0 : Int) ≤ (i : Int)) = True := eq_true (by omega)
 have q1 : ((i : Int) < (nT : Int)) = True := eq_true (by omega)
 have q2 : (i < nT) = True := eq_true (by omega)
 have T := aM h
 have HT := aM (h.ht i t hi)
 have HN16 := aM (h.ht i t hi).hn
 have hu63 := Try.underlying63
 have hu57 := Try.underlying57
 have hu30 := Try.underlying30
 have HK := aM hk
 clear hk
 have hrl := (List.getElem?_eq_some_iff.mp hl).1
 have d1 : decide (0 ≤ (r : Int)) = true := decide_eq_true (by omega)
 have d2 : decide ((r : Int) < (t.rows.length : Int)) = true := decide_eq_true (by omega)
 have d3 : decide (r < t.rows.length) = true := decide_eq_true hrl
 have rr0 : ((0 : Int) ≤ (r : Int)) = True := eq_true (by omega)
 have rr1 : ((r : Int) < (t.rows.length : Int)) = True := eq_true (by omega)
 have rr2 : (r < t.rows.length) = True := eq_true hrl
 have HRL := aM (show 0 < t.rows.length by omega)
 have HLT := aM hl
 have HLL := aM hll
 clear hrl hl hll
 have HKK := aM hkk
 have HY := aM hy
 have HBEF := aM hbef
 have HFF := aM hff
 have HCPY : Aside0 (credenzalaw11_copied.f 200 t.rows = some t.rows) := ⟨copied_ref _ (by have := (h.ht i t hi).hn; omega) (by omega)⟩
 obtain ⟨r0, hr0⟩ : ∃ r0, (RR L).set kk 1 = r0 := ⟨_, rfl⟩
 obtain ⟨r1, hr1⟩ : ∃ r1, (MM L).set kk (mk NN) = r1 := ⟨_, rfl⟩
 have HPUT : Aside0 (credenzaref10_Pool_Put.f 200 (RR L) (MM L) (mk NN) = some (r0, r1, (kk : Int), 0)) := ⟨by rw [← hr0, ← hr1]; have h_ := putR_ref (L := L) (L' := L.set kk ⟨1, mk NN, some 0⟩) (f := f) (f' := f + -1) (m := mk NN) (i := (kk : Int)) (e := 0) hL (.inl ⟨kk, y, 0, hkk, hy, hbef, rfl, rfl, rfl, rfl⟩); rw [h_, RR, MM, List.map_set, List.map_set]; rfl⟩
 have HR0 := aM hr0
 have HR1 := aM hr1
 clear hkk hy hbef hff hL hf hr0 hr1
 clear h hi hTb hT6 hnT hin A_ c_ HT
 go_enter Try.func30, Try.ntmps30
 go_upto_region 1 with (((with_reducible refine gate_dst (N := 3) rfl ?_); refine box_event ?hg (N := 3) ?hd (cs := #[.int .i64 1, .int .i64 Tb, .int .i64 (r : Int), .int .i64 NN]) (t := 57) ?hr ?_; (case hd => rfl); (case hg => rfl); (case hr => first | (go_simp; done) | (go_simp; rfl)); intro bo hg_ wa hbox hb; replace T := aM ((T.out.below hb).box hbox); have hz := T.out.cells; have hzb := T.out.boxed; clear hbox hb hg_))
 clear hz hzb
 replace T := aM (T.out.drew)
 refine start_ (n := 10) (S := fun w' => w'.cell? ⟨bo, 1, none⟩ = some (.int .i64 Tb) ∧ w'.cell? ⟨pb, 3, none⟩ = some (.slice (some ⟨ab, 0, none⟩) nT ac)) (ds := []) #[false, false, false, false, false, false, false, false, false, false] (by kernel_rfl) rfl rfl ⟨T.out.boxed.2.1, T.out.cells.2.2.2.1⟩ (fun hHeld => ?_); refine with_tabW pst1.tab1 pst1.bits1 (fun HT_ HW_ => ?_)
 generalize wa.drew = wb at T hHeld ⊢
 refine pure_ (i := 0) (N := some 15) (v := ?_) (a' := ?_) #[true, false, false, false, false, false, false, false, false, false] rfl rfl (any_of HT_.out (by kernel_rfl)) (fun _ _ _ h => h) (Or.inl ⟨by rfl, ?_⟩) ?_ ?_
 rotate_left; exact pI; rotate_left; exact pS
 refine pure_ (i := 3) (N := some 18) (v := ?_) (a' := ?_) #[true, false, false, true, false, false, false, false, false, false] rfl rfl (any_of HT_.out (by kernel_rfl)) (fun _ _ _ h => h) (Or.inl ⟨by rfl, ?_⟩) ?_ ?_
 rotate_left; exact pI; rotate_left; exact pS
 refine pure_ (i := 4) (N := some 19) (v := ?_) (a' := ?_) #[true, false, false, true, true, false, false, false, false, false] rfl rfl (any_of HT_.out (by kernel_rfl)) (fun _ _ _ h => h) (Or.inl ⟨by rfl, ?_⟩) ?_ ?_
 rotate_left; exact pI; rotate_left; exact pS
 refine pure_ (i := 5) (N := some 20) (v := ?_) (a' := ?_) #[true, false, false, true, true, true, false, false, false, false] rfl rfl (any_of HT_.out (by kernel_rfl)) (fun _ _ _ h => h) (Or.inl ⟨by rfl, ?_⟩) ?_ ?_
 rotate_left; exact pI; rotate_left; exact pS
 refine take_ (i := 1) (N := some 16) (v := ?_) (a' := ?_) #[true, true, false, true, true, true, false, false, false, false] rfl rfl (take_ofW HT_.out HW_.out (by kernel_rfl)) (fun _ _ _ h => h) (Or.inl ⟨by rfl, ?_⟩) hHeld ?_ ?_
 rotate_left
 ·
  rintro w' ⟨s0, s1⟩
  go_simp
  with_reducible rfl
 rotate_left
 ·
  exact pS
 refine pure_ (i := 2) (N := some 17) (v := ?_) (a' := ?_) #[true, true, true, true, true, true, false, false, false, false] rfl rfl (any_of HT_.out (by kernel_rfl)) (fun _ _ _ h => h) (Or.inl ⟨by rfl, ?_⟩) ?_ ?_
 rotate_left; exact pI; rotate_left; exact pS
 refine take_ (i := 6) (N := some 21) (v := ?_) (a' := ?_) #[true, true, true, true, true, true, true, false, false, false] rfl rfl (take_ofW HT_.out HW_.out (by kernel_rfl)) (fun _ _ _ h => h) (Or.inl ⟨by rfl, ?_⟩) hHeld ?_ ?_
 rotate_left
 ·
  rintro w' ⟨s0, s1⟩
  go_simp
  with_reducible rfl
 rotate_left
 ·
  exact pS
 refine pure_ (i := 7) (N := some 22) (v := ?_) (a' := ?_) #[true, true, true, true, true, true, true, true, false, false] rfl rfl (any_of HT_.out (by kernel_rfl)) (fun _ _ _ h => h) (Or.inl ⟨by rfl, ?_⟩) ?_ ?_
 rotate_left; exact pI; rotate_left; exact pS
 refine pure_ (i := 8) (N := some 23) (v := ?_) (a' := ?_) #[true, true, true, true, true, true, true, true, true, false] rfl rfl (any_of HT_.out (by kernel_rfl)) (fun _ _ _ h => h) (Or.inl ⟨by rfl, ?_⟩) ?_ ?_
 rotate_left; exact pI; rotate_left; exact pS
 refine pure_ (i := 9) (N := some 5) (v := ?_) (a' := ?_) #[true, true, true, true, true, true, true, true, true, true] rfl rfl (any_of HT_.out (by kernel_rfl)) (fun _ _ _ h => h) (Or.inl ⟨by rfl, ?_⟩) ?_ ?_
 rotate_left; exact pI; rotate_left; exact pS
 refine done_ (done_of HT_.out (by kernel_rfl)) ?_
 generalize (if Tb < 0 then (0 : Int) else Tb) = mx at HTB ⊢
 go_upto_region 2 with (fail)
 rw [HTB.out]
 obtain ⟨rb2, Ac, cc, er, -, hcr, hT⟩ := T.out.take rfl (show (TS.map Tab.rows)[i]? = some t.rows by rw [List.getElem?_map, HI.out]; rfl)
 obtain rfl : rb = rb2 := by injection er with er; injection er
 replace T := aM hT
 have HCR := aM hcr
 clear hcr hT er
 replace T := aM (T.out.drew)
 replace HCR := aM (cell_dr HCR.out)
 refine start_ (n := 16) (S := fun w' => w'.cell? ⟨pb, 3, none⟩ = some (.slice (some ⟨ab, 0, none⟩) nT ac) ∧ w'.cell? ⟨pb, 4, none⟩ = some (.slice (some ⟨rb, 0, none⟩) nT rc) ∧ w'.cell? ⟨ab, i, none⟩ = some (.pointer (some ⟨t.tb, 0, none⟩)) ∧ w'.cell? ⟨rb, i, none⟩ = some (.slice Ac t.rows.length cc)) (ds := []) #[false, false, false, false, false, false, false, false, false, false, false, false, false, false, false, false] (by kernel_rfl) rfl rfl ⟨T.out.cells.2.2.2.1, T.out.cells.2.2.2.2.1, T.out.cellA rfl HTA.out, HCR.out⟩ (fun hHeld => ?_); refine with_tabW pst2.tab2 pst2.bits2 (fun HT_ HW_ => ?_)
 generalize wb.drew = wc at T HCR hHeld ⊢
 refine pure_ (i := 0) (N := some 24) (v := ?_) (a' := ?_) #[true, false, false, false, false, false, false, false, false, false, false, false, false, false, false, false] rfl rfl (any_of HT_.out (by kernel_rfl)) (fun _ _ _ h => h) (Or.inl ⟨by rfl, ?_⟩) ?_ ?_
 rotate_left; exact pI; rotate_left; exact pS
 refine pure_ (i := 1) (N := some 25) (v := ?_) (a' := ?_) #[true, true, false, false, false, false, false, false, false, false, false, false, false, false, false, false] rfl rfl (any_of HT_.out (by kernel_rfl)) (fun _ _ _ h => h) (Or.inl ⟨by rfl, ?_⟩) ?_ ?_
 rotate_left; exact pI; rotate_left; exact pS
 refine pure_ (i := 2) (N := some 26) (v := ?_) (a' := ?_) #[true, true, true, false, false, false, false, false, false, false, false, false, false, false, false, false] rfl rfl (any_of HT_.out (by kernel_rfl)) (fun _ _ _ h => h) (Or.inl ⟨by rfl, ?_⟩) ?_ ?_
 rotate_left; exact pI; rotate_left; exact pS
 refine pure_ (i := 4) (N := some 28) (v := ?_) (a' := ?_) #[true, true, true, false, true, false, false, false, false, false, false, false, false, false, false, false] rfl rfl (any_of HT_.out (by kernel_rfl)) (fun _ _ _ h => h) (Or.inl ⟨by rfl, ?_⟩) ?_ ?_
 rotate_left; exact pI; rotate_left; exact pS
 refine pure_ (i := 7) (N := some 31) (v := ?_) (a' := ?_) #[true, true, true, false, true, false, false, true, false, false, false, false, false, false, false, false] rfl rfl (any_of HT_.out (by kernel_rfl)) (fun _ _ _ h => h) (Or.inl ⟨by rfl, ?_⟩) ?_ ?_
 rotate_left; exact pI; rotate_left; exact pS
 refine pure_ (i := 8) (N := some 32) (v := ?_) (a' := ?_) #[true, true, true, false, true, false, false, true, true, false, false, false, false, false, false, false] rfl rfl (any_of HT_.out (by kernel_rfl)) (fun _ _ _ h => h) (Or.inl ⟨by rfl, ?_⟩) ?_ ?_
 rotate_left; exact pI; rotate_left; exact pS
 refine pure_ (i := 9) (N := some 33) (v := ?_) (a' := ?_) #[true, true, true, false, true, false, false, true, true, true, false, false, false, false, false, false] rfl rfl (any_of HT_.out (by kernel_rfl)) (fun _ _ _ h => h) (Or.inl ⟨by rfl, ?_⟩) ?_ ?_
 rotate_left; exact pI; rotate_left; exact pS
 refine pure_ (i := 11) (N := some 35) (v := ?_) (a' := ?_) #[true, true, true, false, true, false, false, true, true, true, false, true, false, false, false, false] rfl rfl (any_of HT_.out (by kernel_rfl)) (fun _ _ _ h => h) (Or.inl ⟨by rfl, ?_⟩) ?_ ?_
 rotate_left; exact pI; rotate_left; exact pS
 refine take_ (i := 3) (N := some 27) (v := ?_) (a' := ?_) #[true, true, true, true, true, false, false, true, true, true, false, true, false, false, false, false] rfl rfl (take_ofW HT_.out HW_.out (by kernel_rfl)) (fun _ _ _ h => h) (Or.inl ⟨by rfl, ?_⟩) hHeld ?_ ?_
 rotate_left
 ·
  rintro w' ⟨s0, s1, s2, s3⟩
  go_simp
  with_reducible rfl
 rotate_left
 ·
  exact pS
 refine pure_ (i := 5) (N := some 29) (v := ?_) (a' := ?_) #[true, true, true, true, true, true, false, true, true, true, false, true, false, false, false, false] rfl rfl (any_of HT_.out (by kernel_rfl)) (fun _ _ _ h => h) (Or.inl ⟨by rfl, ?_⟩) ?_ ?_
 rotate_left; exact pI; rotate_left; exact pS
 refine take_ (i := 6) (N := some 30) (v := ?_) (a' := ?_) #[true, true, true, true, true, true, true, true, true, true, false, true, false, false, false, false] rfl rfl (take_ofW HT_.out HW_.out (by kernel_rfl)) (fun _ _ _ h => h) (Or.inl ⟨by rfl, ?_⟩) hHeld ?_ ?_
 rotate_left
 ·
  rintro w' ⟨s0, s1, s2, s3⟩
  go_simp
  with_reducible rfl
 rotate_left
 ·
  exact pS
 refine pure_ (i := 14) (N := some 6) (v := ?_) (a' := ?_) #[true, true, true, true, true, true, true, true, true, true, false, true, false, false, true, false] rfl rfl (any_of HT_.out (by kernel_rfl)) (fun _ _ _ h => h) (Or.inl ⟨by rfl, ?_⟩) ?_ ?_
 rotate_left; exact pI; rotate_left; exact pS
 refine take_ (i := 10) (N := some 34) (v := ?_) (a' := ?_) #[true, true, true, true, true, true, true, true, true, true, true, true, false, false, true, false] rfl rfl (take_ofW HT_.out HW_.out (by kernel_rfl)) (fun _ _ _ h => h) (Or.inl ⟨by rfl, ?_⟩) hHeld ?_ ?_
 rotate_left
 ·
  rintro w' ⟨s0, s1, s2, s3⟩
  go_simp
  with_reducible rfl
 rotate_left
 ·
  exact pS
 refine pure_ (i := 12) (N := some 36) (v := ?_) (a' := ?_) #[true, true, true, true, true, true, true, true, true, true, true, true, true, false, true, false] rfl rfl (any_of HT_.out (by kernel_rfl)) (fun _ _ _ h => h) (Or.inl ⟨by rfl, ?_⟩) ?_ ?_
 rotate_left; exact pI; rotate_left; exact pS
 refine take_ (i := 13) (N := some 37) (v := ?_) (a' := ?_) #[true, true, true, true, true, true, true, true, true, true, true, true, true, true, true, false] rfl rfl (take_ofW HT_.out HW_.out (by kernel_rfl)) (fun _ _ _ h => h) (Or.inl ⟨by rfl, ?_⟩) hHeld ?_ ?_
 rotate_left
 ·
  rintro w' ⟨s0, s1, s2, s3⟩
  go_simp
  with_reducible rfl
 rotate_left
 ·
  exact pS
 refine pure_ (i := 15) (N := some 7) (v := ?_) (a' := ?_) #[true, true, true, true, true, true, true, true, true, true, true, true, true, true, true, true] rfl rfl (any_of HT_.out (by kernel_rfl)) (fun _ _ _ h => h) (Or.inl ⟨by rfl, ?_⟩) ?_ ?_
 rotate_left; exact pI; rotate_left; exact pS
 refine done_ (done_of HT_.out (by kernel_rfl)) ?_
 have hz := T.out.cells
 have hzb := T.out.boxed
 obtain ⟨Ap, cp, ep⟩ := Kd.R_slice T.out.X.r0
 subst ep
 obtain ⟨Aq, cq, eq⟩ := Kd.R_slice T.out.X.r1
 subst eq
 go_upto_region 8 with (fail)
 clear hz hzb
 replace T := aM (T.out.drew)
 refine start_ (n := 16) (S := fun w' => w'.cell? ⟨pb, 1, none⟩ = some (.slice Ap (RR L).length cp) ∧ w'.cell? ⟨pb, 2, none⟩ = some (.slice Aq (MM L).length cq) ∧ w'.cell? ⟨bo, 3, none⟩ = some (.int .i64 NN)) (ds := []) #[false, false, false, false, false, false, false, false, false, false, false, false, false, false, false, false] (by kernel_rfl) rfl rfl ⟨T.out.cells.2.1, T.out.cells.2.2.1, T.out.boxed.2.2.2⟩ (fun hHeld => ?_); refine with_tabW pst8.tab8 pst8.bits8 (fun HT_ HW_ => ?_)
 generalize wc.drew = wf at T hHeld ⊢
 refine pure_ (i := 0) (N := some 63) (v := ?_) (a' := ?_) #[true, false, false, false, false, false, false, false, false, false, false, false, false, false, false, false] rfl rfl (any_of HT_.out (by kernel_rfl)) (fun _ _ _ h => h) (Or.inl ⟨by rfl, ?_⟩) ?_ ?_
 rotate_left; exact pI; rotate_left; exact pS
 refine pure_ (i := 1) (N := some 64) (v := ?_) (a' := ?_) #[true, true, false, false, false, false, false, false, false, false, false, false, false, false, false, false] rfl rfl (any_of HT_.out (by kernel_rfl)) (fun _ _ _ h => h) (Or.inl ⟨by rfl, ?_⟩) ?_ ?_
 rotate_left; exact pI; rotate_left; exact pS
 refine pure_ (i := 2) (N := some 65) (v := ?_) (a' := ?_) #[true, true, true, false, false, false, false, false, false, false, false, false, false, false, false, false] rfl rfl (any_of HT_.out (by kernel_rfl)) (fun _ _ _ h => h) (Or.inl ⟨by rfl, ?_⟩) ?_ ?_
 rotate_left; exact pI; rotate_left; exact pS
 refine pure_ (i := 4) (N := some 67) (v := ?_) (a' := ?_) #[true, true, true, false, true, false, false, false, false, false, false, false, false, false, false, false] rfl rfl (any_of HT_.out (by kernel_rfl)) (fun _ _ _ h => h) (Or.inl ⟨by rfl, ?_⟩) ?_ ?_
 rotate_left; exact pI; rotate_left; exact pS
 refine take_ (i := 3) (N := some 66) (v := ?_) (a' := ?_) #[true, true, true, true, true, false, false, false, false, false, false, false, false, false, false, false] rfl rfl (take_ofW HT_.out HW_.out (by kernel_rfl)) (fun _ _ _ h => h) (Or.inl ⟨by rfl, ?_⟩) hHeld ?_ ?_
 rotate_left
 ·
  rintro w' ⟨s0, s1, s2⟩
  go_simp
  with_reducible rfl
 rotate_left
 ·
  exact pS
 refine take_ (i := 5) (N := some 68) (v := ?_) (a' := ?_) #[true, true, true, true, true, true, false, false, false, false, false, false, false, false, false, false] rfl rfl (take_ofW HT_.out HW_.out (by kernel_rfl)) (fun _ _ _ h => h) (Or.inl ⟨by rfl, ?_⟩) hHeld ?_ ?_
 rotate_left
 ·
  rintro w' ⟨s0, s1, s2⟩
  go_simp
  with_reducible rfl
 rotate_left
 ·
  exact pS
 refine pure_ (i := 6) (N := some 69) (v := ?_) (a' := ?_) #[true, true, true, true, true, true, true, false, false, false, false, false, false, false, false, false] rfl rfl (any_of HT_.out (by kernel_rfl)) (fun _ _ _ h => h) (Or.inl ⟨by rfl, ?_⟩) ?_ ?_
 rotate_left; exact pI; rotate_left; exact pS
 refine join_ (σ := (Option Addr × Nat) × (Option Addr × Nat) × Nat) 3 #[true, true, true, true, true, true, true, true, true, true, true, true, true, false, false, false] (fun st => [(70, .tuple #[.agg #[.slice st.1.1 r0.length st.1.2, .slice st.2.1.1 r1.length st.2.1.2], .int .i64 (kk : Int), .int .i64 0]), (62, .tuple #[.agg #[.slice st.1.1 r0.length st.1.2, .slice st.2.1.1 r1.length st.2.1.2], .int .i64 (kk : Int), .int .i64 0]), (71, .agg #[.slice st.1.1 r0.length st.1.2, .slice st.2.1.1 r1.length st.2.1.2]), (72, .int .i64 (kk : Int)), (73, .int .i64 0), (9, .pointer (some ⟨st.2.2, 0, none⟩))]) (fun st w' => (∃ own', PlayO w0 w' own' pb g s L f (.slice st.1.1 r0.length st.1.2) (.slice st.2.1.1 r1.length st.2.1.2) r0 r1 ((.slice Ap (RR L).length cp)) ((.slice Aq (MM L).length cq)) (.slice (some ⟨ab, 0, none⟩) nT ac) (.slice (some ⟨rb, 0, none⟩) nT rc) (.slice (some ⟨ab, 0, none⟩) nT ac) (TS.map Tab.tb) (.slice (some ⟨rb, 0, none⟩) nT rc) (TS.map Tab.rows) TS (.slice Ac t.rows.length cc) t.rows ([(bo, #[.int .i64 1, .int .i64 Tb, .int .i64 (r : Int), .int .i64 NN])])) ∧ Aside0 (w'.heap[st.2.2]? = some (.cells #[.slice none 0 0, .slice none 0 0] 30 (0, 0))) ∧ Aside0 (w0.heap.size ≤ st.2.2)) ?_ ?_
 rotate_left
 ·
  intro hCont
  refine two_ (i := 7) (j := 12) (Ni := some 70) (Nj := some 9) #[true, true, true, true, true, true, true, true, false, false, false, false, false, false, false, false] #[true, true, true, true, true, true, true, false, false, false, false, false, true, false, false, false] rfl rfl rfl rfl (two_of HT_.out (by kernel_rfl)) (by decide) (by decide) (fun K hK => ?_) (fun K hK => ?_)
  ·
   skip
   refine goes_ Try.func41 (by kernel_rfl) rfl #[.agg #[(.slice Ap (RR L).length cp), (.slice Aq (MM L).length cq)], .int .i64 (mk NN)] (by rfl) rfl rfl (by simp only [List.map_toArray, List.map_cons, List.map_nil]; rfl) ?_
   with_reducible refine (credenzaref10_Pool_Put.calls 200 _ _ (RR L) _ _ (MM L) (mk NN) r0 r1 (kk : Int) 0 w0 _ T.out.HB T.out.X.r0 T.out.X.ne T.out.X.r1 T.out.X.ne2 HPUT.out).mono ?_
   rintro e wd ⟨u0, u1, rfl, h0, h1, hb, hkp⟩
   refine ⟨_, rfl, ?_⟩
   obtain ⟨B0, d0, rfl⟩ := Kd.R_slice h0
   obtain ⟨B1, d1_, rfl⟩ := Kd.R_slice h1
   try replace BX := aM (T.out.ref_blk hkp BX.out (by decide))
   obtain ⟨own2, hT⟩ := T.out.ref hkp (XAt.of h0 h1) (XAt.own_of (B' := 0) h0 h1) hb
   replace T := aM hT
   clear h0 h1 hb hkp hT
   refine hK.out _ _ ⟨T.out.cells.2.1, T.out.cells.2.2.1, T.out.boxed.2.2.2⟩ (fun hHeld => ?_)
   clear hK K
   refine norm_ (a' := ?_) ?_ ?_
   rotate_left
   ·
    show Act.put _ (some 70) _ = _
    simp only [Act.put, List.setIfInBounds_toArray, List.set_cons_zero, List.set_cons_succ, i64_w, i32_w, IntKind.wrap_u32]
    rfl
   refine pure_ (i := 8) (N := some 62) (v := ?_) (a' := ?_) #[true, true, true, true, true, true, true, true, true, false, false, false, false, false, false, false] rfl rfl (any_of HT_.out (by kernel_rfl)) (fun _ _ _ h => h) (Or.inl ⟨by rfl, ?_⟩) ?_ ?_
   rotate_left; exact pI; rotate_left; exact pS
   refine pure_ (i := 9) (N := some 71) (v := ?_) (a' := ?_) #[true, true, true, true, true, true, true, true, true, true, false, false, false, false, false, false] rfl rfl (any_of HT_.out (by kernel_rfl)) (fun _ _ _ h => h) (Or.inl ⟨by rfl, ?_⟩) ?_ ?_
   rotate_left; exact pI; rotate_left; exact pS
   refine pure_ (i := 10) (N := some 72) (v := ?_) (a' := ?_) #[true, true, true, true, true, true, true, true, true, true, true, false, false, false, false, false] rfl rfl (any_of HT_.out (by kernel_rfl)) (fun _ _ _ h => h) (Or.inl ⟨by rfl, ?_⟩) ?_ ?_
   rotate_left; exact pI; rotate_left; exact pS
   refine pure_ (i := 11) (N := some 73) (v := ?_) (a' := ?_) #[true, true, true, true, true, true, true, true, true, true, true, true, false, false, false, false] rfl rfl (any_of HT_.out (by kernel_rfl)) (fun _ _ _ h => h) (Or.inl ⟨by rfl, ?_⟩) ?_ ?_
   rotate_left; exact pI; rotate_left; exact pS
   refine one_ (i := 12) (N := some 9) #[true, true, true, true, true, true, true, true, true, true, true, true, true, false, false, false] rfl rfl (one_of HT_.out (by kernel_rfl)) (by decide) (fun K hK => ?_)
   refine box_step (by rfl) rfl (cs := #[.slice none 0 0, .slice none 0 0]) (t := 30) ?hr ?_
   (case hr => first | (go_simp; done) | (go_simp; rfl))
   intro bx hge wx hbox hb
   have BX := aM hbox
   have GX := aM (show w0.heap.size ≤ bx by rw [hge]; exact below_size T.out.HB)
   replace T := aM (T.out.below hb)
   clear hge hbox hb
   refine hK.out _ _ ⟨T.out.cells.2.1, T.out.cells.2.2.1, T.out.boxed.2.2.2⟩ (fun hHeld => ?_)
   clear hK K
   refine norm_ (a' := ?_) ?_ ?_
   rotate_left
   ·
    show Act.put _ (some 9) _ = _
    simp only [Act.put, List.setIfInBounds_toArray, List.set_cons_zero, List.set_cons_succ, i64_w, i32_w, IntKind.wrap_u32]
    rfl
   exact norm_ (by simp only [putAll, Act.put, List.setIfInBounds_toArray, List.set_cons_zero, List.set_cons_succ]) (hCont ((B0, d0), (B1, d1_), bx) _ ⟨⟨_, T.out⟩, BX, GX⟩)
  ·
   skip
   refine box_step (by rfl) rfl (cs := #[.slice none 0 0, .slice none 0 0]) (t := 30) ?hr ?_
   (case hr => first | (go_simp; done) | (go_simp; rfl))
   intro bx hge wx hbox hb
   have BX := aM hbox
   have GX := aM (show w0.heap.size ≤ bx by rw [hge]; exact below_size T.out.HB)
   replace T := aM (T.out.below hb)
   clear hge hbox hb
   refine hK.out _ _ ⟨T.out.cells.2.1, T.out.cells.2.2.1, T.out.boxed.2.2.2⟩ (fun hHeld => ?_)
   clear hK K
   refine norm_ (a' := ?_) ?_ ?_
   rotate_left
   ·
    show Act.put _ (some 9) _ = _
    simp only [Act.put, List.setIfInBounds_toArray, List.set_cons_zero, List.set_cons_succ, i64_w, i32_w, IntKind.wrap_u32]
    rfl
   refine one_ (i := 7) (N := some 70) #[true, true, true, true, true, true, true, true, false, false, false, false, true, false, false, false] rfl rfl (one_of HT_.out (by kernel_rfl)) (by decide) (fun K hK => ?_)
   refine goes_ Try.func41 (by kernel_rfl) rfl #[.agg #[(.slice Ap (RR L).length cp), (.slice Aq (MM L).length cq)], .int .i64 (mk NN)] (by rfl) rfl rfl (by simp only [List.map_toArray, List.map_cons, List.map_nil]; rfl) ?_
   with_reducible refine (credenzaref10_Pool_Put.calls 200 _ _ (RR L) _ _ (MM L) (mk NN) r0 r1 (kk : Int) 0 w0 _ T.out.HB T.out.X.r0 T.out.X.ne T.out.X.r1 T.out.X.ne2 HPUT.out).mono ?_
   rintro e wd ⟨u0, u1, rfl, h0, h1, hb, hkp⟩
   refine ⟨_, rfl, ?_⟩
   obtain ⟨B0, d0, rfl⟩ := Kd.R_slice h0
   obtain ⟨B1, d1_, rfl⟩ := Kd.R_slice h1
   try replace BX := aM (T.out.ref_blk hkp BX.out (by decide))
   obtain ⟨own2, hT⟩ := T.out.ref hkp (XAt.of h0 h1) (XAt.own_of (B' := 0) h0 h1) hb
   replace T := aM hT
   clear h0 h1 hb hkp hT
   refine hK.out _ _ ⟨T.out.cells.2.1, T.out.cells.2.2.1, T.out.boxed.2.2.2⟩ (fun hHeld => ?_)
   clear hK K
   refine norm_ (a' := ?_) ?_ ?_
   rotate_left
   ·
    show Act.put _ (some 70) _ = _
    simp only [Act.put, List.setIfInBounds_toArray, List.set_cons_zero, List.set_cons_succ, i64_w, i32_w, IntKind.wrap_u32]
    rfl
   refine pure_ (i := 8) (N := some 62) (v := ?_) (a' := ?_) #[true, true, true, true, true, true, true, true, true, false, false, false, true, false, false, false] rfl rfl (any_of HT_.out (by kernel_rfl)) (fun _ _ _ h => h) (Or.inl ⟨by rfl, ?_⟩) ?_ ?_
   rotate_left; exact pI; rotate_left; exact pS
   refine pure_ (i := 9) (N := some 71) (v := ?_) (a' := ?_) #[true, true, true, true, true, true, true, true, true, true, false, false, true, false, false, false] rfl rfl (any_of HT_.out (by kernel_rfl)) (fun _ _ _ h => h) (Or.inl ⟨by rfl, ?_⟩) ?_ ?_
   rotate_left; exact pI; rotate_left; exact pS
   refine pure_ (i := 10) (N := some 72) (v := ?_) (a' := ?_) #[true, true, true, true, true, true, true, true, true, true, true, false, true, false, false, false] rfl rfl (any_of HT_.out (by kernel_rfl)) (fun _ _ _ h => h) (Or.inl ⟨by rfl, ?_⟩) ?_ ?_
   rotate_left; exact pI; rotate_left; exact pS
   refine pure_ (i := 11) (N := some 73) (v := ?_) (a' := ?_) #[true, true, true, true, true, true, true, true, true, true, true, true, true, false, false, false] rfl rfl (any_of HT_.out (by kernel_rfl)) (fun _ _ _ h => h) (Or.inl ⟨by rfl, ?_⟩) ?_ ?_
   rotate_left; exact pI; rotate_left; exact pS
   exact norm_ (by simp only [putAll, Act.put, List.setIfInBounds_toArray, List.set_cons_zero, List.set_cons_succ]) (hCont ((B0, d0), (B1, d1_), bx) _ ⟨⟨_, T.out⟩, BX, GX⟩)
 clear T
 rintro ⟨⟨B0, d0⟩, ⟨B1, d1_⟩, bx⟩ wd ⟨⟨own2, hT⟩, BX, GX⟩
 dsimp only at hT BX GX ⊢
 have T := aM hT
 have hHeld : wd.cell? ⟨pb, 1, none⟩ = some (.slice Ap (RR L).length cp) ∧ wd.cell? ⟨pb, 2, none⟩ = some (.slice Aq (MM L).length cq) ∧ wd.cell? ⟨bo, 3, none⟩ = some (.int .i64 NN) := ⟨T.out.cells.2.1, T.out.cells.2.2.1, T.out.boxed.2.2.2⟩
 clear hT
 refine norm_ (a' := ?_) ?_ ?_
 rotate_left
 ·
  simp only [putAll, Act.put, List.setIfInBounds_toArray, List.set_cons_zero, List.set_cons_succ]
  rfl
 refine one_ (i := 13) (N := none) #[true, true, true, true, true, true, true, true, true, true, true, true, true, true, false, false] rfl rfl (one_of HT_.out (by kernel_rfl)) (by decide) (fun K hK => ?_)
 have hb2 := bx2 BX.out
 refine skip_ (w1 := ?_) (by rfl) rfl ?_ ?_
 rotate_left
 ·
  go_simp
  rfl
 clear hb2
 have BX2 := aM (blk_put (blk_put BX.out 0 (Value.slice B0 r0.length d0) rfl) 1 (Value.slice B1 r1.length d1_) (cs' := #[(Value.slice B0 r0.length d0), (Value.slice B1 r1.length d1_)]) rfl)
 replace T := aM ((T.out.aside BX.out GX.out 0 (Value.slice B0 r0.length d0)).aside (blk_put BX.out 0 (Value.slice B0 r0.length d0) rfl) GX.out 1 (Value.slice B1 r1.length d1_))
 clear BX
 refine hK.out _ _ ⟨T.out.cells.2.1, T.out.cells.2.2.1, T.out.boxed.2.2.2⟩ (fun hHeld => ?_)
 clear hK K
 refine pure_ (i := 14) (N := some 10) (v := ?_) (a' := ?_) #[true, true, true, true, true, true, true, true, true, true, true, true, true, true, true, false] rfl rfl (any_of HT_.out (by kernel_rfl)) (fun _ _ _ h => h) (Or.inl ⟨by rfl, ?_⟩) ?_ ?_
 rotate_left; exact pI; rotate_left; exact pS
 refine pure_ (i := 15) (N := some 11) (v := ?_) (a' := ?_) #[true, true, true, true, true, true, true, true, true, true, true, true, true, true, true, true] rfl rfl (any_of HT_.out (by kernel_rfl)) (fun _ _ _ h => h) (Or.inl ⟨by rfl, ?_⟩) ?_ ?_
 rotate_left; exact pI; rotate_left; exact pS
 refine done_ (done_of HT_.out (by kernel_rfl)) ?_
 generalize (wd.setCell ⟨bx, 0, none⟩ (Value.slice B0 r0.length d0)).setCell ⟨bx, 1, none⟩ (Value.slice B1 r1.length d1_) = wg at T BX2 hHeld ⊢
 have hz := T.out.cells
 have hzx := bx2 BX2.out
 go_upto_region 10 with (fail)
 replace T := aM (T.out.setX (Value.slice B0 r0.length d0) (Value.slice B1 r1.length d1_))
 clear hz hzx BX2 GX
 generalize (wg.setCell ⟨pb, 1, none⟩ (Value.slice B0 r0.length d0)).setCell ⟨pb, 2, none⟩ (Value.slice B1 r1.length d1_) = wh at T ⊢
 have hz := T.out.cells
 have hzb := T.out.boxed
 go_upto_region 12 with (go_at_call 50; (refine (credenzalaw11_copied.calls 200 Ac cc t.rows t.rows _ (Kd.R_reads' T.out.C).2.2 (Kd.R_reads' T.out.C).2.1 HCPY.out).mono ?_); rintro e wi ⟨vc, rfl, hS, hb⟩; obtain ⟨gc, Cc, rfl, -⟩ := Kd.S_form hS HRL.out; have HS := aM hS; have HB2 := aM hb; have HZB := aM (T.out.below hb).boxed; clear hz hzb hS hb)
 have hzb := HZB.out
 clear hzb HZB
 replace HS := aM (Kd.S_drew HS.out)
 replace HB2 := aM (HB2.out.drew)
 obtain ⟨u_, hcu, hzu, hru, hput⟩ := copy_put HS.out HLT.out
 obtain ⟨A1, c1, rfl⟩ := Kd.R_slice hru
 have HCU := aM hcu
 have HRU := aM hru
 have HPUTR := aM hput
 have HGB := aM (Kd.S_base HS.out gc rfl)
 clear hcu hzu hru hput HS
 refine start_ (n := 13) (S := fun w' => w'.cell? ⟨bo, 2, none⟩ = some (.int .i64 (r : Int)) ∧ w'.cell? ⟨gc, r, none⟩ = some (.slice A1 l.length c1)) (ds := [12]) #[false, false, false, false, false, false, false, false, false, false, false, false, false] (by kernel_rfl) rfl rfl ⟨(T.out.below HB2.out).boxed.2.2.1, HCU.out⟩ (fun hHeld => ?_); refine with_tabW pst12.tab12 pst12.bits12 (fun HT_ HW_ => ?_)
 generalize wi.drew = wj at HB2 HCU HRU HPUTR hHeld ⊢
 refine pure_ (i := 0) (N := some 82) (v := ?_) (a' := ?_) #[true, false, false, false, false, false, false, false, false, false, false, false, false] rfl rfl (any_of HT_.out (by kernel_rfl)) (fun _ _ _ h => h) (Or.inl ⟨by rfl, ?_⟩) ?_ ?_
 rotate_left; exact pI; rotate_left; exact pS
 refine pure_ (i := 1) (N := some 83) (v := ?_) (a' := ?_) #[true, true, false, false, false, false, false, false, false, false, false, false, false] rfl rfl (any_of HT_.out (by kernel_rfl)) (fun _ _ _ h => h) (Or.inl ⟨by rfl, ?_⟩) ?_ ?_
 rotate_left; exact pI; rotate_left; exact pS
 refine pure_ (i := 3) (N := some 85) (v := ?_) (a' := ?_) #[true, true, false, true, false, false, false, false, false, false, false, false, false] rfl rfl (any_of HT_.out (by kernel_rfl)) (fun _ _ _ h => h) (Or.inl ⟨by rfl, ?_⟩) ?_ ?_
 rotate_left; exact pI; rotate_left; exact pS
 refine pure_ (i := 4) (N := some 86) (v := ?_) (a' := ?_) #[true, true, false, true, true, false, false, false, false, false, false, false, false] rfl rfl (any_of HT_.out (by kernel_rfl)) (fun _ _ _ h => h) (Or.inl ⟨by rfl, ?_⟩) ?_ ?_
 rotate_left; exact pI; rotate_left; exact pS
 refine pure_ (i := 8) (N := some 90) (v := ?_) (a' := ?_) #[true, true, false, true, true, false, false, false, true, false, false, false, false] rfl rfl (any_of HT_.out (by kernel_rfl)) (fun _ _ _ h => h) (Or.inl ⟨by rfl, ?_⟩) ?_ ?_
 rotate_left; exact pI; rotate_left; exact pS
 refine take_ (i := 2) (N := some 84) (v := ?_) (a' := ?_) #[true, true, true, true, true, false, false, false, true, false, false, false, false] rfl rfl (take_ofW HT_.out HW_.out (by kernel_rfl)) (fun _ _ _ h => h) (Or.inl ⟨by rfl, ?_⟩) hHeld ?_ ?_
 rotate_left
 ·
  rintro w' ⟨s0, s1⟩
  go_simp
  with_reducible rfl
 rotate_left
 ·
  exact pS
 refine take_ (i := 5) (N := some 87) (v := ?_) (a' := ?_) #[true, true, true, true, true, true, false, false, true, false, false, false, false] rfl rfl (take_ofW HT_.out HW_.out (by kernel_rfl)) (fun _ _ _ h => h) (Or.inl ⟨by rfl, ?_⟩) hHeld ?_ ?_
 rotate_left
 ·
  rintro w' ⟨s0, s1⟩
  go_simp
  with_reducible rfl
 rotate_left
 ·
  exact pS
 refine pure_ (i := 6) (N := some 88) (v := ?_) (a' := ?_) #[true, true, true, true, true, true, true, false, true, false, false, false, false] rfl rfl (any_of HT_.out (by kernel_rfl)) (fun _ _ _ h => h) (Or.inl ⟨by rfl, ?_⟩) ?_ ?_
 rotate_left; exact pI; rotate_left; exact pS
 refine take_ (i := 7) (N := some 89) (v := ?_) (a' := ?_) #[true, true, true, true, true, true, true, true, true, false, false, false, false] rfl rfl (take_ofW HT_.out HW_.out (by kernel_rfl)) (fun _ _ _ h => h) (Or.inl ⟨by rfl, ?_⟩) hHeld ?_ ?_
 rotate_left
 ·
  rintro w' ⟨s0, s1⟩
  go_simp
  with_reducible rfl
 rotate_left
 ·
  exact pS
 refine one_ (i := 9) (N := some 91) #[true, true, true, true, true, true, true, true, true, true, false, false, false] rfl rfl (one_of HT_.out (by kernel_rfl)) (by decide) (fun K hK => ?_)
 refine value_ (w1 := ?_) (v := ?_) (by rfl) rfl ?_ ?_
 rotate_left 2
 ·
  go_simp
  constructor
  ·
   rfl
  ·
   rfl
 refine hK.out _ _ ⟨(T.out.below (below_step HB2.out (below_alloc (Below.refl _ _) _))).boxed.2.2.1, ((below_alloc (Below.refl _ _) _).cell (World.block_lt_of_cell? _ _ HCU.out)).trans HCU.out⟩ (fun hHeld => ?_)
 clear hK K
 refine norm_ (a' := ?_) ?_ ?_
 rotate_left
 ·
  show Act.put _ (some 91) _ = _
  simp only [Act.put, List.setIfInBounds_toArray, List.set_cons_zero, List.set_cons_succ, i64_w, i32_w, IntKind.wrap_u32]
  rfl
 refine one_ (i := 10) (N := some 92) #[true, true, true, true, true, true, true, true, true, true, true, false, false] rfl rfl (one_of HT_.out (by kernel_rfl)) (by decide) (fun K hK => ?_)
 refine Kd.R_append_step (Kd.int .i64) (w0 := wh) wh.heap.size (by rfl) (.tmp 89) (.tmp 91) 28 3 (.int .i64 0) 8 rfl Try.underlying28 info3 rfl (by decide) (by omega) (.slice A1 l.length c1) l (kk : Int) [.int .i64 (kk : Int)] (fun _ => True) (fun _ => False) rfl rfl ?aP (fun _ hk => hk.elim) ?aF ?aO HB2.out (below_size HB2.out) ?aL ?_
 (case aP => exact rfl)
 (case aF => exact (fun _ _ => trivial))
 (case aO => exact HRU.out)
 (case aL => have := HLL.out; omega)
 intro vn wk ho hb hg hat
 obtain ⟨hcc, hcz, hRN⟩ := HPUTR.out _ _ _ hg ho hat
 obtain ⟨An, cn, rfl⟩ := Kd.R_slice ho
 obtain ⟨nl, hnl⟩ : ∃ n, (l ++ [(kk : Int)]).length = n := ⟨_, rfl⟩
 rw [hnl] at hRN ⊢
 clear hnl
 have HCC := aM hcc
 have HCZ := aM hcz
 have HRN := aM hRN
 replace HB2 := aM hb
 clear ho hb hg hat hcc hcz hRN HRU HPUTR HCU
 refine hK.out _ _ ⟨(T.out.below HB2.out).boxed.2.2.1, HCC.out⟩ (fun hHeld => ?_)
 clear hK K
 refine norm_ (a' := ?_) ?_ ?_
 rotate_left
 ·
  show Act.put _ (some 92) _ = _
  simp only [Act.put, List.setIfInBounds_toArray, List.set_cons_zero, List.set_cons_succ, i64_w, i32_w, IntKind.wrap_u32]
  rfl
 refine pure_ (i := 11) (N := some 93) (v := ?_) (a' := ?_) #[true, true, true, true, true, true, true, true, true, true, true, true, false] rfl rfl (any_of HT_.out (by kernel_rfl)) (fun _ _ _ h => h) (Or.inl ⟨by rfl, ?_⟩) ?_ ?_
 rotate_left; exact pI; rotate_left; exact pS
 refine last_ (i := 12) (N := none) #[true, true, true, true, true, true, true, true, true, true, true, true, true] rfl rfl (one_of HT_.out (by kernel_rfl)) (by decide) (fun K hK => ?_)
 have hcc := HCC.out
 have hcz := HCZ.out
 refine skip_ (w1 := ?_) (by rfl) rfl ?_ ?_
 rotate_left
 ·
  go_simp
  rfl
 clear hcc hcz
 refine hK.out _ _ ?_
 clear hK K
 refine done_ (done_of HT_.out (by kernel_rfl)) ?_
 have hBN := HB2.out.setCell (p := ⟨gc, r, none⟩) HGB.out (.slice An nl cn)
 obtain ⟨own7, hT⟩ := T.out.fresh hBN HRN.out
 replace T := aM hT
 clear hBN hT HRN HGB HB2 HCC HCZ
 generalize wk.setCell ⟨gc, r, none⟩ (.slice An nl cn) = wl at T ⊢
 have hz := T.out.cells
 obtain ⟨hT2, ⟨u_, hcc⟩, hcz⟩ := T.out.setRow (i := i) rfl (by rw [List.length_map, HNT.out]; exact of_eq_true q2)
 go_upto_region 14 with (fail)
 replace T := aM hT2
 clear hT2 hcc hcz hz
 generalize wl.setCell ⟨rb, i, none⟩ (.slice (some ⟨gc, 0, none⟩) t.rows.length Cc) = wm at T ⊢
 replace T := aM (T.out.drew)
 refine start_ (n := 10) (S := fun w' => w'.cell? ⟨bo, 2, none⟩ = some (.int .i64 (r : Int)) ∧ w'.cell? ⟨bo, 3, none⟩ = some (.int .i64 NN)) (ds := []) #[false, false, false, false, false, false, false, false, false, false] (by kernel_rfl) rfl rfl ⟨T.out.boxed.2.2.1, T.out.boxed.2.2.2⟩ (fun hHeld => ?_); refine with_tabW pst14.tab14 pst14.bits14 (fun HT_ HW_ => ?_)
 generalize wm.drew = wz at T hHeld ⊢
 refine pure_ (i := 0) (N := some 101) (v := ?_) (a' := ?_) #[true, false, false, false, false, false, false, false, false, false] rfl rfl (any_of HT_.out (by kernel_rfl)) (fun _ _ _ h => h) (Or.inl ⟨by rfl, ?_⟩) ?_ ?_
 rotate_left; exact pI; rotate_left; exact pS
 refine pure_ (i := 1) (N := some 102) (v := ?_) (a' := ?_) #[true, true, false, false, false, false, false, false, false, false] rfl rfl (any_of HT_.out (by kernel_rfl)) (fun _ _ _ h => h) (Or.inl ⟨by rfl, ?_⟩) ?_ ?_
 rotate_left; exact pI; rotate_left; exact pS
 refine pure_ (i := 3) (N := some 104) (v := ?_) (a' := ?_) #[true, true, false, true, false, false, false, false, false, false] rfl rfl (any_of HT_.out (by kernel_rfl)) (fun _ _ _ h => h) (Or.inl ⟨by rfl, ?_⟩) ?_ ?_
 rotate_left; exact pI; rotate_left; exact pS
 refine pure_ (i := 7) (N := some 108) (v := ?_) (a' := ?_) #[true, true, false, true, false, false, false, true, false, false] rfl rfl (any_of HT_.out (by kernel_rfl)) (fun _ _ _ h => h) (Or.inl ⟨by rfl, ?_⟩) ?_ ?_
 rotate_left; exact pI; rotate_left; exact pS
 refine take_ (i := 2) (N := some 103) (v := ?_) (a' := ?_) #[true, true, true, true, false, false, false, true, false, false] rfl rfl (take_ofW HT_.out HW_.out (by kernel_rfl)) (fun _ _ _ h => h) (Or.inl ⟨by rfl, ?_⟩) hHeld ?_ ?_
 rotate_left
 ·
  rintro w' ⟨s0, s1⟩
  go_simp
  with_reducible rfl
 rotate_left
 ·
  exact pS
 refine take_ (i := 4) (N := some 105) (v := ?_) (a' := ?_) #[true, true, true, true, true, false, false, true, false, false] rfl rfl (take_ofW HT_.out HW_.out (by kernel_rfl)) (fun _ _ _ h => h) (Or.inl ⟨by rfl, ?_⟩) hHeld ?_ ?_
 rotate_left
 ·
  rintro w' ⟨s0, s1⟩
  go_simp
  with_reducible rfl
 rotate_left
 ·
  exact pS
 refine one_ (i := 5) (N := some 106) #[true, true, true, true, true, true, false, true, false, false] rfl rfl (one_of HT_.out (by kernel_rfl)) (by decide) (fun K hK => ?_)
 refine goes_ Try.func34 (by kernel_rfl) rfl #[.int .i64 NN] (by rfl) rfl rfl (by simp only [List.map_toArray, List.map_cons, List.map_nil]; rfl) ?_
 with_reducible refine (madeP.calls k HK.out NN _).mono ?_
 rintro e wi ⟨b1, rfl, hq, hge, hb⟩
 refine ⟨_, rfl, ?_⟩
 have hgl := T.out.P.gl
 have hsl := T.out.P.sl
 have Q := aM hq
 have N1 : Aside0 (b1 ≠ g ∧ b1 ≠ s) := ⟨by omega, by omega⟩
 replace T := aM (T.out.below hb)
 clear hgl hsl hge hq hb
 refine hK.out _ _ ⟨T.out.boxed.2.2.1, T.out.boxed.2.2.2⟩ (fun hHeld => ?_)
 clear hK K
 refine norm_ (a' := ?_) ?_ ?_
 rotate_left
 ·
  show Act.put _ (some 106) _ = _
  simp only [Act.put, List.setIfInBounds_toArray, List.set_cons_zero, List.set_cons_succ, i64_w, i32_w, IntKind.wrap_u32]
  rfl
 refine one_ (i := 6) (N := some 107) #[true, true, true, true, true, true, true, true, false, false] rfl rfl (one_of HT_.out (by kernel_rfl)) (by decide) (fun K hK => ?_)
 refine goes_ Try.func33 (by kernel_rfl) rfl #[.pointer (some ⟨t.tb, 0, none⟩), .int .i64 (r : Int), .pointer (some ⟨b1, 0, none⟩)] (by rfl) rfl rfl (by simp only [List.map_toArray, List.map_cons, List.map_nil]; rfl) ?_
 with_reducible refine (blockAdd.calls (T.out.ht i t HI.out) T.out.P (below_size T.out.HB) T.out.gg T.out.gs r l HLT.out (by have := HLL.out; omega) b1 (mk NN) kk y HKK.out HY.out HBEF.out Q.out N1.out.1 N1.out.2 HFF.out).mono ?_
 rintro e wn ⟨vs', rfl, hp, ht, hb, hkp, hown⟩
 refine ⟨_, rfl, ?_⟩
 obtain ⟨own8, hT⟩ := T.out.tab HI.out (Kept.weak hkp (fun q e_ => e_.elim .inl (fun e_ => .inr (.inr e_)))) hp (T.out.HB.trans hb) ht hown
 replace T := aM hT
 clear hT hp ht hb hkp hown
 refine hK.out _ _ ⟨T.out.boxed.2.2.1, T.out.boxed.2.2.2⟩ (fun hHeld => ?_)
 clear hK K
 refine norm_ (a' := ?_) ?_ ?_
 rotate_left
 ·
  show Act.put _ (some 107) _ = _
  simp only [Act.put, List.setIfInBounds_toArray, List.set_cons_zero, List.set_cons_succ, i64_w, i32_w, IntKind.wrap_u32]
  rfl
 refine pure_ (i := 8) (N := some 109) (v := ?_) (a' := ?_) #[true, true, true, true, true, true, true, true, true, false] rfl rfl (any_of HT_.out (by kernel_rfl)) (fun _ _ _ h => h) (Or.inl ⟨by rfl, ?_⟩) ?_ ?_
 rotate_left; exact pI; rotate_left; exact pS
 refine pure_ (i := 9) (N := some 4) (v := ?_) (a' := ?_) #[true, true, true, true, true, true, true, true, true, true] rfl rfl (any_of HT_.out (by kernel_rfl)) (fun _ _ _ h => h) (Or.inl ⟨by rfl, ?_⟩) ?_ ?_
 rotate_left; exact pI; rotate_left; exact pS
 refine done_ (done_of HT_.out (by kernel_rfl)) ?_
 try go_wp2
 go_ret
 have hfin := T.out
 have e0 : r0 = RR (L.set kk ⟨1, mk NN, some b1⟩) := by rw [← HR0.out, RR, RR, List.map_set]
 have e1 : r1 = MM (L.set kk ⟨1, mk NN, some b1⟩) := by rw [← HR1.out, MM, MM, List.map_set]
 rw [e0, e1] at hfin
 exact ⟨rfl, b1, ⟨t.tb, t.rp, t.rc, vs', t.rows.set r (l ++ [(kk : Int)])⟩, hfin.unbox.rest (map_set_same Tab.tb HI.out (by rfl)).symm (by rw [List.map_set]), rfl, rfl⟩
end
/-- All entries of all tables. -/
def allIds (TS : List Tab) : List Int := (TS.map fun t => t.rows.flatten).flatten
theorem count_flat_set (x : Int) : ∀ (LL : List (List Int)) (i : Nat) (l l' : List Int), LL[i]? = some l → (LL.set i l').flatten.count x + l.count x = LL.flatten.count x + l'.count x
 | [], i, l, l', h => by simp at h
 | a :: LL, 0, l, l', h => by
  obtain rfl := Option.some.inj h
  simp only [List.set_cons_zero, List.flatten_cons, List.count_append]
  omega
 | a :: LL, i + 1, l, l', h => by
  have ih := count_flat_set x LL i l l' (by simpa using h)
  simp only [List.set_cons_succ, List.flatten_cons, List.count_append]
  omega
theorem len_flat_set : ∀ (LL : List (List Int)) (i : Nat) (l l' : List Int), LL[i]? = some l → (LL.set i l').flatten.length + l.length = LL.flatten.length + l'.length
 | [], i, l, l', h => by simp at h
 | a :: LL, 0, l, l', h => by
  obtain rfl := Option.some.inj h
  simp only [List.set_cons_zero, List.flatten_cons, List.length_append]
  omega
 | a :: LL, i + 1, l, l', h => by
  have ih := len_flat_set LL i l l' (by simpa using h)
  simp only [List.set_cons_succ, List.flatten_cons, List.length_append]
  omega
theorem allIds_set (x : Int) {TS : List Tab} {i : Nat} {t : Tab} (t' : Tab) (hi : TS[i]? = some t) : (allIds (TS.set i t')).count x + t.rows.flatten.count x = (allIds TS).count x + t'.rows.flatten.count x := by
 unfold allIds
 rw [List.map_set]
 exact count_flat_set x _ i _ _ (by rw [List.getElem?_map, hi]; rfl)
theorem allIds_snoc (TS : List Tab) (t : Tab) : allIds (TS ++ [t]) = allIds TS ++ t.rows.flatten := by
 unfold allIds
 simp
theorem allIds_len : ∀ (TS : List Tab) (a : Nat), (∀ t ∈ TS, t.rows.flatten.length ≤ a) → (allIds TS).length ≤ TS.length * a
 | [], a, _ => by simp [allIds]
 | t :: TS, a, h => by
  have ih := allIds_len TS a (fun u hu => h u (List.mem_cons_of_mem _ hu))
  have h1 := h t List.mem_cons_self
  have e : allIds (t :: TS) = t.rows.flatten ++ allIds TS := rfl
  rw [e, List.length_append, List.length_cons, Nat.succ_mul]
  omega
theorem allIds_mem {TS : List Tab} {t : Tab} (ht : t ∈ TS) (x : Int) : t.rows.flatten.count x ≤ (allIds TS).count x := by
 induction TS with
 | nil => cases ht
 | cons u TS ih =>
  have e : allIds (u :: TS) = u.rows.flatten ++ allIds TS := rfl
  rw [e, List.count_append]
  rcases List.mem_cons.mp ht with rfl | ht
  ·
   omega
  ·
   have := ih ht; omega
theorem count1 (a x : Int) : [a].count x = if a = x then 1 else 0 := by
 rw [List.count_cons, List.count_nil]
 by_cases h : a = x
 ·
  rw [if_pos h, if_pos (by simpa using h)]
 ·
  rw [if_neg h, if_neg (by simpa using h)]
theorem holds_all {L L' : List Slot} {f f' : Int} {ids : List Int} (h : HoldsI L f ids L' f') (hh : ∀ id ∈ ids, Held L id) (hr : ∀ x ∈ L, 0 ≤ x.refs) : cnt L' = cnt L ∧ L'.length = L.length ∧ ∀ (k : Nat) (x : Slot), L[k]? = some x → ∃ x', L'[k]? = some x' ∧ x'.refs = x.refs + (ids.count (k : Int) : Nat) := by
 induction h with
 | nil => exact ⟨rfl, rfl, fun k x hx => ⟨x, hx, by simp⟩⟩
 | @snoc ids L1 f1 id L2 f2 e h0 hd ih =>
  obtain ⟨i1, i2, i3⟩ := ih (fun id hid => hh id (List.mem_append_left _ hid))
  obtain ⟨n, x, en, hx, hx0⟩ := hh id (List.mem_append_right _ List.mem_cons_self)
  obtain ⟨x1, hx1, hr1⟩ := i3 n x hx
  have hpos := hr x (List.mem_of_getElem? hx)
  rcases hd with ⟨n', x', en', hx', hz, rfl, -, -⟩ | ⟨hno, -, -, -⟩
  ·
   obtain rfl : n = n' := by omega
   obtain rfl := Option.some.inj (hx1.symm.trans hx')
   have hc := cnt_set ⟨x1.refs + 1, x1.mark, x1.pg⟩ L1 n x1 hx1
   rw [if_neg hz, if_neg (show ¬ x1.refs + 1 = 0 by omega)] at hc
   refine ⟨by omega, by rw [List.length_set]; exact i2, fun k y hy => ?_⟩
   obtain ⟨y1, hy1, hyr⟩ := i3 k y hy
   rw [List.count_append, count1, en]
   by_cases q : n = k
   ·
    subst q
    obtain rfl := Option.some.inj (hx.symm.trans hy)
    refine ⟨_, List.getElem?_set_self (List.getElem?_eq_some_iff.mp hx1).1, ?_⟩
    show x1.refs + 1 = _
    rw [if_pos rfl, hr1]
    omega
   ·
    refine ⟨y1, by rw [List.getElem?_set_ne q]; exact hy1, ?_⟩
    rw [if_neg (by omega), hyr]
    omega
  ·
   exact absurd ⟨n, x1, en, hx1, by omega⟩ hno
theorem drops_all {L L' : List Slot} {f f' : Int} {ids : List Int} (h : DropsI L f ids L' f') (hh : ∀ id ∈ ids, ∃ k : Nat, id = (k : Int) ∧ k < L.length) (hr : ∀ (k : Nat) (x : Slot), L[k]? = some x → ((ids.count (k : Int) : Nat) : Int) ≤ x.refs) : f' + cnt L' = f + cnt L ∧ L'.length = L.length ∧ ∀ (k : Nat) (x : Slot), L[k]? = some x → ∃ x', L'[k]? = some x' ∧ x'.refs = x.refs - (ids.count (k : Int) : Nat) := by
 induction h with
 | nil => exact ⟨rfl, rfl, fun k x hx => ⟨x, hx, by simp⟩⟩
 | @snoc ids L1 f1 id L2 f2 e h0 hd ih =>
  obtain ⟨i1, i2, i3⟩ := ih (fun id hid => hh id (List.mem_append_left _ hid)) (fun k x hx => by have := hr k x hx; rw [List.count_append] at this; omega)
  obtain ⟨n, en, hn⟩ := hh id (List.mem_append_right _ List.mem_cons_self)
  obtain ⟨x, hx⟩ : ∃ x, L[n]? = some x := ⟨_, List.getElem?_eq_getElem hn⟩
  obtain ⟨x1, hx1, hr1⟩ := i3 n x hx
  have hb := hr n x hx
  rw [List.count_append, count1, if_pos en] at hb
  rcases hd with ⟨n', x', en', hx', hz, rfl, rfl, -⟩ | ⟨hno, -, -, -⟩
  ·
   obtain rfl : n = n' := by omega
   obtain rfl := Option.some.inj (hx1.symm.trans hx')
   have hc := cnt_set x1.less L1 n x1 hx1
   have hless : x1.less.refs = x1.refs - 1 := by
    by_cases q : x1.refs = 1
    ·
     rw [less_zero x1 q]; show (0 : Int) = x1.refs - 1; omega
    ·
     rw [less_more x1 q]; show x1.refs + -1 = x1.refs - 1; omega
   rw [if_neg hz] at hc
   refine ⟨?_, by rw [List.length_set]; exact i2, fun k y hy => ?_⟩
   ·
    by_cases q : x1.refs = 1
    ·
     rw [if_pos (by omega)] at hc
     rw [if_pos q]
     omega
    ·
     rw [if_neg (by omega)] at hc
     rw [if_neg q]
     omega
   ·
    obtain ⟨y1, hy1, hyr⟩ := i3 k y hy
    rw [List.count_append, count1, en]
    by_cases q : n = k
    ·
     subst q
     obtain rfl := Option.some.inj (hx.symm.trans hy)
     refine ⟨_, List.getElem?_set_self (List.getElem?_eq_some_iff.mp hx1).1, ?_⟩
     rw [hless, if_pos rfl, hr1]
     omega
    ·
     refine ⟨y1, by rw [List.getElem?_set_ne q]; exact hy1, ?_⟩
     rw [if_neg (by omega), hyr]
     omega
  ·
   exact absurd ⟨n, x1, en, hx1, by omega⟩ hno
/-- What is so of pool and tables between calls: m slots, rows of n, at most a entries in a table. -/
structure Inv0 (L : List Slot) (f : Int) (TS : List Tab) (m n a : Nat) : Prop where
 len : L.length = m
 free : f + cnt L = m
 pos : 0 < TS.length
 rows : ∀ t ∈ TS, t.rows.length = n
 sz : ∀ t ∈ TS, t.rows.flatten.length ≤ a
 refs : ∀ (k : Nat) (x : Slot), L[k]? = some x → x.refs = ((allIds TS).count (k : Int) : Nat)
 ids : ∀ t ∈ TS, ∀ id ∈ t.rows.flatten, ∃ k : Nat, id = (k : Int) ∧ k < m
/-- The same, of at most six tables. -/
structure Inv (L : List Slot) (f : Int) (TS : List Tab) (m n a : Nat) : Prop extends Inv0 L f TS m n a where
 six : TS.length ≤ 6
section
variable {L L' : List Slot} {f f' : Int} {TS : List Tab} {m n a : Nat}
theorem Inv0.more (h : Inv0 L f TS m n a) : Inv0 L f TS m n (a + 1) := ⟨h.len, h.free, h.pos, h.rows, fun t ht => Nat.le_succ_of_le (h.sz t ht), h.refs, h.ids⟩
theorem Inv.more (h : Inv L f TS m n a) : Inv L f TS m n (a + 1) := ⟨h.toInv0.more, h.six⟩
theorem Inv0.tops (h : Inv0 L f TS m n a) {c : Nat} (hc : TS.length * a ≤ c) : ∀ x ∈ L, 0 ≤ x.refs ∧ x.refs ≤ c := fun x hx => by
 obtain ⟨k, hk, rfl⟩ := List.getElem_of_mem hx
 have h1 := h.refs k _ (List.getElem?_eq_getElem hk)
 have h2 := List.count_le_length (a := (k : Int)) (l := allIds TS)
 have h3 := allIds_len TS a h.sz
 omega
theorem Inv.top (h : Inv L f TS m n a) (ha : a ≤ 100) : ∀ x ∈ L, 0 ≤ x.refs ∧ x.refs ≤ 600 := fun x hx => by
 obtain ⟨k, hk, rfl⟩ := List.getElem_of_mem hx
 have h1 := h.refs k _ (List.getElem?_eq_getElem hk)
 have h2 := List.count_le_length (a := (k : Int)) (l := allIds TS)
 have h3 := allIds_len TS a h.sz
 have h4 : TS.length * a ≤ 6 * 100 := Nat.mul_le_mul h.six ha
 omega
theorem Inv0.fbound (h : Inv0 L f TS m n a) : 0 ≤ f ∧ f ≤ m := by
 have h1 := cnt_bound L
 have h2 := h.free
 have h3 := h.len
 omega
theorem Inv0.held (h : Inv0 L f TS m n a) {t : Tab} (ht : t ∈ TS) : ∀ id ∈ t.rows.flatten, Held L id := fun id hid => by
 obtain ⟨k, e, hk⟩ := h.ids t ht id hid
 obtain ⟨x, hx⟩ : ∃ x, L[k]? = some x := ⟨_, List.getElem?_eq_getElem (by rw [h.len]; exact hk)⟩
 have h1 := h.refs k x hx
 have h2 := allIds_mem ht (k : Int)
 have h3 : 0 < t.rows.flatten.count (k : Int) := List.count_pos_iff.mpr (by rw [← e]; exact hid)
 exact ⟨k, x, e, hx, by omega⟩
theorem Inv0.fork (h : Inv0 L f TS m n a) {i : Nat} {t t' : Tab} (hi : TS[i]? = some t) (hh : HoldsI L f t.rows.flatten L' f') (hr : t'.rows = t.rows) (hL : ∀ x ∈ L, 0 ≤ x.refs) (hf : f' = f) : Inv0 L' f' (TS ++ [t']) m n a := by
 have ht := List.mem_of_getElem? hi
 obtain ⟨h1, h2, h3⟩ := holds_all hh (h.held ht) hL
 have hm : ∀ u ∈ TS ++ [t'], u ∈ TS ∨ u.rows = t.rows := fun u hu => (List.mem_append.mp hu).elim .inl (fun e => .inr (by rw [List.mem_singleton.mp e, hr]))
 refine ⟨h2.trans h.len, by rw [h1, hf]; exact h.free, by simp, fun u hu => ?_, fun u hu => ?_, fun k x hx => ?_, fun u hu => ?_⟩
 ·
  rcases hm u hu with hu | e
  ·
   exact h.rows u hu
  ·
   rw [e]; exact h.rows t ht
 ·
  rcases hm u hu with hu | e
  ·
   exact h.sz u hu
  ·
   rw [e]; exact h.sz t ht
 ·
  have hk : k < L.length := by rw [← h2]; exact (List.getElem?_eq_some_iff.mp hx).1
  obtain ⟨y, hy⟩ : ∃ y, L[k]? = some y := ⟨_, List.getElem?_eq_getElem hk⟩
  obtain ⟨x', hx', e⟩ := h3 k y hy
  obtain rfl := Option.some.inj (hx.symm.trans hx')
  rw [e, h.refs k y hy, allIds_snoc, List.count_append, hr]
  omega
 ·
  rcases hm u hu with hu | e
  ·
   exact h.ids u hu
  ·
   rw [e]; exact h.ids t ht
theorem Inv.fork (h : Inv L f TS m n a) (h6 : TS.length < 6) {i : Nat} {t t' : Tab} (hi : TS[i]? = some t) (hh : HoldsI L f t.rows.flatten L' f') (hr : t'.rows = t.rows) (hL : ∀ x ∈ L, 0 ≤ x.refs) (hf : f' = f) : Inv L' f' (TS ++ [t']) m n a := ⟨h.toInv0.fork hi hh hr hL hf, by simp; omega⟩
theorem flat_nil : ∀ n : Nat, (List.replicate n ([] : List Int)).flatten = []
 | 0 => rfl
 | n + 1 => by rw [List.replicate_succ, List.flatten_cons, flat_nil n]; rfl
theorem mem_setG {α : Type} {l : List α} {i : Nat} {x y : α} (h : y ∈ l.set i x) : y ∈ l ∨ y = x := (List.mem_or_eq_of_mem_set h).elim .inl .inr
theorem Inv0.clear (h : Inv0 L f TS m n a) {i : Nat} {t t' : Tab} (hi : TS[i]? = some t) (hd : DropsI L f t.rows.flatten L' f') (hr : t'.rows = List.replicate t.rows.length []) : Inv0 L' f' (TS.set i t') m n a := by
 have ht := List.mem_of_getElem? hi
 obtain ⟨h1, h2, h3⟩ := drops_all hd (fun id hid => by obtain ⟨k, e, hk⟩ := h.ids t ht id hid; exact ⟨k, e, by rw [h.len]; exact hk⟩) (fun k x hx => by rw [h.refs k x hx]; have := allIds_mem ht (k : Int); omega)
 have hf : t'.rows.flatten = [] := by rw [hr]; exact flat_nil _
 refine ⟨h2.trans h.len, by rw [h1]; exact h.free, by rw [List.length_set]; exact h.pos, fun u hu => ?_, fun u hu => ?_, fun k x hx => ?_, fun u hu => ?_⟩
 ·
  rcases mem_setG hu with hu | rfl
  ·
   exact h.rows u hu
  ·
   rw [hr, List.length_replicate]; exact h.rows t ht
 ·
  rcases mem_setG hu with hu | rfl
  ·
   exact h.sz u hu
  ·
   rw [hf]; exact Nat.zero_le _
 ·
  have hk : k < L.length := by rw [← h2]; exact (List.getElem?_eq_some_iff.mp hx).1
  obtain ⟨y, hy⟩ : ∃ y, L[k]? = some y := ⟨_, List.getElem?_eq_getElem hk⟩
  obtain ⟨x', hx', e⟩ := h3 k y hy
  obtain rfl := Option.some.inj (hx.symm.trans hx')
  have hs := allIds_set (k : Int) t' hi
  rw [hf, List.count_nil] at hs
  rw [e, h.refs k y hy]
  omega
 ·
  rcases mem_setG hu with hu | rfl
  ·
   exact h.ids u hu
  ·
   rw [hf]; intro id hid; cases hid
theorem Inv0.add (h : Inv0 L f TS m n a) {i : Nat} {t t' : Tab} (hi : TS[i]? = some t) {r : Nat} {l : List Int} (hl : t.rows[r]? = some l) {kk : Nat} {y : Slot} (hk : L[kk]? = some y) (hy : y.refs = 0) {mk_ : Int} {b : Option Nat} (hr : t'.rows = t.rows.set r (l ++ [(kk : Int)])) : Inv0 (L.set kk ⟨1, mk_, b⟩) (f + -1) (TS.set i t') m n (a + 1) := by
 have ht := List.mem_of_getElem? hi
 have hkl := (List.getElem?_eq_some_iff.mp hk).1
 have hc := cnt_set ⟨1, mk_, b⟩ L kk y hk
 rw [if_pos hy, if_neg (show ¬ (1 : Int) = 0 by decide)] at hc
 have hcf : ∀ x : Int, t'.rows.flatten.count x = t.rows.flatten.count x + [(kk : Int)].count x := fun x => by
  have h1 := count_flat_set x t.rows r l (l ++ [(kk : Int)]) hl
  rw [List.count_append] at h1
  rw [hr]
  omega
 refine ⟨by rw [List.length_set]; exact h.len, by have := h.free; omega, by rw [List.length_set]; exact h.pos, fun u hu => ?_, fun u hu => ?_, fun k x hx => ?_, fun u hu => ?_⟩
 ·
  rcases mem_setG hu with hu | rfl
  ·
   exact h.rows u hu
  ·
   rw [hr, List.length_set]; exact h.rows t ht
 ·
  rcases mem_setG hu with hu | rfl
  ·
   exact Nat.le_succ_of_le (h.sz u hu)
  ·
   have h1 := len_flat_set t.rows r l (l ++ [(kk : Int)]) hl
   rw [List.length_append, List.length_singleton] at h1
   have := h.sz t ht
   rw [hr]
   omega
 ·
  have hs := allIds_set (k : Int) t' hi
  rw [hcf (k : Int), count1] at hs
  rcases set_at hx with ⟨rfl, rfl⟩ | ⟨hne, hx⟩
  ·
   have h0 := h.refs k y hk
   rw [if_pos rfl] at hs
   show (1 : Int) = _
   omega
  ·
   rw [if_neg (by omega)] at hs
   rw [h.refs k x hx]
   omega
 ·
  rcases mem_setG hu with hu | rfl
  ·
   exact h.ids u hu
  ·
   intro id hid
   have h1 : 0 < u.rows.flatten.count id := List.count_pos_iff.mpr hid
   rw [hcf id, count1] at h1
   by_cases q : (kk : Int) = id
   ·
    exact ⟨kk, q.symm, by rw [← h.len]; exact hkl⟩
   ·
    rw [if_neg q] at h1
    exact h.ids t ht id (List.count_pos_iff.mp (by omega))
theorem Inv.clear (h : Inv L f TS m n a) {i : Nat} {t t' : Tab} (hi : TS[i]? = some t) (hd : DropsI L f t.rows.flatten L' f') (hr : t'.rows = List.replicate t.rows.length []) : Inv L' f' (TS.set i t') m n a := ⟨h.toInv0.clear hi hd hr, by rw [List.length_set]; exact h.six⟩
theorem Inv.add (h : Inv L f TS m n a) {i : Nat} {t t' : Tab} (hi : TS[i]? = some t) {r : Nat} {l : List Int} (hl : t.rows[r]? = some l) {kk : Nat} {y : Slot} (hk : L[kk]? = some y) (hy : y.refs = 0) {mk_ : Int} {b : Option Nat} (hr : t'.rows = t.rows.set r (l ++ [(kk : Int)])) : Inv (L.set kk ⟨1, mk_, b⟩) (f + -1) (TS.set i t') m n (a + 1) := ⟨h.toInv0.add hi hl hk hy hr, by rw [List.length_set]; exact h.six⟩
end
section
variable {w0 w : World} {pb g s : Nat} {L : List Slot} {f : Int} {TS : List Tab} {m n a : Nat}
open Classical in
/-- Any call, on both. -/
theorem step.calls (k : Nat) (hk : madeAll k = true) (h : PlayAt w0 w pb g s L f TS) (hI : Inv L f TS m n a) (ha : a ≤ 60) (hm : m ≤ 100) (KK Tb Row NN : Int) :
  Calls Try.prog 30 #[.pointer (some ⟨pb, 0, none⟩), .agg #[.int .i64 KK, .int .i64 Tb, .int .i64 Row, .int .i64 NN]] w fun e w' => ∃ L' f' TS', e = .returned (.bool true) ∧ PlayAt w0 w' pb g s L' f' TS' ∧ Inv L' f' TS' m n (a + 1) := by
 have hpos := hI.pos
 obtain ⟨i, hTb⟩ : ∃ i : Nat, (if Tb < 0 then 0 else Tb).tmod (TS.length : Int) = (i : Int) := ⟨((if Tb < 0 then 0 else Tb).tmod (TS.length : Int)).toNat, (Int.toNat_of_nonneg (Int.tmod_nonneg _ (by split <;> omega))).symm⟩
 have hil : i < TS.length := by
  have := Int.tmod_lt_of_pos (if Tb < 0 then 0 else Tb) (show (0 : Int) < (TS.length : Int) by omega)
  omega
 obtain ⟨t, hi⟩ : ∃ t, TS[i]? = some t := ⟨_, List.getElem?_eq_getElem hil⟩
 have htm := List.mem_of_getElem? hi
 have hsz := hI.sz t htm
 have htop := hI.top (by omega)
 have hfb := hI.fbound
 have hlen := hI.len
 have same : ∀ {e : Ending} {w' : World}, e = .returned (.bool true) ∧ PlayAt w0 w' pb g s L f TS → ∃ L' f' TS', e = .returned (.bool true) ∧ PlayAt w0 w' pb g s L' f' TS' ∧ Inv L' f' TS' m n (a + 1) := fun hx => ⟨_, _, _, hx.1, hx.2, hI.more⟩
 by_cases k1 : KK = 1
 ·
  subst k1
  by_cases r0 : 0 ≤ Row
  ·
   by_cases r1 : (t.rows.length : Int) ≤ Row
   ·
    exact (stepAddBig.calls h i t hi Tb hTb hI.six Row NN k hk r1).mono (fun _ _ hx => same hx)
   ·
    obtain ⟨r, rfl⟩ := Int.eq_ofNat_of_zero_le r0
    obtain ⟨l, hl⟩ : ∃ l, t.rows[r]? = some l := ⟨_, List.getElem?_eq_getElem (by omega)⟩
    have hll := flat_mem t.rows r l hl
    rcases first_zero L with h1 | ⟨kk, y, hy, h0, hb⟩
    ·
     exact (stepAddFull.calls h i t hi Tb hTb hI.six NN k hk r l hl (by omega) h1 (by omega)).mono (fun _ _ hx => same hx)
    ·
     refine (stepAddHit.calls h i t hi Tb hTb hI.six NN k hk r l hl (by omega) kk y hy h0 hb (by omega) (by omega) (by omega)).mono ?_
     rintro e w' ⟨he, b, t', hp, -, hr⟩
     exact ⟨_, _, _, he, hp, hI.add hi hl hy h0 hr⟩
  ·
   exact (stepAddNeg.calls h i t hi Tb hTb hI.six Row NN k hk r0).mono (fun _ _ hx => same hx)
 by_cases k2 : KK = 2
 ·
  subst k2
  by_cases h6 : TS.length < 6
  ·
   have fin : ∀ {e : Ending} {w' : World}, e = .returned (.bool true) ∧ ForR w0 w' pb g s L f TS i t → ∃ L' f' TS', e = .returned (.bool true) ∧ PlayAt w0 w' pb g s L' f' TS' ∧ Inv L' f' TS' m n (a + 1) := by
    rintro e w' ⟨he, L', t', hh, hp, hr⟩
    exact ⟨_, _, _, he, hp, (hI.fork h6 hi hh hr (fun x hx => (htop x hx).1) rfl).more⟩
   by_cases r0 : 0 ≤ Row
   ·
    exact (stepForkA.calls h i t hi Tb hTb hI.six Row NN r0 h6 (by omega) (fun x hx => by have := htop x hx; omega) (by omega)).mono (fun _ _ hx => fin hx)
   ·
    exact (stepForkB.calls h i t hi Tb hTb hI.six Row NN r0 h6 (by omega) (fun x hx => by have := htop x hx; omega) (by omega)).mono (fun _ _ hx => fin hx)
  ·
   by_cases r0 : 0 ≤ Row
   ·
    exact (stepForkNoA.calls h i t hi Tb hTb hI.six Row NN r0 (by omega)).mono (fun _ _ hx => same hx)
   ·
    exact (stepForkNoB.calls h i t hi Tb hTb hI.six Row NN r0 (by omega)).mono (fun _ _ hx => same hx)
 by_cases k3 : KK = 3
 ·
  subst k3
  have fin : ∀ {e : Ending} {w' : World}, e = .returned (.bool true) ∧ CleR w0 w' pb g s L f TS i t → ∃ L' f' TS', e = .returned (.bool true) ∧ PlayAt w0 w' pb g s L' f' TS' ∧ Inv L' f' TS' m n (a + 1) := by
   rintro e w' ⟨he, L', f', t', hd, hp, -, hr⟩
   exact ⟨_, _, _, he, hp, (hI.clear hi hd hr).more⟩
  by_cases r0 : 0 ≤ Row
  ·
   exact (stepClearA.calls h i t hi Tb hTb hI.six Row NN r0 (by omega) (by omega) (by omega) (fun x hx => by have := htop x hx; omega)).mono (fun _ _ hx => fin hx)
  ·
   exact (stepClearB.calls h i t hi Tb hTb hI.six Row NN r0 (by omega) (by omega) (by omega) (fun x hx => by have := htop x hx; omega)).mono (fun _ _ hx => fin hx)
 by_cases r0 : 0 ≤ Row
 ·
  by_cases r1 : (t.rows.length : Int) ≤ Row
  ·
   exact (stepAtBig.calls h i t hi Tb hTb hI.six Row NN KK ⟨k1, k2, k3⟩ r1).mono (fun _ _ hx => same hx)
  ·
   obtain ⟨r, rfl⟩ := Int.eq_ofNat_of_zero_le r0
   obtain ⟨l, hl⟩ : ∃ l, t.rows[r]? = some l := ⟨_, List.getElem?_eq_getElem (by omega)⟩
   have hll := flat_mem t.rows r l hl
   by_cases n0 : NN < 0
   ·
    exact (stepAtLow.calls h i t hi Tb hTb hI.six NN KK ⟨k1, k2, k3⟩ r l hl (by omega) n0).mono (fun _ _ hx => same hx)
   ·
    by_cases n1 : (l.length : Int) ≤ NN
    ·
     exact (stepAtHigh.calls h i t hi Tb hTb hI.six NN KK ⟨k1, k2, k3⟩ r l hl (by omega) n1).mono (fun _ _ hx => same hx)
    ·
     obtain ⟨p, rfl⟩ := Int.eq_ofNat_of_zero_le (Int.not_lt.mp n0)
     obtain ⟨id, hid⟩ : ∃ id, l[p]? = some id := ⟨_, List.getElem?_eq_getElem (by omega)⟩
     obtain ⟨q, x, rfl, hx, hx0⟩ := hI.held htm id (List.mem_flatten.mpr ⟨l, List.mem_of_getElem? hl, List.mem_of_getElem? hid⟩)
     exact (stepAtGood.calls h i t hi Tb hTb hI.six KK ⟨k1, k2, k3⟩ r l hl (by omega) p q hid x hx hx0).mono (fun _ _ hx => same hx)
 ·
  exact (stepAtNeg.calls h i t hi Tb hTb hI.six Row NN KK ⟨k1, k2, k3⟩ r0).mono (fun _ _ hx => same hx)
end
section
variable {w0 W W' w : World} {own : Nat → Nat} {pb g s : Nat} {L L' : List Slot} {f f' : Int} {v0 v1 u0 u1 : Value} {l0 l1 m0 m1 : List Int} {x0 x1 ca cr av av1 : Value} {TA : List Nat} {rv rv1 : Value} {D : List (List (List Int))} {TS : List Tab} {cv cv1 : Value} {cl cl1 : List (List Int)} {E : List (Nat × Array Value)}
theorem PlayO.scr (h : PlayO w0 W own pb g s L f v0 v1 l0 l1 x0 x1 ca cr av TA rv D TS cv cl E) (hs : ∀ (k : Nat) (cs : Array Value) (t : Nat), W.heap[k]? = some (.cells cs t (0, 0)) → (t ≠ 3 ∨ own k ≠ TS.length + 2) → W'.heap[k]? = W.heap[k]?) (hB : Below w0.heap.size w0 W') : PlayO w0 W' own pb g s L f v0 v1 l0 l1 x0 x1 ca cr av TA rv D TS cv cl E := by
 obtain ⟨p1, p2, p3, p4, p5, p6, p7⟩ := h.parts (W' := W') 0 (TS.length + 2) (.inl rfl) (fun k cs t hc _ ht => hs k cs t hc (by omega))
 have hP : PoolAt W' g s L f := ⟨h.P.ne, (hs g _ 77 h.P.hg (.inl (by decide))).trans h.P.hg, (hs s _ 88 h.P.hs (.inl (by decide))).trans h.P.hs, fun x hx hr => by
  obtain ⟨p, e, hp, n⟩ := h.P.hp x hx hr
  obtain ⟨-, -, -, -, -, -, -, -, -, -, -, -, -, cs, hd⟩ := id hp
  exact ⟨p, e, hp.same (hs p cs 96 hd (.inl (by decide))), n⟩, h.P.hn, h.P.hr, h.P.hf⟩
 exact ⟨hP, p6 (by omega), (p1 (by decide)).trans h.hp, p2 (by decide), p3 (by decide) (by omega), p4 (by omega), fun j t hj => p5 j t hj (by have := (List.getElem?_eq_some_iff.mp hj).1; omega), h.lt, h.lx, p7, hB, h.gg, h.gs, h.gp⟩
theorem PlayO.grow3 (h : PlayO w0 W own pb g s L f v0 v1 l0 l1 x0 x1 ca cr av TA rv D TS cv cl E) {B : Nat} {ok : Nat → Prop} {v : Value} {xs : List Int} (hR : Kd.R (Kd.int .i64) 3 W B ok v xs) (hok : ∀ k, ok k → own k = TS.length + 2) (hg : W.grownBy W' v.ownBlock) (hB : Below w0.heap.size w0 W') : PlayO w0 W' own pb g s L f v0 v1 l0 l1 x0 x1 ca cr av TA rv D TS cv cl E :=
 h.scr (fun k cs t hc ht => hg.block k (blk_lt hc) (fun e => by
  obtain ⟨cs', hc'⟩ := Kd.R_typed hR k e.symm
  exact ht.elim (fun ht => blk_ne hc hc' ht rfl) (fun ho => ho (hok k (hR.1 k e.symm))))) hB
theorem PlayO.set3 (h : PlayO w0 W own pb g s L f v0 v1 l0 l1 x0 x1 ca cr av TA rv D TS cv cl E) {b : Nat} {ds : Array Value} (hb : W.heap[b]? = some (.cells ds 3 (0, 0))) (ho : own b = TS.length + 2) (hge : w0.heap.size ≤ b) (i : Nat) (u : Value) : PlayO w0 (W.setCell ⟨b, i, none⟩ u) own pb g s L f v0 v1 l0 l1 x0 x1 ca cr av TA rv D TS cv cl E :=
 h.scr (fun k cs t hc ht => Below.heap_setCell W ⟨b, i, none⟩ u k (fun e => by
  subst e
  exact ht.elim (fun ht => blk_ne hc hb ht rfl) (fun hn => hn ho))) (h.HB.setCell (p := ⟨b, i, none⟩) hge u)
end
theorem poolRefsAt.calls (g s : Nat) (L : List Slot) (f : Int) (id : Nat) (x : Slot) (hx : L[id]? = some x) (W : World) (h : PoolAt W g s L f) :
  Calls Try.prog 26 #[.pointer (some ⟨g, 0, none⟩), .int .i64 (id : Int)] W fun e w' => e = .returned (.int .i64 x.refs) ∧ W = w' := by
 by_cases q : x.refs = 0
 ·
  rw [q]
  exact poolRefsNo.calls g s L f (id : Int) (fun y h0 hy => by rw [Int.toNat_natCast, hx] at hy; rw [← Option.some.inj hy]; exact q) W h
 ·
  exact poolRefs.calls g s L f id x hx q W h
/-- How often each slot is named. -/
def cntL (m : Nat) (ids : List Int) : List Int := (List.range m).map fun (q : Nat) => ((ids.count (q : Int) : Nat) : Int)
theorem cntL_len (m : Nat) (ids : List Int) : (cntL m ids).length = m := by simp [cntL]
theorem cntL_get {m q : Nat} (ids : List Int) (hq : q < m) : (cntL m ids)[q]? = some ((ids.count (q : Int) : Nat) : Int) := by simp [cntL, hq]
theorem cntL_nil (m : Nat) : cntL m [] = List.replicate m 0 := by
 apply List.ext_getElem?
 intro i
 by_cases h : i < m
 ·
  rw [cntL_get [] h]; simp [h]
 ·
  rw [List.getElem?_eq_none (by rw [cntL_len]; omega), List.getElem?_eq_none (by simp; omega)]
theorem cntL_step {m q : Nat} (ids : List Int) (hq : q < m) : (cntL m ids).set q (((ids.count (q : Int) : Nat) : Int) + 1) = cntL m (ids ++ [(q : Int)]) := by
 apply List.ext_getElem?
 intro i
 by_cases h : i < m
 ·
  rw [cntL_get _ h, List.count_append, count1]
  by_cases e : i = q
  ·
   subst e
   rw [List.getElem?_set_self (by rw [cntL_len]; exact h), if_pos rfl]
   rfl
  ·
   rw [List.getElem?_set_ne (fun x => e x.symm), cntL_get _ h, if_neg (by omega)]
   rfl
 ·
  rw [List.getElem?_eq_none (by rw [List.length_set, cntL_len]; omega), List.getElem?_eq_none (by rw [cntL_len]; omega)]
theorem int_put {W : World} {B b n c q : Nat} {ok : Nat → Prop} {xs : List Int} {x : Int} (h : Kd.R (Kd.int .i64) 3 W B ok (.slice (some ⟨b, 0, none⟩) n c) xs) (hx : xs[q]? = some x) : W.cell? ⟨b, q, none⟩ = some (.int .i64 x) ∧ W.frozen? ⟨b, q, none⟩ = false ∧ ∀ x' : Int, Kd.R (Kd.int .i64) 3 (W.setCell ⟨b, q, none⟩ (.int .i64 x')) B ok (.slice (some ⟨b, 0, none⟩) n c) (xs.set q x') := by
 have hn := (Kd.R_reads' h).1
 have hi := (List.getElem?_eq_some_iff.mp hx).1
 obtain ⟨c', hcl, hM, hcc, hfr⟩ := Kd.R_elem h 0 (q : Int) (by omega) (by omega)
 have hs0 : (q : Int).toNat * (Kd.sz (Kd.int .i64)) + 0 = q := by show (q : Int).toNat * 1 + 0 = q; omega
 have hg : xs.getD (q : Int).toNat 0 = x := by simp [List.getD_eq_getElem?_getD, hx]
 rw [hg] at hM
 obtain rfl : c' = [.int .i64 x] := hM
 have h0 := hcc 0 _ rfl
 have hf0 := hfr 0
 rw [hs0] at h0 hf0
 refine ⟨h0, hf0, fun x' => ?_⟩
 obtain ⟨hR, -⟩ := Kd.R_seg h (q : Int) (by omega) (by omega) (c := [.int .i64 x]) (seg := [.int .i64 x']) (j := 0) (x' := x') rfl hcc (Nat.le_refl 1) (okp := fun _ => False) rfl (fun _ hk => hk.elim)
 rw [hs0, setCells1, Int.toNat_natCast] at hR
 exact hR
theorem allIds_take {TS : List Tab} {i : Nat} {t : Tab} (hi : TS[i]? = some t) : allIds (TS.take (i + 1)) = allIds (TS.take i) ++ t.rows.flatten := by
 have hl := (List.getElem?_eq_some_iff.mp hi).1
 rw [List.take_succ_eq_append_getElem hl, allIds_snoc]
 rw [List.getElem?_eq_getElem hl] at hi
 rw [Option.some.inj hi]
theorem cell_below {W W' : World} {a : Addr} {u : Value} (hb : Below W.heap.size W W') (h : W.cell? a = some u) : W'.cell? a = some u := (hb.cell (World.block_lt_of_cell? W _ h)).trans h
theorem bx4 {w : World} {g : Nat} {t : TypeId} {a0 a1 a2 a3 : Value} (h : w.heap[g]? = some (.cells #[a0, a1, a2, a3] t (0, 0))) : w.cell? ⟨g, 0, none⟩ = some a0 ∧ w.cell? ⟨g, 1, none⟩ = some a1 ∧ w.cell? ⟨g, 2, none⟩ = some a2 ∧ w.cell? ⟨g, 3, none⟩ = some a3 ∧ (∀ i, w.frozen? ⟨g, i, none⟩ = false) := ⟨(blk_cell h 0).trans rfl, (blk_cell h 1).trans rfl, (blk_cell h 2).trans rfl, (blk_cell h 3).trans rfl, blk_frozen h⟩
section
variable {w0 w w' : World} {own : Nat → Nat} {pb g s : Nat} {L : List Slot} {f : Int} {TS : List Tab} {m n a : Nat}
theorem PlayAt.below (h : PlayAt w0 w pb g s L f TS) (hb : Below w.heap.size w w') : PlayAt w0 w' pb g s L f TS := by
 obtain ⟨own, v0, v1, av, rv, h⟩ := h
 exact ⟨own, v0, v1, av, rv, h.below hb⟩
theorem PlayAt.hb (h : PlayAt w0 w pb g s L f TS) : Below w0.heap.size w0 w := by
 obtain ⟨own, v0, v1, av, rv, h⟩ := h
 exact h.HB
theorem cnt_zero : ∀ (L : List Slot), (∀ x ∈ L, x.refs = 0) → cnt L = 0
 | [], _ => rfl
 | x :: L, h => by
  have h1 := h x List.mem_cons_self
  have h2 := cnt_zero L (fun y hy => h y (List.mem_cons_of_mem _ hy))
  rw [cnt, h2, if_pos h1]
  rfl
theorem Inv.begun (m n : Nat) (t : Tab) (ht : t.rows = List.replicate n []) : Inv (List.replicate m ⟨0, 0, none⟩) (m : Int) [t] m n 0 := by
 have hf : t.rows.flatten = [] := by rw [ht]; exact flat_nil n
 have h0 : ∀ x ∈ List.replicate m (⟨0, 0, none⟩ : Slot), x.refs = 0 := fun x hx => by rw [List.eq_of_mem_replicate hx]
 have ha : allIds [t] = [] := by show t.rows.flatten ++ [] = []; rw [hf]; rfl
 refine ⟨⟨List.length_replicate, by rw [cnt_zero _ h0]; omega, by simp, fun u hu => ?_, fun u hu => ?_, fun k x hx => ?_, fun u hu => ?_⟩, by simp⟩
 ·
  rw [List.mem_singleton.mp hu, ht, List.length_replicate]
 ·
  rw [List.mem_singleton.mp hu, hf]; exact Nat.le_refl _
 ·
  rw [h0 x (List.mem_of_getElem? hx), ha]; rfl
 ·
  rw [List.mem_singleton.mp hu, hf]; intro id hid; cases hid
theorem Inv0.done (h : Inv0 L f TS m n a) (hc : ∀ t ∈ TS, t.rows.flatten = []) : f = m ∧ ∀ x ∈ L, x.refs = 0 := by
 have ha : ∀ (TS : List Tab), (∀ t ∈ TS, t.rows.flatten = []) → allIds TS = [] := by
  intro TS
  induction TS with
  | nil => exact fun _ => rfl
  | cons t TS ih =>
   intro hc
   show t.rows.flatten ++ allIds TS = []
   rw [hc t List.mem_cons_self, ih (fun u hu => hc u (List.mem_cons_of_mem _ hu))]
   rfl
 have hz : ∀ x ∈ L, x.refs = 0 := fun x hx => by
  obtain ⟨k, hk, rfl⟩ := List.getElem_of_mem hx
  rw [h.refs k _ (List.getElem?_eq_getElem hk), ha TS hc]
  rfl
 exact ⟨by have := h.free; rw [cnt_zero L hz] at this; omega, hz⟩
/-- What begun comes to. -/
def BegR (w0 w' : World) (pb m n : Nat) : Prop := ∃ g s t, PlayAt w0 w' pb g s (List.replicate m ⟨0, 0, none⟩) (m : Int) [t] ∧ Inv (List.replicate m ⟨0, 0, none⟩) (m : Int) [t] m n 0
theorem begunAt.calls (m n : Nat) (hm : m ≤ 100) (hn : n ≤ 16) (w : World) :
  Calls Try.prog 29 #[.int .i64 (m : Int), .int .i64 (n : Int)] w fun e w' => ∃ pb, e = .returned (.pointer (some ⟨pb, 0, none⟩)) ∧ BegR w w' pb m n := by
 refine (begun.calls m n hm hn w).mono ?_
 rintro e w' ⟨own, pb, g, s, v0, v1, av, rv, t, rfl, hp, ht⟩
 exact ⟨pb, rfl, g, s, t, hp.rest rfl (by rw [List.map_cons, ht]; rfl), Inv.begun m n t ht⟩
theorem begun.bad (m : Nat) (r : Int) (hm : m ≤ 100) (hr : r < 0 ∨ 16 < r) (w : World) :
  Calls Try.prog 29 #[.int .i64 (m : Int), .int .i64 r] w fun e w' => e = .returned (.pointer none) ∧ Below w.heap.size w w' := by
 have HM := aM hm
 have HR := aM hr
 have HB := aM (Below.refl w.heap.size w)
 clear hm hr
 go_enter Try.func29, Try.ntmps29
 go_wp2_with (first | (go_at_call 12; (refine (poolNew.calls m (by have := HM.out; omega) _).mono ?_); rintro e w1 ⟨g, s, rfl, -, -, -, hb⟩; replace HB := aM (below_step HB.out hb); clear hb) | (go_at_call 38; (refine (blockNew.bad g r HR.out _).mono ?_); rintro e w2 ⟨rfl, rfl⟩; skip))
 go_ret
 exact ⟨rfl, HB.out⟩
end
section
variable {w0 w w' : World} {own : Nat → Nat} {pb g s : Nat} {L : List Slot} {f : Int} {v0 v1 : Value} {l0 l1 : List Int} {x0 x1 ca cr av : Value} {TA : List Nat} {rv : Value} {D : List (List (List Int))} {TS : List Tab} {cv : Value} {cl : List (List Int)} {E : List (Nat × Array Value)} {m n a : Nat}
theorem PlayO.tabOf (h : PlayO w0 w own pb g s L f v0 v1 l0 l1 x0 x1 ca cr av TA rv D TS cv cl E) {i : Nat} {t : Tab} (hi : TS[i]? = some t) {b : Nat} (hbt : t.tb = b) : TabAt w0.heap.size w b g t.rp t.rc t.vs t.rows := by
 subst hbt
 exact h.ht i t hi
/-- Clear, on table i. -/
theorem clearOf.calls (h : PlayO w0 w own pb g s L f v0 v1 l0 l1 x0 x1 ca cr av TA rv D TS cv cl E) (hI : Inv0 L f TS m n a) (ha : a ≤ 1000) (hm : m ≤ 1000) {i : Nat} {t : Tab} (hi : TS[i]? = some t) {b : Nat} (hbt : t.tb = b) :
  Calls Try.prog 35 #[.pointer (some ⟨b, 0, none⟩)] w fun e w' => ∃ own' L' f' t', e = .returned (.tuple #[]) ∧ PlayO w0 w' own' pb g s L' f' v0 v1 l0 l1 x0 x1 ca cr av TA rv D (TS.set i t') cv cl E ∧ Inv0 L' f' (TS.set i t') m n a ∧ t'.tb = b ∧ t'.rows = List.replicate t.rows.length [] ∧ Kept w w' (fun q => (q = g ∨ q = s) ∨ q = b) := by
 subst hbt
 have hsz := hI.sz t (List.mem_of_getElem? hi)
 have hfb := hI.fbound
 refine (blockClear.calls (h.ht i t hi) h.P (below_size h.HB) h.gg h.gs (by omega) (by omega)).mono ?_
 rintro e wd ⟨L', f', rb', rfl, hdr, hp, htab, hb, hk, hrb⟩
 obtain ⟨own2, hT⟩ := h.tab hi (Kept.weak hk (fun q e_ => e_.elim .inl (fun e_ => .inr (.inl e_)))) hp (h.HB.trans hb) htab (fun q hq => .inr (by rw [OwnR.new hq]; exact hrb))
 exact ⟨own2, L', f', _, rfl, hT, hI.clear hi hdr rfl, rfl, rfl, hk⟩
/-- Fork, of table i. -/
theorem forkOf.calls (h : PlayO w0 w own pb g s L f v0 v1 l0 l1 x0 x1 ca cr av TA rv D TS cv cl E) (hI : Inv0 L f TS m n a) (ha : a ≤ 1000) (hr : ∀ x ∈ L, 0 ≤ x.refs ∧ x.refs ≤ 1000) {i : Nat} {t : Tab} (hi : TS[i]? = some t) :
  Calls Try.prog 31 #[.pointer (some ⟨t.tb, 0, none⟩)] w fun e w' => ∃ own' L' t', e = .returned (.pointer (some ⟨t'.tb, 0, none⟩)) ∧ PlayO w0 w' own' pb g s L' f v0 v1 l0 l1 x0 x1 ca cr av TA rv D (TS ++ [t']) cv cl E ∧ Inv0 L' f (TS ++ [t']) m n a ∧ t'.rows = t.rows := by
 have hsz := hI.sz t (List.mem_of_getElem? hi)
 refine (blockFork.calls (h.ht i t hi) h.P (below_size h.HB) h.gg h.gs (by omega) (fun x hx => (hr x hx).2)).mono ?_
 rintro e wd ⟨L', ob, rp', rc', us, rfl, hh, hp, -, hu, hob, hown, hb, hk⟩
 obtain ⟨own2, hT⟩ := h.fork hk hp (h.HB.trans hb) hu hob hown
 exact ⟨own2, L', _, rfl, hT, hI.fork hi hh rfl (fun x hx => (hr x hx).1) rfl, rfl⟩
/-- Add of a page, to row r of table i, whatever comes of it. -/
theorem addOf.calls (h : PlayO w0 w own pb g s L f v0 v1 l0 l1 x0 x1 ca cr av TA rv D TS cv cl E) (hI : Inv0 L f TS m n a) (ha : a ≤ 1000) {i : Nat} {t : Tab} (hi : TS[i]? = some t) (r : Nat) (hr : r < n) (b : Nat) (mk_ : Int) (hq : PgAt w b mk_) (n1 : b ≠ g) (n2 : b ≠ s) {tb : Nat} (hbt : t.tb = tb) {ri : Int} (hri : (r : Int) = ri) :
  Calls Try.prog 33 #[.pointer (some ⟨tb, 0, none⟩), .int .i64 ri, .pointer (some ⟨b, 0, none⟩)] w fun e w' => ∃ (z : Int) (own' : Nat → Nat) (L' : List Slot) (f' : Int) (t' : Tab), e = .returned (.int .i64 z) ∧ PlayO w0 w' own' pb g s L' f' v0 v1 l0 l1 x0 x1 ca cr av TA rv D (TS.set i t') cv cl E ∧ Inv0 L' f' (TS.set i t') m n (a + 1) ∧ t'.tb = tb ∧ Kept w w' (fun q => (q = g ∨ q = s) ∨ OwnR t.rp t.vs q) := by
 subst hbt hri
 have htm := List.mem_of_getElem? hi
 have hsz := hI.sz t htm
 obtain ⟨l, hl⟩ : ∃ l, t.rows[r]? = some l := ⟨_, List.getElem?_eq_getElem (by rw [hI.rows t htm]; exact hr)⟩
 have hll := flat_mem t.rows r l hl
 have hfb := hI.fbound
 rcases first_zero L with h1 | ⟨kk, y, hy, h0, hb⟩
 ·
  refine (blockAddFull.calls (h.ht i t hi) h.P h1 r l hl (some ⟨b, 0, none⟩)).mono ?_
  rintro e w' ⟨rfl, rfl⟩
  have he : TS.set i t = TS := by
   apply List.ext_getElem?
   intro j
   by_cases q : i = j
   ·
    subst q
    rw [List.getElem?_set_self (List.getElem?_eq_some_iff.mp hi).1, hi]
   ·
    rw [List.getElem?_set_ne q]
  exact ⟨23, own, L, f, t, rfl, by rw [he]; exact h, by rw [he]; exact hI.more, rfl, ⟨Nat.le_refl _, fun _ _ _ => rfl⟩⟩
 ·
  refine (blockAdd.calls (h.ht i t hi) h.P (below_size h.HB) h.gg h.gs r l hl (by omega) b mk_ kk y hy h0 hb hq n1 n2 (by omega)).mono ?_
  rintro e w' ⟨vs', rfl, hp, htab, hbb, hk, ho⟩
  obtain ⟨own2, hT⟩ := h.tab hi (Kept.weak hk (fun q e_ => e_.elim .inl (fun e_ => .inr (.inr e_)))) hp (h.HB.trans hbb) htab ho
  exact ⟨0, own2, _, _, _, rfl, hT, hI.add hi hl hy h0 rfl, rfl, hk⟩
/-- Slots, of table i. -/
theorem slotsOf.calls (h : PlayO w0 w own pb g s L f v0 v1 l0 l1 x0 x1 ca cr av TA rv D TS cv cl E) (hI : Inv0 L f TS m n a) (ha : a ≤ 1000) {i : Nat} {t : Tab} (hi : TS[i]? = some t) {b : Nat} (hbt : t.tb = b) {ids : List Int} (hids : t.rows.flatten = ids) :
  Calls Try.prog 32 #[.pointer (some ⟨b, 0, none⟩)] w fun e w' => ∃ A c, e = .returned (.slice A ids.length c) ∧ Kd.R (Kd.int .i64) 3 w' w.heap.size (fun _ => True) (.slice A ids.length c) ids ∧ Below w.heap.size w w' := by
 subst hbt hids
 have hsz := hI.sz t (List.mem_of_getElem? hi)
 refine (blockSlots.calls (h.ht i t hi) (by omega)).mono ?_
 rintro e w' ⟨v, rfl, hr, hb⟩
 obtain ⟨A, c, rfl⟩ := Kd.R_slice hr
 exact ⟨A, c, rfl, hr, hb⟩
theorem seenKept {W W' : World} {B : Nat} {ok S : Nat → Prop} {v : Value} {xs : List Int} (hR : Kd.R (Kd.int .i64) 3 W B ok v xs) (hP : PoolAt W g s L f) (hk : Kept W W' (fun q => (q = g ∨ q = s) ∨ S q)) (hS : ∀ k cs, ok k → W.heap[k]? = some (.cells cs 3 (0, 0)) → ¬ S k) : Kd.R (Kd.int .i64) 3 W' B ok v xs :=
 Kd.R_mono (Kd.R_step (Kd.R_bound hR) (fun k hk1 _ => by
  obtain ⟨h1, h2, h3, q, hq, cs, hc⟩ := hk1
  have hq' : q = 3 := by simpa [Kd.int, Kd.scalar] using hq
  subst hq'
  exact hk.2 k h3 (fun e => e.elim (fun e => e.elim (blk_ne hc hP.hg (by decide)) (blk_ne hc hP.hs (by decide))) (hS k cs h1 hc)))) (fun k hk1 => hk1.1)
theorem used_zero (L : List Slot) (h : ∀ x ∈ L, x.refs = 0) : ∀ n, usedTo L n = []
 | 0 => rfl
 | n + 1 => by
  have hz : (L.getD n ⟨0, 0, none⟩).refs = 0 := by
   rw [List.getD_eq_getElem?_getD]
   cases q : L[n]? with
   | none => rfl
   | some x => exact h x (List.mem_of_getElem? q)
  rw [usedTo, if_pos hz]
  exact used_zero L h n
/-- What BlockFrees has cleared, and how. -/
theorem cleared_step {j : Nat} {t t1 t2 : Tab} (hi : TS[j]? = some t) (h2 : t2.rows = List.replicate n []) (hc : ∀ (i : Nat) (u : Tab), TS[i]? = some u → i < j → u.rows.flatten = []) : ∀ (i : Nat) (u : Tab), ((TS.set j t1).set j t2)[i]? = some u → i < j + 1 → u.rows.flatten = [] := fun i u hu hl => by
 rw [List.set_set] at hu
 rcases set_atG hu with ⟨rfl, rfl⟩ | ⟨hne, hu⟩
 ·
  rw [h2]
  exact flat_nil n
 ·
  exact hc i u hu (by omega)
theorem tb_step {j : Nat} {t t1 t2 : Tab} (hi : TS[j]? = some t) (h2 : t2.tb = t.tb) : ((TS.set j t1).set j t2).map Tab.tb = TS.map Tab.tb := by
 rw [List.set_set]
 exact map_set_same Tab.tb hi h2
theorem set_same {j : Nat} {t t1 : Tab} (hi : TS[j]? = some t) : (TS.set j t1)[j]? = some t1 := List.getElem?_set_self (List.getElem?_eq_some_iff.mp hi).1
end
-- calls: credenzalaw11_play_change credenzaref10_Pool_Put

end Go.Proofs.Ytoofkemhikigoaa.PBlockPlays
