-- Written by a program of this session (wip/tools/mkprint.py over the kit's print).
import Derived.Test.YtlkelicgbjjgiaaPSealOpensx0
import Derived.Test.YtlkelicgbjjgiaaPSealOpensx1
namespace Go.Proofs.Ytlkelicgbjjgiaa.PSealOpens
open Go.RowKit Go.Proofs.YtlkelicgbjjgiaaW.PrintWords Go.Proofs.YtlkelicgbjjgiaaW.PrintLast Go.Proofs.YtlkelicgbjjgiaaW.PrintMore
attribute [local go_sem] max2_int min2_int max_two min_two max_three min_three max_four min_four   -- for this text's walks alone
set_option linter.unusedVariables false
set_option linter.unusedSimpArgs false

/-! ### seal_Reader_Signed: function 43 -/
def seal_Reader_Signed.f (k : Nat) (s0_0 : List Int) (s0_1 : Bool) : Option (Int × List Int × Bool) := (seal_Reader_Num.f k s0_0 s0_1 4).bind fun bt128 => (some (wrap32 ((bt128.1) % 4294967296), bt128.2.1, bt128.2.2))
theorem seal_Reader_Signed.mono : ∀ a0 a1 k, LeO (seal_Reader_Signed.f k a0 a1) (seal_Reader_Signed.f (k + 1) a0 a1) := by
  intro a0 a1 k
  unfold seal_Reader_Signed.f
  repeat' first
      | (with_reducible exact seal_Reader_Num.mono _ _ _ _)
      | (with_reducible exact LeO.refl _)
      | (with_reducible exact LeO.none _)
      | (with_reducible refine LeO.ite ?_ ?_)
      | (with_reducible refine LeO.bind ?_ (fun _ => ?_))
      | exact seal_Reader_Num.mono _ _ _ _
      | exact LeO.none _
      | refine LeO.ite ?_ ?_
      | refine LeO.bind ?_ (fun _ => ?_)
set_option maxHeartbeats 8000000 in
set_option maxRecDepth 100000 in
theorem seal_Reader_Signed.calls (k : Nat) (g : Nat) (s0_0 : List Int) (s0_1 : Bool) (r1 : Int) (r2 : List Int) (r3 : Bool) (w0 w : World) (hI : IsS75 w0 w g s0_0 s0_1) (hB : Below w0.heap.size w0 w) (h : seal_Reader_Signed.f k s0_0 s0_1 = some (r1, r2, r3)) :
    Calls Try.prog 43 #[.pointer (some ⟨g, 0, none⟩)] w fun e w' => e = .returned (.int .i32 r1) ∧ IsS75 w0 w' g r2 r3 ∧ Below w0.heap.size w0 w' ∧ KeepBut w w' g none := by
  have HI0 := Aside0.mk hI
  have HK := Aside0.mk (KeepBut.refl w g none)
  have HL := Aside0.mk hB.size
  clear hI
  have HW0 := Aside0.mk hB.size
  have HB := Aside0.mk hB
  clear hB
  have H : ((seal_Reader_Num.f k s0_0 s0_1 4).bind fun bt128 => (some (wrap32 ((bt128.1) % 4294967296), bt128.2.1, bt128.2.2))) = some (r1, r2, r3) := h
  clear h
  replace H := Option.bind_eq_some_iff.mp H
  obtain ⟨⟨t128, t129, t130⟩, A20, H⟩ := H
  replace H : (some (wrap32 ((t128) % 4294967296), t129, t130)) = some (r1, r2, r3) := H
  have A2 := Aside0.mk A20
  clear A20
  simp only [Option.some.injEq, Prod.mk.injEq] at H
  obtain ⟨rfl, rfl, rfl⟩ := H
  go_enter Try.func43, Try.ntmps43
  go_wp2_with (first | ((with_reducible refine gate_callee (f := 38) rfl ?_); refine goesL_ (some 4) rfl rfl Try.func38 (by kernel_rfl) rfl #[.pointer (some ⟨g, 0, none⟩), .int .i64 4] rfl (by (try simp only [List.map_toArray, List.map_cons, List.map_nil]); first | done | rfl | (simp only [List.length_drop, List.length_take]; rfl)) ?_; (with_reducible refine (seal_Reader_Num.calls k g s0_0 s0_1 4 t128 t129 t130 w0 _ ?side1 ?side2 A2.out).mono ?_); (case side1 => repeat (first | (with_reducible first | exact HI0.out | apply IsS75.alloc | apply IsS75.drewN | apply IsS75.drew | apply IsS75.set_1) | exact HI0.out)); (case side2 => repeat (first | (with_reducible first | exact HB.out | apply below_alloc | apply pw_below_drewN | apply below_drew1 | refine below_set ?_ (IsS75.ge HI0.out)) | exact HB.out)); rintro e w3 ⟨rfl, hi, hb, hk⟩; refine ⟨_, rfl, ?_⟩; have n0_ := Aside0.mk (KeepBut.trans (by repeat (first | (with_reducible first | exact HK.out | apply KeepBut.set_ | apply keep_drewN | apply keep_drew | apply keep_alloc) | exact HK.out)) hk (.inl rfl)); have n1_ := Aside0.mk (hb); have n2_ := Aside0.mk (hi); clear HK; clear HB; clear HI0; have HK := n0_; have HB := n1_; have HI0 := n2_; clear n0_ n1_ n2_; (try clear hb); (try clear hb2); (try clear hk); (try clear hi)))
  go_ret
  exact ⟨by first | rfl | (simp [errW_none, errW_some] <;> rfl) | (simp [*, errW_none, errW_some] <;> rfl), by repeat (first | (with_reducible first | exact HI0.out | apply IsS75.alloc | apply IsS75.drewN | apply IsS75.drew | apply IsS75.set_1) | exact HI0.out), by repeat (first | (with_reducible first | exact HB.out | apply below_alloc | apply pw_below_drewN | apply below_drew1 | refine below_set ?_ (IsS75.ge HI0.out)) | exact HB.out), by repeat (first | (with_reducible first | exact HK.out | apply KeepBut.set_ | apply keep_drewN | apply keep_drew | apply keep_alloc) | exact HK.out)⟩

/-! ### credenzalaw06_awake: function 27 -/
def credenzalaw06_awake.f (k : Nat)  : Option (Bool) := (seal_Close.f k (([97, 98] : List Int))).bind fun t135 => ((seal_Open.f k t135).bind fun bt138 => ((seal_Open.f k (([97, 98, 99] : List Int))).bind fun bt146 => ((seal_Open.f k (([97, 98, 99, 100] : List Int))).bind fun bt154 => ((seal_Put.f k (([255, 255, 255, 254] : List Int)) 66051 2).bind fun t162 => ((seal_NewReader.f t162).bind fun bt165 => ((seal_Reader_Signed.f k bt165.1 bt165.2).bind fun bt168 => ((seal_Reader_Num.f k bt168.2.1 bt168.2.2 2).bind fun bt171 => ((seal_Sum.f k ([] : List Int)).bind fun t174 => (if t174 = 2166136261 then (if (strOfNums bt138.1).toList = ([97, 98] : List UInt8) then (if bt138.2 = 0 then (if bt146.2 = 16 then (if bt154.2 = 22 then (if bt168.1 = (-2) then (if bt171.1 = 515 then ((seal_Reader_Left.f bt171.2.1 bt171.2.2).bind fun bt175 => (if bt175.1 = 0 then ((seal_Reader_Short.f bt175.2.1 bt175.2.2).bind fun bt178 => (if bt178.1 = true then (none) else ((seal_Reader_Take.f bt178.2.1 bt178.2.2 1).bind fun bt181 => (if (bt181.1.length : Int) = 0 then ((seal_Reader_Short.f bt181.2.1 bt181.2.2).bind fun bt186 => (some bt186.1)) else (none))))) else (none))) else (none)) else (none)) else (none)) else (none)) else (none)) else (none)) else (none))))))))))
theorem credenzalaw06_awake.mono : ∀ k, LeO (credenzalaw06_awake.f k ) (credenzalaw06_awake.f (k + 1) ) := by
  intro  k
  unfold credenzalaw06_awake.f
  repeat' first
      | (with_reducible exact seal_Close.mono _ _)
      | (with_reducible exact seal_Open.mono _ _)
      | (with_reducible exact seal_Put.mono _ _ _ _)
      | (with_reducible exact seal_Reader_Num.mono _ _ _ _)
      | (with_reducible exact seal_Reader_Signed.mono _ _ _)
      | (with_reducible exact seal_Sum.mono _ _)
      | (with_reducible exact LeO.refl _)
      | (with_reducible exact LeO.none _)
      | (with_reducible refine LeO.ite ?_ ?_)
      | (with_reducible refine LeO.bind ?_ (fun _ => ?_))
      | exact seal_Close.mono _ _
      | exact seal_Open.mono _ _
      | exact seal_Put.mono _ _ _ _
      | exact seal_Reader_Num.mono _ _ _ _
      | exact seal_Reader_Signed.mono _ _ _
      | exact seal_Sum.mono _ _
      | exact LeO.none _
      | refine LeO.ite ?_ ?_
      | refine LeO.bind ?_ (fun _ => ?_)
set_option maxHeartbeats 8000000 in
set_option maxRecDepth 100000 in
theorem credenzalaw06_awake.calls (k : Nat)  (r : Bool) (w : World) (h : credenzalaw06_awake.f k  = some r) :
    Calls Try.prog 27 #[] w fun e w' => e = .returned (.bool r) ∧ Below w.heap.size w w' := by
  have HB := Aside0.mk (Below.refl w.heap.size w)
  have H : ((seal_Close.f k (([97, 98] : List Int))).bind fun t135 => ((seal_Open.f k t135).bind fun bt138 => ((seal_Open.f k (([97, 98, 99] : List Int))).bind fun bt146 => ((seal_Open.f k (([97, 98, 99, 100] : List Int))).bind fun bt154 => ((seal_Put.f k (([255, 255, 255, 254] : List Int)) 66051 2).bind fun t162 => ((seal_NewReader.f t162).bind fun bt165 => ((seal_Reader_Signed.f k bt165.1 bt165.2).bind fun bt168 => ((seal_Reader_Num.f k bt168.2.1 bt168.2.2 2).bind fun bt171 => ((seal_Sum.f k ([] : List Int)).bind fun t174 => (if t174 = 2166136261 then (if (strOfNums bt138.1).toList = ([97, 98] : List UInt8) then (if bt138.2 = 0 then (if bt146.2 = 16 then (if bt154.2 = 22 then (if bt168.1 = (-2) then (if bt171.1 = 515 then ((seal_Reader_Left.f bt171.2.1 bt171.2.2).bind fun bt175 => (if bt175.1 = 0 then ((seal_Reader_Short.f bt175.2.1 bt175.2.2).bind fun bt178 => (if bt178.1 = true then (none) else ((seal_Reader_Take.f bt178.2.1 bt178.2.2 1).bind fun bt181 => (if (bt181.1.length : Int) = 0 then ((seal_Reader_Short.f bt181.2.1 bt181.2.2).bind fun bt186 => (some bt186.1)) else (none))))) else (none))) else (none)) else (none)) else (none)) else (none)) else (none)) else (none)) else (none))))))))))) = some r := h
  clear h
  obtain ⟨y131, hy131⟩ : ∃ y_ : List Int, y_ = (([97, 98] : List Int)) := ⟨_, rfl⟩
  replace H : ((seal_Close.f k y131).bind fun t135 => ((seal_Open.f k t135).bind fun bt138 => ((seal_Open.f k (([97, 98, 99] : List Int))).bind fun bt146 => ((seal_Open.f k (([97, 98, 99, 100] : List Int))).bind fun bt154 => ((seal_Put.f k (([255, 255, 255, 254] : List Int)) 66051 2).bind fun t162 => ((seal_NewReader.f t162).bind fun bt165 => ((seal_Reader_Signed.f k bt165.1 bt165.2).bind fun bt168 => ((seal_Reader_Num.f k bt168.2.1 bt168.2.2 2).bind fun bt171 => ((seal_Sum.f k ([] : List Int)).bind fun t174 => (if t174 = 2166136261 then (if (strOfNums bt138.1).toList = ([97, 98] : List UInt8) then (if bt138.2 = 0 then (if bt146.2 = 16 then (if bt154.2 = 22 then (if bt168.1 = (-2) then (if bt171.1 = 515 then ((seal_Reader_Left.f bt171.2.1 bt171.2.2).bind fun bt175 => (if bt175.1 = 0 then ((seal_Reader_Short.f bt175.2.1 bt175.2.2).bind fun bt178 => (if bt178.1 = true then (none) else ((seal_Reader_Take.f bt178.2.1 bt178.2.2 1).bind fun bt181 => (if (bt181.1.length : Int) = 0 then ((seal_Reader_Short.f bt181.2.1 bt181.2.2).bind fun bt186 => (some bt186.1)) else (none))))) else (none))) else (none)) else (none)) else (none)) else (none)) else (none)) else (none)) else (none))))))))))) = some r := by first | (rw [hy131]; with_reducible exact H) | (have H2_ := (Option.bind_some _ _).symm.trans H; rw [hy131]; with_reducible exact H2_) | (have H2_ := (Option.bind_some _ _).symm.trans H; with_reducible exact H2_) | with_reducible exact H | (rw [hy131]; exact H) | exact H
  have Ny131 := Aside0.mk hy131
  clear hy131
  replace H := Option.bind_eq_some_iff.mp H
  obtain ⟨t135, A10, H⟩ := H
  replace H : ((seal_Open.f k t135).bind fun bt138 => ((seal_Open.f k (([97, 98, 99] : List Int))).bind fun bt146 => ((seal_Open.f k (([97, 98, 99, 100] : List Int))).bind fun bt154 => ((seal_Put.f k (([255, 255, 255, 254] : List Int)) 66051 2).bind fun t162 => ((seal_NewReader.f t162).bind fun bt165 => ((seal_Reader_Signed.f k bt165.1 bt165.2).bind fun bt168 => ((seal_Reader_Num.f k bt168.2.1 bt168.2.2 2).bind fun bt171 => ((seal_Sum.f k ([] : List Int)).bind fun t174 => (if t174 = 2166136261 then (if (strOfNums bt138.1).toList = ([97, 98] : List UInt8) then (if bt138.2 = 0 then (if bt146.2 = 16 then (if bt154.2 = 22 then (if bt168.1 = (-2) then (if bt171.1 = 515 then ((seal_Reader_Left.f bt171.2.1 bt171.2.2).bind fun bt175 => (if bt175.1 = 0 then ((seal_Reader_Short.f bt175.2.1 bt175.2.2).bind fun bt178 => (if bt178.1 = true then (none) else ((seal_Reader_Take.f bt178.2.1 bt178.2.2 1).bind fun bt181 => (if (bt181.1.length : Int) = 0 then ((seal_Reader_Short.f bt181.2.1 bt181.2.2).bind fun bt186 => (some bt186.1)) else (none))))) else (none))) else (none)) else (none)) else (none)) else (none)) else (none)) else (none)) else (none)))))))))) = some r := H
  have A1 := Aside0.mk A10
  clear A10
  replace H := Option.bind_eq_some_iff.mp H
  obtain ⟨⟨t138, t139⟩, A20, H⟩ := H
  replace H : ((seal_Open.f k (([97, 98, 99] : List Int))).bind fun bt146 => ((seal_Open.f k (([97, 98, 99, 100] : List Int))).bind fun bt154 => ((seal_Put.f k (([255, 255, 255, 254] : List Int)) 66051 2).bind fun t162 => ((seal_NewReader.f t162).bind fun bt165 => ((seal_Reader_Signed.f k bt165.1 bt165.2).bind fun bt168 => ((seal_Reader_Num.f k bt168.2.1 bt168.2.2 2).bind fun bt171 => ((seal_Sum.f k ([] : List Int)).bind fun t174 => (if t174 = 2166136261 then (if (strOfNums t138).toList = ([97, 98] : List UInt8) then (if t139 = 0 then (if bt146.2 = 16 then (if bt154.2 = 22 then (if bt168.1 = (-2) then (if bt171.1 = 515 then ((seal_Reader_Left.f bt171.2.1 bt171.2.2).bind fun bt175 => (if bt175.1 = 0 then ((seal_Reader_Short.f bt175.2.1 bt175.2.2).bind fun bt178 => (if bt178.1 = true then (none) else ((seal_Reader_Take.f bt178.2.1 bt178.2.2 1).bind fun bt181 => (if (bt181.1.length : Int) = 0 then ((seal_Reader_Short.f bt181.2.1 bt181.2.2).bind fun bt186 => (some bt186.1)) else (none))))) else (none))) else (none)) else (none)) else (none)) else (none)) else (none)) else (none)) else (none))))))))) = some r := H
  have A2 := Aside0.mk A20
  clear A20
  obtain ⟨y142, hy142⟩ : ∃ y_ : List Int, y_ = (([97, 98, 99] : List Int)) := ⟨_, rfl⟩
  replace H : ((seal_Open.f k y142).bind fun bt146 => ((seal_Open.f k (([97, 98, 99, 100] : List Int))).bind fun bt154 => ((seal_Put.f k (([255, 255, 255, 254] : List Int)) 66051 2).bind fun t162 => ((seal_NewReader.f t162).bind fun bt165 => ((seal_Reader_Signed.f k bt165.1 bt165.2).bind fun bt168 => ((seal_Reader_Num.f k bt168.2.1 bt168.2.2 2).bind fun bt171 => ((seal_Sum.f k ([] : List Int)).bind fun t174 => (if t174 = 2166136261 then (if (strOfNums t138).toList = ([97, 98] : List UInt8) then (if t139 = 0 then (if bt146.2 = 16 then (if bt154.2 = 22 then (if bt168.1 = (-2) then (if bt171.1 = 515 then ((seal_Reader_Left.f bt171.2.1 bt171.2.2).bind fun bt175 => (if bt175.1 = 0 then ((seal_Reader_Short.f bt175.2.1 bt175.2.2).bind fun bt178 => (if bt178.1 = true then (none) else ((seal_Reader_Take.f bt178.2.1 bt178.2.2 1).bind fun bt181 => (if (bt181.1.length : Int) = 0 then ((seal_Reader_Short.f bt181.2.1 bt181.2.2).bind fun bt186 => (some bt186.1)) else (none))))) else (none))) else (none)) else (none)) else (none)) else (none)) else (none)) else (none)) else (none))))))))) = some r := by first | (rw [hy142]; with_reducible exact H) | (have H2_ := (Option.bind_some _ _).symm.trans H; rw [hy142]; with_reducible exact H2_) | (have H2_ := (Option.bind_some _ _).symm.trans H; with_reducible exact H2_) | with_reducible exact H | (rw [hy142]; exact H) | exact H
  have Ny142 := Aside0.mk hy142
  clear hy142
  replace H := Option.bind_eq_some_iff.mp H
  obtain ⟨⟨t146, t147⟩, A30, H⟩ := H
  replace H : ((seal_Open.f k (([97, 98, 99, 100] : List Int))).bind fun bt154 => ((seal_Put.f k (([255, 255, 255, 254] : List Int)) 66051 2).bind fun t162 => ((seal_NewReader.f t162).bind fun bt165 => ((seal_Reader_Signed.f k bt165.1 bt165.2).bind fun bt168 => ((seal_Reader_Num.f k bt168.2.1 bt168.2.2 2).bind fun bt171 => ((seal_Sum.f k ([] : List Int)).bind fun t174 => (if t174 = 2166136261 then (if (strOfNums t138).toList = ([97, 98] : List UInt8) then (if t139 = 0 then (if t147 = 16 then (if bt154.2 = 22 then (if bt168.1 = (-2) then (if bt171.1 = 515 then ((seal_Reader_Left.f bt171.2.1 bt171.2.2).bind fun bt175 => (if bt175.1 = 0 then ((seal_Reader_Short.f bt175.2.1 bt175.2.2).bind fun bt178 => (if bt178.1 = true then (none) else ((seal_Reader_Take.f bt178.2.1 bt178.2.2 1).bind fun bt181 => (if (bt181.1.length : Int) = 0 then ((seal_Reader_Short.f bt181.2.1 bt181.2.2).bind fun bt186 => (some bt186.1)) else (none))))) else (none))) else (none)) else (none)) else (none)) else (none)) else (none)) else (none)) else (none)))))))) = some r := H
  have A3 := Aside0.mk A30
  clear A30
  obtain ⟨y150, hy150⟩ : ∃ y_ : List Int, y_ = (([97, 98, 99, 100] : List Int)) := ⟨_, rfl⟩
  replace H : ((seal_Open.f k y150).bind fun bt154 => ((seal_Put.f k (([255, 255, 255, 254] : List Int)) 66051 2).bind fun t162 => ((seal_NewReader.f t162).bind fun bt165 => ((seal_Reader_Signed.f k bt165.1 bt165.2).bind fun bt168 => ((seal_Reader_Num.f k bt168.2.1 bt168.2.2 2).bind fun bt171 => ((seal_Sum.f k ([] : List Int)).bind fun t174 => (if t174 = 2166136261 then (if (strOfNums t138).toList = ([97, 98] : List UInt8) then (if t139 = 0 then (if t147 = 16 then (if bt154.2 = 22 then (if bt168.1 = (-2) then (if bt171.1 = 515 then ((seal_Reader_Left.f bt171.2.1 bt171.2.2).bind fun bt175 => (if bt175.1 = 0 then ((seal_Reader_Short.f bt175.2.1 bt175.2.2).bind fun bt178 => (if bt178.1 = true then (none) else ((seal_Reader_Take.f bt178.2.1 bt178.2.2 1).bind fun bt181 => (if (bt181.1.length : Int) = 0 then ((seal_Reader_Short.f bt181.2.1 bt181.2.2).bind fun bt186 => (some bt186.1)) else (none))))) else (none))) else (none)) else (none)) else (none)) else (none)) else (none)) else (none)) else (none)))))))) = some r := by first | (rw [hy150]; with_reducible exact H) | (have H2_ := (Option.bind_some _ _).symm.trans H; rw [hy150]; with_reducible exact H2_) | (have H2_ := (Option.bind_some _ _).symm.trans H; with_reducible exact H2_) | with_reducible exact H | (rw [hy150]; exact H) | exact H
  have Ny150 := Aside0.mk hy150
  clear hy150
  replace H := Option.bind_eq_some_iff.mp H
  obtain ⟨⟨t154, t155⟩, A40, H⟩ := H
  replace H : ((seal_Put.f k (([255, 255, 255, 254] : List Int)) 66051 2).bind fun t162 => ((seal_NewReader.f t162).bind fun bt165 => ((seal_Reader_Signed.f k bt165.1 bt165.2).bind fun bt168 => ((seal_Reader_Num.f k bt168.2.1 bt168.2.2 2).bind fun bt171 => ((seal_Sum.f k ([] : List Int)).bind fun t174 => (if t174 = 2166136261 then (if (strOfNums t138).toList = ([97, 98] : List UInt8) then (if t139 = 0 then (if t147 = 16 then (if t155 = 22 then (if bt168.1 = (-2) then (if bt171.1 = 515 then ((seal_Reader_Left.f bt171.2.1 bt171.2.2).bind fun bt175 => (if bt175.1 = 0 then ((seal_Reader_Short.f bt175.2.1 bt175.2.2).bind fun bt178 => (if bt178.1 = true then (none) else ((seal_Reader_Take.f bt178.2.1 bt178.2.2 1).bind fun bt181 => (if (bt181.1.length : Int) = 0 then ((seal_Reader_Short.f bt181.2.1 bt181.2.2).bind fun bt186 => (some bt186.1)) else (none))))) else (none))) else (none)) else (none)) else (none)) else (none)) else (none)) else (none)) else (none))))))) = some r := H
  have A4 := Aside0.mk A40
  clear A40
  obtain ⟨y158, hy158⟩ : ∃ y_ : List Int, y_ = (([255, 255, 255, 254] : List Int)) := ⟨_, rfl⟩
  replace H : ((seal_Put.f k y158 66051 2).bind fun t162 => ((seal_NewReader.f t162).bind fun bt165 => ((seal_Reader_Signed.f k bt165.1 bt165.2).bind fun bt168 => ((seal_Reader_Num.f k bt168.2.1 bt168.2.2 2).bind fun bt171 => ((seal_Sum.f k ([] : List Int)).bind fun t174 => (if t174 = 2166136261 then (if (strOfNums t138).toList = ([97, 98] : List UInt8) then (if t139 = 0 then (if t147 = 16 then (if t155 = 22 then (if bt168.1 = (-2) then (if bt171.1 = 515 then ((seal_Reader_Left.f bt171.2.1 bt171.2.2).bind fun bt175 => (if bt175.1 = 0 then ((seal_Reader_Short.f bt175.2.1 bt175.2.2).bind fun bt178 => (if bt178.1 = true then (none) else ((seal_Reader_Take.f bt178.2.1 bt178.2.2 1).bind fun bt181 => (if (bt181.1.length : Int) = 0 then ((seal_Reader_Short.f bt181.2.1 bt181.2.2).bind fun bt186 => (some bt186.1)) else (none))))) else (none))) else (none)) else (none)) else (none)) else (none)) else (none)) else (none)) else (none))))))) = some r := by first | (rw [hy158]; with_reducible exact H) | (have H2_ := (Option.bind_some _ _).symm.trans H; rw [hy158]; with_reducible exact H2_) | (have H2_ := (Option.bind_some _ _).symm.trans H; with_reducible exact H2_) | with_reducible exact H | (rw [hy158]; exact H) | exact H
  have Ny158 := Aside0.mk hy158
  clear hy158
  replace H := Option.bind_eq_some_iff.mp H
  obtain ⟨t162, A50, H⟩ := H
  replace H : ((seal_NewReader.f t162).bind fun bt165 => ((seal_Reader_Signed.f k bt165.1 bt165.2).bind fun bt168 => ((seal_Reader_Num.f k bt168.2.1 bt168.2.2 2).bind fun bt171 => ((seal_Sum.f k ([] : List Int)).bind fun t174 => (if t174 = 2166136261 then (if (strOfNums t138).toList = ([97, 98] : List UInt8) then (if t139 = 0 then (if t147 = 16 then (if t155 = 22 then (if bt168.1 = (-2) then (if bt171.1 = 515 then ((seal_Reader_Left.f bt171.2.1 bt171.2.2).bind fun bt175 => (if bt175.1 = 0 then ((seal_Reader_Short.f bt175.2.1 bt175.2.2).bind fun bt178 => (if bt178.1 = true then (none) else ((seal_Reader_Take.f bt178.2.1 bt178.2.2 1).bind fun bt181 => (if (bt181.1.length : Int) = 0 then ((seal_Reader_Short.f bt181.2.1 bt181.2.2).bind fun bt186 => (some bt186.1)) else (none))))) else (none))) else (none)) else (none)) else (none)) else (none)) else (none)) else (none)) else (none)))))) = some r := H
  have A5 := Aside0.mk A50
  clear A50
  replace H := Option.bind_eq_some_iff.mp H
  obtain ⟨⟨t165, t166⟩, A60, H⟩ := H
  replace H : ((seal_Reader_Signed.f k t165 t166).bind fun bt168 => ((seal_Reader_Num.f k bt168.2.1 bt168.2.2 2).bind fun bt171 => ((seal_Sum.f k ([] : List Int)).bind fun t174 => (if t174 = 2166136261 then (if (strOfNums t138).toList = ([97, 98] : List UInt8) then (if t139 = 0 then (if t147 = 16 then (if t155 = 22 then (if bt168.1 = (-2) then (if bt171.1 = 515 then ((seal_Reader_Left.f bt171.2.1 bt171.2.2).bind fun bt175 => (if bt175.1 = 0 then ((seal_Reader_Short.f bt175.2.1 bt175.2.2).bind fun bt178 => (if bt178.1 = true then (none) else ((seal_Reader_Take.f bt178.2.1 bt178.2.2 1).bind fun bt181 => (if (bt181.1.length : Int) = 0 then ((seal_Reader_Short.f bt181.2.1 bt181.2.2).bind fun bt186 => (some bt186.1)) else (none))))) else (none))) else (none)) else (none)) else (none)) else (none)) else (none)) else (none)) else (none))))) = some r := H
  have A6 := Aside0.mk A60
  clear A60
  replace H := Option.bind_eq_some_iff.mp H
  obtain ⟨⟨t168, t169, t170⟩, A70, H⟩ := H
  replace H : ((seal_Reader_Num.f k t169 t170 2).bind fun bt171 => ((seal_Sum.f k ([] : List Int)).bind fun t174 => (if t174 = 2166136261 then (if (strOfNums t138).toList = ([97, 98] : List UInt8) then (if t139 = 0 then (if t147 = 16 then (if t155 = 22 then (if t168 = (-2) then (if bt171.1 = 515 then ((seal_Reader_Left.f bt171.2.1 bt171.2.2).bind fun bt175 => (if bt175.1 = 0 then ((seal_Reader_Short.f bt175.2.1 bt175.2.2).bind fun bt178 => (if bt178.1 = true then (none) else ((seal_Reader_Take.f bt178.2.1 bt178.2.2 1).bind fun bt181 => (if (bt181.1.length : Int) = 0 then ((seal_Reader_Short.f bt181.2.1 bt181.2.2).bind fun bt186 => (some bt186.1)) else (none))))) else (none))) else (none)) else (none)) else (none)) else (none)) else (none)) else (none)) else (none)))) = some r := H
  have A7 := Aside0.mk A70
  clear A70
  replace H := Option.bind_eq_some_iff.mp H
  obtain ⟨⟨t171, t172, t173⟩, A80, H⟩ := H
  replace H : ((seal_Sum.f k ([] : List Int)).bind fun t174 => (if t174 = 2166136261 then (if (strOfNums t138).toList = ([97, 98] : List UInt8) then (if t139 = 0 then (if t147 = 16 then (if t155 = 22 then (if t168 = (-2) then (if t171 = 515 then ((seal_Reader_Left.f t172 t173).bind fun bt175 => (if bt175.1 = 0 then ((seal_Reader_Short.f bt175.2.1 bt175.2.2).bind fun bt178 => (if bt178.1 = true then (none) else ((seal_Reader_Take.f bt178.2.1 bt178.2.2 1).bind fun bt181 => (if (bt181.1.length : Int) = 0 then ((seal_Reader_Short.f bt181.2.1 bt181.2.2).bind fun bt186 => (some bt186.1)) else (none))))) else (none))) else (none)) else (none)) else (none)) else (none)) else (none)) else (none)) else (none))) = some r := H
  have A8 := Aside0.mk A80
  clear A80
  replace H := Option.bind_eq_some_iff.mp H
  obtain ⟨t174, A90, H⟩ := H
  replace H : (if t174 = 2166136261 then (if (strOfNums t138).toList = ([97, 98] : List UInt8) then (if t139 = 0 then (if t147 = 16 then (if t155 = 22 then (if t168 = (-2) then (if t171 = 515 then ((seal_Reader_Left.f t172 t173).bind fun bt175 => (if bt175.1 = 0 then ((seal_Reader_Short.f bt175.2.1 bt175.2.2).bind fun bt178 => (if bt178.1 = true then (none) else ((seal_Reader_Take.f bt178.2.1 bt178.2.2 1).bind fun bt181 => (if (bt181.1.length : Int) = 0 then ((seal_Reader_Short.f bt181.2.1 bt181.2.2).bind fun bt186 => (some bt186.1)) else (none))))) else (none))) else (none)) else (none)) else (none)) else (none)) else (none)) else (none)) else (none)) = some r := H
  have A9 := Aside0.mk A90
  clear A90
  by_cases c10 : t174 = 2166136261
  · rw [if_pos c10] at H
    have c10b0 : (t174 == 2166136261) = true := beq_iff_eq.mpr c10
    have c10b1 : (t174 != 2166136261) = false := bne_eq_false_iff_eq.mpr c10
    clear c10
    by_cases c11 : (strOfNums t138).toList = ([97, 98] : List UInt8)
    · rw [if_pos c11] at H
      have c11b0 : ((strOfNums t138).toList == ([97, 98] : List UInt8)) = true := beq_iff_eq.mpr c11
      have c11b1 : ((strOfNums t138).toList != ([97, 98] : List UInt8)) = false := bne_eq_false_iff_eq.mpr c11
      clear c11
      by_cases c12 : t139 = 0
      · rw [if_pos c12] at H
        have c12b0 : (t139 == 0) = true := beq_iff_eq.mpr c12
        have c12b1 : (t139 != 0) = false := bne_eq_false_iff_eq.mpr c12
        clear c12
        by_cases c13 : t147 = 16
        · rw [if_pos c13] at H
          have c13b0 : (t147 == 16) = true := beq_iff_eq.mpr c13
          have c13b1 : (t147 != 16) = false := bne_eq_false_iff_eq.mpr c13
          clear c13
          by_cases c14 : t155 = 22
          · rw [if_pos c14] at H
            have c14b0 : (t155 == 22) = true := beq_iff_eq.mpr c14
            have c14b1 : (t155 != 22) = false := bne_eq_false_iff_eq.mpr c14
            clear c14
            by_cases c15 : t168 = (-2)
            · rw [if_pos c15] at H
              have c15b0 : (t168 == (-2)) = true := beq_iff_eq.mpr c15
              have c15b1 : (t168 != (-2)) = false := bne_eq_false_iff_eq.mpr c15
              clear c15
              by_cases c16 : t171 = 515
              · rw [if_pos c16] at H
                have c16b0 : (t171 == 515) = true := beq_iff_eq.mpr c16
                have c16b1 : (t171 != 515) = false := bne_eq_false_iff_eq.mpr c16
                clear c16
                replace H := Option.bind_eq_some_iff.mp H
                obtain ⟨⟨t175, t176, t177⟩, A170, H⟩ := H
                replace H : (if t175 = 0 then ((seal_Reader_Short.f t176 t177).bind fun bt178 => (if bt178.1 = true then (none) else ((seal_Reader_Take.f bt178.2.1 bt178.2.2 1).bind fun bt181 => (if (bt181.1.length : Int) = 0 then ((seal_Reader_Short.f bt181.2.1 bt181.2.2).bind fun bt186 => (some bt186.1)) else (none))))) else (none)) = some r := H
                have A17 := Aside0.mk A170
                clear A170
                by_cases c18 : t175 = 0
                · rw [if_pos c18] at H
                  have c18b0 : (t175 == 0) = true := beq_iff_eq.mpr c18
                  have c18b1 : (t175 != 0) = false := bne_eq_false_iff_eq.mpr c18
                  clear c18
                  replace H := Option.bind_eq_some_iff.mp H
                  obtain ⟨⟨t178, t179, t180⟩, A190, H⟩ := H
                  replace H : (if t178 = true then (none) else ((seal_Reader_Take.f t179 t180 1).bind fun bt181 => (if (bt181.1.length : Int) = 0 then ((seal_Reader_Short.f bt181.2.1 bt181.2.2).bind fun bt186 => (some bt186.1)) else (none)))) = some r := H
                  have A19 := Aside0.mk A190
                  clear A190
                  by_cases c20 : t178 = true
                  · subst c20
                    have H1 : (none) = some r := by rw [if_pos rfl] at H; exact H
                    clear H
                    have H := H1
                    clear H1
                    exact absurd H (by simp)
                  · replace c20 := Bool.eq_false_iff.mpr c20
                    subst c20
                    have H1 : ((seal_Reader_Take.f t179 t180 1).bind fun bt181 => (if (bt181.1.length : Int) = 0 then ((seal_Reader_Short.f bt181.2.1 bt181.2.2).bind fun bt186 => (some bt186.1)) else (none))) = some r := by rw [if_neg (show ¬ (false = true) by decide)] at H; exact H
                    clear H
                    have H := H1
                    clear H1
                    replace H := Option.bind_eq_some_iff.mp H
                    obtain ⟨⟨t181, t184, t185⟩, A210, H⟩ := H
                    replace H : (if (t181.length : Int) = 0 then ((seal_Reader_Short.f t184 t185).bind fun bt186 => (some bt186.1)) else (none)) = some r := H
                    have A21 := Aside0.mk A210
                    clear A210
                    by_cases c22 : (t181.length : Int) = 0
                    · rw [if_pos c22] at H
                      have c22b0 : ((t181.length : Int) == 0) = true := beq_iff_eq.mpr c22
                      have c22b1 : ((t181.length : Int) != 0) = false := bne_eq_false_iff_eq.mpr c22
                      clear c22
                      replace H := Option.bind_eq_some_iff.mp H
                      obtain ⟨⟨t186, t187, t188⟩, A230, H⟩ := H
                      replace H : (some t186) = some r := H
                      have A23 := Aside0.mk A230
                      clear A230
                      obtain rfl := Option.some.inj H
                      go_enter Try.func27, Try.ntmps27
                      go_wp2_with (first | ((with_reducible refine gate_dst (N := 11) rfl ?_); (try (refine gate_guard (by rfl) ?_; dsimp only)); refine Kd.R_lit (Kd.int .u8) _ 5 ?hg (N := 11) ?hd (xs := ([97, 98] : List Int)) (inner := [.int .u8 97, .int .u8 98]) (ok := fun _ => True) (okp := fun _ => True) ?hr ?hp (fun _ hk => hk) trivial (Below.refl _ _) (Nat.le_refl _) (by simp) ?_; (case hd => rfl); (case hg => rfl); (case hr => first | (go_simp; done) | (go_simp; rfl)); (case hp => exact (Reps.one (show Kd.M (Kd.int .u8) _ _ _ 97 [.int .u8 97] from rfl) (Reps.one (show Kd.M (Kd.int .u8) _ _ _ 98 [.int .u8 98] from rfl) (Reps.none _ _)))); intro v132 w24 ho25 hb hg_ hnew_; clear hg_ hnew_; (first | rw [← Ny131.out] at ho25 | (simp only [Int.reduceToNat] at ho25; rw [← Ny131.out] at ho25)); have n0_ := Aside0.mk (Kd.R_lower ho25 (below_size (by repeat (first | (with_reducible first | exact HB.out | apply below_alloc | apply pw_below_drewN | apply below_drew1) | exact HB.out)))); have n1_ := Aside0.mk (below_step (by repeat (first | (with_reducible first | exact HB.out | apply below_alloc | apply pw_below_drewN | apply below_drew1) | exact HB.out)) hb); clear HB; have HO133 := n0_; have HB := n1_; clear n0_ n1_; clear hb ho25; obtain ⟨Ao26, co26, eo26⟩ := Kd.R_slice HO133.out; subst eo26; obtain ⟨w28, hcv27, hr27, hg, hbm, hcc27⟩ := run_mark (P := Try.prog) Try.underlying41 Try.underlying5 HO133.out (by first | (rw [Ny131.out]; decide) | decide); have n0_ := Aside0.mk (hbm _ (by repeat (first | (with_reducible first | exact HB.out | apply below_alloc | apply pw_below_drewN | apply below_drew1) | exact HB.out))); clear HB; clear HO133; have HB := n0_; clear n0_; have HR134 := Aside0.mk hr27; have HC134 := Aside0.mk hcc27; clear hr27 hcc27 hg hbm) | ((with_reducible refine gate_callee (f := 28) rfl ?_); refine goesL_ (some 13) rfl rfl Try.func28 (by kernel_rfl) rfl #[.slice Ao26 y131.length co26] rfl (by (try simp only [List.map_toArray, List.map_cons, List.map_nil]); first | done | rfl | (simp only [List.length_drop, List.length_take]; rfl)) ?_; (with_reducible refine (seal_Close.calls k _ _ y131 t135 _ ?side1 ?side2 A1.out).mono ?_); (case side1 => repeat (first | exact (by repeat (first | (with_reducible exact HR134.out) | (with_reducible refine Kd.C_alloc ?_ _) | (with_reducible refine Kd.C_drewN ?_ _) | (with_reducible refine Kd.C_drew ?_) | exact HR134.out)) | (with_reducible refine Kd.C_alloc ?_ _) | (with_reducible refine Kd.C_drewN ?_ _) | (with_reducible refine Kd.C_drew ?_))); (case side2 => exact HC134.out); rintro e w29 ⟨v136, rfl, ho0, hb⟩; refine ⟨_, rfl, ?_⟩; have n0_ := Aside0.mk (Kd.R_lower ho0 (below_size (by repeat (first | (with_reducible first | exact HB.out | apply below_alloc | apply pw_below_drewN | apply below_drew1) | exact HB.out)))); have n1_ := Aside0.mk (Kd.C_below (by repeat (first | (with_reducible exact HR134.out) | (with_reducible refine Kd.C_alloc ?_ _) | (with_reducible refine Kd.C_drewN ?_ _) | (with_reducible refine Kd.C_drew ?_) | exact HR134.out)) hb); have n2_ := Aside0.mk (below_step (by repeat (first | (with_reducible first | exact HB.out | apply below_alloc | apply pw_below_drewN | apply below_drew1) | exact HB.out)) hb); clear HR134; clear HB; have HO137 := n0_; have HR134 := n1_; have HB := n2_; clear n0_ n1_ n2_; (try clear hb); (try clear hb2); (try clear hk); (try clear hi); (try clear ho0); obtain ⟨Ao30, co30, eo30⟩ := Kd.R_slice HO137.out; subst eo30) | ((with_reducible refine gate_callee (f := 29) rfl ?_); refine goesL_ (some 14) rfl rfl Try.func29 (by kernel_rfl) rfl #[.slice Ao30 t135.length co30] rfl (by (try simp only [List.map_toArray, List.map_cons, List.map_nil]); first | done | rfl | (simp only [List.length_drop, List.length_take]; rfl)) ?_; (with_reducible refine (seal_Open.calls k _ _ t135 t138 t139 _ ?side1 ?side2 A2.out).mono ?_); (case side1 => repeat (first | exact (Kd.R_reads' HO137.out).2.2 | (with_reducible refine Kd.C_alloc ?_ _) | (with_reducible refine Kd.C_drewN ?_ _) | (with_reducible refine Kd.C_drew ?_))); (case side2 => exact (Kd.R_reads' HO137.out).2.1); rintro e w31 ⟨v140, rfl, ho0, hb⟩; refine ⟨_, rfl, ?_⟩; have n0_ := Aside0.mk (Kd.R_elder' (by (with_reducible repeat (first | apply Kd.R_alloc | apply Kd.R_drewN | apply Kd.R_drew)); exact HO137.out) (Kd.R_base ho0) hb); have n1_ := Aside0.mk (Kd.R_lower (Kd.R_new' ho0 (Kd.R_lt (by (with_reducible repeat (first | apply Kd.R_alloc | apply Kd.R_drewN | apply Kd.R_drew)); exact HO137.out))) (below_size (by repeat (first | (with_reducible first | exact HB.out | apply below_alloc | apply pw_below_drewN | apply below_drew1) | exact HB.out)))); have n2_ := Aside0.mk (Kd.C_below (by repeat (first | (with_reducible exact HR134.out) | (with_reducible refine Kd.C_alloc ?_ _) | (with_reducible refine Kd.C_drewN ?_ _) | (with_reducible refine Kd.C_drew ?_) | exact HR134.out)) hb); have n3_ := Aside0.mk (below_step (by repeat (first | (with_reducible first | exact HB.out | apply below_alloc | apply pw_below_drewN | apply below_drew1) | exact HB.out)) hb); clear HO137; clear HR134; clear HB; have HO137 := n0_; have HO141 := n1_; have HR134 := n2_; have HB := n3_; clear n0_ n1_ n2_ n3_; (try clear hb); (try clear hb2); (try clear hk); (try clear hi); (try clear ho0)) | ((with_reducible refine gate_dst (N := 18) rfl ?_); (try (refine gate_guard (by rfl) ?_; dsimp only)); refine Kd.R_lit (Kd.int .u8) _ 5 ?hg (N := 18) ?hd (xs := ([97, 98, 99] : List Int)) (inner := [.int .u8 97, .int .u8 98, .int .u8 99]) (ok := fun _ => True) (okp := fun _ => True) ?hr ?hp (fun _ hk => hk) trivial (Below.refl _ _) (Nat.le_refl _) (by simp) ?_; (case hd => rfl); (case hg => rfl); (case hr => first | (go_simp; done) | (go_simp; rfl)); (case hp => exact (Reps.one (show Kd.M (Kd.int .u8) _ _ _ 97 [.int .u8 97] from rfl) (Reps.one (show Kd.M (Kd.int .u8) _ _ _ 98 [.int .u8 98] from rfl) (Reps.one (show Kd.M (Kd.int .u8) _ _ _ 99 [.int .u8 99] from rfl) (Reps.none _ _))))); intro v143 w32 ho33 hb hg_ hnew_; clear hg_ hnew_; (first | rw [← Ny142.out] at ho33 | (simp only [Int.reduceToNat] at ho33; rw [← Ny142.out] at ho33)); have n0_ := Aside0.mk (Kd.R_elder' (by (with_reducible repeat (first | apply Kd.R_alloc | apply Kd.R_drewN | apply Kd.R_drew)); exact HO137.out) (Kd.R_base ho33) hb); have n1_ := Aside0.mk (Kd.R_elder' (by (with_reducible repeat (first | apply Kd.R_alloc | apply Kd.R_drewN | apply Kd.R_drew)); exact HO141.out) (Kd.R_base ho33) hb); have n2_ := Aside0.mk (Kd.R_lower (Kd.R_new' (Kd.R_new' ho33 (Kd.R_lt (by (with_reducible repeat (first | apply Kd.R_alloc | apply Kd.R_drewN | apply Kd.R_drew)); exact HO137.out))) (Kd.R_lt (by (with_reducible repeat (first | apply Kd.R_alloc | apply Kd.R_drewN | apply Kd.R_drew)); exact HO141.out))) (below_size (by repeat (first | (with_reducible first | exact HB.out | apply below_alloc | apply pw_below_drewN | apply below_drew1) | exact HB.out)))); have n3_ := Aside0.mk (Kd.C_below (by repeat (first | (with_reducible exact HR134.out) | (with_reducible refine Kd.C_alloc ?_ _) | (with_reducible refine Kd.C_drewN ?_ _) | (with_reducible refine Kd.C_drew ?_) | exact HR134.out)) hb); have n4_ := Aside0.mk (below_step (by repeat (first | (with_reducible first | exact HB.out | apply below_alloc | apply pw_below_drewN | apply below_drew1) | exact HB.out)) hb); clear HO137; clear HO141; clear HR134; clear HB; have HO137 := n0_; have HO141 := n1_; have HO144 := n2_; have HR134 := n3_; have HB := n4_; clear n0_ n1_ n2_ n3_ n4_; clear hb ho33; obtain ⟨Ao34, co34, eo34⟩ := Kd.R_slice HO144.out; subst eo34; obtain ⟨w36, hcv35, hr35, hg, hbm, hcc35⟩ := run_mark (P := Try.prog) Try.underlying41 Try.underlying5 HO144.out (by first | (rw [Ny142.out]; decide) | decide); have n0_ := Aside0.mk (Kd.R_mono (Kd.R_after (ok := (fun k_ => some k_ ≠ (v140 : Value).ownBlock)) (by (with_reducible repeat (first | apply Kd.R_alloc | apply Kd.R_drewN | apply Kd.R_drew)); exact Kd.R_mono HO137.out (fun _ hk => ⟨hk.1.2, hk.2⟩)) hg (.inl rfl)) (fun _ h_ => h_.1)); have n1_ := Aside0.mk (Kd.R_mono (Kd.R_after (ok := (fun k_ => some k_ ≠ (.slice Ao30 t135.length co30 : Value).ownBlock)) (by (with_reducible repeat (first | apply Kd.R_alloc | apply Kd.R_drewN | apply Kd.R_drew)); exact Kd.R_mono HO141.out (fun _ hk => ⟨hk.1.2, hk.2⟩)) hg (.inl rfl)) (fun _ h_ => h_.1)); have n2_ := Aside0.mk (hbm _ (by repeat (first | (with_reducible first | exact HB.out | apply below_alloc | apply pw_below_drewN | apply below_drew1) | exact HB.out))); clear HO137; clear HO141; clear HB; clear HO144; have HO137 := n0_; have HO141 := n1_; have HB := n2_; clear n0_ n1_ n2_; have HR145 := Aside0.mk hr35; have HC145 := Aside0.mk hcc35; clear hr35 hcc35 hg hbm) | ((with_reducible refine gate_callee (f := 29) rfl ?_); refine goesL_ (some 20) rfl rfl Try.func29 (by kernel_rfl) rfl #[.slice Ao34 y142.length co34] rfl (by (try simp only [List.map_toArray, List.map_cons, List.map_nil]); first | done | rfl | (simp only [List.length_drop, List.length_take]; rfl)) ?_; (with_reducible refine (seal_Open.calls k _ _ y142 t146 t147 _ ?side1 ?side2 A3.out).mono ?_); (case side1 => repeat (first | exact (by repeat (first | (with_reducible exact HR145.out) | (with_reducible refine Kd.C_alloc ?_ _) | (with_reducible refine Kd.C_drewN ?_ _) | (with_reducible refine Kd.C_drew ?_) | exact HR145.out)) | (with_reducible refine Kd.C_alloc ?_ _) | (with_reducible refine Kd.C_drewN ?_ _) | (with_reducible refine Kd.C_drew ?_))); (case side2 => exact HC145.out); rintro e w37 ⟨v148, rfl, ho0, hb⟩; refine ⟨_, rfl, ?_⟩; have n0_ := Aside0.mk (Kd.R_elder' (by (with_reducible repeat (first | apply Kd.R_alloc | apply Kd.R_drewN | apply Kd.R_drew)); exact HO137.out) (Kd.R_base ho0) hb); have n1_ := Aside0.mk (Kd.R_elder' (by (with_reducible repeat (first | apply Kd.R_alloc | apply Kd.R_drewN | apply Kd.R_drew)); exact HO141.out) (Kd.R_base ho0) hb); have n2_ := Aside0.mk (Kd.R_lower (Kd.R_new' (Kd.R_new' ho0 (Kd.R_lt (by (with_reducible repeat (first | apply Kd.R_alloc | apply Kd.R_drewN | apply Kd.R_drew)); exact HO137.out))) (Kd.R_lt (by (with_reducible repeat (first | apply Kd.R_alloc | apply Kd.R_drewN | apply Kd.R_drew)); exact HO141.out))) (below_size (by repeat (first | (with_reducible first | exact HB.out | apply below_alloc | apply pw_below_drewN | apply below_drew1) | exact HB.out)))); have n3_ := Aside0.mk (Kd.C_below (by repeat (first | (with_reducible exact HR145.out) | (with_reducible refine Kd.C_alloc ?_ _) | (with_reducible refine Kd.C_drewN ?_ _) | (with_reducible refine Kd.C_drew ?_) | exact HR145.out)) hb); have n4_ := Aside0.mk (below_step (by repeat (first | (with_reducible first | exact HB.out | apply below_alloc | apply pw_below_drewN | apply below_drew1) | exact HB.out)) hb); clear HO137; clear HO141; clear HR145; clear HB; have HO137 := n0_; have HO141 := n1_; have HO149 := n2_; have HR145 := n3_; have HB := n4_; clear n0_ n1_ n2_ n3_ n4_; (try clear hb); (try clear hb2); (try clear hk); (try clear hi); (try clear ho0)) | ((with_reducible refine gate_dst (N := 24) rfl ?_); (try (refine gate_guard (by rfl) ?_; dsimp only)); refine Kd.R_lit (Kd.int .u8) _ 5 ?hg (N := 24) ?hd (xs := ([97, 98, 99, 100] : List Int)) (inner := [.int .u8 97, .int .u8 98, .int .u8 99, .int .u8 100]) (ok := fun _ => True) (okp := fun _ => True) ?hr ?hp (fun _ hk => hk) trivial (Below.refl _ _) (Nat.le_refl _) (by simp) ?_; (case hd => rfl); (case hg => rfl); (case hr => first | (go_simp; done) | (go_simp; rfl)); (case hp => exact (Reps.one (show Kd.M (Kd.int .u8) _ _ _ 97 [.int .u8 97] from rfl) (Reps.one (show Kd.M (Kd.int .u8) _ _ _ 98 [.int .u8 98] from rfl) (Reps.one (show Kd.M (Kd.int .u8) _ _ _ 99 [.int .u8 99] from rfl) (Reps.one (show Kd.M (Kd.int .u8) _ _ _ 100 [.int .u8 100] from rfl) (Reps.none _ _)))))); intro v151 w38 ho39 hb hg_ hnew_; clear hg_ hnew_; (first | rw [← Ny150.out] at ho39 | (simp only [Int.reduceToNat] at ho39; rw [← Ny150.out] at ho39)); have n0_ := Aside0.mk (Kd.R_elder' (by (with_reducible repeat (first | apply Kd.R_alloc | apply Kd.R_drewN | apply Kd.R_drew)); exact HO137.out) (Kd.R_base ho39) hb); have n1_ := Aside0.mk (Kd.R_elder' (by (with_reducible repeat (first | apply Kd.R_alloc | apply Kd.R_drewN | apply Kd.R_drew)); exact HO141.out) (Kd.R_base ho39) hb); have n2_ := Aside0.mk (Kd.R_elder' (by (with_reducible repeat (first | apply Kd.R_alloc | apply Kd.R_drewN | apply Kd.R_drew)); exact HO149.out) (Kd.R_base ho39) hb); have n3_ := Aside0.mk (Kd.R_lower (Kd.R_new' (Kd.R_new' (Kd.R_new' ho39 (Kd.R_lt (by (with_reducible repeat (first | apply Kd.R_alloc | apply Kd.R_drewN | apply Kd.R_drew)); exact HO137.out))) (Kd.R_lt (by (with_reducible repeat (first | apply Kd.R_alloc | apply Kd.R_drewN | apply Kd.R_drew)); exact HO141.out))) (Kd.R_lt (by (with_reducible repeat (first | apply Kd.R_alloc | apply Kd.R_drewN | apply Kd.R_drew)); exact HO149.out))) (below_size (by repeat (first | (with_reducible first | exact HB.out | apply below_alloc | apply pw_below_drewN | apply below_drew1) | exact HB.out)))); have n4_ := Aside0.mk (Kd.C_below (by repeat (first | (with_reducible exact HR145.out) | (with_reducible refine Kd.C_alloc ?_ _) | (with_reducible refine Kd.C_drewN ?_ _) | (with_reducible refine Kd.C_drew ?_) | exact HR145.out)) hb); have n5_ := Aside0.mk (below_step (by repeat (first | (with_reducible first | exact HB.out | apply below_alloc | apply pw_below_drewN | apply below_drew1) | exact HB.out)) hb); clear HO137; clear HO141; clear HO149; clear HR145; clear HB; have HO137 := n0_; have HO141 := n1_; have HO149 := n2_; have HO152 := n3_; have HR145 := n4_; have HB := n5_; clear n0_ n1_ n2_ n3_ n4_ n5_; clear hb ho39; obtain ⟨Ao40, co40, eo40⟩ := Kd.R_slice HO152.out; subst eo40; obtain ⟨w42, hcv41, hr41, hg, hbm, hcc41⟩ := run_mark (P := Try.prog) Try.underlying41 Try.underlying5 HO152.out (by first | (rw [Ny150.out]; decide) | decide); have n0_ := Aside0.mk (Kd.R_mono (Kd.R_after (ok := (fun k_ => some k_ ≠ (v140 : Value).ownBlock ∧ some k_ ≠ (v148 : Value).ownBlock)) (by (with_reducible repeat (first | apply Kd.R_alloc | apply Kd.R_drewN | apply Kd.R_drew)); exact HO137.out) hg (.inl rfl)) (fun _ h_ => h_.1)); have n1_ := Aside0.mk (Kd.R_mono (Kd.R_after (ok := (fun k_ => some k_ ≠ (.slice Ao30 t135.length co30 : Value).ownBlock ∧ some k_ ≠ (v148 : Value).ownBlock)) (by (with_reducible repeat (first | apply Kd.R_alloc | apply Kd.R_drewN | apply Kd.R_drew)); exact HO141.out) hg (.inl rfl)) (fun _ h_ => h_.1)); have n2_ := Aside0.mk (Kd.R_mono (Kd.R_after (ok := (fun k_ => some k_ ≠ (.slice Ao30 t135.length co30 : Value).ownBlock ∧ some k_ ≠ (v140 : Value).ownBlock)) (by (with_reducible repeat (first | apply Kd.R_alloc | apply Kd.R_drewN | apply Kd.R_drew)); exact Kd.R_mono HO149.out (fun _ hk => ⟨⟨hk.1.1.2, hk.1.2⟩, hk.2⟩)) hg (.inl rfl)) (fun _ h_ => h_.1)); have n3_ := Aside0.mk (hbm _ (by repeat (first | (with_reducible first | exact HB.out | apply below_alloc | apply pw_below_drewN | apply below_drew1) | exact HB.out))); clear HO137; clear HO141; clear HO149; clear HB; clear HO152; have HO137 := n0_; have HO141 := n1_; have HO149 := n2_; have HB := n3_; clear n0_ n1_ n2_ n3_; have HR153 := Aside0.mk hr41; have HC153 := Aside0.mk hcc41; clear hr41 hcc41 hg hbm) | ((with_reducible refine gate_callee (f := 29) rfl ?_); refine goesL_ (some 26) rfl rfl Try.func29 (by kernel_rfl) rfl #[.slice Ao40 y150.length co40] rfl (by (try simp only [List.map_toArray, List.map_cons, List.map_nil]); first | done | rfl | (simp only [List.length_drop, List.length_take]; rfl)) ?_; (with_reducible refine (seal_Open.calls k _ _ y150 t154 t155 _ ?side1 ?side2 A4.out).mono ?_); (case side1 => repeat (first | exact (by repeat (first | (with_reducible exact HR153.out) | (with_reducible refine Kd.C_alloc ?_ _) | (with_reducible refine Kd.C_drewN ?_ _) | (with_reducible refine Kd.C_drew ?_) | exact HR153.out)) | (with_reducible refine Kd.C_alloc ?_ _) | (with_reducible refine Kd.C_drewN ?_ _) | (with_reducible refine Kd.C_drew ?_))); (case side2 => exact HC153.out); rintro e w43 ⟨v156, rfl, ho0, hb⟩; refine ⟨_, rfl, ?_⟩; have n0_ := Aside0.mk (Kd.R_elder' (by (with_reducible repeat (first | apply Kd.R_alloc | apply Kd.R_drewN | apply Kd.R_drew)); exact HO137.out) (Kd.R_base ho0) hb); have n1_ := Aside0.mk (Kd.R_elder' (by (with_reducible repeat (first | apply Kd.R_alloc | apply Kd.R_drewN | apply Kd.R_drew)); exact HO141.out) (Kd.R_base ho0) hb); have n2_ := Aside0.mk (Kd.R_elder' (by (with_reducible repeat (first | apply Kd.R_alloc | apply Kd.R_drewN | apply Kd.R_drew)); exact HO149.out) (Kd.R_base ho0) hb); have n3_ := Aside0.mk (Kd.R_lower (Kd.R_new' (Kd.R_new' (Kd.R_new' ho0 (Kd.R_lt (by (with_reducible repeat (first | apply Kd.R_alloc | apply Kd.R_drewN | apply Kd.R_drew)); exact HO137.out))) (Kd.R_lt (by (with_reducible repeat (first | apply Kd.R_alloc | apply Kd.R_drewN | apply Kd.R_drew)); exact HO141.out))) (Kd.R_lt (by (with_reducible repeat (first | apply Kd.R_alloc | apply Kd.R_drewN | apply Kd.R_drew)); exact HO149.out))) (below_size (by repeat (first | (with_reducible first | exact HB.out | apply below_alloc | apply pw_below_drewN | apply below_drew1) | exact HB.out)))); have n4_ := Aside0.mk (Kd.C_below (by repeat (first | (with_reducible exact HR153.out) | (with_reducible refine Kd.C_alloc ?_ _) | (with_reducible refine Kd.C_drewN ?_ _) | (with_reducible refine Kd.C_drew ?_) | exact HR153.out)) hb); have n5_ := Aside0.mk (below_step (by repeat (first | (with_reducible first | exact HB.out | apply below_alloc | apply pw_below_drewN | apply below_drew1) | exact HB.out)) hb); clear HO137; clear HO141; clear HO149; clear HR153; clear HB; have HO137 := n0_; have HO141 := n1_; have HO149 := n2_; have HO157 := n3_; have HR153 := n4_; have HB := n5_; clear n0_ n1_ n2_ n3_ n4_ n5_; (try clear hb); (try clear hb2); (try clear hk); (try clear hi); (try clear ho0)) | ((with_reducible refine gate_dst (N := 29) rfl ?_); (try (refine gate_guard (by rfl) ?_; dsimp only)); refine Kd.R_lit (Kd.int .u8) _ 5 ?hg (N := 29) ?hd (xs := ([255, 255, 255, 254] : List Int)) (inner := [.int .u8 255, .int .u8 255, .int .u8 255, .int .u8 254]) (ok := fun _ => True) (okp := fun _ => True) ?hr ?hp (fun _ hk => hk) trivial (Below.refl _ _) (Nat.le_refl _) (by simp) ?_; (case hd => rfl); (case hg => rfl); (case hr => first | (go_simp; done) | (go_simp; rfl)); (case hp => exact (Reps.one (show Kd.M (Kd.int .u8) _ _ _ 255 [.int .u8 255] from rfl) (Reps.one (show Kd.M (Kd.int .u8) _ _ _ 255 [.int .u8 255] from rfl) (Reps.one (show Kd.M (Kd.int .u8) _ _ _ 255 [.int .u8 255] from rfl) (Reps.one (show Kd.M (Kd.int .u8) _ _ _ 254 [.int .u8 254] from rfl) (Reps.none _ _)))))); intro v159 w44 ho45 hb hg_ hnew_; clear hg_ hnew_; (first | rw [← Ny158.out] at ho45 | (simp only [Int.reduceToNat] at ho45; rw [← Ny158.out] at ho45)); have n0_ := Aside0.mk (Kd.R_elder' (by (with_reducible repeat (first | apply Kd.R_alloc | apply Kd.R_drewN | apply Kd.R_drew)); exact HO137.out) (Kd.R_base ho45) hb); have n1_ := Aside0.mk (Kd.R_elder' (by (with_reducible repeat (first | apply Kd.R_alloc | apply Kd.R_drewN | apply Kd.R_drew)); exact HO141.out) (Kd.R_base ho45) hb); have n2_ := Aside0.mk (Kd.R_elder' (by (with_reducible repeat (first | apply Kd.R_alloc | apply Kd.R_drewN | apply Kd.R_drew)); exact HO149.out) (Kd.R_base ho45) hb); have n3_ := Aside0.mk (Kd.R_elder' (by (with_reducible repeat (first | apply Kd.R_alloc | apply Kd.R_drewN | apply Kd.R_drew)); exact HO157.out) (Kd.R_base ho45) hb); have n4_ := Aside0.mk (Kd.R_lower (Kd.R_new' (Kd.R_new' (Kd.R_new' (Kd.R_new' ho45 (Kd.R_lt (by (with_reducible repeat (first | apply Kd.R_alloc | apply Kd.R_drewN | apply Kd.R_drew)); exact HO137.out))) (Kd.R_lt (by (with_reducible repeat (first | apply Kd.R_alloc | apply Kd.R_drewN | apply Kd.R_drew)); exact HO141.out))) (Kd.R_lt (by (with_reducible repeat (first | apply Kd.R_alloc | apply Kd.R_drewN | apply Kd.R_drew)); exact HO149.out))) (Kd.R_lt (by (with_reducible repeat (first | apply Kd.R_alloc | apply Kd.R_drewN | apply Kd.R_drew)); exact HO157.out))) (below_size (by repeat (first | (with_reducible first | exact HB.out | apply below_alloc | apply pw_below_drewN | apply below_drew1) | exact HB.out)))); have n5_ := Aside0.mk (Kd.C_below (by repeat (first | (with_reducible exact HR153.out) | (with_reducible refine Kd.C_alloc ?_ _) | (with_reducible refine Kd.C_drewN ?_ _) | (with_reducible refine Kd.C_drew ?_) | exact HR153.out)) hb); have n6_ := Aside0.mk (below_step (by repeat (first | (with_reducible first | exact HB.out | apply below_alloc | apply pw_below_drewN | apply below_drew1) | exact HB.out)) hb); clear HO137; clear HO141; clear HO149; clear HO157; clear HR153; clear HB; have HO137 := n0_; have HO141 := n1_; have HO149 := n2_; have HO157 := n3_; have HO160 := n4_; have HR153 := n5_; have HB := n6_; clear n0_ n1_ n2_ n3_ n4_ n5_ n6_; clear hb ho45; obtain ⟨Ao46, co46, eo46⟩ := Kd.R_slice HO160.out; subst eo46; obtain ⟨w48, hcv47, hr47, hg, hbm, hcc47⟩ := run_mark (P := Try.prog) Try.underlying41 Try.underlying5 HO160.out (by first | (rw [Ny158.out]; decide) | decide); have n0_ := Aside0.mk (Kd.R_mono (Kd.R_after (ok := (fun k_ => some k_ ≠ (v140 : Value).ownBlock ∧ some k_ ≠ (v148 : Value).ownBlock ∧ some k_ ≠ (v156 : Value).ownBlock)) (by (with_reducible repeat (first | apply Kd.R_alloc | apply Kd.R_drewN | apply Kd.R_drew)); exact Kd.R_mono HO137.out (fun _ hk => ⟨⟨hk.1.1.1, ⟨hk.1.1.2, hk.1.2⟩⟩, hk.2⟩)) hg (.inl rfl)) (fun _ h_ => h_.1)); have n1_ := Aside0.mk (Kd.R_mono (Kd.R_after (ok := (fun k_ => some k_ ≠ (.slice Ao30 t135.length co30 : Value).ownBlock ∧ some k_ ≠ (v148 : Value).ownBlock ∧ some k_ ≠ (v156 : Value).ownBlock)) (by (with_reducible repeat (first | apply Kd.R_alloc | apply Kd.R_drewN | apply Kd.R_drew)); exact Kd.R_mono HO141.out (fun _ hk => ⟨⟨hk.1.1.1, ⟨hk.1.1.2, hk.1.2⟩⟩, hk.2⟩)) hg (.inl rfl)) (fun _ h_ => h_.1)); have n2_ := Aside0.mk (Kd.R_mono (Kd.R_after (ok := (fun k_ => some k_ ≠ (.slice Ao30 t135.length co30 : Value).ownBlock ∧ some k_ ≠ (v140 : Value).ownBlock ∧ some k_ ≠ (v156 : Value).ownBlock)) (by (with_reducible repeat (first | apply Kd.R_alloc | apply Kd.R_drewN | apply Kd.R_drew)); exact Kd.R_mono HO149.out (fun _ hk => ⟨⟨hk.1.1.1, ⟨hk.1.1.2, hk.1.2⟩⟩, hk.2⟩)) hg (.inl rfl)) (fun _ h_ => h_.1)); have n3_ := Aside0.mk (Kd.R_mono (Kd.R_after (ok := (fun k_ => some k_ ≠ (.slice Ao30 t135.length co30 : Value).ownBlock ∧ some k_ ≠ (v140 : Value).ownBlock ∧ some k_ ≠ (v148 : Value).ownBlock)) (by (with_reducible repeat (first | apply Kd.R_alloc | apply Kd.R_drewN | apply Kd.R_drew)); exact Kd.R_mono HO157.out (fun _ hk => ⟨⟨hk.1.1.1.2, ⟨hk.1.1.2, hk.1.2⟩⟩, hk.2⟩)) hg (.inl rfl)) (fun _ h_ => h_.1)); have n4_ := Aside0.mk (hbm _ (by repeat (first | (with_reducible first | exact HB.out | apply below_alloc | apply pw_below_drewN | apply below_drew1) | exact HB.out))); clear HO137; clear HO141; clear HO149; clear HO157; clear HB; clear HO160; have HO137 := n0_; have HO141 := n1_; have HO149 := n2_; have HO157 := n3_; have HB := n4_; clear n0_ n1_ n2_ n3_ n4_; have HR161 := Aside0.mk hr47; have HC161 := Aside0.mk hcc47; clear hr47 hcc47 hg hbm) | ((with_reducible refine gate_callee (f := 34) rfl ?_); refine goesL_ (some 31) rfl rfl Try.func34 (by kernel_rfl) rfl #[.slice Ao46 y158.length co46, .int .u64 66051, .int .i64 2] rfl (by (try simp only [List.map_toArray, List.map_cons, List.map_nil]); first | done | rfl | (simp only [List.length_drop, List.length_take]; rfl)) ?_; (with_reducible refine (seal_Put.calls k _ _ y158 66051 2 t162 _ ?side1 ?side2 A5.out).mono ?_); (case side1 => repeat (first | exact (by repeat (first | (with_reducible exact HR161.out) | (with_reducible refine Kd.C_alloc ?_ _) | (with_reducible refine Kd.C_drewN ?_ _) | (with_reducible refine Kd.C_drew ?_) | exact HR161.out)) | (with_reducible refine Kd.C_alloc ?_ _) | (with_reducible refine Kd.C_drewN ?_ _) | (with_reducible refine Kd.C_drew ?_))); (case side2 => exact HC161.out); rintro e w49 ⟨v163, rfl, ho0, hb⟩; refine ⟨_, rfl, ?_⟩; have n0_ := Aside0.mk (Kd.R_elder' (by (with_reducible repeat (first | apply Kd.R_alloc | apply Kd.R_drewN | apply Kd.R_drew)); exact HO137.out) (Kd.R_base ho0) hb); have n1_ := Aside0.mk (Kd.R_elder' (by (with_reducible repeat (first | apply Kd.R_alloc | apply Kd.R_drewN | apply Kd.R_drew)); exact HO141.out) (Kd.R_base ho0) hb); have n2_ := Aside0.mk (Kd.R_elder' (by (with_reducible repeat (first | apply Kd.R_alloc | apply Kd.R_drewN | apply Kd.R_drew)); exact HO149.out) (Kd.R_base ho0) hb); have n3_ := Aside0.mk (Kd.R_elder' (by (with_reducible repeat (first | apply Kd.R_alloc | apply Kd.R_drewN | apply Kd.R_drew)); exact HO157.out) (Kd.R_base ho0) hb); have n4_ := Aside0.mk (Kd.R_lower (Kd.R_new' (Kd.R_new' (Kd.R_new' (Kd.R_new' ho0 (Kd.R_lt (by (with_reducible repeat (first | apply Kd.R_alloc | apply Kd.R_drewN | apply Kd.R_drew)); exact HO137.out))) (Kd.R_lt (by (with_reducible repeat (first | apply Kd.R_alloc | apply Kd.R_drewN | apply Kd.R_drew)); exact HO141.out))) (Kd.R_lt (by (with_reducible repeat (first | apply Kd.R_alloc | apply Kd.R_drewN | apply Kd.R_drew)); exact HO149.out))) (Kd.R_lt (by (with_reducible repeat (first | apply Kd.R_alloc | apply Kd.R_drewN | apply Kd.R_drew)); exact HO157.out))) (below_size (by repeat (first | (with_reducible first | exact HB.out | apply below_alloc | apply pw_below_drewN | apply below_drew1) | exact HB.out)))); have n5_ := Aside0.mk (Kd.C_below (by repeat (first | (with_reducible exact HR161.out) | (with_reducible refine Kd.C_alloc ?_ _) | (with_reducible refine Kd.C_drewN ?_ _) | (with_reducible refine Kd.C_drew ?_) | exact HR161.out)) hb); have n6_ := Aside0.mk (below_step (by repeat (first | (with_reducible first | exact HB.out | apply below_alloc | apply pw_below_drewN | apply below_drew1) | exact HB.out)) hb); clear HO137; clear HO141; clear HO149; clear HO157; clear HR161; clear HB; have HO137 := n0_; have HO141 := n1_; have HO149 := n2_; have HO157 := n3_; have HO164 := n4_; have HR161 := n5_; have HB := n6_; clear n0_ n1_ n2_ n3_ n4_ n5_ n6_; (try clear hb); (try clear hb2); (try clear hk); (try clear hi); (try clear ho0); obtain ⟨Ao50, co50, eo50⟩ := Kd.R_slice HO164.out; subst eo50) | ((with_reducible refine gate_callee (f := 36) rfl ?_); refine goesL_ (some 32) rfl rfl Try.func36 (by kernel_rfl) rfl #[.slice Ao50 t162.length co50] rfl (by (try simp only [List.map_toArray, List.map_cons, List.map_nil]); first | done | rfl | (simp only [List.length_drop, List.length_take]; rfl)) ?_; (with_reducible refine (seal_NewReader.calls _ _ t162 t165 t166 w _ ?side1 ?side2 ?side3 A6.out).mono ?_); (case side1 => repeat (first | (with_reducible first | exact HB.out | apply below_alloc | apply pw_below_drewN | apply below_drew1) | exact HB.out)); (case side2 => repeat (first | exact (Kd.R_reads' HO164.out).2.2 | (with_reducible refine Kd.C_alloc ?_ _) | (with_reducible refine Kd.C_drewN ?_ _) | (with_reducible refine Kd.C_drew ?_))); (case side3 => exact (Kd.R_reads' HO164.out).2.1); rintro e w51 ⟨g167, rfl, hi, hb, hb2⟩; refine ⟨_, rfl, ?_⟩; have n0_ := Aside0.mk (Kd.R_below (by (with_reducible repeat (first | apply Kd.R_alloc | apply Kd.R_drewN | apply Kd.R_drew)); exact HO137.out) hb2); have n1_ := Aside0.mk (Kd.R_below (by (with_reducible repeat (first | apply Kd.R_alloc | apply Kd.R_drewN | apply Kd.R_drew)); exact HO141.out) hb2); have n2_ := Aside0.mk (Kd.R_below (by (with_reducible repeat (first | apply Kd.R_alloc | apply Kd.R_drewN | apply Kd.R_drew)); exact HO149.out) hb2); have n3_ := Aside0.mk (Kd.R_below (by (with_reducible repeat (first | apply Kd.R_alloc | apply Kd.R_drewN | apply Kd.R_drew)); exact HO157.out) hb2); have n4_ := Aside0.mk (Kd.R_below (by (with_reducible repeat (first | apply Kd.R_alloc | apply Kd.R_drewN | apply Kd.R_drew)); exact HO164.out) hb2); have n5_ := Aside0.mk (Kd.C_below (by repeat (first | (with_reducible exact HR161.out) | (with_reducible refine Kd.C_alloc ?_ _) | (with_reducible refine Kd.C_drewN ?_ _) | (with_reducible refine Kd.C_drew ?_) | exact HR161.out)) hb2); have n6_ := Aside0.mk (hb); have n7_ := Aside0.mk (hi); clear HO137; clear HO141; clear HO149; clear HO157; clear HO164; clear HR161; clear HB; have HO137 := n0_; have HO141 := n1_; have HO149 := n2_; have HO157 := n3_; have HO164 := n4_; have HR161 := n5_; have HB := n6_; have HI167 := n7_; clear n0_ n1_ n2_ n3_ n4_ n5_ n6_ n7_; (try clear hb); (try clear hb2); (try clear hk); (try clear hi)) | ((with_reducible refine gate_callee (f := 43) rfl ?_); refine goesL_ (some 36) rfl rfl Try.func43 (by kernel_rfl) rfl #[.pointer (some ⟨g167, 0, none⟩)] rfl (by (try simp only [List.map_toArray, List.map_cons, List.map_nil]); first | done | rfl | (simp only [List.length_drop, List.length_take]; rfl)) ?_; (with_reducible refine (seal_Reader_Signed.calls k g167 t165 t166 t168 t169 t170 w _ ?side1 ?side2 A7.out).mono ?_); (case side1 => repeat (first | (with_reducible first | exact HI167.out | apply IsS75.alloc | apply IsS75.drewN | apply IsS75.drew | apply IsS75.set_1) | exact HI167.out)); (case side2 => repeat (first | (with_reducible first | exact HB.out | apply below_alloc | apply pw_below_drewN | apply below_drew1 | refine below_set ?_ (IsS75.ge HI167.out)) | exact HB.out)); rintro e w52 ⟨rfl, hi, hb, hk⟩; refine ⟨_, rfl, ?_⟩; have n0_ := Aside0.mk (Kd.R_mono (Kd.R_keep (IsS75.apart (show IsS75 w _ g167 t165 t166 from by repeat (first | (with_reducible first | exact HI167.out | apply IsS75.alloc | apply IsS75.drewN | apply IsS75.drew | apply IsS75.set_1) | exact HI167.out)) (by (with_reducible repeat (first | apply Kd.R_alloc | apply Kd.R_drewN | apply Kd.R_drew)); exact HO137.out) (by decide)) hk (fun _ h => h.2)) (fun _ h => h.1)); have n1_ := Aside0.mk (Kd.R_mono (Kd.R_keep (IsS75.apart (show IsS75 w _ g167 t165 t166 from by repeat (first | (with_reducible first | exact HI167.out | apply IsS75.alloc | apply IsS75.drewN | apply IsS75.drew | apply IsS75.set_1) | exact HI167.out)) (by (with_reducible repeat (first | apply Kd.R_alloc | apply Kd.R_drewN | apply Kd.R_drew)); exact HO141.out) (by decide)) hk (fun _ h => h.2)) (fun _ h => h.1)); have n2_ := Aside0.mk (Kd.R_mono (Kd.R_keep (IsS75.apart (show IsS75 w _ g167 t165 t166 from by repeat (first | (with_reducible first | exact HI167.out | apply IsS75.alloc | apply IsS75.drewN | apply IsS75.drew | apply IsS75.set_1) | exact HI167.out)) (by (with_reducible repeat (first | apply Kd.R_alloc | apply Kd.R_drewN | apply Kd.R_drew)); exact HO149.out) (by decide)) hk (fun _ h => h.2)) (fun _ h => h.1)); have n3_ := Aside0.mk (Kd.R_mono (Kd.R_keep (IsS75.apart (show IsS75 w _ g167 t165 t166 from by repeat (first | (with_reducible first | exact HI167.out | apply IsS75.alloc | apply IsS75.drewN | apply IsS75.drew | apply IsS75.set_1) | exact HI167.out)) (by (with_reducible repeat (first | apply Kd.R_alloc | apply Kd.R_drewN | apply Kd.R_drew)); exact HO157.out) (by decide)) hk (fun _ h => h.2)) (fun _ h => h.1)); have n4_ := Aside0.mk (Kd.R_mono (Kd.R_keep (IsS75.apart (show IsS75 w _ g167 t165 t166 from by repeat (first | (with_reducible first | exact HI167.out | apply IsS75.alloc | apply IsS75.drewN | apply IsS75.drew | apply IsS75.set_1) | exact HI167.out)) (by (with_reducible repeat (first | apply Kd.R_alloc | apply Kd.R_drewN | apply Kd.R_drew)); exact HO164.out) (by decide)) hk (fun _ h => h.2)) (fun _ h => h.1)); have n5_ := Aside0.mk (hb); have n6_ := Aside0.mk (hi); clear HO137; clear HO141; clear HO149; clear HO157; clear HO164; clear HB; clear HI167; have HO137 := n0_; have HO141 := n1_; have HO149 := n2_; have HO157 := n3_; have HO164 := n4_; have HB := n5_; have HI167 := n6_; clear n0_ n1_ n2_ n3_ n4_ n5_ n6_; (try clear hb); (try clear hb2); (try clear hk); (try clear hi)) | ((with_reducible refine gate_callee (f := 38) rfl ?_); refine goesL_ (some 38) rfl rfl Try.func38 (by kernel_rfl) rfl #[.pointer (some ⟨g167, 0, none⟩), .int .i64 2] rfl (by (try simp only [List.map_toArray, List.map_cons, List.map_nil]); first | done | rfl | (simp only [List.length_drop, List.length_take]; rfl)) ?_; (with_reducible refine (seal_Reader_Num.calls k g167 t169 t170 2 t171 t172 t173 w _ ?side1 ?side2 A8.out).mono ?_); (case side1 => repeat (first | (with_reducible first | exact HI167.out | apply IsS75.alloc | apply IsS75.drewN | apply IsS75.drew | apply IsS75.set_1) | exact HI167.out)); (case side2 => repeat (first | (with_reducible first | exact HB.out | apply below_alloc | apply pw_below_drewN | apply below_drew1 | refine below_set ?_ (IsS75.ge HI167.out)) | exact HB.out)); rintro e w53 ⟨rfl, hi, hb, hk⟩; refine ⟨_, rfl, ?_⟩; have n0_ := Aside0.mk (Kd.R_mono (Kd.R_keep (IsS75.apart (show IsS75 w _ g167 t169 t170 from by repeat (first | (with_reducible first | exact HI167.out | apply IsS75.alloc | apply IsS75.drewN | apply IsS75.drew | apply IsS75.set_1) | exact HI167.out)) (by (with_reducible repeat (first | apply Kd.R_alloc | apply Kd.R_drewN | apply Kd.R_drew)); exact HO137.out) (by decide)) hk (fun _ h => h.2)) (fun _ h => h.1)); have n1_ := Aside0.mk (Kd.R_mono (Kd.R_keep (IsS75.apart (show IsS75 w _ g167 t169 t170 from by repeat (first | (with_reducible first | exact HI167.out | apply IsS75.alloc | apply IsS75.drewN | apply IsS75.drew | apply IsS75.set_1) | exact HI167.out)) (by (with_reducible repeat (first | apply Kd.R_alloc | apply Kd.R_drewN | apply Kd.R_drew)); exact HO141.out) (by decide)) hk (fun _ h => h.2)) (fun _ h => h.1)); have n2_ := Aside0.mk (Kd.R_mono (Kd.R_keep (IsS75.apart (show IsS75 w _ g167 t169 t170 from by repeat (first | (with_reducible first | exact HI167.out | apply IsS75.alloc | apply IsS75.drewN | apply IsS75.drew | apply IsS75.set_1) | exact HI167.out)) (by (with_reducible repeat (first | apply Kd.R_alloc | apply Kd.R_drewN | apply Kd.R_drew)); exact HO149.out) (by decide)) hk (fun _ h => h.2)) (fun _ h => h.1)); have n3_ := Aside0.mk (Kd.R_mono (Kd.R_keep (IsS75.apart (show IsS75 w _ g167 t169 t170 from by repeat (first | (with_reducible first | exact HI167.out | apply IsS75.alloc | apply IsS75.drewN | apply IsS75.drew | apply IsS75.set_1) | exact HI167.out)) (by (with_reducible repeat (first | apply Kd.R_alloc | apply Kd.R_drewN | apply Kd.R_drew)); exact HO157.out) (by decide)) hk (fun _ h => h.2)) (fun _ h => h.1)); have n4_ := Aside0.mk (Kd.R_mono (Kd.R_keep (IsS75.apart (show IsS75 w _ g167 t169 t170 from by repeat (first | (with_reducible first | exact HI167.out | apply IsS75.alloc | apply IsS75.drewN | apply IsS75.drew | apply IsS75.set_1) | exact HI167.out)) (by (with_reducible repeat (first | apply Kd.R_alloc | apply Kd.R_drewN | apply Kd.R_drew)); exact HO164.out) (by decide)) hk (fun _ h => h.2)) (fun _ h => h.1)); have n5_ := Aside0.mk (hb); have n6_ := Aside0.mk (hi); clear HO137; clear HO141; clear HO149; clear HO157; clear HO164; clear HB; clear HI167; have HO137 := n0_; have HO141 := n1_; have HO149 := n2_; have HO157 := n3_; have HO164 := n4_; have HB := n5_; have HI167 := n6_; clear n0_ n1_ n2_ n3_ n4_ n5_ n6_; (try clear hb); (try clear hb2); (try clear hk); (try clear hi)) | ((with_reducible refine gate_callee (f := 30) rfl ?_); refine goesL_ (some 39) rfl rfl Try.func30 (by kernel_rfl) rfl #[.slice none 0 0] rfl (by (try simp only [List.map_toArray, List.map_cons, List.map_nil]); first | done | rfl | (simp only [List.length_drop, List.length_take]; rfl)) ?_; (refine (seal_Sum.calls k _ _ ([] : List Int) t174 _ ?side1 ?side2 A9.out).mono ?_); (case side1 => exact Kd.C_nil _ _); (case side2 => exact Nat.le_refl _); rintro e w' ⟨rfl, ⟨nd, rfl⟩⟩; refine ⟨_, rfl, ?_⟩; have hcv54 := own_string (P := Try.prog) Try.underlying41 Try.underlying5 Try.underlying9 (Kd.own_of_R HO141.out); have hcv55 := fun m_ : Nat => own_string (P := Try.prog) Try.underlying41 Try.underlying5 Try.underlying9 (Kd.own_of_R (Kd.R_drewN HO141.out m_))) | (go_at_call 40; (with_reducible refine (seal_Reader_Left.calls g167 t172 t173 t175 t176 t177 w _ ?side1 ?side2 A17.out).mono ?_); (case side1 => repeat (first | (with_reducible first | exact HI167.out | apply IsS75.alloc | apply IsS75.drewN | apply IsS75.drew | apply IsS75.set_1) | exact HI167.out)); (case side2 => repeat (first | (with_reducible first | exact HB.out | apply below_alloc | apply pw_below_drewN | apply below_drew1 | refine below_set ?_ (IsS75.ge HI167.out)) | exact HB.out)); rintro e w56 ⟨rfl, hi, hb, hk⟩; have n0_ := Aside0.mk (Kd.R_mono (Kd.R_keep (IsS75.apart (show IsS75 w _ g167 t172 t173 from by repeat (first | (with_reducible first | exact HI167.out | apply IsS75.alloc | apply IsS75.drewN | apply IsS75.drew | apply IsS75.set_1) | exact HI167.out)) (by (with_reducible repeat (first | apply Kd.R_alloc | apply Kd.R_drewN | apply Kd.R_drew)); exact HO137.out) (by decide)) hk (fun _ h => h.2)) (fun _ h => h.1)); have n1_ := Aside0.mk (Kd.R_mono (Kd.R_keep (IsS75.apart (show IsS75 w _ g167 t172 t173 from by repeat (first | (with_reducible first | exact HI167.out | apply IsS75.alloc | apply IsS75.drewN | apply IsS75.drew | apply IsS75.set_1) | exact HI167.out)) (by (with_reducible repeat (first | apply Kd.R_alloc | apply Kd.R_drewN | apply Kd.R_drew)); exact HO141.out) (by decide)) hk (fun _ h => h.2)) (fun _ h => h.1)); have n2_ := Aside0.mk (Kd.R_mono (Kd.R_keep (IsS75.apart (show IsS75 w _ g167 t172 t173 from by repeat (first | (with_reducible first | exact HI167.out | apply IsS75.alloc | apply IsS75.drewN | apply IsS75.drew | apply IsS75.set_1) | exact HI167.out)) (by (with_reducible repeat (first | apply Kd.R_alloc | apply Kd.R_drewN | apply Kd.R_drew)); exact HO149.out) (by decide)) hk (fun _ h => h.2)) (fun _ h => h.1)); have n3_ := Aside0.mk (Kd.R_mono (Kd.R_keep (IsS75.apart (show IsS75 w _ g167 t172 t173 from by repeat (first | (with_reducible first | exact HI167.out | apply IsS75.alloc | apply IsS75.drewN | apply IsS75.drew | apply IsS75.set_1) | exact HI167.out)) (by (with_reducible repeat (first | apply Kd.R_alloc | apply Kd.R_drewN | apply Kd.R_drew)); exact HO157.out) (by decide)) hk (fun _ h => h.2)) (fun _ h => h.1)); have n4_ := Aside0.mk (Kd.R_mono (Kd.R_keep (IsS75.apart (show IsS75 w _ g167 t172 t173 from by repeat (first | (with_reducible first | exact HI167.out | apply IsS75.alloc | apply IsS75.drewN | apply IsS75.drew | apply IsS75.set_1) | exact HI167.out)) (by (with_reducible repeat (first | apply Kd.R_alloc | apply Kd.R_drewN | apply Kd.R_drew)); exact HO164.out) (by decide)) hk (fun _ h => h.2)) (fun _ h => h.1)); have n5_ := Aside0.mk (hb); have n6_ := Aside0.mk (hi); clear HO137; clear HO141; clear HO149; clear HO157; clear HO164; clear HB; clear HI167; have HO137 := n0_; have HO141 := n1_; have HO149 := n2_; have HO157 := n3_; have HO164 := n4_; have HB := n5_; have HI167 := n6_; clear n0_ n1_ n2_ n3_ n4_ n5_ n6_; (try clear hb); (try clear hb2); (try clear hk); (try clear hi)) | (go_at_call 41; (with_reducible refine (seal_Reader_Short.calls g167 t176 t177 false t179 t180 w _ ?side1 ?side2 A19.out).mono ?_); (case side1 => repeat (first | (with_reducible first | exact HI167.out | apply IsS75.alloc | apply IsS75.drewN | apply IsS75.drew | apply IsS75.set_1) | exact HI167.out)); (case side2 => repeat (first | (with_reducible first | exact HB.out | apply below_alloc | apply pw_below_drewN | apply below_drew1 | refine below_set ?_ (IsS75.ge HI167.out)) | exact HB.out)); rintro e w57 ⟨rfl, hi, hb, hk⟩; have n0_ := Aside0.mk (Kd.R_mono (Kd.R_keep (IsS75.apart (show IsS75 w _ g167 t176 t177 from by repeat (first | (with_reducible first | exact HI167.out | apply IsS75.alloc | apply IsS75.drewN | apply IsS75.drew | apply IsS75.set_1) | exact HI167.out)) (by (with_reducible repeat (first | apply Kd.R_alloc | apply Kd.R_drewN | apply Kd.R_drew)); exact HO137.out) (by decide)) hk (fun _ h => h.2)) (fun _ h => h.1)); have n1_ := Aside0.mk (Kd.R_mono (Kd.R_keep (IsS75.apart (show IsS75 w _ g167 t176 t177 from by repeat (first | (with_reducible first | exact HI167.out | apply IsS75.alloc | apply IsS75.drewN | apply IsS75.drew | apply IsS75.set_1) | exact HI167.out)) (by (with_reducible repeat (first | apply Kd.R_alloc | apply Kd.R_drewN | apply Kd.R_drew)); exact HO141.out) (by decide)) hk (fun _ h => h.2)) (fun _ h => h.1)); have n2_ := Aside0.mk (Kd.R_mono (Kd.R_keep (IsS75.apart (show IsS75 w _ g167 t176 t177 from by repeat (first | (with_reducible first | exact HI167.out | apply IsS75.alloc | apply IsS75.drewN | apply IsS75.drew | apply IsS75.set_1) | exact HI167.out)) (by (with_reducible repeat (first | apply Kd.R_alloc | apply Kd.R_drewN | apply Kd.R_drew)); exact HO149.out) (by decide)) hk (fun _ h => h.2)) (fun _ h => h.1)); have n3_ := Aside0.mk (Kd.R_mono (Kd.R_keep (IsS75.apart (show IsS75 w _ g167 t176 t177 from by repeat (first | (with_reducible first | exact HI167.out | apply IsS75.alloc | apply IsS75.drewN | apply IsS75.drew | apply IsS75.set_1) | exact HI167.out)) (by (with_reducible repeat (first | apply Kd.R_alloc | apply Kd.R_drewN | apply Kd.R_drew)); exact HO157.out) (by decide)) hk (fun _ h => h.2)) (fun _ h => h.1)); have n4_ := Aside0.mk (Kd.R_mono (Kd.R_keep (IsS75.apart (show IsS75 w _ g167 t176 t177 from by repeat (first | (with_reducible first | exact HI167.out | apply IsS75.alloc | apply IsS75.drewN | apply IsS75.drew | apply IsS75.set_1) | exact HI167.out)) (by (with_reducible repeat (first | apply Kd.R_alloc | apply Kd.R_drewN | apply Kd.R_drew)); exact HO164.out) (by decide)) hk (fun _ h => h.2)) (fun _ h => h.1)); have n5_ := Aside0.mk (hb); have n6_ := Aside0.mk (hi); clear HO137; clear HO141; clear HO149; clear HO157; clear HO164; clear HB; clear HI167; have HO137 := n0_; have HO141 := n1_; have HO149 := n2_; have HO157 := n3_; have HO164 := n4_; have HB := n5_; have HI167 := n6_; clear n0_ n1_ n2_ n3_ n4_ n5_ n6_; (try clear hb); (try clear hb2); (try clear hk); (try clear hi)) | (go_at_call 37; (with_reducible refine (seal_Reader_Take.calls g167 t179 t180 1 t181 t184 t185 w _ ?side1 ?side2 A21.out).mono ?_); (case side1 => repeat (first | (with_reducible first | exact HI167.out | apply IsS75.alloc | apply IsS75.drewN | apply IsS75.drew | apply IsS75.set_1) | exact HI167.out)); (case side2 => repeat (first | (with_reducible first | exact HB.out | apply below_alloc | apply pw_below_drewN | apply below_drew1 | refine below_set ?_ (IsS75.ge HI167.out)) | exact HB.out)); rintro e w58 ⟨v182, rfl, ho0, hi, hb, hk⟩; have n0_ := Aside0.mk (Kd.R_mono (Kd.R_told (Kd.R_oldK (IsS75.apart (show IsS75 w _ g167 t179 t180 from by repeat (first | (with_reducible first | exact HI167.out | apply IsS75.alloc | apply IsS75.drewN | apply IsS75.drew | apply IsS75.set_1) | exact HI167.out)) (by (with_reducible repeat (first | apply Kd.R_alloc | apply Kd.R_drewN | apply Kd.R_drew)); exact HO137.out) (by decide)) hk) (Kd.R_base ho0)) (fun _ h_ => h_.1)); have n1_ := Aside0.mk (Kd.R_mono (Kd.R_told (Kd.R_oldK (IsS75.apart (show IsS75 w _ g167 t179 t180 from by repeat (first | (with_reducible first | exact HI167.out | apply IsS75.alloc | apply IsS75.drewN | apply IsS75.drew | apply IsS75.set_1) | exact HI167.out)) (by (with_reducible repeat (first | apply Kd.R_alloc | apply Kd.R_drewN | apply Kd.R_drew)); exact HO141.out) (by decide)) hk) (Kd.R_base ho0)) (fun _ h_ => h_.1)); have n2_ := Aside0.mk (Kd.R_mono (Kd.R_told (Kd.R_oldK (IsS75.apart (show IsS75 w _ g167 t179 t180 from by repeat (first | (with_reducible first | exact HI167.out | apply IsS75.alloc | apply IsS75.drewN | apply IsS75.drew | apply IsS75.set_1) | exact HI167.out)) (by (with_reducible repeat (first | apply Kd.R_alloc | apply Kd.R_drewN | apply Kd.R_drew)); exact HO149.out) (by decide)) hk) (Kd.R_base ho0)) (fun _ h_ => h_.1)); have n3_ := Aside0.mk (Kd.R_mono (Kd.R_told (Kd.R_oldK (IsS75.apart (show IsS75 w _ g167 t179 t180 from by repeat (first | (with_reducible first | exact HI167.out | apply IsS75.alloc | apply IsS75.drewN | apply IsS75.drew | apply IsS75.set_1) | exact HI167.out)) (by (with_reducible repeat (first | apply Kd.R_alloc | apply Kd.R_drewN | apply Kd.R_drew)); exact HO157.out) (by decide)) hk) (Kd.R_base ho0)) (fun _ h_ => h_.1)); have n4_ := Aside0.mk (Kd.R_mono (Kd.R_told (Kd.R_oldK (IsS75.apart (show IsS75 w _ g167 t179 t180 from by repeat (first | (with_reducible first | exact HI167.out | apply IsS75.alloc | apply IsS75.drewN | apply IsS75.drew | apply IsS75.set_1) | exact HI167.out)) (by (with_reducible repeat (first | apply Kd.R_alloc | apply Kd.R_drewN | apply Kd.R_drew)); exact HO164.out) (by decide)) hk) (Kd.R_base ho0)) (fun _ h_ => h_.1)); have n5_ := Aside0.mk (Kd.R_lower (Kd.R_new' (Kd.R_new' (Kd.R_new' (Kd.R_new' (Kd.R_new' ho0 (Kd.R_lt (by (with_reducible repeat (first | apply Kd.R_alloc | apply Kd.R_drewN | apply Kd.R_drew)); exact HO137.out))) (Kd.R_lt (by (with_reducible repeat (first | apply Kd.R_alloc | apply Kd.R_drewN | apply Kd.R_drew)); exact HO141.out))) (Kd.R_lt (by (with_reducible repeat (first | apply Kd.R_alloc | apply Kd.R_drewN | apply Kd.R_drew)); exact HO149.out))) (Kd.R_lt (by (with_reducible repeat (first | apply Kd.R_alloc | apply Kd.R_drewN | apply Kd.R_drew)); exact HO157.out))) (Kd.R_lt (by (with_reducible repeat (first | apply Kd.R_alloc | apply Kd.R_drewN | apply Kd.R_drew)); exact HO164.out))) (below_size (by repeat (first | (with_reducible first | exact HB.out | apply below_alloc | apply pw_below_drewN | apply below_drew1 | refine below_set ?_ (IsS75.ge HI167.out)) | exact HB.out)))); have n6_ := Aside0.mk (hb); have n7_ := Aside0.mk (hi); clear HO137; clear HO141; clear HO149; clear HO157; clear HO164; clear HB; clear HI167; have HO137 := n0_; have HO141 := n1_; have HO149 := n2_; have HO157 := n3_; have HO164 := n4_; have HO183 := n5_; have HB := n6_; have HI167 := n7_; clear n0_ n1_ n2_ n3_ n4_ n5_ n6_ n7_; (try clear hb); (try clear hb2); (try clear hk); (try clear hi); (try clear ho0); obtain ⟨Ao59, co59, eo59⟩ := Kd.R_slice HO183.out; subst eo59) | (go_at_call 41; (with_reducible refine (seal_Reader_Short.calls g167 t184 t185 t186 t187 t188 w _ ?side1 ?side2 A23.out).mono ?_); (case side1 => repeat (first | (with_reducible first | exact HI167.out | apply IsS75.alloc | apply IsS75.drewN | apply IsS75.drew | apply IsS75.set_1) | exact HI167.out)); (case side2 => repeat (first | (with_reducible first | exact HB.out | apply below_alloc | apply pw_below_drewN | apply below_drew1 | refine below_set ?_ (IsS75.ge HI167.out)) | exact HB.out)); rintro e w60 ⟨rfl, hi, hb, hk⟩; have n0_ := Aside0.mk (Kd.R_mono (Kd.R_keep (IsS75.apart (show IsS75 w _ g167 t184 t185 from by repeat (first | (with_reducible first | exact HI167.out | apply IsS75.alloc | apply IsS75.drewN | apply IsS75.drew | apply IsS75.set_1) | exact HI167.out)) (by (with_reducible repeat (first | apply Kd.R_alloc | apply Kd.R_drewN | apply Kd.R_drew)); exact HO137.out) (by decide)) hk (fun _ h => h.2)) (fun _ h => h.1)); have n1_ := Aside0.mk (Kd.R_mono (Kd.R_keep (IsS75.apart (show IsS75 w _ g167 t184 t185 from by repeat (first | (with_reducible first | exact HI167.out | apply IsS75.alloc | apply IsS75.drewN | apply IsS75.drew | apply IsS75.set_1) | exact HI167.out)) (by (with_reducible repeat (first | apply Kd.R_alloc | apply Kd.R_drewN | apply Kd.R_drew)); exact HO141.out) (by decide)) hk (fun _ h => h.2)) (fun _ h => h.1)); have n2_ := Aside0.mk (Kd.R_mono (Kd.R_keep (IsS75.apart (show IsS75 w _ g167 t184 t185 from by repeat (first | (with_reducible first | exact HI167.out | apply IsS75.alloc | apply IsS75.drewN | apply IsS75.drew | apply IsS75.set_1) | exact HI167.out)) (by (with_reducible repeat (first | apply Kd.R_alloc | apply Kd.R_drewN | apply Kd.R_drew)); exact HO149.out) (by decide)) hk (fun _ h => h.2)) (fun _ h => h.1)); have n3_ := Aside0.mk (Kd.R_mono (Kd.R_keep (IsS75.apart (show IsS75 w _ g167 t184 t185 from by repeat (first | (with_reducible first | exact HI167.out | apply IsS75.alloc | apply IsS75.drewN | apply IsS75.drew | apply IsS75.set_1) | exact HI167.out)) (by (with_reducible repeat (first | apply Kd.R_alloc | apply Kd.R_drewN | apply Kd.R_drew)); exact HO157.out) (by decide)) hk (fun _ h => h.2)) (fun _ h => h.1)); have n4_ := Aside0.mk (Kd.R_mono (Kd.R_keep (IsS75.apart (show IsS75 w _ g167 t184 t185 from by repeat (first | (with_reducible first | exact HI167.out | apply IsS75.alloc | apply IsS75.drewN | apply IsS75.drew | apply IsS75.set_1) | exact HI167.out)) (by (with_reducible repeat (first | apply Kd.R_alloc | apply Kd.R_drewN | apply Kd.R_drew)); exact HO164.out) (by decide)) hk (fun _ h => h.2)) (fun _ h => h.1)); have n5_ := Aside0.mk (Kd.R_mono (Kd.R_keep (IsS75.apart (show IsS75 w _ g167 t184 t185 from by repeat (first | (with_reducible first | exact HI167.out | apply IsS75.alloc | apply IsS75.drewN | apply IsS75.drew | apply IsS75.set_1) | exact HI167.out)) (by (with_reducible repeat (first | apply Kd.R_alloc | apply Kd.R_drewN | apply Kd.R_drew)); exact HO183.out) (by decide)) hk (fun _ h => h.2)) (fun _ h => h.1)); have n6_ := Aside0.mk (hb); have n7_ := Aside0.mk (hi); clear HO137; clear HO141; clear HO149; clear HO157; clear HO164; clear HO183; clear HB; clear HI167; have HO137 := n0_; have HO141 := n1_; have HO149 := n2_; have HO157 := n3_; have HO164 := n4_; have HO183 := n5_; have HB := n6_; have HI167 := n7_; clear n0_ n1_ n2_ n3_ n4_ n5_ n6_ n7_; (try clear hb); (try clear hb2); (try clear hk); (try clear hi)))
                      go_ret
                      exact ⟨by first | rfl | (simp [errW_none, errW_some] <;> rfl) | (simp [*, errW_none, errW_some] <;> rfl), by repeat (first | (with_reducible first | exact HB.out | apply below_alloc | apply pw_below_drewN | apply below_drew1 | refine below_set ?_ (IsS75.ge HI167.out)) | exact HB.out)⟩
                    · rw [if_neg c22] at H
                      exact absurd H (by simp)
                · rw [if_neg c18] at H
                  exact absurd H (by simp)
              · rw [if_neg c16] at H
                exact absurd H (by simp)
            · rw [if_neg c15] at H
              exact absurd H (by simp)
          · rw [if_neg c14] at H
            exact absurd H (by simp)
        · rw [if_neg c13] at H
          exact absurd H (by simp)
      · rw [if_neg c12] at H
        exact absurd H (by simp)
    · rw [if_neg c11] at H
      exact absurd H (by simp)
  · rw [if_neg c10] at H
    exact absurd H (by simp)

/-! ### credenzaref06_Sum: function 31 -/
def credenzaref06_Sum.l0 : Nat → ByteArray → Int → Int → Option (Int)
  | 0, _, _, _ => none
  | k + 1, x0, x3, x4 => if x4 < (x0.size : Int) then (if 0 ≤ x4 then (credenzaref06_Sum.l0 k x0 (Int.tmod (IntKind.u64.wrap ((Go.bits .xor .u64 x3 (IntKind.u64.wrap (bt x0 x4))) * 16777619)) 4294967296) (wrap64 (x4 + 1))) else (none)) else (some ((x3) % 4294967296))
def credenzaref06_Sum.f (k : Nat) (a0 : ByteArray) : Option (Int) := credenzaref06_Sum.l0 k a0 2166136261 0
theorem credenzaref06_Sum.mono_l : ∀ k, (∀ y0 y1 y2, LeO (credenzaref06_Sum.l0 k y0 y1 y2) (credenzaref06_Sum.l0 (k + 1) y0 y1 y2))
  | 0 => fun _ _ _ r h => by simp [credenzaref06_Sum.l0] at h
  | k + 1 => by
    have ih0 := credenzaref06_Sum.mono_l k
    · intro y0 y1 y2
      unfold credenzaref06_Sum.l0
      repeat' first
      | (with_reducible exact ih0 _ _ _)
      | (with_reducible exact LeO.refl _)
      | (with_reducible exact LeO.none _)
      | (with_reducible refine LeO.ite ?_ ?_)
      | (with_reducible refine LeO.bind ?_ (fun _ => ?_))
      | exact ih0 _ _ _
      | exact LeO.none _
      | refine LeO.ite ?_ ?_
      | refine LeO.bind ?_ (fun _ => ?_)
theorem credenzaref06_Sum.mono : ∀ a0 k, LeO (credenzaref06_Sum.f k a0) (credenzaref06_Sum.f (k + 1) a0) := by
  intro a0 k
  have ih0 := credenzaref06_Sum.mono_l k
  unfold credenzaref06_Sum.f
  repeat' first
      | (with_reducible exact ih0 _ _ _)
      | (with_reducible exact LeO.refl _)
      | (with_reducible exact LeO.none _)
      | (with_reducible refine LeO.ite ?_ ?_)
      | (with_reducible refine LeO.bind ?_ (fun _ => ?_))
      | exact ih0 _ _ _
      | exact LeO.none _
      | refine LeO.ite ?_ ?_
      | refine LeO.bind ?_ (fun _ => ?_)
set_option maxHeartbeats 8000000 in
set_option maxRecDepth 100000 in
theorem credenzaref06_Sum.calls (k : Nat) (a0 : ByteArray) (r : Int) (w : World) (h : credenzaref06_Sum.f k a0 = some r) :
    Calls Try.prog 31 #[.string a0] w fun e w' => e = .returned (.int .u32 r) ∧ Drawn0 w w' := by
  have H : (credenzaref06_Sum.l0 k a0 2166136261 0) = some r := h
  clear h
  have H' := Aside0.mk H
  clear H
  go_enter Try.func31, Try.ntmps31
  go_wp2
  go_loopg [3, 4] k (fun kq v3 v4 w' => ∃ (x3_1 : Int) (x4_1 : Int), v3 = .int .u64 x3_1 ∧ v4 = .int .i64 x4_1 ∧ Aside0 (credenzaref06_Sum.l0 kq a0 x3_1 x4_1 = some r) ∧ Aside0 (kq ≤ k) ∧ Drawn0 w w')
  case atStart => exact ⟨(2166136261), (0), (by first | rfl | (simp; done) | (simp [*]; done)), (by first | rfl | (simp; done) | (simp [*]; done)), H', ⟨Nat.le_refl _⟩, by repeat (first | exact Drawn0.refl _ | apply Drawn0.step)⟩
  case round =>
    clear H'
    obtain ⟨x3_1, x4_1, rfl, rfl, HA, HK1, ⟨m1, rfl⟩⟩ := hrel
    cases gk with
    | zero => exact absurd HA.out (by simp [credenzaref06_Sum.l0])
    | succ k1 =>
      have H := HA.out
      clear HA
      simp only [credenzaref06_Sum.l0] at H
      by_cases c2 : x4_1 < (a0.size : Int)
      · rw [if_pos c2] at H
        have c2b0 : decide (x4_1 < (a0.size : Int)) = true := decide_eq_true c2
        clear c2
        by_cases c3 : 0 ≤ x4_1
        · rw [if_pos c3] at H
          have c3b0 : decide (0 ≤ x4_1) = true := decide_eq_true c3
          clear c3
          have H' := Aside0.mk H
          clear H
          have p4 : 0 ≤ (x4_1 : Int) := of_decide_eq_true (by first | (with_reducible assumption) | assumption)
          have q4 : x4_1 < (a0.size : Int) := of_decide_eq_true (by first | (with_reducible assumption) | assumption)
          have hx4 := bt_at a0 x4_1
          replace p4 := eq_true p4
          replace q4 := eq_true q4
          go_wp2
          go_roundg k1
          case measure => have := HK1.out; omega
          case rel => exact ⟨(Int.tmod (IntKind.u64.wrap ((Go.bits .xor .u64 x3_1 (IntKind.u64.wrap (bt a0 x4_1))) * 16777619)) 4294967296), (wrap64 (x4_1 + 1)), (by first | rfl | (simp; done) | (simp [*]; done)), (by first | rfl | (simp; done) | (simp [*]; done)), H', ⟨by have := HK1.out; omega⟩, by repeat (first | exact Drawn0.refl _ | apply Drawn0.step)⟩
        · rw [if_neg c3] at H
          exact absurd H (by simp)
      · rw [if_neg c2] at H
        have c2b0 : decide (x4_1 < (a0.size : Int)) = false := decide_eq_false c2
        clear c2
        obtain rfl := Option.some.inj H
        go_wp2
        go_ret
        exact ⟨by first | rfl | (simp; done) | (simp [*]; done), by repeat (first | exact Drawn0.refl _ | apply Drawn0.step)⟩

/-! ### credenzaref06_Bytes: function 35 -/
def credenzaref06_Bytes.l0 : Nat → Int → Int → ByteArray → Int → Option (ByteArray)
  | 0, _, _, _, _ => none
  | k + 1, x0, x1, x5, x6 => if x6 < x1 then ((some (([(Int.tmod x0 256) % 256] : List Int) : List Int)).bind fun y189 => (if (strOfNums y189).size + x5.size ≤ 9223372036854775807 then (credenzaref06_Bytes.l0 k (IntKind.u64.wrap (Int.tdiv x0 256)) x1 ((strOfNums y189) ++ x5) (wrap64 (x6 + 1))) else (none))) else (some x5)
def credenzaref06_Bytes.f (k : Nat) (a0 : Int) (a1 : Int) : Option (ByteArray) := credenzaref06_Bytes.l0 k a0 a1 (⟨#[]⟩ : ByteArray) 0
theorem credenzaref06_Bytes.mono_l : ∀ k, (∀ y0 y1 y2 y3, LeO (credenzaref06_Bytes.l0 k y0 y1 y2 y3) (credenzaref06_Bytes.l0 (k + 1) y0 y1 y2 y3))
  | 0 => fun _ _ _ _ r h => by simp [credenzaref06_Bytes.l0] at h
  | k + 1 => by
    have ih0 := credenzaref06_Bytes.mono_l k
    · intro y0 y1 y2 y3
      unfold credenzaref06_Bytes.l0
      repeat' first
      | (with_reducible exact ih0 _ _ _ _)
      | (with_reducible exact LeO.refl _)
      | (with_reducible exact LeO.none _)
      | (with_reducible refine LeO.ite ?_ ?_)
      | (with_reducible refine LeO.bind ?_ (fun _ => ?_))
      | exact ih0 _ _ _ _
      | exact LeO.none _
      | refine LeO.ite ?_ ?_
      | refine LeO.bind ?_ (fun _ => ?_)
theorem credenzaref06_Bytes.mono : ∀ a0 a1 k, LeO (credenzaref06_Bytes.f k a0 a1) (credenzaref06_Bytes.f (k + 1) a0 a1) := by
  intro a0 a1 k
  have ih0 := credenzaref06_Bytes.mono_l k
  unfold credenzaref06_Bytes.f
  repeat' first
      | (with_reducible exact ih0 _ _ _ _)
      | (with_reducible exact LeO.refl _)
      | (with_reducible exact LeO.none _)
      | (with_reducible refine LeO.ite ?_ ?_)
      | (with_reducible refine LeO.bind ?_ (fun _ => ?_))
      | exact ih0 _ _ _ _
      | exact LeO.none _
      | refine LeO.ite ?_ ?_
      | refine LeO.bind ?_ (fun _ => ?_)
set_option maxHeartbeats 8000000 in
set_option maxRecDepth 100000 in
theorem credenzaref06_Bytes.calls (k : Nat) (a0 : Int) (a1 : Int) (r : ByteArray) (w : World) (h : credenzaref06_Bytes.f k a0 a1 = some r) :
    Calls Try.prog 35 #[.int .u64 a0, .int .i64 a1] w fun e w' => e = .returned (.string r) ∧ Below w.heap.size w w' := by
  have HB := Aside0.mk (Below.refl w.heap.size w)
  have H : (credenzaref06_Bytes.l0 k a0 a1 (⟨#[]⟩ : ByteArray) 0) = some r := h
  clear h
  have H' := Aside0.mk H
  clear H
  go_enter Try.func35, Try.ntmps35
  go_wp2
  go_loopg [0, 5, 6] k (fun kq v0 v5 v6 w' => ∃ (x0_1 : Int) (x5_1 : ByteArray) (x6_1 : Int), v0 = .int .u64 x0_1 ∧ v5 = .string x5_1 ∧ v6 = .int .i64 x6_1 ∧ Aside0 (credenzaref06_Bytes.l0 kq x0_1 a1 x5_1 x6_1 = some r) ∧ Aside0 (kq ≤ k) ∧ Aside0 (Below w.heap.size w w'))
  case atStart => exact ⟨(a0), ((⟨#[]⟩ : ByteArray)), (0), (by first | rfl | (simp; done) | (simp [*]; done)), (by first | rfl | (simp; done) | (simp [*]; done)), (by first | rfl | (simp; done) | (simp [*]; done)), H', ⟨Nat.le_refl _⟩, ⟨by repeat (first | (with_reducible first | exact HB.out | apply below_alloc | apply pw_below_drewN | apply below_drew1) | exact HB.out)⟩⟩
  case round =>
    clear H'
    try clear p2
    obtain ⟨x0_1, x5_1, x6_1, rfl, rfl, rfl, HA, HK1, HB⟩ := hrel
    cases gk with
    | zero => exact absurd HA.out (by simp [credenzaref06_Bytes.l0])
    | succ k1 =>
      have H := HA.out
      clear HA
      simp only [credenzaref06_Bytes.l0] at H
      by_cases c3 : x6_1 < a1
      · rw [if_pos c3] at H
        have c3b0 : decide (x6_1 < a1) = true := decide_eq_true c3
        clear c3
        obtain ⟨y189, hy189⟩ : ∃ y_ : List Int, y_ = (([(Int.tmod x0_1 256) % 256] : List Int)) := ⟨_, rfl⟩
        replace H : (if (strOfNums y189).size + x5_1.size ≤ 9223372036854775807 then (credenzaref06_Bytes.l0 k1 (IntKind.u64.wrap (Int.tdiv x0_1 256)) a1 ((strOfNums y189) ++ x5_1) (wrap64 (x6_1 + 1))) else (none)) = some r := by first | (rw [hy189]; with_reducible exact H) | (have H2_ := (Option.bind_some _ _).symm.trans H; rw [hy189]; with_reducible exact H2_) | (have H2_ := (Option.bind_some _ _).symm.trans H; with_reducible exact H2_) | with_reducible exact H | (rw [hy189]; exact H) | exact H
        have Ny189 := Aside0.mk hy189
        clear hy189
        by_cases c4 : (strOfNums y189).size + x5_1.size ≤ 9223372036854775807
        · rw [if_pos c4] at H
          have c4b0 := eq_true c4
          have c4b1 : decide ((strOfNums y189).size + x5_1.size ≤ 9223372036854775807) = true := decide_eq_true c4
          try have c4b2 : (9223372036854775807 < (strOfNums y189).size + x5_1.size) = False := eq_false (Nat.not_lt.2 c4)
          have H' := Aside0.mk H
          clear H
          go_wp2_with (first | ((with_reducible refine gate_dst (N := 15) rfl ?_); refine Kd.R_lit (Kd.int .u8) _ 5 ?hg (N := 15) ?hd (xs := ([(Int.tmod x0_1 256) % 256] : List Int)) (inner := [.int .u8 ((Int.tmod x0_1 256) % 256)]) (ok := fun _ => True) (okp := fun _ => True) ?hr ?hp (fun _ hk => hk) trivial (Below.refl _ _) (Nat.le_refl _) (by simp) ?_; (case hd => rfl); (case hg => rfl); (case hr => first | (go_simp; done) | (go_simp; rfl)); (case hp => exact (Reps.one (show Kd.M (Kd.int .u8) _ _ _ ((Int.tmod x0_1 256) % 256) [.int .u8 ((Int.tmod x0_1 256) % 256)] from rfl) (Reps.none _ _))); intro v190 w5 ho6 hb hg_ hnew_; clear hg_ hnew_; (first | rw [← Ny189.out] at ho6 | (simp only [Int.reduceToNat] at ho6; rw [← Ny189.out] at ho6)); have n0_ := Aside0.mk (Kd.R_lower ho6 (below_size (by repeat (first | (with_reducible first | exact HB.out | apply below_alloc | apply pw_below_drewN | apply below_drew1) | exact HB.out)))); have n1_ := Aside0.mk (below_step (by repeat (first | (with_reducible first | exact HB.out | apply below_alloc | apply pw_below_drewN | apply below_drew1) | exact HB.out)) hb); clear HB; have HO191 := n0_; have HB := n1_; clear n0_ n1_; clear hb ho6; have hcv7 := own_string (P := Try.prog) Try.underlying41 Try.underlying5 Try.underlying9 (Kd.own_of_R HO191.out)))
          go_roundg k1
          case measure => have := HK1.out; omega
          case rel => exact ⟨(IntKind.u64.wrap (Int.tdiv x0_1 256)), ((strOfNums y189) ++ x5_1), (wrap64 (x6_1 + 1)), (by first | rfl | (simp; done) | (simp [*]; done)), (by first | rfl | (simp; done) | (simp [*]; done)), (by first | rfl | (simp; done) | (simp [*]; done)), H', ⟨by have := HK1.out; omega⟩, ⟨by repeat (first | (with_reducible first | exact HB.out | apply below_alloc | apply pw_below_drewN | apply below_drew1) | exact HB.out)⟩⟩
        · rw [if_neg c4] at H
          exact absurd H (by simp)
      · rw [if_neg c3] at H
        have c3b0 : decide (x6_1 < a1) = false := decide_eq_false c3
        clear c3
        obtain rfl := Option.some.inj H
        go_wp2
        go_ret
        exact ⟨by first | rfl | (simp [errW_none, errW_some] <;> rfl) | (simp [*, errW_none, errW_some] <;> rfl), by repeat (first | (with_reducible first | exact HB.out | apply below_alloc | apply pw_below_drewN | apply below_drew1) | exact HB.out)⟩

/-! ### credenzaref06_Close: function 32 -/
def credenzaref06_Close.f (k : Nat) (a0 : ByteArray) : Option (ByteArray) := (credenzaref06_Sum.f k a0).bind fun t192 => ((credenzaref06_Bytes.f k (IntKind.u64.wrap (t192)) 4).bind fun t193 => (if a0.size + t193.size ≤ 9223372036854775807 then (some (a0 ++ t193)) else (none)))
theorem credenzaref06_Close.mono : ∀ a0 k, LeO (credenzaref06_Close.f k a0) (credenzaref06_Close.f (k + 1) a0) := by
  intro a0 k
  unfold credenzaref06_Close.f
  repeat' first
      | (with_reducible exact credenzaref06_Bytes.mono _ _ _)
      | (with_reducible exact credenzaref06_Sum.mono _ _)
      | (with_reducible exact LeO.refl _)
      | (with_reducible exact LeO.none _)
      | (with_reducible refine LeO.ite ?_ ?_)
      | (with_reducible refine LeO.bind ?_ (fun _ => ?_))
      | exact credenzaref06_Bytes.mono _ _ _
      | exact credenzaref06_Sum.mono _ _
      | exact LeO.none _
      | refine LeO.ite ?_ ?_
      | refine LeO.bind ?_ (fun _ => ?_)
set_option maxHeartbeats 8000000 in
set_option maxRecDepth 100000 in
theorem credenzaref06_Close.calls (k : Nat) (a0 : ByteArray) (r : ByteArray) (w : World) (h : credenzaref06_Close.f k a0 = some r) :
    Calls Try.prog 32 #[.string a0] w fun e w' => e = .returned (.string r) ∧ Below w.heap.size w w' := by
  have HB := Aside0.mk (Below.refl w.heap.size w)
  have H : ((credenzaref06_Sum.f k a0).bind fun t192 => ((credenzaref06_Bytes.f k (IntKind.u64.wrap (t192)) 4).bind fun t193 => (if a0.size + t193.size ≤ 9223372036854775807 then (some (a0 ++ t193)) else (none)))) = some r := h
  clear h
  replace H := Option.bind_eq_some_iff.mp H
  obtain ⟨t192, A20, H⟩ := H
  replace H : ((credenzaref06_Bytes.f k (IntKind.u64.wrap (t192)) 4).bind fun t193 => (if a0.size + t193.size ≤ 9223372036854775807 then (some (a0 ++ t193)) else (none))) = some r := H
  have A2 := Aside0.mk A20
  clear A20
  replace H := Option.bind_eq_some_iff.mp H
  obtain ⟨t193, A30, H⟩ := H
  replace H : (if a0.size + t193.size ≤ 9223372036854775807 then (some (a0 ++ t193)) else (none)) = some r := H
  have A3 := Aside0.mk A30
  clear A30
  by_cases c4 : a0.size + t193.size ≤ 9223372036854775807
  · rw [if_pos c4] at H
    have c4b0 := eq_true c4
    have c4b1 : decide (a0.size + t193.size ≤ 9223372036854775807) = true := decide_eq_true c4
    try have c4b2 : (9223372036854775807 < a0.size + t193.size) = False := eq_false (Nat.not_lt.2 c4)
    obtain rfl := Option.some.inj H
    go_enter Try.func32, Try.ntmps32
    go_wp2_with (first | ((with_reducible refine gate_callee (f := 31) rfl ?_); refine goesL_ (some 5) rfl rfl Try.func31 (by kernel_rfl) rfl #[.string a0] rfl (by (try simp only [List.map_toArray, List.map_cons, List.map_nil]); first | done | rfl | (simp only [List.length_drop, List.length_take]; rfl)) ?_; (with_reducible refine (credenzaref06_Sum.calls k a0 t192 _ A2.out).mono ?_); rintro e w' ⟨rfl, ⟨nd, rfl⟩⟩; refine ⟨_, rfl, ?_⟩) | ((with_reducible refine gate_callee (f := 35) rfl ?_); refine goesL_ (some 7) rfl rfl Try.func35 (by kernel_rfl) rfl #[.int .u64 (IntKind.u64.wrap (t192)), .int .i64 4] rfl (by (try simp only [List.map_toArray, List.map_cons, List.map_nil]); first | done | rfl | (simp only [List.length_drop, List.length_take]; rfl)) ?_; (with_reducible refine (credenzaref06_Bytes.calls k (IntKind.u64.wrap (t192)) 4 t193 _ A3.out).mono ?_); rintro e w5 ⟨rfl, hb⟩; refine ⟨_, rfl, ?_⟩; have n0_ := Aside0.mk (below_step (by repeat (first | (with_reducible first | exact HB.out | apply below_alloc | apply pw_below_drewN | apply below_drew1) | exact HB.out)) hb); clear HB; have HB := n0_; clear n0_; (try clear hb); (try clear hb2); (try clear hk); (try clear hi)))
    go_ret
    exact ⟨by first | rfl | (simp [errW_none, errW_some] <;> rfl) | (simp [*, errW_none, errW_some] <;> rfl), by repeat (first | (with_reducible first | exact HB.out | apply below_alloc | apply pw_below_drewN | apply below_drew1) | exact HB.out)⟩
  · rw [if_neg c4] at H
    exact absurd H (by simp)

/-! ### credenzaref06_Open: function 33 -/
def credenzaref06_Open.f (k : Nat) (a0 : ByteArray) : Option (ByteArray × Int) := if (a0.size : Int) < 4 then (some ((⟨#[]⟩ : ByteArray), 16)) else (if 0 ≤ (wrap64 ((a0.size : Int) - 4)) then (if (wrap64 ((a0.size : Int) - 4)) ≤ (a0.size : Int) then ((credenzaref06_Close.f k (a0.extract 0 ((wrap64 ((a0.size : Int) - 4)) : Int).toNat)).bind fun t194 => (if t194.toList = a0.toList then (some (a0.extract 0 ((wrap64 ((a0.size : Int) - 4)) : Int).toNat, 0)) else (some ((⟨#[]⟩ : ByteArray), 22)))) else (none)) else (none))
theorem credenzaref06_Open.mono : ∀ a0 k, LeO (credenzaref06_Open.f k a0) (credenzaref06_Open.f (k + 1) a0) := by
  intro a0 k
  unfold credenzaref06_Open.f
  repeat' first
      | (with_reducible exact credenzaref06_Close.mono _ _)
      | (with_reducible exact LeO.refl _)
      | (with_reducible exact LeO.none _)
      | (with_reducible refine LeO.ite ?_ ?_)
      | (with_reducible refine LeO.bind ?_ (fun _ => ?_))
      | exact credenzaref06_Close.mono _ _
      | exact LeO.none _
      | refine LeO.ite ?_ ?_
      | refine LeO.bind ?_ (fun _ => ?_)
set_option maxHeartbeats 8000000 in
set_option maxRecDepth 100000 in
theorem credenzaref06_Open.calls (k : Nat) (a0 : ByteArray) (r1 : ByteArray) (r2 : Int) (w : World) (h : credenzaref06_Open.f k a0 = some (r1, r2)) :
    Calls Try.prog 33 #[.string a0] w fun e w' => e = .returned (.tuple #[.string r1, .int .i64 r2]) ∧ Below w.heap.size w w' := by
  have HB := Aside0.mk (Below.refl w.heap.size w)
  have H : (if (a0.size : Int) < 4 then (some ((⟨#[]⟩ : ByteArray), 16)) else (if 0 ≤ (wrap64 ((a0.size : Int) - 4)) then (if (wrap64 ((a0.size : Int) - 4)) ≤ (a0.size : Int) then ((credenzaref06_Close.f k (a0.extract 0 ((wrap64 ((a0.size : Int) - 4)) : Int).toNat)).bind fun t194 => (if t194.toList = a0.toList then (some (a0.extract 0 ((wrap64 ((a0.size : Int) - 4)) : Int).toNat, 0)) else (some ((⟨#[]⟩ : ByteArray), 22)))) else (none)) else (none))) = some (r1, r2) := h
  clear h
  by_cases c2 : (a0.size : Int) < 4
  · rw [if_pos c2] at H
    have c2b0 : decide ((a0.size : Int) < 4) = true := decide_eq_true c2
    have c2b1 : decide (a0.size < 4) = true := decide_eq_true (by omega)
    clear c2
    simp only [Option.some.injEq, Prod.mk.injEq] at H
    obtain ⟨rfl, rfl⟩ := H
    go_enter Try.func33, Try.ntmps33
    go_wp2
    go_ret2
    exact ⟨by first | rfl | (simp [errW_none, errW_some] <;> rfl) | (simp [*, errW_none, errW_some] <;> rfl), by repeat (first | (with_reducible first | exact HB.out | apply below_alloc | apply pw_below_drewN | apply below_drew1) | exact HB.out)⟩
  · rw [if_neg c2] at H
    have c2b0 : decide ((a0.size : Int) < 4) = false := decide_eq_false c2
    have c2b1 : decide (a0.size < 4) = false := decide_eq_false (by omega)
    clear c2
    obtain ⟨ji3, hji3⟩ : ∃ j_ : Int, (wrap64 ((a0.size : Int) - 4)) = j_ := ⟨_, rfl⟩
    replace H : (if 0 ≤ (ji3) then (if (ji3) ≤ (a0.size : Int) then ((credenzaref06_Close.f k (a0.extract 0 ((ji3) : Int).toNat)).bind fun t194 => (if t194.toList = a0.toList then (some (a0.extract 0 ((ji3) : Int).toNat, 0)) else (some ((⟨#[]⟩ : ByteArray), 22)))) else (none)) else (none)) = some (r1, r2) := by first | (rw [hji3] at H; exact H) | (simp only [hji3] at H ⊢; exact H)
    have hji3w : (IntKind.i64.wrap ((a0.size : Int) - 4)) = ji3 := (i64_w _).trans hji3
    by_cases c4 : 0 ≤ (ji3)
    · rw [if_pos c4] at H
      have c4b0 := eq_true c4
      have c4b1 : decide (0 ≤ (ji3)) = true := decide_eq_true c4
      clear c4
      by_cases c5 : (ji3) ≤ (a0.size : Int)
      · rw [if_pos c5] at H
        have c5b0 := eq_true c5
        have c5b1 : decide ((ji3) ≤ (a0.size : Int)) = true := decide_eq_true c5
        clear c5
        replace H := Option.bind_eq_some_iff.mp H
        obtain ⟨t194, A60, H⟩ := H
        replace H : (if t194.toList = a0.toList then (some (a0.extract 0 ((ji3) : Int).toNat, 0)) else (some ((⟨#[]⟩ : ByteArray), 22))) = some (r1, r2) := H
        have A6 := Aside0.mk A60
        clear A60
        by_cases c7 : t194.toList = a0.toList
        · rw [if_pos c7] at H
          have c7b0 : (t194.toList == a0.toList) = true := beq_iff_eq.mpr c7
          have c7b1 : (t194.toList != a0.toList) = false := bne_eq_false_iff_eq.mpr c7
          clear c7
          have c8b0 := eq_true (of_decide_eq_true (by first | (with_reducible assumption) | assumption) : 0 ≤ (ji3))
          have c9b0 := eq_true (of_decide_eq_true (by first | (with_reducible assumption) | assumption) : (ji3) ≤ (a0.size : Int))
          simp only [Option.some.injEq, Prod.mk.injEq] at H
          obtain ⟨rfl, rfl⟩ := H
          go_enter Try.func33, Try.ntmps33
          go_wp2_with (first | ((with_reducible refine gate_callee (f := 32) rfl ?_); refine goesL_ (some 12) rfl rfl Try.func32 (by kernel_rfl) rfl #[.string (a0.extract 0 ((ji3) : Int).toNat)] rfl (by (try simp only [List.map_toArray, List.map_cons, List.map_nil]); first | done | (simp only [hji3]; rfl) | rfl | (simp only [List.length_drop, List.length_take]; rfl)) ?_; (with_reducible refine (credenzaref06_Close.calls k (a0.extract 0 ((ji3) : Int).toNat) t194 _ A6.out).mono ?_); rintro e w10 ⟨rfl, hb⟩; refine ⟨_, rfl, ?_⟩; have n0_ := Aside0.mk (below_step (by repeat (first | (with_reducible first | exact HB.out | apply below_alloc | apply pw_below_drewN | apply below_drew1) | exact HB.out)) hb); clear HB; have HB := n0_; clear n0_; (try clear hb); (try clear hb2); (try clear hk); (try clear hi)))
          go_ret2
          exact ⟨by first | rfl | (simp [errW_none, errW_some] <;> rfl) | (simp only [← hji3]; first | rfl | (simp [errW_none, errW_some] <;> rfl)) | (simp [*, errW_none, errW_some] <;> rfl), by repeat (first | (with_reducible first | exact HB.out | apply below_alloc | apply pw_below_drewN | apply below_drew1) | exact HB.out)⟩
        · rw [if_neg c7] at H
          have c7b0 : (t194.toList == a0.toList) = false := beq_eq_false_iff_ne.mpr c7
          have c7b1 : (t194.toList != a0.toList) = true := bne_iff_ne.mpr c7
          simp only [Option.some.injEq, Prod.mk.injEq] at H
          obtain ⟨rfl, rfl⟩ := H
          go_enter Try.func33, Try.ntmps33
          go_wp2_with (first | ((with_reducible refine gate_callee (f := 32) rfl ?_); refine goesL_ (some 12) rfl rfl Try.func32 (by kernel_rfl) rfl #[.string (a0.extract 0 ((ji3) : Int).toNat)] rfl (by (try simp only [List.map_toArray, List.map_cons, List.map_nil]); first | done | (simp only [hji3]; rfl) | rfl | (simp only [List.length_drop, List.length_take]; rfl)) ?_; (with_reducible refine (credenzaref06_Close.calls k (a0.extract 0 ((ji3) : Int).toNat) t194 _ A6.out).mono ?_); rintro e w11 ⟨rfl, hb⟩; refine ⟨_, rfl, ?_⟩; have n0_ := Aside0.mk (below_step (by repeat (first | (with_reducible first | exact HB.out | apply below_alloc | apply pw_below_drewN | apply below_drew1) | exact HB.out)) hb); clear HB; have HB := n0_; clear n0_; (try clear hb); (try clear hb2); (try clear hk); (try clear hi)))
          go_ret2
          exact ⟨by first | rfl | (simp [errW_none, errW_some] <;> rfl) | (simp only [← hji3]; first | rfl | (simp [errW_none, errW_some] <;> rfl)) | (simp [*, errW_none, errW_some] <;> rfl), by repeat (first | (with_reducible first | exact HB.out | apply below_alloc | apply pw_below_drewN | apply below_drew1) | exact HB.out)⟩
      · rw [if_neg c5] at H
        exact absurd H (by simp)
    · rw [if_neg c4] at H
      exact absurd H (by simp)

end Go.Proofs.Ytlkelicgbjjgiaa.PSealOpens
