/- Any config is right just if the document says so. -/
import Derived.Test.YtehepnmagcjkaaaPBlobConfigsx
namespace Go.Proofs.Ytehepnmagcjkaaa.Pure
open Go.RowKit Go.Proofs.Ytehepnmagcjkaaa.PBlobConfigs Go.Proofs.YtehepnmagcjkaaaW.PrintWords Go.Proofs.YtehepnmagcjkaaaW.PrintLast Go.Proofs.YtehepnmagcjkaaaW.PrintMore
set_option linter.unusedVariables false
set_option linter.unusedSimpArgs false
theorem Ev.pos {α : Type} {c : Prop} [Decidable c] {X Y : Nat → Option α} {r : α} (h : c) (k : Ev X r) : Ev (fun n => if c then X n else Y n) r := by
  obtain ⟨K, k⟩ := k
  exact ⟨K, fun n hn => (if_pos h).trans (k n hn)⟩
theorem Ev.neg {α : Type} {c : Prop} [Decidable c] {X Y : Nat → Option α} {r : α} (h : ¬ c) (k : Ev Y r) : Ev (fun n => if c then X n else Y n) r := by
  obtain ⟨K, k⟩ := k
  exact ⟨K, fun n hn => (if_neg h).trans (k n hn)⟩
theorem Ev.sb {α β : Type} {f : Nat → α → Option β} {a : α} {r : β} (k : Ev (fun n => f n a) r) : Ev (fun n => (some a).bind (f n)) r := k
theorem Ev.one {α : Type} {g h : Nat → Option α} {r : α} (hg : Ev g r) (hh : ∀ n, g n = h n) : Ev h r := Ev.congr (fun n => (hh n).symm) hg
theorem w64 {x : Int} (h0 : -9223372036854775808 ≤ x) (h1 : x ≤ 9223372036854775807) : wrap64 x = x := by unfold wrap64; omega
theorem wn (x : Nat) (h : x < 9223372036854775808) : wrap64 (x : Int) = (x : Int) := w64 (by omega) (by omega)
theorem wadd (x y : Nat) (h : x + y < 9223372036854775808) : wrap64 ((x : Int) + (y : Int)) = ((x + y : Nat) : Int) := by
  rw [← Int.natCast_add]
  exact wn _ h
theorem wsucc (x : Nat) (h : x + 1 < 9223372036854775808) : wrap64 ((x : Int) + 1) = ((x + 1 : Nat) : Int) := wadd x 1 h
def up (W : List Nat) : List Int := W.map fun (n : Nat) => (n : Int)
theorem up_length (W : List Nat) : (up W).length = W.length := by simp [up]
def Bys (l : List Nat) : Prop := ∀ x ∈ l, x < 256
theorem Bys.drop {a : List Nat} (ha : Bys a) (n : Nat) : Bys (a.drop n) := fun x hx => ha x (List.mem_of_mem_drop hx)
theorem Bys.getD {a : List Nat} (ha : Bys a) (n : Nat) : a.getD n 0 < 256 := by
  rw [List.getD_eq_getElem?_getD]
  by_cases h : n < a.length
  · rw [List.getElem?_eq_getElem h]
    exact ha _ (List.getElem_mem h)
  · rw [List.getElem?_eq_none (by omega)]
    decide
theorem Open_short (l : List Nat) (h : l.length < 4) : Ev (fun k => seal_Open.f k (up l)) ([], 16) := by
  unfold seal_Open.f
  rw [up_length, w64 (by omega) (by omega)]
  exact Ev.pos (by omega) (Ev.now _)
/-! ### blob: configs -/
def bcnt (s : S110) : Int := if s.f0 = 0 then s.f1 else wrap64 (s.f0 * s.f1)
def bfl (x : Int) : List Int → Int
  | [] => x
  | c :: l => bfl (wrap64 (x + c)) l
def bS (w kv q : Int) : Nat → List S110
  | 0 => []
  | n + 1 => bS w kv q n ++ [⟨0, w⟩, ⟨w, w⟩, ⟨kv, w⟩, ⟨kv, w⟩, ⟨w, w⟩, ⟨0, w⟩, ⟨q, w⟩, ⟨q, w⟩, ⟨w, q⟩]
theorem bS_len (w kv q : Int) : ∀ n, (bS w kv q n).length = 9 * n
  | 0 => rfl
  | n + 1 => by simp only [bS, List.length_append, bS_len w kv q n, List.length_cons, List.length_nil]; omega
theorem Sz_l0 {w a1 a2 a3 q v : Int} {N : Nat} (hN : N ≤ 4) : ∀ d i : Nat, N - i = d → i ≤ N →
    Ev (fun k => credenzaref18_Sizes.l0 k w (⟨v, w⟩ :: bS w (wrap64 (a2 * a3)) q i) (i : Int) (N : Int) a1 a2 a3 q v) (⟨v, w⟩ :: bS w (wrap64 (a2 * a3)) q N ++ [⟨0, w⟩, ⟨v, w⟩]) := by
  intro d
  induction d with
  | zero =>
    intro i h1 h2
    obtain rfl : i = N := by omega
    refine Ev.step (fun k => by rw [credenzaref18_Sizes.l0, if_neg (by omega)]) ?_
    refine Ev.sb (Ev.pos ?_ (Ev.now _))
    simp only [List.length_cons, List.length_nil, bS_len]
    omega
  | succ d ih =>
    intro i h1 h2
    refine Ev.step (fun k => by rw [credenzaref18_Sizes.l0, if_pos (by omega), wsucc _ (by omega)]) ?_
    refine Ev.sb (Ev.pos ?_ (Ev.sb (Ev.sb (Ev.pos ?_ ?_))))
    · simp only [List.length_cons, List.length_nil, bS_len]
      omega
    · simp only [List.length_append, List.length_cons, List.length_nil, bS_len]
      omega
    · have h := ih (i + 1) (by omega) (by omega)
      rw [bS] at h
      simpa using h
theorem Nm_l0 (l : List S110) (hl : l.length < 1000) : ∀ d i x, l.length - i = d → i ≤ l.length →
    Ev (fun k => credenzaref18_Numbers.l0 k x l (i : Int)) (bfl x ((l.drop i).map bcnt)) := by
  intro d
  induction d with
  | zero =>
    intro i x h1 h2
    rw [List.drop_eq_nil_of_le (by omega)]
    exact Ev.step (f := fun _ => some x) (fun k => by rw [credenzaref18_Numbers.l0, if_neg (by omega)]) (Ev.now _)
  | succ d ih =>
    intro i x h1 h2
    have hi : i < l.length := by omega
    have hrd : rd_T110 l (i : Int) = l[i] := by unfold rd_T110; rw [Int.toNat_natCast, List.getD_eq_getElem?_getD, List.getElem?_eq_getElem hi]; rfl
    refine Ev.step (fun k => by rw [credenzaref18_Numbers.l0, if_pos (by omega), if_pos (by omega), wsucc _ (by omega), hrd]) ?_
    have hc : credenzaref18_count.f l[i].f0 l[i].f1 = some (bcnt l[i]) := by unfold credenzaref18_count.f bcnt; split <;> rfl
    rw [hc]
    refine Ev.sb ?_
    have h := ih (i + 1) (wrap64 (x + bcnt l[i])) (by omega) (by omega)
    rw [List.drop_eq_getElem_cons hi, List.map_cons]
    exact h
def brc (c : List Value) : Int := wrap64 (intOf (c.getD 2 undef) * intOf (c.getD 3 undef))
theorem nb_fl : ∀ (l : List (List Value)) (x : Int), nb.sum x l = bfl x (l.map brc)
  | [], x => rfl
  | c :: l, x => by rw [nb.sum, nb_fl l]; rfl
theorem lays_map {w kv q : Int} (hw : 2 ≤ w ∧ w ≤ 64) (hk : 2 ≤ kv ∧ kv ≤ 64) (hq : 1 ≤ q ∧ q ≤ 64) : ∀ n, (bp.layers 0 0 w kv q n).map brc = (bS w kv q n).map bcnt
  | 0 => rfl
  | n + 1 => by
    have h1 : wrap64 w = w := w64 (by omega) (by omega)
    simp only [bp.layers, bp.layer, bp.layer2, bS, List.map_append, lays_map hw hk hq n]
    congr 1
    simp [bp.one, brc, intOf, bcnt, h1, show w ≠ 0 by omega, show kv ≠ 0 by omega, show q ≠ 0 by omega]
theorem all_map {v w kv q : Int} (hv : 2 ≤ v ∧ v ≤ 64) (hw : 2 ≤ w ∧ w ≤ 64) (hk : 2 ≤ kv ∧ kv ≤ 64) (hq : 1 ≤ q ∧ q ≤ 64) (n : Nat) :
    (bp.all 0 0 0 n v w kv q).map brc = ((⟨v, w⟩ :: bS w kv q n ++ [⟨0, w⟩, ⟨v, w⟩] : List S110)).map bcnt := by
  have h1 : wrap64 w = w := w64 (by omega) (by omega)
  simp only [bp.all, List.map_append, List.map_cons, lays_map hw hk hq n]
  simp [bp.one, brc, intOf, bcnt, h1, show w ≠ 0 by omega, show v ≠ 0 by omega]
theorem cfg_eq (c0 c1 c2 c3 c4 c5 : Int) : blob_Config_Right.f c0 c1 c2 c3 c4 c5 = credenzaref18_RightConfig.f c0 c1 c2 c3 c4 c5 := by
  unfold blob_Config_Right.f credenzaref18_RightConfig.f
  simp only [blob_within.f]
  by_cases h0 : c0 < 1
  · rw [if_neg (show ¬ c0 ≥ 1 by omega), if_pos h0]; rfl
  rw [if_pos (show c0 ≥ 1 by omega), if_neg h0]
  by_cases h1 : c0 > 4
  · rw [if_pos h1]; simp [show ¬ c0 ≤ 4 by omega]
  rw [if_neg h1]
  by_cases h2 : c1 < 1
  · rw [if_pos h2]; simp [show c0 ≤ 4 by omega, show ¬ 1 ≤ c1 by omega]
  rw [if_neg h2]
  by_cases h3 : c1 > 4
  · rw [if_pos h3]; simp [show c0 ≤ 4 by omega, show 1 ≤ c1 by omega, show ¬ c1 ≤ 4 by omega]
  rw [if_neg h3]
  by_cases h4 : c2 < 1
  · rw [if_pos h4]; simp [show c0 ≤ 4 by omega, show 1 ≤ c1 by omega, show c1 ≤ 4 by omega, show ¬ 1 ≤ c2 by omega]
  rw [if_neg h4]
  by_cases h5 : c2 > c1
  · rw [if_pos h5]; simp [show c0 ≤ 4 by omega, show 1 ≤ c1 by omega, show c1 ≤ 4 by omega, show 1 ≤ c2 by omega, show ¬ c2 ≤ c1 by omega]
  rw [if_neg h5]
  simp only [ge_iff_le, show c0 ≤ 4 by omega, show 1 ≤ c1 by omega, show c1 ≤ 4 by omega, show 1 ≤ c2 by omega, show c2 ≤ c1 by omega, decide_true, if_true, Option.bind_some]
  by_cases h6 : c2 = 0
  · omega
  rw [if_neg h6, if_neg h6]
  by_cases h7 : Int.tmod c1 c2 = 0
  · rw [if_pos h7, if_pos h7]
    by_cases h8 : 2 ≤ c3 <;> by_cases h9 : c3 ≤ 16 <;> by_cases h10 : Int.tmod c3 2 = 0 <;> by_cases h11 : 1 ≤ c4 <;> by_cases h12 : c4 ≤ 64 <;> by_cases h13 : 2 ≤ c5 <;> simp [h8, h9, h10, h11, h12, h13]
  · rw [if_neg h7, if_neg h7]
theorem cfg_t {c0 c1 c2 c3 c4 c5 : Int} (h : credenzaref18_RightConfig.f c0 c1 c2 c3 c4 c5 = some true) : 1 ≤ c0 ∧ c0 ≤ 4 ∧ 1 ≤ c1 ∧ c1 ≤ 4 ∧ 1 ≤ c2 ∧ c2 ≤ c1 ∧ 2 ≤ c3 ∧ c3 ≤ 16 ∧ 1 ≤ c4 ∧ c4 ≤ 64 ∧ 2 ≤ c5 ∧ c5 ≤ 64 := by
  unfold credenzaref18_RightConfig.f at h
  by_cases g0 : c0 < 1
  case pos => rw [if_pos g0] at h; exact absurd h (by simp)
  rw [if_neg g0] at h
  by_cases g1 : c0 > 4
  case pos => rw [if_pos g1] at h; exact absurd h (by simp)
  rw [if_neg g1] at h
  by_cases g2 : c1 < 1
  case pos => rw [if_pos g2] at h; exact absurd h (by simp)
  rw [if_neg g2] at h
  by_cases g3 : c1 > 4
  case pos => rw [if_pos g3] at h; exact absurd h (by simp)
  rw [if_neg g3] at h
  by_cases g4 : c2 < 1
  case pos => rw [if_pos g4] at h; exact absurd h (by simp)
  rw [if_neg g4] at h
  by_cases g5 : c2 > c1
  case pos => rw [if_pos g5] at h; exact absurd h (by simp)
  rw [if_neg g5] at h
  by_cases g6 : c2 = 0
  case pos => omega
  rw [if_neg g6] at h
  by_cases g7 : Int.tmod c1 c2 = 0
  case neg => rw [if_neg g7] at h; exact absurd h (by simp)
  rw [if_pos g7] at h
  by_cases g8 : c3 ≥ 2
  case neg => rw [if_neg g8] at h; exact absurd h (by simp)
  rw [if_pos g8] at h
  by_cases g9 : c3 ≤ 16
  case neg => rw [if_neg g9] at h; exact absurd h (by simp)
  rw [if_pos g9] at h
  by_cases g10 : Int.tmod c3 2 = 0
  case neg => rw [if_neg g10] at h; exact absurd h (by simp)
  rw [if_pos g10] at h
  by_cases g11 : c4 ≥ 1
  case neg => rw [if_neg g11] at h; exact absurd h (by simp)
  rw [if_pos g11] at h
  by_cases g12 : c4 ≤ 64
  case neg => rw [if_neg g12] at h; exact absurd h (by simp)
  rw [if_pos g12] at h
  by_cases g13 : c5 ≥ 2
  case neg => rw [if_neg g13] at h; exact absurd h (by simp)
  rw [if_pos g13] at h
  have h' : c5 ≤ 64 := by simpa using h
  refine ⟨by omega, by omega, by omega, by omega, by omega, by omega, by omega, by omega, by omega, by omega, by omega, h'⟩
theorem cfg_tot (c0 c1 c2 c3 c4 c5 : Int) : ∃ b, credenzaref18_RightConfig.f c0 c1 c2 c3 c4 c5 = some b := by
  unfold credenzaref18_RightConfig.f
  by_cases g0 : c0 < 1
  case pos => rw [if_pos g0]; exact ⟨_, rfl⟩
  rw [if_neg g0]
  by_cases g1 : c0 > 4
  case pos => rw [if_pos g1]; exact ⟨_, rfl⟩
  rw [if_neg g1]
  by_cases g2 : c1 < 1
  case pos => rw [if_pos g2]; exact ⟨_, rfl⟩
  rw [if_neg g2]
  by_cases g3 : c1 > 4
  case pos => rw [if_pos g3]; exact ⟨_, rfl⟩
  rw [if_neg g3]
  by_cases g4 : c2 < 1
  case pos => rw [if_pos g4]; exact ⟨_, rfl⟩
  rw [if_neg g4]
  by_cases g5 : c2 > c1
  case pos => rw [if_pos g5]; exact ⟨_, rfl⟩
  rw [if_neg g5]
  by_cases g6 : c2 = 0
  case pos => omega
  rw [if_neg g6]
  by_cases g7 : Int.tmod c1 c2 = 0
  case neg => rw [if_neg g7]; exact ⟨_, rfl⟩
  rw [if_pos g7]
  by_cases g8 : c3 ≥ 2
  case neg => rw [if_neg g8]; exact ⟨_, rfl⟩
  rw [if_pos g8]
  by_cases g9 : c3 ≤ 16
  case neg => rw [if_neg g9]; exact ⟨_, rfl⟩
  rw [if_pos g9]
  by_cases g10 : Int.tmod c3 2 = 0
  case neg => rw [if_neg g10]; exact ⟨_, rfl⟩
  rw [if_pos g10]
  by_cases g11 : c4 ≥ 1
  case neg => rw [if_neg g11]; exact ⟨_, rfl⟩
  rw [if_pos g11]
  by_cases g12 : c4 ≤ 64
  case neg => rw [if_neg g12]; exact ⟨_, rfl⟩
  rw [if_pos g12]
  by_cases g13 : c5 ≥ 2
  case neg => rw [if_neg g13]; exact ⟨_, rfl⟩
  rw [if_pos g13]
  exact ⟨_, rfl⟩
theorem num_eq {c0 c1 c2 c3 c4 c5 : Int} (h : credenzaref18_RightConfig.f c0 c1 c2 c3 c4 c5 = some true) :
    ∃ n, blob_Config_Numbers.f c0 c1 c2 c3 c4 c5 = some n ∧ Ev (fun k => credenzaref18_Numbers.f k c0 c1 c2 c3 c4 c5) n := by
  obtain ⟨b0, b1, b2, b3, b4, b5, b6, b7, b8, b9, b10, b11⟩ := cfg_t h
  have m1 : 2 ≤ c1 * c3 := by have := Int.mul_le_mul b2 b6 (by decide) (by omega); omega
  have m2 : c1 * c3 ≤ 64 := by have := Int.mul_le_mul b3 b7 (by omega) (by decide); omega
  have m3 : 2 ≤ c2 * c3 := by have := Int.mul_le_mul b4 b6 (by decide) (by omega); omega
  have m4 : c2 * c3 ≤ 64 := by have := Int.mul_le_mul (show c2 ≤ 4 by omega) b7 (by omega) (by decide); omega
  have e1 : wrap64 (c1 * c3) = c1 * c3 := w64 (by omega) (by omega)
  have e2 : wrap64 (c2 * c3) = c2 * c3 := w64 (by omega) (by omega)
  refine ⟨_, by unfold blob_Config_Numbers.f; rw [cfg_eq, h, Option.bind_some, if_pos rfl, if_pos (by omega), if_pos (by omega)], ?_⟩
  rw [nb_fl, all_map ⟨b10, b11⟩ (by omega) (by omega) ⟨b8, b9⟩]
  unfold credenzaref18_Numbers.f credenzaref18_Sizes.f
  have hc : ((c0.toNat : Nat) : Int) = c0 := Int.toNat_of_nonneg (by omega)
  have hs := Sz_l0 (w := wrap64 (c1 * c3)) (a1 := c1) (a2 := c2) (a3 := c3) (q := c4) (v := c5) (N := c0.toNat) (by omega) (c0.toNat - 0) 0 rfl (by omega)
  rw [hc] at hs
  refine Ev.bind hs ?_
  have hn := Nm_l0 (⟨c5, wrap64 (c1 * c3)⟩ :: bS (wrap64 (c1 * c3)) (wrap64 (c2 * c3)) c4 c0.toNat ++ [⟨0, wrap64 (c1 * c3)⟩, ⟨c5, wrap64 (c1 * c3)⟩]) (by simp only [List.length_append, List.length_cons, List.length_nil, bS_len]; omega) _ 0 c3 rfl (by omega)
  exact hn
theorem Parse_W : Ev (fun k => blob_Parse.f k ([87] : List Int)) (0, 0, 0, 0, 0, 0, [], 0, 0, [], [], [], 0, 0, [], 16) := by
  unfold blob_Parse.f
  exact Ev.bind (Open_short [87] (by decide)) (Ev.neg (by decide) (Ev.now _))
theorem cfg_0 : blob_Config_Right.f 0 0 0 0 0 0 = some false := by decide
theorem cfg_1 : blob_Config_Right.f 1 1 1 2 1 2 = some true := by decide
theorem Right_0 : Ev (fun k => blob_Right.f k 0 0 0 0 0 0 ([] : List S115) 0 0 ([] : List Int) ([] : List S120) ([] : List Int) 0 0 ([] : List Int)) 11 := by
  unfold blob_Right.f
  rw [cfg_0]
  exact Ev.sb (Ev.neg (by decide) (Ev.now _))
theorem Right_1 : Ev (fun k => blob_Right.f k 1 1 1 2 1 2 ([] : List S115) 0 0 ([] : List Int) ([] : List S120) ([] : List Int) 0 0 ([] : List Int)) 25 := by
  unfold blob_Right.f blob_Right.rest
  rw [cfg_1]
  exact Ev.sb (Ev.pos rfl (Ev.pos (by decide) (Ev.pos (by decide) (Ev.now _))))
theorem T0 : Ev (fun k => rope_Turn_76.f k [] []) true := by
  unfold rope_Turn_76.f
  exact Ev.pos rfl (Ev.step (f := fun _ => some true) (fun k => by rw [rope_Turn_76.l0, if_neg (by decide)]) (Ev.now _))
theorem L0 : Ev (fun k => slices_Equal_int32_int32.f k [] []) true := by
  unfold slices_Equal_int32_int32.f
  exact Ev.pos rfl (Ev.step (f := fun _ => some true) (fun k => by rw [slices_Equal_int32_int32.l0, if_neg (by decide)]) (Ev.now _))
theorem M0 : Ev (fun k => mat_Equal.f k 0 0 [] 0 0 []) true := by
  unfold mat_Equal.f
  exact Ev.pos rfl (Ev.pos rfl (Ev.bind L0 (Ev.now _)))
theorem Eq_0 : Ev (fun k => blob_Equal.f k 0 0 0 0 0 0 ([] : List S115) 0 0 ([] : List Int) ([] : List S120) ([] : List Int) 0 0 ([] : List Int) 0 0 0 0 0 0 ([] : List S115) 0 0 ([] : List Int) ([] : List S120) ([] : List Int) 0 0 ([] : List Int)) true := by
  unfold blob_Equal.f peq.f
  refine Ev.pos (by decide) (Ev.bind T0 (Ev.pos rfl (Ev.pos rfl (Ev.pos (by decide) (Ev.pos rfl ?_)))))
  show Ev (fun k => peq.l k [⟨some (0, 0), [], 0, wrap64 (0 * 0)⟩, ⟨none, [], 1, wrap64 (0 * 0)⟩, ⟨some (0, 0), [], 0, wrap64 (0 * 0)⟩] [⟨some (0, 0), [], 0, wrap64 (0 * 0)⟩, ⟨none, [], 1, wrap64 (0 * 0)⟩, ⟨some (0, 0), [], 0, wrap64 (0 * 0)⟩]) true
  simp only [peq.l, psame.f]
  exact Ev.bind M0 (Ev.pos rfl (Ev.bind L0 (Ev.pos rfl (Ev.bind M0 (Ev.pos rfl (Ev.now _))))))
theorem Eq_1 : Ev (fun k => blob_Equal.f k 0 0 0 0 0 0 ([] : List S115) 0 0 ([] : List Int) ([] : List S120) ([] : List Int) 0 0 ([] : List Int) 1 1 1 2 1 2 ([] : List S115) 0 0 ([] : List Int) ([] : List S120) ([] : List Int) 0 0 ([] : List Int)) false := by
  unfold blob_Equal.f
  exact Ev.neg (by decide) (Ev.now _)
theorem bawake : Ev (fun k => credenzalaw18_awake.f k) true := by
  unfold credenzalaw18_awake.f credenzalaw18_least.f
  refine Ev.bind Parse_W (Ev.sb ?_)
  dsimp only
  have h1 : blob_Config_Right.f 1 1 1 2 1 2 = some true := by decide
  have h2 : blob_Config_Right.f 0 0 0 0 0 0 = some false := by decide
  have h3 : blob_Config_Numbers.f 1 1 1 2 1 2 = some 38 := by decide +kernel
  rw [h1, h2, h3]
  refine Ev.sb (Ev.pos rfl ?_)
  unfold blob_Config_Width.f
  refine Ev.sb (Ev.pos (w64 (by decide) (by decide)) (Ev.sb (Ev.pos rfl (Ev.sb (Ev.neg (by decide) ?_)))))
  exact Ev.bind Right_0 (Ev.pos rfl (Ev.bind Right_1 (Ev.pos rfl (Ev.pos rfl (Ev.bind Eq_0 (Ev.pos rfl (Ev.bind Eq_1 (Ev.now _))))))))
theorem BlobConfigs : credenzalaw18_BlobConfigs.Pure := by
  intro c0 c1 c2 c3 c4 c5 _ _ _ _ _ _
  refine Ev.rounds ?_
  unfold credenzalaw18_BlobConfigs.f credenzalaw18_config.f
  obtain ⟨b, hb⟩ := cfg_tot c0 c1 c2 c3 c4 c5
  refine Ev.sb ?_
  dsimp only
  rw [cfg_eq, hb]
  refine Ev.sb (Ev.sb (Ev.neg (by simp) ?_))
  cases b with
  | true =>
    obtain ⟨n, h1, h2⟩ := num_eq hb
    obtain ⟨b0, b1, b2, b3, b4, b5, b6, b7, b8, b9, b10, b11⟩ := cfg_t hb
    have m1 : 2 ≤ c1 * c3 := by have := Int.mul_le_mul b2 b6 (by decide) (by omega); omega
    have m2 : c1 * c3 ≤ 64 := by have := Int.mul_le_mul b3 b7 (by omega) (by decide); omega
    have e1 : wrap64 (c1 * c3) = c1 * c3 := w64 (by omega) (by omega)
    rw [h1]
    refine Ev.pos rfl (Ev.sb (Ev.sb (Ev.bind h2 (Ev.pos rfl ?_))))
    unfold blob_Config_Width.f
    exact Ev.sb (Ev.pos rfl (Ev.sb (Ev.pos (by omega) (Ev.bind bawake (Ev.now _)))))
  | false =>
    have h1 : blob_Config_Numbers.f c0 c1 c2 c3 c4 c5 = some 0 := by unfold blob_Config_Numbers.f; rw [cfg_eq, hb]; rfl
    rw [h1]
    exact Ev.neg (by decide) (Ev.sb (Ev.pos rfl (Ev.bind bawake (Ev.now _))))

end Go.Proofs.Ytehepnmagcjkaaa.Pure
