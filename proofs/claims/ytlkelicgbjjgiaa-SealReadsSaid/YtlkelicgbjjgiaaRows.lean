/-
  No cell of these rows narrows 'for every input' (looked for: loops, veiled, ifaces, maps, wideKeys, modest, calm, conditions, laid).
  DERIVED. THE GIVEN ROWS OF THIS SEAT. 10 by the template 'for every input the law returns true; each argument reads behind the call as it read before'; 0 by the template 'total and deterministic' (their statements: YtlkelicgbjjgiaaTotals.lean).
  GIVEN WITH THE SEED: the statements are not yours to turn. If you find one false, say at which input.
  Laid BY PROGRAM, IN A SANDBOX (cutbox-rows.mjs): the forced cells as the released guide's own fill.sh prints them over the translation 0982d1418a68f842… (all of the seat's roots in one cut). By AI agents, Wed Nov 11 2026. No macro, syntax, notation, axiom, sorry.
-/
import Derived.Test.YtlkelicgbjjgiaaChecked
import GoSem.Claim
import GoSem.ClaimJoined
import GoSem.ClaimMapViews
import Derived.JoinedTies
import Derived.KernelRfl
namespace Go.Proofs.Ytlkelicgbjjgiaa
/- THE CELL 'sum', in the pinned program and in every row, IS THE sha256 OF THE DUMP (.gsa) THAT YtlkelicgbjjgiaaProg.lean LOADS. Nothing in Lean hashes anything: it is a label: what it is worth is what the hold of that sum in a sandbox is worth. -/
noncomputable def Try.pinned : Pinned := { name := "ytlkelicgbjjgiaa", sum := "0982d1418a68f842a65965e1bd7c5d5258958ba5d26cecbc34f21f776d33d7e5", checked := Try.checked }
namespace Rows
def none {H : Type} : Left H := { results := [], args := [] }

/-- 'credenzalaw05.PackRound': WHATEVER THE INPUT: true; the input reads as it did. -/
def packRoundSpec : ChangeSpec := { name := "packRound", fn := fun _ => fun
  | [d1, d2] => { results := [.lit (.bool true)], args := [d1, d2] }
  | _ => none }
def packRoundRow : OpenClaim := { program := "ytlkelicgbjjgiaa", sum := "0982d1418a68f842a65965e1bd7c5d5258958ba5d26cecbc34f21f776d33d7e5", func := "credenza/credenzalaw05.PackRound", spec := "packRound", unfollowed := true, recurses := true, apart := false }
def PackRoundSaid : Prop := packRoundRow.holds Try.pinned (OpenSpec.ofChange packRoundSpec)

/-- ITS FALSE NEIGHBOUR: 'it returns false'. Refute it at one input. -/
def packRoundWrong : ChangeSpec := { name := "packRound", fn := fun _ => fun
  | [d1, d2] => { results := [.lit (.bool false)], args := [d1, d2] }
  | _ => none }
def PackRoundWrongFalsely : Prop := packRoundRow.holds Try.pinned (OpenSpec.ofChange packRoundWrong)

/-- 'credenzalaw05.PackBack': WHATEVER THE INPUT: true; the input reads as it did. -/
def packBackSpec : ChangeSpec := { name := "packBack", fn := fun _ => fun
  | [d1, d2, d3] => { results := [.lit (.bool true)], args := [d1, d2, d3] }
  | _ => none }
def packBackRow : OpenClaim := { program := "ytlkelicgbjjgiaa", sum := "0982d1418a68f842a65965e1bd7c5d5258958ba5d26cecbc34f21f776d33d7e5", func := "credenza/credenzalaw05.PackBack", spec := "packBack", unfollowed := true, recurses := true, apart := false }
def PackBackSaid : Prop := packBackRow.holds Try.pinned (OpenSpec.ofChange packBackSpec)

/-- ITS FALSE NEIGHBOUR: 'it returns false'. Refute it at one input. -/
def packBackWrong : ChangeSpec := { name := "packBack", fn := fun _ => fun
  | [d1, d2, d3] => { results := [.lit (.bool false)], args := [d1, d2, d3] }
  | _ => none }
def PackBackWrongFalsely : Prop := packBackRow.holds Try.pinned (OpenSpec.ofChange packBackWrong)

/-- 'credenzalaw05.PackLanes': WHATEVER THE INPUT: true; the input reads as it did. -/
def packLanesSpec : ChangeSpec := { name := "packLanes", fn := fun _ => fun
  | [d1, d2, d3] => { results := [.lit (.bool true)], args := [d1, d2, d3] }
  | _ => none }
def packLanesRow : OpenClaim := { program := "ytlkelicgbjjgiaa", sum := "0982d1418a68f842a65965e1bd7c5d5258958ba5d26cecbc34f21f776d33d7e5", func := "credenza/credenzalaw05.PackLanes", spec := "packLanes", unfollowed := true, recurses := true, apart := false }
def PackLanesSaid : Prop := packLanesRow.holds Try.pinned (OpenSpec.ofChange packLanesSpec)

/-- ITS FALSE NEIGHBOUR: 'it returns false'. Refute it at one input. -/
def packLanesWrong : ChangeSpec := { name := "packLanes", fn := fun _ => fun
  | [d1, d2, d3] => { results := [.lit (.bool false)], args := [d1, d2, d3] }
  | _ => none }
def PackLanesWrongFalsely : Prop := packLanesRow.holds Try.pinned (OpenSpec.ofChange packLanesWrong)

/-- 'credenzalaw05.PackSizes': WHATEVER THE INPUT: true; the input reads as it did. -/
def packSizesSpec : ChangeSpec := { name := "packSizes", fn := fun _ => fun
  | [d1, d2] => { results := [.lit (.bool true)], args := [d1, d2] }
  | _ => none }
def packSizesRow : OpenClaim := { program := "ytlkelicgbjjgiaa", sum := "0982d1418a68f842a65965e1bd7c5d5258958ba5d26cecbc34f21f776d33d7e5", func := "credenza/credenzalaw05.PackSizes", spec := "packSizes", unfollowed := true, recurses := true, apart := false }
def PackSizesSaid : Prop := packSizesRow.holds Try.pinned (OpenSpec.ofChange packSizesSpec)

/-- ITS FALSE NEIGHBOUR: 'it returns false'. Refute it at one input. -/
def packSizesWrong : ChangeSpec := { name := "packSizes", fn := fun _ => fun
  | [d1, d2] => { results := [.lit (.bool false)], args := [d1, d2] }
  | _ => none }
def PackSizesWrongFalsely : Prop := packSizesRow.holds Try.pinned (OpenSpec.ofChange packSizesWrong)

/-- 'credenzalaw05.PackJoins': WHATEVER THE INPUT: true; the input reads as it did. -/
def packJoinsSpec : ChangeSpec := { name := "packJoins", fn := fun _ => fun
  | [d1, d2, d3] => { results := [.lit (.bool true)], args := [d1, d2, d3] }
  | _ => none }
def packJoinsRow : OpenClaim := { program := "ytlkelicgbjjgiaa", sum := "0982d1418a68f842a65965e1bd7c5d5258958ba5d26cecbc34f21f776d33d7e5", func := "credenza/credenzalaw05.PackJoins", spec := "packJoins", unfollowed := true, recurses := true, apart := false }
def PackJoinsSaid : Prop := packJoinsRow.holds Try.pinned (OpenSpec.ofChange packJoinsSpec)

/-- ITS FALSE NEIGHBOUR: 'it returns false'. Refute it at one input. -/
def packJoinsWrong : ChangeSpec := { name := "packJoins", fn := fun _ => fun
  | [d1, d2, d3] => { results := [.lit (.bool false)], args := [d1, d2, d3] }
  | _ => none }
def PackJoinsWrongFalsely : Prop := packJoinsRow.holds Try.pinned (OpenSpec.ofChange packJoinsWrong)

/-- 'credenzalaw06.SealSums': WHATEVER THE INPUT: true; the input reads as it did. -/
def sealSumsSpec : ChangeSpec := { name := "sealSums", fn := fun _ => fun
  | [d] => { results := [.lit (.bool true)], args := [d] }
  | _ => none }
def sealSumsRow : OpenClaim := { program := "ytlkelicgbjjgiaa", sum := "0982d1418a68f842a65965e1bd7c5d5258958ba5d26cecbc34f21f776d33d7e5", func := "credenza/credenzalaw06.SealSums", spec := "sealSums", apart := false }
def SealSumsSaid : Prop := sealSumsRow.holds Try.pinned (OpenSpec.ofChange sealSumsSpec)

/-- ITS FALSE NEIGHBOUR: 'it returns false'. Refute it at one input. -/
def sealSumsWrong : ChangeSpec := { name := "sealSums", fn := fun _ => fun
  | [d] => { results := [.lit (.bool false)], args := [d] }
  | _ => none }
def SealSumsWrongFalsely : Prop := sealSumsRow.holds Try.pinned (OpenSpec.ofChange sealSumsWrong)

/-- 'credenzalaw06.SealOpens': WHATEVER THE INPUT: true; the input reads as it did. -/
def sealOpensSpec : ChangeSpec := { name := "sealOpens", fn := fun _ => fun
  | [d] => { results := [.lit (.bool true)], args := [d] }
  | _ => none }
def sealOpensRow : OpenClaim := { program := "ytlkelicgbjjgiaa", sum := "0982d1418a68f842a65965e1bd7c5d5258958ba5d26cecbc34f21f776d33d7e5", func := "credenza/credenzalaw06.SealOpens", spec := "sealOpens", apart := false }
def SealOpensSaid : Prop := sealOpensRow.holds Try.pinned (OpenSpec.ofChange sealOpensSpec)

/-- ITS FALSE NEIGHBOUR: 'it returns false'. Refute it at one input. -/
def sealOpensWrong : ChangeSpec := { name := "sealOpens", fn := fun _ => fun
  | [d] => { results := [.lit (.bool false)], args := [d] }
  | _ => none }
def SealOpensWrongFalsely : Prop := sealOpensRow.holds Try.pinned (OpenSpec.ofChange sealOpensWrong)

/-- 'credenzalaw06.SealOne': WHATEVER THE INPUT: true; the input reads as it did. -/
def sealOneSpec : ChangeSpec := { name := "sealOne", fn := fun _ => fun
  | [d1, d2, d3] => { results := [.lit (.bool true)], args := [d1, d2, d3] }
  | _ => none }
def sealOneRow : OpenClaim := { program := "ytlkelicgbjjgiaa", sum := "0982d1418a68f842a65965e1bd7c5d5258958ba5d26cecbc34f21f776d33d7e5", func := "credenza/credenzalaw06.SealOne", spec := "sealOne", apart := false }
def SealOneSaid : Prop := sealOneRow.holds Try.pinned (OpenSpec.ofChange sealOneSpec)

/-- ITS FALSE NEIGHBOUR: 'it returns false'. Refute it at one input. -/
def sealOneWrong : ChangeSpec := { name := "sealOne", fn := fun _ => fun
  | [d1, d2, d3] => { results := [.lit (.bool false)], args := [d1, d2, d3] }
  | _ => none }
def SealOneWrongFalsely : Prop := sealOneRow.holds Try.pinned (OpenSpec.ofChange sealOneWrong)

/-- 'credenzalaw06.SealPuts': WHATEVER THE INPUT: true; the input reads as it did. -/
def sealPutsSpec : ChangeSpec := { name := "sealPuts", fn := fun _ => fun
  | [d1, d2, d3] => { results := [.lit (.bool true)], args := [d1, d2, d3] }
  | _ => none }
def sealPutsRow : OpenClaim := { program := "ytlkelicgbjjgiaa", sum := "0982d1418a68f842a65965e1bd7c5d5258958ba5d26cecbc34f21f776d33d7e5", func := "credenza/credenzalaw06.SealPuts", spec := "sealPuts", apart := false }
def SealPutsSaid : Prop := sealPutsRow.holds Try.pinned (OpenSpec.ofChange sealPutsSpec)

/-- ITS FALSE NEIGHBOUR: 'it returns false'. Refute it at one input. -/
def sealPutsWrong : ChangeSpec := { name := "sealPuts", fn := fun _ => fun
  | [d1, d2, d3] => { results := [.lit (.bool false)], args := [d1, d2, d3] }
  | _ => none }
def SealPutsWrongFalsely : Prop := sealPutsRow.holds Try.pinned (OpenSpec.ofChange sealPutsWrong)

/-- 'credenzalaw06.SealReads': WHATEVER THE INPUT: true; the input reads as it did. -/
def sealReadsSpec : ChangeSpec := { name := "sealReads", fn := fun _ => fun
  | [d1, d2] => { results := [.lit (.bool true)], args := [d1, d2] }
  | _ => none }
def sealReadsRow : OpenClaim := { program := "ytlkelicgbjjgiaa", sum := "0982d1418a68f842a65965e1bd7c5d5258958ba5d26cecbc34f21f776d33d7e5", func := "credenza/credenzalaw06.SealReads", spec := "sealReads", apart := false }
def SealReadsSaid : Prop := sealReadsRow.holds Try.pinned (OpenSpec.ofChange sealReadsSpec)

/-- ITS FALSE NEIGHBOUR: 'it returns false'. Refute it at one input. -/
def sealReadsWrong : ChangeSpec := { name := "sealReads", fn := fun _ => fun
  | [d1, d2] => { results := [.lit (.bool false)], args := [d1, d2] }
  | _ => none }
def SealReadsWrongFalsely : Prop := sealReadsRow.holds Try.pinned (OpenSpec.ofChange sealReadsWrong)

/- THE SECOND FORM. 'bulk': how many values and letters a reading holds, each counted each time it is reached (what is shared counts as often as it is met; a slice's spare places count too). A statement '..UptoSaid' is the law's where the arguments, and the package variables that the reading takes, are together of bulk at most 1048576: NARROWER than '..Said'. Prove '..Said' where nothing that the law and all that it calls make is longer than what came in: it says more and counts as full. Else prove '..UptoSaid'. A law counts once. -/
mutual
def uptoBulk {H : Type} : DataW H → Nat
  | .lit (.string bytes) => bytes.length + 1
  | .lit _ => 1
  | .nil => 1
  | .ptr d => uptoBulk d + 1
  | .slice elems spare => uptoBulkAll elems + uptoBulkAll spare + 1
  | .agg parts => uptoBulkAll parts + 1
  | .iface _ d => uptoBulk d + 1
  | .map entries => uptoBulkEntries entries + 1
  | .held _ => 1
def uptoBulkAll {H : Type} : List (DataW H) → Nat
  | [] => 0
  | d :: r => uptoBulk d + uptoBulkAll r
def uptoBulkEntries {H : Type} : List (Lit × DataW H) → Nat
  | [] => 0
  | x :: r => uptoBulkEntry x + uptoBulkEntries r
def uptoBulkEntry {H : Type} : Lit × DataW H → Nat
  | (.string bytes, d) => bytes.length + uptoBulk d + 1
  | (_, d) => uptoBulk d + 1
 end
def uptoSmall : (H : Type) → List (DataW H) → Bool := fun _ ds => decide (uptoBulkAll ds ≤ 1048576)
def OpenSpec.upto (s : _root_.Go.ChangeSpec) : _root_.Go.OpenSpec := { _root_.Go.OpenSpec.ofChange s with cond := some uptoSmall }

/-- 'credenzalaw05.PackRound', WHERE WHAT IT READS IS OF BULK AT MOST 1048576: true; the input reads as it did. -/
def packRoundUptoRow : OpenClaim := { program := "ytlkelicgbjjgiaa", sum := "0982d1418a68f842a65965e1bd7c5d5258958ba5d26cecbc34f21f776d33d7e5", func := "credenza/credenzalaw05.PackRound", spec := "packRound", unfollowed := true, recurses := true, apart := false, narrowed := true }
def PackRoundUptoSaid : Prop := packRoundUptoRow.holds Try.pinned (OpenSpec.upto packRoundSpec)

/-- 'credenzalaw05.PackBack', WHERE WHAT IT READS IS OF BULK AT MOST 1048576: true; the input reads as it did. -/
def packBackUptoRow : OpenClaim := { program := "ytlkelicgbjjgiaa", sum := "0982d1418a68f842a65965e1bd7c5d5258958ba5d26cecbc34f21f776d33d7e5", func := "credenza/credenzalaw05.PackBack", spec := "packBack", unfollowed := true, recurses := true, apart := false, narrowed := true }
def PackBackUptoSaid : Prop := packBackUptoRow.holds Try.pinned (OpenSpec.upto packBackSpec)

/-- 'credenzalaw05.PackLanes', WHERE WHAT IT READS IS OF BULK AT MOST 1048576: true; the input reads as it did. -/
def packLanesUptoRow : OpenClaim := { program := "ytlkelicgbjjgiaa", sum := "0982d1418a68f842a65965e1bd7c5d5258958ba5d26cecbc34f21f776d33d7e5", func := "credenza/credenzalaw05.PackLanes", spec := "packLanes", unfollowed := true, recurses := true, apart := false, narrowed := true }
def PackLanesUptoSaid : Prop := packLanesUptoRow.holds Try.pinned (OpenSpec.upto packLanesSpec)

/-- 'credenzalaw05.PackSizes', WHERE WHAT IT READS IS OF BULK AT MOST 1048576: true; the input reads as it did. -/
def packSizesUptoRow : OpenClaim := { program := "ytlkelicgbjjgiaa", sum := "0982d1418a68f842a65965e1bd7c5d5258958ba5d26cecbc34f21f776d33d7e5", func := "credenza/credenzalaw05.PackSizes", spec := "packSizes", unfollowed := true, recurses := true, apart := false, narrowed := true }
def PackSizesUptoSaid : Prop := packSizesUptoRow.holds Try.pinned (OpenSpec.upto packSizesSpec)

/-- 'credenzalaw05.PackJoins', WHERE WHAT IT READS IS OF BULK AT MOST 1048576: true; the input reads as it did. -/
def packJoinsUptoRow : OpenClaim := { program := "ytlkelicgbjjgiaa", sum := "0982d1418a68f842a65965e1bd7c5d5258958ba5d26cecbc34f21f776d33d7e5", func := "credenza/credenzalaw05.PackJoins", spec := "packJoins", unfollowed := true, recurses := true, apart := false, narrowed := true }
def PackJoinsUptoSaid : Prop := packJoinsUptoRow.holds Try.pinned (OpenSpec.upto packJoinsSpec)

/-- 'credenzalaw06.SealSums', WHERE WHAT IT READS IS OF BULK AT MOST 1048576: true; the input reads as it did. -/
def sealSumsUptoRow : OpenClaim := { program := "ytlkelicgbjjgiaa", sum := "0982d1418a68f842a65965e1bd7c5d5258958ba5d26cecbc34f21f776d33d7e5", func := "credenza/credenzalaw06.SealSums", spec := "sealSums", apart := false, narrowed := true }
def SealSumsUptoSaid : Prop := sealSumsUptoRow.holds Try.pinned (OpenSpec.upto sealSumsSpec)

/-- 'credenzalaw06.SealOpens', WHERE WHAT IT READS IS OF BULK AT MOST 1048576: true; the input reads as it did. -/
def sealOpensUptoRow : OpenClaim := { program := "ytlkelicgbjjgiaa", sum := "0982d1418a68f842a65965e1bd7c5d5258958ba5d26cecbc34f21f776d33d7e5", func := "credenza/credenzalaw06.SealOpens", spec := "sealOpens", apart := false, narrowed := true }
def SealOpensUptoSaid : Prop := sealOpensUptoRow.holds Try.pinned (OpenSpec.upto sealOpensSpec)

/-- 'credenzalaw06.SealOne', WHERE WHAT IT READS IS OF BULK AT MOST 1048576: true; the input reads as it did. -/
def sealOneUptoRow : OpenClaim := { program := "ytlkelicgbjjgiaa", sum := "0982d1418a68f842a65965e1bd7c5d5258958ba5d26cecbc34f21f776d33d7e5", func := "credenza/credenzalaw06.SealOne", spec := "sealOne", apart := false, narrowed := true }
def SealOneUptoSaid : Prop := sealOneUptoRow.holds Try.pinned (OpenSpec.upto sealOneSpec)

/-- 'credenzalaw06.SealPuts', WHERE WHAT IT READS IS OF BULK AT MOST 1048576: true; the input reads as it did. -/
def sealPutsUptoRow : OpenClaim := { program := "ytlkelicgbjjgiaa", sum := "0982d1418a68f842a65965e1bd7c5d5258958ba5d26cecbc34f21f776d33d7e5", func := "credenza/credenzalaw06.SealPuts", spec := "sealPuts", apart := false, narrowed := true }
def SealPutsUptoSaid : Prop := sealPutsUptoRow.holds Try.pinned (OpenSpec.upto sealPutsSpec)

/-- 'credenzalaw06.SealReads', WHERE WHAT IT READS IS OF BULK AT MOST 1048576: true; the input reads as it did. -/
def sealReadsUptoRow : OpenClaim := { program := "ytlkelicgbjjgiaa", sum := "0982d1418a68f842a65965e1bd7c5d5258958ba5d26cecbc34f21f776d33d7e5", func := "credenza/credenzalaw06.SealReads", spec := "sealReads", apart := false, narrowed := true }
def SealReadsUptoSaid : Prop := sealReadsUptoRow.holds Try.pinned (OpenSpec.upto sealReadsSpec)

end Rows
end Go.Proofs.Ytlkelicgbjjgiaa
