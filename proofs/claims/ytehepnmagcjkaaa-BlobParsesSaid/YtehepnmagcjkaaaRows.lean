/-
  No cell of these rows narrows 'for every input' (looked for: loops, veiled, ifaces, maps, wideKeys, modest, calm, conditions, laid).
  DERIVED. THE GIVEN ROWS OF THIS SEAT. 9 by the template 'for every input the law returns true; each argument reads behind the call as it read before'; 0 by the template 'total and deterministic' (their statements: YtehepnmagcjkaaaTotals.lean).
  GIVEN WITH THE SEED: the statements are not yours to turn. If you find one false, say at which input.
  Laid BY PROGRAM, IN A SANDBOX (cutbox-rows.mjs): the forced cells as the released guide's own fill.sh prints them over the translation d956a6a4be2f738f… (all of the seat's roots in one cut). By AI agents, Wed Nov 11 2026. No macro, syntax, notation, axiom, sorry.
-/
import Derived.Test.YtehepnmagcjkaaaChecked
import GoSem.Claim
import GoSem.ClaimJoined
import GoSem.ClaimMapViews
import Derived.JoinedTies
import Derived.KernelRfl
namespace Go.Proofs.Ytehepnmagcjkaaa
/- THE CELL 'sum', in the pinned program and in every row, IS THE sha256 OF THE DUMP (.gsa) THAT YtehepnmagcjkaaaProg.lean LOADS. Nothing in Lean hashes anything: it is a label: what it is worth is what the hold of that sum in a sandbox is worth. -/
noncomputable def Try.pinned : Pinned := { name := "ytehepnmagcjkaaa", sum := "d956a6a4be2f738f3953452713bda40f24efb9ac410021f7bcb233e23a02a6eb", checked := Try.checked }
namespace Rows
def none {H : Type} : Left H := { results := [], args := [] }

/-- 'credenzalaw22.AskBytes': WHATEVER THE INPUT: true; the input reads as it did. -/
def askBytesSpec : ChangeSpec := { name := "askBytes", fn := fun _ => fun
  | [d] => { results := [.lit (.bool true)], args := [d] }
  | _ => none }
def askBytesRow : OpenClaim := { program := "ytehepnmagcjkaaa", sum := "d956a6a4be2f738f3953452713bda40f24efb9ac410021f7bcb233e23a02a6eb", func := "credenza/credenzalaw22.AskBytes", spec := "askBytes", unfollowed := true, recurses := true, apart := false }
def AskBytesSaid : Prop := askBytesRow.holds Try.pinned (OpenSpec.ofChange askBytesSpec)

/-- ITS FALSE NEIGHBOUR: 'it returns false'. Refute it at one input. -/
def askBytesWrong : ChangeSpec := { name := "askBytes", fn := fun _ => fun
  | [d] => { results := [.lit (.bool false)], args := [d] }
  | _ => none }
def AskBytesWrongFalsely : Prop := askBytesRow.holds Try.pinned (OpenSpec.ofChange askBytesWrong)

/-- 'credenzalaw22.AskParses': WHATEVER THE INPUT: true; the input reads as it did. -/
def askParsesSpec : ChangeSpec := { name := "askParses", fn := fun _ => fun
  | [d] => { results := [.lit (.bool true)], args := [d] }
  | _ => none }
def askParsesRow : OpenClaim := { program := "ytehepnmagcjkaaa", sum := "d956a6a4be2f738f3953452713bda40f24efb9ac410021f7bcb233e23a02a6eb", func := "credenza/credenzalaw22.AskParses", spec := "askParses", unfollowed := true, recurses := true, apart := false }
def AskParsesSaid : Prop := askParsesRow.holds Try.pinned (OpenSpec.ofChange askParsesSpec)

/-- ITS FALSE NEIGHBOUR: 'it returns false'. Refute it at one input. -/
def askParsesWrong : ChangeSpec := { name := "askParses", fn := fun _ => fun
  | [d] => { results := [.lit (.bool false)], args := [d] }
  | _ => none }
def AskParsesWrongFalsely : Prop := askParsesRow.holds Try.pinned (OpenSpec.ofChange askParsesWrong)

/-- 'credenzalaw22.AskEquals': WHATEVER THE INPUT: true; the input reads as it did. -/
def askEqualsSpec : ChangeSpec := { name := "askEquals", fn := fun _ => fun
  | [d1, d2] => { results := [.lit (.bool true)], args := [d1, d2] }
  | _ => none }
def askEqualsRow : OpenClaim := { program := "ytehepnmagcjkaaa", sum := "d956a6a4be2f738f3953452713bda40f24efb9ac410021f7bcb233e23a02a6eb", func := "credenza/credenzalaw22.AskEquals", spec := "askEquals", unfollowed := true, recurses := true, apart := false }
def AskEqualsSaid : Prop := askEqualsRow.holds Try.pinned (OpenSpec.ofChange askEqualsSpec)

/-- ITS FALSE NEIGHBOUR: 'it returns false'. Refute it at one input. -/
def askEqualsWrong : ChangeSpec := { name := "askEquals", fn := fun _ => fun
  | [d1, d2] => { results := [.lit (.bool false)], args := [d1, d2] }
  | _ => none }
def AskEqualsWrongFalsely : Prop := askEqualsRow.holds Try.pinned (OpenSpec.ofChange askEqualsWrong)

/-- 'credenzalaw22.AskCuts': WHATEVER THE INPUT: true; the input reads as it did. -/
def askCutsSpec : ChangeSpec := { name := "askCuts", fn := fun _ => fun
  | [d1, d2, d3] => { results := [.lit (.bool true)], args := [d1, d2, d3] }
  | _ => none }
def askCutsRow : OpenClaim := { program := "ytehepnmagcjkaaa", sum := "d956a6a4be2f738f3953452713bda40f24efb9ac410021f7bcb233e23a02a6eb", func := "credenza/credenzalaw22.AskCuts", spec := "askCuts", unfollowed := true, recurses := true, apart := false }
def AskCutsSaid : Prop := askCutsRow.holds Try.pinned (OpenSpec.ofChange askCutsSpec)

/-- ITS FALSE NEIGHBOUR: 'it returns false'. Refute it at one input. -/
def askCutsWrong : ChangeSpec := { name := "askCuts", fn := fun _ => fun
  | [d1, d2, d3] => { results := [.lit (.bool false)], args := [d1, d2, d3] }
  | _ => none }
def AskCutsWrongFalsely : Prop := askCutsRow.holds Try.pinned (OpenSpec.ofChange askCutsWrong)

/-- 'credenzalaw18.BlobConfigs': WHATEVER THE INPUT: true; the input reads as it did. -/
def blobConfigsSpec : ChangeSpec := { name := "blobConfigs", fn := fun _ => fun
  | [d] => { results := [.lit (.bool true)], args := [d] }
  | _ => none }
def blobConfigsRow : OpenClaim := { program := "ytehepnmagcjkaaa", sum := "d956a6a4be2f738f3953452713bda40f24efb9ac410021f7bcb233e23a02a6eb", func := "credenza/credenzalaw18.BlobConfigs", spec := "blobConfigs", unfollowed := true, recurses := true, apart := false }
def BlobConfigsSaid : Prop := blobConfigsRow.holds Try.pinned (OpenSpec.ofChange blobConfigsSpec)

/-- ITS FALSE NEIGHBOUR: 'it returns false'. Refute it at one input. -/
def blobConfigsWrong : ChangeSpec := { name := "blobConfigs", fn := fun _ => fun
  | [d] => { results := [.lit (.bool false)], args := [d] }
  | _ => none }
def BlobConfigsWrongFalsely : Prop := blobConfigsRow.holds Try.pinned (OpenSpec.ofChange blobConfigsWrong)

/-- 'credenzalaw18.BlobBytes': WHATEVER THE INPUT: true; the input reads as it did. -/
def blobBytesSpec : ChangeSpec := { name := "blobBytes", fn := fun _ => fun
  | [d] => { results := [.lit (.bool true)], args := [d] }
  | _ => none }
def blobBytesRow : OpenClaim := { program := "ytehepnmagcjkaaa", sum := "d956a6a4be2f738f3953452713bda40f24efb9ac410021f7bcb233e23a02a6eb", func := "credenza/credenzalaw18.BlobBytes", spec := "blobBytes", unfollowed := true, recurses := true, apart := false }
def BlobBytesSaid : Prop := blobBytesRow.holds Try.pinned (OpenSpec.ofChange blobBytesSpec)

/-- ITS FALSE NEIGHBOUR: 'it returns false'. Refute it at one input. -/
def blobBytesWrong : ChangeSpec := { name := "blobBytes", fn := fun _ => fun
  | [d] => { results := [.lit (.bool false)], args := [d] }
  | _ => none }
def BlobBytesWrongFalsely : Prop := blobBytesRow.holds Try.pinned (OpenSpec.ofChange blobBytesWrong)

/-- 'credenzalaw18.BlobParses': WHATEVER THE INPUT: true; the input reads as it did. -/
def blobParsesSpec : ChangeSpec := { name := "blobParses", fn := fun _ => fun
  | [d] => { results := [.lit (.bool true)], args := [d] }
  | _ => none }
def blobParsesRow : OpenClaim := { program := "ytehepnmagcjkaaa", sum := "d956a6a4be2f738f3953452713bda40f24efb9ac410021f7bcb233e23a02a6eb", func := "credenza/credenzalaw18.BlobParses", spec := "blobParses", unfollowed := true, recurses := true, apart := false }
def BlobParsesSaid : Prop := blobParsesRow.holds Try.pinned (OpenSpec.ofChange blobParsesSpec)

/-- ITS FALSE NEIGHBOUR: 'it returns false'. Refute it at one input. -/
def blobParsesWrong : ChangeSpec := { name := "blobParses", fn := fun _ => fun
  | [d] => { results := [.lit (.bool false)], args := [d] }
  | _ => none }
def BlobParsesWrongFalsely : Prop := blobParsesRow.holds Try.pinned (OpenSpec.ofChange blobParsesWrong)

/-- 'credenzalaw18.BlobEquals': WHATEVER THE INPUT: true; the input reads as it did. -/
def blobEqualsSpec : ChangeSpec := { name := "blobEquals", fn := fun _ => fun
  | [d1, d2] => { results := [.lit (.bool true)], args := [d1, d2] }
  | _ => none }
def blobEqualsRow : OpenClaim := { program := "ytehepnmagcjkaaa", sum := "d956a6a4be2f738f3953452713bda40f24efb9ac410021f7bcb233e23a02a6eb", func := "credenza/credenzalaw18.BlobEquals", spec := "blobEquals", unfollowed := true, recurses := true, apart := false }
def BlobEqualsSaid : Prop := blobEqualsRow.holds Try.pinned (OpenSpec.ofChange blobEqualsSpec)

/-- ITS FALSE NEIGHBOUR: 'it returns false'. Refute it at one input. -/
def blobEqualsWrong : ChangeSpec := { name := "blobEquals", fn := fun _ => fun
  | [d1, d2] => { results := [.lit (.bool false)], args := [d1, d2] }
  | _ => none }
def BlobEqualsWrongFalsely : Prop := blobEqualsRow.holds Try.pinned (OpenSpec.ofChange blobEqualsWrong)

/-- 'credenzalaw18.BlobSpoilt': WHATEVER THE INPUT: true; the input reads as it did. -/
def blobSpoiltSpec : ChangeSpec := { name := "blobSpoilt", fn := fun _ => fun
  | [d1, d2, d3] => { results := [.lit (.bool true)], args := [d1, d2, d3] }
  | _ => none }
def blobSpoiltRow : OpenClaim := { program := "ytehepnmagcjkaaa", sum := "d956a6a4be2f738f3953452713bda40f24efb9ac410021f7bcb233e23a02a6eb", func := "credenza/credenzalaw18.BlobSpoilt", spec := "blobSpoilt", unfollowed := true, recurses := true, apart := false }
def BlobSpoiltSaid : Prop := blobSpoiltRow.holds Try.pinned (OpenSpec.ofChange blobSpoiltSpec)

/-- ITS FALSE NEIGHBOUR: 'it returns false'. Refute it at one input. -/
def blobSpoiltWrong : ChangeSpec := { name := "blobSpoilt", fn := fun _ => fun
  | [d1, d2, d3] => { results := [.lit (.bool false)], args := [d1, d2, d3] }
  | _ => none }
def BlobSpoiltWrongFalsely : Prop := blobSpoiltRow.holds Try.pinned (OpenSpec.ofChange blobSpoiltWrong)

/- THE SECOND FORM. 'bulk': how many values and letters a reading holds, each counted each time it is reached (what is shared counts as often as it is met; a slice's spare places count too). A statement '..UptoSaid' is the law's where the arguments, and the package variables that the reading takes, are together of bulk at most 1048576: NARROWER than '..Said'. Prove '..Said' where nothing that the law and all that it calls make is longer than what came in: it says more and counts as full. Else prove '..UptoSaid'. A law counts once. -/
mutual
def uptoBulk {H : Type} : DataW H → Nat
  | .lit (.string bytes) => bytes.length + 1
  | .lit _ => 1
  | .nil => 1
  | .ptr d => uptoBulk d + 1
  | .slice elems spare => uptoBulkAll elems + uptoBulkAll spare + 1
  | .agg parts => uptoBulkAll parts + 1
  | .iface _ d => uptoBulk d + 1
  | .map entries => uptoBulkEntries entries + 1
  | .held _ => 1
def uptoBulkAll {H : Type} : List (DataW H) → Nat
  | [] => 0
  | d :: r => uptoBulk d + uptoBulkAll r
def uptoBulkEntries {H : Type} : List (Lit × DataW H) → Nat
  | [] => 0
  | x :: r => uptoBulkEntry x + uptoBulkEntries r
def uptoBulkEntry {H : Type} : Lit × DataW H → Nat
  | (.string bytes, d) => bytes.length + uptoBulk d + 1
  | (_, d) => uptoBulk d + 1
 end
def uptoSmall : (H : Type) → List (DataW H) → Bool := fun _ ds => decide (uptoBulkAll ds ≤ 1048576)
def OpenSpec.upto (s : _root_.Go.ChangeSpec) : _root_.Go.OpenSpec := { _root_.Go.OpenSpec.ofChange s with cond := some uptoSmall }

/-- 'credenzalaw22.AskBytes', WHERE WHAT IT READS IS OF BULK AT MOST 1048576: true; the input reads as it did. -/
def askBytesUptoRow : OpenClaim := { program := "ytehepnmagcjkaaa", sum := "d956a6a4be2f738f3953452713bda40f24efb9ac410021f7bcb233e23a02a6eb", func := "credenza/credenzalaw22.AskBytes", spec := "askBytes", unfollowed := true, recurses := true, apart := false, narrowed := true }
def AskBytesUptoSaid : Prop := askBytesUptoRow.holds Try.pinned (OpenSpec.upto askBytesSpec)

/-- 'credenzalaw22.AskParses', WHERE WHAT IT READS IS OF BULK AT MOST 1048576: true; the input reads as it did. -/
def askParsesUptoRow : OpenClaim := { program := "ytehepnmagcjkaaa", sum := "d956a6a4be2f738f3953452713bda40f24efb9ac410021f7bcb233e23a02a6eb", func := "credenza/credenzalaw22.AskParses", spec := "askParses", unfollowed := true, recurses := true, apart := false, narrowed := true }
def AskParsesUptoSaid : Prop := askParsesUptoRow.holds Try.pinned (OpenSpec.upto askParsesSpec)

/-- 'credenzalaw22.AskEquals', WHERE WHAT IT READS IS OF BULK AT MOST 1048576: true; the input reads as it did. -/
def askEqualsUptoRow : OpenClaim := { program := "ytehepnmagcjkaaa", sum := "d956a6a4be2f738f3953452713bda40f24efb9ac410021f7bcb233e23a02a6eb", func := "credenza/credenzalaw22.AskEquals", spec := "askEquals", unfollowed := true, recurses := true, apart := false, narrowed := true }
def AskEqualsUptoSaid : Prop := askEqualsUptoRow.holds Try.pinned (OpenSpec.upto askEqualsSpec)

/-- 'credenzalaw22.AskCuts', WHERE WHAT IT READS IS OF BULK AT MOST 1048576: true; the input reads as it did. -/
def askCutsUptoRow : OpenClaim := { program := "ytehepnmagcjkaaa", sum := "d956a6a4be2f738f3953452713bda40f24efb9ac410021f7bcb233e23a02a6eb", func := "credenza/credenzalaw22.AskCuts", spec := "askCuts", unfollowed := true, recurses := true, apart := false, narrowed := true }
def AskCutsUptoSaid : Prop := askCutsUptoRow.holds Try.pinned (OpenSpec.upto askCutsSpec)

/-- 'credenzalaw18.BlobConfigs', WHERE WHAT IT READS IS OF BULK AT MOST 1048576: true; the input reads as it did. -/
def blobConfigsUptoRow : OpenClaim := { program := "ytehepnmagcjkaaa", sum := "d956a6a4be2f738f3953452713bda40f24efb9ac410021f7bcb233e23a02a6eb", func := "credenza/credenzalaw18.BlobConfigs", spec := "blobConfigs", unfollowed := true, recurses := true, apart := false, narrowed := true }
def BlobConfigsUptoSaid : Prop := blobConfigsUptoRow.holds Try.pinned (OpenSpec.upto blobConfigsSpec)

/-- 'credenzalaw18.BlobBytes', WHERE WHAT IT READS IS OF BULK AT MOST 1048576: true; the input reads as it did. -/
def blobBytesUptoRow : OpenClaim := { program := "ytehepnmagcjkaaa", sum := "d956a6a4be2f738f3953452713bda40f24efb9ac410021f7bcb233e23a02a6eb", func := "credenza/credenzalaw18.BlobBytes", spec := "blobBytes", unfollowed := true, recurses := true, apart := false, narrowed := true }
def BlobBytesUptoSaid : Prop := blobBytesUptoRow.holds Try.pinned (OpenSpec.upto blobBytesSpec)

/-- 'credenzalaw18.BlobParses', WHERE WHAT IT READS IS OF BULK AT MOST 1048576: true; the input reads as it did. -/
def blobParsesUptoRow : OpenClaim := { program := "ytehepnmagcjkaaa", sum := "d956a6a4be2f738f3953452713bda40f24efb9ac410021f7bcb233e23a02a6eb", func := "credenza/credenzalaw18.BlobParses", spec := "blobParses", unfollowed := true, recurses := true, apart := false, narrowed := true }
def BlobParsesUptoSaid : Prop := blobParsesUptoRow.holds Try.pinned (OpenSpec.upto blobParsesSpec)

/-- 'credenzalaw18.BlobEquals', WHERE WHAT IT READS IS OF BULK AT MOST 1048576: true; the input reads as it did. -/
def blobEqualsUptoRow : OpenClaim := { program := "ytehepnmagcjkaaa", sum := "d956a6a4be2f738f3953452713bda40f24efb9ac410021f7bcb233e23a02a6eb", func := "credenza/credenzalaw18.BlobEquals", spec := "blobEquals", unfollowed := true, recurses := true, apart := false, narrowed := true }
def BlobEqualsUptoSaid : Prop := blobEqualsUptoRow.holds Try.pinned (OpenSpec.upto blobEqualsSpec)

/-- 'credenzalaw18.BlobSpoilt', WHERE WHAT IT READS IS OF BULK AT MOST 1048576: true; the input reads as it did. -/
def blobSpoiltUptoRow : OpenClaim := { program := "ytehepnmagcjkaaa", sum := "d956a6a4be2f738f3953452713bda40f24efb9ac410021f7bcb233e23a02a6eb", func := "credenza/credenzalaw18.BlobSpoilt", spec := "blobSpoilt", unfollowed := true, recurses := true, apart := false, narrowed := true }
def BlobSpoiltUptoSaid : Prop := blobSpoiltUptoRow.holds Try.pinned (OpenSpec.upto blobSpoiltSpec)

end Rows
end Go.Proofs.Ytehepnmagcjkaaa
