/-
  No cell of these rows narrows 'for every input' (looked for: loops, veiled, ifaces, maps, wideKeys, modest, calm, conditions, laid).
  DERIVED. THE GIVEN ROWS OF THIS SEAT. 6 by the template 'for every input the law returns true; each argument reads behind the call as it read before'; 0 by the template 'total and deterministic' (their statements: YtekenaclmplocaaTotals.lean).
  GIVEN WITH THE SEED: the statements are not yours to turn. If you find one false, say at which input.
  Laid BY PROGRAM, IN A SANDBOX (cutbox-rows.mjs): the forced cells as the released guide's own fill.sh prints them over the translation 86aca54e0be5b069… (all of the seat's roots in one cut). By AI agents, Wed Nov 11 2026. No macro, syntax, notation, axiom, sorry.
-/
import Derived.Test.YtekenaclmplocaaChecked
import GoSem.Claim
import GoSem.ClaimJoined
import GoSem.ClaimMapViews
import Derived.JoinedTies
import Derived.KernelRfl
namespace Go.Proofs.Ytekenaclmplocaa
/- THE CELL 'sum', in the pinned program and in every row, IS THE sha256 OF THE DUMP (.gsa) THAT YtekenaclmplocaaProg.lean LOADS. Nothing in Lean hashes anything: it is a label: what it is worth is what the hold of that sum in a sandbox is worth. -/
noncomputable def Try.pinned : Pinned := { name := "ytekenaclmplocaa", sum := "86aca54e0be5b069a6980a47f46dec4df64f10d4315ce3943b8b6bf6ee812721", checked := Try.checked }
namespace Rows
def none {H : Type} : Left H := { results := [], args := [] }

/-- 'credenzalaw08.PageSpoilt': WHATEVER THE INPUT: true; the input reads as it did. -/
def pageSpoiltSpec : ChangeSpec := { name := "pageSpoilt", fn := fun _ => fun
  | [d1, d2, d3] => { results := [.lit (.bool true)], args := [d1, d2, d3] }
  | _ => none }
def pageSpoiltRow : OpenClaim := { program := "ytekenaclmplocaa", sum := "86aca54e0be5b069a6980a47f46dec4df64f10d4315ce3943b8b6bf6ee812721", func := "credenza/credenzalaw08.PageSpoilt", spec := "pageSpoilt", unfollowed := true, recurses := true, apart := false }
def PageSpoiltSaid : Prop := pageSpoiltRow.holds Try.pinned (OpenSpec.ofChange pageSpoiltSpec)

/-- ITS FALSE NEIGHBOUR: 'it returns false'. Refute it at one input. -/
def pageSpoiltWrong : ChangeSpec := { name := "pageSpoilt", fn := fun _ => fun
  | [d1, d2, d3] => { results := [.lit (.bool false)], args := [d1, d2, d3] }
  | _ => none }
def PageSpoiltWrongFalsely : Prop := pageSpoiltRow.holds Try.pinned (OpenSpec.ofChange pageSpoiltWrong)

/-- 'credenzalaw08.PageNear': WHATEVER THE INPUT: true; the input reads as it did. -/
def pageNearSpec : ChangeSpec := { name := "pageNear", fn := fun _ => fun
  | [d] => { results := [.lit (.bool true)], args := [d] }
  | _ => none }
def pageNearRow : OpenClaim := { program := "ytekenaclmplocaa", sum := "86aca54e0be5b069a6980a47f46dec4df64f10d4315ce3943b8b6bf6ee812721", func := "credenza/credenzalaw08.PageNear", spec := "pageNear", unfollowed := true, recurses := true, apart := false }
def PageNearSaid : Prop := pageNearRow.holds Try.pinned (OpenSpec.ofChange pageNearSpec)

/-- ITS FALSE NEIGHBOUR: 'it returns false'. Refute it at one input. -/
def pageNearWrong : ChangeSpec := { name := "pageNear", fn := fun _ => fun
  | [d] => { results := [.lit (.bool false)], args := [d] }
  | _ => none }
def PageNearWrongFalsely : Prop := pageNearRow.holds Try.pinned (OpenSpec.ofChange pageNearWrong)

/-- 'credenzalaw08.PageNew': WHATEVER THE INPUT: true; the input reads as it did. -/
def pageNewSpec : ChangeSpec := { name := "pageNew", fn := fun _ => fun
  | [d] => { results := [.lit (.bool true)], args := [d] }
  | _ => none }
def pageNewRow : OpenClaim := { program := "ytekenaclmplocaa", sum := "86aca54e0be5b069a6980a47f46dec4df64f10d4315ce3943b8b6bf6ee812721", func := "credenza/credenzalaw08.PageNew", spec := "pageNew", unfollowed := true, recurses := true, apart := false }
def PageNewSaid : Prop := pageNewRow.holds Try.pinned (OpenSpec.ofChange pageNewSpec)

/-- ITS FALSE NEIGHBOUR: 'it returns false'. Refute it at one input. -/
def pageNewWrong : ChangeSpec := { name := "pageNew", fn := fun _ => fun
  | [d] => { results := [.lit (.bool false)], args := [d] }
  | _ => none }
def PageNewWrongFalsely : Prop := pageNewRow.holds Try.pinned (OpenSpec.ofChange pageNewWrong)

/-- 'credenzalaw08.PageParses': WHATEVER THE INPUT: true; the input reads as it did. -/
def pageParsesSpec : ChangeSpec := { name := "pageParses", fn := fun _ => fun
  | [d] => { results := [.lit (.bool true)], args := [d] }
  | _ => none }
def pageParsesRow : OpenClaim := { program := "ytekenaclmplocaa", sum := "86aca54e0be5b069a6980a47f46dec4df64f10d4315ce3943b8b6bf6ee812721", func := "credenza/credenzalaw08.PageParses", spec := "pageParses", unfollowed := true, recurses := true, apart := false }
def PageParsesSaid : Prop := pageParsesRow.holds Try.pinned (OpenSpec.ofChange pageParsesSpec)

/-- ITS FALSE NEIGHBOUR: 'it returns false'. Refute it at one input. -/
def pageParsesWrong : ChangeSpec := { name := "pageParses", fn := fun _ => fun
  | [d] => { results := [.lit (.bool false)], args := [d] }
  | _ => none }
def PageParsesWrongFalsely : Prop := pageParsesRow.holds Try.pinned (OpenSpec.ofChange pageParsesWrong)

/-- 'credenzalaw08.PageQuantizes': WHATEVER THE INPUT: true; the input reads as it did. -/
def pageQuantizesSpec : ChangeSpec := { name := "pageQuantizes", fn := fun _ => fun
  | [d] => { results := [.lit (.bool true)], args := [d] }
  | _ => none }
def pageQuantizesRow : OpenClaim := { program := "ytekenaclmplocaa", sum := "86aca54e0be5b069a6980a47f46dec4df64f10d4315ce3943b8b6bf6ee812721", func := "credenza/credenzalaw08.PageQuantizes", spec := "pageQuantizes", unfollowed := true, recurses := true, apart := false }
def PageQuantizesSaid : Prop := pageQuantizesRow.holds Try.pinned (OpenSpec.ofChange pageQuantizesSpec)

/-- ITS FALSE NEIGHBOUR: 'it returns false'. Refute it at one input. -/
def pageQuantizesWrong : ChangeSpec := { name := "pageQuantizes", fn := fun _ => fun
  | [d] => { results := [.lit (.bool false)], args := [d] }
  | _ => none }
def PageQuantizesWrongFalsely : Prop := pageQuantizesRow.holds Try.pinned (OpenSpec.ofChange pageQuantizesWrong)

/-- 'credenzalaw08.PagePlaces': WHATEVER THE INPUT: true; the input reads as it did. -/
def pagePlacesSpec : ChangeSpec := { name := "pagePlaces", fn := fun _ => fun
  | [d1, d2, d3] => { results := [.lit (.bool true)], args := [d1, d2, d3] }
  | _ => none }
def pagePlacesRow : OpenClaim := { program := "ytekenaclmplocaa", sum := "86aca54e0be5b069a6980a47f46dec4df64f10d4315ce3943b8b6bf6ee812721", func := "credenza/credenzalaw08.PagePlaces", spec := "pagePlaces", unfollowed := true, recurses := true, apart := false }
def PagePlacesSaid : Prop := pagePlacesRow.holds Try.pinned (OpenSpec.ofChange pagePlacesSpec)

/-- ITS FALSE NEIGHBOUR: 'it returns false'. Refute it at one input. -/
def pagePlacesWrong : ChangeSpec := { name := "pagePlaces", fn := fun _ => fun
  | [d1, d2, d3] => { results := [.lit (.bool false)], args := [d1, d2, d3] }
  | _ => none }
def PagePlacesWrongFalsely : Prop := pagePlacesRow.holds Try.pinned (OpenSpec.ofChange pagePlacesWrong)

/- THE SECOND FORM. 'bulk': how many values and letters a reading holds, each counted each time it is reached (what is shared counts as often as it is met; a slice's spare places count too). A statement '..UptoSaid' is the law's where the arguments, and the package variables that the reading takes, are together of bulk at most 1048576: NARROWER than '..Said'. Prove '..Said' where nothing that the law and all that it calls make is longer than what came in: it says more and counts as full. Else prove '..UptoSaid'. A law counts once. -/
mutual
def uptoBulk {H : Type} : DataW H → Nat
  | .lit (.string bytes) => bytes.length + 1
  | .lit _ => 1
  | .nil => 1
  | .ptr d => uptoBulk d + 1
  | .slice elems spare => uptoBulkAll elems + uptoBulkAll spare + 1
  | .agg parts => uptoBulkAll parts + 1
  | .iface _ d => uptoBulk d + 1
  | .map entries => uptoBulkEntries entries + 1
  | .held _ => 1
def uptoBulkAll {H : Type} : List (DataW H) → Nat
  | [] => 0
  | d :: r => uptoBulk d + uptoBulkAll r
def uptoBulkEntries {H : Type} : List (Lit × DataW H) → Nat
  | [] => 0
  | x :: r => uptoBulkEntry x + uptoBulkEntries r
def uptoBulkEntry {H : Type} : Lit × DataW H → Nat
  | (.string bytes, d) => bytes.length + uptoBulk d + 1
  | (_, d) => uptoBulk d + 1
 end
def uptoSmall : (H : Type) → List (DataW H) → Bool := fun _ ds => decide (uptoBulkAll ds ≤ 1048576)
def OpenSpec.upto (s : _root_.Go.ChangeSpec) : _root_.Go.OpenSpec := { _root_.Go.OpenSpec.ofChange s with cond := some uptoSmall }

/-- 'credenzalaw08.PageSpoilt', WHERE WHAT IT READS IS OF BULK AT MOST 1048576: true; the input reads as it did. -/
def pageSpoiltUptoRow : OpenClaim := { program := "ytekenaclmplocaa", sum := "86aca54e0be5b069a6980a47f46dec4df64f10d4315ce3943b8b6bf6ee812721", func := "credenza/credenzalaw08.PageSpoilt", spec := "pageSpoilt", unfollowed := true, recurses := true, apart := false, narrowed := true }
def PageSpoiltUptoSaid : Prop := pageSpoiltUptoRow.holds Try.pinned (OpenSpec.upto pageSpoiltSpec)

/-- 'credenzalaw08.PageNear', WHERE WHAT IT READS IS OF BULK AT MOST 1048576: true; the input reads as it did. -/
def pageNearUptoRow : OpenClaim := { program := "ytekenaclmplocaa", sum := "86aca54e0be5b069a6980a47f46dec4df64f10d4315ce3943b8b6bf6ee812721", func := "credenza/credenzalaw08.PageNear", spec := "pageNear", unfollowed := true, recurses := true, apart := false, narrowed := true }
def PageNearUptoSaid : Prop := pageNearUptoRow.holds Try.pinned (OpenSpec.upto pageNearSpec)

/-- 'credenzalaw08.PageNew', WHERE WHAT IT READS IS OF BULK AT MOST 1048576: true; the input reads as it did. -/
def pageNewUptoRow : OpenClaim := { program := "ytekenaclmplocaa", sum := "86aca54e0be5b069a6980a47f46dec4df64f10d4315ce3943b8b6bf6ee812721", func := "credenza/credenzalaw08.PageNew", spec := "pageNew", unfollowed := true, recurses := true, apart := false, narrowed := true }
def PageNewUptoSaid : Prop := pageNewUptoRow.holds Try.pinned (OpenSpec.upto pageNewSpec)

/-- 'credenzalaw08.PageParses', WHERE WHAT IT READS IS OF BULK AT MOST 1048576: true; the input reads as it did. -/
def pageParsesUptoRow : OpenClaim := { program := "ytekenaclmplocaa", sum := "86aca54e0be5b069a6980a47f46dec4df64f10d4315ce3943b8b6bf6ee812721", func := "credenza/credenzalaw08.PageParses", spec := "pageParses", unfollowed := true, recurses := true, apart := false, narrowed := true }
def PageParsesUptoSaid : Prop := pageParsesUptoRow.holds Try.pinned (OpenSpec.upto pageParsesSpec)

/-- 'credenzalaw08.PageQuantizes', WHERE WHAT IT READS IS OF BULK AT MOST 1048576: true; the input reads as it did. -/
def pageQuantizesUptoRow : OpenClaim := { program := "ytekenaclmplocaa", sum := "86aca54e0be5b069a6980a47f46dec4df64f10d4315ce3943b8b6bf6ee812721", func := "credenza/credenzalaw08.PageQuantizes", spec := "pageQuantizes", unfollowed := true, recurses := true, apart := false, narrowed := true }
def PageQuantizesUptoSaid : Prop := pageQuantizesUptoRow.holds Try.pinned (OpenSpec.upto pageQuantizesSpec)

/-- 'credenzalaw08.PagePlaces', WHERE WHAT IT READS IS OF BULK AT MOST 1048576: true; the input reads as it did. -/
def pagePlacesUptoRow : OpenClaim := { program := "ytekenaclmplocaa", sum := "86aca54e0be5b069a6980a47f46dec4df64f10d4315ce3943b8b6bf6ee812721", func := "credenza/credenzalaw08.PagePlaces", spec := "pagePlaces", unfollowed := true, recurses := true, apart := false, narrowed := true }
def PagePlacesUptoSaid : Prop := pagePlacesUptoRow.holds Try.pinned (OpenSpec.upto pagePlacesSpec)

end Rows
end Go.Proofs.Ytekenaclmplocaa
