/-
  No cell of these rows narrows 'for every input' (looked for: loops, veiled, ifaces, maps, wideKeys, modest, calm, conditions, laid).
  DERIVED. THE GIVEN ROWS OF THIS SEAT. 11 by the template 'for every input the law returns true; each argument reads behind the call as it read before'; 0 by the template 'total and deterministic' (their statements: YtggoddiiglkpiaaTotals.lean).
  GIVEN WITH THE SEED: the statements are not yours to turn. If you find one false, say at which input.
  Laid BY PROGRAM, IN A SANDBOX (cutbox-rows.mjs): the forced cells as the released guide's own fill.sh prints them over the translation 58c9ec177fdfa1ed… (all of the seat's roots in one cut). By AI agents, Wed Nov 11 2026. No macro, syntax, notation, axiom, sorry.
-/
import Derived.Test.YtggoddiiglkpiaaChecked
import GoSem.Claim
import GoSem.ClaimJoined
import GoSem.ClaimMapViews
import Derived.JoinedTies
import Derived.KernelRfl
namespace Go.Proofs.Ytggoddiiglkpiaa
/- THE CELL 'sum', in the pinned program and in every row, IS THE sha256 OF THE DUMP (.gsa) THAT YtggoddiiglkpiaaProg.lean LOADS. Nothing in Lean hashes anything: it is a label: what it is worth is what the hold of that sum in a sandbox is worth. -/
noncomputable def Try.pinned : Pinned := { name := "ytggoddiiglkpiaa", sum := "58c9ec177fdfa1ed2c7a4d7ad8cd4145136ad093222a7586c36d0d91e42ce086", checked := Try.checked }
namespace Rows
def none {H : Type} : Left H := { results := [], args := [] }

/-- 'credenzalaw07.GroupOf': WHATEVER THE INPUT: true; the input reads as it did. -/
def groupOfSpec : ChangeSpec := { name := "groupOf", fn := fun _ => fun
  | [d1, d2] => { results := [.lit (.bool true)], args := [d1, d2] }
  | _ => none }
def groupOfRow : OpenClaim := { program := "ytggoddiiglkpiaa", sum := "58c9ec177fdfa1ed2c7a4d7ad8cd4145136ad093222a7586c36d0d91e42ce086", func := "credenza/credenzalaw07.GroupOf", spec := "groupOf", unfollowed := true, recurses := true, apart := false }
def GroupOfSaid : Prop := groupOfRow.holds Try.pinned (OpenSpec.ofChange groupOfSpec)

/-- ITS FALSE NEIGHBOUR: 'it returns false'. Refute it at one input. -/
def groupOfWrong : ChangeSpec := { name := "groupOf", fn := fun _ => fun
  | [d1, d2] => { results := [.lit (.bool false)], args := [d1, d2] }
  | _ => none }
def GroupOfWrongFalsely : Prop := groupOfRow.holds Try.pinned (OpenSpec.ofChange groupOfWrong)

/-- 'credenzalaw07.GroupNear': WHATEVER THE INPUT: true; the input reads as it did. -/
def groupNearSpec : ChangeSpec := { name := "groupNear", fn := fun _ => fun
  | [d1, d2] => { results := [.lit (.bool true)], args := [d1, d2] }
  | _ => none }
def groupNearRow : OpenClaim := { program := "ytggoddiiglkpiaa", sum := "58c9ec177fdfa1ed2c7a4d7ad8cd4145136ad093222a7586c36d0d91e42ce086", func := "credenza/credenzalaw07.GroupNear", spec := "groupNear", unfollowed := true, recurses := true, apart := false }
def GroupNearSaid : Prop := groupNearRow.holds Try.pinned (OpenSpec.ofChange groupNearSpec)

/-- ITS FALSE NEIGHBOUR: 'it returns false'. Refute it at one input. -/
def groupNearWrong : ChangeSpec := { name := "groupNear", fn := fun _ => fun
  | [d1, d2] => { results := [.lit (.bool false)], args := [d1, d2] }
  | _ => none }
def GroupNearWrongFalsely : Prop := groupNearRow.holds Try.pinned (OpenSpec.ofChange groupNearWrong)

/-- 'credenzalaw07.GroupRight': WHATEVER THE INPUT: true; the input reads as it did. -/
def groupRightSpec : ChangeSpec := { name := "groupRight", fn := fun _ => fun
  | [d1, d2] => { results := [.lit (.bool true)], args := [d1, d2] }
  | _ => none }
def groupRightRow : OpenClaim := { program := "ytggoddiiglkpiaa", sum := "58c9ec177fdfa1ed2c7a4d7ad8cd4145136ad093222a7586c36d0d91e42ce086", func := "credenza/credenzalaw07.GroupRight", spec := "groupRight", unfollowed := true, recurses := true, apart := false }
def GroupRightSaid : Prop := groupRightRow.holds Try.pinned (OpenSpec.ofChange groupRightSpec)

/-- ITS FALSE NEIGHBOUR: 'it returns false'. Refute it at one input. -/
def groupRightWrong : ChangeSpec := { name := "groupRight", fn := fun _ => fun
  | [d1, d2] => { results := [.lit (.bool false)], args := [d1, d2] }
  | _ => none }
def GroupRightWrongFalsely : Prop := groupRightRow.holds Try.pinned (OpenSpec.ofChange groupRightWrong)

/-- 'credenzalaw07.GroupFlat': WHATEVER THE INPUT: true; the input reads as it did. -/
def groupFlatSpec : ChangeSpec := { name := "groupFlat", fn := fun _ => fun
  | [d1, d2, d3] => { results := [.lit (.bool true)], args := [d1, d2, d3] }
  | _ => none }
def groupFlatRow : OpenClaim := { program := "ytggoddiiglkpiaa", sum := "58c9ec177fdfa1ed2c7a4d7ad8cd4145136ad093222a7586c36d0d91e42ce086", func := "credenza/credenzalaw07.GroupFlat", spec := "groupFlat", unfollowed := true, recurses := true, apart := false }
def GroupFlatSaid : Prop := groupFlatRow.holds Try.pinned (OpenSpec.ofChange groupFlatSpec)

/-- ITS FALSE NEIGHBOUR: 'it returns false'. Refute it at one input. -/
def groupFlatWrong : ChangeSpec := { name := "groupFlat", fn := fun _ => fun
  | [d1, d2, d3] => { results := [.lit (.bool false)], args := [d1, d2, d3] }
  | _ => none }
def GroupFlatWrongFalsely : Prop := groupFlatRow.holds Try.pinned (OpenSpec.ofChange groupFlatWrong)

/-- 'credenzalaw07.GroupMoves': WHATEVER THE INPUT: true; the input reads as it did. -/
def groupMovesSpec : ChangeSpec := { name := "groupMoves", fn := fun _ => fun
  | [d1, d2, d3] => { results := [.lit (.bool true)], args := [d1, d2, d3] }
  | _ => none }
def groupMovesRow : OpenClaim := { program := "ytggoddiiglkpiaa", sum := "58c9ec177fdfa1ed2c7a4d7ad8cd4145136ad093222a7586c36d0d91e42ce086", func := "credenza/credenzalaw07.GroupMoves", spec := "groupMoves", unfollowed := true, recurses := true, apart := false }
def GroupMovesSaid : Prop := groupMovesRow.holds Try.pinned (OpenSpec.ofChange groupMovesSpec)

/-- ITS FALSE NEIGHBOUR: 'it returns false'. Refute it at one input. -/
def groupMovesWrong : ChangeSpec := { name := "groupMoves", fn := fun _ => fun
  | [d1, d2, d3] => { results := [.lit (.bool false)], args := [d1, d2, d3] }
  | _ => none }
def GroupMovesWrongFalsely : Prop := groupMovesRow.holds Try.pinned (OpenSpec.ofChange groupMovesWrong)

/-- 'credenzalaw07.GroupEquals': WHATEVER THE INPUT: true; the input reads as it did. -/
def groupEqualsSpec : ChangeSpec := { name := "groupEquals", fn := fun _ => fun
  | [d1, d2] => { results := [.lit (.bool true)], args := [d1, d2] }
  | _ => none }
def groupEqualsRow : OpenClaim := { program := "ytggoddiiglkpiaa", sum := "58c9ec177fdfa1ed2c7a4d7ad8cd4145136ad093222a7586c36d0d91e42ce086", func := "credenza/credenzalaw07.GroupEquals", spec := "groupEquals", unfollowed := true, recurses := true, apart := false }
def GroupEqualsSaid : Prop := groupEqualsRow.holds Try.pinned (OpenSpec.ofChange groupEqualsSpec)

/-- ITS FALSE NEIGHBOUR: 'it returns false'. Refute it at one input. -/
def groupEqualsWrong : ChangeSpec := { name := "groupEquals", fn := fun _ => fun
  | [d1, d2] => { results := [.lit (.bool false)], args := [d1, d2] }
  | _ => none }
def GroupEqualsWrongFalsely : Prop := groupEqualsRow.holds Try.pinned (OpenSpec.ofChange groupEqualsWrong)

/-- 'credenzalaw23.TellBytes': WHATEVER THE INPUT: true; the input reads as it did. -/
def tellBytesSpec : ChangeSpec := { name := "tellBytes", fn := fun _ => fun
  | [d] => { results := [.lit (.bool true)], args := [d] }
  | _ => none }
def tellBytesRow : OpenClaim := { program := "ytggoddiiglkpiaa", sum := "58c9ec177fdfa1ed2c7a4d7ad8cd4145136ad093222a7586c36d0d91e42ce086", func := "credenza/credenzalaw23.TellBytes", spec := "tellBytes", apart := false }
def TellBytesSaid : Prop := tellBytesRow.holds Try.pinned (OpenSpec.ofChange tellBytesSpec)

/-- ITS FALSE NEIGHBOUR: 'it returns false'. Refute it at one input. -/
def tellBytesWrong : ChangeSpec := { name := "tellBytes", fn := fun _ => fun
  | [d] => { results := [.lit (.bool false)], args := [d] }
  | _ => none }
def TellBytesWrongFalsely : Prop := tellBytesRow.holds Try.pinned (OpenSpec.ofChange tellBytesWrong)

/-- 'credenzalaw23.TellParses': WHATEVER THE INPUT: true; the input reads as it did. -/
def tellParsesSpec : ChangeSpec := { name := "tellParses", fn := fun _ => fun
  | [d] => { results := [.lit (.bool true)], args := [d] }
  | _ => none }
def tellParsesRow : OpenClaim := { program := "ytggoddiiglkpiaa", sum := "58c9ec177fdfa1ed2c7a4d7ad8cd4145136ad093222a7586c36d0d91e42ce086", func := "credenza/credenzalaw23.TellParses", spec := "tellParses", apart := false }
def TellParsesSaid : Prop := tellParsesRow.holds Try.pinned (OpenSpec.ofChange tellParsesSpec)

/-- ITS FALSE NEIGHBOUR: 'it returns false'. Refute it at one input. -/
def tellParsesWrong : ChangeSpec := { name := "tellParses", fn := fun _ => fun
  | [d] => { results := [.lit (.bool false)], args := [d] }
  | _ => none }
def TellParsesWrongFalsely : Prop := tellParsesRow.holds Try.pinned (OpenSpec.ofChange tellParsesWrong)

/-- 'credenzalaw23.TellOrders': WHATEVER THE INPUT: true; the input reads as it did. -/
def tellOrdersSpec : ChangeSpec := { name := "tellOrders", fn := fun _ => fun
  | [d1, d2] => { results := [.lit (.bool true)], args := [d1, d2] }
  | _ => none }
def tellOrdersRow : OpenClaim := { program := "ytggoddiiglkpiaa", sum := "58c9ec177fdfa1ed2c7a4d7ad8cd4145136ad093222a7586c36d0d91e42ce086", func := "credenza/credenzalaw23.TellOrders", spec := "tellOrders", apart := false }
def TellOrdersSaid : Prop := tellOrdersRow.holds Try.pinned (OpenSpec.ofChange tellOrdersSpec)

/-- ITS FALSE NEIGHBOUR: 'it returns false'. Refute it at one input. -/
def tellOrdersWrong : ChangeSpec := { name := "tellOrders", fn := fun _ => fun
  | [d1, d2] => { results := [.lit (.bool false)], args := [d1, d2] }
  | _ => none }
def TellOrdersWrongFalsely : Prop := tellOrdersRow.holds Try.pinned (OpenSpec.ofChange tellOrdersWrong)

/-- 'credenzalaw23.TellMixes': WHATEVER THE INPUT: true; the input reads as it did. -/
def tellMixesSpec : ChangeSpec := { name := "tellMixes", fn := fun _ => fun
  | [d1, d2, d3] => { results := [.lit (.bool true)], args := [d1, d2, d3] }
  | _ => none }
def tellMixesRow : OpenClaim := { program := "ytggoddiiglkpiaa", sum := "58c9ec177fdfa1ed2c7a4d7ad8cd4145136ad093222a7586c36d0d91e42ce086", func := "credenza/credenzalaw23.TellMixes", spec := "tellMixes", apart := false }
def TellMixesSaid : Prop := tellMixesRow.holds Try.pinned (OpenSpec.ofChange tellMixesSpec)

/-- ITS FALSE NEIGHBOUR: 'it returns false'. Refute it at one input. -/
def tellMixesWrong : ChangeSpec := { name := "tellMixes", fn := fun _ => fun
  | [d1, d2, d3] => { results := [.lit (.bool false)], args := [d1, d2, d3] }
  | _ => none }
def TellMixesWrongFalsely : Prop := tellMixesRow.holds Try.pinned (OpenSpec.ofChange tellMixesWrong)

/-- 'credenzalaw23.TellEnds': WHATEVER THE INPUT: true; the input reads as it did. -/
def tellEndsSpec : ChangeSpec := { name := "tellEnds", fn := fun _ => fun
  | [d1, d2] => { results := [.lit (.bool true)], args := [d1, d2] }
  | _ => none }
def tellEndsRow : OpenClaim := { program := "ytggoddiiglkpiaa", sum := "58c9ec177fdfa1ed2c7a4d7ad8cd4145136ad093222a7586c36d0d91e42ce086", func := "credenza/credenzalaw23.TellEnds", spec := "tellEnds", apart := false }
def TellEndsSaid : Prop := tellEndsRow.holds Try.pinned (OpenSpec.ofChange tellEndsSpec)

/-- ITS FALSE NEIGHBOUR: 'it returns false'. Refute it at one input. -/
def tellEndsWrong : ChangeSpec := { name := "tellEnds", fn := fun _ => fun
  | [d1, d2] => { results := [.lit (.bool false)], args := [d1, d2] }
  | _ => none }
def TellEndsWrongFalsely : Prop := tellEndsRow.holds Try.pinned (OpenSpec.ofChange tellEndsWrong)

/- THE SECOND FORM. 'bulk': how many values and letters a reading holds, each counted each time it is reached (what is shared counts as often as it is met; a slice's spare places count too). A statement '..UptoSaid' is the law's where the arguments, and the package variables that the reading takes, are together of bulk at most 1048576: NARROWER than '..Said'. Prove '..Said' where nothing that the law and all that it calls make is longer than what came in: it says more and counts as full. Else prove '..UptoSaid'. A law counts once. -/
mutual
def uptoBulk {H : Type} : DataW H → Nat
  | .lit (.string bytes) => bytes.length + 1
  | .lit _ => 1
  | .nil => 1
  | .ptr d => uptoBulk d + 1
  | .slice elems spare => uptoBulkAll elems + uptoBulkAll spare + 1
  | .agg parts => uptoBulkAll parts + 1
  | .iface _ d => uptoBulk d + 1
  | .map entries => uptoBulkEntries entries + 1
  | .held _ => 1
def uptoBulkAll {H : Type} : List (DataW H) → Nat
  | [] => 0
  | d :: r => uptoBulk d + uptoBulkAll r
def uptoBulkEntries {H : Type} : List (Lit × DataW H) → Nat
  | [] => 0
  | x :: r => uptoBulkEntry x + uptoBulkEntries r
def uptoBulkEntry {H : Type} : Lit × DataW H → Nat
  | (.string bytes, d) => bytes.length + uptoBulk d + 1
  | (_, d) => uptoBulk d + 1
 end
def uptoSmall : (H : Type) → List (DataW H) → Bool := fun _ ds => decide (uptoBulkAll ds ≤ 1048576)
def OpenSpec.upto (s : _root_.Go.ChangeSpec) : _root_.Go.OpenSpec := { _root_.Go.OpenSpec.ofChange s with cond := some uptoSmall }

/-- 'credenzalaw07.GroupOf', WHERE WHAT IT READS IS OF BULK AT MOST 1048576: true; the input reads as it did. -/
def groupOfUptoRow : OpenClaim := { program := "ytggoddiiglkpiaa", sum := "58c9ec177fdfa1ed2c7a4d7ad8cd4145136ad093222a7586c36d0d91e42ce086", func := "credenza/credenzalaw07.GroupOf", spec := "groupOf", unfollowed := true, recurses := true, apart := false, narrowed := true }
def GroupOfUptoSaid : Prop := groupOfUptoRow.holds Try.pinned (OpenSpec.upto groupOfSpec)

/-- 'credenzalaw07.GroupNear', WHERE WHAT IT READS IS OF BULK AT MOST 1048576: true; the input reads as it did. -/
def groupNearUptoRow : OpenClaim := { program := "ytggoddiiglkpiaa", sum := "58c9ec177fdfa1ed2c7a4d7ad8cd4145136ad093222a7586c36d0d91e42ce086", func := "credenza/credenzalaw07.GroupNear", spec := "groupNear", unfollowed := true, recurses := true, apart := false, narrowed := true }
def GroupNearUptoSaid : Prop := groupNearUptoRow.holds Try.pinned (OpenSpec.upto groupNearSpec)

/-- 'credenzalaw07.GroupRight', WHERE WHAT IT READS IS OF BULK AT MOST 1048576: true; the input reads as it did. -/
def groupRightUptoRow : OpenClaim := { program := "ytggoddiiglkpiaa", sum := "58c9ec177fdfa1ed2c7a4d7ad8cd4145136ad093222a7586c36d0d91e42ce086", func := "credenza/credenzalaw07.GroupRight", spec := "groupRight", unfollowed := true, recurses := true, apart := false, narrowed := true }
def GroupRightUptoSaid : Prop := groupRightUptoRow.holds Try.pinned (OpenSpec.upto groupRightSpec)

/-- 'credenzalaw07.GroupFlat', WHERE WHAT IT READS IS OF BULK AT MOST 1048576: true; the input reads as it did. -/
def groupFlatUptoRow : OpenClaim := { program := "ytggoddiiglkpiaa", sum := "58c9ec177fdfa1ed2c7a4d7ad8cd4145136ad093222a7586c36d0d91e42ce086", func := "credenza/credenzalaw07.GroupFlat", spec := "groupFlat", unfollowed := true, recurses := true, apart := false, narrowed := true }
def GroupFlatUptoSaid : Prop := groupFlatUptoRow.holds Try.pinned (OpenSpec.upto groupFlatSpec)

/-- 'credenzalaw07.GroupMoves', WHERE WHAT IT READS IS OF BULK AT MOST 1048576: true; the input reads as it did. -/
def groupMovesUptoRow : OpenClaim := { program := "ytggoddiiglkpiaa", sum := "58c9ec177fdfa1ed2c7a4d7ad8cd4145136ad093222a7586c36d0d91e42ce086", func := "credenza/credenzalaw07.GroupMoves", spec := "groupMoves", unfollowed := true, recurses := true, apart := false, narrowed := true }
def GroupMovesUptoSaid : Prop := groupMovesUptoRow.holds Try.pinned (OpenSpec.upto groupMovesSpec)

/-- 'credenzalaw07.GroupEquals', WHERE WHAT IT READS IS OF BULK AT MOST 1048576: true; the input reads as it did. -/
def groupEqualsUptoRow : OpenClaim := { program := "ytggoddiiglkpiaa", sum := "58c9ec177fdfa1ed2c7a4d7ad8cd4145136ad093222a7586c36d0d91e42ce086", func := "credenza/credenzalaw07.GroupEquals", spec := "groupEquals", unfollowed := true, recurses := true, apart := false, narrowed := true }
def GroupEqualsUptoSaid : Prop := groupEqualsUptoRow.holds Try.pinned (OpenSpec.upto groupEqualsSpec)

/-- 'credenzalaw23.TellBytes', WHERE WHAT IT READS IS OF BULK AT MOST 1048576: true; the input reads as it did. -/
def tellBytesUptoRow : OpenClaim := { program := "ytggoddiiglkpiaa", sum := "58c9ec177fdfa1ed2c7a4d7ad8cd4145136ad093222a7586c36d0d91e42ce086", func := "credenza/credenzalaw23.TellBytes", spec := "tellBytes", apart := false, narrowed := true }
def TellBytesUptoSaid : Prop := tellBytesUptoRow.holds Try.pinned (OpenSpec.upto tellBytesSpec)

/-- 'credenzalaw23.TellParses', WHERE WHAT IT READS IS OF BULK AT MOST 1048576: true; the input reads as it did. -/
def tellParsesUptoRow : OpenClaim := { program := "ytggoddiiglkpiaa", sum := "58c9ec177fdfa1ed2c7a4d7ad8cd4145136ad093222a7586c36d0d91e42ce086", func := "credenza/credenzalaw23.TellParses", spec := "tellParses", apart := false, narrowed := true }
def TellParsesUptoSaid : Prop := tellParsesUptoRow.holds Try.pinned (OpenSpec.upto tellParsesSpec)

/-- 'credenzalaw23.TellOrders', WHERE WHAT IT READS IS OF BULK AT MOST 1048576: true; the input reads as it did. -/
def tellOrdersUptoRow : OpenClaim := { program := "ytggoddiiglkpiaa", sum := "58c9ec177fdfa1ed2c7a4d7ad8cd4145136ad093222a7586c36d0d91e42ce086", func := "credenza/credenzalaw23.TellOrders", spec := "tellOrders", apart := false, narrowed := true }
def TellOrdersUptoSaid : Prop := tellOrdersUptoRow.holds Try.pinned (OpenSpec.upto tellOrdersSpec)

/-- 'credenzalaw23.TellMixes', WHERE WHAT IT READS IS OF BULK AT MOST 1048576: true; the input reads as it did. -/
def tellMixesUptoRow : OpenClaim := { program := "ytggoddiiglkpiaa", sum := "58c9ec177fdfa1ed2c7a4d7ad8cd4145136ad093222a7586c36d0d91e42ce086", func := "credenza/credenzalaw23.TellMixes", spec := "tellMixes", apart := false, narrowed := true }
def TellMixesUptoSaid : Prop := tellMixesUptoRow.holds Try.pinned (OpenSpec.upto tellMixesSpec)

/-- 'credenzalaw23.TellEnds', WHERE WHAT IT READS IS OF BULK AT MOST 1048576: true; the input reads as it did. -/
def tellEndsUptoRow : OpenClaim := { program := "ytggoddiiglkpiaa", sum := "58c9ec177fdfa1ed2c7a4d7ad8cd4145136ad093222a7586c36d0d91e42ce086", func := "credenza/credenzalaw23.TellEnds", spec := "tellEnds", apart := false, narrowed := true }
def TellEndsUptoSaid : Prop := tellEndsUptoRow.holds Try.pinned (OpenSpec.upto tellEndsSpec)

end Rows
end Go.Proofs.Ytggoddiiglkpiaa
