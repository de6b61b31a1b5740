/-
  No cell of these rows narrows 'for every input' (looked for: loops, veiled, ifaces, maps, wideKeys, modest, calm, conditions, laid).
  DERIVED. THE GIVEN ROWS OF THIS SEAT. 8 by the template 'for every input the law returns true; each argument reads behind the call as it read before'; 0 by the template 'total and deterministic' (their statements: YtoofkemhikigoaaTotals.lean).
  GIVEN WITH THE SEED: the statements are not yours to turn. If you find one false, say at which input.
  Laid BY PROGRAM, IN A SANDBOX (cutbox-rows.mjs): the forced cells as the released guide's own fill.sh prints them over the translation a991ab930fb8e47d… (all of the seat's roots in one cut). By AI agents, Wed Nov 11 2026. No macro, syntax, notation, axiom, sorry.
-/
import Derived.Test.YtoofkemhikigoaaChecked
import GoSem.Claim
import GoSem.ClaimJoined
import GoSem.ClaimMapViews
import Derived.JoinedTies
import Derived.KernelRfl
namespace Go.Proofs.Ytoofkemhikigoaa
/- THE CELL 'sum', in the pinned program and in every row, IS THE sha256 OF THE DUMP (.gsa) THAT YtoofkemhikigoaaProg.lean LOADS. Nothing in Lean hashes anything: it is a label: what it is worth is what the hold of that sum in a sandbox is worth. -/
noncomputable def Try.pinned : Pinned := { name := "ytoofkemhikigoaa", sum := "a991ab930fb8e47d560137f73d90d1cbeb355aa6cd1062bfeb9f373b79b0b1ab", checked := Try.checked }
namespace Rows
def none {H : Type} : Left H := { results := [], args := [] }

/-- 'credenzalaw10.PoolPlays': WHATEVER THE INPUT: true; the input reads as it did. -/
def poolPlaysSpec : ChangeSpec := { name := "poolPlays", fn := fun _ => fun
  | [d1, d2] => { results := [.lit (.bool true)], args := [d1, d2] }
  | _ => none }
def poolPlaysRow : OpenClaim := { program := "ytoofkemhikigoaa", sum := "a991ab930fb8e47d560137f73d90d1cbeb355aa6cd1062bfeb9f373b79b0b1ab", func := "credenza/credenzalaw10.PoolPlays", spec := "poolPlays", inPlace := ["sync/atomic.StoreInt32", "sync/atomic.CompareAndSwapInt32", "sync/atomic.AddInt32", "sync/atomic.LoadInt32"], unfollowed := true, recurses := true, apart := false }
def PoolPlaysSaid : Prop := poolPlaysRow.holds Try.pinned (OpenSpec.ofChange poolPlaysSpec)

/-- ITS FALSE NEIGHBOUR: 'it returns false'. Refute it at one input. -/
def poolPlaysWrong : ChangeSpec := { name := "poolPlays", fn := fun _ => fun
  | [d1, d2] => { results := [.lit (.bool false)], args := [d1, d2] }
  | _ => none }
def PoolPlaysWrongFalsely : Prop := poolPlaysRow.holds Try.pinned (OpenSpec.ofChange poolPlaysWrong)

/-- 'credenzalaw10.PoolParts': WHATEVER THE INPUT: true; the input reads as it did. -/
def poolPartsSpec : ChangeSpec := { name := "poolParts", fn := fun _ => fun
  | [d1, d2, d3] => { results := [.lit (.bool true)], args := [d1, d2, d3] }
  | _ => none }
def poolPartsRow : OpenClaim := { program := "ytoofkemhikigoaa", sum := "a991ab930fb8e47d560137f73d90d1cbeb355aa6cd1062bfeb9f373b79b0b1ab", func := "credenza/credenzalaw10.PoolParts", spec := "poolParts", inPlace := ["sync/atomic.StoreInt32", "sync/atomic.CompareAndSwapInt32", "sync/atomic.AddInt32", "sync/atomic.LoadInt32"], unfollowed := true, recurses := true, apart := false }
def PoolPartsSaid : Prop := poolPartsRow.holds Try.pinned (OpenSpec.ofChange poolPartsSpec)

/-- ITS FALSE NEIGHBOUR: 'it returns false'. Refute it at one input. -/
def poolPartsWrong : ChangeSpec := { name := "poolParts", fn := fun _ => fun
  | [d1, d2, d3] => { results := [.lit (.bool false)], args := [d1, d2, d3] }
  | _ => none }
def PoolPartsWrongFalsely : Prop := poolPartsRow.holds Try.pinned (OpenSpec.ofChange poolPartsWrong)

/-- 'credenzalaw10.PoolFills': WHATEVER THE INPUT: true; the input reads as it did. -/
def poolFillsSpec : ChangeSpec := { name := "poolFills", fn := fun _ => fun
  | [d1, d2] => { results := [.lit (.bool true)], args := [d1, d2] }
  | _ => none }
def poolFillsRow : OpenClaim := { program := "ytoofkemhikigoaa", sum := "a991ab930fb8e47d560137f73d90d1cbeb355aa6cd1062bfeb9f373b79b0b1ab", func := "credenza/credenzalaw10.PoolFills", spec := "poolFills", inPlace := ["sync/atomic.StoreInt32", "sync/atomic.CompareAndSwapInt32", "sync/atomic.AddInt32", "sync/atomic.LoadInt32"], unfollowed := true, recurses := true, apart := false }
def PoolFillsSaid : Prop := poolFillsRow.holds Try.pinned (OpenSpec.ofChange poolFillsSpec)

/-- ITS FALSE NEIGHBOUR: 'it returns false'. Refute it at one input. -/
def poolFillsWrong : ChangeSpec := { name := "poolFills", fn := fun _ => fun
  | [d1, d2] => { results := [.lit (.bool false)], args := [d1, d2] }
  | _ => none }
def PoolFillsWrongFalsely : Prop := poolFillsRow.holds Try.pinned (OpenSpec.ofChange poolFillsWrong)

/-- 'credenzalaw10.PoolKeeps': WHATEVER THE INPUT: true; the input reads as it did. -/
def poolKeepsSpec : ChangeSpec := { name := "poolKeeps", fn := fun _ => fun
  | [d1, d2] => { results := [.lit (.bool true)], args := [d1, d2] }
  | _ => none }
def poolKeepsRow : OpenClaim := { program := "ytoofkemhikigoaa", sum := "a991ab930fb8e47d560137f73d90d1cbeb355aa6cd1062bfeb9f373b79b0b1ab", func := "credenza/credenzalaw10.PoolKeeps", spec := "poolKeeps", inPlace := ["sync/atomic.StoreInt32", "sync/atomic.CompareAndSwapInt32", "sync/atomic.AddInt32", "sync/atomic.LoadInt32"], unfollowed := true, recurses := true, apart := false }
def PoolKeepsSaid : Prop := poolKeepsRow.holds Try.pinned (OpenSpec.ofChange poolKeepsSpec)

/-- ITS FALSE NEIGHBOUR: 'it returns false'. Refute it at one input. -/
def poolKeepsWrong : ChangeSpec := { name := "poolKeeps", fn := fun _ => fun
  | [d1, d2] => { results := [.lit (.bool false)], args := [d1, d2] }
  | _ => none }
def PoolKeepsWrongFalsely : Prop := poolKeepsRow.holds Try.pinned (OpenSpec.ofChange poolKeepsWrong)

/-- 'credenzalaw11.BlockForks': WHATEVER THE INPUT: true; the input reads as it did. -/
def blockForksSpec : ChangeSpec := { name := "blockForks", fn := fun _ => fun
  | [d1, d2, d3] => { results := [.lit (.bool true)], args := [d1, d2, d3] }
  | _ => none }
def blockForksRow : OpenClaim := { program := "ytoofkemhikigoaa", sum := "a991ab930fb8e47d560137f73d90d1cbeb355aa6cd1062bfeb9f373b79b0b1ab", func := "credenza/credenzalaw11.BlockForks", spec := "blockForks", inPlace := ["sync/atomic.StoreInt32", "sync/atomic.CompareAndSwapInt32", "sync/atomic.AddInt32", "sync/atomic.LoadInt32"], unfollowed := true, recurses := true, apart := false }
def BlockForksSaid : Prop := blockForksRow.holds Try.pinned (OpenSpec.ofChange blockForksSpec)

/-- ITS FALSE NEIGHBOUR: 'it returns false'. Refute it at one input. -/
def blockForksWrong : ChangeSpec := { name := "blockForks", fn := fun _ => fun
  | [d1, d2, d3] => { results := [.lit (.bool false)], args := [d1, d2, d3] }
  | _ => none }
def BlockForksWrongFalsely : Prop := blockForksRow.holds Try.pinned (OpenSpec.ofChange blockForksWrong)

/-- 'credenzalaw11.BlockOrder': WHATEVER THE INPUT: true; the input reads as it did. -/
def blockOrderSpec : ChangeSpec := { name := "blockOrder", fn := fun _ => fun
  | [d1, d2] => { results := [.lit (.bool true)], args := [d1, d2] }
  | _ => none }
def blockOrderRow : OpenClaim := { program := "ytoofkemhikigoaa", sum := "a991ab930fb8e47d560137f73d90d1cbeb355aa6cd1062bfeb9f373b79b0b1ab", func := "credenza/credenzalaw11.BlockOrder", spec := "blockOrder", inPlace := ["sync/atomic.StoreInt32", "sync/atomic.CompareAndSwapInt32", "sync/atomic.AddInt32", "sync/atomic.LoadInt32"], unfollowed := true, recurses := true, apart := false }
def BlockOrderSaid : Prop := blockOrderRow.holds Try.pinned (OpenSpec.ofChange blockOrderSpec)

/-- ITS FALSE NEIGHBOUR: 'it returns false'. Refute it at one input. -/
def blockOrderWrong : ChangeSpec := { name := "blockOrder", fn := fun _ => fun
  | [d1, d2] => { results := [.lit (.bool false)], args := [d1, d2] }
  | _ => none }
def BlockOrderWrongFalsely : Prop := blockOrderRow.holds Try.pinned (OpenSpec.ofChange blockOrderWrong)

/-- 'credenzalaw11.BlockPlays': WHATEVER THE INPUT: true; the input reads as it did. -/
def blockPlaysSpec : ChangeSpec := { name := "blockPlays", fn := fun _ => fun
  | [d1, d2, d3] => { results := [.lit (.bool true)], args := [d1, d2, d3] }
  | _ => none }
def blockPlaysRow : OpenClaim := { program := "ytoofkemhikigoaa", sum := "a991ab930fb8e47d560137f73d90d1cbeb355aa6cd1062bfeb9f373b79b0b1ab", func := "credenza/credenzalaw11.BlockPlays", spec := "blockPlays", inPlace := ["sync/atomic.StoreInt32", "sync/atomic.CompareAndSwapInt32", "sync/atomic.AddInt32", "sync/atomic.LoadInt32"], unfollowed := true, recurses := true, apart := false }
def BlockPlaysSaid : Prop := blockPlaysRow.holds Try.pinned (OpenSpec.ofChange blockPlaysSpec)

/-- ITS FALSE NEIGHBOUR: 'it returns false'. Refute it at one input. -/
def blockPlaysWrong : ChangeSpec := { name := "blockPlays", fn := fun _ => fun
  | [d1, d2, d3] => { results := [.lit (.bool false)], args := [d1, d2, d3] }
  | _ => none }
def BlockPlaysWrongFalsely : Prop := blockPlaysRow.holds Try.pinned (OpenSpec.ofChange blockPlaysWrong)

/-- 'credenzalaw11.BlockFrees': WHATEVER THE INPUT: true; the input reads as it did. -/
def blockFreesSpec : ChangeSpec := { name := "blockFrees", fn := fun _ => fun
  | [d1, d2, d3] => { results := [.lit (.bool true)], args := [d1, d2, d3] }
  | _ => none }
def blockFreesRow : OpenClaim := { program := "ytoofkemhikigoaa", sum := "a991ab930fb8e47d560137f73d90d1cbeb355aa6cd1062bfeb9f373b79b0b1ab", func := "credenza/credenzalaw11.BlockFrees", spec := "blockFrees", inPlace := ["sync/atomic.StoreInt32", "sync/atomic.CompareAndSwapInt32", "sync/atomic.AddInt32", "sync/atomic.LoadInt32"], unfollowed := true, recurses := true, apart := false }
def BlockFreesSaid : Prop := blockFreesRow.holds Try.pinned (OpenSpec.ofChange blockFreesSpec)

/-- ITS FALSE NEIGHBOUR: 'it returns false'. Refute it at one input. -/
def blockFreesWrong : ChangeSpec := { name := "blockFrees", fn := fun _ => fun
  | [d1, d2, d3] => { results := [.lit (.bool false)], args := [d1, d2, d3] }
  | _ => none }
def BlockFreesWrongFalsely : Prop := blockFreesRow.holds Try.pinned (OpenSpec.ofChange blockFreesWrong)

/- THE SECOND FORM. 'bulk': how many values and letters a reading holds, each counted each time it is reached (what is shared counts as often as it is met; a slice's spare places count too). A statement '..UptoSaid' is the law's where the arguments, and the package variables that the reading takes, are together of bulk at most 1048576: NARROWER than '..Said'. Prove '..Said' where nothing that the law and all that it calls make is longer than what came in: it says more and counts as full. Else prove '..UptoSaid'. A law counts once. -/
mutual
def uptoBulk {H : Type} : DataW H → Nat
  | .lit (.string bytes) => bytes.length + 1
  | .lit _ => 1
  | .nil => 1
  | .ptr d => uptoBulk d + 1
  | .slice elems spare => uptoBulkAll elems + uptoBulkAll spare + 1
  | .agg parts => uptoBulkAll parts + 1
  | .iface _ d => uptoBulk d + 1
  | .map entries => uptoBulkEntries entries + 1
  | .held _ => 1
def uptoBulkAll {H : Type} : List (DataW H) → Nat
  | [] => 0
  | d :: r => uptoBulk d + uptoBulkAll r
def uptoBulkEntries {H : Type} : List (Lit × DataW H) → Nat
  | [] => 0
  | x :: r => uptoBulkEntry x + uptoBulkEntries r
def uptoBulkEntry {H : Type} : Lit × DataW H → Nat
  | (.string bytes, d) => bytes.length + uptoBulk d + 1
  | (_, d) => uptoBulk d + 1
 end
def uptoSmall : (H : Type) → List (DataW H) → Bool := fun _ ds => decide (uptoBulkAll ds ≤ 1048576)
def OpenSpec.upto (s : _root_.Go.ChangeSpec) : _root_.Go.OpenSpec := { _root_.Go.OpenSpec.ofChange s with cond := some uptoSmall }

/-- 'credenzalaw10.PoolPlays', WHERE WHAT IT READS IS OF BULK AT MOST 1048576: true; the input reads as it did. -/
def poolPlaysUptoRow : OpenClaim := { program := "ytoofkemhikigoaa", sum := "a991ab930fb8e47d560137f73d90d1cbeb355aa6cd1062bfeb9f373b79b0b1ab", func := "credenza/credenzalaw10.PoolPlays", spec := "poolPlays", inPlace := ["sync/atomic.StoreInt32", "sync/atomic.CompareAndSwapInt32", "sync/atomic.AddInt32", "sync/atomic.LoadInt32"], unfollowed := true, recurses := true, apart := false, narrowed := true }
def PoolPlaysUptoSaid : Prop := poolPlaysUptoRow.holds Try.pinned (OpenSpec.upto poolPlaysSpec)

/-- 'credenzalaw10.PoolParts', WHERE WHAT IT READS IS OF BULK AT MOST 1048576: true; the input reads as it did. -/
def poolPartsUptoRow : OpenClaim := { program := "ytoofkemhikigoaa", sum := "a991ab930fb8e47d560137f73d90d1cbeb355aa6cd1062bfeb9f373b79b0b1ab", func := "credenza/credenzalaw10.PoolParts", spec := "poolParts", inPlace := ["sync/atomic.StoreInt32", "sync/atomic.CompareAndSwapInt32", "sync/atomic.AddInt32", "sync/atomic.LoadInt32"], unfollowed := true, recurses := true, apart := false, narrowed := true }
def PoolPartsUptoSaid : Prop := poolPartsUptoRow.holds Try.pinned (OpenSpec.upto poolPartsSpec)

/-- 'credenzalaw10.PoolFills', WHERE WHAT IT READS IS OF BULK AT MOST 1048576: true; the input reads as it did. -/
def poolFillsUptoRow : OpenClaim := { program := "ytoofkemhikigoaa", sum := "a991ab930fb8e47d560137f73d90d1cbeb355aa6cd1062bfeb9f373b79b0b1ab", func := "credenza/credenzalaw10.PoolFills", spec := "poolFills", inPlace := ["sync/atomic.StoreInt32", "sync/atomic.CompareAndSwapInt32", "sync/atomic.AddInt32", "sync/atomic.LoadInt32"], unfollowed := true, recurses := true, apart := false, narrowed := true }
def PoolFillsUptoSaid : Prop := poolFillsUptoRow.holds Try.pinned (OpenSpec.upto poolFillsSpec)

/-- 'credenzalaw10.PoolKeeps', WHERE WHAT IT READS IS OF BULK AT MOST 1048576: true; the input reads as it did. -/
def poolKeepsUptoRow : OpenClaim := { program := "ytoofkemhikigoaa", sum := "a991ab930fb8e47d560137f73d90d1cbeb355aa6cd1062bfeb9f373b79b0b1ab", func := "credenza/credenzalaw10.PoolKeeps", spec := "poolKeeps", inPlace := ["sync/atomic.StoreInt32", "sync/atomic.CompareAndSwapInt32", "sync/atomic.AddInt32", "sync/atomic.LoadInt32"], unfollowed := true, recurses := true, apart := false, narrowed := true }
def PoolKeepsUptoSaid : Prop := poolKeepsUptoRow.holds Try.pinned (OpenSpec.upto poolKeepsSpec)

/-- 'credenzalaw11.BlockForks', WHERE WHAT IT READS IS OF BULK AT MOST 1048576: true; the input reads as it did. -/
def blockForksUptoRow : OpenClaim := { program := "ytoofkemhikigoaa", sum := "a991ab930fb8e47d560137f73d90d1cbeb355aa6cd1062bfeb9f373b79b0b1ab", func := "credenza/credenzalaw11.BlockForks", spec := "blockForks", inPlace := ["sync/atomic.StoreInt32", "sync/atomic.CompareAndSwapInt32", "sync/atomic.AddInt32", "sync/atomic.LoadInt32"], unfollowed := true, recurses := true, apart := false, narrowed := true }
def BlockForksUptoSaid : Prop := blockForksUptoRow.holds Try.pinned (OpenSpec.upto blockForksSpec)

/-- 'credenzalaw11.BlockOrder', WHERE WHAT IT READS IS OF BULK AT MOST 1048576: true; the input reads as it did. -/
def blockOrderUptoRow : OpenClaim := { program := "ytoofkemhikigoaa", sum := "a991ab930fb8e47d560137f73d90d1cbeb355aa6cd1062bfeb9f373b79b0b1ab", func := "credenza/credenzalaw11.BlockOrder", spec := "blockOrder", inPlace := ["sync/atomic.StoreInt32", "sync/atomic.CompareAndSwapInt32", "sync/atomic.AddInt32", "sync/atomic.LoadInt32"], unfollowed := true, recurses := true, apart := false, narrowed := true }
def BlockOrderUptoSaid : Prop := blockOrderUptoRow.holds Try.pinned (OpenSpec.upto blockOrderSpec)

/-- 'credenzalaw11.BlockPlays', WHERE WHAT IT READS IS OF BULK AT MOST 1048576: true; the input reads as it did. -/
def blockPlaysUptoRow : OpenClaim := { program := "ytoofkemhikigoaa", sum := "a991ab930fb8e47d560137f73d90d1cbeb355aa6cd1062bfeb9f373b79b0b1ab", func := "credenza/credenzalaw11.BlockPlays", spec := "blockPlays", inPlace := ["sync/atomic.StoreInt32", "sync/atomic.CompareAndSwapInt32", "sync/atomic.AddInt32", "sync/atomic.LoadInt32"], unfollowed := true, recurses := true, apart := false, narrowed := true }
def BlockPlaysUptoSaid : Prop := blockPlaysUptoRow.holds Try.pinned (OpenSpec.upto blockPlaysSpec)

/-- 'credenzalaw11.BlockFrees', WHERE WHAT IT READS IS OF BULK AT MOST 1048576: true; the input reads as it did. -/
def blockFreesUptoRow : OpenClaim := { program := "ytoofkemhikigoaa", sum := "a991ab930fb8e47d560137f73d90d1cbeb355aa6cd1062bfeb9f373b79b0b1ab", func := "credenza/credenzalaw11.BlockFrees", spec := "blockFrees", inPlace := ["sync/atomic.StoreInt32", "sync/atomic.CompareAndSwapInt32", "sync/atomic.AddInt32", "sync/atomic.LoadInt32"], unfollowed := true, recurses := true, apart := false, narrowed := true }
def BlockFreesUptoSaid : Prop := blockFreesUptoRow.holds Try.pinned (OpenSpec.upto blockFreesSpec)

end Rows
end Go.Proofs.Ytoofkemhikigoaa
