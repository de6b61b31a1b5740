/- Whatever was done, when all tables are cleared, all slots are free, and none is held. -/
import Derived.Test.YtoofkemhikigoaaPBlockFreesx
namespace Go.Proofs.Ytoofkemhikigoaa.Pure
open Go.RowKit Go.Proofs.Ytoofkemhikigoaa.PBlockFrees Go.Proofs.YtoofkemhikigoaaW.PrintWords Go.Proofs.YtoofkemhikigoaaW.PrintLast Go.Proofs.YtoofkemhikigoaaW.PrintMore
set_option linter.unusedVariables false
set_option linter.unusedSimpArgs false
set_option maxRecDepth 100000 in
theorem madeAll_12 : madeAll 12 = true := by decide +kernel
theorem BlockFrees : credenzalaw11_BlockFrees.Pure := by
  intro a0 a1 l2 _ _ _ _
  exact ⟨12, by unfold credenzalaw11_BlockFrees.f; rw [if_pos madeAll_12]⟩

end Go.Proofs.Ytoofkemhikigoaa.Pure
