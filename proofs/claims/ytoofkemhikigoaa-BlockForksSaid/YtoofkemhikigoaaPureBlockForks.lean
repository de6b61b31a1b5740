/- A fork has the same pages; what is put to one of both, or cleared, leaves the other one. -/
import Derived.Test.YtoofkemhikigoaaPBlockForksx
namespace Go.Proofs.Ytoofkemhikigoaa.Pure
open Go.RowKit Go.Proofs.Ytoofkemhikigoaa.PBlockForks Go.Proofs.YtoofkemhikigoaaW.PrintWords Go.Proofs.YtoofkemhikigoaaW.PrintLast Go.Proofs.YtoofkemhikigoaaW.PrintMore
set_option linter.unusedVariables false
set_option linter.unusedSimpArgs false
set_option maxRecDepth 100000 in
theorem madeAll_12 : madeAll 12 = true := by decide +kernel
theorem BlockForks : credenzalaw11_BlockForks.Pure := by
  intro a0 a1 l2 _ _ _ _
  exact ⟨12, by unfold credenzalaw11_BlockForks.f; rw [if_pos madeAll_12]⟩

end Go.Proofs.Ytoofkemhikigoaa.Pure
