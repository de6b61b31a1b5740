/- A row has its pages in the order in which they were added, whatever is added to other rows; a fork has them, too. -/
import Derived.Test.YtoofkemhikigoaaPBlockOrderx
namespace Go.Proofs.Ytoofkemhikigoaa.Pure
open Go.RowKit Go.Proofs.Ytoofkemhikigoaa.PBlockOrder Go.Proofs.YtoofkemhikigoaaW.PrintWords Go.Proofs.YtoofkemhikigoaaW.PrintLast Go.Proofs.YtoofkemhikigoaaW.PrintMore
set_option linter.unusedVariables false
set_option linter.unusedSimpArgs false
set_option maxRecDepth 100000 in
theorem madeAll_12 : madeAll 12 = true := by decide +kernel
theorem BlockOrder : credenzalaw11_BlockOrder.Pure := by
  intro a0 l1 _ _ _ _
  exact ⟨12, by unfold credenzalaw11_BlockOrder.f; rw [if_pos madeAll_12]⟩

end Go.Proofs.Ytoofkemhikigoaa.Pure
