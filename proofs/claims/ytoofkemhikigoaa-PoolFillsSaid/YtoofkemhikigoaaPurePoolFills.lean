/- A pool takes as many pages as it has slots, and one more for each that is free again, always into the least one. -/
import Derived.Test.YtoofkemhikigoaaPPoolFillsx
namespace Go.Proofs.Ytoofkemhikigoaa.Pure
open Go.RowKit Go.Proofs.Ytoofkemhikigoaa.PPoolFills Go.Proofs.YtoofkemhikigoaaW.PrintWords Go.Proofs.YtoofkemhikigoaaW.PrintLast Go.Proofs.YtoofkemhikigoaaW.PrintMore
set_option linter.unusedVariables false
set_option linter.unusedSimpArgs false
set_option maxRecDepth 100000 in
theorem madeAll_12 : madeAll 12 = true := by decide +kernel
theorem PoolFills : credenzalaw10_PoolFills.Pure := by
  intro a0 l1 _ _ _ _
  exact ⟨12, by unfold credenzalaw10_PoolFills.f; rw [if_pos madeAll_12]⟩

end Go.Proofs.Ytoofkemhikigoaa.Pure
