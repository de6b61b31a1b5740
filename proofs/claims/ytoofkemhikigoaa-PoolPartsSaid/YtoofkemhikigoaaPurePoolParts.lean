/- Free slots and those that aren't are all, behind any calls; a page that is held stays where it is, as it was put, till it is dropped as often as it was held. -/
import Derived.Test.YtoofkemhikigoaaPPoolPartsx
namespace Go.Proofs.Ytoofkemhikigoaa.Pure
open Go.RowKit Go.Proofs.Ytoofkemhikigoaa.PPoolParts Go.Proofs.YtoofkemhikigoaaW.PrintWords Go.Proofs.YtoofkemhikigoaaW.PrintLast Go.Proofs.YtoofkemhikigoaaW.PrintMore
set_option linter.unusedVariables false
set_option linter.unusedSimpArgs false
set_option maxRecDepth 100000 in
theorem madeAll_12 : madeAll 12 = true := by decide +kernel
theorem PoolParts : credenzalaw10_PoolParts.Pure := by
  intro a0 l1 a2 _ _ _ _
  exact ⟨12, by unfold credenzalaw10_PoolParts.f; rw [if_pos madeAll_12]⟩

end Go.Proofs.Ytoofkemhikigoaa.Pure
