/- The pages that were put are told just as they were put, however often they are held, whatever is put and dropped beside them; what was dropped isn't told any more. -/
import Derived.Test.YtoofkemhikigoaaPPoolKeepsx
namespace Go.Proofs.Ytoofkemhikigoaa.Pure
open Go.RowKit Go.Proofs.Ytoofkemhikigoaa.PPoolKeeps Go.Proofs.YtoofkemhikigoaaW.PrintWords Go.Proofs.YtoofkemhikigoaaW.PrintLast Go.Proofs.YtoofkemhikigoaaW.PrintMore
set_option linter.unusedVariables false
set_option linter.unusedSimpArgs false
set_option maxRecDepth 100000 in
theorem madeAll_12 : madeAll 12 = true := by decide +kernel
theorem PoolKeeps : credenzalaw10_PoolKeeps.Pure := by
  intro a0 l1 _ _ _ _
  exact ⟨12, by unfold credenzalaw10_PoolKeeps.f; rw [if_pos madeAll_12]⟩

end Go.Proofs.Ytoofkemhikigoaa.Pure
