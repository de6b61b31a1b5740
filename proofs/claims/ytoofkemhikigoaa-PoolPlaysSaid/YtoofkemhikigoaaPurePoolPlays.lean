/- A pool of any slots answers any calls as the document says; which slots are free is so behind each. -/
import Derived.Test.YtoofkemhikigoaaPPoolPlaysx
namespace Go.Proofs.Ytoofkemhikigoaa.Pure
open Go.RowKit Go.Proofs.Ytoofkemhikigoaa.PPoolPlays Go.Proofs.YtoofkemhikigoaaW.PrintWords Go.Proofs.YtoofkemhikigoaaW.PrintLast Go.Proofs.YtoofkemhikigoaaW.PrintMore
set_option linter.unusedVariables false
set_option linter.unusedSimpArgs false
set_option maxRecDepth 100000 in
theorem madeAll_12 : madeAll 12 = true := by decide +kernel
theorem PoolPlays : credenzalaw10_PoolPlays.Pure := by
  intro a0 l1 _ _ _
  exact ⟨12, by unfold credenzalaw10_PoolPlays.f; rw [if_pos madeAll_12]⟩

end Go.Proofs.Ytoofkemhikigoaa.Pure
