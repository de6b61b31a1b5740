/- Tables over a pool of any slots answer any calls as the document says; behind each, each slot is held as often as entries of all tables point at it, and the others are free. -/
import Derived.Test.YtoofkemhikigoaaPBlockPlaysx
namespace Go.Proofs.Ytoofkemhikigoaa.Pure
open Go.RowKit Go.Proofs.Ytoofkemhikigoaa.PBlockPlays Go.Proofs.YtoofkemhikigoaaW.PrintWords Go.Proofs.YtoofkemhikigoaaW.PrintLast Go.Proofs.YtoofkemhikigoaaW.PrintMore
set_option linter.unusedVariables false
set_option linter.unusedSimpArgs false
set_option maxRecDepth 100000 in
theorem madeAll_12 : madeAll 12 = true := by decide +kernel
theorem BlockPlays : credenzalaw11_BlockPlays.Pure := by
  intro a0 a1 l2 _ _ _ _
  exact ⟨12, by unfold credenzalaw11_BlockPlays.f; rw [if_pos madeAll_12]⟩

end Go.Proofs.Ytoofkemhikigoaa.Pure
