-- Written by a program of this session (wip/tools/mkprint.py over the kit's print).
import Derived.Test.YtggoddiiglkpiaaPGroupMovesx0
import Derived.Test.YtggoddiiglkpiaaPGroupMovesx1
import Derived.Test.YtggoddiiglkpiaaPGroupMovesx2
import Derived.Test.YtggoddiiglkpiaaPGroupMovesx3
namespace Go.Proofs.Ytggoddiiglkpiaa.PGroupMoves
open Go.RowKit Go.Proofs.YtggoddiiglkpiaaW.PrintWords Go.Proofs.YtggoddiiglkpiaaW.PrintLast Go.Proofs.YtggoddiiglkpiaaW.PrintMore
attribute [local go_sem] max2_int min2_int max_two min_two max_three min_three max_four min_four   -- for this text's walks alone
set_option linter.unusedVariables false
set_option linter.unusedSimpArgs false

end Go.Proofs.Ytggoddiiglkpiaa.PGroupMoves
