-- Written by a program of this session (wip/tools/mkprint.py over the kit's print).
import Derived.Test.YtggoddiiglkpiaaPGroupFlatx0
import Derived.Test.YtggoddiiglkpiaaPGroupFlatx1
import Derived.Test.YtggoddiiglkpiaaPGroupFlatx2
import Derived.Test.YtggoddiiglkpiaaPGroupFlatx3
import Derived.Test.YtggoddiiglkpiaaPGroupFlatx4
namespace Go.Proofs.Ytggoddiiglkpiaa.PGroupFlat
open Go.RowKit Go.Proofs.YtggoddiiglkpiaaW.PrintWords Go.Proofs.YtggoddiiglkpiaaW.PrintLast Go.Proofs.YtggoddiiglkpiaaW.PrintMore
attribute [local go_sem] max2_int min2_int max_two min_two max_three min_three max_four min_four   -- for this text's walks alone
set_option linter.unusedVariables false
set_option linter.unusedSimpArgs false

end Go.Proofs.Ytggoddiiglkpiaa.PGroupFlat
