-- Written by a program of this session (wip/tools/mkprint.py over the kit's print).
import Derived.Test.YtggoddiiglkpiaaPGroupOfx0
import Derived.Test.YtggoddiiglkpiaaPGroupOfx1
import Derived.Test.YtggoddiiglkpiaaPGroupOfx2
import Derived.Test.YtggoddiiglkpiaaPGroupOfx3
import Derived.Test.YtggoddiiglkpiaaPGroupOfx4
import Derived.Test.YtggoddiiglkpiaaPGroupOfx5
import Derived.Test.YtggoddiiglkpiaaPGroupOfx6
import Derived.Test.YtggoddiiglkpiaaPGroupOfx7
namespace Go.Proofs.Ytggoddiiglkpiaa.PGroupOf
open Go.RowKit Go.Proofs.YtggoddiiglkpiaaW.PrintWords Go.Proofs.YtggoddiiglkpiaaW.PrintLast Go.Proofs.YtggoddiiglkpiaaW.PrintMore
attribute [local go_sem] max2_int min2_int max_two min_two max_three min_three max_four min_four   -- for this text's walks alone
set_option linter.unusedVariables false
set_option linter.unusedSimpArgs false

end Go.Proofs.Ytggoddiiglkpiaa.PGroupOf
