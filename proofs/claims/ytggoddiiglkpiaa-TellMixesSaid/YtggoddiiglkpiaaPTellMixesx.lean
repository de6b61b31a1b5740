-- Written by a program of this session (wip/tools/mkprint.py over the kit's print).
import Derived.Test.YtggoddiiglkpiaaPTellMixesx0
import Derived.Test.YtggoddiiglkpiaaPTellMixesx1
import Derived.Test.YtggoddiiglkpiaaPTellMixesx2
import Derived.Test.YtggoddiiglkpiaaPTellMixesx3
import Derived.Test.YtggoddiiglkpiaaPTellMixesx4
import Derived.Test.YtggoddiiglkpiaaPTellMixesx5
namespace Go.Proofs.Ytggoddiiglkpiaa.PTellMixes
open Go.RowKit Go.Proofs.YtggoddiiglkpiaaW.PrintWords Go.Proofs.YtggoddiiglkpiaaW.PrintLast Go.Proofs.YtggoddiiglkpiaaW.PrintMore
attribute [local go_sem] max2_int min2_int max_two min_two max_three min_three max_four min_four   -- for this text's walks alone
set_option linter.unusedVariables false
set_option linter.unusedSimpArgs false

end Go.Proofs.Ytggoddiiglkpiaa.PTellMixes
