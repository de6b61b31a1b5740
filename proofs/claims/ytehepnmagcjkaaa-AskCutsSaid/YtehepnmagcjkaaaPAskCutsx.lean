-- Written by a program of this session (wip/tools/mkprint.py over the kit's print).
import Derived.Test.YtehepnmagcjkaaaPAskCutsx0
import Derived.Test.YtehepnmagcjkaaaPAskCutsx1
import Derived.Test.YtehepnmagcjkaaaPAskCutsx2
import Derived.Test.YtehepnmagcjkaaaPAskCutsx3
import Derived.Test.YtehepnmagcjkaaaPAskCutsx4
import Derived.Test.YtehepnmagcjkaaaPAskCutsx5
import Derived.Test.YtehepnmagcjkaaaPAskCutsx6
namespace Go.Proofs.Ytehepnmagcjkaaa.PAskCuts
open Go.RowKit Go.Proofs.YtehepnmagcjkaaaW.PrintWords Go.Proofs.YtehepnmagcjkaaaW.PrintLast Go.Proofs.YtehepnmagcjkaaaW.PrintMore
attribute [local go_sem] max2_int min2_int max_two min_two max_three min_three max_four min_four   -- for this text's walks alone
set_option linter.unusedVariables false
set_option linter.unusedSimpArgs false

end Go.Proofs.Ytehepnmagcjkaaa.PAskCuts
