-- Written by a program of this session (wip/tools/mkprint.py over the kit's print).
import Derived.Test.YtehepnmagcjkaaaPAskEqualsx0
import Derived.Test.YtehepnmagcjkaaaPAskEqualsx1
import Derived.Test.YtehepnmagcjkaaaPAskEqualsx2
import Derived.Test.YtehepnmagcjkaaaPAskEqualsx3
import Derived.Test.YtehepnmagcjkaaaPAskEqualsx4
import Derived.Test.YtehepnmagcjkaaaPAskEqualsx5
import Derived.Test.YtehepnmagcjkaaaPAskEqualsx6
import Derived.Test.YtehepnmagcjkaaaPAskEqualsx7
namespace Go.Proofs.Ytehepnmagcjkaaa.PAskEquals
open Go.RowKit Go.Proofs.YtehepnmagcjkaaaW.PrintWords Go.Proofs.YtehepnmagcjkaaaW.PrintLast Go.Proofs.YtehepnmagcjkaaaW.PrintMore
attribute [local go_sem] max2_int min2_int max_two min_two max_three min_three max_four min_four   -- for this text's walks alone
set_option linter.unusedVariables false
set_option linter.unusedSimpArgs false

end Go.Proofs.Ytehepnmagcjkaaa.PAskEquals
