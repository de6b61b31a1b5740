-- Written by a program of this session (wip/tools/mkprint.py over the kit's print).
import Derived.Test.YtehepnmagcjkaaaPAskBytesx0
import Derived.Test.YtehepnmagcjkaaaPAskBytesx1
import Derived.Test.YtehepnmagcjkaaaPAskBytesx2
import Derived.Test.YtehepnmagcjkaaaPAskBytesx3
import Derived.Test.YtehepnmagcjkaaaPAskBytesx4
import Derived.Test.YtehepnmagcjkaaaPAskBytesx5
import Derived.Test.YtehepnmagcjkaaaPAskBytesx6
import Derived.Test.YtehepnmagcjkaaaPAskBytesx7
import Derived.Test.YtehepnmagcjkaaaPAskBytesx8
import Derived.Test.YtehepnmagcjkaaaPAskBytesx9
import Derived.Test.YtehepnmagcjkaaaPAskBytesx10
import Derived.Test.YtehepnmagcjkaaaPAskBytesx11
namespace Go.Proofs.Ytehepnmagcjkaaa.PAskBytes
open Go.RowKit Go.Proofs.YtehepnmagcjkaaaW.PrintWords Go.Proofs.YtehepnmagcjkaaaW.PrintLast Go.Proofs.YtehepnmagcjkaaaW.PrintMore
attribute [local go_sem] max2_int min2_int max_two min_two max_three min_three max_four min_four   -- for this text's walks alone
set_option linter.unusedVariables false
set_option linter.unusedSimpArgs false

end Go.Proofs.Ytehepnmagcjkaaa.PAskBytes
