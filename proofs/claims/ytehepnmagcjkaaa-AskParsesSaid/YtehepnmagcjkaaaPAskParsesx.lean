-- Written by a program of this session (wip/tools/mkprint.py over the kit's print).
import Derived.Test.YtehepnmagcjkaaaPAskParsesx0
import Derived.Test.YtehepnmagcjkaaaPAskParsesx1
import Derived.Test.YtehepnmagcjkaaaPAskParsesx2
import Derived.Test.YtehepnmagcjkaaaPAskParsesx3
import Derived.Test.YtehepnmagcjkaaaPAskParsesx4
import Derived.Test.YtehepnmagcjkaaaPAskParsesx5
import Derived.Test.YtehepnmagcjkaaaPAskParsesx6
import Derived.Test.YtehepnmagcjkaaaPAskParsesx7
import Derived.Test.YtehepnmagcjkaaaPAskParsesx8
import Derived.Test.YtehepnmagcjkaaaPAskParsesx9
import Derived.Test.YtehepnmagcjkaaaPAskParsesx10
namespace Go.Proofs.Ytehepnmagcjkaaa.PAskParses
open Go.RowKit Go.Proofs.YtehepnmagcjkaaaW.PrintWords Go.Proofs.YtehepnmagcjkaaaW.PrintLast Go.Proofs.YtehepnmagcjkaaaW.PrintMore
attribute [local go_sem] max2_int min2_int max_two min_two max_three min_three max_four min_four   -- for this text's walks alone
set_option linter.unusedVariables false
set_option linter.unusedSimpArgs false

end Go.Proofs.Ytehepnmagcjkaaa.PAskParses
