-- Written by a program of this session (wip/tools/mkprint.py over the kit's print).
import Derived.Test.YtehepnmagcjkaaaPBlobParsesx0
import Derived.Test.YtehepnmagcjkaaaPBlobParsesx1
import Derived.Test.YtehepnmagcjkaaaPBlobParsesx2
import Derived.Test.YtehepnmagcjkaaaPBlobParsesx3
import Derived.Test.YtehepnmagcjkaaaPBlobParsesx4
import Derived.Test.YtehepnmagcjkaaaPBlobParsesx5
import Derived.Test.YtehepnmagcjkaaaPBlobParsesx6
import Derived.Test.YtehepnmagcjkaaaPBlobParsesx7
import Derived.Test.YtehepnmagcjkaaaPBlobParsesx8
import Derived.Test.YtehepnmagcjkaaaPBlobParsesx9
import Derived.Test.YtehepnmagcjkaaaPBlobParsesx10
import Derived.Test.YtehepnmagcjkaaaPBlobParsesx11
import Derived.Test.YtehepnmagcjkaaaPBlobParsesx12
import Derived.Test.YtehepnmagcjkaaaPBlobParsesx13
import Derived.Test.YtehepnmagcjkaaaPBlobParsesx14
import Derived.Test.YtehepnmagcjkaaaPBlobParsesx15
import Derived.Test.YtehepnmagcjkaaaPBlobParsesx16
import Derived.Test.YtehepnmagcjkaaaPBlobParsesx17
namespace Go.Proofs.Ytehepnmagcjkaaa.PBlobParses
open Go.RowKit Go.Proofs.YtehepnmagcjkaaaW.PrintWords Go.Proofs.YtehepnmagcjkaaaW.PrintLast Go.Proofs.YtehepnmagcjkaaaW.PrintMore
attribute [local go_sem] max2_int min2_int max_two min_two max_three min_three max_four min_four   -- for this text's walks alone
set_option linter.unusedVariables false
set_option linter.unusedSimpArgs false

end Go.Proofs.Ytehepnmagcjkaaa.PBlobParses
