-- Written by a program of this session (wip/tools/mkprint.py over the kit's print).
import Derived.Test.YtehepnmagcjkaaaPBlobEqualsx0
import Derived.Test.YtehepnmagcjkaaaPBlobEqualsx1
import Derived.Test.YtehepnmagcjkaaaPBlobEqualsx2
import Derived.Test.YtehepnmagcjkaaaPBlobEqualsx3
import Derived.Test.YtehepnmagcjkaaaPBlobEqualsx4
import Derived.Test.YtehepnmagcjkaaaPBlobEqualsx5
import Derived.Test.YtehepnmagcjkaaaPBlobEqualsx6
import Derived.Test.YtehepnmagcjkaaaPBlobEqualsx7
import Derived.Test.YtehepnmagcjkaaaPBlobEqualsx8
import Derived.Test.YtehepnmagcjkaaaPBlobEqualsx9
import Derived.Test.YtehepnmagcjkaaaPBlobEqualsx10
import Derived.Test.YtehepnmagcjkaaaPBlobEqualsx11
import Derived.Test.YtehepnmagcjkaaaPBlobEqualsx12
import Derived.Test.YtehepnmagcjkaaaPBlobEqualsx13
import Derived.Test.YtehepnmagcjkaaaPBlobEqualsx14
import Derived.Test.YtehepnmagcjkaaaPBlobEqualsx15
namespace Go.Proofs.Ytehepnmagcjkaaa.PBlobEquals
open Go.RowKit Go.Proofs.YtehepnmagcjkaaaW.PrintWords Go.Proofs.YtehepnmagcjkaaaW.PrintLast Go.Proofs.YtehepnmagcjkaaaW.PrintMore
attribute [local go_sem] max2_int min2_int max_two min_two max_three min_three max_four min_four   -- for this text's walks alone
set_option linter.unusedVariables false
set_option linter.unusedSimpArgs false

end Go.Proofs.Ytehepnmagcjkaaa.PBlobEquals
