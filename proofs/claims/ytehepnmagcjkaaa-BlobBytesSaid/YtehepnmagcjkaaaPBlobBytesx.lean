-- Written by a program of this session (wip/tools/mkprint.py over the kit's print).
import Derived.Test.YtehepnmagcjkaaaPBlobBytesx0
import Derived.Test.YtehepnmagcjkaaaPBlobBytesx1
import Derived.Test.YtehepnmagcjkaaaPBlobBytesx2
import Derived.Test.YtehepnmagcjkaaaPBlobBytesx3
import Derived.Test.YtehepnmagcjkaaaPBlobBytesx4
import Derived.Test.YtehepnmagcjkaaaPBlobBytesx5
import Derived.Test.YtehepnmagcjkaaaPBlobBytesx6
import Derived.Test.YtehepnmagcjkaaaPBlobBytesx7
import Derived.Test.YtehepnmagcjkaaaPBlobBytesx8
import Derived.Test.YtehepnmagcjkaaaPBlobBytesx9
import Derived.Test.YtehepnmagcjkaaaPBlobBytesx10
import Derived.Test.YtehepnmagcjkaaaPBlobBytesx11
import Derived.Test.YtehepnmagcjkaaaPBlobBytesx12
import Derived.Test.YtehepnmagcjkaaaPBlobBytesx13
import Derived.Test.YtehepnmagcjkaaaPBlobBytesx14
import Derived.Test.YtehepnmagcjkaaaPBlobBytesx15
import Derived.Test.YtehepnmagcjkaaaPBlobBytesx16
namespace Go.Proofs.Ytehepnmagcjkaaa.PBlobBytes
open Go.RowKit Go.Proofs.YtehepnmagcjkaaaW.PrintWords Go.Proofs.YtehepnmagcjkaaaW.PrintLast Go.Proofs.YtehepnmagcjkaaaW.PrintMore
attribute [local go_sem] max2_int min2_int max_two min_two max_three min_three max_four min_four   -- for this text's walks alone
set_option linter.unusedVariables false
set_option linter.unusedSimpArgs false

end Go.Proofs.Ytehepnmagcjkaaa.PBlobBytes
