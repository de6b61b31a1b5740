-- Written by a program of this session (wip/tools/mkprint.py over the kit's print).
import Derived.Test.YtehepnmagcjkaaaPBlobSpoiltx0
import Derived.Test.YtehepnmagcjkaaaPBlobSpoiltx1
import Derived.Test.YtehepnmagcjkaaaPBlobSpoiltx2
import Derived.Test.YtehepnmagcjkaaaPBlobSpoiltx3
import Derived.Test.YtehepnmagcjkaaaPBlobSpoiltx4
import Derived.Test.YtehepnmagcjkaaaPBlobSpoiltx5
import Derived.Test.YtehepnmagcjkaaaPBlobSpoiltx6
import Derived.Test.YtehepnmagcjkaaaPBlobSpoiltx7
import Derived.Test.YtehepnmagcjkaaaPBlobSpoiltx8
import Derived.Test.YtehepnmagcjkaaaPBlobSpoiltx9
import Derived.Test.YtehepnmagcjkaaaPBlobSpoiltx10
import Derived.Test.YtehepnmagcjkaaaPBlobSpoiltx11
import Derived.Test.YtehepnmagcjkaaaPBlobSpoiltx12
namespace Go.Proofs.Ytehepnmagcjkaaa.PBlobSpoilt
open Go.RowKit Go.Proofs.YtehepnmagcjkaaaW.PrintWords Go.Proofs.YtehepnmagcjkaaaW.PrintLast Go.Proofs.YtehepnmagcjkaaaW.PrintMore
attribute [local go_sem] max2_int min2_int max_two min_two max_three min_three max_four min_four   -- for this text's walks alone
set_option linter.unusedVariables false
set_option linter.unusedSimpArgs false

end Go.Proofs.Ytehepnmagcjkaaa.PBlobSpoilt
