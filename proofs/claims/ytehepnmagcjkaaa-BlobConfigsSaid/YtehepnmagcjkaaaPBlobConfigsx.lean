-- Written by a program of this session (wip/tools/mkprint.py over the kit's print).
import Derived.Test.YtehepnmagcjkaaaPBlobConfigsx0
import Derived.Test.YtehepnmagcjkaaaPBlobConfigsx1
import Derived.Test.YtehepnmagcjkaaaPBlobConfigsx2
import Derived.Test.YtehepnmagcjkaaaPBlobConfigsx3
import Derived.Test.YtehepnmagcjkaaaPBlobConfigsx4
import Derived.Test.YtehepnmagcjkaaaPBlobConfigsx5
import Derived.Test.YtehepnmagcjkaaaPBlobConfigsx6
import Derived.Test.YtehepnmagcjkaaaPBlobConfigsx7
import Derived.Test.YtehepnmagcjkaaaPBlobConfigsx8
import Derived.Test.YtehepnmagcjkaaaPBlobConfigsx9
namespace Go.Proofs.Ytehepnmagcjkaaa.PBlobConfigs
open Go.RowKit Go.Proofs.YtehepnmagcjkaaaW.PrintWords Go.Proofs.YtehepnmagcjkaaaW.PrintLast Go.Proofs.YtehepnmagcjkaaaW.PrintMore
attribute [local go_sem] max2_int min2_int max_two min_two max_three min_three max_four min_four   -- for this text's walks alone
set_option linter.unusedVariables false
set_option linter.unusedSimpArgs false

end Go.Proofs.Ytehepnmagcjkaaa.PBlobConfigs
