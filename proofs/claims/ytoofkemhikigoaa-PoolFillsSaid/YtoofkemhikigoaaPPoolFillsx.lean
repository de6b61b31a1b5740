-- Written by a program of this session (wip/tools/mkprint.py over the kit's print).
import Derived.Test.YtoofkemhikigoaaPPoolFillsx0
import Derived.Test.YtoofkemhikigoaaPPoolFillsx1
import Derived.Test.YtoofkemhikigoaaPPoolFillsx2
import Derived.Test.YtoofkemhikigoaaPPoolFillsx3
import Derived.Test.YtoofkemhikigoaaPPoolFillsx4
import Derived.Test.YtoofkemhikigoaaPPoolFillsx5
import Derived.Test.YtoofkemhikigoaaPPoolFillsx6
namespace Go.Proofs.Ytoofkemhikigoaa.PPoolFills
open Go.RowKit Go.Proofs.YtoofkemhikigoaaW.PrintWords Go.Proofs.YtoofkemhikigoaaW.PrintLast Go.Proofs.YtoofkemhikigoaaW.PrintMore
attribute [local go_sem] max2_int min2_int max_two min_two max_three min_three max_four min_four   -- for this text's walks alone
set_option linter.unusedVariables false
set_option linter.unusedSimpArgs false

end Go.Proofs.Ytoofkemhikigoaa.PPoolFills
