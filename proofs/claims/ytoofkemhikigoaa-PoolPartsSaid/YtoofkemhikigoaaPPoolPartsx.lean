-- Written by a program of this session (wip/tools/mkprint.py over the kit's print).
import Derived.Test.YtoofkemhikigoaaPPoolPartsx0
import Derived.Test.YtoofkemhikigoaaPPoolPartsx1
import Derived.Test.YtoofkemhikigoaaPPoolPartsx2
import Derived.Test.YtoofkemhikigoaaPPoolPartsx3
import Derived.Test.YtoofkemhikigoaaPPoolPartsx4
import Derived.Test.YtoofkemhikigoaaPPoolPartsx5
import Derived.Test.YtoofkemhikigoaaPPoolPartsx6
import Derived.Test.YtoofkemhikigoaaPPoolPartsx7
import Derived.Test.YtoofkemhikigoaaPPoolPartsx8
import Derived.Test.YtoofkemhikigoaaPPoolPartsx9
namespace Go.Proofs.Ytoofkemhikigoaa.PPoolParts
open Go.RowKit Go.Proofs.YtoofkemhikigoaaW.PrintWords Go.Proofs.YtoofkemhikigoaaW.PrintLast Go.Proofs.YtoofkemhikigoaaW.PrintMore
attribute [local go_sem] max2_int min2_int max_two min_two max_three min_three max_four min_four   -- for this text's walks alone
set_option linter.unusedVariables false
set_option linter.unusedSimpArgs false

end Go.Proofs.Ytoofkemhikigoaa.PPoolParts
