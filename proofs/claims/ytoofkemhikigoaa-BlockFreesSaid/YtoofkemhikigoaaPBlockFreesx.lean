-- Written by a program of this session (wip/tools/mkprint.py over the kit's print).
import Derived.Test.YtoofkemhikigoaaPBlockFreesx0
import Derived.Test.YtoofkemhikigoaaPBlockFreesx1
import Derived.Test.YtoofkemhikigoaaPBlockFreesx2
import Derived.Test.YtoofkemhikigoaaPBlockFreesx3
import Derived.Test.YtoofkemhikigoaaPBlockFreesx4
import Derived.Test.YtoofkemhikigoaaPBlockFreesx5
import Derived.Test.YtoofkemhikigoaaPBlockFreesx6
import Derived.Test.YtoofkemhikigoaaPBlockFreesx7
import Derived.Test.YtoofkemhikigoaaPBlockFreesx8
import Derived.Test.YtoofkemhikigoaaPBlockFreesx9
import Derived.Test.YtoofkemhikigoaaPBlockFreesx10
import Derived.Test.YtoofkemhikigoaaPBlockFreesx11
import Derived.Test.YtoofkemhikigoaaPBlockFreesx12
namespace Go.Proofs.Ytoofkemhikigoaa.PBlockFrees
open Go.RowKit Go.Proofs.YtoofkemhikigoaaW.PrintWords Go.Proofs.YtoofkemhikigoaaW.PrintLast Go.Proofs.YtoofkemhikigoaaW.PrintMore
attribute [local go_sem] max2_int min2_int max_two min_two max_three min_three max_four min_four   -- for this text's walks alone
set_option linter.unusedVariables false
set_option linter.unusedSimpArgs false

end Go.Proofs.Ytoofkemhikigoaa.PBlockFrees
