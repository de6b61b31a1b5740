-- Written by a program of this session (wip/tools/mkprint.py over the kit's print).
import Derived.Test.YtoofkemhikigoaaPBlockOrderx0
import Derived.Test.YtoofkemhikigoaaPBlockOrderx1
import Derived.Test.YtoofkemhikigoaaPBlockOrderx2
import Derived.Test.YtoofkemhikigoaaPBlockOrderx3
import Derived.Test.YtoofkemhikigoaaPBlockOrderx4
import Derived.Test.YtoofkemhikigoaaPBlockOrderx5
import Derived.Test.YtoofkemhikigoaaPBlockOrderx6
import Derived.Test.YtoofkemhikigoaaPBlockOrderx7
namespace Go.Proofs.Ytoofkemhikigoaa.PBlockOrder
open Go.RowKit Go.Proofs.YtoofkemhikigoaaW.PrintWords Go.Proofs.YtoofkemhikigoaaW.PrintLast Go.Proofs.YtoofkemhikigoaaW.PrintMore
attribute [local go_sem] max2_int min2_int max_two min_two max_three min_three max_four min_four   -- for this text's walks alone
set_option linter.unusedVariables false
set_option linter.unusedSimpArgs false

end Go.Proofs.Ytoofkemhikigoaa.PBlockOrder
