-- Written by a program of this session (wip/tools/mkprint.py over the kit's print).
import Derived.Test.YtoofkemhikigoaaPBlockForksx0
import Derived.Test.YtoofkemhikigoaaPBlockForksx1
import Derived.Test.YtoofkemhikigoaaPBlockForksx2
import Derived.Test.YtoofkemhikigoaaPBlockForksx3
import Derived.Test.YtoofkemhikigoaaPBlockForksx4
import Derived.Test.YtoofkemhikigoaaPBlockForksx5
import Derived.Test.YtoofkemhikigoaaPBlockForksx6
import Derived.Test.YtoofkemhikigoaaPBlockForksx7
import Derived.Test.YtoofkemhikigoaaPBlockForksx8
import Derived.Test.YtoofkemhikigoaaPBlockForksx9
import Derived.Test.YtoofkemhikigoaaPBlockForksx10
import Derived.Test.YtoofkemhikigoaaPBlockForksx11
import Derived.Test.YtoofkemhikigoaaPBlockForksx12
namespace Go.Proofs.Ytoofkemhikigoaa.PBlockForks
open Go.RowKit Go.Proofs.YtoofkemhikigoaaW.PrintWords Go.Proofs.YtoofkemhikigoaaW.PrintLast Go.Proofs.YtoofkemhikigoaaW.PrintMore
attribute [local go_sem] max2_int min2_int max_two min_two max_three min_three max_four min_four   -- for this text's walks alone
set_option linter.unusedVariables false
set_option linter.unusedSimpArgs false

end Go.Proofs.Ytoofkemhikigoaa.PBlockForks
