-- Written by a program of this session (wip/tools/mkprint.py over the kit's print).
import Derived.Test.YtoofkemhikigoaaPBlockPlaysx0
import Derived.Test.YtoofkemhikigoaaPBlockPlaysx1
import Derived.Test.YtoofkemhikigoaaPBlockPlaysx2
import Derived.Test.YtoofkemhikigoaaPBlockPlaysx3
import Derived.Test.YtoofkemhikigoaaPBlockPlaysx4
import Derived.Test.YtoofkemhikigoaaPBlockPlaysx5
import Derived.Test.YtoofkemhikigoaaPBlockPlaysx6
import Derived.Test.YtoofkemhikigoaaPBlockPlaysx7
import Derived.Test.YtoofkemhikigoaaPBlockPlaysx8
import Derived.Test.YtoofkemhikigoaaPBlockPlaysx9
import Derived.Test.YtoofkemhikigoaaPBlockPlaysx10
import Derived.Test.YtoofkemhikigoaaPBlockPlaysx11
import Derived.Test.YtoofkemhikigoaaPBlockPlaysx12
namespace Go.Proofs.Ytoofkemhikigoaa.PBlockPlays
open Go.RowKit Go.Proofs.YtoofkemhikigoaaW.PrintWords Go.Proofs.YtoofkemhikigoaaW.PrintLast Go.Proofs.YtoofkemhikigoaaW.PrintMore
attribute [local go_sem] max2_int min2_int max_two min_two max_three min_three max_four min_four   -- for this text's walks alone
set_option linter.unusedVariables false
set_option linter.unusedSimpArgs false

end Go.Proofs.Ytoofkemhikigoaa.PBlockPlays
