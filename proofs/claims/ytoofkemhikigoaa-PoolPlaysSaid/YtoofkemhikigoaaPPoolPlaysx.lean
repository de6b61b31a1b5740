-- Written by a program of this session (wip/tools/mkprint.py over the kit's print).
import Derived.Test.YtoofkemhikigoaaPPoolPlaysx0
import Derived.Test.YtoofkemhikigoaaPPoolPlaysx1
import Derived.Test.YtoofkemhikigoaaPPoolPlaysx2
import Derived.Test.YtoofkemhikigoaaPPoolPlaysx3
import Derived.Test.YtoofkemhikigoaaPPoolPlaysx4
import Derived.Test.YtoofkemhikigoaaPPoolPlaysx5
import Derived.Test.YtoofkemhikigoaaPPoolPlaysx6
import Derived.Test.YtoofkemhikigoaaPPoolPlaysx7
import Derived.Test.YtoofkemhikigoaaPPoolPlaysx8
import Derived.Test.YtoofkemhikigoaaPPoolPlaysx9
import Derived.Test.YtoofkemhikigoaaPPoolPlaysx10
namespace Go.Proofs.Ytoofkemhikigoaa.PPoolPlays
open Go.RowKit Go.Proofs.YtoofkemhikigoaaW.PrintWords Go.Proofs.YtoofkemhikigoaaW.PrintLast Go.Proofs.YtoofkemhikigoaaW.PrintMore
attribute [local go_sem] max2_int min2_int max_two min_two max_three min_three max_four min_four   -- for this text's walks alone
set_option linter.unusedVariables false
set_option linter.unusedSimpArgs false

end Go.Proofs.Ytoofkemhikigoaa.PPoolPlays
