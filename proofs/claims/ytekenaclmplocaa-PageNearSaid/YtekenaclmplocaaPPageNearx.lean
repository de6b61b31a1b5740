-- Written by a program of this session (wip/tools/mkprint.py over the kit's print).
import Derived.Test.YtekenaclmplocaaPPageNearx0
import Derived.Test.YtekenaclmplocaaPPageNearx1
import Derived.Test.YtekenaclmplocaaPPageNearx2
import Derived.Test.YtekenaclmplocaaPPageNearx3
import Derived.Test.YtekenaclmplocaaPPageNearx4
import Derived.Test.YtekenaclmplocaaPPageNearx5
import Derived.Test.YtekenaclmplocaaPPageNearx6
import Derived.Test.YtekenaclmplocaaPPageNearx7
import Derived.Test.YtekenaclmplocaaPPageNearx8
import Derived.Test.YtekenaclmplocaaPPageNearx9
import Derived.Test.YtekenaclmplocaaPPageNearx10
import Derived.Test.YtekenaclmplocaaPPageNearx11
import Derived.Test.YtekenaclmplocaaPPageNearx12
import Derived.Test.YtekenaclmplocaaPPageNearx13
import Derived.Test.YtekenaclmplocaaPPageNearx14
import Derived.Test.YtekenaclmplocaaPPageNearx15
namespace Go.Proofs.Ytekenaclmplocaa.PPageNear
open Go.RowKit Go.Proofs.YtekenaclmplocaaW.PrintWords Go.Proofs.YtekenaclmplocaaW.PrintLast Go.Proofs.YtekenaclmplocaaW.PrintMore
attribute [local go_sem] max2_int min2_int max_two min_two max_three min_three max_four min_four   -- for this text's walks alone
set_option linter.unusedVariables false
set_option linter.unusedSimpArgs false

end Go.Proofs.Ytekenaclmplocaa.PPageNear
