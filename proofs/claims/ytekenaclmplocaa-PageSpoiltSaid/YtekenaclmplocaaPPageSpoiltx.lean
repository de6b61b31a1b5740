-- Written by a program of this session (wip/tools/mkprint.py over the kit's print).
import Derived.Test.YtekenaclmplocaaPPageSpoiltx0
import Derived.Test.YtekenaclmplocaaPPageSpoiltx1
import Derived.Test.YtekenaclmplocaaPPageSpoiltx2
import Derived.Test.YtekenaclmplocaaPPageSpoiltx3
import Derived.Test.YtekenaclmplocaaPPageSpoiltx4
import Derived.Test.YtekenaclmplocaaPPageSpoiltx5
import Derived.Test.YtekenaclmplocaaPPageSpoiltx6
import Derived.Test.YtekenaclmplocaaPPageSpoiltx7
import Derived.Test.YtekenaclmplocaaPPageSpoiltx8
import Derived.Test.YtekenaclmplocaaPPageSpoiltx9
import Derived.Test.YtekenaclmplocaaPPageSpoiltx10
import Derived.Test.YtekenaclmplocaaPPageSpoiltx11
import Derived.Test.YtekenaclmplocaaPPageSpoiltx12
import Derived.Test.YtekenaclmplocaaPPageSpoiltx13
import Derived.Test.YtekenaclmplocaaPPageSpoiltx14
namespace Go.Proofs.Ytekenaclmplocaa.PPageSpoilt
open Go.RowKit Go.Proofs.YtekenaclmplocaaW.PrintWords Go.Proofs.YtekenaclmplocaaW.PrintLast Go.Proofs.YtekenaclmplocaaW.PrintMore
attribute [local go_sem] max2_int min2_int max_two min_two max_three min_three max_four min_four   -- for this text's walks alone
set_option linter.unusedVariables false
set_option linter.unusedSimpArgs false

end Go.Proofs.Ytekenaclmplocaa.PPageSpoilt
