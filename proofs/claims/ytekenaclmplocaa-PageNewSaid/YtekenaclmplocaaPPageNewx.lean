-- Written by a program of this session (wip/tools/mkprint.py over the kit's print).
import Derived.Test.YtekenaclmplocaaPPageNewx0
import Derived.Test.YtekenaclmplocaaPPageNewx1
import Derived.Test.YtekenaclmplocaaPPageNewx2
import Derived.Test.YtekenaclmplocaaPPageNewx3
import Derived.Test.YtekenaclmplocaaPPageNewx4
import Derived.Test.YtekenaclmplocaaPPageNewx5
import Derived.Test.YtekenaclmplocaaPPageNewx6
import Derived.Test.YtekenaclmplocaaPPageNewx7
import Derived.Test.YtekenaclmplocaaPPageNewx8
import Derived.Test.YtekenaclmplocaaPPageNewx9
import Derived.Test.YtekenaclmplocaaPPageNewx10
import Derived.Test.YtekenaclmplocaaPPageNewx11
import Derived.Test.YtekenaclmplocaaPPageNewx12
import Derived.Test.YtekenaclmplocaaPPageNewx13
import Derived.Test.YtekenaclmplocaaPPageNewx14
import Derived.Test.YtekenaclmplocaaPPageNewx15
import Derived.Test.YtekenaclmplocaaPPageNewx16
import Derived.Test.YtekenaclmplocaaPPageNewx17
import Derived.Test.YtekenaclmplocaaPPageNewx18
import Derived.Test.YtekenaclmplocaaPPageNewx19
import Derived.Test.YtekenaclmplocaaPPageNewx20
import Derived.Test.YtekenaclmplocaaPPageNewx21
import Derived.Test.YtekenaclmplocaaPPageNewx22
import Derived.Test.YtekenaclmplocaaPPageNewx23
import Derived.Test.YtekenaclmplocaaPPageNewx24
import Derived.Test.YtekenaclmplocaaPPageNewx25
namespace Go.Proofs.Ytekenaclmplocaa.PPageNew
open Go.RowKit Go.Proofs.YtekenaclmplocaaW.PrintWords Go.Proofs.YtekenaclmplocaaW.PrintLast Go.Proofs.YtekenaclmplocaaW.PrintMore
attribute [local go_sem] max2_int min2_int max_two min_two max_three min_three max_four min_four   -- for this text's walks alone
set_option linter.unusedVariables false
set_option linter.unusedSimpArgs false

end Go.Proofs.Ytekenaclmplocaa.PPageNew
