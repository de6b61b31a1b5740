-- Written by a program of this session (wip/tools/mkprint.py over the kit's print).
import Derived.Test.YtekenaclmplocaaPPagePlacesx0
import Derived.Test.YtekenaclmplocaaPPagePlacesx1
import Derived.Test.YtekenaclmplocaaPPagePlacesx2
import Derived.Test.YtekenaclmplocaaPPagePlacesx3
import Derived.Test.YtekenaclmplocaaPPagePlacesx4
import Derived.Test.YtekenaclmplocaaPPagePlacesx5
import Derived.Test.YtekenaclmplocaaPPagePlacesx6
import Derived.Test.YtekenaclmplocaaPPagePlacesx7
import Derived.Test.YtekenaclmplocaaPPagePlacesx8
import Derived.Test.YtekenaclmplocaaPPagePlacesx9
import Derived.Test.YtekenaclmplocaaPPagePlacesx10
import Derived.Test.YtekenaclmplocaaPPagePlacesx11
import Derived.Test.YtekenaclmplocaaPPagePlacesx12
import Derived.Test.YtekenaclmplocaaPPagePlacesx13
import Derived.Test.YtekenaclmplocaaPPagePlacesx14
import Derived.Test.YtekenaclmplocaaPPagePlacesx15
import Derived.Test.YtekenaclmplocaaPPagePlacesx16
namespace Go.Proofs.Ytekenaclmplocaa.PPagePlaces
open Go.RowKit Go.Proofs.YtekenaclmplocaaW.PrintWords Go.Proofs.YtekenaclmplocaaW.PrintLast Go.Proofs.YtekenaclmplocaaW.PrintMore
attribute [local go_sem] max2_int min2_int max_two min_two max_three min_three max_four min_four   -- for this text's walks alone
set_option linter.unusedVariables false
set_option linter.unusedSimpArgs false

end Go.Proofs.Ytekenaclmplocaa.PPagePlaces
