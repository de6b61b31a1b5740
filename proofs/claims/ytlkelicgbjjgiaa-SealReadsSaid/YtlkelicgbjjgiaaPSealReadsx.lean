-- Written by a program of this session (wip/tools/mkprint.py over the kit's print).
import Derived.Test.YtlkelicgbjjgiaaPSealReadsx0
import Derived.Test.YtlkelicgbjjgiaaPSealReadsx1
import Derived.Test.YtlkelicgbjjgiaaPSealReadsx2
import Derived.Test.YtlkelicgbjjgiaaPSealReadsx3
namespace Go.Proofs.Ytlkelicgbjjgiaa.PSealReads
open Go.RowKit Go.Proofs.YtlkelicgbjjgiaaW.PrintWords Go.Proofs.YtlkelicgbjjgiaaW.PrintLast Go.Proofs.YtlkelicgbjjgiaaW.PrintMore
attribute [local go_sem] max2_int min2_int max_two min_two max_three min_three max_four min_four   -- for this text's walks alone
set_option linter.unusedVariables false
set_option linter.unusedSimpArgs false

end Go.Proofs.Ytlkelicgbjjgiaa.PSealReads
