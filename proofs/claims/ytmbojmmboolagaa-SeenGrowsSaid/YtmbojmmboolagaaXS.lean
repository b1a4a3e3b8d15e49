/- What functions of the program and of Go's library answer: each as a plain Lean function, with its walk (laid by wip/xprint.py, a program of this session, over the kit's print). Conditions: those that each statement names. -/
import Derived.Test.YtmbojmmboolagaaXS0
import Derived.Test.YtmbojmmboolagaaXS1
import Derived.Test.YtmbojmmboolagaaXS2
import Derived.Test.YtmbojmmboolagaaXS3
import Derived.Test.YtmbojmmboolagaaXS4
import Derived.Test.YtmbojmmboolagaaXS5
import Derived.Test.YtmbojmmboolagaaXS6
namespace Go.Proofs.Ytmbojmmboolagaa.XS
open Go.RowKit Go.Proofs.YtmbojmmboolagaaW.PrintWords Go.Proofs.YtmbojmmboolagaaW.PrintLast Go.Proofs.YtmbojmmboolagaaW.PrintMore
attribute [local go_sem] max2_int min2_int max_two min_two max_three min_three max_four min_four   -- for this text's walks alone
set_option linter.unusedVariables false
set_option linter.unusedSimpArgs false

end Go.Proofs.Ytmbojmmboolagaa.XS
