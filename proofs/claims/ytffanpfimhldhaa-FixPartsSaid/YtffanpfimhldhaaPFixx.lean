-- Written by a program of this session (wip/tools/xprint.py) for this claim.
import Derived.Test.YtffanpfimhldhaaPFixx0
import Derived.Test.YtffanpfimhldhaaPFixx1
import Derived.Test.YtffanpfimhldhaaPFixx2
import Derived.Test.YtffanpfimhldhaaPFixx3
import Derived.Test.YtffanpfimhldhaaPFixx4
import Derived.Test.YtffanpfimhldhaaPFixx5
namespace Go.Proofs.Ytffanpfimhldhaa.PFix
open Go.RowKit Go.Proofs.YtffanpfimhldhaaW.PrintWords Go.Proofs.YtffanpfimhldhaaW.PrintLast Go.Proofs.YtffanpfimhldhaaW.PrintMore
attribute [local go_sem] max2_int min2_int max_two min_two max_three min_three max_four min_four   -- for this text's walks alone
set_option linter.unusedVariables false
set_option linter.unusedSimpArgs false

end Go.Proofs.Ytffanpfimhldhaa.PFix
