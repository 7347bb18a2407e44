-- Written by wip/myprint.py, a program of this session over the kit's printer; Lean checks it.
import Derived.Test.YtjhdnaahmiiegaaK0
import Derived.Test.YtjhdnaahmiiegaaK1
import Derived.Test.YtjhdnaahmiiegaaK2
import Derived.Test.YtjhdnaahmiiegaaK3
import Derived.Test.YtjhdnaahmiiegaaK4
namespace Go.Proofs.Ytjhdnaahmiiegaa.K
open Go.RowKit Go.Proofs.YtjhdnaahmiiegaaW.PrintWords Go.Proofs.YtjhdnaahmiiegaaW.PrintLast Go.Proofs.YtjhdnaahmiiegaaW.PrintMore Go.Proofs.Ytjhdnaahmiiegaa.B
attribute [local go_sem] max2_int min2_int max_two min_two max_three min_three max_four min_four   -- for this text's walks alone
set_option linter.unusedVariables false
set_option linter.unusedSimpArgs false

end Go.Proofs.Ytjhdnaahmiiegaa.K
