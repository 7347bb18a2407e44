-- Written by wip/myprint.py, a program of this session over the kit's printer; Lean checks it.
import Derived.Test.YtdbheoffkfmcpaaDoorK0
import Derived.Test.YtdbheoffkfmcpaaDoorK1
import Derived.Test.YtdbheoffkfmcpaaDoorK2
import Derived.Test.YtdbheoffkfmcpaaDoorK3
import Derived.Test.YtdbheoffkfmcpaaDoorK4
import Derived.Test.YtdbheoffkfmcpaaDoorK5
import Derived.Test.YtdbheoffkfmcpaaDoorK6
import Derived.Test.YtdbheoffkfmcpaaDoorK7
import Derived.Test.YtdbheoffkfmcpaaDoorK8
import Derived.Test.YtdbheoffkfmcpaaDoorK9
namespace Go.Proofs.YtdbheoffkfmcpaaDoor.K
open Go.RowKit Go.Proofs.YtdbheoffkfmcpaaDoorW.PrintWords Go.Proofs.YtdbheoffkfmcpaaDoorW.PrintLast Go.Proofs.YtdbheoffkfmcpaaDoorW.PrintMore Go.Proofs.YtdbheoffkfmcpaaDoor.B
attribute [local go_sem] max2_int min2_int max_two min_two max_three min_three max_four min_four   -- for this text's walks alone
set_option linter.unusedVariables false
set_option linter.unusedSimpArgs false

end Go.Proofs.YtdbheoffkfmcpaaDoor.K
