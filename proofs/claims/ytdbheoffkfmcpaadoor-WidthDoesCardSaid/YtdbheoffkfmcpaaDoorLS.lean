-- Written by wip/myprint.py, a program of this session over the kit's printer; Lean checks it.
import Derived.Test.YtdbheoffkfmcpaaDoorLS0
import Derived.Test.YtdbheoffkfmcpaaDoorLS1
namespace Go.Proofs.YtdbheoffkfmcpaaDoor.LS
open Go.RowKit Go.Proofs.YtdbheoffkfmcpaaDoorW.PrintWords Go.Proofs.YtdbheoffkfmcpaaDoorW.PrintLast Go.Proofs.YtdbheoffkfmcpaaDoorW.PrintMore Go.Proofs.YtdbheoffkfmcpaaDoor.B Go.Proofs.YtdbheoffkfmcpaaDoor.K
attribute [local go_sem] max2_int min2_int max_two min_two max_three min_three max_four min_four   -- for this text's walks alone
set_option linter.unusedVariables false
set_option linter.unusedSimpArgs false

end Go.Proofs.YtdbheoffkfmcpaaDoor.LS
