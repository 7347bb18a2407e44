-- Written by wip/myprint.py, a program of this session over the kit's printer; Lean checks it.
import Derived.Test.YtdbheoffkfmcpaaDoorProg
import Derived.Below
import Derived.Deep.Draws
import Derived.Deep.AppendLies
import Derived.Maps.AppendAt
import Derived.OwnWalk
import Derived.Laws.BytesArg
import Derived.Laws.MakeOwn
import Derived.Laws.OwnMore
import Derived.Deep.OwnRows
import Derived.Tactics
import Derived.Lib.ConvBytes
import Derived.Laws.Slices
import Derived.WalkKit
import Derived.KernelRfl
import Derived.RowKit3
import Derived.Deep.LoopGhost
import Derived.Deep.QuietTactic
import Derived.BigQuiet
import Derived.WideLaws
import Derived.Deep.DeepCutAuto
import Derived.Deep.CutBlock
import Derived.Deep.RegionHeld3
import Derived.Laws.Rows
import Derived.Lib.AppendStr
import Derived.ArgAppend
import Derived.Laws.IdiomCopy
import Derived.OrdersHeld
import Derived.Laws.BitsLemmas
import Derived.RowKit
import Derived.Test.YtdbheoffkfmcpaaDoorWWords
import Derived.Test.YtdbheoffkfmcpaaDoorWLast
import Derived.Test.YtdbheoffkfmcpaaDoorWTab
import Derived.Test.YtdbheoffkfmcpaaDoorWFour
import Derived.Test.YtdbheoffkfmcpaaDoorWQPut
import Derived.Test.YtdbheoffkfmcpaaDoorWApart
import Derived.Test.YtdbheoffkfmcpaaDoorWArr
import Derived.Test.YtdbheoffkfmcpaaDoorWZeros
import Derived.Test.YtdbheoffkfmcpaaDoorWFoot
import Derived.Test.YtdbheoffkfmcpaaDoorWKept
import Derived.Test.YtdbheoffkfmcpaaDoorWShare
import Derived.Test.YtdbheoffkfmcpaaDoorWN
import Derived.Test.YtdbheoffkfmcpaaDoorWFootNe
import Derived.Test.YtdbheoffkfmcpaaDoorWAt
import Derived.Test.YtdbheoffkfmcpaaDoorWEqStruct
import Derived.Test.YtdbheoffkfmcpaaDoorWRepsOne
import Derived.Test.YtdbheoffkfmcpaaDoorWInv
import Derived.Test.YtdbheoffkfmcpaaDoorWInvWords
import Derived.Test.YtdbheoffkfmcpaaDoorWGuard
import Derived.Test.YtdbheoffkfmcpaaDoorWNEv
import Derived.Test.YtdbheoffkfmcpaaDoorWMore
import Derived.Test.YtdbheoffkfmcpaaDoorH2
import Derived.Test.YtdbheoffkfmcpaaDoorB0
import Derived.Test.YtdbheoffkfmcpaaDoorK
import Derived.Test.YtdbheoffkfmcpaaDoorLS
namespace Go.Proofs.YtdbheoffkfmcpaaDoor.LTells
open Go.RowKit Go.Proofs.YtdbheoffkfmcpaaDoorW.PrintWords Go.Proofs.YtdbheoffkfmcpaaDoorW.PrintLast Go.Proofs.YtdbheoffkfmcpaaDoorW.PrintMore Go.Proofs.YtdbheoffkfmcpaaDoor.B Go.Proofs.YtdbheoffkfmcpaaDoor.K Go.Proofs.YtdbheoffkfmcpaaDoor.LS
attribute [local go_sem] max2_int min2_int max_two min_two max_three min_three max_four min_four   -- for this text's walks alone
set_option linter.unusedVariables false
set_option linter.unusedSimpArgs false

end Go.Proofs.YtdbheoffkfmcpaaDoor.LTells
