-- Written by wip/myprint.py, a program of this session over the kit's printer; Lean checks it.
import Derived.Test.YtjhdnaahmiiegaaProg
import Derived.Below
import Derived.Deep.Draws
import Derived.Deep.AppendLies
import Derived.Maps.AppendAt
import Derived.OwnWalk
import Derived.Laws.BytesArg
import Derived.Laws.MakeOwn
import Derived.Laws.OwnMore
import Derived.Deep.OwnRows
import Derived.Tactics
import Derived.Lib.ConvBytes
import Derived.Laws.Slices
import Derived.WalkKit
import Derived.KernelRfl
import Derived.RowKit3
import Derived.Deep.LoopGhost
import Derived.Deep.QuietTactic
import Derived.BigQuiet
import Derived.WideLaws
import Derived.Deep.DeepCutAuto
import Derived.Deep.CutBlock
import Derived.Deep.RegionHeld3
import Derived.Laws.Rows
import Derived.Lib.AppendStr
import Derived.ArgAppend
import Derived.Laws.IdiomCopy
import Derived.OrdersHeld
import Derived.Laws.BitsLemmas
import Derived.RowKit
import Derived.Test.YtjhdnaahmiiegaaWWords
import Derived.Test.YtjhdnaahmiiegaaWLast
import Derived.Test.YtjhdnaahmiiegaaWTab
import Derived.Test.YtjhdnaahmiiegaaWFour
import Derived.Test.YtjhdnaahmiiegaaWQPut
import Derived.Test.YtjhdnaahmiiegaaWApart
import Derived.Test.YtjhdnaahmiiegaaWArr
import Derived.Test.YtjhdnaahmiiegaaWZeros
import Derived.Test.YtjhdnaahmiiegaaWFoot
import Derived.Test.YtjhdnaahmiiegaaWKept
import Derived.Test.YtjhdnaahmiiegaaWShare
import Derived.Test.YtjhdnaahmiiegaaWN
import Derived.Test.YtjhdnaahmiiegaaWFootNe
import Derived.Test.YtjhdnaahmiiegaaWAt
import Derived.Test.YtjhdnaahmiiegaaWEqStruct
import Derived.Test.YtjhdnaahmiiegaaWRepsOne
import Derived.Test.YtjhdnaahmiiegaaWInv
import Derived.Test.YtjhdnaahmiiegaaWInvWords
import Derived.Test.YtjhdnaahmiiegaaWGuard
import Derived.Test.YtjhdnaahmiiegaaWNEv
import Derived.Test.YtjhdnaahmiiegaaWMore
import Derived.Test.YtjhdnaahmiiegaaH3
import Derived.Test.YtjhdnaahmiiegaaB0
import Derived.Test.YtjhdnaahmiiegaaK
namespace Go.Proofs.Ytjhdnaahmiiegaa.L
open Go.RowKit Go.Proofs.YtjhdnaahmiiegaaW.PrintWords Go.Proofs.YtjhdnaahmiiegaaW.PrintLast Go.Proofs.YtjhdnaahmiiegaaW.PrintMore Go.Proofs.Ytjhdnaahmiiegaa.B Go.Proofs.Ytjhdnaahmiiegaa.K
attribute [local go_sem] max2_int min2_int max_two min_two max_three min_three max_four min_four   -- for this text's walks alone
set_option linter.unusedVariables false
set_option linter.unusedSimpArgs false

end Go.Proofs.Ytjhdnaahmiiegaa.L
