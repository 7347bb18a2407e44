/- What the law leans on, part 16: declarations of several texts of ours, in their order. -/
import Derived.Test.YtcpaajecppplhaaGreatDoorXT3
import Derived.RangeFuncNested
import Derived.RangeFuncBound
import Derived.RangeFuncCalls
import Derived.RangeFuncLeaves
import Derived.Shelf.Abstract
import Derived.Shelf.RegionOpen
import Derived.OwnWalkIn
import Derived.TacticsInMore
import Derived.LoopNIn
import Derived.LoopIn
import Derived.Test.YtcpaajecppplhaaGreatDoorXT8
import Derived.Test.YtcpaajecppplhaaGreatDoorXT13
section
/- slices.Backward of a number's parts: its value gives all parts, from the end, to every loop body that keeps what it reads. -/
namespace Go.Proofs.YtcpaajecppplhaaGreatDoor.Hd
open Go.RowKit Go.Proofs.YtcpaajecppplhaaGreatDoorW.PrintWords Go.Proofs.YtcpaajecppplhaaGreatDoorW.PrintLast Go.Proofs.YtcpaajecppplhaaGreatDoorW.PrintMore Go.Proofs.YtcpaajecppplhaaGreatDoor.B Go.Shelf
attribute [local go_sem] Oper.semAt_some
set_option linter.unusedVariables false
set_option linter.unusedSimpArgs false
/-- what comes of a slice of n elements from its end, k rounds being over -/
def bk (n k : Nat) : List (Fin n) := (List.finRange n).reverse.take k
end Go.Proofs.YtcpaajecppplhaaGreatDoor.Hd
end
