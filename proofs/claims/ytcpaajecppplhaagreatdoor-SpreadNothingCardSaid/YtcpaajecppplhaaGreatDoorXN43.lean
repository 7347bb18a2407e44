/- What the law leans on, part 44: declarations of several texts of ours, in their order. -/
import Derived.Test.YtcpaajecppplhaaGreatDoorXN41
import Derived.Test.YtcpaajecppplhaaGreatDoorXN42
section
/- What the document's answers for arrays, parts and texts are, plainly: the text of an array, and the array of a text: what would be told. -/
namespace Go.Proofs.YtcpaajecppplhaaGreatDoor.Tx
open Go.Lib Go.RowKit Go.Proofs.YtcpaajecppplhaaGreatDoorW.PrintWords Go.Proofs.YtcpaajecppplhaaGreatDoorW.PrintLast Go.Proofs.YtcpaajecppplhaaGreatDoor Go.Proofs.YtcpaajecppplhaaGreatDoor.Nm Go.Proofs.YtcpaajecppplhaaGreatDoor.Sh
set_option linter.unusedVariables false
set_option linter.unusedSimpArgs false
/-! ### words -/
def nm (p : L8) : L8 := (prs p).getD []
end Go.Proofs.YtcpaajecppplhaaGreatDoor.Tx
end
