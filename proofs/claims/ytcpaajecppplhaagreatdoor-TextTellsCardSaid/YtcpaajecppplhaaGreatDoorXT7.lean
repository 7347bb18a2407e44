/- What the law leans on, part 8: declarations of several texts of ours, in their order. -/
import Derived.Maps.Own
import Derived.Test.YtcpaajecppplhaaGreatDoorXT1
section
/- Maps from texts to values, entry by entry: what a store of a new key and a look-up do. No program in sight. -/
namespace Go.Proofs.YtcpaajecppplhaaGreatDoor.Hm
open Go Go.RowKit Go.ChangeMaps Go.MapKept
set_option linter.unusedVariables false
set_option linter.unusedSimpArgs false
def at_ (E : List (ByteArray × Value)) (s : ByteArray) : Option Value := (E.find? (fun p => s == p.1)).map (·.2)
variable {P : Program} {w : World} {b : Nat} {E : List (ByteArray × Value)} {t k e : TypeId}
end Go.Proofs.YtcpaajecppplhaaGreatDoor.Hm
end
