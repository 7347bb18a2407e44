/- What the law leans on, part 41: declarations of several texts of ours, in their order. -/
import Derived.Test.YtcpaajecppplhaaGreatDoorXN22
import Derived.Test.YtcpaajecppplhaaGreatDoorXN39
section
/- The text of an array, and the array of a text, plainly: what is told is read, just as it was; what is read has the very text. -/
namespace Go.Proofs.YtcpaajecppplhaaGreatDoor.Tx
open Go.Lib Go.Proofs.YtcpaajecppplhaaGreatDoor.Nm Go.Proofs.YtcpaajecppplhaaGreatDoor.Sh
set_option linter.unusedVariables false
set_option linter.unusedSimpArgs false
abbrev L8 := List UInt8
/-- what stands behind the low mark -/
def low : L8 → L8
  | [] => []
  | c :: r => if c.toNat = 95 then r else c :: r
def unl : L8 → L8
  | [] => []
  | c :: r => if c.toNat = 95 then 45 :: r else c :: r
/-- a part as a number -/
def prs (p : L8) : Option L8 := if (low p).all digB = true ∧ mayL (unl p) = true then some (unl p) else none
def AllM (e : List L8) : Prop := ∀ x ∈ e, mayL x = true
/-- an array that may be -/
def Good (s : List Int) (e : List L8) : Prop := sizeS s = ((e.length : Int), 0) ∧ AllM e
end Go.Proofs.YtcpaajecppplhaaGreatDoor.Tx
end
