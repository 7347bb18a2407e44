/- What the law leans on, part 34: declarations of several texts of ours, in their order. -/
import Derived.Test.YtkhgpnbhnipndaaGreatDoorXFS12
import Derived.SliceStrings
import Derived.ChangeSame
import Derived.WalkKit
import Derived.ProofKit
import Derived.OpenShut
section
/-! An array among a law's arguments, opened as data. -/
namespace Go.Proofs.YtkhgpnbhnipndaaGreatDoor.Am
open Go Go.RowKit Go.ChangeShapes Go.WideShapes Go.ChangeAt
set_option linter.unusedVariables false
set_option linter.unusedSimpArgs false
section
variable {H : Type} {enc : TypeId × Value → H} {P : Program} {w : World} {base : Nat} {held : Bool} {r : Reach}
theorem Dr.sl_one {S : Nat → Prop} {z n : Nat} {l : List D} {c : Option Nat} {v : Value} (h : Dr w S (.sl z l n c) v) : v.oneCell' = true := by cases h <;> rfl
theorem add_is (g o i : Nat) : (⟨g, o, none⟩ : Addr).add i = ⟨g, o + i, none⟩ := by
  unfold Addr.add
  split
  · rename_i h; rw [h]; rfl
  · rfl
end
end Go.Proofs.YtkhgpnbhnipndaaGreatDoor.Am
end
