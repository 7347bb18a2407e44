/- What the law leans on, part 24: declarations of several texts of ours, in their order. -/
import Derived.Test.YtjldjhlccedkbaaGreatDoorXP22
import Derived.Test.YtjldjhlccedkbaaGreatDoorXP2
import Derived.Lib.IndexAny
section
/- The signs, and an array's elements. -/
namespace Go.Proofs.YtjldjhlccedkbaaGreatDoor.Am
open Go Go.RowKit Go.Proofs.YtjldjhlccedkbaaGreatDoor.Sh
set_option linter.unusedVariables false
set_option linter.unusedSimpArgs false
set_option maxRecDepth 100000
set_option maxHeartbeats 8000000
theorem contains1_runs (s : ByteArray) (c : UInt8) : Runs Tryz.prog 114 [sD s, sD ⟨#[c]⟩] (bD (s.data.toList.contains c)) := by
  refine ⟨⟨_, Tryz.func114, rfl, by decide⟩, fun w S vs hG hS hl hv => ?_⟩
  obtain ⟨v0, v1, rfl⟩ := two hl
  have d0 := Dr.v_inv (hv 0 _ _ rfl rfl)
  have d1 := Dr.v_inv (hv 1 _ _ rfl rfl)
  subst d0 d1
  refine (Tryz.strings_Contains_one s c w).mono ?_
  rintro e w' ⟨rfl, rfl⟩
  rw [Go.Lib.contains_iff_indexByte]
  exact ⟨_, rfl, Below.refl _ _, .v _⟩
/-- one of some signs -/
def sgB (S op : ByteArray) : Bool := match op.data.toList with | [c] => S.data.toList.contains c | _ => false
def dyS : ByteArray := ⟨#[43, 45, 42, 37, 33, 38, 124, 60, 62, 61, 126]⟩
end Go.Proofs.YtjldjhlccedkbaaGreatDoor.Am
end
