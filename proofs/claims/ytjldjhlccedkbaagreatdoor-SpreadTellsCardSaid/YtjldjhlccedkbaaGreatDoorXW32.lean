/- What the law leans on, part 33: declarations of several texts of ours, in their order. -/
import Derived.Test.YtjldjhlccedkbaaGreatDoorXW30
import Derived.Test.YtjldjhlccedkbaaGreatDoorXW31
section
namespace Go.Proofs.YtjldjhlccedkbaaGreatDoor.Pure
theorem SpreadTells : True := trivial
end Go.Proofs.YtjldjhlccedkbaaGreatDoor.Pure
namespace Go.Proofs.YtjldjhlccedkbaaGreatDoor.LSpreadTells
open Go Go.RowKit Go.Proofs.YtjldjhlccedkbaaGreatDoor.Am
set_option linter.unusedVariables false
theorem reredoslaw13_SpreadTells.walk (P : True) (a0 : ByteArray) (v1 : Value) (l1_0 : List Int) (l1_1 : List ByteArray) (b1_0 : l1_0.length ≤ maxLen) (b1_1 : l1_1.length ≤ maxLen) (v2 : Value) (l2_0 : List Int) (l2_1 : List ByteArray) (b2_0 : l2_0.length ≤ maxLen) (b2_1 : l2_1.length ≤ maxLen) (w : World) (D1 : Dr w (fun g => g < w.heap.size) (vD l1_0 l1_1 none none) v1) (D2 : Dr w (fun g => g < w.heap.size) (vD l2_0 l2_1 none none) v2) (hG : Hd.GL w) :
    Calls Tryz.prog 5 #[.string a0, v1, v2] w fun e w' => e = .returned (.bool true) ∧ Below w.heap.size w w' := by
  refine ((SpreadTells_runs a0 l1_0 l1_1 l2_0 l2_1  (by unfold maxLen at b1_0; omega) (by unfold maxLen at b1_1; omega) (by unfold maxLen at b2_0; omega) (by unfold maxLen at b2_1; omega)).2 w (fun g => g < w.heap.size) [.string a0, v1, v2] hG (fun g h => h) rfl (fun i x u hx hu => ?_)).mono ?_
  · match i with
    | 0 => cases hx; cases hu; exact .v _
    | 1 => cases hx; cases hu; exact D1
    | 2 => cases hx; cases hu; exact D2
    | i + 3 => simp at hx
  · rintro e w' ⟨v, rfl, hb, hd⟩
    rw [Dr.v_inv hd]
    exact ⟨rfl, hb⟩
end Go.Proofs.YtjldjhlccedkbaaGreatDoor.LSpreadTells
end
