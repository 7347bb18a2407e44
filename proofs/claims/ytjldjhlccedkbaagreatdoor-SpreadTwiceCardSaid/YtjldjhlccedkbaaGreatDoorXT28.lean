/- What the law leans on, part 29: declarations of several texts of ours, in their order. -/
import Derived.Test.YtjldjhlccedkbaaGreatDoorXT26
import Derived.Test.YtjldjhlccedkbaaGreatDoorXT27
section
namespace Go.Proofs.YtjldjhlccedkbaaGreatDoor.Pure
theorem SpreadTwice : True := trivial
end Go.Proofs.YtjldjhlccedkbaaGreatDoor.Pure
namespace Go.Proofs.YtjldjhlccedkbaaGreatDoor.LSpreadTwice
open Go Go.RowKit Go.Proofs.YtjldjhlccedkbaaGreatDoor.Am
set_option linter.unusedVariables false
theorem reredoslaw13_SpreadTwice.walk (P : True) (v0 : Value) (l0_0 : List Int) (l0_1 : List ByteArray) (b0_0 : l0_0.length ≤ maxLen) (b0_1 : l0_1.length ≤ maxLen) (w : World) (D0 : Dr w (fun g => g < w.heap.size) (vD l0_0 l0_1 none none) v0) (hG : Hd.GL w) :
    Calls Tryz.prog 7 #[v0] w fun e w' => e = .returned (.bool true) ∧ Below w.heap.size w w' := by
  refine ((SpreadTwice_runs l0_0 l0_1  (by unfold maxLen at b0_0; omega) (by unfold maxLen at b0_1; omega)).2 w (fun g => g < w.heap.size) [v0] hG (fun g h => h) rfl (fun i x u hx hu => ?_)).mono ?_
  · match i with
    | 0 => cases hx; cases hu; exact D0
    | i + 1 => simp at hx
  · rintro e w' ⟨v, rfl, hb, hd⟩
    rw [Dr.v_inv hd]
    exact ⟨rfl, hb⟩
end Go.Proofs.YtjldjhlccedkbaaGreatDoor.LSpreadTwice
end
