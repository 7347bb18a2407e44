/- What the law leans on, part 32: declarations of several texts of ours, in their order. -/
import Derived.Test.YtjldjhlccedkbaaGreatDoorXT30
import Derived.Test.YtjldjhlccedkbaaGreatDoorXT27
section
namespace Go.Proofs.YtjldjhlccedkbaaGreatDoor.Pure
theorem SpreadOrder : True := trivial
end Go.Proofs.YtjldjhlccedkbaaGreatDoor.Pure
namespace Go.Proofs.YtjldjhlccedkbaaGreatDoor.LSpreadOrder
open Go Go.RowKit Go.Proofs.YtjldjhlccedkbaaGreatDoor.Am
set_option linter.unusedVariables false
theorem reredoslaw13_SpreadOrder.walk (P : True) (v0 : Value) (l0_0 : List Int) (l0_1 : List ByteArray) (b0_0 : l0_0.length ≤ maxLen) (b0_1 : l0_1.length ≤ maxLen) (v1 : Value) (l1_0 : List Int) (l1_1 : List ByteArray) (b1_0 : l1_0.length ≤ maxLen) (b1_1 : l1_1.length ≤ maxLen) (a2 : Int) (w2 : (Lit.int .u8 a2).wf = true) (w : World) (D0 : Dr w (fun g => g < w.heap.size) (vD l0_0 l0_1 none none) v0) (D1 : Dr w (fun g => g < w.heap.size) (vD l1_0 l1_1 none none) v1) (hG : Hd.GL w) :
    Calls Tryz.prog 6 #[v0, v1, .int .u8 a2] w fun e w' => e = .returned (.bool true) ∧ Below w.heap.size w w' := by
  refine ((SpreadOrder_runs l0_0 l0_1 l1_0 l1_1 a2  (by unfold maxLen at b0_0; omega) (by unfold maxLen at b0_1; omega) (by unfold maxLen at b1_0; omega) (by unfold maxLen at b1_1; omega) w2).2 w (fun g => g < w.heap.size) [v0, v1, .int .u8 a2] hG (fun g h => h) rfl (fun i x u hx hu => ?_)).mono ?_
  · match i with
    | 0 => cases hx; cases hu; exact D0
    | 1 => cases hx; cases hu; exact D1
    | 2 => cases hx; cases hu; exact .v _
    | i + 3 => simp at hx
  · rintro e w' ⟨v, rfl, hb, hd⟩
    rw [Dr.v_inv hd]
    exact ⟨rfl, hb⟩
end Go.Proofs.YtjldjhlccedkbaaGreatDoor.LSpreadOrder
end
