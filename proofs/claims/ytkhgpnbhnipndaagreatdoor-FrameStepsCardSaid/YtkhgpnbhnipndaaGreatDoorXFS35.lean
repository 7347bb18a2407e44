/- What the law leans on, part 36: declarations of several texts of ours, in their order. -/
import Derived.Test.YtkhgpnbhnipndaaGreatDoorXFS32
import Derived.Test.YtkhgpnbhnipndaaGreatDoorXFS34
section
namespace Go.Proofs.YtkhgpnbhnipndaaGreatDoor.Pure
theorem FrameSteps : True := trivial
end Go.Proofs.YtkhgpnbhnipndaaGreatDoor.Pure
namespace Go.Proofs.YtkhgpnbhnipndaaGreatDoor.LFrameSteps
open Go Go.RowKit Go.Proofs.YtkhgpnbhnipndaaGreatDoor.Am
set_option linter.unusedVariables false
theorem reredoslaw20_FrameSteps.walk (P : True) (v0 : Value) (o0 : List Am.OpL) (f0 : ByteArray) (b0 : o0.length ≤ maxLen) (v1 : Value) (V1 : List Am.ValL) (b1 : V1.length ≤ maxLen) (e1 : ∀ v ∈ V1, v.1.length ≤ maxLen ∧ v.2.length ≤ maxLen) (a2 : Int) (w2 : (Lit.int .i64 a2).wf = true) (w : World) (D0 : Dr w (fun g => g < w.heap.size) (Am.cD o0 f0) v0) (D1 : Dr w (fun g => g < w.heap.size) (Am.rV V1) v1) (hG : Hd.GL w) :
    Calls Tryz.prog 3 #[v0, v1, .int .i64 a2] w fun e w' => e = .returned (.bool true) ∧ Below w.heap.size w w' := by
  refine ((FrameSteps_runs o0 f0 V1 a2  (by unfold maxLen at b0; omega) (by unfold maxLen at b1; omega) (fun v hv => by have h := e1 v hv; unfold maxLen at h; omega) w2).2 w (fun g => g < w.heap.size) [v0, v1, .int .i64 a2] hG (fun g h => h) rfl (fun i x u hx hu => ?_)).mono ?_
  · match i with
    | 0 => cases hx; cases hu; exact D0
    | 1 => cases hx; cases hu; exact D1
    | 2 => cases hx; cases hu; exact .v _
    | i + 3 => simp at hx
  · rintro e w' ⟨v, rfl, hb, hd⟩
    rw [Dr.v_inv hd]
    exact ⟨rfl, hb⟩
end Go.Proofs.YtkhgpnbhnipndaaGreatDoor.LFrameSteps
end
