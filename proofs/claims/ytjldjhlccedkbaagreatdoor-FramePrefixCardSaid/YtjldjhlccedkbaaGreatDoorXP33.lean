/- What the law leans on, part 34: declarations of several texts of ours, in their order. -/
import Derived.Test.YtjldjhlccedkbaaGreatDoorXP30
import Derived.Test.YtjldjhlccedkbaaGreatDoorXP32
section
namespace Go.Proofs.YtjldjhlccedkbaaGreatDoor.Pure
theorem FramePrefix : True := trivial
end Go.Proofs.YtjldjhlccedkbaaGreatDoor.Pure
namespace Go.Proofs.YtjldjhlccedkbaaGreatDoor.LFramePrefix
open Go Go.RowKit Go.Proofs.YtjldjhlccedkbaaGreatDoor.Am
set_option linter.unusedVariables false
theorem reredoslaw20_FramePrefix.walk (P : True) (v0 : Value) (o0 : List Am.OpL) (f0 : ByteArray) (b0 : o0.length ≤ maxLen) (v1 : Value) (V1 : List Am.ValL) (b1 : V1.length ≤ maxLen) (e1 : ∀ v ∈ V1, v.1.length ≤ maxLen ∧ v.2.length ≤ maxLen) (v2 : Value) (V2 : List ByteArray) (b2 : V2.length ≤ maxLen) (e2 : ∀ x ∈ V2, x.size ≤ maxLen) (a3 : Int) (w3 : (Lit.int .u8 a3).wf = true) (w : World) (D0 : Dr w (fun g => g < w.heap.size) (Am.cD o0 f0) v0) (D1 : Dr w (fun g => g < w.heap.size) (Am.rV V1) v1) (D2 : Dr w (fun g => g < w.heap.size) (Am.rS V2 none) v2) (hG : Hd.GL w) :
    Calls Tryz.prog 8 #[v0, v1, v2, .int .u8 a3] w fun e w' => e = .returned (.bool true) ∧ Below w.heap.size w w' := by
  refine ((FramePrefix_runs o0 f0 V1 V2 a3  (by unfold maxLen at b0; omega) (by unfold maxLen at b1; omega) (fun v hv => by have h := e1 v hv; unfold maxLen at h; omega) (by unfold maxLen at b2; omega) e2 w3).2 w (fun g => g < w.heap.size) [v0, v1, v2, .int .u8 a3] hG (fun g h => h) rfl (fun i x u hx hu => ?_)).mono ?_
  · match i with
    | 0 => cases hx; cases hu; exact D0
    | 1 => cases hx; cases hu; exact D1
    | 2 => cases hx; cases hu; exact D2
    | 3 => cases hx; cases hu; exact .v _
    | i + 4 => simp at hx
  · rintro e w' ⟨v, rfl, hb, hd⟩
    rw [Dr.v_inv hd]
    exact ⟨rfl, hb⟩
end Go.Proofs.YtjldjhlccedkbaaGreatDoor.LFramePrefix
end
