/- What the law leans on, part 49: declarations of several texts of ours, in their order. -/
import Derived.Test.YtcpaajecppplhaaGreatDoorXT47
import Derived.Test.YtcpaajecppplhaaGreatDoorXT30
section
namespace Go.Proofs.YtcpaajecppplhaaGreatDoor.LTextTells
open Go.RowKit Go.Proofs.YtcpaajecppplhaaGreatDoorW.PrintWords Go.Proofs.YtcpaajecppplhaaGreatDoorW.PrintLast Go.Proofs.YtcpaajecppplhaaGreatDoorW.PrintMore Go.Proofs.YtcpaajecppplhaaGreatDoor.B
set_option linter.unusedVariables false
/-- THE ONE PURE STATEMENT of TextTells. -/
def reredoslaw11_TextTells.Pure : Prop := ∀ (l0_0 : List Int) (l0_1 : List ByteArray) (a1 : ByteArray), l0_0.length ≤ maxLen → (∀ x ∈ l0_0, (Lit.int .i64 x).wf = true) → l0_1.length ≤ maxLen → (∀ s ∈ l0_1, s.size ≤ maxLen) → a1.size ≤ 140737488351232 → ∃ k, reredoslaw11_TextTells.f k l0_0 l0_1 a1 = some true
theorem reredoslaw11_TextTells.walk (P : reredoslaw11_TextTells.Pure) (A0_0 : Option Addr) (c0_0 : Nat) (l0_0 : List Int) (A0_1 : Option Addr) (c0_1 : Nat) (l0_1 : List ByteArray) (a1 : ByteArray) (w : World) (i0 : Hd.InI w A0_0 c0_0 l0_0) (s0 : Hd.InS w A0_1 c0_1 l0_1) (w1 : a1.size ≤ 140737488351232) (hG : Hd.GL w) :
    Calls Tryz.prog 3 #[.agg #[.slice A0_0 l0_0.length c0_0, .slice A0_1 l0_1.length c0_1], .string a1] w fun e w' => e = .returned (.bool true) ∧ Below w.heap.size w w' := by
  obtain ⟨k, h⟩ := P l0_0 l0_1 a1 i0.2.2.1 i0.2.2.2 s0.2.2.1 s0.2.2.2 w1
  exact reredoslaw11_TextTells.calls k A0_0 c0_0 l0_0 A0_1 c0_1 l0_1 a1 true w i0.1 i0.2.1 s0.1 s0.2.1 hG h
end Go.Proofs.YtcpaajecppplhaaGreatDoor.LTextTells
end
