/- What the law leans on, part 45: declarations of several texts of ours, in their order. -/
import Derived.Test.YtcpaajecppplhaaGreatDoorXT43
import Derived.Test.YtcpaajecppplhaaGreatDoorXT30
section
namespace Go.Proofs.YtcpaajecppplhaaGreatDoor.LTextOnes
open Go.RowKit Go.Proofs.YtcpaajecppplhaaGreatDoorW.PrintWords Go.Proofs.YtcpaajecppplhaaGreatDoorW.PrintLast Go.Proofs.YtcpaajecppplhaaGreatDoorW.PrintMore Go.Proofs.YtcpaajecppplhaaGreatDoor.B
set_option linter.unusedVariables false
/-- THE ONE PURE STATEMENT of TextOnes. -/
def reredoslaw11_TextOnes.Pure : Prop := ∀ (l0_0 : List Int) (l0_1 : List ByteArray) (l1_0 : List Int) (l1_1 : List ByteArray), l0_0.length ≤ maxLen → (∀ x ∈ l0_0, (Lit.int .i64 x).wf = true) → l0_1.length ≤ maxLen → (∀ s ∈ l0_1, s.size ≤ maxLen) → l1_0.length ≤ maxLen → (∀ x ∈ l1_0, (Lit.int .i64 x).wf = true) → l1_1.length ≤ maxLen → (∀ s ∈ l1_1, s.size ≤ maxLen) → ∃ k, reredoslaw11_TextOnes.f k l0_0 l0_1 l1_0 l1_1 = some true
theorem reredoslaw11_TextOnes.walk (P : reredoslaw11_TextOnes.Pure) (A0_0 : Option Addr) (c0_0 : Nat) (l0_0 : List Int) (A0_1 : Option Addr) (c0_1 : Nat) (l0_1 : List ByteArray) (A1_0 : Option Addr) (c1_0 : Nat) (l1_0 : List Int) (A1_1 : Option Addr) (c1_1 : Nat) (l1_1 : List ByteArray) (w : World) (i0 : Hd.InI w A0_0 c0_0 l0_0) (s0 : Hd.InS w A0_1 c0_1 l0_1) (i1 : Hd.InI w A1_0 c1_0 l1_0) (s1 : Hd.InS w A1_1 c1_1 l1_1) (hG : Hd.GL w) :
    Calls Tryz.prog 6 #[.agg #[.slice A0_0 l0_0.length c0_0, .slice A0_1 l0_1.length c0_1], .agg #[.slice A1_0 l1_0.length c1_0, .slice A1_1 l1_1.length c1_1]] w fun e w' => e = .returned (.bool true) ∧ Below w.heap.size w w' := by
  obtain ⟨k, h⟩ := P l0_0 l0_1 l1_0 l1_1 i0.2.2.1 i0.2.2.2 s0.2.2.1 s0.2.2.2 i1.2.2.1 i1.2.2.2 s1.2.2.1 s1.2.2.2
  exact reredoslaw11_TextOnes.calls k A0_0 c0_0 l0_0 A0_1 c0_1 l0_1 A1_0 c1_0 l1_0 A1_1 c1_1 l1_1 true w i0.1 i0.2.1 s0.1 s0.2.1 i1.1 i1.2.1 s1.1 s1.2.1 hG h
end Go.Proofs.YtcpaajecppplhaaGreatDoor.LTextOnes
end
