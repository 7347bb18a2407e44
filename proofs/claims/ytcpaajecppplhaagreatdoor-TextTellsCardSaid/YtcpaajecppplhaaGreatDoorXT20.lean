/- What the law leans on, part 21: declarations of several texts of ours, in their order. -/
import Derived.Test.YtcpaajecppplhaaGreatDoorXT7
import Derived.Test.YtcpaajecppplhaaGreatDoorXT19
import Derived.Carry
section
/- scalar.Dyad and scalar.Monad: the map of functions that each call makes, the look-up of the sign, and the call of what was found; strings.Contains of one letter. -/
namespace Go.Proofs.YtcpaajecppplhaaGreatDoor.Hd
open Go.RowKit Go.Proofs.YtcpaajecppplhaaGreatDoorW.PrintWords Go.Proofs.YtcpaajecppplhaaGreatDoorW.PrintLast Go.Proofs.YtcpaajecppplhaaGreatDoorW.PrintMore Go.Proofs.YtcpaajecppplhaaGreatDoor.B Go.ChangeMaps Go.MapKept Go.Shelf Go.Proofs.YtcpaajecppplhaaGreatDoor.Hm Go.Proofs.YtcpaajecppplhaaGreatDoor
set_option linter.unusedVariables false
set_option linter.unusedSimpArgs false
theorem ba_eq {s : ByteArray} {l : List UInt8} (h : s.toList = l) : s = ⟨l.toArray⟩ := by
  rw [Nm.ba_of s, Nm.ba_list] at h
  rw [Nm.ba_of s, h, Nm.BA]
/-! ### strings.Contains of one letter -/
def contains.f (a0 a1 : ByteArray) : Option Bool := if a1.toList.length = 1 then some (decide (0 ≤ Lib.indexByte a0.data.toList (a1.toList.headD 0))) else none
theorem contains.calls (a0 a1 : ByteArray) (r : Bool) (w : World) (h : contains.f a0 a1 = some r) :
    Calls Tryz.prog 136 #[.string a0, .string a1] w fun e w' => e = .returned (.bool r) ∧ Drawn0 w w' := by
  unfold contains.f at h
  split at h
  · rename_i hl
    obtain ⟨c, hc⟩ := List.length_eq_one_iff.1 hl
    rw [hc] at h
    cases h
    rw [ba_eq hc]
    exact (Tryz.strings_Contains_one a0 c w).mono (fun e w' h => ⟨h.1, 0, h.2⟩)
  · cases h
end Go.Proofs.YtcpaajecppplhaaGreatDoor.Hd
end
