/- What the law leans on, part 37: declarations of several texts of ours, in their order. -/
import Derived.Test.YtcpaajecppplhaaGreatDoorXT19
section
/- What num's functions tell, plainly: what is told where a text is no number; quotients and what is left, rounded down; which of two is greater; the opposite; the sign; and the example at the head of all statements. -/
namespace Go.Proofs.YtcpaajecppplhaaGreatDoor.Nm
open Go.Lib Go.RowKit Go.Proofs.YtcpaajecppplhaaGreatDoorW.PrintWords Go.Proofs.YtcpaajecppplhaaGreatDoorW.PrintLast Go.Proofs.YtcpaajecppplhaaGreatDoor
set_option linter.unusedVariables false
set_option linter.unusedSimpArgs false
/-! ### the example at the head of all statements -/
theorem litS (n : Nat) (l : List UInt8) (hd : l.all digB = true) (hv : val l = n) (hh : (l.headD 0).toNat ≠ 48) (hne : l ≠ []) : BA l = numS (n : Int) := by
  rw [numS_pos (by omega), Int.natAbs_natCast, ← hv, canon l ((all_dig l).mp hd) (fun c r e => by rw [e] at hh; exact hh) hne]
end Go.Proofs.YtcpaajecppplhaaGreatDoor.Nm
end
section
/- The document's division, plainly: figure by figure it tells the number rounded down, and what is left; and what it tells where a text is no number. -/
namespace Go.Proofs.YtcpaajecppplhaaGreatDoor.Nm
open Go.Lib Go.RowKit Go.Proofs.YtcpaajecppplhaaGreatDoorW.PrintWords Go.Proofs.YtcpaajecppplhaaGreatDoorW.PrintLast Go.Proofs.YtcpaajecppplhaaGreatDoor
set_option linter.unusedVariables false
set_option linter.unusedSimpArgs false
theorem ba_one (l : List UInt8) (i : Nat) (h : i < l.length) : (BA l).extract i (i + 1) = BA [l.getD i 0] := by
  apply ByteArray.ext
  rw [ByteArray.data_extract]
  apply Array.ext'
  simp only [BA, Array.toList_extract, List.extract, Nat.add_sub_cancel_left]
  rw [List.drop_eq_getElem_cons h, List.take_succ_cons, List.take_zero, List.getD, List.getElem?_eq_getElem h]
  rfl
end Go.Proofs.YtcpaajecppplhaaGreatDoor.Nm
end
