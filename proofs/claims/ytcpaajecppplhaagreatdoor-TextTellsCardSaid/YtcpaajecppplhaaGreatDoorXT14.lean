/- What the law leans on, part 15: declarations of several texts of ours, in their order. -/
import Derived.Test.YtcpaajecppplhaaGreatDoorXT8
import Derived.Test.YtcpaajecppplhaaGreatDoorXT13
import Derived.Shelf.Spec.SlicesInsertGrow
section
/- slices.Insert of a part ahead of all others, num.trim and num.less, told with whose row it is that they hand back. -/
namespace Go.Proofs.YtcpaajecppplhaaGreatDoor.Hd
open Go.RowKit Go.Proofs.YtcpaajecppplhaaGreatDoorW.PrintWords Go.Proofs.YtcpaajecppplhaaGreatDoorW.PrintLast Go.Proofs.YtcpaajecppplhaaGreatDoorW.PrintMore Go.Proofs.YtcpaajecppplhaaGreatDoor.B Go.Lib Go.Shelf
set_option linter.unusedVariables false
set_option linter.unusedSimpArgs false
theorem reps_eq {xs : List Int} {cs : List Value} (h : Reps (fun (x : Int) cs => cs = [Value.int .u64 x]) 1 xs cs) : cs = nums .u64 xs := by
  apply List.ext_getElem?
  intro j
  have hl : cs.length = xs.length := by rw [h.1, Nat.mul_one]
  by_cases hj : j < xs.length
  · have h2 := h.2 j xs[j] (List.getElem?_eq_getElem hj)
    rw [Nat.mul_one, List.drop_eq_getElem_cons (by omega), List.take_succ_cons, List.take_zero] at h2
    rw [List.getElem?_eq_getElem (by omega), (List.cons.inj h2).1]
    simp [nums, hj]
  · rw [List.getElem?_eq_none (by omega), List.getElem?_eq_none (by simp [nums]; omega)]
theorem own_of_R {w : World} {B : Nat} {ok : Nat → Prop} {v : Value} {xs : List Int} (h : Kd.R (Kd.int .u64) 188 w B ok v xs) : w.ownsRow B 188 1 v xs.length (nums .u64 xs) := by
  obtain ⟨_, inner, ho, hr⟩ := h
  rw [← reps_eq hr]
  exact ho
end Go.Proofs.YtcpaajecppplhaaGreatDoor.Hd
end
