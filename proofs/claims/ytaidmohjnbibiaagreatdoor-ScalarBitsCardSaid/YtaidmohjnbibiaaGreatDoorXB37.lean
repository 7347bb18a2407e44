/- What the law leans on, part 38: declarations of several texts of ours, in their order. -/
import Derived.Test.YtaidmohjnbibiaaGreatDoorXB30
import Derived.Test.YtaidmohjnbibiaaGreatDoorXB36
section
/- ScalarBits: what is told by <, >, = and ~ is 0 or 1; not twice is whether it isn't 0; the sign times the sign, too. Conditions: none but the statement's own. -/
namespace Go.Proofs.YtaidmohjnbibiaaGreatDoor.Pure
open Go.Lib Go.RowKit Go.Proofs.YtaidmohjnbibiaaGreatDoor.LScalarBits Go.Proofs.YtaidmohjnbibiaaGreatDoorW.PrintWords Go.Proofs.YtaidmohjnbibiaaGreatDoorW.PrintLast Go.Proofs.YtaidmohjnbibiaaGreatDoor Go.Proofs.YtaidmohjnbibiaaGreatDoor.Nm
set_option linter.unusedVariables false
set_option linter.unusedSimpArgs false
theorem told_num {x : Int} (hx : Sm x) : told x = (numS x, 0) := if_pos hx
theorem bits_j0 (x : Int) (hx : Sm x) : Ev (fun k => reredoslaw12_ScalarBits.j0 k (numS x) true false) true := by
  refine Ev.step (f := ?f) (fun k => ?h) ?g
  case h => rw [reredoslaw12_ScalarBits.j0]
  case g =>
    refine Ev.congr (fun k => if_neg Bool.false_ne_true) ?_
    rw [zero_s]
    have s0 : Sm 0 := sm_one (by omega)
    have s1 : Sm 1 := sm_one (by omega)
    by_cases h0 : x = 0
    · subst h0
      have h1 := mNot s0
      have h2 := mNot s1
      have h3 := dNe s0 s0
      rw [show b01 (decide ((0 : Int) = 0)) = 1 from rfl] at h1
      rw [show b01 (decide ((1 : Int) = 0)) = 0 from rfl] at h2
      rw [show b01 (decide ((0 : Int) ≠ 0)) = 0 from rfl] at h3
      have h4 := mSgn s0
      rw [show sgn 0 = 0 from rfl] at h4
      have h5 := dMul s0 s0
      rw [show (0 : Int) * 0 = 0 from rfl, told_num s0] at h5
      refine Ev.bind h1 (Ev.bind h2 (Ev.bind h4 (Ev.bind h5 (Ev.bind h3 ?_))))
      simp only [one_list, zero_list]
      exact Ev.now _
    · have h1 := mNot hx
      have h2 := mNot s0
      have h3 := dNe hx s0
      rw [show b01 (decide (x = 0)) = 0 from by rw [decide_eq_false h0]; rfl] at h1
      rw [show b01 (decide ((0 : Int) = 0)) = 1 from rfl] at h2
      rw [show b01 (decide (x ≠ 0)) = 1 from by rw [decide_eq_true h0]; rfl] at h3
      have h4 := mSgn hx
      have hs : Sm (sgn x) := by have := sgn_rng x; exact sm_one (by omega)
      have h5 := dMul hs hs
      rw [show sgn x * sgn x = 1 from by
        have := sgn_rng x
        have h : sgn x ≠ 0 := fun e => h0 (sgn_zero.1 e)
        rcases (by omega : sgn x = 1 ∨ sgn x = -1) with e | e <;> rw [e] <;> rfl, told_num s1] at h5
      refine Ev.bind h1 (Ev.bind h2 (Ev.bind h4 (Ev.bind h5 (Ev.bind h3 ?_))))
      simp only [one_list, zero_list]
      exact Ev.now _
theorem bits_no (x : ByteArray) : Ev (fun k => reredoslaw12_ScalarBits.j0 k x true true) true := by
  refine Ev.step (f := ?f) (fun k => ?h) ?g
  case h => rw [reredoslaw12_ScalarBits.j0]
  case g => exact Ev.congr (fun k => if_pos rfl) (Ev.now _)
theorem ScalarBits : reredoslaw12_ScalarBits.Pure := by
  intro a _
  have h : Ev (fun k => reredoslaw12_ScalarBits.f k a) true := by
    unfold reredoslaw12_ScalarBits.f
    refine Ev.bind shownS ?_
    by_cases hs : (a.size : Int) > 200
    · exact Ev.congr (fun k => if_pos hs) (bits_no a)
    · refine Ev.congr (fun k => if_neg hs) ?_
      rcases num_or a with ⟨l, rfl, hl⟩ | ⟨x, rfl, hx⟩
      · rw [may_ev, hl]
        exact bits_no _
      · rw [mayS hx]
        exact bits_j0 x hx
  exact h.rounds
end Go.Proofs.YtaidmohjnbibiaaGreatDoor.Pure
end
