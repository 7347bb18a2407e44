/- What the law leans on, part 42: declarations of several texts of ours, in their order. -/
import Derived.Test.YtaidmohjnbibiaaGreatDoorXB30
import Derived.Test.YtaidmohjnbibiaaGreatDoorXB40
section
/- ScalarOrder: of two numbers just one is so: below, above, or the same; the lesser one is not above the greater one, and both are the two. Conditions: none but the statement's own. -/
namespace Go.Proofs.YtaidmohjnbibiaaGreatDoor.Pure
open Go.Lib Go.RowKit Go.Proofs.YtaidmohjnbibiaaGreatDoor.LScalarOrder Go.Proofs.YtaidmohjnbibiaaGreatDoorW.PrintWords Go.Proofs.YtaidmohjnbibiaaGreatDoorW.PrintLast Go.Proofs.YtaidmohjnbibiaaGreatDoor Go.Proofs.YtaidmohjnbibiaaGreatDoor.Nm
set_option linter.unusedVariables false
set_option linter.unusedSimpArgs false
theorem bit_ba (p : Bool) : numS (b01 p) = BA [if p then 49 else 48] := by
  cases p
  · exact zero_s.symm
  · exact one_s.symm
theorem b_list (p : Bool) : (numS (b01 p)).toList = [if p then 49 else 48] := by rw [bit_ba, ba_list]
theorem order_j0 (x y : Int) (hx : Sm x) (hy : Sm y) : Ev (fun k => reredoslaw12_ScalarOrder.j0 k (numS x) (numS y) true false) true := by
  refine Ev.step (f := ?f) (fun k => ?h) ?g
  case h => rw [reredoslaw12_ScalarOrder.j0]
  case g =>
    refine Ev.congr (fun k => if_neg Bool.false_ne_true) ?_
    refine Ev.bind (dLt hx hy) (Ev.bind (dGt hx hy) (Ev.bind (dEq hx hy) (Ev.bind (dNe hx hy) (Ev.bind (dMin hx hy) (Ev.bind (dMax hx hy) ?_)))))
    have z1 : (numS (b01 (decide (x < y)))).size + (numS (b01 (decide (y < x)))).size ≤ 9223372036854775807 := by rw [bit_ba, bit_ba, ba_size, ba_size]; exact (by decide : 1 + 1 ≤ 9223372036854775807)
    have z2 : (numS (b01 (decide (x < y))) ++ numS (b01 (decide (y < x)))).size + (numS (b01 (decide (x = y)))).size ≤ 9223372036854775807 := by rw [bit_ba, bit_ba, bit_ba, ba_append, ba_size, ba_size]; exact (by decide : 2 + 1 ≤ 9223372036854775807)
    refine Ev.congr (fun k => (if_pos z1).trans (if_pos z2)) ?_
    have e3 : ((numS (b01 (decide (x < y))) ++ numS (b01 (decide (y < x)))) ++ numS (b01 (decide (x = y)))).toList = [if decide (x < y) then 49 else 48, if decide (y < x) then 49 else 48, if decide (x = y) then 49 else 48] := by
      rw [bit_ba, bit_ba, bit_ba, ba_append, ba_append, ba_list]
      rfl
    rw [e3]
    simp only [b_list, if_true]
    rcases Int.lt_trichotomy x y with h | h | h
    · rw [decide_eq_true h, decide_eq_false (show ¬ y < x by omega), decide_eq_false (show ¬ x = y by omega), decide_eq_true (show x ≠ y by omega), if_pos (show x ≤ y by omega), if_neg (show ¬ y ≤ x by omega)]
      refine Ev.congr (fun k => (if_pos rfl).trans (if_pos rfl)) (Ev.bind (numCmp_ev x y hx hy) ?_)
      refine Ev.congr (fun k => (if_pos (sgn_le.2 (by omega))).trans ((if_pos rfl).trans (if_pos rfl))) (Ev.now _)
    · subst h
      rw [decide_eq_false (show ¬ x < x by omega), decide_eq_true (show x = x from rfl), decide_eq_false (show ¬ x ≠ x by omega), if_pos (show x ≤ x by omega)]
      refine Ev.congr (fun k => (if_neg (by decide)).trans ((if_neg (by decide)).trans ((if_pos rfl).trans (if_pos rfl)))) (Ev.bind (numCmp_ev x x hx hx) ?_)
      refine Ev.congr (fun k => (if_pos (sgn_le.2 (by omega))).trans ((if_pos rfl).trans (if_pos rfl))) (Ev.now _)
    · rw [decide_eq_false (show ¬ x < y by omega), decide_eq_true h, decide_eq_false (show ¬ x = y by omega), decide_eq_true (show x ≠ y by omega), if_neg (show ¬ x ≤ y by omega), if_pos (show y ≤ x by omega)]
      refine Ev.congr (fun k => (if_neg (by decide)).trans ((if_pos rfl).trans (if_pos rfl))) (Ev.bind (numCmp_ev y x hy hx) ?_)
      refine Ev.congr (fun k => (if_pos (sgn_le.2 (by omega))).trans ((if_neg (fun e => ?_)).trans (if_pos rfl))) ?_
      · rw [numS_list, numS_list] at e
        have := itoa_inj e
        omega
      · rw [beq_self_eq_true]
        exact Ev.now _
theorem order_no (a b : ByteArray) : Ev (fun k => reredoslaw12_ScalarOrder.j0 k a b true true) true := by
  refine Ev.step (f := ?f) (fun k => ?h) ?g
  case h => rw [reredoslaw12_ScalarOrder.j0]
  case g => exact Ev.congr (fun k => if_pos rfl) (Ev.now _)
theorem ScalarOrder : reredoslaw12_ScalarOrder.Pure := by
  intro a b _ _
  have h : Ev (fun k => reredoslaw12_ScalarOrder.f k a b) true := by
    unfold reredoslaw12_ScalarOrder.f
    refine Ev.bind shownS ?_
    by_cases h1 : (a.size : Int) > 200
    · exact Ev.congr (fun k => if_pos h1) (order_no a b)
    refine Ev.congr (fun k => if_neg h1) ?_
    by_cases h2 : (b.size : Int) > 200
    · exact Ev.congr (fun k => if_pos h2) (order_no a b)
    refine Ev.congr (fun k => if_neg h2) ?_
    rcases num_or a with ⟨l, rfl, hl⟩ | ⟨x, rfl, hx⟩
    · rw [may_ev, hl]
      exact order_no _ _
    rw [mayS hx]
    simp only [Option.bind_some, if_true]
    rcases num_or b with ⟨l, rfl, hl⟩ | ⟨y, rfl, hy⟩
    · rw [may_ev, hl]
      exact order_no _ _
    rw [mayS hy]
    exact order_j0 x y hx hy
  exact h.rounds
end Go.Proofs.YtaidmohjnbibiaaGreatDoor.Pure
end
