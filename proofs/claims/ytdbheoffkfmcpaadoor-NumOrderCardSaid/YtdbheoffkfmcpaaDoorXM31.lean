/- What the law leans on, part 32: declarations of several texts of ours, in their order. -/
import Derived.Test.YtdbheoffkfmcpaaDoorXM26
import Derived.Test.YtdbheoffkfmcpaaDoorXM30
section
/- NumOrder: of two numbers one is greater, or they are the same text; the difference says which; the order goes on. Conditions: none but the statement's own. -/
namespace Go.Proofs.YtdbheoffkfmcpaaDoor.Pure
open Go.Lib Go.RowKit Go.Proofs.YtdbheoffkfmcpaaDoor.LNumOrder Go.Proofs.YtdbheoffkfmcpaaDoorW.PrintWords Go.Proofs.YtdbheoffkfmcpaaDoorW.PrintLast Go.Proofs.YtdbheoffkfmcpaaDoor Go.Proofs.YtdbheoffkfmcpaaDoor.Nm
set_option linter.unusedVariables false
set_option linter.unusedSimpArgs false
theorem sgn_gt {x : Int} : (sgn x > 0) ↔ 0 < x := by unfold sgn; split <;> (try split) <;> omega
theorem sgn_le {x : Int} : (sgn x ≤ 0) ↔ x ≤ 0 := by unfold sgn; split <;> (try split) <;> omega
theorem sgn_zero {x : Int} : sgn x = 0 ↔ x = 0 := by unfold sgn; split <;> (try split) <;> omega
theorem sgn_neg (x : Int) : sgn (-x) = -sgn x := by unfold sgn; split <;> (try split) <;> (try split) <;> (try split) <;> omega
theorem sgn_rng (x : Int) : -1 ≤ sgn x ∧ sgn x ≤ 1 := by unfold sgn; split <;> (try split) <;> omega
theorem sgn_same {x y : Int} (h : sgn x = sgn y) : sgn (x + y) = sgn x := by revert h; unfold sgn; repeat' split <;> omega
/-- the end: the order goes on -/
theorem order_end (x y z : Int) (hx : Sm x) (hy : Sm y) (hz : Sm z) :
    Ev (fun k => if sgn (x - y) > 0 then (if sgn (x - y) = sgn (y - z) then ((L.num_Cmp.f k (numS x) (numS z)).bind fun t => (some (t == sgn (x - y)))) else (some true)) else (if sgn (y - z) > 0 then (if sgn (x - y) = sgn (y - z) then ((L.num_Cmp.f k (numS x) (numS z)).bind fun t => (some (t == sgn (x - y)))) else (some true)) else ((L.num_Cmp.f k (numS x) (numS z)).bind fun t => (if t ≤ 0 then (if sgn (x - y) = sgn (y - z) then ((L.num_Cmp.f k (numS x) (numS z)).bind fun t => (some (t == sgn (x - y)))) else (some true)) else (some false))))) true := by
  have c := numCmp_ev x z hx hz
  have st : Ev (fun k => if sgn (x - y) = sgn (y - z) then ((L.num_Cmp.f k (numS x) (numS z)).bind fun t => (some (t == sgn (x - y)))) else (some true)) true := by
    by_cases h : sgn (x - y) = sgn (y - z)
    · refine Ev.congr (fun k => if_pos h) ?_
      refine Ev.bind c ?_
      rw [show x - z = (x - y) + (y - z) by omega, sgn_same h, beq_self_eq_true]
      exact Ev.now _
    · exact Ev.congr (fun k => if_neg h) (Ev.now _)
  by_cases h1 : sgn (x - y) > 0
  · exact Ev.congr (fun k => if_pos h1) st
  · refine Ev.congr (fun k => if_neg h1) ?_
    by_cases h2 : sgn (y - z) > 0
    · exact Ev.congr (fun k => if_pos h2) st
    · refine Ev.congr (fun k => if_neg h2) ?_
      refine Ev.bind c ?_
      refine Ev.congr (fun k => if_pos ?_) st
      rw [sgn_gt] at h1 h2
      rw [sgn_le]
      omega
theorem order_j0 (x y z : Int) (hx : Sm x) (hy : Sm y) (hz : Sm z) : Ev (fun k => reredoslaw01_NumOrder.j0 k (numS x) (numS y) (numS z) true false) true := by
  have hend := order_end x y z hx hy hz
  refine Ev.step (f := ?f) (fun k => ?h) ?g
  case h => rw [reredoslaw01_NumOrder.j0]
  case g =>
    refine Ev.congr (fun k => if_neg Bool.false_ne_true) ?_
    refine Ev.bind (numCmp_ev x y hx hy) (Ev.bind (numCmp_ev y z hy hz) (Ev.bind (numSub_ev x y hx hy) ?_))
    refine Ev.congr (fun k => if_pos rfl) ?_
    refine Ev.bind (numCmp_ev y x hy hx) ?_
    have e1 : sgn (x - y) = wrap64 (-sgn (y - x)) := by
      have h := sgn_rng (y - x)
      rw [w64 (by omega) (by omega), ← sgn_neg]
      congr 1
      omega
    have e2 : ((sgn (x - y) == 0) == ((numS x).toList == (numS y).toList)) = true := by
      rw [numS_list, numS_list]
      by_cases h : x = y
      · subst h
        rw [beq_self_eq_true, show sgn (x - x) = 0 from sgn_zero.2 (by omega)]
        rfl
      · have a1 : (sgn (x - y) == 0) = false := beq_eq_false_iff_ne.mpr (fun e => h (by have := sgn_zero.1 e; omega))
        have a2 : (itoa x == itoa y) = false := beq_eq_false_iff_ne.mpr (fun e => h (itoa_inj e))
        rw [a1, a2]
        rfl
    refine Ev.congr (fun k => (if_pos e1).trans (if_pos e2)) ?_
    rcases told_or (x - y) with ⟨e3, s3⟩ | ⟨e3, s3⟩
    · rw [e3]
      refine Ev.congr (fun k => if_pos rfl) ?_
      refine Ev.bind (numSign_ev (x - y) s3) ?_
      exact Ev.congr (fun k => if_pos rfl) hend
    · rw [e3]
      exact Ev.congr (fun k => if_neg (show ¬ ((BA [], (8 : Int)).2 = 0) by decide)) hend
theorem NumOrder : reredoslaw01_NumOrder.Pure := by
  intro a b c _ _ _
  have hT : ∀ a b c, Ev (fun k => reredoslaw01_NumOrder.j0 k a b c true true) true := fun a b c => Ev.step (f := fun _ => some true) (fun k => by rw [reredoslaw01_NumOrder.j0, if_pos rfl]) (Ev.now _)
  have h : Ev (fun k => reredoslaw01_NumOrder.f k a b c) true := by
    unfold reredoslaw01_NumOrder.f
    refine Ev.bind shownN ?_
    have few : ∃ d, reredoslaw01_few.f a b = some d := by unfold reredoslaw01_few.f; split <;> exact ⟨_, rfl⟩
    obtain ⟨d, hd⟩ := few
    rw [hd]
    simp only [Option.bind_some]
    cases d with
    | false => exact Ev.congr (fun k => if_neg Bool.false_ne_true) (hT a b c)
    | true =>
      refine Ev.congr (fun k => if_pos rfl) ?_
      by_cases hc : (c.size : Int) > 200
      · exact Ev.congr (fun k => if_pos hc) (hT a b c)
      refine Ev.congr (fun k => if_neg hc) ?_
      rcases num_or a with ⟨l, rfl, hl⟩ | ⟨x, rfl, hx⟩
      · rw [may_ev, hl]
        simp only [Option.bind_some]
        exact Ev.congr (fun k => if_neg Bool.false_ne_true) (hT _ _ _)
      · rw [mayS hx]
        simp only [Option.bind_some]
        refine Ev.congr (fun k => if_pos trivial) ?_
        rcases num_or b with ⟨m, rfl, hm⟩ | ⟨y, rfl, hy⟩
        · rw [may_ev, hm]
          simp only [Option.bind_some]
          exact Ev.congr (fun k => if_neg Bool.false_ne_true) (hT _ _ _)
        · rw [mayS hy]
          simp only [Option.bind_some]
          refine Ev.congr (fun k => if_pos trivial) ?_
          rcases num_or c with ⟨n, rfl, hn⟩ | ⟨z, rfl, hz⟩
          · rw [may_ev, hn]
            simp only [Option.bind_some]
            exact hT _ _ _
          · rw [mayS hz]
            simp only [Option.bind_some]
            exact order_j0 x y z hx hy hz
  exact h.rounds
end Go.Proofs.YtdbheoffkfmcpaaDoor.Pure
end
