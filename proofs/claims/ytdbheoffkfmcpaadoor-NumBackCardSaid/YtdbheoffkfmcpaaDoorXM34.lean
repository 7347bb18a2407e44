/- What the law leans on, part 35: declarations of several texts of ours, in their order. -/
import Derived.Test.YtdbheoffkfmcpaaDoorXM26
import Derived.Test.YtdbheoffkfmcpaaDoorXM33
import Derived.DataShut
section
/- NumBack: an int64 is told there and back; a number's opposite's opposite is it; what is a number has its sign. Conditions: none but the statement's own. -/
namespace Go.Proofs.YtdbheoffkfmcpaaDoor.Pure
open Go.Lib Go.RowKit Go.Proofs.YtdbheoffkfmcpaaDoor.LNumBack Go.Proofs.YtdbheoffkfmcpaaDoorW.PrintWords Go.Proofs.YtdbheoffkfmcpaaDoorW.PrintLast Go.Proofs.YtdbheoffkfmcpaaDoor Go.Proofs.YtdbheoffkfmcpaaDoor.Nm
set_option linter.unusedVariables false
set_option linter.unusedSimpArgs false
theorem sgn_neg (x : Int) : sgn (-x) = -sgn x := by unfold sgn; split <;> (try split) <;> (try split) <;> (try split) <;> omega
theorem sgn_rng (x : Int) : -1 ≤ sgn x ∧ sgn x ≤ 1 := by unfold sgn; split <;> (try split) <;> omega
theorem back_j2 (a : ByteArray) : Ev (fun k => reredoslaw01_NumBack.j2 k a true true) true := by
  refine Ev.step (f := ?f) (fun k => ?h) ?g
  case h => rw [reredoslaw01_NumBack.j2]
  case g =>
    rcases num_or a with ⟨l, rfl, hl⟩ | ⟨z, rfl, hz⟩
    · rw [may_ev, hl]
      simp only [Option.bind_some]
      refine Ev.congr (fun k => (if_neg Bool.false_ne_true).trans ((if_pos trivial).trans (if_pos trivial))) ?_
      refine Ev.bind (numNeg_no l hl) ?_
      refine Ev.congr (fun k => if_pos (ba_list [])) ?_
      refine Ev.bind (numSign_no l hl) ?_
      exact Ev.now _
    · rw [mayS hz]
      simp only [Option.bind_some]
      have hn := sm_neg hz
      have n1 := numNeg_ev z hz
      have n2 := numNeg_ev (-z) hn
      rw [Int.neg_neg] at n2
      refine Ev.congr (fun k => (if_pos trivial).trans ((if_pos trivial).trans (if_pos trivial))) ?_
      refine Ev.bind n1 (Ev.bind n2 ?_)
      refine Ev.congr (fun k => if_pos rfl) ?_
      refine Ev.bind n1 (Ev.bind (numSign_ev (-z) hn) (Ev.bind (numSign_ev z hz) ?_))
      refine Ev.congr (fun k => if_pos (by have h := sgn_rng z; rw [w64 (by omega) (by omega), sgn_neg])) ?_
      refine Ev.bind n1 ?_
      rw [mayS hn]
      exact Ev.now _
theorem back_j1 (x : Int) (hx : i64P x) (a : ByteArray) : Ev (fun k => reredoslaw01_NumBack.j1 k x a true x true (sgn x)) true := by
  have hs := sm_i64 hx.1 hx.2
  refine Ev.step (f := ?f) (fun k => ?h) ?g
  case h => rw [reredoslaw01_NumBack.j1]
  case g =>
    refine Ev.congr (fun k => (if_pos rfl).trans (if_pos rfl)) ?_
    rw [numOf_ev x hx.1 hx.2]
    simp only [Option.bind_some]
    rw [mayS hs]
    simp only [Option.bind_some]
    refine Ev.congr (fun k => if_pos trivial) ?_
    refine Ev.bind (numSign_ev x hs) ?_
    rw [beq_self_eq_true]
    exact back_j2 a
theorem back_j0 (x : Int) (hx : i64P x) (a : ByteArray) (w : Int) (hw : ¬ x < 0 → w = sgn x) : Ev (fun k => reredoslaw01_NumBack.j0 k x a true x true w) true := by
  refine Ev.step (f := ?f) (fun k => ?h) ?g
  case h => rw [reredoslaw01_NumBack.j0]
  case g =>
    by_cases h : x < 0
    · refine Ev.congr (fun k => if_pos h) ?_
      have := back_j1 x hx a
      rwa [show sgn x = -1 from if_pos h] at this
    · refine Ev.congr (fun k => if_neg h) ?_
      rw [hw h]
      exact back_j1 x hx a
theorem NumBack : reredoslaw01_NumBack.Pure := by
  intro x a hx0 _
  have hx : i64P x := (Lit.wf_int_iff .i64 x).mp hx0
  have hs := sm_i64 hx.1 hx.2
  have h : Ev (fun k => reredoslaw01_NumBack.f k x a) true := by
    unfold reredoslaw01_NumBack.f
    refine Ev.bind shownN ?_
    have few : ∃ d, reredoslaw01_few.f a a = some d := by unfold reredoslaw01_few.f; split <;> exact ⟨_, rfl⟩
    obtain ⟨d, hd⟩ := few
    rw [hd]
    simp only [Option.bind_some]
    cases d with
    | false => exact Ev.congr (fun k => if_neg Bool.false_ne_true) (Ev.now _)
    | true =>
      refine Ev.congr (fun k => if_pos rfl) ?_
      rw [numOf_ev x hx.1 hx.2]
      simp only [Option.bind_some]
      rw [numInt_ev x hs, show intOfZ x = (x, true) from if_pos hx]
      simp only [Option.bind_some]
      by_cases h : x > 0
      · refine Ev.congr (fun k => if_pos h) ?_
        exact back_j0 x hx a 1 (fun _ => by unfold sgn; rw [if_neg (by omega), if_neg (by omega)])
      · refine Ev.congr (fun k => if_neg h) ?_
        exact back_j0 x hx a 0 (fun h2 => by unfold sgn; rw [if_neg h2, if_pos (by omega)])
  exact h.rounds
end Go.Proofs.YtdbheoffkfmcpaaDoor.Pure
end
