/- ShapeBack: where an element stands, and which one stands there, are told there and back; each offset below the size is some element's. Conditions: the slices within the statement's own reach. -/
import Derived.Test.YtjhdnaahmiiegaaL2
import Derived.Test.YtjhdnaahmiiegaaShapeV
import Derived.Test.YtjhdnaahmiiegaaShapeShown
namespace Go.Proofs.Ytjhdnaahmiiegaa.Pure
open Go.RowKit Go.Proofs.Ytjhdnaahmiiegaa.L Go.Proofs.YtjhdnaahmiiegaaW.PrintWords Go.Proofs.YtjhdnaahmiiegaaW.PrintLast Go.Proofs.Ytjhdnaahmiiegaa Go.Proofs.Ytjhdnaahmiiegaa.Sh
set_option linter.unusedVariables false
set_option linter.unusedSimpArgs false

theorem ShapeBack : reredoslaw03_ShapeBack.Pure := by
  intro l o hl _ _ ho
  refine Ev.rounds ?_
  unfold reredoslaw03_ShapeBack.f
  refine Ev.bind shown_ev (Ev.bind (size_ev l (by simpa [maxLen] using hl)) ?_)
  have hj : ∀ n b, b = true → Ev (fun k => reredoslaw03_ShapeBack.j0 k l o true n b) true := fun n b hb => by
    subst hb
    refine Sh.Ev.shift ?_
    simp only [reredoslaw03_ShapeBack.j0, if_true]
    exact Ev.now _
  by_cases h20 : (l.length : Int) > 20
  · simp only [if_pos h20]
    exact hj _ _ rfl
  · simp only [if_neg h20]
    by_cases hs : (sizeS l).2 = 0
    · simp only [if_pos hs]
      by_cases hz : (sizeS l).1 = 0
      · rw [show ((sizeS l).1 == 0) = true from beq_iff_eq.mpr hz]
        exact hj _ _ rfl
      · rw [show ((sizeS l).1 == 0) = false from beq_eq_false_iff_ne.mpr hz]
        obtain ⟨h3, hb, hc⟩ := size_ok (l := l) (n := (sizeS l).1) (by rw [← hs])
        rcases hc with ⟨_, hc⟩ | ⟨h1, hpr, b1, b2⟩
        · exact absurd hc hz
        · have ho' : 0 ≤ o ∧ o ≤ 65535 := by
            have e1 : IntKind.u16.min = 0 := rfl
            have e2 : IntKind.u16.max = 65535 := rfl
            simp [Lit.wf] at ho
            omega
          obtain ⟨x, hx⟩ : ∃ x, x = Int.tmod (wrap64 o) (sizeS l).1 := ⟨_, rfl⟩
          have hx' : x = o % (sizeS l).1 := by rw [hx, w64 (by omega) (by omega), Int.tmod_eq_emod_of_nonneg ho'.1]
          have x0 : 0 ≤ x := by rw [hx']; exact Int.emod_nonneg _ (by omega)
          have x1 : x < (sizeS l).1 := by rw [hx']; exact Int.emod_lt_of_pos _ (by omega)
          have p1 : placeS l x = (plS l x, true) := by unfold placeS; rw [if_pos ⟨hs, x0, x1⟩]
          have p2 : placeS l (sizeS l).1 = ([], false) := by unfold placeS; rw [if_neg (by omega)]
          have q : offS l (plS l x) = (x, true) := by
            unfold offS
            rw [if_pos ⟨hs, pl_ok l x h1⟩, horner_sum l _ 0 (plS_len l x).symm, pl_sum l x h1 x0, Int.emod_eq_of_lt x0 (by omega)]
            simp
          refine Sh.Ev.shift ?_
          simp only [reredoslaw03_ShapeBack.j0, if_neg (show ¬ (false = true) by decide), if_neg hz, ← hx]
          refine Ev.bind (place_ev l x (by omega)) ?_
          rw [p1]
          refine Ev.bind (offset_ev l (plS l x) (by omega) (by rw [plS_len]; omega)) ?_
          rw [q]
          refine Ev.bind (place_ev l _ (by omega)) ?_
          rw [p2]
          simp only [if_true, plS_len]
          exact Ev.now _
    · simp only [if_neg hs]
      exact hj _ _ rfl

end Go.Proofs.Ytjhdnaahmiiegaa.Pure
