/- ShapeTells: how many elements any shape has, where any element stands, and which one stands anywhere, are the document's. Conditions: the slices within the statement's own reach. -/
import Derived.Test.YtjhdnaahmiiegaaL1
import Derived.Test.YtjhdnaahmiiegaaShapeU
import Derived.Test.YtjhdnaahmiiegaaShapeShown
namespace Go.Proofs.Ytjhdnaahmiiegaa.Pure
open Go.RowKit Go.Proofs.Ytjhdnaahmiiegaa.L Go.Proofs.YtjhdnaahmiiegaaW.PrintWords Go.Proofs.YtjhdnaahmiiegaaW.PrintLast Go.Proofs.Ytjhdnaahmiiegaa Go.Proofs.Ytjhdnaahmiiegaa.Sh
set_option linter.unusedVariables false
set_option linter.unusedSimpArgs false

theorem plS_len : ∀ (l : List Int) (x : Int), (plS l x).length = l.length
  | [], _ => rfl
  | n :: l, x => by simp [plS, plS_len l x]
theorem placeS_len (l : List Int) (x : Int) : (placeS l x).1.length ≤ l.length := by
  unfold placeS
  split
  · simp [plS_len]
  · simp
theorem ShapeTells : reredoslaw03_ShapeTells.Pure := by
  intro l m x hl _ _ hm _ _ hx
  refine Ev.rounds ?_
  unfold reredoslaw03_ShapeTells.f
  refine Ev.bind shown_ev ?_
  have hj : ∀ b, b = true → Ev (fun k => reredoslaw03_ShapeTells.j0 k l m x true b) true := fun b hb => by
    subst hb
    refine Sh.Ev.shift ?_
    simp only [reredoslaw03_ShapeTells.j0, if_true]
    exact Ev.now _
  by_cases h20 : (l.length : Int) > 20
  · simp only [if_pos h20]
    exact hj _ rfl
  · simp only [if_neg h20]
    by_cases h21 : (m.length : Int) > 20
    · exact hj _ (decide_eq_true h21)
    · rw [decide_eq_false h21]
      refine Sh.Ev.shift ?_
      simp only [reredoslaw03_ShapeTells.j0, if_neg (show ¬ (false = true) by decide)]
      refine Ev.bind (size_ev l (by omega)) (Ev.bind (rsize_ev l) (Ev.bind (offset_ev l m (by omega) (by omega)) (Ev.bind (roffset_ev l m (by omega) (by omega)) (Ev.bind (place_ev l x (by omega)) (Ev.bind (rplace_ev l x) ?_)))))
      simp only [if_true]
      refine Ev.bind (may_ev l (by omega)) (Ev.bind (rmay_ev l) ?_)
      simp only [beq_self_eq_true, if_true]
      refine Ev.bind (rsame_ev (placeS l x).1 (placeS l x).1 (by have := placeS_len l x; omega)) ?_
      simp only [decide_true, if_true]
      exact Ev.now _

end Go.Proofs.Ytjhdnaahmiiegaa.Pure
