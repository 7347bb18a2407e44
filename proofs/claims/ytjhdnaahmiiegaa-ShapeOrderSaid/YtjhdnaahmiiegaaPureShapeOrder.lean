/- ShapeOrder: two shapes together are the same the other way round; a shape with itself, or with none, is it; if both may be, so may what they are together. Conditions: the slices within the statement's own reach. -/
import Derived.Test.YtjhdnaahmiiegaaL3
import Derived.Test.YtjhdnaahmiiegaaShapeU
import Derived.Test.YtjhdnaahmiiegaaShapeShown
namespace Go.Proofs.Ytjhdnaahmiiegaa.Pure
open Go.RowKit Go.Proofs.Ytjhdnaahmiiegaa.L Go.Proofs.YtjhdnaahmiiegaaW.PrintWords Go.Proofs.YtjhdnaahmiiegaaW.PrintLast Go.Proofs.Ytjhdnaahmiiegaa Go.Proofs.Ytjhdnaahmiiegaa.Sh
set_option linter.unusedVariables false
set_option linter.unusedSimpArgs false

theorem meetS_comm (a b : List Int) : meetS a b = meetS b a := by
  unfold meetS
  by_cases hab : a = b
  · subst hab; rfl
  · by_cases ha : a = []
    · subst ha
      by_cases hb : b = []
      · exact absurd hb.symm hab
      · simp [hb, hab]
    · by_cases hb : b = []
      · subst hb
        simp [ha, hab]
      · simp [ha, hb, hab, Ne.symm hab, fun h => hab (Eq.symm h)]
theorem meetS_of (a b : List Int) : (meetS a b).2 = 0 → (meetS a b).1 = a ∨ (meetS a b).1 = b := by
  unfold meetS
  split
  · intro _; exact .inl rfl
  · split
    · intro _; exact .inr rfl
    · intro h; simp at h
theorem ShapeOrder : reredoslaw03_ShapeOrder.Pure := by
  intro a b ha _ _ hb _ _
  refine Ev.rounds ?_
  unfold reredoslaw03_ShapeOrder.f
  refine Ev.bind shown_ev ?_
  have hj : ∀ t, t = true → Ev (fun k => reredoslaw03_ShapeOrder.j0 k a b true t) true := fun t ht => by
    subst ht
    refine Sh.Ev.shift ?_
    simp only [reredoslaw03_ShapeOrder.j0, if_true]
    exact Ev.now _
  by_cases h20 : (a.length : Int) > 20
  · simp only [if_pos h20]
    exact hj _ rfl
  · simp only [if_neg h20]
    by_cases h21 : (b.length : Int) > 20
    · exact hj _ (decide_eq_true h21)
    · rw [decide_eq_false h21]
      have e1 : meetS a a = (a, 0) := by simp [meetS]
      have e2 : meetS [] a = (a, 0) := by
        unfold meetS
        by_cases h : ([] : List Int) = a ∨ a = []
        · rw [if_pos h]
          rcases h with h | h <;> simp [h]
        · rw [if_neg h, if_pos rfl]
      have hlen : ∀ s, (s = a ∨ s = b) → s.length ≤ 20 := by
        rintro s (rfl | rfl) <;> omega
      have hs : (meetS a b).1.length ≤ 20 := by
        unfold meetS
        split
        · simp only; omega
        · split <;> simp <;> omega
      refine Sh.Ev.shift ?_
      simp only [reredoslaw03_ShapeOrder.j0, if_neg (show ¬ (false = true) by decide)]
      refine Ev.bind (meet_ev a b (by omega) (by omega)) (Ev.bind (meet_ev b a (by omega) (by omega)) (Ev.bind (meet_ev a a (by omega) (by omega)) (Ev.bind (meet_ev [] a (by simp) (by omega)) (Ev.bind (may_ev a (by omega)) ?_))))
      rw [← meetS_comm a b, e1, e2]
      have main : ∀ t : Bool, (t = true → (meetS a b).2 = 0 → ((sizeS (meetS a b).1).2 == 0) = true) → Ev (fun k => reredoslaw03_ShapeOrder.j1 k a true (meetS a b).1 (meetS a b).2 (meetS a b).1 (meetS a b).2 a 0 a 0 t) true := fun t ht => by
        refine Sh.Ev.shift ?_
        simp only [reredoslaw03_ShapeOrder.j1, if_true]
        refine Ev.bind (rsame_ev _ _ (by omega)) ?_
        simp only [decide_true, if_true]
        refine Ev.bind (rsame_ev a a (by omega)) ?_
        simp only [decide_true, if_true]
        refine Ev.bind (rsame_ev a a (by omega)) ?_
        simp only [decide_true, if_true]
        cases t with
        | false => simp only [if_neg (show ¬ (false = true) by decide)]; exact Ev.now _
        | true =>
          simp only [if_true]
          by_cases h0 : (meetS a b).2 = 0
          · simp only [if_pos h0]
            have := may_ev (meetS a b).1 (by omega)
            rw [ht rfl h0] at this
            exact Ev.bind this (Ev.now _)
          · simp only [if_neg h0]
            exact Ev.now _
      by_cases hma : ((sizeS a).2 == 0) = true
      · simp only [hma, if_true]
        refine Ev.bind (may_ev b (by omega)) (main _ ?_)
        intro hmb h0
        rcases meetS_of a b h0 with h | h
        · rw [h]; exact hma
        · rw [h]; exact hmb
      · simp only [Bool.eq_false_iff.mpr hma, if_neg (show ¬ (false = true) by decide)]
        exact main false (fun h => by cases h)

end Go.Proofs.Ytjhdnaahmiiegaa.Pure
