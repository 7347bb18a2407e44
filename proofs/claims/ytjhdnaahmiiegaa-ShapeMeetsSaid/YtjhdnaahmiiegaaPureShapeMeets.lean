/- ShapeMeets: any two shapes together, whether they are the same, and any one's items, are the document's. Conditions: the slices within the statement's own reach. -/
import Derived.Test.YtjhdnaahmiiegaaLM1
import Derived.Test.YtjhdnaahmiiegaaShapeU
import Derived.Test.YtjhdnaahmiiegaaShapeShown
namespace Go.Proofs.Ytjhdnaahmiiegaa.Pure
open Go.RowKit Go.Proofs.Ytjhdnaahmiiegaa.LM Go.Proofs.YtjhdnaahmiiegaaW.PrintWords Go.Proofs.YtjhdnaahmiiegaaW.PrintLast Go.Proofs.Ytjhdnaahmiiegaa Go.Proofs.Ytjhdnaahmiiegaa.Sh
set_option linter.unusedVariables false
set_option linter.unusedSimpArgs false
theorem shownM_ev : Ev (fun k => LM.reredoslaw03_shown.f k) true := Ev.of LM.reredoslaw03_shown.mono (k := 10) (by kernel_rfl)
theorem rmeet_ev (a b : List Int) (ha : a.length ≤ 20) : Ev (fun k => KM.reredosref03_Meet.f k a b) (meetS a b) := by
  unfold KM.reredosref03_Meet.f
  have hj : ∀ t, (t = true ↔ (a = b ∨ b = [])) → Ev (fun k => KM.reredosref03_Meet.j0 k a b t) (meetS a b) := fun t ht => by
    refine Sh.Ev.shift ?_
    simp only [KM.reredosref03_Meet.j0, meetS]
    by_cases h : t = true
    · simp only [if_pos h, if_pos (ht.1 h)]
      exact Ev.now _
    · simp only [if_neg h, if_neg (fun h' => h (ht.2 h'))]
      by_cases he : a = []
      · simp only [if_pos (show (a.length : Int) = 0 by rw [he]; rfl), if_pos he]
        exact Ev.now _
      · simp only [if_neg (show ¬ (a.length : Int) = 0 from fun h' => he (List.eq_nil_of_length_eq_zero (by omega))), if_neg he]
        exact Ev.now _
  by_cases hb : b = []
  · simp only [if_pos (show (b.length : Int) = 0 by rw [hb]; rfl)]
    exact hj true (by simp [hb])
  · simp only [if_neg (show ¬ (b.length : Int) = 0 from fun h' => hb (List.eq_nil_of_length_eq_zero (by omega)))]
    refine Ev.bind (rsame_ev a b (by omega)) (hj _ ?_)
    simp [hb]
theorem meetS_len (a b : List Int) (ha : a.length ≤ 20) (hb : b.length ≤ 20) : (meetS a b).1.length ≤ 20 := by
  unfold meetS
  split
  · exact ha
  · split
    · exact hb
    · simp
theorem ShapeMeets : reredoslaw03_ShapeMeets.Pure := by
  intro a b ha _ _ hb _ _
  refine Ev.rounds ?_
  unfold reredoslaw03_ShapeMeets.f
  refine Ev.bind shownM_ev ?_
  have hj : ∀ t, t = true → Ev (fun k => reredoslaw03_ShapeMeets.j0 k a b true t) true := fun t ht => by
    subst ht
    refine Sh.Ev.shift ?_
    simp only [reredoslaw03_ShapeMeets.j0, if_true]
    exact Ev.now _
  by_cases h20 : (a.length : Int) > 20
  · simp only [if_pos h20]
    exact hj _ rfl
  · simp only [if_neg h20]
    by_cases h21 : (b.length : Int) > 20
    · exact hj _ (decide_eq_true h21)
    · rw [decide_eq_false h21]
      have items : ∃ n l, K.shape_Items.f a = some (n, l) ∧ KM.reredosref03_Items.f a = some (n, l) ∧ l.length ≤ 20 := by
        cases a with
        | nil => exact ⟨1, [], items_nil, rfl, by simp⟩
        | cons x a =>
          rw [List.length_cons] at h20
          refine ⟨x, a, items_cons x a (by omega), ?_, by omega⟩
          unfold KM.reredosref03_Items.f
          rw [if_neg (by simp only [List.length_cons]; omega), if_pos (by simp only [List.length_cons]; omega), if_pos (by simp only [List.length_cons]; omega)]
          rfl
      obtain ⟨n, l, i1, i2, i3⟩ := items
      refine Sh.Ev.shift ?_
      simp only [reredoslaw03_ShapeMeets.j0, if_neg (show ¬ (false = true) by decide)]
      refine Ev.bind (meet_ev a b (by omega) (by omega)) (Ev.bind (rmeet_ev a b (by omega)) ?_)
      simp only [i1, i2, Option.bind_some, if_true]
      refine Ev.bind (rsame_ev (meetS a b).1 (meetS a b).1 (by have := meetS_len a b (by omega) (by omega); omega)) ?_
      simp only [decide_true, if_true]
      refine Ev.bind (same_ev a b (by omega)) (Ev.bind (rsame_ev a b (by omega)) ?_)
      simp only [beq_self_eq_true, if_true]
      refine Ev.bind (rsame_ev l l (by omega)) ?_
      simp only [decide_true]
      exact Ev.now _

end Go.Proofs.Ytjhdnaahmiiegaa.Pure
