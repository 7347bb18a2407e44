/- ShapeItems: a shape has as many elements as items times each one's, if it may be. Conditions: the slice within the statement's own reach. -/
import Derived.Test.YtjhdnaahmiiegaaL1
import Derived.Test.YtjhdnaahmiiegaaShapeShown
namespace Go.Proofs.Ytjhdnaahmiiegaa.Pure
open Go.RowKit Go.Proofs.Ytjhdnaahmiiegaa.L Go.Proofs.YtjhdnaahmiiegaaW.PrintWords Go.Proofs.YtjhdnaahmiiegaaW.PrintLast Go.Proofs.Ytjhdnaahmiiegaa Go.Proofs.Ytjhdnaahmiiegaa.Sh

theorem size_tail {a : Int} {l : List Int} {n : Int} (h : sizeS (a :: l) = (n, 0)) (ha : a ≠ 0) : (sizeS l).2 = 0 ∧ a * (sizeS l).1 = n ∧ 0 ≤ a ∧ a * (sizeS l).1 ≤ 4096 ∧ 0 ≤ a * (sizeS l).1 := by
  unfold sizeS at h
  by_cases h3 : 3 < (a :: l).length
  · rw [if_pos h3] at h; simp at h
  rw [if_neg h3] at h
  by_cases h5 : (a :: l).any (fun x => decide (x < 0)) = true
  · rw [if_pos h5] at h; simp at h
  rw [if_neg h5] at h
  by_cases h8 : (a :: l).any (fun x => decide (1099511627776 < x)) = true
  · rw [if_pos h8] at h; simp at h
  rw [if_neg h8] at h
  rw [List.any_cons, Bool.or_eq_true, not_or] at h5 h8
  have ha0 : ¬ a < 0 := by simpa using h5.1
  unfold sizeS
  rw [if_neg (by simp at h3 ⊢; omega), if_neg h5.2, if_neg h8.2]
  by_cases h0 : l.any (fun x => x == 0) = true
  · rw [if_pos (by rw [List.any_cons, h0, Bool.or_true])] at h
    rw [if_pos h0]
    simp at h
    refine ⟨rfl, ?_, by omega, by simp, by simp⟩
    rw [← h]; simp
  · rw [if_neg (by rw [List.any_cons, Bool.or_eq_true, not_or]; exact ⟨by simpa using ha, h0⟩)] at h
    rw [if_neg h0]
    have hp : ∀ x ∈ l, 1 ≤ x := fun x hx => by
      have a1 := any_false h5.2 x hx
      have a3 := any_false h0 x hx
      simp at a1 a3
      omega
    have hpr := pr_pos hp
    rw [pr_cons] at h
    by_cases hf : a * pr l ≤ 4096
    · rw [fin_le hf] at h
      have h1 : 1 * pr l ≤ a * pr l := Int.mul_le_mul_of_nonneg_right (by omega) (by omega)
      rw [fin_le (by omega)]
      simp at h
      exact ⟨rfl, by simpa using h, by omega, hf, by simp only; omega⟩
    · rw [fin_gt hf] at h
      simp at h

theorem ShapeItems : reredoslaw03_ShapeItems.Pure := by
  intro l hm h8 hw
  have hlen : l.length ≤ 9223372036854775807 := by omega
  refine Ev.rounds ?_
  unfold reredoslaw03_ShapeItems.f
  refine Ev.bind shown_ev (Ev.bind (size_ev l hlen) ?_)
  have hj : ∀ n b, b = true → Ev (fun k => reredoslaw03_ShapeItems.j0 k l true n b) true := fun n b hb => by
    subst hb
    exact Ev.step (f := fun _ => some true) (fun k => by simp only [reredoslaw03_ShapeItems.j0, if_true]) (Ev.now _)
  by_cases h20 : (l.length : Int) > 20
  · simp only [if_pos h20]
    exact hj _ _ rfl
  · simp only [if_neg h20]
    cases hs : sizeS l with
    | mk n e =>
      by_cases he : e = 0
      · subst he
        refine Ev.step (f := fun k => (K.shape_Items.f l).bind fun t => (K.shape_Size.f k t.2).bind fun u => if t.1 = 0 then (if n = 0 then some ((t.2.length : Int) == mx (wrap64 ((l.length : Int) - 1)) 0) else if u.2 = 0 then (if wrap64 (t.1 * u.1) = n then some ((t.2.length : Int) == mx (wrap64 ((l.length : Int) - 1)) 0) else some false) else some false) else if u.2 = 0 then (if wrap64 (t.1 * u.1) = n then some ((t.2.length : Int) == mx (wrap64 ((l.length : Int) - 1)) 0) else some false) else some false) (fun k => ?_) ?_
        · simp only [reredoslaw03_ShapeItems.j0]
          rfl
        · cases l with
          | nil =>
            rw [items_nil]
            simp only [Option.bind_some]
            refine Ev.bind (size_ev [] (by simp)) ?_
            have hn : sizeS [] = (1, 0) := by rfl
            rw [hn] at hs
            simp at hs
            subst hs
            rw [hn]
            exact ⟨0, fun k _ => by simp [mx_eq, w64]⟩
          | cons a l =>
            rw [items_cons a l (by rw [List.length_cons] at h20; omega)]
            simp only [Option.bind_some]
            refine Ev.bind (size_ev l (by simp at hlen; omega)) ?_
            rw [List.length_cons] at h20
            have hlast : ((l.length : Int) == mx (wrap64 (((a :: l).length : Int) - 1)) 0) = true := by
              rw [w64 (by simp only [List.length_cons]; omega) (by simp only [List.length_cons]; omega), mx_eq]
              simp
              omega
            have h0n : a = 0 → n = 0 := fun ha => by
              subst ha
              unfold sizeS at hs
              by_cases h3 : 3 < ((0 : Int) :: l).length
              · rw [if_pos h3] at hs; simp at hs
              rw [if_neg h3] at hs
              by_cases h5 : ((0 : Int) :: l).any (fun x => decide (x < 0)) = true
              · rw [if_pos h5] at hs; simp at hs
              rw [if_neg h5] at hs
              by_cases h8 : ((0 : Int) :: l).any (fun x => decide (1099511627776 < x)) = true
              · rw [if_pos h8] at hs; simp at hs
              rw [if_neg h8, if_pos (by simp)] at hs
              simp at hs
              omega
            by_cases ha : a = 0
            · simp only [if_pos ha, if_pos (h0n ha), hlast]
              exact Ev.now _
            · obtain ⟨t1, t2, t3, t4, t5⟩ := size_tail hs ha
              simp only [if_neg ha, if_pos t1, w64 (show -9223372036854775808 ≤ a * (sizeS l).1 by omega) (by omega), if_pos t2, hlast]
              exact Ev.now _
      · exact hj _ _ (by simpa using he)

end Go.Proofs.Ytjhdnaahmiiegaa.Pure
