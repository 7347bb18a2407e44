/- What the law leans on, part 26: declarations of several texts of ours, in their order. -/
import Derived.Test.YtkhgpnbhnipndaaGreatDoorXFS13
section
/- Shapes, plainly. -/
namespace Go.Proofs.YtkhgpnbhnipndaaGreatDoor.Sh
open Go.Lib Go.RowKit
set_option linter.unusedVariables false
set_option linter.unusedSimpArgs false
/-! ### ShapeS -/
def pr : List Int → Int
  | [] => 1
  | a :: l => a * pr l
def fin (p : Int) : Int × Int := if p ≤ 4096 then (p, 0) else (0, 8)
theorem fin_le {p : Int} (h : p ≤ 4096) : fin p = (p, 0) := if_pos h
theorem fin_gt {p : Int} (h : ¬ p ≤ 4096) : fin p = (0, 8) := if_neg h
theorem pr_cons (a : Int) (l : List Int) : pr (a :: l) = a * pr l := rfl
theorem pr_nil : pr [] = 1 := rfl
def sizeS (l : List Int) : Int × Int :=
  if 3 < l.length then (0, 3) else if l.any (fun x => decide (x < 0)) then (0, 5) else if l.any (fun x => decide (1099511627776 < x)) then (0, 8) else if l.any (fun x => x == 0) then (0, 0)
  else fin (pr l)
theorem pr_pos : ∀ {l : List Int}, (∀ x ∈ l, 1 ≤ x) → 1 ≤ pr l
  | [], _ => by simp [pr]
  | a :: l, h => by
    have h1 := h a (by simp)
    have h2 := pr_pos (l := l) (fun x hx => h x (by simp [hx]))
    have := Int.mul_le_mul h1 h2 (by omega) (by omega)
    simpa [pr] using this
theorem any_false {l : List Int} {p : Int → Bool} (h : ¬ l.any p = true) : ∀ x ∈ l, p x = false := by
  intro x hx
  cases hp : p x with
  | false => rfl
  | true => exact absurd (List.any_eq_true.2 ⟨x, hx, hp⟩) h
/-! ### ShapeT -/
theorem size_ok {l : List Int} {n : Int} (h : sizeS l = (n, 0)) : l.length ≤ 3 ∧ (∀ x ∈ l, 0 ≤ x ∧ x ≤ 1099511627776) ∧ ((∃ x ∈ l, x = 0) ∧ n = 0 ∨ (∀ x ∈ l, 1 ≤ x) ∧ n = pr l ∧ 1 ≤ n ∧ n ≤ 4096) := by
  unfold sizeS at h
  by_cases h3 : 3 < l.length
  · rw [if_pos h3] at h; simp at h
  rw [if_neg h3] at h
  by_cases h5 : l.any (fun x => decide (x < 0)) = true
  · rw [if_pos h5] at h; simp at h
  rw [if_neg h5] at h
  by_cases h8 : l.any (fun x => decide (1099511627776 < x)) = true
  · rw [if_pos h8] at h; simp at h
  rw [if_neg h8] at h
  have hb : ∀ x ∈ l, 0 ≤ x ∧ x ≤ 1099511627776 := fun x hx => by
    have a1 := any_false h5 x hx
    have a2 := any_false h8 x hx
    simp at a1 a2
    omega
  refine ⟨by omega, hb, ?_⟩
  by_cases h0 : l.any (fun x => x == 0) = true
  · rw [if_pos h0] at h
    obtain ⟨x, hx, he⟩ := List.any_eq_true.1 h0
    simp at h
    exact .inl ⟨⟨x, hx, by simpa using he⟩, h.symm⟩
  · rw [if_neg h0] at h
    have hp : ∀ x ∈ l, 1 ≤ x := fun x hx => by
      have a3 := any_false h0 x hx
      have := hb x hx
      simp at a3
      omega
    by_cases hf : pr l ≤ 4096
    · rw [fin_le hf] at h
      simp at h
      have := pr_pos hp
      exact .inr ⟨hp, h.symm, by omega, by omega⟩
    · rw [fin_gt hf] at h
      simp at h
end Go.Proofs.YtkhgpnbhnipndaaGreatDoor.Sh
end
