/- Shapes, plainly: the places of an offset, and their sum. -/
import Derived.Test.YtjhdnaahmiiegaaShapeU
namespace Go.Proofs.Ytjhdnaahmiiegaa.Sh
open Go.RowKit Go.Proofs.YtjhdnaahmiiegaaW.PrintWords Go.Proofs.YtjhdnaahmiiegaaW.PrintLast Go.Proofs.Ytjhdnaahmiiegaa
set_option linter.unusedVariables false
set_option linter.unusedSimpArgs false
theorem plS_len : ∀ (l : List Int) (x : Int), (plS l x).length = l.length
  | [], _ => rfl
  | n :: l, x => by simp [plS, plS_len l x]
theorem pl_ok : ∀ (l : List Int) (x : Int), (∀ y ∈ l, 1 ≤ y) → okAt l (plS l x) = true
  | [], x, _ => rfl
  | n :: l, x, h => by
    have hn := h n (by simp)
    simp only [plS, okAt]
    rw [decide_eq_true (Int.emod_nonneg _ (by omega)), decide_eq_true (Int.emod_lt_of_pos _ (by omega)), pl_ok l x (fun y hy => h y (by simp [hy]))]
    rfl
theorem pl_sum : ∀ (l : List Int) (x : Int), (∀ y ∈ l, 1 ≤ y) → 0 ≤ x → sumS l (plS l x) = x % pr l
  | [], x, _, _ => by simp [sumS, plS, pr, Int.emod_one]
  | n :: l, x, h, hx => by
    have hn := h n (by simp)
    have hp := pr_pos (l := l) (fun y hy => h y (by simp [hy]))
    simp only [plS, sumS, pr_cons]
    rw [pl_sum l x (fun y hy => h y (by simp [hy])) hx]
    have e1 := Int.emod_add_mul_ediv x (pr l)
    have e2 := Int.emod_add_mul_ediv (x / pr l) n
    have e3 : x % (n * pr l) = x - n * pr l * (x / (n * pr l)) := by have := Int.emod_add_mul_ediv x (n * pr l); omega
    have e4 : x / (n * pr l) = x / pr l / n := by rw [Int.mul_comm, Int.ediv_ediv_of_nonneg (by omega)]
    rw [e3, e4]
    have e5 : x / pr l % n * pr l = (x / pr l) * pr l - n * pr l * (x / pr l / n) := by
      have : x / pr l % n = x / pr l - n * (x / pr l / n) := by omega
      rw [this, Int.sub_mul]
      congr 1
      rw [Int.mul_assoc, Int.mul_assoc, Int.mul_comm (pr l)]
    rw [e5]
    have e6 : x / pr l * pr l = pr l * (x / pr l) := Int.mul_comm _ _
    omega
end Go.Proofs.Ytjhdnaahmiiegaa.Sh
