/- What the law leans on, part 28: declarations of several texts of ours, in their order. -/
import Derived.Test.YtkhgpnbhnipndaaGreatDoorXFS26
import Derived.Test.YtkhgpnbhnipndaaGreatDoorXFS22
section
/- Arrays: whether they may be, whether they are the same, of one element, of a row. -/
namespace Go.Proofs.YtkhgpnbhnipndaaGreatDoor.Am
open Go Go.RowKit Go.Proofs.YtkhgpnbhnipndaaGreatDoor.Sh
set_option linter.unusedVariables false
set_option linter.unusedSimpArgs false
set_option maxRecDepth 100000
set_option maxHeartbeats 8000000
def mayB (b : ByteArray) : Bool := Nm.mayL b.data.toList
theorem mayB_runs (b : ByteArray) : Runs Tryz.prog 74 [sD b] (bD (mayB b)) := by
  have := may_runs b.data.toList
  rwa [show Nm.BA b.data.toList = b from (Nm.ba_of b).symm] at this
def good (s : List Int) (e : List ByteArray) : Bool := decide ((sizeS s).2 = 0) && decide ((e.length : Int) = (sizeS s).1) && e.all mayB
theorem may1_runs (b : ByteArray) : Runs Tryz.prog 73 [sD b] (bD (!mayB b)) := by
  have h := mayB_runs b
  refine Runs.wp Am.hT Am.hm Tryz.func73 rfl (by decide) ⟨[], [0, 2], 6⟩ ?_; ((conv => whnf); repeat (refine Gq ?_; (conv => whnf)))
  ((conv => whnf); (refine HfA h ?_); ((conv => whnf); repeat (refine Gq ?_; (conv => whnf))))
  exact TeA
theorem any_not (e : List ByteArray) : (e.any fun b => !mayB b) = !(e.all mayB) := by
  induction e with
  | nil => rfl
  | cons x l ih => rw [List.any_cons, List.all_cons, ih]; cases mayB x <;> rfl
theorem vmay_runs (s : List Int) (e : List ByteArray) (hs : s.length ≤ 9223372036854775807) (he : e.length ≤ 9223372036854775807) : Runs Tryz.prog 38 [vD s e none none] (bD (good s e)) := by
  have h1 := size_runs s hs
  have h2 := contFS_runs (l := e) (p := fun b => !mayB b) (F := 73) he (fun x _ => may1_runs x)
  rw [any_not] at h2
  unfold good
  generalize sizeS s = q at *
  obtain ⟨n, x⟩ := q
  dsimp only at *
  by_cases hx : x = 0
  · have e1 : (x == 0) = true := by rw [hx]; rfl
    by_cases hn : (e.length : Int) = n
    · have e2 : (((e.length : Nat) : Int) == n) = true := by rw [hn]; exact beq_self_eq_true _
      rw [decide_eq_true hx, decide_eq_true hn, Bool.true_and, Bool.true_and]
      generalize e.all mayB = z at *
      cases z with
      | true =>
        refine Runs.wp Am.hT Am.hm Tryz.func38 rfl (by decide) ⟨[], [0, 1, 2, 3, 4], 26⟩ ?_; ((conv => whnf); repeat (refine Gq ?_; (conv => whnf)))
        ((conv => whnf); (refine HrA h1 ?_); ((conv => whnf); repeat (refine Gq ?_; (conv => whnf))))
        refine litE e1 ?_
        ((conv => whnf); repeat (refine Gq ?_; (conv => whnf)))
        refine litE e2 ?_
        ((conv => whnf); repeat (refine Gq ?_; (conv => whnf)))
        ((conv => whnf); (refine HfA h2 ?_); ((conv => whnf); repeat (refine Gq ?_; (conv => whnf))))
        exact TeA
      | false =>
        refine Runs.wp Am.hT Am.hm Tryz.func38 rfl (by decide) ⟨[], [0, 1, 2, 3, 4], 26⟩ ?_; ((conv => whnf); repeat (refine Gq ?_; (conv => whnf)))
        ((conv => whnf); (refine HrA h1 ?_); ((conv => whnf); repeat (refine Gq ?_; (conv => whnf))))
        refine litE e1 ?_
        ((conv => whnf); repeat (refine Gq ?_; (conv => whnf)))
        refine litE e2 ?_
        ((conv => whnf); repeat (refine Gq ?_; (conv => whnf)))
        ((conv => whnf); (refine HfA h2 ?_); ((conv => whnf); repeat (refine Gq ?_; (conv => whnf))))
        exact TeA
    · have e2 : (((e.length : Nat) : Int) == n) = false := by rw [beq_eq_false_iff_ne]; exact hn
      rw [decide_eq_false hn, Bool.and_false, Bool.false_and]
      refine Runs.wp Am.hT Am.hm Tryz.func38 rfl (by decide) ⟨[], [0, 1, 2, 3, 4], 26⟩ ?_; ((conv => whnf); repeat (refine Gq ?_; (conv => whnf)))
      ((conv => whnf); (refine HrA h1 ?_); ((conv => whnf); repeat (refine Gq ?_; (conv => whnf))))
      refine litE e1 ?_
      ((conv => whnf); repeat (refine Gq ?_; (conv => whnf)))
      refine litE e2 ?_
      ((conv => whnf); repeat (refine Gq ?_; (conv => whnf)))
      exact TeA
  · have e1 : (x == 0) = false := by rw [beq_eq_false_iff_ne]; exact hx
    rw [decide_eq_false hx, Bool.false_and, Bool.false_and]
    refine Runs.wp Am.hT Am.hm Tryz.func38 rfl (by decide) ⟨[], [0, 1, 2, 3, 4], 26⟩ ?_; ((conv => whnf); repeat (refine Gq ?_; (conv => whnf)))
    ((conv => whnf); (refine HrA h1 ?_); ((conv => whnf); repeat (refine Gq ?_; (conv => whnf))))
    refine litE e1 ?_
    ((conv => whnf); repeat (refine Gq ?_; (conv => whnf)))
    exact TeA
theorem scalar_runs (a : ByteArray) : Runs Tryz.prog 42 [sD a] (vD [] [a] none none) := by
  refine Runs.wp Am.hT Am.hm Tryz.func42 rfl (by decide) ⟨[], [0, 2], 6⟩ ?_; ((conv => whnf); repeat (refine Gq ?_; (conv => whnf)))
  exact TeA
theorem cloneS_runs (l : List ByteArray) (hl : l.length ≤ 8796093022208) : Runs Tryz.prog 54 [rS l none] (rS l none) := by
  refine Runs.wp Am.hT Am.hm Tryz.func54 rfl (by decide) ⟨[], [0, 2, 4], 8⟩ ?_; ((conv => whnf); repeat (refine Gq ?_; (conv => whnf)))
  intro b hb
  cases b with
  | true =>
    have h0 : l = [] := by
      cases l with
      | nil => rfl
      | cons a l => cases hb (by simp)
    subst h0
    ((conv => whnf); repeat (refine Gq ?_; (conv => whnf)))
    exact TeA
  | false =>
    clear hb
    ((conv => whnf); repeat (refine Gq ?_; (conv => whnf)))
    refine ⟨by unfold maxLen; omega, by dsimp only; omega, ?_⟩
    ((conv => whnf); repeat (refine Gq ?_; (conv => whnf)))
    (conv => arg 1; whnf)
    exact Tel.eq (dslE rfl (by simp))
theorem vector_runs (l : List ByteArray) (hl : l.length ≤ 8796093022208) : Runs Tryz.prog 53 [rS l none] (vD [(l.length : Int)] l none none) := by
  have h := cloneS_runs l hl
  refine Runs.wp Am.hT Am.hm Tryz.func53 rfl (by decide) ⟨[], [0, 2], 9⟩ ?_; ((conv => whnf); repeat (refine Gq ?_; (conv => whnf)))
  ((conv => whnf); (refine HrA h ?_); ((conv => whnf); repeat (refine Gq ?_; (conv => whnf))))
  exact TeA
end Go.Proofs.YtkhgpnbhnipndaaGreatDoor.Am
end
