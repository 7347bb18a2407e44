/- WidthLeast: a number fits its width, and all wider ones, and no narrower one. Conditions: none but the statement's own. -/
import Derived.Test.YtdbheoffkfmcpaaDoorWidthA
import Derived.Test.YtdbheoffkfmcpaaDoorLLeast1
namespace Go.Proofs.YtdbheoffkfmcpaaDoor.Pure
open Go.RowKit Go.Proofs.YtdbheoffkfmcpaaDoor.LS Go.Proofs.YtdbheoffkfmcpaaDoor.LLeast Go.Proofs.YtdbheoffkfmcpaaDoorW.PrintWords Go.Proofs.YtdbheoffkfmcpaaDoorW.PrintLast Go.Proofs.YtdbheoffkfmcpaaDoor Go.Proofs.YtdbheoffkfmcpaaDoor.Nm
set_option linter.unusedVariables false
set_option linter.unusedSimpArgs false

theorem least_fits {x : Int} (h : i64P x) : 8 ≤ leastZ x ∧ leastZ x ≤ 64 ∧ ∀ w, w = 8 ∨ w = 16 ∨ w = 32 ∨ w = 64 ∨ w = 128 → (Hd.fitsW x w != decide (w ≥ leastZ x)) = false := by
  have h1 := h.1
  have h2 := h.2
  have e64 : inW x 64 = true := by simp [inW, h1, h2]
  have e128 : inW x 128 = true := by simp [inW]
  by_cases c8 : -128 ≤ x ∧ x ≤ 127
  · have e8 : inW x 8 = true := by simp [inW, c8]
    have e16 : inW x 16 = true := by simp [inW]; omega
    have e32 : inW x 32 = true := by simp [inW]; omega
    have el : leastZ x = 8 := by simp [leastZ, e8]
    rw [el]
    refine ⟨by decide, by decide, ?_⟩
    rintro w (rfl | rfl | rfl | rfl | rfl) <;> rw [fits_in h] <;> simp [e8, e16, e32, e64, e128]
  · have e8 : inW x 8 = false := by simp [inW]; omega
    by_cases c16 : -32768 ≤ x ∧ x ≤ 32767
    · have e16 : inW x 16 = true := by simp [inW, c16]
      have e32 : inW x 32 = true := by simp [inW]; omega
      have el : leastZ x = 16 := by simp [leastZ, e8, e16]
      rw [el]
      refine ⟨by decide, by decide, ?_⟩
      rintro w (rfl | rfl | rfl | rfl | rfl) <;> rw [fits_in h] <;> simp [e8, e16, e32, e64, e128]
    · have e16 : inW x 16 = false := by simp [inW]; omega
      by_cases c32 : -2147483648 ≤ x ∧ x ≤ 2147483647
      · have e32 : inW x 32 = true := by simp [inW, c32]
        have el : leastZ x = 32 := by simp [leastZ, e8, e16, e32]
        rw [el]
        refine ⟨by decide, by decide, ?_⟩
        rintro w (rfl | rfl | rfl | rfl | rfl) <;> rw [fits_in h] <;> simp [e8, e16, e32, e64, e128]
      · have e32 : inW x 32 = false := by simp [inW]; omega
        have el : leastZ x = 64 := by simp [leastZ, e8, e16, e32, e64]
        rw [el]
        refine ⟨by decide, by decide, ?_⟩
        rintro w (rfl | rfl | rfl | rfl | rfl) <;> rw [fits_in h] <;> simp [e8, e16, e32, e64, e128]
theorem wl_step {x : Int} (h : i64P x) (i : Nat) (hi : i < 5) (hn : Ev (fun k => reredoslaw02_WidthLeast.l0 k x true (leastZ x) [8, 16, 32, 64, 128] ((i + 1 : Nat) : Int)) true) : Ev (fun k => reredoslaw02_WidthLeast.l0 k x true (leastZ x) [8, 16, 32, 64, 128] (i : Int)) true := by
  obtain ⟨w, hw⟩ : ∃ w, w = rd [8, 16, 32, 64, 128] (i : Int) := ⟨_, rfl⟩
  have hm : w = 8 ∨ w = 16 ∨ w = 32 ∨ w = 64 ∨ w = 128 := by
    rw [rd_nat] at hw
    match i, hi with
    | 0, _ => exact .inl hw
    | 1, _ => exact .inr (.inl hw)
    | 2, _ => exact .inr (.inr (.inl hw))
    | 3, _ => exact .inr (.inr (.inr (.inl hw)))
    | 4, _ => exact .inr (.inr (.inr (.inr hw)))
  have hf := (least_fits h).2.2 w hm
  refine Ev.step (fun k => ?_) (Ev.bind (f := fun k t113 => if (t113 != (decide (w ≥ leastZ x))) = true then (some false) else reredoslaw02_WidthLeast.l0 k x true (leastZ x) [8, 16, 32, 64, 128] ((i + 1 : Nat) : Int)) (fits_e x w) (by simp only [hf, Bool.false_eq_true, if_false]; exact hn))
  simp only [reredoslaw02_WidthLeast.l0]
  rw [if_pos (show (i : Int) < (([8, 16, 32, 64, 128] : List Int).length : Int) from by simp only [List.length_cons, List.length_nil]; omega), if_pos (by omega), ← hw, w64 (by omega) (by omega)]
  rfl
theorem WidthLeast : reredoslaw02_WidthLeast.Pure := by
  intro x hx
  have h := i64_of hx
  refine Ev.rounds ?_
  unfold reredoslaw02_WidthLeast.f
  refine Ev.bind shownW ?_
  rw [numOf_ev x h.1 h.2]
  simp only [Option.bind_some]
  rw [widthOf_ev x (i64_sm h)]
  simp only [Option.bind_some]
  have hend : Ev (fun k => reredoslaw02_WidthLeast.l0 k x true (leastZ x) [8, 16, 32, 64, 128] ((5 : Nat) : Int)) true := by
    have h1 := (least_fits h).1
    have h2 := (least_fits h).2.1
    refine Ev.step (f := fun _ => some true) (fun k => ?_) (Ev.now _)
    simp only [reredoslaw02_WidthLeast.l0]
    rw [if_neg (by simp), if_pos trivial, if_pos h2, decide_eq_true h1]
  exact wl_step h 0 (by decide) (wl_step h 1 (by decide) (wl_step h 2 (by decide) (wl_step h 3 (by decide) (wl_step h 4 (by decide) hend))))

end Go.Proofs.YtdbheoffkfmcpaaDoor.Pure
