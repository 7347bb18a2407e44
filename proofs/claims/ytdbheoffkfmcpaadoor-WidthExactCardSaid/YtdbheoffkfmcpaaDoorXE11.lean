/- What the law leans on, part 12: declarations of several texts of ours, in their order. -/
import Derived.Test.YtdbheoffkfmcpaaDoorXE10
import Derived.Test.YtdbheoffkfmcpaaDoorXE9
section
/- WidthExact: what is told in a width is what the whole numbers are, and fits; what fits a width is told the same in all that are wider. Conditions: none but the statement's own. -/
namespace Go.Proofs.YtdbheoffkfmcpaaDoor.Pure
open Go.RowKit Go.Proofs.YtdbheoffkfmcpaaDoor.LS Go.Proofs.YtdbheoffkfmcpaaDoor.LExact Go.Proofs.YtdbheoffkfmcpaaDoorW.PrintWords Go.Proofs.YtdbheoffkfmcpaaDoorW.PrintLast Go.Proofs.YtdbheoffkfmcpaaDoor Go.Proofs.YtdbheoffkfmcpaaDoor.Nm
set_option linter.unusedVariables false
set_option linter.unusedSimpArgs false
theorem fits_next {x w : Int} (hw : w = 8 ∨ w = 16 ∨ w = 32 ∨ w = 64 ∨ w = 128) (h : Hd.fitsW x w = true) : Hd.fitsW x (Hd.nextW w) = true := by
  rcases hw with rfl | rfl | rfl | rfl | rfl
  · simp [Hd.fitsW, Hd.nextW] at h ⊢; omega
  · simp [Hd.fitsW, Hd.nextW] at h ⊢; omega
  · simp [Hd.fitsW, Hd.nextW]
  · simp [Hd.fitsW, Hd.nextW]
  · simp [Hd.fitsW, Hd.nextW]
theorem doW_yes {z a b w : Int} (hw : w = 8 ∨ w = 16 ∨ w = 32 ∨ w = 64 ∨ w = 128) (h : (doW z a b w).2 = true) : doW z a b w = (z, true) ∧ i64P z ∧ Hd.fitsW z w = true ∧ doW z a b (Hd.nextW w) = (z, true) := by
  unfold doW at h ⊢
  by_cases h1 : i64P z
  · by_cases h2 : Hd.fitsW a w = true
    · by_cases h3 : Hd.fitsW b w = true
      · by_cases h4 : Hd.fitsW z w = true
        · simp [h1, h2, h3, h4, fits_next hw h2, fits_next hw h3, fits_next hw h4]
        · simp [h1, h2, h3, h4] at h
      · simp [h1, h2, h3] at h
    · simp [h1, h2] at h
  · simp [h1] at h
theorem rd5 (k : Int) (h0 : 0 ≤ k) (h : k ≤ 255) : ∃ w, rd [8, 16, 32, 64, 128] (Int.tmod k 5) = w ∧ (w = 8 ∨ w = 16 ∨ w = 32 ∨ w = 64 ∨ w = 128) ∧ 0 ≤ Int.tmod k 5 ∧ Int.tmod k 5 < 5 := by
  have e : Int.tmod k 5 = k % 5 := Int.tmod_eq_emod_of_nonneg h0
  rw [e]
  have hc : k % 5 = 0 ∨ k % 5 = 1 ∨ k % 5 = 2 ∨ k % 5 = 3 ∨ k % 5 = 4 := by omega
  rcases hc with h | h | h | h | h <;> rw [h]
  · exact ⟨8, rfl, .inl rfl, by decide, by decide⟩
  · exact ⟨16, rfl, .inr (.inl rfl), by decide, by decide⟩
  · exact ⟨32, rfl, .inr (.inr (.inl rfl)), by decide, by decide⟩
  · exact ⟨64, rfl, .inr (.inr (.inr (.inl rfl))), by decide, by decide⟩
  · exact ⟨128, rfl, .inr (.inr (.inr (.inr rfl))), by decide, by decide⟩
theorem WidthExact : reredoslaw02_WidthExact.Pure := by
  intro a b k ha hb hk
  have h1 := i64_of ha
  have h2 := i64_of hb
  have hk2 := (Lit.wf_int_iff .u8 k).mp hk
  obtain ⟨w, hw, hwc, ht0, ht1⟩ := rd5 k hk2.1 hk2.2
  have hj : Ev (fun k => reredoslaw02_WidthExact.j0 k a b true (Hd.nextW w) (doW (a * b) a b w).1 (doW (a * b) a b w).2 (doW (a + b) a b w).1 (doW (a + b) a b w).2 false) true := by
    refine Ev.shift ?_
    simp only [reredoslaw02_WidthExact.j0, Bool.false_eq_true, if_false]
    refine Ev.bind (wmul_ev a b (Hd.nextW w) h1 h2) ?_
    refine Ev.bind (wadd_ev a b (Hd.nextW w) h1 h2) ?_
    simp only [if_true]
    by_cases hx : (doW (a * b) a b w).2 = true
    · obtain ⟨x1, _, _, x2⟩ := doW_yes hwc hx
      rw [x1, x2]
      simp only [if_true]
      by_cases hy : (doW (a + b) a b w).2 = true
      · obtain ⟨y1, _, _, y2⟩ := doW_yes hwc hy
        rw [y1, y2]
        simp only [if_true, beq_self_eq_true]
        exact Ev.now _
      · simp only [hy, if_false, Bool.false_eq_true]
        exact Ev.now _
    · simp only [hx, if_false, Bool.false_eq_true]
      by_cases hy : (doW (a + b) a b w).2 = true
      · obtain ⟨y1, _, _, y2⟩ := doW_yes hwc hy
        rw [y1, y2]
        simp only [if_true, beq_self_eq_true]
        exact Ev.now _
      · simp only [hy, if_false, Bool.false_eq_true]
        exact Ev.now _
  have hm := numMul_ev a b (i64_sm h1) (i64_sm h2)
  rw [told_sm (mul_sm h1 h2)] at hm
  have hs := numAdd_ev a b (i64_sm h1) (i64_sm h2)
  rw [told_sm (add_sm h1 h2)] at hs
  refine Ev.rounds ?_
  unfold reredoslaw02_WidthExact.f
  refine Ev.bind shownW ?_
  have ht2 : Int.tmod k 5 < (([8, 16, 32, 64, 128] : List Int).length : Int) := ht1
  simp only [Option.bind_some, ht0, ht2, if_true, hw]
  rw [show Hd.widthNext.f w = some (Hd.nextW w) from rfl, numOf_ev a h1.1 h1.2, numOf_ev b h2.1 h2.2]
  simp only [Option.bind_some]
  refine Ev.bind (wmul_ev a b w h1 h2) ?_
  refine Ev.bind (wadd_ev a b w h1 h2) ?_
  refine Ev.bind hm ?_
  refine Ev.bind hs ?_
  have second : Ev (fun k => if (doW (a + b) a b w).2 = true then ((Hd.numOf.f (doW (a + b) a b w).1).bind fun t123 => (if t123.toList = (numS (a + b)).toList then ((K.width_Fits.f k (doW (a + b) a b w).1 w).bind fun t124 => (reredoslaw02_WidthExact.j0 k a b true (Hd.nextW w) (doW (a * b) a b w).1 (doW (a * b) a b w).2 (doW (a + b) a b w).1 (doW (a + b) a b w).2 (!t124))) else (reredoslaw02_WidthExact.j0 k a b true (Hd.nextW w) (doW (a * b) a b w).1 (doW (a * b) a b w).2 (doW (a + b) a b w).1 (doW (a + b) a b w).2 true))) else (reredoslaw02_WidthExact.j0 k a b true (Hd.nextW w) (doW (a * b) a b w).1 (doW (a * b) a b w).2 (doW (a + b) a b w).1 (doW (a + b) a b w).2 false)) true := by
    by_cases hy : (doW (a + b) a b w).2 = true
    · simp only [hy, if_true]
      obtain ⟨y1, hi, hf, _⟩ := doW_yes hwc hy
      have e1 : (doW (a + b) a b w).1 = a + b := by rw [y1]
      rw [e1, numOf_ev (a + b) hi.1 hi.2]
      simp only [Option.bind_some, if_true]
      rw [e1, hy] at hj
      refine Ev.bind (fits_e (a + b) w) ?_
      rw [hf]
      exact hj
    · simp only [hy, if_false, Bool.false_eq_true]
      rw [Bool.eq_false_iff.mpr hy] at hj
      exact hj
  by_cases hx : (doW (a * b) a b w).2 = true
  · simp only [hx, if_true]
    simp only [hx] at second
    obtain ⟨x1, hi, hf, _⟩ := doW_yes hwc hx
    have e1 : (doW (a * b) a b w).1 = a * b := by rw [x1]
    rw [e1] at second ⊢
    rw [numOf_ev (a * b) hi.1 hi.2]
    simp only [Option.bind_some, if_true]
    refine Ev.bind (fits_e (a * b) w) ?_
    rw [hf]
    simp only [if_true]
    exact second
  · simp only [hx, if_false, Bool.false_eq_true]
    simp only [hx] at second
    exact second
end Go.Proofs.YtdbheoffkfmcpaaDoor.Pure
end
