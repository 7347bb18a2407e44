/- WidthTells: the width of any text, whether any number fits any width, the greatest one of any, and the next one, are the document's. Conditions: none but the statement's own. -/
import Derived.Test.YtdbheoffkfmcpaaDoorWidthA
import Derived.Test.YtdbheoffkfmcpaaDoorLTells1
namespace Go.Proofs.YtdbheoffkfmcpaaDoor.Pure
open Go.RowKit Go.Proofs.YtdbheoffkfmcpaaDoor.LS Go.Proofs.YtdbheoffkfmcpaaDoor.LTells Go.Proofs.YtdbheoffkfmcpaaDoorW.PrintWords Go.Proofs.YtdbheoffkfmcpaaDoorW.PrintLast Go.Proofs.YtdbheoffkfmcpaaDoor Go.Proofs.YtdbheoffkfmcpaaDoor.Nm
set_option linter.unusedVariables false
set_option linter.unusedSimpArgs false

theorem WidthTells : reredoslaw02_WidthTells.Pure := by
  intro s x w l hs hx hw hl1 hl2 hlw
  have h1 : i64P x := i64_of hx
  refine Ev.rounds ?_
  unfold reredoslaw02_WidthTells.f
  refine Ev.bind shownW ?_
  have hskip : ∀ t, t = true → Ev (fun k => reredoslaw02_WidthTells.j0 k s x w l true t) true := fun t ht => by
    subst ht
    refine Ev.step (f := fun _ => some true) (fun k => ?_) (Ev.now _)
    simp only [reredoslaw02_WidthTells.j0]
    rw [if_pos trivial]
  by_cases h200 : (s.size : Int) > 200
  · simp only [h200, if_true]
    exact hskip _ rfl
  · simp only [h200, if_false]
    by_cases h100 : (l.length : Int) > 100
    · exact hskip _ (decide_eq_true h100)
    · rw [decide_eq_false h100]
      refine Ev.shift ?_
      simp only [reredoslaw02_WidthTells.j0, Bool.false_eq_true, if_false, if_true]
      have hsl : s = BA s.data.toList := ba_of s
      obtain ⟨m, hm⟩ : ∃ m, m = s.data.toList := ⟨_, rfl⟩
      rw [← hm] at hsl
      subst hsl
      rw [ba_size] at h200
      obtain ⟨v, e1, e2⟩ : ∃ v, Hd.widthOf.f (BA m) = some v ∧ Ev (fun k => K.reredosref02_Of.f k (BA m)) v := by
        by_cases hmay : mayL m = true
        · obtain ⟨z, hz, hsm⟩ := num_of_may m hmay
          subst hz
          exact ⟨_, widthOf_ev z hsm, refWOf_ev z hsm⟩
        · exact ⟨128, widthOf_no m (by omega) (Bool.eq_false_iff.mpr hmay), refWOf_no m (by omega) (Bool.eq_false_iff.mpr hmay)⟩
      rw [e1]
      simp only [Option.bind_some]
      refine Ev.bind e2 ?_
      simp only [if_true]
      refine Ev.bind (fits_e x w) ?_
      refine Ev.bind (refFits_ev x w h1) ?_
      simp only [beq_self_eq_true, if_true]
      rw [widthMax_ev]
      simp only [Option.bind_some]
      refine Ev.bind (refMax_ev l (by omega)) ?_
      simp only [if_true]
      rw [show Hd.widthNext.f w = some (Hd.nextW w) from rfl, refNext_ev]
      simp only [Option.bind_some, beq_self_eq_true]
      exact Ev.now _

end Go.Proofs.YtdbheoffkfmcpaaDoor.Pure
