/- What the law leans on, part 46: declarations of several texts of ours, in their order. -/
import Derived.Test.YtcpaajecppplhaaGreatDoorXT37
import Derived.Test.YtcpaajecppplhaaGreatDoorXT44
section
/- TextOnes: no two arrays that may be have the same text, without the document's answer. Conditions: none but the statement's own. -/
namespace Go.Proofs.YtcpaajecppplhaaGreatDoor.Pure
open Go.Lib Go.RowKit Go.Proofs.YtcpaajecppplhaaGreatDoor.LTextOnes Go.Proofs.YtcpaajecppplhaaGreatDoorW.PrintWords Go.Proofs.YtcpaajecppplhaaGreatDoorW.PrintLast Go.Proofs.YtcpaajecppplhaaGreatDoor Go.Proofs.YtcpaajecppplhaaGreatDoor.Nm Go.Proofs.YtcpaajecppplhaaGreatDoor.Sh Go.Proofs.YtcpaajecppplhaaGreatDoor.Tx
set_option linter.unusedVariables false
set_option linter.unusedSimpArgs false
theorem ones_t (s1 s2 : List Int) (e1 e2 : List L8) : Ev (fun k => reredoslaw11_TextOnes.j0 k true true s1 (mB e1) s2 (mB e2)) true := by
  refine Ev.step (f := fun k => some true) (fun k => ?_) (Ev.now _)
  rw [reredoslaw11_TextOnes.j0, if_pos rfl]
theorem TextOnes : reredoslaw11_TextOnes.Pure := by
  intro s1 l1 s2 l2 hs1 _ hl1 _ hs2 _ hl2 _
  obtain ⟨e1, rfl⟩ := mB_of l1
  obtain ⟨e2, rfl⟩ := mB_of l2
  rw [mB_len] at hl1 hl2
  unfold maxLen at hs1 hl1 hs2 hl2
  obtain ⟨b1, hb1, hf1⟩ := few_ev s1 e1
  obtain ⟨b2, hb2, hf2⟩ := few_ev s2 e2
  suffices h : Ev (fun k => reredoslaw11_TextOnes.f k s1 (mB e1) s2 (mB e2)) true from h.rounds
  unfold reredoslaw11_TextOnes.f
  refine Ev.bind shownT (Ev.bind hf1 ?_)
  cases b1 with
  | false => exact Ev.congr (fun k => if_neg Bool.false_ne_true) (ones_t _ _ _ _)
  | true =>
    obtain ⟨f1, f2, f3⟩ := hb1 rfl
    refine Ev.congr (fun k => if_pos rfl) (Ev.bind hf2 ?_)
    cases b2 with
    | false => exact ones_t _ _ _ _
    | true =>
      refine Ev.step (f := ?f) (fun k => ?h) ?g
      case h => rw [reredoslaw11_TextOnes.j0, if_neg (show ¬ (!true) = true by decide)]
      case g =>
        by_cases g1 : Tx.Good s1 e1
        · refine Ev.bind (text_good g1) ?_
          by_cases g2 : Tx.Good s2 e2
          · refine Ev.bind (text_good g2) (Ev.congr (fun k => if_pos rfl) (Ev.congr (fun k => if_pos rfl) (Ev.congr (fun k => if_pos rfl) (Ev.bind (vsame_ev s1 e1 s2 e2 (by omega) (by omega)) ?_))))
            show Ev (fun k => some (((BA (textT s1 e1)).toList == (BA (textT s2 e2)).toList) == decide (s1 = s2 ∧ e1 = e2))) true
            rw [ba_list, ba_list]
            by_cases hq : s1 = s2 ∧ e1 = e2
            · obtain ⟨rfl, rfl⟩ := hq
              rw [beq_self_eq_true, decide_eq_true ⟨rfl, rfl⟩]
              exact Ev.now _
            · rw [decide_eq_false hq, show (textT s1 e1 == textT s2 e2) = false from beq_eq_false_iff_ne.mpr (fun h => hq ?_)]
              · exact Ev.now _
              · have h1 := read_text g1
                rw [h, read_text g2] at h1
                have h2 := Prod.mk.inj (Option.some.inj h1)
                exact ⟨h2.1.symm, h2.2.symm⟩
          · exact Ev.bind (text_bad (by omega) g2) (Ev.congr (fun k => if_pos rfl) (Ev.congr (fun k => if_pos rfl) (Ev.congr (fun k => if_neg (show ¬ (1 : Int) = 0 by decide)) (Ev.now _))))
        · refine Ev.bind (text_bad (by omega) g1) ?_
          by_cases g2 : Tx.Good s2 e2
          · exact Ev.bind (text_good g2) (Ev.congr (fun k => if_pos rfl) (Ev.congr (fun k => if_neg (show ¬ (1 : Int) = 0 by decide)) (Ev.now _)))
          · exact Ev.bind (text_bad (by omega) g2) (Ev.congr (fun k => if_pos rfl) (Ev.congr (fun k => if_neg (show ¬ (1 : Int) = 0 by decide)) (Ev.now _)))
end Go.Proofs.YtcpaajecppplhaaGreatDoor.Pure
end
