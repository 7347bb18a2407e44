/- What the law leans on, part 39: declarations of several texts of ours, in their order. -/
import Derived.Test.YtcpaajecppplhaaGreatDoorXT37
import Derived.Test.YtcpaajecppplhaaGreatDoorXT31
section
/- TextBack: what is told is read, just as it was, without the document's answer. Conditions: none but the statement's own. -/
namespace Go.Proofs.YtcpaajecppplhaaGreatDoor.Pure
open Go.Lib Go.RowKit Go.Proofs.YtcpaajecppplhaaGreatDoor.LTextBack Go.Proofs.YtcpaajecppplhaaGreatDoorW.PrintWords Go.Proofs.YtcpaajecppplhaaGreatDoorW.PrintLast Go.Proofs.YtcpaajecppplhaaGreatDoor Go.Proofs.YtcpaajecppplhaaGreatDoor.Nm Go.Proofs.YtcpaajecppplhaaGreatDoor.Sh Go.Proofs.YtcpaajecppplhaaGreatDoor.Tx
set_option linter.unusedVariables false
set_option linter.unusedSimpArgs false
theorem TextBack : reredoslaw11_TextBack.Pure := by
  intro s l1 hs _ hl _
  obtain ⟨e, rfl⟩ := mB_of l1
  rw [mB_len] at hl
  unfold maxLen at hs hl
  obtain ⟨b, hb, hf⟩ := few_ev s e
  suffices h : Ev (fun k => reredoslaw11_TextBack.f k s (mB e)) true from h.rounds
  unfold reredoslaw11_TextBack.f
  refine Ev.bind shownT (Ev.bind hf ?_)
  cases b with
  | false => exact Ev.congr (fun k => if_neg Bool.false_ne_true) (Ev.now _)
  | true =>
    obtain ⟨f1, f2, f3⟩ := hb rfl
    refine Ev.congr (fun k => if_pos rfl) ?_
    by_cases hg : Tx.Good s e
    · refine Ev.bind (text_good hg) (Ev.congr (fun k => if_pos rfl) ?_)
      have ht := text_len hg
      have hr := read_ev (textT s e) (by omega)
      rw [read_text hg] at hr
      refine Ev.bind hr (Ev.congr (fun k => if_pos rfl) (Ev.congr (fun k => if_pos rfl) (Ev.bind (vsame_ev s e s e (by omega) (by omega)) ?_)))
      rw [decide_eq_true ⟨rfl, rfl⟩]
      exact Ev.now _
    · refine Ev.bind (text_bad (by omega) hg) (Ev.congr (fun k => if_neg (show ¬ (1 : Int) = 0 by decide)) (Ev.congr (fun k => if_pos rfl) (Ev.congr (fun k => if_pos rfl) (Ev.congr (fun k => if_pos (ba_list [])) (Ev.bind (vmay_ev s e (by omega)) ?_)))))
      cases hq : goodB s e with
      | true => exact absurd ((good_iff s e).1 hq) hg
      | false => exact Ev.now _
end Go.Proofs.YtcpaajecppplhaaGreatDoor.Pure
end
