/- What the law leans on, part 42: declarations of several texts of ours, in their order. -/
import Derived.Test.YtcpaajecppplhaaGreatDoorXT37
import Derived.Test.YtcpaajecppplhaaGreatDoorXT40
section
/- TextVery: what is read may be, and has the very text, without the document's answer. Conditions: none but the statement's own. -/
namespace Go.Proofs.YtcpaajecppplhaaGreatDoor.Pure
open Go.Lib Go.RowKit Go.Proofs.YtcpaajecppplhaaGreatDoor.LTextVery Go.Proofs.YtcpaajecppplhaaGreatDoorW.PrintWords Go.Proofs.YtcpaajecppplhaaGreatDoorW.PrintLast Go.Proofs.YtcpaajecppplhaaGreatDoor Go.Proofs.YtcpaajecppplhaaGreatDoor.Nm Go.Proofs.YtcpaajecppplhaaGreatDoor.Sh Go.Proofs.YtcpaajecppplhaaGreatDoor.Tx
set_option linter.unusedVariables false
set_option linter.unusedSimpArgs false
theorem TextVery : reredoslaw11_TextVery.Pure := by
  intro a _
  obtain ⟨t, rfl⟩ : ∃ t, a = BA t := ⟨_, ba_of a⟩
  suffices h : Ev (fun k => reredoslaw11_TextVery.f k (BA t)) true from h.rounds
  unfold reredoslaw11_TextVery.f
  refine Ev.bind shownT ?_
  rw [ba_size]
  by_cases hl : (t.length : Int) > 3000
  · exact Ev.congr (fun k => if_pos hl) (Ev.now _)
  · refine Ev.congr (fun k => if_neg hl) (Ev.bind (read_ev t (by omega)) ?_)
    cases hr : readR t with
    | none =>
      refine Ev.congr (fun k => if_neg (show ¬ (2 : Int) = 0 by decide)) (Ev.congr (fun k => if_pos rfl) (Ev.congr (fun k => if_pos rfl) (Ev.bind (vsame_ev [] [] [] [] (by decide) (by decide)) ?_)))
      exact Ev.now _
    | some v =>
      obtain ⟨s, e⟩ := v
      obtain ⟨hg, ht⟩ := text_read hr
      obtain ⟨hs3, _, _⟩ := size_ok hg.1
      refine Ev.congr (fun k => if_pos rfl) (Ev.bind (text_good hg) (Ev.congr (fun k => if_pos rfl) (Ev.congr (fun k => if_pos rfl) (Ev.congr (fun k => if_pos (show (BA (textT s e)).toList = (BA t).toList by rw [ht])) (Ev.bind (vmay_ev s e (by omega)) ?_)))))
      rw [(good_iff s e).2 hg]
      exact Ev.now _
end Go.Proofs.YtcpaajecppplhaaGreatDoor.Pure
end
