/- What the law leans on, part 50: declarations of several texts of ours, in their order. -/
import Derived.Test.YtcpaajecppplhaaGreatDoorXT37
import Derived.Test.YtcpaajecppplhaaGreatDoorXT48
section
/- TextTells: the text of any array, and the array of any text, are the document's. Conditions: none but the statement's own. -/
namespace Go.Proofs.YtcpaajecppplhaaGreatDoor.Pure
open Go.Lib Go.RowKit Go.Proofs.YtcpaajecppplhaaGreatDoor.LTextTells Go.Proofs.YtcpaajecppplhaaGreatDoorW.PrintWords Go.Proofs.YtcpaajecppplhaaGreatDoorW.PrintLast Go.Proofs.YtcpaajecppplhaaGreatDoor Go.Proofs.YtcpaajecppplhaaGreatDoor.Nm Go.Proofs.YtcpaajecppplhaaGreatDoor.Sh Go.Proofs.YtcpaajecppplhaaGreatDoor.Tx
set_option linter.unusedVariables false
set_option linter.unusedSimpArgs false
theorem rsame_l0 (s s2 : List Int) : ∀ (suf pre suf2 pre2 : List L8), pre.length = pre2.length → suf.length = suf2.length → (pre ++ suf).length ≤ 9000000000000000000 → suf = suf2 →
    Ev (fun k => TV.reredosref04_Same.l0 k ((pre.length : Nat) : Int) s (mB (pre ++ suf)) s2 (mB (pre2 ++ suf2))) true
  | [], pre, suf2, pre2, h1, h2, hl, he => by
    refine Ev.step (f := fun k => some true) (fun k => ?_) (Ev.now _)
    rw [TV.reredosref04_Same.l0, if_neg (by rw [mB_len]; simp)]
  | x :: suf, pre, suf2, pre2, h1, h2, hl, he => by
    subst he
    have hlen : pre.length < (pre ++ x :: suf).length := by simp
    have hlen2 : pre2.length < (pre2 ++ x :: suf).length := by simp
    have ih := rsame_l0 s s2 suf (pre ++ [x]) suf (pre2 ++ [x]) (by simp [h1]) rfl (by rw [← moveP]; exact hl) rfl
    rw [← moveP, ← moveP] at ih
    refine Ev.step (fun k => ?_) ih
    rw [TV.reredosref04_Same.l0, if_pos (by rw [mB_len]; omega), if_pos (by omega), if_pos (by rw [mB_len]; omega), rdB, h1, rdB, if_pos rfl, wi _ (by simp only [List.length_append, List.length_cons] at hl; omega), ← h1, nextP pre x]
theorem rsame_self (s : List Int) (e : List L8) (h1 : s.length ≤ 9000000000000000000) (h2 : e.length ≤ 9000000000000000000) : Ev (fun k => TV.reredosref04_Same.f k s (mB e) s (mB e)) true := by
  unfold TV.reredosref04_Same.f
  refine Ev.bind (rsame_ev s s (by omega)) ?_
  rw [decide_eq_true rfl]
  refine Ev.congr (fun k => if_pos rfl) ?_
  rw [show (((mB e).length : Int) != ((mB e).length : Int)) = false from bne_self_eq_false _]
  refine Ev.step (fun k => ?_) (rsame_l0 s s e [] e [] rfl rfl h2 rfl)
  rw [TV.reredosref04_Same.j0, if_neg Bool.false_ne_true]
  rfl
theorem tells_t (a : ByteArray) (s : List Int) (e : List L8) : Ev (fun k => reredoslaw11_TextTells.j0 k a true true s (mB e)) true := by
  refine Ev.step (f := fun k => some true) (fun k => ?_) (Ev.now _)
  rw [reredoslaw11_TextTells.j0, if_pos rfl]
theorem TextTells : reredoslaw11_TextTells.Pure := by
  intro s l1 a hs _ hl _ _
  obtain ⟨e, rfl⟩ := mB_of l1
  obtain ⟨t, rfl⟩ : ∃ t, a = BA t := ⟨_, ba_of a⟩
  rw [mB_len] at hl
  unfold maxLen at hs hl
  obtain ⟨b, hb, hf⟩ := few_ev s e
  suffices h : Ev (fun k => reredoslaw11_TextTells.f k s (mB e) (BA t)) true from h.rounds
  unfold reredoslaw11_TextTells.f
  refine Ev.bind shownT (Ev.bind hf ?_)
  cases b with
  | false => exact Ev.congr (fun k => if_neg Bool.false_ne_true) (tells_t _ _ _)
  | true =>
    obtain ⟨f1, f2, f3⟩ := hb rfl
    refine Ev.congr (fun k => if_pos rfl) ?_
    rw [ba_size]
    by_cases hn : (t.length : Int) > 3000
    · rw [decide_eq_true hn]
      exact tells_t _ _ _
    · rw [decide_eq_false hn]
      have T : ∃ r : List UInt8 × Int, Ev (fun k => TV.text_Text.f k s (mB e)) (BA r.1, r.2) ∧ Ev (fun k => TV.reredosref11_Text.f k s (mB e)) (BA r.1, r.2) := by
        by_cases hg : Tx.Good s e
        · exact ⟨(textT s e, 0), text_good hg, rtext_good hg⟩
        · exact ⟨([], 1), text_bad (by omega) hg, rtext_bad (fun x hx => by have := f3 x hx; omega) (by omega) hg⟩
      obtain ⟨⟨r1, r2⟩, h1, h2⟩ := T
      have h3 := read_ev t (by omega)
      have h4 := rread_ev t (by omega)
      refine Ev.step (f := ?f) (fun k => ?h) ?g
      case h => rw [reredoslaw11_TextTells.j0, if_neg Bool.false_ne_true]
      case g =>
        refine Ev.bind h1 (Ev.bind h2 (Ev.bind h3 (Ev.bind h4 (Ev.congr (fun k => if_pos rfl) (Ev.congr (fun k => if_pos rfl) (Ev.congr (fun k => if_pos rfl) ?_))))))
        have hq : ∃ (s' : List Int) (e' : List L8) (z : Int), oR (readR t) = (s', mB e', z) ∧ s'.length ≤ 9000000000000000000 ∧ e'.length ≤ 9000000000000000000 := by
          cases hr : readR t with
          | none => exact ⟨[], [], 2, rfl, by decide, by decide⟩
          | some v =>
            obtain ⟨s', e'⟩ := v
            obtain ⟨hg, _⟩ := text_read hr
            obtain ⟨hs3, _, _⟩ := size_ok hg.1
            obtain ⟨_, _, hn1⟩ := size_bd hg.1
            exact ⟨s', e', 0, rfl, by omega, by omega⟩
        obtain ⟨s', e', z, hq, q1, q2⟩ := hq
        rw [hq]
        refine Ev.bind (rsame_self s' e' q1 q2) (Ev.congr (fun k => if_pos rfl) ?_)
        show Ev (fun k => some (z == z)) true
        rw [beq_self_eq_true]
        exact Ev.now _
end Go.Proofs.YtcpaajecppplhaaGreatDoor.Pure
end
