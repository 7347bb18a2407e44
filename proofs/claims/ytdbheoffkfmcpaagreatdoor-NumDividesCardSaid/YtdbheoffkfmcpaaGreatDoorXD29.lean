/- What the law leans on, part 30: declarations of several texts of ours, in their order. -/
import Derived.Test.YtdbheoffkfmcpaaGreatDoorXD28
import Derived.Test.YtdbheoffkfmcpaaGreatDoorXD27
section
/- NumDivides: what any number is, divided by any other one, and what is left, are the document's. Conditions: none but the statement's own. -/
namespace Go.Proofs.YtdbheoffkfmcpaaGreatDoor.Pure
open Go.Lib Go.RowKit Go.Proofs.YtdbheoffkfmcpaaGreatDoor.LNumDivides Go.Proofs.YtdbheoffkfmcpaaGreatDoorW.PrintWords Go.Proofs.YtdbheoffkfmcpaaGreatDoorW.PrintLast Go.Proofs.YtdbheoffkfmcpaaGreatDoor Go.Proofs.YtdbheoffkfmcpaaGreatDoor.Nm
set_option linter.unusedVariables false
set_option linter.unusedSimpArgs false
theorem few_le {a b : ByteArray} (h : reredoslaw01_few.f a b = some true) : a.data.toList.length ≤ 1000000000 ∧ b.data.toList.length ≤ 1000000000 := by
  have e : ∀ s : ByteArray, s.data.toList.length = s.size := fun s => by rw [Array.length_toList]; rfl
  rw [e, e]
  unfold reredoslaw01_few.f at h
  split at h
  · simp only [Option.some.injEq, decide_eq_true_eq] at h
    omega
  · cases h
theorem few_or (a b : ByteArray) : reredoslaw01_few.f a b = some false ∨ reredoslaw01_few.f a b = some true := by
  unfold reredoslaw01_few.f
  split
  · rename_i h
    cases decide ((b.size : Int) ≤ 200) <;> simp
  · exact .inl rfl
theorem same (r s : ByteArray × Int) (a b : ByteArray) (h1 : Ev (fun k => M.num_Div.f k a b) r) (h2 : Ev (fun k => K.reredosref01_Div.f k a b) r) (h3 : Ev (fun k => M.num_Mod.f k a b) s) (h4 : Ev (fun k => K.reredosref01_Mod.f k a b) s) :
    Ev (fun k => (M.num_Div.f k a b).bind fun bt103 => ((K.reredosref01_Div.f k a b).bind fun bt105 => ((M.num_Mod.f k a b).bind fun bt107 => ((K.reredosref01_Mod.f k a b).bind fun bt109 => (if true = true then (if bt103.1.toList = bt105.1.toList then (if bt103.2 = bt105.2 then (if bt107.1.toList = bt109.1.toList then (some (bt107.2 == bt109.2)) else (some false)) else (some false)) else (some false)) else (some false)))))) true := by
  refine Ev.bind h1 (Ev.bind h2 (Ev.bind h3 (Ev.bind h4 ?_)))
  refine Ev.congr (fun k => (if_pos rfl).trans ((if_pos rfl).trans ((if_pos rfl).trans (if_pos rfl)))) ?_
  rw [beq_self_eq_true]
  exact Ev.now _
theorem NumDivides : reredoslaw01_NumDivides.Pure := by
  intro a b _ _
  have h : Ev (fun k => reredoslaw01_NumDivides.f k a b) true := by
    unfold reredoslaw01_NumDivides.f
    refine Ev.bind shownN ?_
    rcases few_or a b with hf | hf
    · refine Ev.bind (show Ev (fun _ => reredoslaw01_few.f a b) false from by rw [hf]; exact Ev.now _) ?_
      exact Ev.congr (fun k => if_neg Bool.false_ne_true) (Ev.now _)
    · obtain ⟨la, lb⟩ := few_le hf
      refine Ev.bind (show Ev (fun _ => reredoslaw01_few.f a b) true from by rw [hf]; exact Ev.now _) ?_
      refine Ev.congr (fun k => if_pos rfl) ?_
      rcases num_or a with ⟨l, rfl, hl⟩ | ⟨x, rfl, hx⟩
      · obtain ⟨m, rfl⟩ : ∃ m, b = BA m := ⟨_, ba_of b⟩
        rw [ba_data] at la lb
        exact same _ _ _ _ (num_Div_no l m (.inl hl)) (refDiv_no l m la lb (.inl hl)) (num_Mod_no l m (.inl hl)) (refMod_no l m la lb (.inl hl))
      · rcases num_or b with ⟨m, rfl, hm⟩ | ⟨y, rfl, hy⟩
        · rw [show (numS x).data.toList = itoa x from ba_data _] at la
          rw [ba_data] at lb
          exact same _ _ _ _ (num_Div_no (itoa x) m (.inr hm)) (refDiv_no (itoa x) m la lb (.inr hm)) (num_Mod_no (itoa x) m (.inr hm)) (refMod_no (itoa x) m la lb (.inr hm))
        · by_cases h0 : y = 0
          · subst h0
            exact same _ _ _ _ (num_Div_zero x hx) (refDiv_zero x hx) (num_Mod_zero x hx) (refMod_zero x hx)
          · exact same _ _ _ _ (numDiv_ev x y hx hy h0) (refDiv_ev x y hx hy h0) (numMod_ev x y hx hy h0) (refMod_ev x y hx hy h0)
  exact h.rounds
end Go.Proofs.YtdbheoffkfmcpaaGreatDoor.Pure
end
