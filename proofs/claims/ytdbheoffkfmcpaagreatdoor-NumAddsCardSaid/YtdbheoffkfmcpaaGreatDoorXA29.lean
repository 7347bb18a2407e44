/- What the law leans on, part 30: declarations of several texts of ours, in their order. -/
import Derived.Test.YtdbheoffkfmcpaaGreatDoorXA28
import Derived.Test.YtdbheoffkfmcpaaGreatDoorXA27
section
/- NumAdds: what any two numbers are together, less each other, and multiplied, are the document's. Conditions: none but the statement's own. -/
namespace Go.Proofs.YtdbheoffkfmcpaaGreatDoor.Pure
open Go.Lib Go.RowKit Go.Proofs.YtdbheoffkfmcpaaGreatDoor.LNumAdds Go.Proofs.YtdbheoffkfmcpaaGreatDoorW.PrintWords Go.Proofs.YtdbheoffkfmcpaaGreatDoorW.PrintLast Go.Proofs.YtdbheoffkfmcpaaGreatDoor Go.Proofs.YtdbheoffkfmcpaaGreatDoor.Nm
set_option linter.unusedVariables false
set_option linter.unusedSimpArgs false
theorem few_le {a b : ByteArray} (h : reredoslaw01_few.f a b = some true) : a.data.toList.length ≤ 1000000000 ∧ b.data.toList.length ≤ 1000000000 := by
  have e : ∀ s : ByteArray, s.data.toList.length = s.size := fun s => by rw [Array.length_toList]; rfl
  rw [e, e]
  unfold reredoslaw01_few.f at h
  split at h
  · simp only [Option.some.injEq, decide_eq_true_eq] at h
    omega
  · cases h
theorem few_or (a b : ByteArray) : reredoslaw01_few.f a b = some false ∨ reredoslaw01_few.f a b = some true := by
  unfold reredoslaw01_few.f
  split
  · rename_i h
    cases decide ((b.size : Int) ≤ 200) <;> simp
  · exact .inl rfl
theorem same (r s u : ByteArray × Int) (a b : ByteArray) (h1 : Ev (fun k => L.num_Add.f k a b) r) (h2 : Ev (fun k => K.reredosref01_Add.f k a b) r) (h3 : Ev (fun k => L.num_Sub.f k a b) s) (h4 : Ev (fun k => K.reredosref01_Sub.f k a b) s) (h5 : Ev (fun k => L.num_Mul.f k a b) u) (h6 : Ev (fun k => K.reredosref01_Mul.f k a b) u) :
    Ev (fun k => (L.num_Add.f k a b).bind fun bt103 => ((K.reredosref01_Add.f k a b).bind fun bt105 => ((L.num_Sub.f k a b).bind fun bt107 => ((K.reredosref01_Sub.f k a b).bind fun bt109 => ((L.num_Mul.f k a b).bind fun bt111 => ((K.reredosref01_Mul.f k a b).bind fun bt113 => (if true = true then (if bt103.1.toList = bt105.1.toList then (if bt103.2 = bt105.2 then (if bt107.1.toList = bt109.1.toList then (if bt107.2 = bt109.2 then (if bt111.1.toList = bt113.1.toList then (some (bt111.2 == bt113.2)) else (some false)) else (some false)) else (some false)) else (some false)) else (some false)) else (some false)))))))) true := by
  refine Ev.bind h1 (Ev.bind h2 (Ev.bind h3 (Ev.bind h4 (Ev.bind h5 (Ev.bind h6 ?_)))))
  refine Ev.congr (fun k => (if_pos rfl).trans ((if_pos rfl).trans ((if_pos rfl).trans ((if_pos rfl).trans ((if_pos rfl).trans (if_pos rfl)))))) ?_
  rw [beq_self_eq_true]
  exact Ev.now _
theorem NumAdds : reredoslaw01_NumAdds.Pure := by
  intro a b _ _
  have h : Ev (fun k => reredoslaw01_NumAdds.f k a b) true := by
    unfold reredoslaw01_NumAdds.f
    refine Ev.bind shownN ?_
    rcases few_or a b with hf | hf
    · refine Ev.bind (show Ev (fun _ => reredoslaw01_few.f a b) false from by rw [hf]; exact Ev.now _) ?_
      exact Ev.congr (fun k => if_neg Bool.false_ne_true) (Ev.now _)
    · obtain ⟨la, lb⟩ := few_le hf
      refine Ev.bind (show Ev (fun _ => reredoslaw01_few.f a b) true from by rw [hf]; exact Ev.now _) ?_
      refine Ev.congr (fun k => if_pos rfl) ?_
      rcases num_or a with ⟨l, rfl, hl⟩ | ⟨x, rfl, hx⟩
      · obtain ⟨m, rfl⟩ : ∃ m, b = BA m := ⟨_, ba_of b⟩
        rw [ba_data] at la lb
        exact same _ _ _ _ _ (num_Add_no l m (.inl hl)) (add_no l m la lb (.inl hl)) (num_Sub_no l m (.inl hl)) (refSub_no l m la lb (.inl hl)) (num_Mul_no l m (.inl hl)) (refMul_no l m la lb (.inl hl))
      · rcases num_or b with ⟨m, rfl, hm⟩ | ⟨y, rfl, hy⟩
        · rw [show (numS x).data.toList = itoa x from ba_data _] at la
          rw [ba_data] at lb
          exact same _ _ _ _ _ (num_Add_no (itoa x) m (.inr hm)) (add_no (itoa x) m la lb (.inr hm)) (num_Sub_no (itoa x) m (.inr hm)) (refSub_no (itoa x) m la lb (.inr hm)) (num_Mul_no (itoa x) m (.inr hm)) (refMul_no (itoa x) m la lb (.inr hm))
        · exact same _ _ _ _ _ (numAdd_ev x y hx hy) (add_ev x y hx hy) (numSub_ev x y hx hy) (sub_ev x y hx hy) (numMul_ev x y hx hy) (mul_ev x y hx hy)
  exact h.rounds
end Go.Proofs.YtdbheoffkfmcpaaGreatDoor.Pure
end
