/- What the law leans on, part 30: declarations of several texts of ours, in their order. -/
import Derived.Test.YtdbheoffkfmcpaaGreatDoorXT28
import Derived.Test.YtdbheoffkfmcpaaGreatDoorXT27
import Derived.DataShut
section
/- NumTells: whether any text is a number, its sign, its opposite, it as an int64, any int64 as one, and which of two is greater, are the document's. Conditions: none but the statement's own. -/
namespace Go.Proofs.YtdbheoffkfmcpaaGreatDoor.Pure
open Go.Lib Go.RowKit Go.Proofs.YtdbheoffkfmcpaaGreatDoor.LNumTells Go.Proofs.YtdbheoffkfmcpaaGreatDoorW.PrintWords Go.Proofs.YtdbheoffkfmcpaaGreatDoorW.PrintLast Go.Proofs.YtdbheoffkfmcpaaGreatDoor Go.Proofs.YtdbheoffkfmcpaaGreatDoor.Nm
set_option linter.unusedVariables false
set_option linter.unusedSimpArgs false
theorem few_le {a b : ByteArray} (h : reredoslaw01_few.f a b = some true) : a.data.toList.length ≤ 1000000000 ∧ b.data.toList.length ≤ 1000000000 := by
  have e : ∀ s : ByteArray, s.data.toList.length = s.size := fun s => by rw [Array.length_toList]; rfl
  rw [e, e]
  unfold reredoslaw01_few.f at h
  split at h
  · simp only [Option.some.injEq, decide_eq_true_eq] at h
    omega
  · cases h
theorem few_or (a b : ByteArray) : reredoslaw01_few.f a b = some false ∨ reredoslaw01_few.f a b = some true := by
  unfold reredoslaw01_few.f
  split
  · rename_i h
    cases decide ((b.size : Int) ≤ 200) <;> simp
  · exact .inl rfl
theorem same (a b : ByteArray) (x : Int) (i : Int × Bool) (m : Bool) (s c : Int) (n o : ByteArray) (h1 : Hd.numInt.f a = some i) (h2 : Ev (fun k => K.reredosref01_Int.f k a) i) (h3 : K.num_May.f a = some m) (h4 : Ev (fun k => K.reredosref01_May.f k a) m) (h5 : Ev (fun k => K.num_Sign.f k a) s) (h6 : Ev (fun k => K.reredosref01_Sign.f k a) s) (h7 : Ev (fun k => L.num_Neg.f k a) n) (h8 : Ev (fun k => K.reredosref01_Neg.f k a) n)
    (h9 : Hd.numOf.f x = some o) (h10 : Ev (fun k => K.reredosref01_Of.f k x) o) (h11 : Ev (fun k => L.num_Cmp.f k a b) c) (h12 : Ev (fun k => K.reredosref01_Cmp.f k a b) c) :
    Ev (fun k => (Hd.numInt.f a).bind fun bt103 => ((K.reredosref01_Int.f k a).bind fun bt105 => (if true = true then ((K.num_May.f a).bind fun t107 => ((K.reredosref01_May.f k a).bind fun t108 => (if (t107 == t108) = true then ((K.num_Sign.f k a).bind fun t109 => ((K.reredosref01_Sign.f k a).bind fun t110 => (if t109 = t110 then ((L.num_Neg.f k a).bind fun t111 => ((K.reredosref01_Neg.f k a).bind fun t112 => (if t111.toList = t112.toList then (if bt103.1 = bt105.1 then (if (bt103.2 == bt105.2) = true then ((Hd.numOf.f x).bind fun t113 => ((K.reredosref01_Of.f k x).bind fun t114 => (if t113.toList = t114.toList then ((L.num_Cmp.f k a b).bind fun t115 => ((K.reredosref01_Cmp.f k a b).bind fun t116 => (some (t115 == t116)))) else (some false)))) else (some false)) else (some false)) else (some false)))) else (some false)))) else (some false)))) else (some false)))) true := by
  rw [h1, h3, h9]
  simp only [Option.bind_some]
  refine Ev.bind h2 ?_
  refine Ev.congr (fun k => if_pos (by trivial)) ?_
  refine Ev.bind h4 ?_
  refine Ev.congr (fun k => if_pos (beq_self_eq_true _)) ?_
  refine Ev.bind h5 (Ev.bind h6 ?_)
  refine Ev.congr (fun k => if_pos rfl) ?_
  refine Ev.bind h7 (Ev.bind h8 ?_)
  refine Ev.congr (fun k => (if_pos rfl).trans ((if_pos rfl).trans (if_pos (beq_self_eq_true _)))) ?_
  refine Ev.bind h10 ?_
  refine Ev.congr (fun k => if_pos rfl) ?_
  refine Ev.bind h11 (Ev.bind h12 ?_)
  rw [beq_self_eq_true]
  exact Ev.now _
theorem NumTells : reredoslaw01_NumTells.Pure := by
  intro a b x _ _ hx0
  have hx : i64P x := (Lit.wf_int_iff .i64 x).mp hx0
  have h : Ev (fun k => reredoslaw01_NumTells.f k a b x) true := by
    unfold reredoslaw01_NumTells.f
    refine Ev.bind shownN ?_
    rcases few_or a b with hf | hf
    · refine Ev.bind (show Ev (fun _ => reredoslaw01_few.f a b) false from by rw [hf]; exact Ev.now _) ?_
      exact Ev.congr (fun k => if_neg Bool.false_ne_true) (Ev.now _)
    · obtain ⟨la, lb⟩ := few_le hf
      refine Ev.bind (show Ev (fun _ => reredoslaw01_few.f a b) true from by rw [hf]; exact Ev.now _) ?_
      refine Ev.congr (fun k => if_pos rfl) ?_
      have ho := numOf_ev x hx.1 hx.2
      have hr := refOf_ev x hx.1 hx.2
      rcases num_or a with ⟨l, rfl, hl⟩ | ⟨p, rfl, hp⟩
      · obtain ⟨m, rfl⟩ : ∃ m, b = BA m := ⟨_, ba_of b⟩
        rw [ba_data] at la lb
        have hm : K.num_May.f (BA l) = some false := by rw [← hl]; exact may_ev l
        have hm2 := refMay_ev l la
        rw [hl] at hm2
        exact same _ _ _ _ _ _ _ _ _ (numInt_no l la hl) (refInt_no l la hl) hm hm2 (numSign_no l hl) (sign_no l la hl) (numNeg_no l hl) (neg_no l la hl) ho hr (numCmp_no l m (.inl hl)) (cmp_no l m la lb (.inl hl))
      · have c : ∃ c, Ev (fun k => L.num_Cmp.f k (numS p) b) c ∧ Ev (fun k => K.reredosref01_Cmp.f k (numS p) b) c := by
          rcases num_or b with ⟨m, rfl, hm⟩ | ⟨y, rfl, hy⟩
          · rw [show (numS p).data.toList = itoa p from ba_data _] at la
            rw [ba_data] at lb
            exact ⟨_, numCmp_no (itoa p) m (.inr hm), cmp_no (itoa p) m la lb (.inr hm)⟩
          · exact ⟨_, numCmp_ev p y hp hy, cmp_ev p y hp hy⟩
        obtain ⟨c, c1, c2⟩ := c
        exact same _ _ _ _ _ _ _ _ _ (numInt_ev p hp) (refInt_ev p hp) (mayS hp) (numS_may hp) (numSign_ev p hp) (sign_ev p hp) (numNeg_ev p hp) (neg_ev p hp) ho hr c1 c2
  exact h.rounds
end Go.Proofs.YtdbheoffkfmcpaaGreatDoor.Pure
end
