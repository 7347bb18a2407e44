/- What the law leans on, part 42: declarations of several texts of ours, in their order. -/
import Derived.Test.YtcpaajecppplhaaGreatDoorXN40
import Derived.Test.YtcpaajecppplhaaGreatDoorXN36
section
/- What val's, lex's and text's functions tell, plainly: each element, rows, vectors, the text of an array and the array of a text. -/
namespace Go.Proofs.YtcpaajecppplhaaGreatDoor.Tx
open Go.Lib Go.RowKit Go.Proofs.YtcpaajecppplhaaGreatDoorW.PrintWords Go.Proofs.YtcpaajecppplhaaGreatDoorW.PrintLast Go.Proofs.YtcpaajecppplhaaGreatDoor Go.Proofs.YtcpaajecppplhaaGreatDoor.Nm Go.Proofs.YtcpaajecppplhaaGreatDoor.Sh
set_option linter.unusedVariables false
set_option linter.unusedSimpArgs false
/-! ### lists of texts -/
def mB (e : List L8) : List ByteArray := e.map (fun l => BA l)
theorem mB_len (e : List L8) : (mB e).length = e.length := List.length_map _
theorem rdB (pre suf : List L8) (x : L8) : rdOf ByteArray.empty (mB (pre ++ x :: suf)) ((pre.length : Nat) : Int) = BA x := by
  unfold rdOf mB
  rw [Int.toNat_natCast]
  simp [List.getD_eq_getElem?_getD]
theorem wi (n : Nat) (h : n ≤ 9000000000000000000) : wrap64 ((n : Int) + 1) = ((n + 1 : Nat) : Int) := by
  rw [Nm.w64 (by omega) (by omega)]
  rfl
theorem nextP {α : Type} (pre : List α) (x : α) : ((pre.length + 1 : Nat) : Int) = (((pre ++ [x]).length : Nat) : Int) := by simp
theorem moveP {α : Type} (pre suf : List α) (x : α) : pre ++ x :: suf = (pre ++ [x]) ++ suf := by simp
/-! ### whether an array may be -/
theorem may1_ev (l : L8) : K.val_May_1.f (BA l) = some (!mayL l) := by
  unfold K.val_May_1.f
  rw [Nm.may_ev]
  rfl
theorem idxM_ev : ∀ (e : List L8) (n : Nat), ∃ r, Hd.idxM (mB e) n = some r ∧ decide (0 ≤ r) = !(e.all mayL)
  | [], n => ⟨-1, rfl, rfl⟩
  | x :: e, n => by
    have hp := may1_ev x
    cases h : mayL x with
    | false =>
      rw [h] at hp
      refine ⟨(n : Int), ?_, ?_⟩
      · show (K.val_May_1.f (BA x)).bind _ = _
        rw [hp]
        rfl
      · rw [List.all_cons, h, decide_eq_true (by omega)]
        rfl
    | true =>
      rw [h] at hp
      obtain ⟨r, h1, h2⟩ := idxM_ev e (n + 1)
      refine ⟨r, ?_, ?_⟩
      · show (K.val_May_1.f (BA x)).bind _ = _
        rw [hp]
        exact h1
      · rw [h2, List.all_cons, h, Bool.true_and]
theorem cf_ev (e : List L8) : Hd.cfV.f (mB e) = some (!(e.all mayL)) := by
  obtain ⟨r, h1, h2⟩ := idxM_ev e 0
  unfold Hd.cfV.f
  rw [h1]
  show some (decide (0 ≤ r)) = _
  rw [h2]
def goodB (s : List Int) (e : List L8) : Bool := decide ((sizeS s).2 = 0) && (decide ((e.length : Int) = (sizeS s).1) && e.all mayL)
theorem good_iff (s : List Int) (e : List L8) : goodB s e = true ↔ Good s e := by
  unfold goodB Good AllM
  rw [Bool.and_eq_true, Bool.and_eq_true, decide_eq_true_eq, decide_eq_true_eq, List.all_eq_true]
  constructor
  · rintro ⟨h1, h2, h3⟩
    exact ⟨Prod.ext h2.symm h1, h3⟩
  · rintro ⟨h1, h3⟩
    rw [h1]
    exact ⟨rfl, rfl, h3⟩
theorem vmay_ev (s : List Int) (e : List L8) (hs : s.length ≤ 9223372036854775807) : Ev (fun k => TV.val_May.f k s (mB e)) (goodB s e) := by
  unfold TV.val_May.f
  refine Ev.bind (size_ev s hs) ?_
  unfold goodB
  by_cases h2 : (sizeS s).2 = 0
  · rw [decide_eq_true h2, Bool.true_and]
    refine Ev.congr (fun k => if_pos h2) ?_
    by_cases h1 : (e.length : Int) = (sizeS s).1
    · rw [decide_eq_true h1, Bool.true_and]
      refine Ev.congr (fun k => if_pos (by rw [mB_len]; exact h1)) ?_
      rw [cf_ev]
      show Ev (fun k => some (!(!(e.all mayL)))) _
      rw [Bool.not_not]
      exact Ev.now _
    · rw [decide_eq_false h1, Bool.false_and]
      exact Ev.congr (fun k => if_neg (by rw [mB_len]; exact h1)) (Ev.now _)
  · rw [decide_eq_false h2, Bool.false_and]
    exact Ev.congr (fun k => if_neg h2) (Ev.now _)
/-! ### whether two arrays are the same; few -/
theorem eqs_loop : ∀ (suf pre suf2 pre2 : List L8), pre.length = pre2.length → suf.length = suf2.length → (pre ++ suf).length ≤ 9000000000000000000 →
    Ev (fun k => TV.slices_Equal_string_string.l0 k (mB (pre ++ suf)) (mB (pre2 ++ suf2)) (((mB (pre ++ suf)).length : Nat) : Int) ((pre.length : Nat) : Int)) (decide (suf = suf2))
  | [], pre, suf2, pre2, h1, h2, hl => by
    have e : suf2 = [] := List.length_eq_zero_iff.mp h2.symm
    subst e
    refine Ev.step (f := fun k => some true) (fun k => ?_) (Ev.now _)
    simp only [TV.slices_Equal_string_string.l0]
    rw [if_neg (by rw [mB_len]; simp)]
  | x :: suf, pre, [], pre2, h1, h2, hl => by simp at h2
  | x :: suf, pre, y :: suf2, pre2, h1, h2, hl => by
    have hlen : pre.length < (pre ++ x :: suf).length := by simp
    have hlen2 : pre2.length < (pre2 ++ y :: suf2).length := by simp
    by_cases hxy : x = y
    · subst hxy
      have ih := eqs_loop suf (pre ++ [x]) suf2 (pre2 ++ [x]) (by simp [h1]) (by simpa using h2) (by rw [← moveP]; exact hl)
      rw [← moveP, ← moveP] at ih
      rw [show decide (x :: suf = x :: suf2) = decide (suf = suf2) from decide_eq_decide.2 (by simp)]
      refine Ev.step (fun k => ?_) ih
      simp only [TV.slices_Equal_string_string.l0]
      rw [if_pos (by rw [mB_len]; omega), if_pos (by omega), if_pos (by rw [mB_len]; omega), if_pos (by rw [mB_len]; omega), rdB, h1, rdB, if_pos rfl, wi _ (by simp only [List.length_append, List.length_cons] at hl; omega), ← h1, nextP pre x]
    · rw [decide_eq_false (fun h => hxy (List.cons.inj h).1)]
      refine Ev.step (f := fun k => some false) (fun k => ?_) (Ev.now _)
      simp only [TV.slices_Equal_string_string.l0]
      rw [if_pos (by rw [mB_len]; omega), if_pos (by omega), if_pos (by rw [mB_len]; omega), if_pos (by rw [mB_len]; omega), rdB, h1, rdB, if_neg (by rw [ba_list, ba_list]; exact hxy)]
theorem vsame_ev (s : List Int) (e : List L8) (s2 : List Int) (e2 : List L8) (h1 : s.length ≤ 9000000000000000000) (h2 : e.length ≤ 9000000000000000000) : Ev (fun k => TV.val_Same.f k s (mB e) s2 (mB e2)) (decide (s = s2 ∧ e = e2)) := by
  unfold TV.val_Same.f
  refine Ev.bind (Sh.same_ev s s2 (by omega)) ?_
  by_cases hs : s = s2
  · rw [decide_eq_true hs]
    refine Ev.congr (fun k => if_pos rfl) ?_
    have : Ev (fun k => TV.slices_Equal_string_string.f k (mB e) (mB e2)) (decide (e = e2)) := by
      unfold TV.slices_Equal_string_string.f
      rw [mB_len, mB_len]
      by_cases hl : e.length = e2.length
      · refine Ev.congr (fun k => if_pos (by omega)) ?_
        have := eqs_loop e [] e2 [] rfl hl h2
        rw [mB_len] at this
        exact this
      · rw [decide_eq_false (fun h => hl (congrArg List.length h))]
        exact Ev.congr (fun k => if_neg (by omega)) (Ev.now _)
    refine Ev.bind this ?_
    rw [show decide (s = s2 ∧ e = e2) = decide (e = e2) from decide_eq_decide.2 (by simp [hs])]
    exact Ev.now _
  · rw [decide_eq_false hs, decide_eq_false (fun h => hs h.1)]
    exact Ev.congr (fun k => if_neg Bool.false_ne_true) (Ev.now _)
def fewP (s : List Int) (e : List L8) : Prop := e.length ≤ 300 ∧ s.length ≤ 20 ∧ ∀ x ∈ e, x.length ≤ 120
theorem few_end (n : Nat) (s : List Int) (e : List L8) (hn : ∀ x ∈ e.take n, x.length ≤ 120) (hb : e.length ≤ n ∨ 301 ≤ n) : ∃ b, (b = true → fewP s e) ∧ Ev (fun k => TV.reredosref04_Few.j1 k ((n : Nat) : Int) false s (mB e)) b := by
  by_cases h : e.length ≤ 300
  · refine ⟨decide (s.length ≤ 20), fun hs => ⟨h, of_decide_eq_true hs, ?_⟩, ?_⟩
    · intro x hx
      refine hn x ?_
      rw [List.take_of_length_le (by omega)]
      exact hx
    · refine Ev.step (f := fun k => some (decide (s.length ≤ 20))) (fun k => ?_) (Ev.now _)
      simp only [TV.reredosref04_Few.j1]
      rw [if_neg Bool.false_ne_true, if_pos (by rw [mB_len]; omega), show decide ((s.length : Int) ≤ 20) = decide (s.length ≤ 20) from decide_eq_decide.2 (by omega)]
  · refine ⟨false, fun h => (by cases h), ?_⟩
    refine Ev.step (f := fun k => some false) (fun k => ?_) (Ev.now _)
    simp only [TV.reredosref04_Few.j1]
    rw [if_neg Bool.false_ne_true, if_neg (by rw [mB_len]; omega)]
theorem few_loop (s : List Int) : ∀ (suf pre : List L8), (∀ x ∈ pre, x.length ≤ 120) → pre.length ≤ 301 → ∃ b, (b = true → fewP s (pre ++ suf)) ∧ Ev (fun k => TV.reredosref04_Few.l0 k ((pre.length : Nat) : Int) s (mB (pre ++ suf))) b
  | [], pre, hp, hl => by
    obtain ⟨b, h1, h2⟩ := few_end pre.length s (pre ++ []) (by simpa using hp) (.inl (by simp))
    refine ⟨b, h1, Ev.step (fun k => ?_) h2⟩
    simp only [TV.reredosref04_Few.l0]
    rw [if_neg (by rw [mB_len]; simp)]
  | x :: suf, pre, hp, hl => by
    have hlen : pre.length < (pre ++ x :: suf).length := by simp
    by_cases h3 : pre.length < 301
    · by_cases hx : x.length ≤ 120
      · obtain ⟨b, h1, h2⟩ := few_loop s suf (pre ++ [x]) (fun y hy => by
          rcases List.mem_append.mp hy with hy | hy
          · exact hp y hy
          · rw [List.mem_singleton] at hy; rw [hy]; exact hx) (by simp; omega)
        rw [← moveP] at h1 h2
        refine ⟨b, h1, Ev.step (f := ?f6) (fun k => ?h6) (Ev.step (fun k => ?_) h2)⟩
        case f6 => exact fun k => TV.reredosref04_Few.j1 k ((pre.length : Nat) : Int) true s (mB (pre ++ x :: suf))
        case h6 =>
          simp only [TV.reredosref04_Few.l0]
          rw [if_pos (by rw [mB_len]; omega), decide_eq_true (by omega)]
        simp only [TV.reredosref04_Few.j1, if_true]
        rw [if_pos (by omega), if_pos (by rw [mB_len]; omega), rdB, if_neg (by rw [ba_size]; omega), wi _ (by omega), nextP pre x]
      · refine ⟨false, fun h => (by cases h), Ev.step (f := ?f7) (fun k => ?h7) (Ev.step (f := fun k => some false) (fun k => ?_) (Ev.now _))⟩
        case f7 => exact fun k => TV.reredosref04_Few.j1 k ((pre.length : Nat) : Int) true s (mB (pre ++ x :: suf))
        case h7 =>
          simp only [TV.reredosref04_Few.l0]
          rw [if_pos (by rw [mB_len]; omega), decide_eq_true (by omega)]
        simp only [TV.reredosref04_Few.j1, if_true]
        rw [if_pos (by omega), if_pos (by rw [mB_len]; omega), rdB, if_pos (by rw [ba_size]; omega)]
    · obtain ⟨b, h1, h2⟩ := few_end pre.length s (pre ++ x :: suf) (by simpa using hp) (.inr (by omega))
      refine ⟨b, h1, Ev.step (fun k => ?_) h2⟩
      simp only [TV.reredosref04_Few.l0]
      rw [if_pos (by rw [mB_len]; omega), decide_eq_false (by omega)]
theorem few_ev (s : List Int) (e : List L8) : ∃ b, (b = true → fewP s e) ∧ Ev (fun k => TV.reredosref04_Few.f k s (mB e)) b := few_loop s e [] (fun x hx => (by cases hx)) (by decide)
end Go.Proofs.YtcpaajecppplhaaGreatDoor.Tx
end
