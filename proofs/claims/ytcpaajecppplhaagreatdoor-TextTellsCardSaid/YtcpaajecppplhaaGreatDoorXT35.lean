/- What the law leans on, part 36: declarations of several texts of ours, in their order. -/
import Derived.Test.YtcpaajecppplhaaGreatDoorXT34
import Derived.Test.YtcpaajecppplhaaGreatDoorXT27
section
/- What val's, lex's and text's functions tell, plainly: each element, rows, vectors, the text of an array and the array of a text. -/
namespace Go.Proofs.YtcpaajecppplhaaGreatDoor.Tx
open Go.Lib Go.RowKit Go.Proofs.YtcpaajecppplhaaGreatDoorW.PrintWords Go.Proofs.YtcpaajecppplhaaGreatDoorW.PrintLast Go.Proofs.YtcpaajecppplhaaGreatDoor Go.Proofs.YtcpaajecppplhaaGreatDoor.Nm Go.Proofs.YtcpaajecppplhaaGreatDoor.Sh
set_option linter.unusedVariables false
set_option linter.unusedSimpArgs false
/-! ### lists of texts -/
def mB (e : List L8) : List ByteArray := e.map (fun l => BA l)
theorem mB_len (e : List L8) : (mB e).length = e.length := List.length_map _
theorem mB_of : ∀ es : List ByteArray, ∃ e, es = mB e
  | [] => ⟨[], rfl⟩
  | s :: es => by
    obtain ⟨e, h⟩ := mB_of es
    refine ⟨s.data.toList :: e, ?_⟩
    rw [h]
    exact congrArg (· :: mB e) (Nm.ba_of s)
theorem mB_data : ∀ e : List L8, (mB e).map (·.data.toList) = e
  | [] => rfl
  | x :: e => by
    have := mB_data e
    show (BA x).data.toList :: (mB e).map (·.data.toList) = _
    rw [ba_data, this]
theorem mB_app (a b : List L8) : mB (a ++ b) = mB a ++ mB b := List.map_append
theorem rdB (pre suf : List L8) (x : L8) : rdOf ByteArray.empty (mB (pre ++ x :: suf)) ((pre.length : Nat) : Int) = BA x := by
  unfold rdOf mB
  rw [Int.toNat_natCast]
  simp [List.getD_eq_getElem?_getD]
theorem wi (n : Nat) (h : n ≤ 9000000000000000000) : wrap64 ((n : Int) + 1) = ((n + 1 : Nat) : Int) := by
  rw [Nm.w64 (by omega) (by omega)]
  rfl
theorem nextP {α : Type} (pre : List α) (x : α) : ((pre.length + 1 : Nat) : Int) = (((pre ++ [x]).length : Nat) : Int) := by simp
theorem moveP {α : Type} (pre suf : List α) (x : α) : pre ++ x :: suf = (pre ++ [x]) ++ suf := by simp
/-! ### whether an array may be -/
theorem may1_ev (l : L8) : K.val_May_1.f (BA l) = some (!mayL l) := by
  unfold K.val_May_1.f
  rw [Nm.may_ev]
  rfl
theorem idxM_ev : ∀ (e : List L8) (n : Nat), ∃ r, Hd.idxM (mB e) n = some r ∧ decide (0 ≤ r) = !(e.all mayL)
  | [], n => ⟨-1, rfl, rfl⟩
  | x :: e, n => by
    have hp := may1_ev x
    cases h : mayL x with
    | false =>
      rw [h] at hp
      refine ⟨(n : Int), ?_, ?_⟩
      · show (K.val_May_1.f (BA x)).bind _ = _
        rw [hp]
        rfl
      · rw [List.all_cons, h, decide_eq_true (by omega)]
        rfl
    | true =>
      rw [h] at hp
      obtain ⟨r, h1, h2⟩ := idxM_ev e (n + 1)
      refine ⟨r, ?_, ?_⟩
      · show (K.val_May_1.f (BA x)).bind _ = _
        rw [hp]
        exact h1
      · rw [h2, List.all_cons, h, Bool.true_and]
theorem cf_ev (e : List L8) : Hd.cfV.f (mB e) = some (!(e.all mayL)) := by
  obtain ⟨r, h1, h2⟩ := idxM_ev e 0
  unfold Hd.cfV.f
  rw [h1]
  show some (decide (0 ≤ r)) = _
  rw [h2]
def goodB (s : List Int) (e : List L8) : Bool := decide ((sizeS s).2 = 0) && (decide ((e.length : Int) = (sizeS s).1) && e.all mayL)
theorem good_iff (s : List Int) (e : List L8) : goodB s e = true ↔ Good s e := by
  unfold goodB Good AllM
  rw [Bool.and_eq_true, Bool.and_eq_true, decide_eq_true_eq, decide_eq_true_eq, List.all_eq_true]
  constructor
  · rintro ⟨h1, h2, h3⟩
    exact ⟨Prod.ext h2.symm h1, h3⟩
  · rintro ⟨h1, h3⟩
    rw [h1]
    exact ⟨rfl, rfl, h3⟩
theorem vmay_ev (s : List Int) (e : List L8) (hs : s.length ≤ 9223372036854775807) : Ev (fun k => TV.val_May.f k s (mB e)) (goodB s e) := by
  unfold TV.val_May.f
  refine Ev.bind (size_ev s hs) ?_
  unfold goodB
  by_cases h2 : (sizeS s).2 = 0
  · rw [decide_eq_true h2, Bool.true_and]
    refine Ev.congr (fun k => if_pos h2) ?_
    by_cases h1 : (e.length : Int) = (sizeS s).1
    · rw [decide_eq_true h1, Bool.true_and]
      refine Ev.congr (fun k => if_pos (by rw [mB_len]; exact h1)) ?_
      rw [cf_ev]
      show Ev (fun k => some (!(!(e.all mayL)))) _
      rw [Bool.not_not]
      exact Ev.now _
    · rw [decide_eq_false h1, Bool.false_and]
      exact Ev.congr (fun k => if_neg (by rw [mB_len]; exact h1)) (Ev.now _)
  · rw [decide_eq_false h2, Bool.false_and]
    exact Ev.congr (fun k => if_neg h2) (Ev.now _)
/-! ### a number as a part -/
theorem may_len {l : L8} (h : mayL l = true) : l.length ≤ 101 := by
  unfold mayL at h
  rw [Bool.or_eq_true] at h
  rcases h with h | h
  · rw [eq_of_beq h]; decide
  · simp only [Bool.and_eq_true, decide_eq_true_eq] at h
    have h1 := h.1.1.2
    cases l with
    | nil => simp
    | cons c r =>
      rw [body_cons] at h1
      split at h1 <;> simp only [List.length_cons] at h1 ⊢ <;> omega
theorem lit_len (l : L8) : (lit l).length = l.length := by
  unfold lit
  split
  · rfl
  · split <;> rfl
theorem literal_ev {l : L8} (h : mayL l = true) : TV.lex_Literal.f (BA l) = some (BA (lit l), true) := by
  unfold TV.lex_Literal.f
  rw [Nm.may_ev, h]
  simp only [Option.bind_some, if_true]
  rw [trim_ev]
  simp only [Option.bind_some]
  rw [ba_list, ba_list]
  have hl := may_len h
  rcases may_cases h with ⟨r, rfl, hd, hne⟩ | ⟨hd, c, r, rfl, h1, h2⟩
  · have e1 : lit (45 :: r) = 95 :: r := rfl
    have e2 : body (45 :: r) = r := rfl
    rw [e1, e2, if_neg (ne_self 45 r), if_pos (by rw [ba_size]; simp only [List.length_cons] at hl; omega)]
    rw [show (⟨#[95]⟩ : ByteArray) = BA [95] from rfl, ba_append]
    rfl
  · have e1 : lit (c :: r) = c :: r := if_neg h1
    rw [e1, body_cons, if_neg h1, if_pos rfl]
/-! ### numbers in a row -/
theorem jn_len (c : UInt8) : ∀ xs : List L8, (jn c xs).length ≤ (xs.map (fun x => x.length + 1)).sum
  | [] => Nat.le_refl _
  | [x] => by simp [jn]
  | x :: y :: r => by
    have := jn_len c (y :: r)
    rw [jn_cons c x (by simp)]
    rw [List.map_cons, List.sum_cons, List.length_append, List.length_cons]
    omega
theorem row_len : ∀ {e : List L8}, AllM e → (rowT e).length ≤ 102 * e.length := fun {e} h => by
  have h1 := jn_len 32 (e.map lit)
  have h2 : ∀ e : List L8, AllM e → ((e.map lit).map (fun x => x.length + 1)).sum ≤ 102 * e.length := by
    intro e
    induction e with
    | nil => intro _; exact Nat.le_refl _
    | cons x e ih =>
      intro h
      have h3 := ih (fun y hy => h y (by simp [hy]))
      have h4 := may_len (h x (by simp))
      rw [List.map_cons, List.map_cons, List.sum_cons, lit_len, List.length_cons]
      omega
  exact Nat.le_trans h1 (h2 e h)
theorem join_ev (xs : List L8) (hl : xs.length ≤ 4096) (h : (jn 32 xs).length ≤ 140737488355328) : Hd.join.f (mB xs) (⟨#[32]⟩ : ByteArray) = some (BA (jn 32 xs)) := by
  unfold Hd.join.f
  rw [mB_data, show (⟨#[32]⟩ : ByteArray).data.toList = [32] from rfl, join_jn, if_pos ⟨by rw [mB_len]; omega, h⟩]
theorem row_loop : ∀ (suf pre : List L8), AllM (pre ++ suf) → (pre ++ suf).length ≤ 4096 →
    Ev (fun k => TV.text_row.l0 k (mB (pre.map lit)) (mB (pre ++ suf)) (((mB (pre ++ suf)).length : Nat) : Int) ((pre.length : Nat) : Int)) (BA (rowT (pre ++ suf)))
  | [], pre, ha, hl => by
    refine Ev.step (f := fun k => some (BA (rowT (pre ++ [])))) (fun k => ?_) (Ev.now _)
    simp only [TV.text_row.l0]
    have h := row_len ha
    rw [List.append_nil] at h hl ⊢
    rw [if_neg (by rw [mB_len]; omega), join_ev _ (by rw [List.length_map]; exact hl) (by
      show (rowT pre).length ≤ _
      omega)]
    rfl
  | x :: suf, pre, ha, hl => by
    have ih := row_loop suf (pre ++ [x]) (by rw [← moveP]; exact ha) (by rw [← moveP]; exact hl)
    rw [← moveP, List.map_append, mB_app (pre.map lit)] at ih
    have hlen : pre.length < (pre ++ x :: suf).length := by simp
    refine Ev.step (fun k => ?_) ih
    simp only [TV.text_row.l0]
    rw [if_pos (by rw [mB_len]; omega), if_pos (by omega), if_pos (by rw [mB_len]; omega), rdB, literal_ev (ha x (by simp))]
    simp only [Option.bind_some]
    rw [if_pos (by rw [mB_len, List.length_map]; omega), wi _ (by omega), nextP pre x]
    rfl
theorem row_ev {e : List L8} (h : AllM e) (hl : e.length ≤ 4096) : Ev (fun k => TV.text_row.f k (mB e)) (BA (rowT e)) := row_loop e [] h hl
theorem vector_ev {e : List L8} (h : AllM e) (hl : e.length ≤ 4096) : Ev (fun k => TV.text_vector.f k (mB e)) (BA (vecT e)) := by
  unfold TV.text_vector.f
  match e, h, hl with
  | [], _, _ => exact Ev.congr (fun k => if_pos rfl) (Ev.now _)
  | [x], h, hl =>
    refine Ev.congr (fun k => if_neg (by rw [mB_len]; simp)) (Ev.congr (fun k => if_pos (by rw [mB_len]; simp)) (Ev.bind (row_ev h hl) ?_))
    have h1 := row_len h
    refine Ev.congr (fun k => if_pos (by rw [ba_size]; simp only [List.length_cons, List.length_nil] at h1; omega)) ?_
    rw [show (⟨#[44]⟩ : ByteArray) = BA [44] from rfl, ba_append]
    exact Ev.now _
  | x :: y :: r, h, hl =>
    refine Ev.congr (fun k => if_neg (by rw [mB_len]; simp; omega)) (Ev.congr (fun k => if_neg (by rw [mB_len]; simp; omega)) (Ev.bind (row_ev h hl) (Ev.now _)))
/-! ### the text of an array -/
theorem rdI (pre suf : List Int) (x : Int) : rd (pre ++ x :: suf) ((pre.length : Nat) : Int) = x := by
  unfold rd
  rw [Int.toNat_natCast]
  simp [List.getD_eq_getElem?_getD]
theorem clone_ev (e : List L8) (h : e.length ≤ 4096) : Hd.clone_str.f (mB e) = some (mB e) := by
  unfold Hd.clone_str.f
  exact if_pos (by rw [mB_len]; omega)
theorem vec_ev (e : List L8) (h : e.length ≤ 4096) : TV.val_Vector.f (mB e) = some ([(e.length : Int)], mB e) := by
  unfold TV.val_Vector.f
  rw [clone_ev e h]
  simp only [Option.bind_some]
  rw [mB_len]
theorem ints_loop : ∀ (suf pre : List Int), (∀ x ∈ pre ++ suf, i64P x) → (pre ++ suf).length ≤ 4096 →
    Ev (fun k => TV.val_Ints.l0 k (mB (pre.map itoa)) (pre ++ suf) (((pre ++ suf).length : Nat) : Int) ((pre.length : Nat) : Int)) ([((pre ++ suf).length : Int)], mB ((pre ++ suf).map itoa))
  | [], pre, ha, hl => by
    refine Ev.step (f := fun k => some ([((pre ++ []).length : Int)], mB ((pre ++ []).map itoa))) (fun k => ?_) (Ev.now _)
    simp only [TV.val_Ints.l0]
    rw [List.append_nil] at hl ⊢
    rw [if_neg (by omega), vec_ev _ (by rw [List.length_map]; exact hl), List.length_map]
    rfl
  | x :: suf, pre, ha, hl => by
    have ih := ints_loop suf (pre ++ [x]) (by rw [← moveP]; exact ha) (by rw [← moveP]; exact hl)
    rw [← moveP] at ih
    have hlen : pre.length < (pre ++ x :: suf).length := by simp
    have hx := ha x (by simp)
    refine Ev.step (fun k => ?_) ih
    simp only [TV.val_Ints.l0]
    rw [if_pos (by omega), if_pos (by omega), if_pos (by omega), rdI, numOf_ev x hx.1 hx.2]
    simp only [Option.bind_some]
    rw [if_pos (by rw [mB_len, List.length_map]; omega), wi _ (by omega), nextP pre x, List.map_append, mB_app]
    rfl
theorem ints_ev {s : List Int} (h : ∀ x ∈ s, i64P x) (hl : s.length ≤ 4096) : Ev (fun k => TV.val_Ints.f k s) ([(s.length : Int)], mB (s.map itoa)) := ints_loop s [] h hl
theorem vec_len {e : List L8} (h : AllM e) : (vecT e).length ≤ 102 * e.length + 2 := by
  match e, h with
  | [], _ => decide
  | [x], h =>
    have := may_len (h x (by simp))
    show (44 :: lit x).length ≤ _
    rw [List.length_cons, lit_len]
    simp only [List.length_cons, List.length_nil]
    omega
  | x :: y :: r, h => exact Nat.le_trans (row_len h) (by omega)
theorem text_good {s : List Int} {e : List L8} (h : Good s e) : Ev (fun k => TV.text_Text.f k s (mB e)) (BA (textT s e), 0) := by
  obtain ⟨hb, hn0, hn1⟩ := size_bd h.1
  obtain ⟨hs3, _, _⟩ := size_ok h.1
  have hl : e.length ≤ 4096 := by omega
  unfold TV.text_Text.f
  refine Ev.bind (vmay_ev s e (by omega)) ?_
  rw [(good_iff s e).2 h]
  refine Ev.congr (fun k => if_pos rfl) ?_
  match s, h, hb, hs3 with
  | [], h, _, _ => exact Ev.congr (fun k => if_pos rfl) (Ev.bind (row_ev h.2 hl) (Ev.now _))
  | [n], h, _, _ => exact Ev.congr (fun k => if_neg (by simp)) (Ev.congr (fun k => if_pos (by simp)) (Ev.bind (vector_ev h.2 hl) (Ev.now _)))
  | a :: b :: s, h, hb, hs3 =>
    have hma := axes_may hb
    have hr := row_len hma
    have hv := vec_len h.2
    rw [List.length_map] at hr
    refine Ev.congr (fun k => if_neg (by simp; omega)) (Ev.congr (fun k => if_neg (by simp; omega)) (Ev.bind (ints_ev hb (by omega)) (Ev.bind (row_ev hma (by rw [List.length_map]; omega)) ?_)))
    refine Ev.congr (fun k => if_pos (by rw [ba_size]; omega)) (Ev.bind (vector_ev h.2 hl) ?_)
    rw [show (⟨#[35]⟩ : ByteArray) = BA [35] from rfl, ba_append, ba_append, ba_size, ba_size]
    refine Ev.congr (fun k => if_pos (by rw [List.length_append]; simp only [List.length_cons, List.length_nil]; omega)) ?_
    rw [List.append_assoc]
    exact Ev.now _
theorem text_bad {s : List Int} {e : List L8} (hs : s.length ≤ 9223372036854775807) (h : ¬ Good s e) : Ev (fun k => TV.text_Text.f k s (mB e)) (BA [], 1) := by
  unfold TV.text_Text.f
  refine Ev.bind (vmay_ev s e hs) ?_
  cases hg : goodB s e with
  | true => exact absurd ((good_iff s e).1 hg) h
  | false => exact Ev.congr (fun k => if_neg Bool.false_ne_true) (Ev.now _)
/-! ### a part as a number -/
theorem trimP_ev (c : UInt8) (l : L8) : K.strings_TrimPrefix.f (BA l) (⟨#[c]⟩ : ByteArray) = some (BA (trimC c l)) := by
  unfold K.strings_TrimPrefix.f K.stringslite_TrimPrefix.f K.stringslite_HasPrefix.f
  rw [show (⟨#[c]⟩ : ByteArray) = BA [c] from rfl, ba_size, ba_size]
  cases l with
  | nil => rfl
  | cons b r =>
    rw [if_pos (by simp; omega), if_pos (by simp), if_pos (by simp; omega)]
    simp only [Option.bind_some]
    rw [show ((([c] : List UInt8).length : Nat) : Int).toNat = 1 from rfl, extract0, ba_list]
    by_cases hc : b = c
    · subst hc
      rw [if_pos (by simp), if_pos (by simp), if_pos (by simp; omega), show (b :: r).length = (BA (b :: r)).size from (ba_size _).symm, ba_extract1, trim_hit]
      rfl
    · rw [if_neg (by simpa using hc), trim_other hc]
      rfl
theorem low_trim (l : L8) : low l = trimC 95 l := by
  cases l with
  | nil => rfl
  | cons c r =>
    by_cases h : c = 95
    · subst h; rfl
    · rw [trim_other h]
      exact if_neg (fun e => h (UInt8.toNat_inj.mp e))
theorem fig_ev (c : UInt8) : TV.lex_figure.f ((c.toNat : Nat) : Int) = some (digB c) := by
  unfold TV.lex_figure.f digB
  by_cases h : 48 ≤ c.toNat
  · rw [if_pos (by omega), decide_eq_true h, Bool.true_and, show decide (((c.toNat : Nat) : Int) ≤ 57) = decide (c.toNat ≤ 57) from decide_eq_decide.2 (by omega)]
  · rw [if_neg (by omega), decide_eq_false h, Bool.false_and]
theorem run_loop : ∀ (suf pre : L8), (pre ++ suf).length ≤ 1000000000 → Ev (fun k => TV.lex_run_figure.l0 k (BA (pre ++ suf)) ((pre.length : Nat) : Int)) (((pre.length + (suf.takeWhile digB).length : Nat)) : Int)
  | [], pre, hl => by
    refine Ev.step (f := fun k => some ((pre.length : Nat) : Int)) (fun k => ?_) ?_
    · simp only [TV.lex_run_figure.l0]
      rw [if_neg (by rw [ba_size]; simp)]
    · simpa using Ev.now ((pre.length : Nat) : Int)
  | c :: suf, pre, hl => by
    have hlen : pre.length < (pre ++ c :: suf).length := by simp
    have hbt : bt (BA (pre ++ c :: suf)) ((pre.length : Nat) : Int) = ((c.toNat : Nat) : Int) := by
      rw [bt_ba _ _ hlen]
      simp [List.getD_eq_getElem?_getD]
    cases hd : digB c with
    | true =>
      have ih := run_loop suf (pre ++ [c]) (by rw [← moveP]; exact hl)
      rw [← moveP] at ih
      have e : pre.length + (List.takeWhile digB (c :: suf)).length = (pre ++ [c]).length + (List.takeWhile digB suf).length := by
        rw [List.takeWhile_cons, hd]; simp; omega
      rw [e]
      refine Ev.step (fun k => ?_) ih
      simp only [TV.lex_run_figure.l0]
      rw [if_pos (by rw [ba_size]; omega), if_pos (by omega), hbt, fig_ev, hd]
      simp only [Option.bind_some, if_true]
      rw [wi _ (by omega), nextP pre c]
    | false =>
      refine Ev.step (f := fun k => some ((pre.length : Nat) : Int)) (fun k => ?_) ?_
      · simp only [TV.lex_run_figure.l0]
        rw [if_pos (by rw [ba_size]; omega), if_pos (by omega), hbt, fig_ev, hd]
        rfl
      · rw [List.takeWhile_cons, hd]
        exact Ev.now _
theorem run_ev (l : L8) (hl : l.length ≤ 1000000000) : Ev (fun k => TV.lex_run_figure.f k (BA l)) (((l.takeWhile digB).length : Nat) : Int) := by
  have := run_loop l [] hl
  simpa [TV.lex_run_figure.f] using this
theorem take_all (p : UInt8 → Bool) : ∀ l : L8, (l.takeWhile p).length = l.length ↔ l.all p = true
  | [] => by simp
  | c :: l => by
    have ih := take_all p l
    rw [List.takeWhile_cons, List.all_cons]
    cases h : p c with
    | true => simp [ih]
    | false => simp
def oN (r : Option L8) : ByteArray × Bool := match r with | some n => (BA n, true) | none => (BA [], false)
theorem num_j0 (f n : L8) (hl : f.length ≤ 1000000000) : Ev (fun k => TV.lex_Number.j0 k (BA f) (BA n)) (if f.all digB = true ∧ mayL n = true then (BA n, true) else (BA [], false)) := by
  refine Ev.step (f := ?f1) (fun k => ?h1) ?g1
  case h1 => rw [TV.lex_Number.j0]
  case g1 =>
    refine Ev.bind (run_ev f hl) ?_
    by_cases h1 : f.all digB = true
    · refine Ev.congr (fun k => if_pos (by rw [ba_size, (take_all digB f).2 h1])) ?_
      rw [Nm.may_ev]
      cases h2 : mayL n with
      | true => rw [if_pos ⟨h1, rfl⟩]; exact Ev.now _
      | false => rw [if_neg (fun h => by cases h.2)]; exact Ev.now _
    · rw [if_neg (show ¬ (f.all digB = true ∧ mayL n = true) from fun h => h1 h.1)]
      have hne : ¬ (((f.takeWhile digB).length : Nat) : Int) = (((BA f).size : Nat) : Int) := fun h => h1 ((take_all digB f).1 (by rw [ba_size] at h; omega))
      exact Ev.congr (fun k => if_neg hne) (Ev.now _)
theorem oN_prs (p : L8) : oN (prs p) = if (low p).all digB = true ∧ mayL (unl p) = true then (BA (unl p), true) else (BA [], false) := by
  unfold oN prs
  by_cases h : (low p).all digB = true ∧ mayL (unl p) = true
  · rw [if_pos h, if_pos h]
  · rw [if_neg h, if_neg h]
theorem number_ev (p : L8) (hl : p.length ≤ 1000000000) : Ev (fun k => TV.lex_Number.f k (BA p)) (oN (prs p)) := by
  unfold TV.lex_Number.f
  rw [trimP_ev, ← low_trim, oN_prs]
  simp only [Option.bind_some]
  rw [ba_list, ba_list]
  cases p with
  | nil => exact Ev.congr (fun k => if_pos rfl) (num_j0 [] [] (by decide))
  | cons c r =>
    simp only [List.length_cons] at hl
    by_cases hc : c.toNat = 95
    · have e2 : low (c :: r) = r := if_pos hc
      have e3 : unl (c :: r) = 45 :: r := if_pos hc
      rw [e2, e3]
      refine Ev.congr (fun k => if_neg (ne_self c r)) (Ev.congr (fun k => if_pos (by rw [ba_size]; omega)) ?_)
      rw [show (⟨#[45]⟩ : ByteArray) = BA [45] from rfl, ba_append]
      exact num_j0 r (45 :: r) (by omega)
    · have e2 : low (c :: r) = c :: r := if_neg hc
      have e3 : unl (c :: r) = c :: r := if_neg hc
      rw [e2, e3]
      exact Ev.congr (fun k => if_pos rfl) (num_j0 (c :: r) (c :: r) (by simp only [List.length_cons]; omega))
/-! ### the numbers of a row -/
def oL (r : Option (List L8)) : List ByteArray × Bool := match r with | some l => (mB l, true) | none => ([], false)
theorem nums_loop (hT : ∀ x : L8, x.length ≤ 1000000000 → Ev (fun k => TV.lex_Number.f k (BA x)) (oN (prs x))) : ∀ (suf pre acc : List L8), (∀ x ∈ pre ++ suf, x.length ≤ 1000000000) → (pre ++ suf).length ≤ 4000000000 → acc.length = pre.length →
    Ev (fun k => TV.text_numbers.l0 k (mB acc) (mB (pre ++ suf)) (((mB (pre ++ suf)).length : Nat) : Int) ((pre.length : Nat) : Int)) (oL ((suf.mapM prs).map (acc ++ ·)))
  | [], pre, acc, ha, hl, hc => by
    refine Ev.step (f := fun k => some (mB acc, true)) (fun k => ?_) ?_
    · simp only [TV.text_numbers.l0]
      rw [if_neg (by rw [mB_len]; simp)]
    · show Ev _ (mB (acc ++ []), true)
      rw [List.append_nil]
      exact Ev.now _
  | x :: suf, pre, acc, ha, hl, hc => by
    have hlen : pre.length < (pre ++ x :: suf).length := by simp
    have hx := hT x (ha x (by simp))
    refine Ev.step (f := ?f2) (fun k => ?h2) ?g2
    case h2 =>
      rw [TV.text_numbers.l0, if_pos (by rw [mB_len]; omega), if_pos (by omega), if_pos (by rw [mB_len]; omega), rdB]
    case g2 =>
      refine Ev.bind hx ?_
      cases hp : prs x with
      | none =>
        rw [List.mapM_cons, hp]
        exact Ev.congr (fun k => if_neg Bool.false_ne_true) (Ev.now _)
      | some n =>
        have ih := nums_loop hT suf (pre ++ [x]) (acc ++ [n]) (by rw [← moveP]; exact ha) (by rw [← moveP]; exact hl) (by simp [hc])
        rw [← moveP] at ih
        have e : (List.mapM prs (x :: suf)).map (acc ++ ·) = (suf.mapM prs).map ((acc ++ [n]) ++ ·) := by
          rw [List.mapM_cons, hp]
          cases suf.mapM prs with
          | none => rfl
          | some l => show some (acc ++ n :: l) = some ((acc ++ [n]) ++ l); rw [moveP]
        rw [e]
        refine Ev.congr (fun k => if_pos rfl) (Ev.congr (fun k => if_pos (by rw [mB_len]; omega)) ?_)
        rw [wi _ (by omega), nextP pre x]
        rw [mB_app] at ih
        exact ih
theorem spl_len (c : UInt8) : ∀ l : L8, (spl c l).length ≤ l.length + 1 ∧ ∀ x ∈ spl c l, x.length ≤ l.length
  | [] => ⟨by simp [spl], fun x hx => by simp [spl] at hx; simp [hx]⟩
  | b :: l => by
    obtain ⟨h1, h2⟩ := spl_len c l
    unfold spl
    split
    · refine ⟨by simp only [List.length_cons]; omega, fun x hx => ?_⟩
      rcases List.mem_cons.mp hx with rfl | hx
      · simp
      · have := h2 x hx; simp only [List.length_cons]; omega
    · split
      · rename_i he
        exact absurd he (spl_ne c l)
      · rename_i y r he
        rw [he] at h1 h2
        refine ⟨by simp only [List.length_cons] at h1 ⊢; omega, fun x hx => ?_⟩
        rcases List.mem_cons.mp hx with rfl | hx
        · have := h2 y (by simp); simp only [List.length_cons]; omega
        · have := h2 x (by simp [hx]); simp only [List.length_cons]; omega
theorem split_ev (t : L8) (hl : t.length ≤ 1000000000) : Hd.split.f (BA t) (⟨#[32]⟩ : ByteArray) = some (mB (spl 32 t)) := by
  unfold Hd.split.f
  rw [if_pos ⟨by rw [ba_size]; omega, by decide⟩]
  obtain ⟨e, he⟩ := mB_of (splitB ⟨#[32]⟩ 0 (countB (BA t) ⟨#[32]⟩) (BA t))
  have h := split_spl (BA t) 32
  rw [he, mB_data, ba_data] at h
  rw [he, h]
theorem numbers_ev (t : L8) (hl : t.length ≤ 1000000000) : Ev (fun k => TV.text_numbers.f k (BA t)) (oL (numsR t)) := by
  unfold TV.text_numbers.f
  rw [split_ev t hl]
  obtain ⟨h1, h2⟩ := spl_len 32 t
  have := nums_loop (fun x hx => number_ev x hx) (spl 32 t) [] [] (fun x hx => Nat.le_trans (h2 x hx) hl) (by show (spl 32 t).length ≤ _; omega) rfl
  simp only [Option.bind_some]
  have e : ((spl 32 t).mapM prs).map (([] : List L8) ++ ·) = numsR t := by
    unfold numsR
    cases (spl 32 t).mapM prs <;> rfl
  rw [e] at this
  exact this
/-! ### the array of a text -/
def oF (r : Option (List Int × List L8)) : List Int × List ByteArray × Bool := match r with | some (s, e) => (s, mB e, true) | none => ([], [], false)
theorem flat_j1 (l : List L8) (b : Bool) (hb : b = true → l.length = 1) (hl : l.length ≤ 4096) : Ev (fun k => TV.text_flat.j1 k (mB l) b) (if b = true then ([], mB l, true) else ([(l.length : Int)], mB l, true)) := by
  cases b with
  | true =>
    obtain ⟨x, rfl⟩ := List.length_eq_one_iff.mp (hb rfl)
    refine Ev.step (f := fun k => some (([] : List Int), mB [x], true)) (fun k => ?_) (Ev.now _)
    simp only [TV.text_flat.j1, if_true]
    rw [if_pos (by rw [mB_len]; simp), show rdOf ByteArray.empty (mB [x]) 0 = BA x from rdB [] [] x]
    rfl
  | false =>
    refine Ev.step (f := fun k => some ([(l.length : Int)], mB l, true)) (fun k => ?_) (Ev.now _)
    simp only [TV.text_flat.j1]
    rw [if_neg Bool.false_ne_true, vec_ev l hl]
    rfl
theorem flat_j0t (a b : ByteArray) (l : List ByteArray) : Ev (fun k => TV.text_flat.j0 k a b l true) (([] : List Int), ([] : List ByteArray), false) := by
  refine Ev.step (f := fun k => some (([] : List Int), ([] : List ByteArray), false)) (fun k => ?_) (Ev.now _)
  simp only [TV.text_flat.j0, if_true]
theorem flat_j0f (t f : L8) (l : List L8) (hl : l.length ≤ 4096) : Ev (fun k => TV.text_flat.j0 k (BA t) (BA f) (mB l) false) (if f = t ∧ l.length = 1 then ([], mB l, true) else ([(l.length : Int)], mB l, true)) := by
  refine Ev.step (f := ?f3) (fun k => ?h3) ?g3
  case h3 => rw [TV.text_flat.j0, if_neg Bool.false_ne_true, ba_list, ba_list]
  case g3 =>
    by_cases h1 : f = t
    · refine Ev.congr (fun k => if_pos h1) ?_
      have := flat_j1 l (((mB l).length : Int) == 1) (fun h => by have := eq_of_beq h; rw [mB_len] at this; omega) hl
      by_cases h2 : l.length = 1
      · rw [if_pos ⟨h1, h2⟩]
        rw [if_pos (beq_iff_eq.mpr (by rw [mB_len]; omega))] at this
        exact this
      · rw [if_neg (fun h => h2 h.2)]
        rw [if_neg (fun h => h2 (by have := eq_of_beq h; rw [mB_len] at this; omega))] at this
        exact this
    · rw [if_neg (fun h => h1 h.1)]
      have := flat_j1 l false (fun h => by cases h) hl
      exact Ev.congr (fun k => if_neg h1) this
theorem flat_ev (t : L8) (hl : t.length ≤ 1000000000) : Ev (fun k => TV.text_flat.f k (BA t)) (oF (flatR t)) := by
  unfold TV.text_flat.f flatR
  rw [ba_list]
  by_cases h0 : t = [33, 48]
  · rw [if_pos h0]
    refine Ev.congr (fun k => if_pos h0) ?_
    rw [show ([] : List ByteArray) = mB [] from rfl, vec_ev [] (by decide)]
    exact Ev.now _
  · rw [if_neg h0]
    refine Ev.congr (fun k => if_neg h0) ?_
    rw [trimP_ev]
    simp only [Option.bind_some]
    have htl : (trimC 44 t).length ≤ 1000000000 := by
      cases t with
      | nil => exact hl
      | cons b r =>
        by_cases hb : b = 44
        · subst hb; rw [trim_hit]; simp only [List.length_cons] at hl; omega
        · rw [trim_other hb]; exact hl
    refine Ev.bind (numbers_ev _ htl) ?_
    cases hn : numsR (trimC 44 t) with
    | none => exact Ev.congr (fun k => if_neg Bool.false_ne_true) (flat_j0t _ _ _)
    | some l =>
      refine Ev.congr (fun k => if_pos rfl) ?_
      show Ev (fun k => if (BA (trimC 44 t)).toList = t then TV.text_flat.j0 k (BA t) (BA (trimC 44 t)) (mB l) (decide (((mB l).length : Int) > 4096)) else if ((mB l).length : Int) > 1 then TV.text_flat.j0 k (BA t) (BA (trimC 44 t)) (mB l) true else TV.text_flat.j0 k (BA t) (BA (trimC 44 t)) (mB l) (decide (((mB l).length : Int) > 4096))) _
      rw [ba_list]
      by_cases hb : 4096 < l.length
      · have hd : decide (((mB l).length : Int) > 4096) = true := decide_eq_true (by rw [mB_len]; omega)
        rw [hd]
        simp only
        rw [if_pos (Or.inr hb)]
        by_cases h1 : trimC 44 t = t
        · exact Ev.congr (fun k => if_pos h1) (flat_j0t _ _ _)
        · refine Ev.congr (fun k => if_neg h1) ?_
          by_cases h2 : ((mB l).length : Int) > 1
          · exact Ev.congr (fun k => if_pos h2) (flat_j0t _ _ _)
          · exact Ev.congr (fun k => if_neg h2) (flat_j0t _ _ _)
      · have hd : decide (((mB l).length : Int) > 4096) = false := decide_eq_false (by rw [mB_len]; omega)
        rw [hd]
        have hj := flat_j0f t (trimC 44 t) l (by omega)
        simp only
        by_cases h1 : trimC 44 t = t
        · rw [if_neg (fun h => h.elim (fun h => h.1 h1) hb)]
          refine Ev.congr (fun k => if_pos h1) ?_
          by_cases h2 : l.length = 1
          · rw [if_pos ⟨h1, h2⟩] at hj ⊢
            exact hj
          · rw [if_neg (fun h => h2 h.2)] at hj ⊢
            exact hj
        · refine Ev.congr (fun k => if_neg h1) ?_
          by_cases h2 : 1 < l.length
          · rw [if_pos (Or.inl ⟨h1, h2⟩)]
            exact Ev.congr (fun k => if_pos (by rw [mB_len]; omega)) (flat_j0t _ _ _)
          · rw [if_neg (fun h => h.elim (fun h => h2 h.2) hb)]
            refine Ev.congr (fun k => if_neg (by rw [mB_len]; omega)) ?_
            rw [if_neg (fun h => h1 h.1)] at hj ⊢
            exact hj
/-! ### axes -/
theorem numInt_all (l : L8) (hl : l.length ≤ 1000000000) : ∃ z, Hd.numInt.f (BA l) = some (z, (intR l).isSome) ∧ (∀ y, intR l = some y → z = y) := by
  cases h : mayL l with
  | false =>
    refine ⟨0, ?_, ?_⟩
    · rw [numInt_no l hl h]
      unfold intR
      rw [if_neg (by rw [h]; decide)]
      rfl
    · intro y hy
      unfold intR at hy
      rw [if_neg (by rw [h]; decide)] at hy
      cases hy
  | true =>
    obtain ⟨z, rfl, hz⟩ := num_of_may l h
    have e : Hd.numInt.f (BA (itoa z)) = some (intOfZ z) := numInt_ev z hz
    unfold intR
    rw [e, if_pos h, parse_itoa]
    unfold intOfZ
    by_cases hi : i64P z
    · rw [if_pos hi, if_pos hi]
      exact ⟨z, rfl, fun y hy => by cases hy; rfl⟩
    · rw [if_neg hi, if_neg hi]
      exact ⟨_, rfl, fun y hy => (by cases hy)⟩
def oA (r : Option (List Int)) : List Int × Bool := match r with | none => ([], false) | some s => (s, decide (1 < s.length) && decide ((sizeS s).2 = 0))
theorem axes_loop : ∀ (suf pre : List L8) (acc : List Int), (∀ x ∈ pre ++ suf, x.length ≤ 1000000000) → (pre ++ suf).length ≤ 4000000000 → acc.length = pre.length →
    Ev (fun k => TV.text_axes.l0 k acc (mB (pre ++ suf)) (((mB (pre ++ suf)).length : Nat) : Int) ((pre.length : Nat) : Int)) (oA ((suf.mapM intR).map (acc ++ ·)))
  | [], pre, acc, ha, hl, hc => by
    have e : ((List.mapM intR ([] : List L8)).map (acc ++ ·)) = some acc := by
      show some (acc ++ []) = some acc
      rw [List.append_nil]
    rw [e]
    refine Ev.step (f := ?f4) (fun k => ?h4) ?g4
    case h4 =>
      rw [TV.text_axes.l0, if_neg (by rw [mB_len]; simp)]
    case g4 =>
      show Ev _ (acc, decide (1 < acc.length) && decide ((sizeS acc).2 = 0))
      by_cases h1 : 1 < acc.length
      · refine Ev.congr (fun k => if_pos (by omega)) (Ev.bind (Sh.may_ev acc (by rw [List.append_nil] at hl; omega)) ?_)
        rw [decide_eq_true h1, Bool.true_and, show ((sizeS acc).2 == 0) = decide ((sizeS acc).2 = 0) from rfl]
        exact Ev.now _
      · rw [decide_eq_false h1, Bool.false_and]
        refine Ev.congr (fun k => if_neg (by omega)) (Ev.now _)
  | x :: suf, pre, acc, ha, hl, hc => by
    have hlen : pre.length < (pre ++ x :: suf).length := by simp
    obtain ⟨z, hz1, hz2⟩ := numInt_all x (ha x (by simp))
    refine Ev.step (f := ?f5) (fun k => ?h5) ?g5
    case h5 =>
      rw [TV.text_axes.l0, if_pos (by rw [mB_len]; omega), if_pos (by omega), if_pos (by rw [mB_len]; omega), rdB, hz1]
    case g5 =>
      simp only [Option.bind_some]
      cases hp : intR x with
      | none =>
        rw [List.mapM_cons, hp]
        exact Ev.congr (fun k => if_neg (by simp)) (Ev.now _)
      | some y =>
        obtain rfl := hz2 y hp
        have ih := axes_loop suf (pre ++ [x]) (acc ++ [z]) (by rw [← moveP]; exact ha) (by rw [← moveP]; exact hl) (by simp [hc])
        rw [← moveP] at ih
        have e : (List.mapM intR (x :: suf)).map (acc ++ ·) = (suf.mapM intR).map ((acc ++ [z]) ++ ·) := by
          rw [List.mapM_cons, hp]
          cases suf.mapM intR with
          | none => rfl
          | some l => show some (acc ++ z :: l) = some ((acc ++ [z]) ++ l); rw [moveP]
        rw [e]
        refine Ev.congr (fun k => if_pos (by simp)) (Ev.congr (fun k => if_pos (by omega)) ?_)
        rw [wi _ (by omega), nextP pre x]
        exact ih
theorem axes_ev (l : List L8) (h1 : ∀ x ∈ l, x.length ≤ 1000000000) (h2 : l.length ≤ 4000000000) : Ev (fun k => TV.text_axes.f k (mB l)) (oA (l.mapM intR)) := by
  have := axes_loop l [] [] h1 h2 rfl
  have e : (l.mapM intR).map (([] : List Int) ++ ·) = l.mapM intR := by cases l.mapM intR <;> rfl
  rw [e] at this
  exact this
theorem nums_small {t : L8} {l : List L8} (h : numsR t = some l) : (∀ x ∈ l, x.length ≤ 1000000000) ∧ l.length ≤ t.length + 1 := by
  obtain ⟨_, _, h3⟩ := nums_some h
  refine ⟨fun x hx => by have := may_len (h3 x hx); omega, ?_⟩
  obtain ⟨h4, _⟩ := mapM_back _ l h
  have h5 := congrArg List.length h4
  rw [List.length_map] at h5
  have := (spl_len 32 t).1
  omega
def oR (r : Option (List Int × List L8)) : List Int × List ByteArray × Int := match r with | some (s, e) => (s, mB e, 0) | none => ([], [], 2)
theorem cut_ev (t : L8) (hl : t.length ≤ 1000000000) : Hd.cut.f (BA t) (⟨#[35]⟩ : ByteArray) = some (BA (cut t [35]).1, BA (cut t [35]).2.1, (cut t [35]).2.2) := by
  unfold Hd.cut.f
  rw [if_pos (by rw [ba_size]; omega), ba_data]
theorem read_ev (t : L8) (hl : t.length ≤ 1000000) : Ev (fun k => TV.text_Read.f k (BA t)) (oR (readR t)) := by
  unfold TV.text_Read.f readR
  rw [cut_ev t (by omega)]
  simp only [Option.bind_some]
  rcases cut_spl t 35 with ⟨hc, hf⟩ | ⟨x, r, rfl, hx, hc⟩
  · rw [hc]
    refine Ev.congr (fun k => if_neg Bool.false_ne_true) ?_
    rw [if_neg Bool.false_ne_true]
    refine Ev.bind (flat_ev t (by omega)) ?_
    cases flatR t with
    | none => exact Ev.congr (fun k => if_neg Bool.false_ne_true) (Ev.now _)
    | some v => exact Ev.congr (fun k => if_pos rfl) (Ev.now _)
  · rw [hc]
    simp only [List.length_append, List.length_cons] at hl
    refine Ev.congr (fun k => if_pos rfl) ?_
    rw [if_pos rfl]
    simp only
    refine Ev.bind (numbers_ev x (by omega)) ?_
    obtain ⟨l, hlq, hn1, hn2, hn3⟩ : ∃ l, (oL (numsR x)).1 = mB l ∧ (numsR x).getD [] = l ∧ (∀ y ∈ l, y.length ≤ 1000000000) ∧ l.length ≤ 4000000 := by
      cases hn : numsR x with
      | none => exact ⟨[], rfl, rfl, fun y hy => (by cases hy), by decide⟩
      | some l =>
        obtain ⟨a1, a2⟩ := nums_small hn
        exact ⟨l, rfl, rfl, a1, by omega⟩
    rw [hlq, hn1]
    refine Ev.bind (axes_ev l hn2 (by omega)) (Ev.bind (flat_ev r (by omega)) ?_)
    have hsz : (oA (l.mapM intR)).1.length ≤ 9223372036854775807 := by
      cases hm : l.mapM intR with
      | none => exact Nat.zero_le _
      | some s =>
        have := congrArg List.length (mapM_int_back l s hm)
        rw [List.length_map] at this
        show s.length ≤ _
        omega
    refine Ev.bind (size_ev _ hsz) ?_
    unfold axesR
    cases hm : l.mapM intR with
    | none => exact Ev.congr (fun k => if_neg Bool.false_ne_true) (Ev.now _)
    | some s =>
      rw [Option.bind_some]
      by_cases h1 : 1 < s.length ∧ (sizeS s).2 = 0
      · rw [if_pos h1]
        refine Ev.congr (fun k => if_pos (show (decide (1 < s.length) && decide ((sizeS s).2 = 0)) = true by rw [decide_eq_true h1.1, decide_eq_true h1.2]; rfl)) ?_
        cases hv : flatR r with
        | none => exact Ev.congr (fun k => if_neg Bool.false_ne_true) (Ev.now _)
        | some v =>
          obtain ⟨v1, v2⟩ := v
          show Ev _ (oR (if v1.length = 1 ∧ (v2.length : Int) = (sizeS s).1 then some (s, v2) else none))
          refine Ev.congr (fun k => if_pos rfl) ?_
          by_cases h2 : v1.length = 1
          · refine Ev.congr (fun k => if_pos (show ((v1.length : Nat) : Int) = 1 by omega)) ?_
            by_cases h3 : (v2.length : Int) = (sizeS s).1
            · have h3' : (((mB v2).length : Nat) : Int) = (sizeS s).1 := by rw [mB_len]; exact h3
              rw [if_pos (show v1.length = 1 ∧ (v2.length : Int) = (sizeS s).1 from ⟨h2, h3⟩)]
              exact Ev.congr (fun k => if_pos h3') (Ev.now _)
            · have h3' : ¬ (((mB v2).length : Nat) : Int) = (sizeS s).1 := by rw [mB_len]; exact h3
              rw [if_neg (show ¬ (v1.length = 1 ∧ (v2.length : Int) = (sizeS s).1) from fun h => h3 h.2)]
              exact Ev.congr (fun k => if_neg h3') (Ev.now _)
          · rw [if_neg (show ¬ (v1.length = 1 ∧ (v2.length : Int) = (sizeS s).1) from fun h => h2 h.1)]
            exact Ev.congr (fun k => if_neg (show ¬ ((v1.length : Nat) : Int) = 1 by omega)) (Ev.now _)
      · rw [if_neg h1]
        have h1' : ¬ (decide (1 < s.length) && decide ((sizeS s).2 = 0)) = true := fun h => h1 (by simpa using h)
        exact Ev.congr (fun k => if_neg h1') (Ev.now _)
/-! ### whether two arrays are the same; few -/
theorem eqs_loop : ∀ (suf pre suf2 pre2 : List L8), pre.length = pre2.length → suf.length = suf2.length → (pre ++ suf).length ≤ 9000000000000000000 →
    Ev (fun k => TV.slices_Equal_string_string.l0 k (mB (pre ++ suf)) (mB (pre2 ++ suf2)) (((mB (pre ++ suf)).length : Nat) : Int) ((pre.length : Nat) : Int)) (decide (suf = suf2))
  | [], pre, suf2, pre2, h1, h2, hl => by
    have e : suf2 = [] := List.length_eq_zero_iff.mp h2.symm
    subst e
    refine Ev.step (f := fun k => some true) (fun k => ?_) (Ev.now _)
    simp only [TV.slices_Equal_string_string.l0]
    rw [if_neg (by rw [mB_len]; simp)]
  | x :: suf, pre, [], pre2, h1, h2, hl => by simp at h2
  | x :: suf, pre, y :: suf2, pre2, h1, h2, hl => by
    have hlen : pre.length < (pre ++ x :: suf).length := by simp
    have hlen2 : pre2.length < (pre2 ++ y :: suf2).length := by simp
    by_cases hxy : x = y
    · subst hxy
      have ih := eqs_loop suf (pre ++ [x]) suf2 (pre2 ++ [x]) (by simp [h1]) (by simpa using h2) (by rw [← moveP]; exact hl)
      rw [← moveP, ← moveP] at ih
      rw [show decide (x :: suf = x :: suf2) = decide (suf = suf2) from decide_eq_decide.2 (by simp)]
      refine Ev.step (fun k => ?_) ih
      simp only [TV.slices_Equal_string_string.l0]
      rw [if_pos (by rw [mB_len]; omega), if_pos (by omega), if_pos (by rw [mB_len]; omega), if_pos (by rw [mB_len]; omega), rdB, h1, rdB, if_pos rfl, wi _ (by simp only [List.length_append, List.length_cons] at hl; omega), ← h1, nextP pre x]
    · rw [decide_eq_false (fun h => hxy (List.cons.inj h).1)]
      refine Ev.step (f := fun k => some false) (fun k => ?_) (Ev.now _)
      simp only [TV.slices_Equal_string_string.l0]
      rw [if_pos (by rw [mB_len]; omega), if_pos (by omega), if_pos (by rw [mB_len]; omega), if_pos (by rw [mB_len]; omega), rdB, h1, rdB, if_neg (by rw [ba_list, ba_list]; exact hxy)]
theorem vsame_ev (s : List Int) (e : List L8) (s2 : List Int) (e2 : List L8) (h1 : s.length ≤ 9000000000000000000) (h2 : e.length ≤ 9000000000000000000) : Ev (fun k => TV.val_Same.f k s (mB e) s2 (mB e2)) (decide (s = s2 ∧ e = e2)) := by
  unfold TV.val_Same.f
  refine Ev.bind (Sh.same_ev s s2 (by omega)) ?_
  by_cases hs : s = s2
  · rw [decide_eq_true hs]
    refine Ev.congr (fun k => if_pos rfl) ?_
    have : Ev (fun k => TV.slices_Equal_string_string.f k (mB e) (mB e2)) (decide (e = e2)) := by
      unfold TV.slices_Equal_string_string.f
      rw [mB_len, mB_len]
      by_cases hl : e.length = e2.length
      · refine Ev.congr (fun k => if_pos (by omega)) ?_
        have := eqs_loop e [] e2 [] rfl hl h2
        rw [mB_len] at this
        exact this
      · rw [decide_eq_false (fun h => hl (congrArg List.length h))]
        exact Ev.congr (fun k => if_neg (by omega)) (Ev.now _)
    refine Ev.bind this ?_
    rw [show decide (s = s2 ∧ e = e2) = decide (e = e2) from decide_eq_decide.2 (by simp [hs])]
    exact Ev.now _
  · rw [decide_eq_false hs, decide_eq_false (fun h => hs h.1)]
    exact Ev.congr (fun k => if_neg Bool.false_ne_true) (Ev.now _)
def fewP (s : List Int) (e : List L8) : Prop := e.length ≤ 300 ∧ s.length ≤ 20 ∧ ∀ x ∈ e, x.length ≤ 120
theorem few_end (n : Nat) (s : List Int) (e : List L8) (hn : ∀ x ∈ e.take n, x.length ≤ 120) (hb : e.length ≤ n ∨ 301 ≤ n) : ∃ b, (b = true → fewP s e) ∧ Ev (fun k => TV.reredosref04_Few.j1 k ((n : Nat) : Int) false s (mB e)) b := by
  by_cases h : e.length ≤ 300
  · refine ⟨decide (s.length ≤ 20), fun hs => ⟨h, of_decide_eq_true hs, ?_⟩, ?_⟩
    · intro x hx
      refine hn x ?_
      rw [List.take_of_length_le (by omega)]
      exact hx
    · refine Ev.step (f := fun k => some (decide (s.length ≤ 20))) (fun k => ?_) (Ev.now _)
      simp only [TV.reredosref04_Few.j1]
      rw [if_neg Bool.false_ne_true, if_pos (by rw [mB_len]; omega), show decide ((s.length : Int) ≤ 20) = decide (s.length ≤ 20) from decide_eq_decide.2 (by omega)]
  · refine ⟨false, fun h => (by cases h), ?_⟩
    refine Ev.step (f := fun k => some false) (fun k => ?_) (Ev.now _)
    simp only [TV.reredosref04_Few.j1]
    rw [if_neg Bool.false_ne_true, if_neg (by rw [mB_len]; omega)]
theorem few_loop (s : List Int) : ∀ (suf pre : List L8), (∀ x ∈ pre, x.length ≤ 120) → pre.length ≤ 301 → ∃ b, (b = true → fewP s (pre ++ suf)) ∧ Ev (fun k => TV.reredosref04_Few.l0 k ((pre.length : Nat) : Int) s (mB (pre ++ suf))) b
  | [], pre, hp, hl => by
    obtain ⟨b, h1, h2⟩ := few_end pre.length s (pre ++ []) (by simpa using hp) (.inl (by simp))
    refine ⟨b, h1, Ev.step (fun k => ?_) h2⟩
    simp only [TV.reredosref04_Few.l0]
    rw [if_neg (by rw [mB_len]; simp)]
  | x :: suf, pre, hp, hl => by
    have hlen : pre.length < (pre ++ x :: suf).length := by simp
    by_cases h3 : pre.length < 301
    · by_cases hx : x.length ≤ 120
      · obtain ⟨b, h1, h2⟩ := few_loop s suf (pre ++ [x]) (fun y hy => by
          rcases List.mem_append.mp hy with hy | hy
          · exact hp y hy
          · rw [List.mem_singleton] at hy; rw [hy]; exact hx) (by simp; omega)
        rw [← moveP] at h1 h2
        refine ⟨b, h1, Ev.step (f := ?f6) (fun k => ?h6) (Ev.step (fun k => ?_) h2)⟩
        case f6 => exact fun k => TV.reredosref04_Few.j1 k ((pre.length : Nat) : Int) true s (mB (pre ++ x :: suf))
        case h6 =>
          simp only [TV.reredosref04_Few.l0]
          rw [if_pos (by rw [mB_len]; omega), decide_eq_true (by omega)]
        simp only [TV.reredosref04_Few.j1, if_true]
        rw [if_pos (by omega), if_pos (by rw [mB_len]; omega), rdB, if_neg (by rw [ba_size]; omega), wi _ (by omega), nextP pre x]
      · refine ⟨false, fun h => (by cases h), Ev.step (f := ?f7) (fun k => ?h7) (Ev.step (f := fun k => some false) (fun k => ?_) (Ev.now _))⟩
        case f7 => exact fun k => TV.reredosref04_Few.j1 k ((pre.length : Nat) : Int) true s (mB (pre ++ x :: suf))
        case h7 =>
          simp only [TV.reredosref04_Few.l0]
          rw [if_pos (by rw [mB_len]; omega), decide_eq_true (by omega)]
        simp only [TV.reredosref04_Few.j1, if_true]
        rw [if_pos (by omega), if_pos (by rw [mB_len]; omega), rdB, if_pos (by rw [ba_size]; omega)]
    · obtain ⟨b, h1, h2⟩ := few_end pre.length s (pre ++ x :: suf) (by simpa using hp) (.inr (by omega))
      refine ⟨b, h1, Ev.step (fun k => ?_) h2⟩
      simp only [TV.reredosref04_Few.l0]
      rw [if_pos (by rw [mB_len]; omega), decide_eq_false (by omega)]
theorem few_ev (s : List Int) (e : List L8) : ∃ b, (b = true → fewP s e) ∧ Ev (fun k => TV.reredosref04_Few.f k s (mB e)) b := few_loop s e [] (fun x hx => (by cases hx)) (by decide)
end Go.Proofs.YtcpaajecppplhaaGreatDoor.Tx
end
