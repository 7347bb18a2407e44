/- What the law leans on, part 38: declarations of several texts of ours, in their order. -/
import Derived.Test.YtcpaajecppplhaaGreatDoorXT35
import Derived.Test.YtcpaajecppplhaaGreatDoorXT36
import Derived.Test.YtcpaajecppplhaaGreatDoorXT28
section
/- What the document's answers for arrays, parts and texts are, plainly: the text of an array, and the array of a text: what would be told. -/
namespace Go.Proofs.YtcpaajecppplhaaGreatDoor.Tx
open Go.Lib Go.RowKit Go.Proofs.YtcpaajecppplhaaGreatDoorW.PrintWords Go.Proofs.YtcpaajecppplhaaGreatDoorW.PrintLast Go.Proofs.YtcpaajecppplhaaGreatDoor Go.Proofs.YtcpaajecppplhaaGreatDoor.Nm Go.Proofs.YtcpaajecppplhaaGreatDoor.Sh
set_option linter.unusedVariables false
set_option linter.unusedSimpArgs false
theorem rmay_loop (s : List Int) : ∀ (suf pre : List L8), (∀ x ∈ pre ++ suf, x.length ≤ 1000000000) → (pre ++ suf).length ≤ 9000000000000000000 → Ev (fun k => TV.reredosref04_May.l0 k ((pre.length : Nat) : Int) s (mB (pre ++ suf))) (suf.all mayL)
  | [], pre, ha, hl => by
    refine Ev.step (f := fun k => some true) (fun k => ?_) (Ev.now _)
    simp only [TV.reredosref04_May.l0]
    rw [if_neg (by rw [mB_len]; simp)]
  | x :: suf, pre, ha, hl => by
    have hlen : pre.length < (pre ++ x :: suf).length := by simp
    have ih := rmay_loop s suf (pre ++ [x]) (by rw [← moveP]; exact ha) (by rw [← moveP]; exact hl)
    rw [← moveP] at ih
    refine Ev.step (f := ?f1) (fun k => ?h1) ?g1
    case h1 =>
      rw [TV.reredosref04_May.l0, if_pos (by rw [mB_len]; omega), if_pos (by omega), rdB]
    case g1 =>
      refine Ev.bind (refMay_ev x (ha x (by simp))) ?_
      cases h : mayL x with
      | true =>
        rw [List.all_cons, h, Bool.true_and]
        refine Ev.congr (fun k => if_pos rfl) ?_
        rw [wi _ (by omega), nextP pre x]
        exact ih
      | false =>
        rw [List.all_cons, h, Bool.false_and]
        exact Ev.congr (fun k => if_neg Bool.false_ne_true) (Ev.now _)
theorem rmay_e (s : List Int) (e : List L8) (ha : ∀ x ∈ e, x.length ≤ 1000000000) (hl : e.length ≤ 9000000000000000000) : Ev (fun k => TV.reredosref04_May.f k s (mB e)) (goodB s e) := by
  have jt : Ev (fun k => TV.reredosref04_May.j0 k true s (mB e)) false := by
    refine Ev.step (f := fun k => some false) (fun k => ?_) (Ev.now _)
    simp only [TV.reredosref04_May.j0, if_true]
  unfold TV.reredosref04_May.f goodB
  refine Ev.bind (rsize_ev s) ?_
  by_cases h2 : (sizeS s).2 = 0
  · rw [decide_eq_true h2, Bool.true_and]
    refine Ev.congr (fun k => if_pos h2) ?_
    by_cases h1 : (e.length : Int) = (sizeS s).1
    · rw [decide_eq_true h1, Bool.true_and]
      have hb : ((sizeS s).1 != ((mB e).length : Int)) = false := by rw [mB_len, h1]; exact bne_self_eq_false _
      rw [hb]
      refine Ev.step (fun k => ?_) (rmay_loop s e [] ha hl)
      simp only [TV.reredosref04_May.j0]
      rw [if_neg Bool.false_ne_true]
      rfl
    · rw [decide_eq_false h1, Bool.false_and]
      have hb : ((sizeS s).1 != ((mB e).length : Int)) = true := by rw [mB_len]; exact bne_iff_ne.mpr (fun h => h1 h.symm)
      rw [hb]
      exact jt
  · rw [decide_eq_false h2, Bool.false_and]
    exact Ev.congr (fun k => if_neg h2) jt
theorem rliteral_ev {l : L8} (h : mayL l = true) : Ev (fun k => TV.reredosref07_Literal.f k (BA l)) (BA (lit l), true) := by
  have hl := may_len h
  unfold TV.reredosref07_Literal.f
  refine Ev.bind (refMay_ev l (by omega)) ?_
  rw [h]
  refine Ev.congr (fun k => if_pos rfl) ?_
  cases l with
  | nil => exact absurd h (by decide)
  | cons c r =>
    simp only [List.length_cons] at hl
    rw [bt_head, ba_extract1, ba_size, ba_size]
    refine Ev.congr (fun k => if_pos (by simp only [List.length_cons]; omega)) ?_
    by_cases hc : c.toNat = 45
    · refine Ev.congr (fun k => if_pos (by omega)) (Ev.congr (fun k => if_pos (by simp only [List.length_cons]; omega)) (Ev.congr (fun k => if_pos (by omega)) ?_))
      rw [show (⟨#[95]⟩ : ByteArray) = BA [95] from rfl, ba_append, show lit (c :: r) = 95 :: r from if_pos hc]
      exact Ev.now _
    · rw [show lit (c :: r) = c :: r from if_neg hc]
      exact Ev.congr (fun k => if_neg (by omega)) (Ev.now _)
theorem prs_head (c : UInt8) (r : L8) (hc : c.toNat = 45) : prs (c :: r) = none := by
  unfold prs
  have e : low (c :: r) = c :: r := if_neg (by omega)
  rw [e, if_neg]
  rintro ⟨h, _⟩
  have := (all_dig (c :: r)).mp h c (by simp)
  omega
theorem may_low (p : L8) (hc : ∀ c r, p = c :: r → c.toNat ≠ 45) (h : mayL (unl p) = true) : (low p).all digB = true := by
  cases p with
  | nil => rfl
  | cons c r =>
    by_cases h95 : c.toNat = 95
    · have e3 : unl (c :: r) = 45 :: r := if_pos h95
      have e2 : low (c :: r) = r := if_pos h95
      rw [e3] at h
      rw [e2]
      rcases may_cases h with ⟨r', he, hd, _⟩ | ⟨_, c', r', he, h1, _⟩
      · cases he
        exact (all_dig r).mpr hd
      · cases he
        exact absurd rfl h1
    · have e3 : unl (c :: r) = c :: r := if_neg h95
      have e2 : low (c :: r) = c :: r := if_neg h95
      rw [e3] at h
      rw [e2]
      rcases may_cases h with ⟨r', he, _, _⟩ | ⟨hd, _⟩
      · cases he
        exact absurd rfl (hc 45 r rfl)
      · exact (all_dig _).mpr hd
theorem oN_may (p n : L8) (hn : unl p = n) (hc : ∀ c r, p = c :: r → c.toNat ≠ 45) : oN (prs p) = if mayL n = true then (BA n, true) else (BA [], false) := by
  rw [oN_prs]
  subst hn
  by_cases h : mayL (unl p) = true
  · rw [if_pos ⟨may_low p hc h, h⟩, if_pos h]
  · rw [if_neg (fun x => h x.2), if_neg h]
theorem rmay_if (n : L8) (hl : n.length ≤ 1000000000) : Ev (fun k => (K.reredosref01_May.f k (BA n)).bind fun t => if t = true then some (BA n, true) else some ((⟨#[]⟩ : ByteArray), false)) (if mayL n = true then (BA n, true) else (BA [], false)) := by
  refine Ev.bind (refMay_ev n hl) ?_
  cases mayL n with
  | true => exact Ev.congr (fun k => if_pos rfl) (Ev.now _)
  | false => exact Ev.congr (fun k => if_neg Bool.false_ne_true) (Ev.now _)
theorem rnumber_ev (p : L8) (hl : p.length ≤ 100000000) : Ev (fun k => TV.reredosref07_Number.f k (BA p)) (oN (prs p)) := by
  unfold TV.reredosref07_Number.f
  rw [ba_list, ba_size]
  cases p with
  | nil =>
    refine Ev.congr (fun k => if_pos rfl) (Ev.step (f := ?f2) (fun k => ?h2) ?g2)
    case h2 => rw [TV.reredosref07_Number.j0, if_neg Bool.false_ne_true, ba_list, if_pos rfl]
    case g2 =>
      rw [oN_may [] [] rfl (fun c r h => by cases h)]
      exact rmay_if [] (by decide)
  | cons c r =>
    simp only [List.length_cons] at hl
    rw [bt_head]
    refine Ev.congr (fun k => if_neg (by simp)) (Ev.congr (fun k => if_pos (by simp only [List.length_cons]; omega)) ?_)
    by_cases h95 : c.toNat = 95
    · have hb : (((c.toNat : Nat) : Int) == 95) = true := beq_iff_eq.mpr (by omega)
      rw [hb]
      refine Ev.step (f := ?f3) (fun k => ?h3) ?g3
      case h3 => rw [TV.reredosref07_Number.j0, if_pos rfl, ba_list, ba_extract1, ba_size, ba_size, bt_head, if_pos (by simp only [List.length_cons]; omega), if_pos (by omega), if_neg (by simp), if_pos (by simp only [List.length_cons]; omega), if_neg (by omega), show (⟨#[45]⟩ : ByteArray) = BA [45] from rfl, ba_append]
      case g3 =>
        rw [oN_may (c :: r) (45 :: r) (if_pos h95) (fun c' r' h => by cases h; omega)]
        exact rmay_if (45 :: r) (by simp only [List.length_cons]; omega)
    · have hb : (((c.toNat : Nat) : Int) == 95) = false := beq_eq_false_iff_ne.mpr (by omega)
      rw [hb]
      by_cases h45 : c.toNat = 45
      · rw [prs_head c r h45]
        refine Ev.step (f := fun k => some (BA [], false)) (fun k => ?_) (Ev.now _)
        rw [TV.reredosref07_Number.j0, if_neg Bool.false_ne_true, ba_list, ba_size, bt_head, if_neg (by simp), if_pos (by simp only [List.length_cons]; omega), if_pos (by omega)]
      · refine Ev.step (f := ?f4) (fun k => ?h4) ?g4
        case h4 => rw [TV.reredosref07_Number.j0, if_neg Bool.false_ne_true, ba_list, ba_size, bt_head, if_neg (by simp), if_pos (by simp only [List.length_cons]; omega), if_neg (by omega)]
        case g4 =>
          rw [oN_may (c :: r) (c :: r) (if_neg h95) (fun c' r' h => by cases h; exact h45)]
          exact rmay_if (c :: r) (by simp only [List.length_cons]; omega)
/-! ### rows -/
theorem jn_snoc (c : UInt8) (y : L8) : ∀ xs : List L8, xs ≠ [] → jn c (xs ++ [y]) = jn c xs ++ c :: y
  | [], h => absurd rfl h
  | [x], _ => rfl
  | x :: z :: r, _ => by
    have := jn_snoc c y (z :: r) (by simp)
    rw [List.cons_append, jn_cons c x (by simp), this, jn_cons c x (by simp), List.append_assoc, List.cons_append]
theorem rrow_loop : ∀ (suf pre : List L8), AllM (pre ++ suf) → (pre ++ suf).length ≤ 4096 →
    Ev (fun k => TV.reredosref11_row.l0 k (mB (pre ++ suf)) (BA (rowT pre)) ((pre.length : Nat) : Int)) (BA (rowT (pre ++ suf)))
  | [], pre, ha, hl => by
    refine Ev.step (f := fun k => some (BA (rowT (pre ++ [])))) (fun k => ?_) (Ev.now _)
    simp only [TV.reredosref11_row.l0]
    rw [if_neg (by rw [mB_len]; simp), List.append_nil]
  | x :: suf, pre, ha, hl => by
    have ih := rrow_loop suf (pre ++ [x]) (by rw [← moveP]; exact ha) (by rw [← moveP]; exact hl)
    rw [← moveP] at ih
    have hlen : pre.length < (pre ++ x :: suf).length := by simp
    have hx := ha x (by simp)
    have hr := row_len (e := pre) (fun y hy => ha y (by simp [hy]))
    have hx2 := may_len hx
    refine Ev.step (f := ?f5) (fun k => ?h5) ?g5
    case h5 =>
      rw [TV.reredosref11_row.l0, if_pos (by rw [mB_len]; omega), if_pos (by omega), rdB]
    case g5 =>
      refine Ev.bind (rliteral_ev hx) ?_
      dsimp only
      cases pre with
      | nil =>
        refine Ev.congr (fun k => if_neg (by simp)) (Ev.congr (fun k => if_pos (by rw [ba_size, ba_size, lit_len]; simp only [rowT, List.map_nil, jn, List.length_nil]; omega)) ?_)
        rw [wi _ (by simp), nextP [] x, ba_append]
        exact ih
      | cons y ys =>
        refine Ev.congr (fun k => if_pos (by simp only [List.length_cons]; omega)) ?_
        rw [show (⟨#[32]⟩ : ByteArray) = BA [32] from rfl, ba_append, ba_append, ba_size, ba_size, ba_size, lit_len]
        refine Ev.congr (fun k => if_pos (by omega)) (Ev.congr (fun k => if_pos (by rw [List.length_append]; simp only [List.length_cons, List.length_nil]; omega)) ?_)
        rw [wi _ (by omega), nextP (y :: ys) x]
        have e : rowT (y :: ys) ++ [32] ++ lit x = rowT (y :: ys ++ [x]) := by
          unfold rowT
          rw [List.map_append, List.map_cons (l := []), List.map_nil, jn_snoc 32 (lit x) ((y :: ys).map lit) (by simp), List.append_assoc]
          rfl
        rw [e]
        exact ih
theorem rrow_ev {e : List L8} (h : AllM e) (hl : e.length ≤ 4096) : Ev (fun k => TV.reredosref11_row.f k (mB e)) (BA (rowT e)) := rrow_loop e [] h hl
theorem rvector_ev {e : List L8} (h : AllM e) (hl : e.length ≤ 4096) : Ev (fun k => TV.reredosref11_vector.f k (mB e)) (BA (vecT e)) := by
  unfold TV.reredosref11_vector.f
  match e, h, hl with
  | [], _, _ => exact Ev.congr (fun k => if_pos rfl) (Ev.now _)
  | [x], h, hl =>
    refine Ev.congr (fun k => if_neg (by rw [mB_len]; simp)) (Ev.congr (fun k => if_pos (by rw [mB_len]; simp)) (Ev.bind (rrow_ev h hl) ?_))
    have h1 := row_len h
    refine Ev.congr (fun k => if_pos (by rw [ba_size]; simp only [List.length_cons, List.length_nil] at h1; omega)) ?_
    rw [show (⟨#[44]⟩ : ByteArray) = BA [44] from rfl, ba_append]
    exact Ev.now _
  | x :: y :: r, h, hl =>
    refine Ev.congr (fun k => if_neg (by rw [mB_len]; simp; omega)) (Ev.congr (fun k => if_neg (by rw [mB_len]; simp; omega)) (Ev.bind (rrow_ev h hl) (Ev.now _)))
theorem rtext_loop (e : List L8) (he : AllM e) (hle : e.length ≤ 4096) : ∀ (suf pre : List Int), (∀ x ∈ pre ++ suf, i64P x) → (pre ++ suf).length ≤ 4096 →
    Ev (fun k => TV.reredosref11_Text.l0 k (mB (pre.map itoa)) ((pre.length : Nat) : Int) (pre ++ suf) (mB e)) (BA (rowT ((pre ++ suf).map itoa) ++ 35 :: vecT e), 0)
  | [], pre, ha, hl => by
    have hma := axes_may ha
    have hr := row_len hma
    have hv := vec_len he
    rw [List.append_nil] at hr hma hl ⊢
    rw [List.length_map] at hr
    refine Ev.step (f := ?f6) (fun k => ?h6) ?g6
    case h6 =>
      rw [TV.reredosref11_Text.l0, if_neg (by omega)]
    case g6 =>
      refine Ev.bind (rrow_ev hma (by rw [List.length_map]; omega)) (Ev.congr (fun k => if_pos (by rw [ba_size]; omega)) (Ev.bind (rvector_ev he hle) ?_))
      rw [show (⟨#[35]⟩ : ByteArray) = BA [35] from rfl, ba_append, ba_append, ba_size, ba_size]
      refine Ev.congr (fun k => if_pos (by rw [List.length_append]; simp only [List.length_cons, List.length_nil]; omega)) ?_
      rw [List.append_assoc]
      exact Ev.now _
  | x :: suf, pre, ha, hl => by
    have ih := rtext_loop e he hle suf (pre ++ [x]) (by rw [← moveP]; exact ha) (by rw [← moveP]; exact hl)
    rw [← moveP] at ih
    have hlen : pre.length < (pre ++ x :: suf).length := by simp
    have hx := ha x (by simp)
    refine Ev.step (f := ?f7) (fun k => ?h7) ?g7
    case h7 =>
      rw [TV.reredosref11_Text.l0, if_pos (by omega), if_pos (by omega), rdI]
    case g7 =>
      refine Ev.bind (refOf_ev x hx.1 hx.2) (Ev.congr (fun k => if_pos (by rw [mB_len, List.length_map]; omega)) ?_)
      rw [wi _ (by omega), nextP pre x]
      rw [List.map_append (l₁ := pre) (l₂ := [x]), mB_app (pre.map itoa)] at ih
      exact ih
theorem rtext_good {s : List Int} {e : List L8} (h : Good s e) : Ev (fun k => TV.reredosref11_Text.f k s (mB e)) (BA (textT s e), 0) := by
  obtain ⟨hb, hn0, hn1⟩ := size_bd h.1
  obtain ⟨hs3, _, _⟩ := size_ok h.1
  have hl : e.length ≤ 4096 := by omega
  unfold TV.reredosref11_Text.f
  refine Ev.bind (rmay_e s e (fun x hx => by have := may_len (h.2 x hx); omega) (by omega)) ?_
  rw [(good_iff s e).2 h]
  refine Ev.congr (fun k => if_pos rfl) ?_
  match s, h, hb, hs3 with
  | [], h, _, _ => exact Ev.congr (fun k => if_pos rfl) (Ev.bind (rrow_ev h.2 hl) (Ev.now _))
  | [n], h, _, _ => exact Ev.congr (fun k => if_neg (by simp)) (Ev.congr (fun k => if_pos (by simp)) (Ev.bind (rvector_ev h.2 hl) (Ev.now _)))
  | a :: b :: s, h, hb, hs3 =>
    exact Ev.congr (fun k => if_neg (by simp; omega)) (Ev.congr (fun k => if_neg (by simp; omega)) (rtext_loop e h.2 hl (a :: b :: s) [] hb (by simp only [List.length_cons, List.nil_append] at hs3 ⊢; omega)))
theorem rtext_bad {s : List Int} {e : List L8} (ha : ∀ x ∈ e, x.length ≤ 1000000000) (hl : e.length ≤ 9000000000000000000) (h : ¬ Good s e) : Ev (fun k => TV.reredosref11_Text.f k s (mB e)) (BA [], 1) := by
  unfold TV.reredosref11_Text.f
  refine Ev.bind (rmay_e s e ha hl) ?_
  cases hg : goodB s e with
  | true => exact absurd ((good_iff s e).1 hg) h
  | false => exact Ev.congr (fun k => if_neg Bool.false_ne_true) (Ev.now _)
/-! ### words -/
def nm (p : L8) : L8 := (prs p).getD []
def tk (w : L8) : L8 → List L8
  | [] => if w = [] then [] else [w]
  | c :: t => if c = 32 ∨ c = 44 then (if w = [] then tk [] t else w :: tk [] t) else tk (w ++ [c]) t
def wordsR (t : L8) : List L8 := (tk [] t).map nm
theorem oN_nm (p : L8) : (oN (prs p)).1 = BA (nm p) := by
  unfold oN nm
  cases prs p <;> rfl
theorem words_l1 : ∀ (suf pre : List L8), (∀ x ∈ pre ++ suf, x.length ≤ 100000000) → (pre ++ suf).length ≤ 1000000000 →
    Ev (fun k => TV.reredosref11_words.l1 k (mB (pre ++ suf)) (mB (pre.map nm)) ((pre.length : Nat) : Int)) (mB ((pre ++ suf).map nm))
  | [], pre, ha, hl => by
    refine Ev.step (f := fun k => some (mB ((pre ++ []).map nm))) (fun k => ?_) (Ev.now _)
    simp only [TV.reredosref11_words.l1]
    rw [if_neg (by rw [mB_len]; simp), List.append_nil]
  | x :: suf, pre, ha, hl => by
    have ih := words_l1 suf (pre ++ [x]) (by rw [← moveP]; exact ha) (by rw [← moveP]; exact hl)
    rw [← moveP] at ih
    have hlen : pre.length < (pre ++ x :: suf).length := by simp
    refine Ev.step (f := ?f8) (fun k => ?h8) ?g8
    case h8 =>
      rw [TV.reredosref11_words.l1, if_pos (by rw [mB_len]; omega), if_pos (by omega), rdB]
    case g8 =>
      refine Ev.bind (rnumber_ev x (ha x (by simp))) ?_
      rw [oN_nm]
      refine Ev.congr (fun k => if_pos (by rw [mB_len, List.length_map]; omega)) ?_
      rw [wi _ (by omega), nextP pre x]
      rw [List.map_append (l₁ := pre) (l₂ := [x]), mB_app (pre.map nm)] at ih
      exact ih
theorem words_j2 (ts : List L8) (h1 : ∀ x ∈ ts, x.length ≤ 100000000) (h2 : ts.length ≤ 1000000000) : Ev (fun k => TV.reredosref11_words.j2 k (mB ts)) (mB (ts.map nm)) :=
  Ev.step (fun k => rfl) (words_l1 ts [] h1 h2)
theorem words_l0 : ∀ (suf pre : L8) (acc : List L8) (w : L8), (∀ x ∈ acc, x.length ≤ pre.length) → acc.length ≤ pre.length → w.length ≤ pre.length → (pre ++ suf).length ≤ 100000 →
    Ev (fun k => TV.reredosref11_words.l0 k (BA (pre ++ suf)) (mB acc) (BA w) ((pre.length : Nat) : Int)) (mB ((acc ++ tk w suf).map nm))
  | [], pre, acc, w, h1, h2, h3, hl => by
    rw [List.append_nil] at hl
    refine Ev.step (f := ?f9) (fun k => ?h9) ?g9
    case h9 =>
      rw [TV.reredosref11_words.l0, if_neg (by rw [ba_size]; simp), ba_list]
    case g9 =>
      by_cases hw : w = []
      · rw [show tk w [] = [] from if_pos hw, List.append_nil]
        exact Ev.congr (fun k => if_pos hw) (words_j2 acc (fun x hx => by have := h1 x hx; omega) (by omega))
      · rw [show tk w [] = [w] from if_neg hw]
        refine Ev.congr (fun k => if_neg hw) (Ev.congr (fun k => if_pos (by rw [mB_len]; omega)) ?_)
        have := words_j2 (acc ++ [w]) (fun x hx => by
          rcases List.mem_append.mp hx with hx | hx
          · have := h1 x hx; omega
          · rw [List.mem_singleton] at hx; rw [hx]; omega) (by rw [List.length_append]; simp; omega)
        rw [mB_app] at this
        exact this
  | c :: suf, pre, acc, w, h1, h2, h3, hl => by
    have hlen : pre.length < (pre ++ c :: suf).length := by simp
    have hl2 : pre.length + suf.length + 1 ≤ 100000 := by rw [List.length_append, List.length_cons] at hl; omega
    have hbt : bt (BA (pre ++ c :: suf)) ((pre.length : Nat) : Int) = ((c.toNat : Nat) : Int) := by
      rw [bt_ba _ _ hlen]
      simp [List.getD_eq_getElem?_getD]
    have sep : (c = 32 ∨ c = 44) → Ev (fun k => TV.reredosref11_words.j1 k (BA (pre ++ c :: suf)) (mB acc) (BA w) ((pre.length : Nat) : Int) true) (mB ((acc ++ tk w (c :: suf)).map nm)) := by
      intro hc
      have e : tk w (c :: suf) = if w = [] then tk [] suf else w :: tk [] suf := by
        conv => lhs; unfold tk
        rw [if_pos hc]
      rw [e]
      refine Ev.step (f := ?f10) (fun k => ?h10) ?g10
      case h10 =>
        rw [TV.reredosref11_words.j1, if_pos rfl, ba_list, wi _ (by omega), nextP pre c]
      case g10 =>
        by_cases hw : w = []
        · rw [if_pos hw]
          have ih := words_l0 suf (pre ++ [c]) acc [] (fun x hx => by have := h1 x hx; simp; omega) (by simp; omega) (by simp) (by rw [← moveP]; exact hl)
          rw [← moveP] at ih
          exact Ev.congr (fun k => if_pos hw) ih
        · rw [if_neg hw]
          have ih := words_l0 suf (pre ++ [c]) (acc ++ [w]) [] (fun x hx => by
            rcases List.mem_append.mp hx with hx | hx
            · have := h1 x hx; simp; omega
            · rw [List.mem_singleton] at hx; rw [hx]; simp; omega) (by simp; omega) (by simp) (by rw [← moveP]; exact hl)
          rw [← moveP, mB_app, List.append_assoc, List.singleton_append] at ih
          exact Ev.congr (fun k => if_neg hw) (Ev.congr (fun k => if_pos (by rw [mB_len]; omega)) ih)
    refine Ev.step (f := ?f11) (fun k => ?h11) ?g11
    case h11 =>
      rw [TV.reredosref11_words.l0, if_pos (by rw [ba_size]; omega), if_pos (by omega), hbt]
    case g11 =>
      by_cases h32 : c = 32
      · exact Ev.congr (fun k => if_pos (by rw [h32]; rfl)) (sep (.inl h32))
      · refine Ev.congr (fun k => if_neg (fun h => h32 (UInt8.toNat_inj.mp (show c.toNat = 32 by omega)))) ?_
        by_cases h44 : c = 44
        · rw [show (((c.toNat : Nat) : Int) == 44) = true from beq_iff_eq.mpr (by rw [h44]; rfl)]
          exact sep (.inr h44)
        · rw [show (((c.toNat : Nat) : Int) == 44) = false from beq_eq_false_iff_ne.mpr (fun h => h44 (UInt8.toNat_inj.mp (show c.toNat = 44 by omega)))]
          have e : tk w (c :: suf) = tk (w ++ [c]) suf := by
            conv => lhs; unfold tk
            rw [if_neg (fun h => h.elim h32 h44)]
          rw [e]
          have ih := words_l0 suf (pre ++ [c]) acc (w ++ [c]) (fun x hx => by have := h1 x hx; simp; omega) (by simp; omega) (by simp; omega) (by rw [← moveP]; exact hl)
          rw [← moveP] at ih
          refine Ev.step (fun k => ?_) ih
          rw [TV.reredosref11_words.j1]
          have hex : (BA (pre ++ c :: suf)).extract (((pre.length : Nat) : Int)).toNat (((pre.length + 1 : Nat) : Int)).toNat = BA [c] := by
            rw [Int.toNat_natCast, Int.toNat_natCast, ba_one _ _ hlen]
            simp [List.getD_eq_getElem?_getD]
          rw [if_neg Bool.false_ne_true, if_pos (by omega), wi _ (by omega), hex, if_pos (by omega), if_pos (by rw [ba_size]; omega), if_pos (by rw [ba_size, ba_size]; simp; omega), ba_append, nextP pre c]
theorem words_ev (t : L8) (hl : t.length ≤ 100000) : Ev (fun k => TV.reredosref11_words.f k (BA t)) (mB (wordsR t)) := words_l0 t [] [] [] (fun x hx => (by cases hx)) (by decide) (by decide) hl
theorem tk_nil_ne {t : L8} (h : (wordsR t).length = 1) : ∃ c r, t = c :: r := by
  cases t with
  | nil => exact absurd h (by decide)
  | cons c r => exact ⟨c, r, rfl⟩
theorem refInt_all (l : L8) (hl : l.length ≤ 1000000000) : ∃ z b, Ev (fun k => K.reredosref01_Int.f k (BA l)) (z, b) ∧ (∀ y, intR l = some y → z = y) := by
  cases h : mayL l with
  | false =>
    refine ⟨0, false, refInt_no l hl h, fun y hy => ?_⟩
    unfold intR at hy
    rw [if_neg (by rw [h]; decide)] at hy
    cases hy
  | true =>
    obtain ⟨z, rfl, hz⟩ := num_of_may l h
    refine ⟨(intOfZ z).1, (intOfZ z).2, refInt_ev z hz, fun y hy => ?_⟩
    obtain ⟨e, hi⟩ := int_some hy
    have := itoa_inj e
    subst this
    unfold intOfZ
    rw [if_pos hi]
/-- the numbers that are told of axes -/
def axs (l : List L8) (z : List Int) : Prop := z.length = l.length ∧ ∀ s : List Int, l = s.map itoa → (∀ x ∈ s, i64P x) → z = s
theorem guess_l1 (t x r : L8) (ht : t = x ++ 35 :: r) (hl : t.length ≤ 100000) : ∀ (suf pre : List L8) (za : List Int), (∀ y ∈ pre ++ suf, y.length ≤ 1000000000) → (pre ++ suf).length ≤ 1000000 → axs pre za → ∃ z, axs (pre ++ suf) z ∧
    Ev (fun k => TV.reredosref11_guess.l1 k (BA t) ((x.length : Nat) : Int) (mB (pre ++ suf)) ((pre.length : Nat) : Int) za) (z, mB (if r = [33, 48] then [] else wordsR r))
  | [], pre, za, ha, hn, hz => by
    refine ⟨za, by rw [List.append_nil]; exact hz, ?_⟩
    have hlx : x.length + r.length + 1 ≤ 100000 := by rw [ht, List.length_append, List.length_cons] at hl; omega
    have hex : (BA t).extract ((((x.length + 1 : Nat) : Int)).toNat) (BA t).size = BA r := by
      rw [Int.toNat_natCast, ba_drop _ _ (by rw [ht]; simp), ht]
      congr 1
      rw [show x ++ 35 :: r = (x ++ [35]) ++ r by simp, show x.length + 1 = (x ++ [35]).length by simp]
      exact List.drop_left
    refine Ev.step (f := ?f12) (fun k => ?h12) ?g12
    case h12 =>
      rw [TV.reredosref11_guess.l1, if_neg (by rw [mB_len]; simp), wi _ (by omega), hex, if_pos (by omega), if_pos (by rw [ba_size, ht]; simp; omega), ba_list]
    case g12 =>
      by_cases h0 : r = [33, 48]
      · rw [if_pos h0]
        exact Ev.congr (fun k => if_pos h0) (Ev.now _)
      · rw [if_neg h0]
        exact Ev.congr (fun k => if_neg h0) (Ev.bind (words_ev r (by omega)) (Ev.now _))
  | y :: suf, pre, za, ha, hn, hz => by
    have hlen : pre.length < (pre ++ y :: suf).length := by simp
    obtain ⟨z1, b1, hz1, hz2⟩ := refInt_all y (ha y (by simp))
    obtain ⟨z, h1, h2⟩ := guess_l1 t x r ht hl suf (pre ++ [y]) (za ++ [z1]) (by rw [← moveP]; exact ha) (by rw [← moveP]; exact hn) ⟨by simp [hz.1], fun s hs hi => by
      have hs0 : s ≠ [] := fun e => by rw [e] at hs; simp at hs
      obtain ⟨s', a, rfl⟩ : ∃ s' a, s = s' ++ [a] := ⟨s.dropLast, s.getLast hs0, (List.dropLast_concat_getLast hs0).symm⟩
      rw [List.map_append] at hs
      obtain ⟨e1, e2⟩ := List.append_inj' hs rfl
      have e3 : y = itoa a := by simpa using e2
      rw [hz.2 s' e1 (fun q hq => hi q (by simp [hq])), hz2 a (by rw [e3]; exact int_itoa (hi a (by simp)))]⟩
    rw [← moveP] at h1 h2
    refine ⟨z, h1, ?_⟩
    refine Ev.step (f := ?f13) (fun k => ?h13) ?g13
    case h13 =>
      rw [TV.reredosref11_guess.l1, if_pos (by rw [mB_len]; omega), if_pos (by omega), rdB]
    case g13 =>
      have hzl := hz.1
      refine Ev.bind hz1 (Ev.congr (fun k => if_pos (by omega)) ?_)
      rw [wi _ (by omega), nextP pre y]
      exact h2
def guess0 (t : L8) : List Int × List L8 := if t = [33, 48] then ([0], []) else if (wordsR t).length = 1 then (if (t.headD 0).toNat = 44 then ([1], wordsR t) else ([], wordsR t)) else ([((wordsR t).length : Int)], wordsR t)
theorem guess_none (t : L8) (hl : t.length ≤ 100000) : Ev (fun k => TV.reredosref11_guess.j1 k (BA t) ((t.length : Nat) : Int)) ((guess0 t).1, mB (guess0 t).2) := by
  refine Ev.step (f := ?f14) (fun k => ?h14) ?g14
  case h14 =>
    rw [TV.reredosref11_guess.j1, ba_list, ba_size]
  case g14 =>
    unfold guess0
    by_cases h0 : t = [33, 48]
    · rw [if_pos h0]
      exact Ev.congr (fun k => if_pos h0) (Ev.now _)
    · rw [if_neg h0]
      refine Ev.congr (fun k => if_neg h0) (Ev.congr (fun k => if_pos rfl) (Ev.bind (words_ev t hl) ?_))
      rw [mB_len]
      by_cases h1 : (wordsR t).length = 1
      · rw [if_pos h1]
        refine Ev.congr (fun k => if_pos (by omega)) ?_
        obtain ⟨c, r, rfl⟩ := tk_nil_ne h1
        refine Ev.congr (fun k => if_pos (by simp only [List.length_cons]; omega)) ?_
        rw [bt_head, List.headD_cons]
        by_cases h44 : c.toNat = 44
        · rw [if_pos h44]
          refine Ev.congr (fun k => if_pos (by omega)) ?_
          rw [h1]
          exact Ev.now _
        · rw [if_neg h44]
          exact Ev.congr (fun k => if_neg (by omega)) (Ev.now _)
      · rw [if_neg h1]
        exact Ev.congr (fun k => if_neg (by omega)) (Ev.now _)
theorem guess_l0 (t : L8) (hl : t.length ≤ 100000) {g : List Int × List ByteArray} : ∀ (suf pre : L8), t = pre ++ suf → (35 : UInt8) ∉ pre →
    (∀ x r, t = x ++ 35 :: r → (35 : UInt8) ∉ x → Ev (fun k => TV.reredosref11_guess.j1 k (BA t) ((x.length : Nat) : Int)) g) → ((35 : UInt8) ∉ t → Ev (fun k => TV.reredosref11_guess.j1 k (BA t) ((t.length : Nat) : Int)) g) →
    Ev (fun k => TV.reredosref11_guess.l0 k (BA t) ((pre.length : Nat) : Int)) g
  | [], pre, ht, hp, h1, h2 => by
    rw [List.append_nil] at ht
    subst ht
    refine Ev.step (fun k => ?_) (h2 hp)
    simp only [TV.reredosref11_guess.l0]
    rw [if_neg (by rw [ba_size]; omega)]
  | c :: suf, pre, ht, hp, h1, h2 => by
    have hlen : pre.length < t.length := by rw [ht]; simp
    have hbt : bt (BA t) ((pre.length : Nat) : Int) = ((c.toNat : Nat) : Int) := by
      rw [bt_ba _ _ hlen, ht]
      simp [List.getD_eq_getElem?_getD]
    by_cases hc : c = 35
    · refine Ev.step (fun k => ?_) (h1 pre suf (by rw [ht, hc]) hp)
      simp only [TV.reredosref11_guess.l0]
      rw [if_pos (by rw [ba_size]; omega), if_pos (by omega), hbt, if_pos (by rw [hc]; rfl)]
    · have ih := guess_l0 t hl suf (pre ++ [c]) (by rw [← moveP]; exact ht) (by
        intro h
        rcases List.mem_append.mp h with h | h
        · exact hp h
        · rw [List.mem_singleton] at h; exact hc h.symm) h1 h2
      refine Ev.step (fun k => ?_) ih
      simp only [TV.reredosref11_guess.l0]
      rw [if_pos (by rw [ba_size]; omega), if_pos (by omega), hbt, if_neg (fun h => hc (UInt8.toNat_inj.mp (show c.toNat = 35 by omega))), wi _ (by omega), nextP pre c]
theorem tk_len : ∀ (t w : L8), (tk w t).length ≤ t.length + 1 ∧ ∀ x ∈ tk w t, x.length ≤ w.length + t.length
  | [], w => by
    unfold tk
    split
    · exact ⟨by simp, fun x hx => (by cases hx)⟩
    · exact ⟨by simp, fun x hx => by rw [List.mem_singleton] at hx; rw [hx]; simp⟩
  | c :: t, w => by
    unfold tk
    have h0 := tk_len t []
    split
    · split
      · exact ⟨by simp only [List.length_cons]; omega, fun x hx => by have := h0.2 x hx; simp only [List.length_cons, List.length_nil] at this ⊢; omega⟩
      · refine ⟨by simp only [List.length_cons]; omega, fun x hx => ?_⟩
        rcases List.mem_cons.mp hx with rfl | hx
        · omega
        · have := h0.2 x hx; simp only [List.length_cons, List.length_nil] at this ⊢; omega
    · have h1 := tk_len t (w ++ [c])
      refine ⟨by simp only [List.length_cons]; omega, fun x hx => ?_⟩
      have := h1.2 x hx
      simp only [List.length_cons, List.length_append, List.length_nil] at this ⊢
      omega
theorem nm_len (p : L8) : (nm p).length ≤ 101 := by
  unfold nm
  cases h : prs p with
  | none => exact Nat.zero_le _
  | some n => exact may_len (prs_some h).2
theorem words_sz (t : L8) : (wordsR t).length ≤ t.length + 1 ∧ ∀ x ∈ wordsR t, x.length ≤ 101 := by
  refine ⟨by unfold wordsR; rw [List.length_map]; exact (tk_len t []).1, fun x hx => ?_⟩
  obtain ⟨p, _, rfl⟩ := List.mem_map.mp hx
  exact nm_len p
/-- a guess, and what it must be -/
theorem guess_ev (t : L8) (hl : t.length ≤ 100000) : ∃ z e, Ev (fun k => TV.reredosref11_guess.f k (BA t)) (z, mB e) ∧ ((∀ x ∈ e, x.length ≤ 101) ∧ e.length ≤ 100001 ∧ z.length ≤ 100001) ∧
    ((35 : UInt8) ∉ t → (z, e) = guess0 t) ∧ (∀ x r, t = x ++ 35 :: r → (35 : UInt8) ∉ x → axs (wordsR x) z ∧ e = if r = [33, 48] then [] else wordsR r) := by
  have w0 := words_sz t
  rcases cut_spl t 35 with ⟨_, hf⟩ | ⟨x, r, ht, hx, _⟩
  · refine ⟨(guess0 t).1, (guess0 t).2, ?_, ?_, fun _ => rfl, fun x r h _ => absurd (by rw [h]; simp) hf⟩
    · exact guess_l0 t hl t [] rfl (by simp) (fun x r h _ => absurd (by rw [h]; simp) hf) (fun _ => guess_none t hl)
    · unfold guess0
      split
      · exact ⟨fun x hx => (by cases hx), by decide, by decide⟩
      · split
        · split <;> exact ⟨w0.2, by dsimp only; omega, by simp⟩
        · exact ⟨w0.2, by dsimp only; omega, by simp⟩
  · have hlx : x.length + r.length + 1 ≤ 100000 := by rw [ht, List.length_append, List.length_cons] at hl; omega
    have wx := words_sz x
    have wr := words_sz r
    obtain ⟨z, h1, h2⟩ := guess_l1 t x r ht hl (wordsR x) [] [] (fun y hy => by have := wx.2 y hy; omega) (by show (wordsR x).length ≤ _; omega) ⟨rfl, fun s hs _ => by
      cases s with
      | nil => rfl
      | cons a s => cases hs⟩
    have uniq : ∀ x' r', t = x' ++ 35 :: r' → (35 : UInt8) ∉ x' → x' = x ∧ r' = r := by
      intro x' r' h' hx'
      rw [ht] at h'
      have g1 := spl_app 35 x r hx
      have g2 := spl_app 35 x' r' hx'
      rw [h', g2] at g1
      injection g1 with g1 g3
      refine ⟨g1, ?_⟩
      have := congrArg (jn 35) g3
      rwa [jn_spl, jn_spl] at this
    refine ⟨z, if r = [33, 48] then [] else wordsR r, ?_, ?_, fun h => absurd (by rw [ht]; simp) h, fun x' r' h' hx' => ?_⟩
    · refine guess_l0 t hl t [] rfl (by simp) (fun x' r' h' hx' => ?_) (fun h => absurd (by rw [ht]; simp) h)
      obtain ⟨rfl, rfl⟩ := uniq x' r' h' hx'
      refine Ev.step (f := ?f15) (fun k => ?h15) ?g15
      case h15 =>
        rw [TV.reredosref11_guess.j1, ba_list, ba_size, if_neg (by
          intro h
          have h3 : (35 : UInt8) ∈ ([33, 48] : List UInt8) := by rw [← h, ht]; simp
          revert h3; decide), if_neg (by rw [ht]; simp; omega), if_pos (by omega), if_pos (by rw [ht]; simp; omega), Int.toNat_natCast, ba_take t x'.length (by rw [ht]; simp), show t.take x'.length = x' by rw [ht]; simp]
      case g15 => exact Ev.bind (words_ev x' (by omega)) h2
    · refine ⟨fun y hy => ?_, ?_, ?_⟩
      · by_cases h0 : r = [33, 48]
        · rw [if_pos h0] at hy; cases hy
        · rw [if_neg h0] at hy; exact wr.2 y hy
      · split
        · exact Nat.zero_le _
        · omega
      · have := h1.1
        rw [List.nil_append] at this
        omega
    · obtain ⟨rfl, rfl⟩ := uniq x' r' h' hx'
      exact ⟨h1, rfl⟩
/-! ### what is told is guessed -/
def Sep (c : UInt8) : Prop := c = 32 ∨ c = 44
theorem tk_word : ∀ (x w t : L8), (∀ c ∈ x, ¬ Sep c) → tk w (x ++ t) = tk (w ++ x) t
  | [], w, t, _ => by rw [List.append_nil]; rfl
  | c :: x, w, t, h => by
    rw [List.cons_append]
    conv => lhs; unfold tk
    rw [if_neg (show ¬ (c = 32 ∨ c = 44) from h c (by simp)), tk_word x (w ++ [c]) t (fun d hd => h d (by simp [hd])), List.append_assoc]
    rfl
theorem lit_sep {l : L8} (h : mayL l = true) : ∀ c ∈ lit l, ¬ Sep c := fun c hc hs => by
  have := lit_mem h c hc
  rcases hs with rfl | rfl <;> revert this <;> decide
theorem lit_nil {l : L8} (h : mayL l = true) : lit l ≠ [] := fun e => by
  obtain ⟨c, r, h1, _⟩ := lit_ne h
  rw [h1] at e
  cases e
theorem tk_row : ∀ e : List L8, AllM e → tk [] (rowT e) = e.map lit
  | [], _ => rfl
  | [x], h => by
    have hx := h x (by simp)
    have := tk_word (lit x) [] [] (lit_sep hx)
    rw [List.append_nil, List.nil_append] at this
    show tk [] (lit x) = [lit x]
    rw [this]
    exact if_neg (lit_nil hx)
  | x :: y :: r, h => by
    have hx := h x (by simp)
    have ih := tk_row (y :: r) (fun z hz => h z (by simp [hz]))
    have e : rowT (x :: y :: r) = lit x ++ 32 :: rowT (y :: r) := jn_cons 32 (lit x) (by simp)
    rw [e, tk_word (lit x) [] _ (lit_sep hx), List.nil_append]
    conv => lhs; unfold tk
    rw [if_pos (.inl rfl), if_neg (lit_nil hx), ih]
    rfl
theorem words_row {e : List L8} (h : AllM e) : wordsR (rowT e) = e := by
  unfold wordsR
  rw [tk_row e h, List.map_map]
  have : ∀ e : List L8, AllM e → e.map (nm ∘ lit) = e := by
    intro e
    induction e with
    | nil => intro _; rfl
    | cons x e ih =>
      intro h
      rw [List.map_cons, ih (fun y hy => h y (by simp [hy]))]
      show nm (lit x) :: e = x :: e
      unfold nm
      rw [prs_lit (h x (by simp))]
      rfl
  exact this e h
theorem words_vec {e : List L8} (h : AllM e) (h0 : vecT e ≠ [33, 48]) : wordsR (vecT e) = e := by
  match e, h, h0 with
  | [], _, h0 => exact absurd rfl h0
  | [x], h, _ =>
    have := words_row h
    show ((tk [] (44 :: lit x)).map nm) = [x]
    have e : tk [] (44 :: lit x) = tk [] (lit x) := by
      conv => lhs; unfold tk
      rw [if_pos (.inr rfl), if_pos rfl]
    rw [e]
    exact this
  | x :: y :: r, h, _ => exact words_row h
theorem row_ne {e : List L8} (h : AllM e) (hne : e ≠ []) : rowT e ≠ [33, 48] ∧ ((rowT e).headD 0).toNat ≠ 44 := by
  obtain ⟨c, r, e1, h1⟩ := row_head e h hne
  rw [e1]
  refine ⟨fun h => ?_, ?_⟩
  · injection h with h _
    subst h
    revert h1; decide
  · rw [List.headD_cons]; omega
theorem vec_zero {e : List L8} (h : AllM e) : vecT e = [33, 48] ↔ e = [] := by
  constructor
  · intro hv
    match e, h, hv with
    | [], _, _ => rfl
    | [x], h, hv =>
      have : (44 : UInt8) = 33 := (List.cons.inj hv).1
      exact absurd this (by decide)
    | x :: y :: r, h, hv => exact absurd hv (row_ne h (by simp)).1
  · rintro rfl
    rfl
theorem guess_text {s : List Int} {e : List L8} (h : Good s e) (hl : (textT s e).length ≤ 100000) : Ev (fun k => TV.reredosref11_guess.f k (BA (textT s e))) (s, mB e) := by
  obtain ⟨hb, hn0, hn1⟩ := size_bd h.1
  obtain ⟨z, e', hg, _, h1, h2⟩ := guess_ev (textT s e) hl
  have hm := h.2
  suffices hz : z = s ∧ e' = e by rw [hz.1, hz.2] at hg; exact hg
  match s, h, hb, hg, h1, h2 with
  | [], h, _, _, h1, _ =>
    have hlen : e.length = 1 := by
      have e1 := h.1
      rw [show sizeS [] = (1, 0) from rfl] at e1
      have := (Prod.mk.inj e1).1
      omega
    have hne : e ≠ [] := fun x => by rw [x] at hlen; cases hlen
    have hr := row_ne hm hne
    have := h1 (row_free e hm 35 (by decide) (by decide))
    rw [show textT [] e = rowT e from rfl] at this
    unfold guess0 at this
    rw [if_neg hr.1, words_row hm, if_pos hlen, if_neg hr.2] at this
    exact Prod.mk.inj this
  | [n], h, _, _, h1, _ =>
    have hn := size_one_inv h.1
    have := h1 (vec_free e hm)
    rw [show textT [n] e = vecT e from rfl] at this
    unfold guess0 at this
    rw [hn]
    by_cases h0 : e = []
    · subst h0
      exact Prod.mk.inj this
    · have hv : vecT e ≠ [33, 48] := fun x => h0 ((vec_zero hm).1 x)
      rw [if_neg hv, words_vec hm hv] at this
      by_cases h3 : e.length = 1
      · obtain ⟨x, rfl⟩ := List.length_eq_one_iff.mp h3
        rw [if_pos h3, show (vecT [x]).headD 0 = 44 from rfl, if_pos (by decide)] at this
        exact Prod.mk.inj this
      · rw [if_neg h3] at this
        exact Prod.mk.inj this
  | a :: b :: s, h, hb, _, _, h2 =>
    have hma := axes_may hb
    have := h2 (rowT ((a :: b :: s).map itoa)) (vecT e) rfl (row_free _ hma 35 (by decide) (by decide))
    rw [words_row hma] at this
    refine ⟨this.1.2 _ rfl hb, ?_⟩
    rw [this.2]
    by_cases h0 : e = []
    · subst h0; rfl
    · have hv : vecT e ≠ [33, 48] := fun x => h0 ((vec_zero hm).1 x)
      rw [if_neg hv, words_vec hm hv]
theorem rread_ev (t : L8) (hl : t.length ≤ 100000) : Ev (fun k => TV.reredosref11_Read.f k (BA t)) (oR (readR t)) := by
  unfold TV.reredosref11_Read.f
  cases hr : readR t with
  | some v =>
    obtain ⟨s, e⟩ := v
    obtain ⟨hg, ht⟩ := text_read hr
    have := guess_text hg (by rw [ht]; exact hl)
    rw [ht] at this
    refine Ev.bind this (Ev.bind (rtext_good hg) ?_)
    dsimp only
    refine Ev.congr (fun k => if_pos rfl) (Ev.congr (fun k => if_pos (by rw [ht])) (Ev.now _))
  | none =>
    obtain ⟨z, e, hg, ⟨b1, b2, b3⟩, _⟩ := guess_ev t hl
    refine Ev.bind hg ?_
    dsimp only
    by_cases hgood : Good z e
    · refine Ev.bind (rtext_good hgood) ?_
      dsimp only
      refine Ev.congr (fun k => if_pos rfl) (Ev.congr (fun k => if_neg ?_) (Ev.now _))
      intro he
      rw [ba_list, ba_list] at he
      have := read_text hgood
      rw [he, hr] at this
      cases this
    · refine Ev.bind (rtext_bad (fun x hx => by have := b1 x hx; omega) (by omega) hgood) ?_
      exact Ev.congr (fun k => if_neg (by show ¬ (1 : Int) = 0; decide)) (Ev.now _)
end Go.Proofs.YtcpaajecppplhaaGreatDoor.Tx
end
section
/- The example at the head of the statements over texts, and how long the text of an array is. -/
namespace Go.Proofs.YtcpaajecppplhaaGreatDoor.Tx
open Go.Lib Go.RowKit Go.Proofs.YtcpaajecppplhaaGreatDoorW.PrintWords Go.Proofs.YtcpaajecppplhaaGreatDoorW.PrintLast Go.Proofs.YtcpaajecppplhaaGreatDoor Go.Proofs.YtcpaajecppplhaaGreatDoor.Nm Go.Proofs.YtcpaajecppplhaaGreatDoor.Sh
set_option linter.unusedVariables false
set_option linter.unusedSimpArgs false
theorem text_len {s : List Int} {e : List L8} (h : Good s e) : (textT s e).length ≤ 102 * e.length + 400 := by
  obtain ⟨hb, hn0, hn1⟩ := size_bd h.1
  obtain ⟨hs3, _, _⟩ := size_ok h.1
  have hv := vec_len h.2
  have hr := row_len h.2
  match s, hb, hs3 with
  | [], _, _ => exact Nat.le_trans hr (by omega)
  | [n], _, _ => exact Nat.le_trans hv (by omega)
  | a :: b :: s, hb, hs3 =>
    have h1 := row_len (axes_may hb)
    rw [List.length_map] at h1
    show (rowT ((a :: b :: s).map itoa) ++ 35 :: vecT e).length ≤ _
    rw [List.length_append, List.length_cons]
    omega
theorem allM_cons {x : L8} {e : List L8} (h : mayL x = true) (k : AllM e) : AllM (x :: e) := fun y hy => by
  rcases List.mem_cons.mp hy with rfl | hy
  · exact h
  · exact k y hy
theorem allM_nil : AllM [] := fun y hy => by cases hy
theorem shownT : Ev (fun k => TX.reredoslaw11_shown.f k) true := by
  have i2 : ([50] : L8) = itoa 2 := ba_inj (litS 2 [50] (by decide) (by decide) (by decide) (by simp))
  have i3 : ([51] : L8) = itoa 3 := ba_inj (litS 3 [51] (by decide) (by decide) (by decide) (by simp))
  have g1 : Good [2, 3] [[49], [50], [51], [52], [53], [54]] := ⟨by decide, allM_cons (by decide) (allM_cons (by decide) (allM_cons (by decide) (allM_cons (by decide) (allM_cons (by decide) (allM_cons (by decide) allM_nil)))))⟩
  have g2 : Good [1] [[45, 55]] := ⟨by decide, allM_cons (by decide) allM_nil⟩
  have e1 : textT [2, 3] [[49], [50], [51], [52], [53], [54]] = [50, 32, 51, 35, 49, 32, 50, 32, 51, 32, 52, 32, 53, 32, 54] := by
    show rowT [itoa 2, itoa 3] ++ _ = _
    rw [← i2, ← i3]
    rfl
  have r1 := read_ev [50, 32, 51, 35, 49, 32, 50, 32, 51, 32, 52, 32, 53, 32, 54] (by decide)
  rw [← e1, read_text g1, e1] at r1
  unfold TX.reredoslaw11_shown.f
  refine Ev.bind r1 (Ev.bind (text_good g2) ?_)
  refine Ev.congr (fun k => if_pos rfl) ?_
  have hm : TV.val_Many.f [2, 3] (mB [[49], [50], [51], [52], [53], [54]]) = some 2 := rfl
  show Ev (fun k => (TV.val_Many.f [2, 3] (mB [[49], [50], [51], [52], [53], [54]])).bind _) _
  rw [hm, Option.bind_some]
  refine Ev.congr (fun k => if_pos rfl) (Ev.congr (fun k => if_pos rfl) (Ev.congr (fun k => if_pos rfl) ?_))
  show Ev (fun k => some ((BA (textT [1] [[45, 55]])).toList == ([44, 95, 55] : List UInt8))) true
  rw [ba_list]
  exact Ev.now _
end Go.Proofs.YtcpaajecppplhaaGreatDoor.Tx
end
