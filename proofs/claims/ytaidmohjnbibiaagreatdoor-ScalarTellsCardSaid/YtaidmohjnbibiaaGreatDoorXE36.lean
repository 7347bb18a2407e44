/- What the law leans on, part 37: declarations of several texts of ours, in their order. -/
import Derived.Test.YtaidmohjnbibiaaGreatDoorXE34
import Derived.Test.YtaidmohjnbibiaaGreatDoorXE35
import Derived.Test.YtaidmohjnbibiaaGreatDoorXE32
section
/- ScalarTells: what any sign does with any two numbers, and with one, or that it does nothing, is the document's. Conditions: none but the statement's own. -/
namespace Go.Proofs.YtaidmohjnbibiaaGreatDoor.Pure
open Go.Lib Go.RowKit Go.Proofs.YtaidmohjnbibiaaGreatDoor.LScalarTells Go.Proofs.YtaidmohjnbibiaaGreatDoorW.PrintWords Go.Proofs.YtaidmohjnbibiaaGreatDoorW.PrintLast Go.Proofs.YtaidmohjnbibiaaGreatDoor Go.Proofs.YtaidmohjnbibiaaGreatDoor.Nm
set_option linter.unusedVariables false
set_option linter.unusedSimpArgs false
theorem bit_s (p : Bool) : SC.reredosref12_bit.f p = some (numS (b01 p)) := by
  unfold SC.reredosref12_bit.f b01
  cases p
  · rw [if_neg (by decide), zero_s]; rfl
  · rw [if_pos rfl, one_s]; rfl
theorem rd_no (op : ByteArray) (l m : List UInt8) (la : l.length ≤ 1000000000) (lb : m.length ≤ 1000000000) (h : mayL l = false ∨ mayL m = false) : Ev (fun k => SC.reredosref12_Dyad.f k op (BA l) (BA m)) (BA [], 1) := by
  have st : Ev (fun k => SC.reredosref12_Dyad.j0 k op (BA l) (BA m) true) (BA [], 1) := by
    refine Ev.step (f := ?f) (fun k => ?h) ?g
    case h => rw [SC.reredosref12_Dyad.j0]
    case g => exact Ev.congr (fun k => if_pos rfl) (Ev.now _)
  unfold SC.reredosref12_Dyad.f
  have hl := refMay_ev l la
  have hm := refMay_ev m lb
  cases e : mayL l with
  | false =>
    rw [e] at hl
    exact Ev.bind hl (Ev.congr (fun k => if_neg (by decide)) st)
  | true =>
    rw [e] at hl
    rcases h with h | h
    · rw [e] at h; cases h
    · rw [h] at hm
      exact Ev.bind hl (Ev.congr (fun k => if_pos rfl) (Ev.bind hm st))
theorem no {c d : UInt8} (h : c ≠ d) : ¬ (⟨#[c]⟩ : ByteArray).toList = [d] := by rw [lit_list]; simpa using h
/-- the document's arms -/
theorem rd_ev (op : ByteArray) (x y : Int) (hx : Sm x) (hy : Sm y) {r : ByteArray × Int} (h : Ev (fun k => if op.toList = ([43] : List UInt8) then ((K.reredosref01_Add.f k (numS x) (numS y)).bind fun bt119 => (some (bt119.1, bt119.2))) else (if op.toList = ([45] : List UInt8) then ((K.reredosref01_Sub.f k (numS x) (numS y)).bind fun bt121 => (some (bt121.1, bt121.2))) else (if op.toList = ([42] : List UInt8) then ((K.reredosref01_Mul.f k (numS x) (numS y)).bind fun bt123 => (some (bt123.1, bt123.2))) else (if op.toList = ([37] : List UInt8) then ((K.reredosref01_Div.f k (numS x) (numS y)).bind fun bt125 => (some (bt125.1, bt125.2))) else (if op.toList = ([33] : List UInt8) then ((K.reredosref01_Mod.f k (numS x) (numS y)).bind fun bt127 => (some (bt127.1, bt127.2))) else (if op.toList = ([60] : List UInt8) then ((SC.reredosref12_bit.f (decide (sgn (x - y) < 0))).bind fun t129 => (some (t129, 0))) else (if op.toList = ([62] : List UInt8) then ((SC.reredosref12_bit.f (decide (sgn (x - y) > 0))).bind fun t130 => (some (t130, 0))) else (if op.toList = ([61] : List UInt8) then ((SC.reredosref12_bit.f (sgn (x - y) == 0)).bind fun t131 => (some (t131, 0))) else (if op.toList = ([126] : List UInt8) then ((SC.reredosref12_bit.f (sgn (x - y) != 0)).bind fun t132 => (some (t132, 0))) else (if op.toList = ([38] : List UInt8) then (if sgn (x - y) < 0 then (SC.reredosref12_Dyad.j1 k op (numS x) (numS y) true) else (if op.toList = ([124] : List UInt8) then (SC.reredosref12_Dyad.j1 k op (numS x) (numS y) (decide (sgn (x - y) > 0))) else (SC.reredosref12_Dyad.j1 k op (numS x) (numS y) false))) else (if op.toList = ([124] : List UInt8) then (SC.reredosref12_Dyad.j1 k op (numS x) (numS y) (decide (sgn (x - y) > 0))) else (SC.reredosref12_Dyad.j1 k op (numS x) (numS y) false)))))))))))) r) :
    Ev (fun k => SC.reredosref12_Dyad.f k op (numS x) (numS y)) r := by
  unfold SC.reredosref12_Dyad.f
  refine Ev.bind (numS_may hx) (Ev.congr (fun k => if_pos rfl) (Ev.bind (numS_may hy) ?_))
  refine Ev.step (f := ?f) (fun k => ?h) ?g
  case h => rw [SC.reredosref12_Dyad.j0]
  case g => exact Ev.congr (fun k => if_neg (by decide)) (Ev.bind (cmp_ev x y hx hy) h)
theorem j1_ev (op a b : ByteArray) (p : Bool) : Ev (fun k => SC.reredosref12_Dyad.j1 k op a b p) (if p = true then (a, 0) else if op.toList = [38] then (b, 0) else if op.toList = [124] then (b, 0) else (BA [], 1)) := by
  refine Ev.step (f := ?f) (fun k => ?h) ?g
  case h => rw [SC.reredosref12_Dyad.j1]
  case g =>
    cases p
    · simp only [Bool.false_eq_true, if_false]
      by_cases h1 : op.toList = [38]
      · rw [if_pos h1, if_pos h1]; exact Ev.now _
      · rw [if_neg h1, if_neg h1]
        by_cases h2 : op.toList = [124]
        · rw [if_pos h2, if_pos h2]; exact Ev.now _
        · rw [if_neg h2, if_neg h2]; exact Ev.now _
    · simp only [if_true]; exact Ev.now _
/-- what is told, and what the document tells, is the same -/
def Agree (op a b : ByteArray) : Prop := ∃ r, Ev (fun k => Hd.scalarDyad.f k op a b) r ∧ Ev (fun k => SC.reredosref12_Dyad.f k op a b) r
theorem agree_num (op : ByteArray) (x y : Int) (hx : Sm x) (hy : Sm y) : Agree op (numS x) (numS y) := by
  rcases Hd.sgDyad_or op with ⟨h0, hat⟩ | ⟨rfl, _⟩ | ⟨rfl, _⟩ | ⟨rfl, _⟩ | ⟨rfl, _⟩ | ⟨rfl, _⟩ | ⟨rfl, _⟩ | ⟨rfl, _⟩ | ⟨rfl, _⟩ | ⟨rfl, _⟩ | ⟨rfl, _⟩ | ⟨rfl, _⟩
  · refine ⟨_, Ev.congr (fun k => dy_none op h0 _ _ k) (Ev.now _), rd_ev op x y hx hy ?_⟩
    have hne : ∀ c, c ∈ ([43, 45, 42, 37, 33, 38, 124, 60, 62, 61, 126] : List UInt8) → op.toList ≠ [c] := by
      intro c hc e
      simp only [List.mem_cons, List.not_mem_nil, or_false] at hc
      rcases hc with rfl | rfl | rfl | rfl | rfl | rfl | rfl | rfl | rfl | rfl | rfl <;> simp [Hd.sgDyad, e] at h0
    refine Ev.congr (fun k => ((if_neg (hne _ (by decide))).trans ((if_neg (hne _ (by decide))).trans ((if_neg (hne _ (by decide))).trans ((if_neg (hne _ (by decide))).trans ((if_neg (hne _ (by decide))).trans ((if_neg (hne _ (by decide))).trans ((if_neg (hne _ (by decide))).trans ((if_neg (hne _ (by decide))).trans ((if_neg (hne _ (by decide))).trans ((if_neg (hne _ (by decide))).trans (if_neg (hne _ (by decide)))))))))))))) ?_
    have := j1_ev op (numS x) (numS y) false
    rwa [if_neg (by decide), if_neg (hne 38 (by decide)), if_neg (hne 124 (by decide))] at this
  · exact ⟨_, dAdd hx hy, rd_ev _ x y hx hy (Ev.congr (fun k => if_pos (lit_list _)) (Ev.bind (add_ev x y hx hy) (Ev.now _)))⟩
  · refine ⟨_, dSub hx hy, rd_ev _ x y hx hy ?_⟩
    exact Ev.congr (fun k => ((if_neg (no (by decide))).trans (if_pos (lit_list _)))) (Ev.bind (sub_ev x y hx hy) (Ev.now _))
  · refine ⟨_, dMul hx hy, rd_ev _ x y hx hy ?_⟩
    exact Ev.congr (fun k => ((if_neg (no (by decide))).trans ((if_neg (no (by decide))).trans (if_pos (lit_list _))))) (Ev.bind (mul_ev x y hx hy) (Ev.now _))
  · by_cases h0 : y = 0
    · subst h0
      refine ⟨_, dDiv0 hx, rd_ev _ x 0 hx hy ?_⟩
      exact Ev.congr (fun k => ((if_neg (no (by decide))).trans ((if_neg (no (by decide))).trans ((if_neg (no (by decide))).trans (if_pos (lit_list _)))))) (Ev.bind (refDiv_zero x hx) (Ev.now _))
    · refine ⟨_, dDiv hx hy h0, rd_ev _ x y hx hy ?_⟩
      exact Ev.congr (fun k => ((if_neg (no (by decide))).trans ((if_neg (no (by decide))).trans ((if_neg (no (by decide))).trans (if_pos (lit_list _)))))) (Ev.bind (refDiv_ev x y hx hy h0) (Ev.now _))
  · by_cases h0 : y = 0
    · subst h0
      refine ⟨_, dMod0 hx, rd_ev _ x 0 hx hy ?_⟩
      exact Ev.congr (fun k => ((if_neg (no (by decide))).trans ((if_neg (no (by decide))).trans ((if_neg (no (by decide))).trans ((if_neg (no (by decide))).trans (if_pos (lit_list _))))))) (Ev.bind (refMod_zero x hx) (Ev.now _))
    · refine ⟨_, dMod hx hy h0, rd_ev _ x y hx hy ?_⟩
      exact Ev.congr (fun k => ((if_neg (no (by decide))).trans ((if_neg (no (by decide))).trans ((if_neg (no (by decide))).trans ((if_neg (no (by decide))).trans (if_pos (lit_list _))))))) (Ev.bind (refMod_ev x y hx hy h0) (Ev.now _))
  · refine ⟨_, dMin hx hy, rd_ev _ x y hx hy ?_⟩
    by_cases h : x < y
    · have := j1_ev ⟨#[38]⟩ (numS x) (numS y) true
      rw [if_pos (show x ≤ y by omega)]
      exact Ev.congr (fun k => ((if_neg (no (by decide))).trans ((if_neg (no (by decide))).trans ((if_neg (no (by decide))).trans ((if_neg (no (by decide))).trans ((if_neg (no (by decide))).trans ((if_neg (no (by decide))).trans ((if_neg (no (by decide))).trans ((if_neg (no (by decide))).trans ((if_neg (no (by decide))).trans ((if_pos (lit_list _)).trans (if_pos (sgn_lt.2 (by omega)))))))))))))) this
    · have := j1_ev ⟨#[38]⟩ (numS x) (numS y) false
      rw [if_neg (by decide), if_pos (lit_list _)] at this
      have e : (if x ≤ y then numS x else numS y) = numS y := by
        by_cases h2 : x ≤ y
        · rw [if_pos h2, show x = y by omega]
        · rw [if_neg h2]
      rw [e]
      exact Ev.congr (fun k => ((if_neg (no (by decide))).trans ((if_neg (no (by decide))).trans ((if_neg (no (by decide))).trans ((if_neg (no (by decide))).trans ((if_neg (no (by decide))).trans ((if_neg (no (by decide))).trans ((if_neg (no (by decide))).trans ((if_neg (no (by decide))).trans ((if_neg (no (by decide))).trans ((if_pos (lit_list _)).trans ((if_neg (fun e => h (by have := sgn_lt.1 e; omega))).trans (if_neg (no (by decide))))))))))))))) this
  · refine ⟨_, dMax hx hy, rd_ev _ x y hx hy ?_⟩
    have := j1_ev ⟨#[124]⟩ (numS x) (numS y) (decide (sgn (x - y) > 0))
    rw [lit_list] at this
    have e : ((if y ≤ x then numS x else numS y, 0) : ByteArray × Int) = (if decide (sgn (x - y) > 0) = true then (numS x, 0) else if ([124] : List UInt8) = [38] then (numS y, 0) else if ([124] : List UInt8) = [124] then (numS y, 0) else (BA [], 1)) := by
      rw [if_neg (show ¬ ([124] : List UInt8) = [38] by decide), if_pos (show ([124] : List UInt8) = [124] from rfl)]
      rcases Int.lt_trichotomy x y with h | h | h
      · rw [if_neg (show ¬ y ≤ x by omega), if_neg (by rw [decide_eq_true_eq, sgn_gt]; omega)]
      · subst h
        rw [if_pos (Int.le_refl _), if_neg (by rw [decide_eq_true_eq, sgn_gt]; omega)]
      · rw [if_pos (show y ≤ x by omega), if_pos (by rw [decide_eq_true_eq, sgn_gt]; omega)]
    rw [e]
    exact Ev.congr (fun k => ((if_neg (no (by decide))).trans ((if_neg (no (by decide))).trans ((if_neg (no (by decide))).trans ((if_neg (no (by decide))).trans ((if_neg (no (by decide))).trans ((if_neg (no (by decide))).trans ((if_neg (no (by decide))).trans ((if_neg (no (by decide))).trans ((if_neg (no (by decide))).trans ((if_neg (no (by decide))).trans (if_pos (lit_list _))))))))))))) this
  · refine ⟨_, dLt hx hy, rd_ev _ x y hx hy (Ev.congr (fun k => ((if_neg (no (by decide))).trans ((if_neg (no (by decide))).trans ((if_neg (no (by decide))).trans ((if_neg (no (by decide))).trans ((if_neg (no (by decide))).trans (if_pos (lit_list _)))))))) ?_)⟩
    rw [bit_s, show decide (sgn (x - y) < 0) = decide (x < y) from decide_eq_decide.2 (by rw [sgn_lt]; omega)]
    exact Ev.now _
  · refine ⟨_, dGt hx hy, rd_ev _ x y hx hy (Ev.congr (fun k => ((if_neg (no (by decide))).trans ((if_neg (no (by decide))).trans ((if_neg (no (by decide))).trans ((if_neg (no (by decide))).trans ((if_neg (no (by decide))).trans ((if_neg (no (by decide))).trans (if_pos (lit_list _))))))))) ?_)⟩
    rw [bit_s, show decide (sgn (x - y) > 0) = decide (y < x) from decide_eq_decide.2 (by rw [sgn_gt]; omega)]
    exact Ev.now _
  · refine ⟨_, dEq hx hy, rd_ev _ x y hx hy (Ev.congr (fun k => ((if_neg (no (by decide))).trans ((if_neg (no (by decide))).trans ((if_neg (no (by decide))).trans ((if_neg (no (by decide))).trans ((if_neg (no (by decide))).trans ((if_neg (no (by decide))).trans ((if_neg (no (by decide))).trans (if_pos (lit_list _)))))))))) ?_)⟩
    rw [bit_s, show (sgn (x - y) == 0) = decide (x = y) from by
      by_cases h : x = y
      · rw [decide_eq_true h, sgn_zero.2 (by omega)]; rfl
      · rw [decide_eq_false h]; exact beq_eq_false_iff_ne.mpr (fun e => h (by have := sgn_zero.1 e; omega))]
    exact Ev.now _
  · refine ⟨_, dNe hx hy, rd_ev _ x y hx hy (Ev.congr (fun k => ((if_neg (no (by decide))).trans ((if_neg (no (by decide))).trans ((if_neg (no (by decide))).trans ((if_neg (no (by decide))).trans ((if_neg (no (by decide))).trans ((if_neg (no (by decide))).trans ((if_neg (no (by decide))).trans ((if_neg (no (by decide))).trans (if_pos (lit_list _))))))))))) ?_)⟩
    rw [bit_s, show (sgn (x - y) != 0) = decide (x ≠ y) from by
      by_cases h : x = y
      · rw [decide_eq_false (show ¬ x ≠ y by omega), sgn_zero.2 (by omega)]; rfl
      · rw [decide_eq_true (show x ≠ y from h)]; exact bne_iff_ne.mpr (fun e => h (by have := sgn_zero.1 e; omega))]
    exact Ev.now _
theorem agree (op a b : ByteArray) (la : a.data.toList.length ≤ 1000000000) (lb : b.data.toList.length ≤ 1000000000) : Agree op a b := by
  rcases num_or a with ⟨l, rfl, hl⟩ | ⟨x, rfl, hx⟩
  · obtain ⟨m, rfl⟩ : ∃ m, b = BA m := ⟨_, ba_of b⟩
    rw [ba_data] at la lb
    exact ⟨_, Ev.congr (fun k => dy_no op l m (.inl hl) k) (Ev.now _), rd_no op l m la lb (.inl hl)⟩
  · rcases num_or b with ⟨m, rfl, hm⟩ | ⟨y, rfl, hy⟩
    · rw [show (numS x).data.toList = itoa x from ba_data _] at la
      rw [ba_data] at lb
      exact ⟨_, Ev.congr (fun k => dy_no op (itoa x) m (.inr hm) k) (Ev.now _), rd_no op (itoa x) m la lb (.inr hm)⟩
    · exact agree_num op x y hx hy
/-- one number -/
theorem agree1 (op a : ByteArray) (la : a.data.toList.length ≤ 1000000000) : ∃ r, Ev (fun k => Hd.scalarMonad.f k op a) r ∧ Ev (fun k => SC.reredosref12_Monad.f k op a) r := by
  unfold SC.reredosref12_Monad.f
  rcases num_or a with ⟨l, rfl, hl⟩ | ⟨x, rfl, hx⟩
  · rw [ba_data] at la
    have h := refMay_ev l la
    rw [hl] at h
    exact ⟨_, Ev.congr (fun k => mo_no op l hl k) (Ev.now _), Ev.bind h (Ev.congr (fun k => if_neg (by decide)) (Ev.now _))⟩
  · have h := numS_may hx
    by_cases h1 : op.toList = [45]
    · have e := Hd.ba_eq h1
      subst e
      exact ⟨_, mNeg hx, Ev.bind h (Ev.congr (fun k => (if_pos rfl).trans (if_pos h1)) (Ev.bind (neg_ev x hx) (Ev.now _)))⟩
    by_cases h2 : op.toList = [126]
    · have e := Hd.ba_eq h2
      subst e
      refine ⟨_, mNot hx, Ev.bind h (Ev.congr (fun k => (if_pos rfl).trans ((if_neg h1).trans (if_pos h2))) ?_)⟩
      rw [bit_s, show ((numS x).toList == ([48] : List UInt8)) = decide (x = 0) from by
        by_cases h : x = 0
        · rw [(list_zero x).2 h, decide_eq_true h]; rfl
        · rw [decide_eq_false h]; exact beq_eq_false_iff_ne.mpr (fun e => h ((list_zero x).1 e))]
      exact Ev.now _
    by_cases h3 : op.toList = [42]
    · have e := Hd.ba_eq h3
      subst e
      have hs := sgn_rng x
      exact ⟨_, mSgn hx, Ev.bind h (Ev.congr (fun k => (if_pos rfl).trans ((if_neg h1).trans ((if_neg h2).trans (if_pos h3)))) (Ev.bind (sign_ev x hx) (Ev.bind (refOf_ev (sgn x) (by omega) (by omega)) (Ev.now _))))⟩
    · have h0 : Hd.sgMonad op = 0 := by simp [Hd.sgMonad, h1, h2, h3]
      exact ⟨_, Ev.congr (fun k => mo_none op h0 _ k) (Ev.now _), Ev.bind h (Ev.congr (fun k => (if_pos rfl).trans ((if_neg h1).trans ((if_neg h2).trans (if_neg h3)))) (Ev.now _))⟩
/-- whole -/
theorem agree2 (op : ByteArray) : ∃ r, SL.scalar_Whole.f op = some r ∧ SC.reredosref12_Whole.f op = some r := by
  by_cases h : op.toList.length = 1
  · obtain ⟨c, hc⟩ := List.length_eq_one_iff.1 h
    have e := Hd.ba_eq hc
    subst e
    refine ⟨_, whole_c c, ?_⟩
    unfold SC.reredosref12_Whole.f wholeC
    simp only [lit_list, List.cons.injEq, and_true, List.contains_cons, List.contains_nil, Bool.or_false]
    by_cases a1 : c = 43
    · simp [a1]
    by_cases a2 : c = 45
    · simp [a2]
    by_cases a3 : c = 42
    · simp [a3]
    by_cases a4 : c = 38
    · simp [a4]
    by_cases a5 : c = 124
    · simp [a5]
    by_cases a6 : c = 60
    · simp [a6]
    by_cases a7 : c = 62
    · simp [a7]
    by_cases a8 : c = 61
    · simp [a8]
    by_cases a9 : c = 126
    · simp [a9]
    simp [a1, a2, a3, a4, a5, a6, a7, a8, a9]
  · refine ⟨_, whole_no op h, ?_⟩
    have hne : ∀ c, op.toList ≠ [c] := fun c e => h (by rw [e]; rfl)
    unfold SC.reredosref12_Whole.f
    simp [hne]
theorem tells_j0 (op a b : ByteArray) (la : a.data.toList.length ≤ 1000000000) (lb : b.data.toList.length ≤ 1000000000) : Ev (fun k => reredoslaw12_ScalarTells.j0 k op a b true false) true := by
  refine Ev.step (f := ?f) (fun k => ?h) ?g
  case h => rw [reredoslaw12_ScalarTells.j0]
  case g =>
    obtain ⟨r, r1, r2⟩ := agree op a b la lb
    obtain ⟨s, s1, s2⟩ := agree1 op a la
    obtain ⟨t, t1, t2⟩ := agree2 op
    refine Ev.congr (fun k => if_neg Bool.false_ne_true) (Ev.bind r1 (Ev.bind r2 (Ev.bind s1 (Ev.bind s2 ?_))))
    rw [t1, t2]
    simp only [if_true, Option.bind_some, beq_self_eq_true]
    exact Ev.now _
theorem tells_no (op a b : ByteArray) : Ev (fun k => reredoslaw12_ScalarTells.j0 k op a b true true) true := by
  refine Ev.step (f := ?f) (fun k => ?h) ?g
  case h => rw [reredoslaw12_ScalarTells.j0]
  case g => exact Ev.congr (fun k => if_pos rfl) (Ev.now _)
theorem ScalarTells : reredoslaw12_ScalarTells.Pure := by
  intro op a b _ _ _
  have sz : ∀ s : ByteArray, s.data.toList.length = s.size := fun s => by rw [Array.length_toList]; rfl
  have h : Ev (fun k => reredoslaw12_ScalarTells.f k op a b) true := by
    unfold reredoslaw12_ScalarTells.f
    refine Ev.bind shownS ?_
    by_cases h1 : (a.size : Int) > 200
    · exact Ev.congr (fun k => if_pos h1) (tells_no op a b)
    refine Ev.congr (fun k => if_neg h1) ?_
    by_cases h2 : (b.size : Int) > 200
    · rw [decide_eq_true h2]
      exact tells_no op a b
    · rw [decide_eq_false h2]
      exact tells_j0 op a b (by rw [sz]; omega) (by rw [sz]; omega)
  exact h.rounds
end Go.Proofs.YtaidmohjnbibiaaGreatDoor.Pure
end
