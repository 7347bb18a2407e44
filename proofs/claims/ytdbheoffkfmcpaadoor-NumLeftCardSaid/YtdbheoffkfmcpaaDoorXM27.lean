/- What the law leans on, part 28: declarations of several texts of ours, in their order. -/
import Derived.Test.YtdbheoffkfmcpaaDoorXM26
import Derived.Test.YtdbheoffkfmcpaaDoorXM25
section
/- NumLeft: a number is what is left, and the divisor times the quotient, together; what is left has the divisor's sign, and is nearer to 0. Conditions: none but the statement's own. -/
namespace Go.Proofs.YtdbheoffkfmcpaaDoor.Pure
open Go.Lib Go.RowKit Go.Proofs.YtdbheoffkfmcpaaDoor.LNumLeft Go.Proofs.YtdbheoffkfmcpaaDoorW.PrintWords Go.Proofs.YtdbheoffkfmcpaaDoorW.PrintLast Go.Proofs.YtdbheoffkfmcpaaDoor Go.Proofs.YtdbheoffkfmcpaaDoor.Nm
set_option linter.unusedVariables false
set_option linter.unusedSimpArgs false
theorem sgn_ge {x : Int} : (sgn x ≥ 0) ↔ 0 ≤ x := by unfold sgn; split <;> (try split) <;> omega
theorem sgn_lt {x : Int} : (sgn x < 0) ↔ x < 0 := by unfold sgn; split <;> (try split) <;> omega
theorem sgn_gt {x : Int} : (sgn x > 0) ↔ 0 < x := by unfold sgn; split <;> (try split) <;> omega
theorem sgn_le {x : Int} : (sgn x ≤ 0) ↔ x ≤ 0 := by unfold sgn; split <;> (try split) <;> omega
theorem fm_sm {x y : Int} (hy : Sm y) (h0 : y ≠ 0) : Sm (fm x y) := by
  have : (fm x y).natAbs ≤ y.natAbs := by
    rcases (by omega : 0 < y ∨ y < 0) with h | h
    · have := fm_pos (x := x) h; omega
    · have := fm_neg (x := x) h; omega
  exact Nat.lt_of_le_of_lt this hy
theorem lit0 : (⟨#[48]⟩ : ByteArray) = numS 0 := by rw [numS_pos (by decide)]; exact congrArg BA decDigits_zero.symm
/-- the end, where it is said how great what is left is -/
theorem left_j1 (x y : Int) (hx : Sm x) (hy : Sm y) (h0 : y ≠ 0) (g h : Int) (s : ByteArray) (hs : g = 0 → h = 0 ∧ s = numS x) (sz : Bool) (hsz : 0 < y → sz = true) :
    Ev (fun k => reredoslaw01_NumLeft.j1 k (numS x) (numS y) true (numS (fm x y)) 0 g s h sz) true := by
  have hr := fm_sm (x := x) hy h0
  have c0 := numCmp_ev (fm x y) 0 hr (sm_i64 (by decide) (by decide))
  have cy := numCmp_ev (fm x y) y hr hy
  refine Ev.step (f := ?f) (fun k => ?h) ?g
  case h => rw [reredoslaw01_NumLeft.j1]
  case g =>
    refine Ev.bind (numSign_ev y hy) ?_
    rcases (by omega : 0 < y ∨ y < 0) with hp | hn
    · refine Ev.congr (fun k => if_neg (by rw [sgn_lt]; omega)) ?_
      rw [hsz hp]
      by_cases hg : g = 0
      · obtain ⟨h1, h2⟩ := hs hg
        subst h1 h2 hg
        refine Ev.congr (fun k => (if_pos rfl).trans ((if_pos rfl).trans ((if_pos rfl).trans ((if_pos rfl).trans (if_pos rfl))))) ?_
        exact Ev.now _
      · refine Ev.congr (fun k => (if_pos rfl).trans ((if_pos rfl).trans (if_neg hg))) ?_
        exact Ev.now _
    · have hf := fm_neg (x := x) hn
      refine Ev.congr (fun k => if_pos (by rw [sgn_lt]; exact hn)) ?_
      rw [lit0]
      refine Ev.bind c0 ?_
      refine Ev.congr (fun k => if_pos (by rw [sgn_le]; omega)) ?_
      refine Ev.bind cy ?_
      have hd : decide (sgn (fm x y - y) > 0) = true := decide_eq_true (by rw [sgn_gt]; omega)
      by_cases hg : g = 0
      · obtain ⟨h1, h2⟩ := hs hg
        subst h1 h2 hg
        refine Ev.congr (fun k => (if_pos rfl).trans ((if_pos rfl).trans ((if_pos rfl).trans ((if_pos rfl).trans (if_pos rfl))))) ?_
        rw [hd]
        exact Ev.now _
      · refine Ev.congr (fun k => (if_pos rfl).trans ((if_pos rfl).trans (if_neg hg))) ?_
        rw [hd]
        exact Ev.now _
theorem left_j0 (x y : Int) (hx : Sm x) (hy : Sm y) : Ev (fun k => reredoslaw01_NumLeft.j0 k (numS x) (numS y) true false) true := by
  refine Ev.step (f := ?f) (fun k => ?h) ?g
  case h => rw [reredoslaw01_NumLeft.j0]
  case g =>
    refine Ev.congr (fun k => if_neg Bool.false_ne_true) ?_
    by_cases h0 : y = 0
    · subst h0
      refine Ev.bind (num_Div_zero x hx) (Ev.bind (num_Mod_zero x hx) ?_)
      refine Ev.congr (fun k => (if_pos (by rw [numS_list]; exact (itoa_zero_iff 0).2 rfl)).trans ((if_pos rfl).trans (if_pos rfl))) ?_
      exact Ev.now _
    · have hr := fm_sm (x := x) hy h0
      have cy := numCmp_ev (fm x y) y hr hy
      refine Ev.bind (numDiv_ev x y hx hy h0) (Ev.bind (numMod_ev x y hx hy h0) ?_)
      refine Ev.congr (fun k => if_neg (by rw [numS_list]; exact fun e => h0 ((itoa_zero_iff y).1 e))) ?_
      rw [show told (fm x y) = (numS (fm x y), 0) from if_pos hr]
      rcases told_or (fl x y) with ⟨e1, s1⟩ | ⟨e1, s1⟩
      · rw [e1]
        refine Ev.congr (fun k => if_pos rfl) ?_
        refine Ev.bind (numMul_ev (fl x y) y s1 hy) ?_
        have fin : ∀ (r : ByteArray × Int), ((told (fl x y * y)).2 = 0 → r.2 = 0 ∧ r.1 = numS x) → Ev (fun k => (L.num_Cmp.f k (numS (fm x y)) (⟨#[48]⟩ : ByteArray)).bind fun t113 => (if t113 ≥ 0 then ((L.num_Cmp.f k (numS (fm x y)) (numS y)).bind fun t114 => (reredoslaw01_NumLeft.j1 k (numS x) (numS y) true (numS (fm x y)) 0 (told (fl x y * y)).2 r.1 r.2 (decide (t114 < 0)))) else (reredoslaw01_NumLeft.j1 k (numS x) (numS y) true (numS (fm x y)) 0 (told (fl x y * y)).2 r.1 r.2 false))) true := fun r hr2 => by
          rw [lit0]
          refine Ev.bind (numCmp_ev (fm x y) 0 hr (sm_i64 (by decide) (by decide))) ?_
          by_cases hge : 0 ≤ fm x y
          · refine Ev.congr (fun k => if_pos (by rw [sgn_ge]; omega)) ?_
            refine Ev.bind cy ?_
            exact left_j1 x y hx hy h0 _ _ _ hr2 _ (fun hp => decide_eq_true (by rw [sgn_lt]; have := fm_pos (x := x) hp; omega))
          · refine Ev.congr (fun k => if_neg (by rw [sgn_ge]; omega)) ?_
            exact left_j1 x y hx hy h0 _ _ _ hr2 _ (fun hp => by have := fm_pos (x := x) hp; omega)
        rcases told_or (fl x y * y) with ⟨e2, s2⟩ | ⟨e2, s2⟩
        · have ha := numAdd_ev (fl x y * y) (fm x y) s2 hr
          rw [show fl x y * y + fm x y = x by unfold fm; rw [Int.mul_comm]; omega, show told x = (numS x, 0) from if_pos hx] at ha
          have hf := fin (numS x, 0) (fun _ => ⟨rfl, rfl⟩)
          rw [e2] at hf ⊢
          exact Ev.bind ha hf
        · obtain ⟨r, ha⟩ := anyAdd (told (fl x y * y)).1 (numS (fm x y))
          refine Ev.bind ha ?_
          exact fin r (fun e => by rw [e2] at e; exact absurd (show (8 : Int) = 0 from e) (by decide))
      · rw [e1]
        refine Ev.congr (fun k => (if_neg (show ¬ ((BA [], (8 : Int)).2 = 0) by decide)).trans (if_pos rfl)) ?_
        exact Ev.now _
theorem NumLeft : reredoslaw01_NumLeft.Pure := by
  intro a b _ _
  have hT : ∀ a b, Ev (fun k => reredoslaw01_NumLeft.j0 k a b true true) true := fun a b => Ev.step (f := fun _ => some true) (fun k => by rw [reredoslaw01_NumLeft.j0, if_pos rfl]) (Ev.now _)
  have h : Ev (fun k => reredoslaw01_NumLeft.f k a b) true := by
    unfold reredoslaw01_NumLeft.f
    refine Ev.bind shownN ?_
    have few : ∃ c, reredoslaw01_few.f a b = some c := by unfold reredoslaw01_few.f; split <;> exact ⟨_, rfl⟩
    obtain ⟨c, hc⟩ := few
    rw [hc]
    simp only [Option.bind_some]
    cases c with
    | false => exact Ev.congr (fun k => if_neg Bool.false_ne_true) (hT a b)
    | true =>
      refine Ev.congr (fun k => if_pos rfl) ?_
      rcases num_or a with ⟨l, rfl, hl⟩ | ⟨x, rfl, hx⟩
      · rw [may_ev, hl]
        simp only [Option.bind_some]
        exact Ev.congr (fun k => if_neg Bool.false_ne_true) (hT _ _)
      · rw [mayS hx]
        simp only [Option.bind_some]
        refine Ev.congr (fun k => if_pos trivial) ?_
        rcases num_or b with ⟨m, rfl, hm⟩ | ⟨y, rfl, hy⟩
        · rw [may_ev, hm]
          simp only [Option.bind_some]
          exact hT _ _
        · rw [mayS hy]
          simp only [Option.bind_some]
          exact left_j0 x y hx hy
  exact h.rounds
end Go.Proofs.YtdbheoffkfmcpaaDoor.Pure
end
