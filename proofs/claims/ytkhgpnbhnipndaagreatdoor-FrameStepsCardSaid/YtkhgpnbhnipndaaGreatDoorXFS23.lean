/- What the law leans on, part 24: declarations of several texts of ours, in their order. -/
import Derived.Test.YtkhgpnbhnipndaaGreatDoorXFS22
section
/- Numbers divided; what a call tells of two. -/
namespace Go.Proofs.YtkhgpnbhnipndaaGreatDoor.Nm
open Go.Lib Go.RowKit
set_option linter.unusedVariables false
set_option linter.unusedSimpArgs false
/-- what divided tells: sizes and signs -/
def divW (x : Nat) (a : Bool) (y : Nat) (b : Bool) : (Nat × Bool) × (Nat × Bool) :=
  if 0 < x % y ∧ a ≠ b then (plusW (x / y) ((a != b) && decide (0 < x / y)) 1 true, plusW (x % y) (a && decide (0 < x % y)) y b)
  else ((x / y, (a != b) && decide (0 < x / y)), (x % y, a && decide (0 < x % y)))
theorem div_sv (X : Nat) (a : Bool) (Y : Nat) (b : Bool) (hY : 0 < Y) : sv (divW X a Y b).1.1 (divW X a Y b).1.2 = fl (sv X a) (sv Y b) ∧ sv (divW X a Y b).2.1 (divW X a Y b).2.2 = fm (sv X a) (sv Y b) := by
  have h1 := Nat.div_add_mod X Y
  have h2 := Nat.mod_lt X hY
  have h3 : (X : Int) = (Y : Int) * ((X / Y : Nat) : Int) + ((X % Y : Nat) : Int) := by rw [← Int.natCast_mul, ← Int.natCast_add, h1]
  have hq : ∀ c : Bool, sv (X / Y) (c && decide (0 < X / Y)) = sv (X / Y) c := fun c => by
    cases c with
    | false => rfl
    | true =>
      by_cases h : 0 < X / Y
      · rw [decide_eq_true h]; rfl
      · rw [decide_eq_false h, Nat.eq_zero_of_not_pos h]; rfl
  have hr : ∀ c : Bool, sv (X % Y) (c && decide (0 < X % Y)) = sv (X % Y) c := fun c => by
    cases c with
    | false => rfl
    | true =>
      by_cases h : 0 < X % Y
      · rw [decide_eq_true h]; rfl
      · rw [decide_eq_false h, Nat.eq_zero_of_not_pos h]; rfl
  have hYi : (0 : Int) < (Y : Int) := by omega
  have nd := neg_div X Y hY
  unfold divW
  by_cases h : 0 < X % Y ∧ a ≠ b
  · rw [if_pos h, plusW_sv, plusW_sv, hq, hr]
    rw [if_neg (fun e => by have := h.1; omega)] at nd
    cases a <;> cases b
    · exact absurd rfl h.2
    · have e : fl (sv X false) (sv Y true) = -((X / Y : Nat) : Int) - 1 := by
        show (if (0 : Int) < -(Y : Int) then _ else (-(X : Int)) / (-(-(Y : Int)))) = _
        rw [if_neg (by omega), Int.neg_neg]
        exact nd
      rw [show fm (sv X false) (sv Y true) = sv X false - sv Y true * fl (sv X false) (sv Y true) from rfl, e]
      simp only [sv, bne, Bool.false_eq_true, if_false, if_true, Bool.not_false, beq_self_eq_true, show (false == true) = false from rfl]
      rw [Int.mul_sub, Int.neg_mul_neg, Int.mul_one]
      have h4 := h3
      generalize ((X / Y : Nat) : Int) = q at *
      generalize ((X % Y : Nat) : Int) = r at *
      generalize (Y : Int) * q = P at *
      first | omega | (refine ⟨trivial, ?_⟩; omega)
    · have e : fl (sv X true) (sv Y false) = -((X / Y : Nat) : Int) - 1 := by
        show (if (0 : Int) < (Y : Int) then (-(X : Int)) / (Y : Int) else _) = _
        rw [if_pos hYi]
        exact nd
      rw [show fm (sv X true) (sv Y false) = sv X true - sv Y false * fl (sv X true) (sv Y false) from rfl, e]
      simp only [sv, bne, Bool.false_eq_true, if_false, if_true, Bool.not_false, beq_self_eq_true, show (true == false) = false from rfl]
      rw [Int.mul_sub, Int.mul_neg, Int.mul_one]
      have h4 := h3
      generalize ((X / Y : Nat) : Int) = q at *
      generalize ((X % Y : Nat) : Int) = r at *
      generalize (Y : Int) * q = P at *
      first | omega | (refine ⟨trivial, ?_⟩; omega)
    · exact absurd rfl h.2
  · rw [if_neg h]
    simp only
    rw [hq, hr]
    cases a <;> cases b
    · have e : fl (sv X false) (sv Y false) = ((X / Y : Nat) : Int) := by
        show (if (0 : Int) < (Y : Int) then (X : Int) / (Y : Int) else _) = _
        rw [if_pos hYi]
        rfl
      rw [show fm (sv X false) (sv Y false) = sv X false - sv Y false * fl (sv X false) (sv Y false) from rfl, e]
      simp only [sv, bne, Bool.false_eq_true, if_false, Bool.not_true, beq_self_eq_true]
      have h4 := h3
      generalize ((X / Y : Nat) : Int) = q at *
      generalize ((X % Y : Nat) : Int) = r at *
      generalize (Y : Int) * q = P at *
      first | omega | (refine ⟨trivial, ?_⟩; omega)
    · have hz : X % Y = 0 := by
        rcases Nat.eq_zero_or_pos (X % Y) with hz | hz
        · exact hz
        · exact absurd ⟨hz, by decide⟩ h
      rw [if_pos hz] at nd
      have e : fl (sv X false) (sv Y true) = -((X / Y : Nat) : Int) := by
        show (if (0 : Int) < -(Y : Int) then _ else (-(X : Int)) / (-(-(Y : Int)))) = _
        rw [if_neg (by omega), Int.neg_neg]
        exact nd
      rw [show fm (sv X false) (sv Y true) = sv X false - sv Y true * fl (sv X false) (sv Y true) from rfl, e]
      simp only [sv, bne, Bool.false_eq_true, if_false, if_true, Bool.not_false, show (false == true) = false from rfl]
      rw [Int.neg_mul_neg]
      have h4 := h3
      generalize ((X / Y : Nat) : Int) = q at *
      generalize ((X % Y : Nat) : Int) = r at *
      generalize (Y : Int) * q = P at *
      first | omega | (refine ⟨trivial, ?_⟩; omega)
    · have hz : X % Y = 0 := by
        rcases Nat.eq_zero_or_pos (X % Y) with hz | hz
        · exact hz
        · exact absurd ⟨hz, by decide⟩ h
      rw [if_pos hz] at nd
      have e : fl (sv X true) (sv Y false) = -((X / Y : Nat) : Int) := by
        show (if (0 : Int) < (Y : Int) then (-(X : Int)) / (Y : Int) else _) = _
        rw [if_pos hYi]
        exact nd
      rw [show fm (sv X true) (sv Y false) = sv X true - sv Y false * fl (sv X true) (sv Y false) from rfl, e]
      simp only [sv, bne, Bool.false_eq_true, if_false, if_true, Bool.not_false, show (true == false) = false from rfl]
      rw [Int.mul_neg]
      have h4 := h3
      generalize ((X / Y : Nat) : Int) = q at *
      generalize ((X % Y : Nat) : Int) = r at *
      generalize (Y : Int) * q = P at *
      first | omega | (refine ⟨trivial, ?_⟩; omega)
    · have e : fl (sv X true) (sv Y true) = ((X / Y : Nat) : Int) := by
        show (if (0 : Int) < -(Y : Int) then _ else (-(-(X : Int))) / (-(-(Y : Int)))) = _
        rw [if_neg (by omega), Int.neg_neg, Int.neg_neg]
        rfl
      rw [show fm (sv X true) (sv Y true) = sv X true - sv Y true * fl (sv X true) (sv Y true) from rfl, e]
      simp only [sv, bne, Bool.false_eq_true, if_true, if_false, Bool.not_true, beq_self_eq_true]
      rw [Int.neg_mul]
      have h4 := h3
      generalize ((X / Y : Nat) : Int) = q at *
      generalize ((X % Y : Nat) : Int) = r at *
      generalize (Y : Int) * q = P at *
      first | omega | (refine ⟨trivial, ?_⟩; omega)
theorem div_len (X Y : Nat) (a b : Bool) (hY : 0 < Y) (hx : (decDigits X).length ≤ 900) (hy : (decDigits Y).length ≤ 900) : (mg (divW X a Y b).1.1).length ≤ 1000000 ∧ (mg (divW X a Y b).2.1).length ≤ 1000000 := by
  have hd : (decDigits (X / Y)).length ≤ 1000 := Nat.le_trans (dec_mono (Nat.div_le_self X Y)) (by omega)
  have hm : (decDigits (X % Y)).length ≤ 1000 := Nat.le_trans (dec_mono (Nat.le_of_lt (Nat.mod_lt X hY))) (by omega)
  have h1 : (decDigits 1).length ≤ 1000 := by rw [decDigits_one (show 1 < 10 by decide)]; decide
  unfold divW
  by_cases h : 0 < X % Y ∧ a ≠ b
  · rw [if_pos h]
    exact ⟨plusW_len _ _ _ _ hd h1, plusW_len _ _ _ _ hm (by omega)⟩
  · rw [if_neg h]
    have := mg_len_nl hd
    have := mg_len_nl hm
    exact ⟨by simp only; omega, by simp only; omega⟩
end Go.Proofs.YtkhgpnbhnipndaaGreatDoor.Nm
namespace Go.Proofs.YtkhgpnbhnipndaaGreatDoor.Am
open Go Go.Lib Go.RowKit Go.Proofs.YtkhgpnbhnipndaaGreatDoor.Nm Go.Proofs.YtkhgpnbhnipndaaGreatDoorW.PrintWords Go.Proofs.YtkhgpnbhnipndaaGreatDoor
set_option linter.unusedVariables false
set_option linter.unusedSimpArgs false
set_option maxRecDepth 100000
set_option maxHeartbeats 8000000
theorem len_pos (n : Nat) : decide (((mg n).length : Int) > 0) = decide (0 < n) := by
  by_cases h0 : n = 0
  · subst h0; rw [mg_zero]; rfl
  · rw [mg_pos h0, decide_eq_true (show 0 < n by omega)]
    simp
theorem mg_one : mg 1 = [1] := by rw [mg_pos (by decide), show 1 / 1000000000 = 0 from rfl, mg_zero]
theorem divided_runs (x y : Nat) (a b : Bool) (hy : 0 < y) (hlx : (mg x).length ≤ 10000) (hly : (mg y).length ≤ 10000) :
    Runs Tryz.prog 158 [wD x a, wD y b] (.tup [wD (divW x a y b).1.1 (divW x a y b).1.2, wD (divW x a y b).2.1 (divW x a y b).2.2]) := by
  have hq := quotient_runs x y hy (by omega) (by omega)
  have l1 := len_pos (x / y)
  have l2 := len_pos (x % y)
  have s1 : (mg (x / y)).length ≤ 10000 := Nat.le_trans (mg_mono (Nat.div_le_self x y)) hlx
  have s2 : (mg (x % y)).length ≤ 10000 := Nat.le_trans (mg_mono (Nat.le_of_lt (Nat.mod_lt x hy))) hly
  have s3 : (mg 1).length ≤ 90000 := by rw [mg_one]; simp
  have p1 : ∀ c, Runs Tryz.prog 152 [wD (x / y) c, .agg [.sl 1 [uD 1] 1 none, bD true]] (wD (plusW (x / y) c 1 true).1 (plusW (x / y) c 1 true).2) := fun c => by
    have := plus_runs (x / y) 1 c true (by omega) s3
    unfold wD at this ⊢
    rw [mg_one] at this
    exact this
  have p2 : ∀ c, Runs Tryz.prog 152 [wD (x % y) c, wD y b] (wD (plusW (x % y) c y b).1 (plusW (x % y) c y b).2) := fun c => plus_runs (x % y) y c b (by omega) (by omega)
  have key : ∀ P Q : Bool, decide (0 < x / y) = P → decide (0 < x % y) = Q → Runs Tryz.prog 158 [wD x a, wD y b] (if (Q && (a != b)) = true then .tup [wD (plusW (x / y) ((a != b) && P) 1 true).1 (plusW (x / y) ((a != b) && P) 1 true).2, wD (plusW (x % y) (a && Q) y b).1 (plusW (x % y) (a && Q) y b).2] else .tup [wD (x / y) ((a != b) && P), wD (x % y) (a && Q)]) := by
    intro P Q hP hQ
    rw [hP] at l1
    rw [hQ] at l2
    cases Q with
    | false =>
      rw [if_neg (by simp)]
      cases a <;> cases b
      all_goals
        refine Runs.wp Am.hT Am.hm Tryz.func158 rfl (by decide) ⟨[(4, .ld2 0 [3, 6, 7, 8] [] (.alt 1 (.first 2 (.alt 3 (.load 4 [6, 7, 8] (.load 5 [6, 7, 8] (.alt 6 (.alt 7 (.alt 8 .done .nil) .nil) .nil))) (.alt 4 (.alt 3 (.load 5 [6, 7, 8] (.alt 6 (.alt 7 (.alt 8 .done .nil) .nil) .nil)) (.alt 5 (.alt 3 (.alt 6 (.alt 7 (.alt 8 .done .nil) .nil) .nil) .nil) .nil)) (.alt 5 (.alt 3 (.load 4 [6, 7, 8] (.alt 6 (.alt 7 (.alt 8 .done .nil) .nil) .nil)) (.alt 4 (.alt 3 (.alt 6 (.alt 7 (.alt 8 .done .nil) .nil) .nil) .nil) .nil)) .nil)))) (.alt 4 (.alt 1 (.first 2 (.alt 3 (.load 5 [6, 7, 8] (.alt 6 (.alt 7 (.alt 8 .done .nil) .nil) .nil)) (.alt 5 (.alt 3 (.alt 6 (.alt 7 (.alt 8 .done .nil) .nil) .nil) .nil) .nil))) (.alt 5 (.alt 1 (.first 2 (.alt 3 (.alt 6 (.alt 7 (.alt 8 .done .nil) .nil) .nil) .nil)) .nil) .nil)) (.alt 5 (.alt 1 (.first 2 (.alt 3 (.load 4 [6, 7, 8] (.alt 6 (.alt 7 (.alt 8 .done .nil) .nil) .nil)) (.alt 4 (.alt 3 (.alt 6 (.alt 7 (.alt 8 .done .nil) .nil) .nil) .nil) .nil))) (.alt 4 (.alt 1 (.first 2 (.alt 3 (.alt 6 (.alt 7 (.alt 8 .done .nil) .nil) .nil) .nil)) .nil) .nil)) .nil)))), (5, .load 0 [2, 3] (.alt 1 (.alt 2 (.alt 3 .done .nil) .nil) (.alt 2 (.load 1 [3] (.alt 3 .done .nil)) .nil)))], [0, 1, 2, 3, 4, 5, 6, 7, 8, 9, 48], 58⟩ ?_; ((conv => whnf); repeat (refine Gq ?_; (conv => whnf)))
        ((conv => whnf); (refine HrA hq ?_); ((conv => whnf); repeat (refine Gq ?_; (conv => whnf))))
        (repeat (first | refine litE l1 ?_ | refine litE l2 ?_); ((conv => whnf); repeat (refine Gq ?_; (conv => whnf))))
        (refine And.intro (by decide +kernel) ?_; apply Exists.intro; apply And.intro; focus ((repeat' ((conv => whnf); first | exact trivial | refine Wo ?_ | refine Lt (by decide) ?_ | refine Lf (by decide) ?_ | refine Cl (by decide) ?_ | refine Cr (by decide) ?_ | refine Both.mk ?_ ?_ | (first | exact Wk.frc (keep := [0, 1, 2, 3, 4, 5, 6, 7, 8, 9, 48]) (N := 58) (by (conv => whnf); first | done | exact rfl) | exact trivial) | refine ⟨_, rfl, ?_⟩ | refine Mi rfl ?_ | (refine And.intro ?_ ?_))); all_goals (first | decide | rfl | assumption | omega | (dsimp only; omega) | (unfold maxLen; omega) | ((try dsimp only [maxLen]); simp only [List.length_append, List.length_cons, List.length_nil, List.length_map, List.length_range, List.length_set, List.length_replicate]; omega) | ((try dsimp only [maxLen]); simp only [IntKind.wrap_i64, IntKind.wrap_u64, List.length_append, List.length_cons, List.length_nil, List.length_map, List.length_range, List.length_set, List.length_replicate]; omega) | ((try dsimp only [maxLen]); simp only [List.length_append, List.length_cons, List.length_nil, List.length_map, List.length_range, List.length_set, List.length_replicate] at *; omega))))
        ((conv => whnf); repeat (refine Gq ?_; (conv => whnf)))
        exact TeA
    | true =>
      cases a <;> cases b
      · rw [if_neg (by decide)]
        refine Runs.wp Am.hT Am.hm Tryz.func158 rfl (by decide) ⟨[(4, .ld2 0 [3, 6, 7, 8] [] (.alt 1 (.first 2 (.alt 3 (.load 4 [6, 7, 8] (.load 5 [6, 7, 8] (.alt 6 (.alt 7 (.alt 8 .done .nil) .nil) .nil))) (.alt 4 (.alt 3 (.load 5 [6, 7, 8] (.alt 6 (.alt 7 (.alt 8 .done .nil) .nil) .nil)) (.alt 5 (.alt 3 (.alt 6 (.alt 7 (.alt 8 .done .nil) .nil) .nil) .nil) .nil)) (.alt 5 (.alt 3 (.load 4 [6, 7, 8] (.alt 6 (.alt 7 (.alt 8 .done .nil) .nil) .nil)) (.alt 4 (.alt 3 (.alt 6 (.alt 7 (.alt 8 .done .nil) .nil) .nil) .nil) .nil)) .nil)))) (.alt 4 (.alt 1 (.first 2 (.alt 3 (.load 5 [6, 7, 8] (.alt 6 (.alt 7 (.alt 8 .done .nil) .nil) .nil)) (.alt 5 (.alt 3 (.alt 6 (.alt 7 (.alt 8 .done .nil) .nil) .nil) .nil) .nil))) (.alt 5 (.alt 1 (.first 2 (.alt 3 (.alt 6 (.alt 7 (.alt 8 .done .nil) .nil) .nil) .nil)) .nil) .nil)) (.alt 5 (.alt 1 (.first 2 (.alt 3 (.load 4 [6, 7, 8] (.alt 6 (.alt 7 (.alt 8 .done .nil) .nil) .nil)) (.alt 4 (.alt 3 (.alt 6 (.alt 7 (.alt 8 .done .nil) .nil) .nil) .nil) .nil))) (.alt 4 (.alt 1 (.first 2 (.alt 3 (.alt 6 (.alt 7 (.alt 8 .done .nil) .nil) .nil) .nil)) .nil) .nil)) .nil)))), (5, .load 0 [2, 3] (.alt 1 (.alt 2 (.alt 3 .done .nil) .nil) (.alt 2 (.load 1 [3] (.alt 3 .done .nil)) .nil)))], [0, 1, 2, 3, 4, 5, 6, 7, 8, 9, 48], 58⟩ ?_; ((conv => whnf); repeat (refine Gq ?_; (conv => whnf)))
        ((conv => whnf); (refine HrA hq ?_); ((conv => whnf); repeat (refine Gq ?_; (conv => whnf))))
        (repeat (first | refine litE l1 ?_ | refine litE l2 ?_); ((conv => whnf); repeat (refine Gq ?_; (conv => whnf))))
        (refine And.intro (by decide +kernel) ?_; apply Exists.intro; apply And.intro; focus ((repeat' ((conv => whnf); first | exact trivial | refine Wo ?_ | refine Lt (by decide) ?_ | refine Lf (by decide) ?_ | refine Cl (by decide) ?_ | refine Cr (by decide) ?_ | refine Both.mk ?_ ?_ | (first | exact Wk.frc (keep := [0, 1, 2, 3, 4, 5, 6, 7, 8, 9, 48]) (N := 58) (by (conv => whnf); first | done | exact rfl) | exact trivial) | refine ⟨_, rfl, ?_⟩ | refine Mi rfl ?_ | (refine And.intro ?_ ?_))); all_goals (first | decide | rfl | assumption | omega | (dsimp only; omega) | (unfold maxLen; omega) | ((try dsimp only [maxLen]); simp only [List.length_append, List.length_cons, List.length_nil, List.length_map, List.length_range, List.length_set, List.length_replicate]; omega) | ((try dsimp only [maxLen]); simp only [IntKind.wrap_i64, IntKind.wrap_u64, List.length_append, List.length_cons, List.length_nil, List.length_map, List.length_range, List.length_set, List.length_replicate]; omega) | ((try dsimp only [maxLen]); simp only [List.length_append, List.length_cons, List.length_nil, List.length_map, List.length_range, List.length_set, List.length_replicate] at *; omega))))
        ((conv => whnf); repeat (refine Gq ?_; (conv => whnf)))
        exact TeA
      · rw [if_pos (by decide)]
        have q1 := p1 P
        have q2 := p2 false
        cases P
        all_goals
          refine Runs.wp Am.hT Am.hm Tryz.func158 rfl (by decide) ⟨[(4, .ld2 0 [3, 6, 7, 8] [] (.alt 1 (.first 2 (.alt 3 (.load 4 [6, 7, 8] (.load 5 [6, 7, 8] (.alt 6 (.alt 7 (.alt 8 .done .nil) .nil) .nil))) (.alt 4 (.alt 3 (.load 5 [6, 7, 8] (.alt 6 (.alt 7 (.alt 8 .done .nil) .nil) .nil)) (.alt 5 (.alt 3 (.alt 6 (.alt 7 (.alt 8 .done .nil) .nil) .nil) .nil) .nil)) (.alt 5 (.alt 3 (.load 4 [6, 7, 8] (.alt 6 (.alt 7 (.alt 8 .done .nil) .nil) .nil)) (.alt 4 (.alt 3 (.alt 6 (.alt 7 (.alt 8 .done .nil) .nil) .nil) .nil) .nil)) .nil)))) (.alt 4 (.alt 1 (.first 2 (.alt 3 (.load 5 [6, 7, 8] (.alt 6 (.alt 7 (.alt 8 .done .nil) .nil) .nil)) (.alt 5 (.alt 3 (.alt 6 (.alt 7 (.alt 8 .done .nil) .nil) .nil) .nil) .nil))) (.alt 5 (.alt 1 (.first 2 (.alt 3 (.alt 6 (.alt 7 (.alt 8 .done .nil) .nil) .nil) .nil)) .nil) .nil)) (.alt 5 (.alt 1 (.first 2 (.alt 3 (.load 4 [6, 7, 8] (.alt 6 (.alt 7 (.alt 8 .done .nil) .nil) .nil)) (.alt 4 (.alt 3 (.alt 6 (.alt 7 (.alt 8 .done .nil) .nil) .nil) .nil) .nil))) (.alt 4 (.alt 1 (.first 2 (.alt 3 (.alt 6 (.alt 7 (.alt 8 .done .nil) .nil) .nil) .nil)) .nil) .nil)) .nil)))), (5, .load 0 [2, 3] (.alt 1 (.alt 2 (.alt 3 .done .nil) .nil) (.alt 2 (.load 1 [3] (.alt 3 .done .nil)) .nil)))], [0, 1, 2, 3, 4, 5, 6, 7, 8, 9, 48], 58⟩ ?_; ((conv => whnf); repeat (refine Gq ?_; (conv => whnf)))
          ((conv => whnf); (refine HrA hq ?_); ((conv => whnf); repeat (refine Gq ?_; (conv => whnf))))
          (repeat (first | refine litE l1 ?_ | refine litE l2 ?_); ((conv => whnf); repeat (refine Gq ?_; (conv => whnf))))
          (refine And.intro (by decide +kernel) ?_; apply Exists.intro; apply And.intro; focus ((repeat' ((conv => whnf); first | exact trivial | refine Wo ?_ | refine Lt (by decide) ?_ | refine Lf (by decide) ?_ | refine Cl (by decide) ?_ | refine Cr (by decide) ?_ | refine Both.mk ?_ ?_ | (first | exact Wk.frc (keep := [0, 1, 2, 3, 4, 5, 6, 7, 8, 9, 48]) (N := 58) (by (conv => whnf); first | done | exact rfl) | (refine HrA q1 ?_) | (refine HrA q2 ?_)) | refine ⟨_, rfl, ?_⟩ | refine Mi rfl ?_ | (refine And.intro ?_ ?_))); all_goals (first | decide | rfl | assumption | omega | (dsimp only; omega) | (unfold maxLen; omega) | ((try dsimp only [maxLen]); simp only [List.length_append, List.length_cons, List.length_nil, List.length_map, List.length_range, List.length_set, List.length_replicate]; omega) | ((try dsimp only [maxLen]); simp only [IntKind.wrap_i64, IntKind.wrap_u64, List.length_append, List.length_cons, List.length_nil, List.length_map, List.length_range, List.length_set, List.length_replicate]; omega) | ((try dsimp only [maxLen]); simp only [List.length_append, List.length_cons, List.length_nil, List.length_map, List.length_range, List.length_set, List.length_replicate] at *; omega))))
          ((conv => whnf); repeat (refine Gq ?_; (conv => whnf)))
          (refine And.intro (by decide +kernel) ?_; apply Exists.intro; apply And.intro; focus ((repeat' ((conv => whnf); first | exact trivial | refine Wo ?_ | refine Lt (by decide) ?_ | refine Lf (by decide) ?_ | refine Cl (by decide) ?_ | refine Cr (by decide) ?_ | refine Both.mk ?_ ?_ | (first | exact Wk.frc (keep := [0, 1, 2, 3, 4, 5, 6, 7, 8, 9, 48]) (N := 58) (by (conv => whnf); first | done | exact rfl) | exact trivial) | refine ⟨_, rfl, ?_⟩ | refine Mi rfl ?_ | (refine And.intro ?_ ?_))); all_goals (first | decide | rfl | assumption | omega | (dsimp only; omega) | (unfold maxLen; omega) | ((try dsimp only [maxLen]); simp only [List.length_append, List.length_cons, List.length_nil, List.length_map, List.length_range, List.length_set, List.length_replicate]; omega) | ((try dsimp only [maxLen]); simp only [IntKind.wrap_i64, IntKind.wrap_u64, List.length_append, List.length_cons, List.length_nil, List.length_map, List.length_range, List.length_set, List.length_replicate]; omega) | ((try dsimp only [maxLen]); simp only [List.length_append, List.length_cons, List.length_nil, List.length_map, List.length_range, List.length_set, List.length_replicate] at *; omega))))
          ((conv => whnf); repeat (refine Gq ?_; (conv => whnf)))
          exact TeA
      · rw [if_pos (by decide)]
        have q1 := p1 P
        have q2 := p2 true
        cases P
        all_goals
          refine Runs.wp Am.hT Am.hm Tryz.func158 rfl (by decide) ⟨[(4, .ld2 0 [3, 6, 7, 8] [] (.alt 1 (.first 2 (.alt 3 (.load 4 [6, 7, 8] (.load 5 [6, 7, 8] (.alt 6 (.alt 7 (.alt 8 .done .nil) .nil) .nil))) (.alt 4 (.alt 3 (.load 5 [6, 7, 8] (.alt 6 (.alt 7 (.alt 8 .done .nil) .nil) .nil)) (.alt 5 (.alt 3 (.alt 6 (.alt 7 (.alt 8 .done .nil) .nil) .nil) .nil) .nil)) (.alt 5 (.alt 3 (.load 4 [6, 7, 8] (.alt 6 (.alt 7 (.alt 8 .done .nil) .nil) .nil)) (.alt 4 (.alt 3 (.alt 6 (.alt 7 (.alt 8 .done .nil) .nil) .nil) .nil) .nil)) .nil)))) (.alt 4 (.alt 1 (.first 2 (.alt 3 (.load 5 [6, 7, 8] (.alt 6 (.alt 7 (.alt 8 .done .nil) .nil) .nil)) (.alt 5 (.alt 3 (.alt 6 (.alt 7 (.alt 8 .done .nil) .nil) .nil) .nil) .nil))) (.alt 5 (.alt 1 (.first 2 (.alt 3 (.alt 6 (.alt 7 (.alt 8 .done .nil) .nil) .nil) .nil)) .nil) .nil)) (.alt 5 (.alt 1 (.first 2 (.alt 3 (.load 4 [6, 7, 8] (.alt 6 (.alt 7 (.alt 8 .done .nil) .nil) .nil)) (.alt 4 (.alt 3 (.alt 6 (.alt 7 (.alt 8 .done .nil) .nil) .nil) .nil) .nil))) (.alt 4 (.alt 1 (.first 2 (.alt 3 (.alt 6 (.alt 7 (.alt 8 .done .nil) .nil) .nil) .nil)) .nil) .nil)) .nil)))), (5, .load 0 [2, 3] (.alt 1 (.alt 2 (.alt 3 .done .nil) .nil) (.alt 2 (.load 1 [3] (.alt 3 .done .nil)) .nil)))], [0, 1, 2, 3, 4, 5, 6, 7, 8, 9, 48], 58⟩ ?_; ((conv => whnf); repeat (refine Gq ?_; (conv => whnf)))
          ((conv => whnf); (refine HrA hq ?_); ((conv => whnf); repeat (refine Gq ?_; (conv => whnf))))
          (repeat (first | refine litE l1 ?_ | refine litE l2 ?_); ((conv => whnf); repeat (refine Gq ?_; (conv => whnf))))
          (refine And.intro (by decide +kernel) ?_; apply Exists.intro; apply And.intro; focus ((repeat' ((conv => whnf); first | exact trivial | refine Wo ?_ | refine Lt (by decide) ?_ | refine Lf (by decide) ?_ | refine Cl (by decide) ?_ | refine Cr (by decide) ?_ | refine Both.mk ?_ ?_ | (first | exact Wk.frc (keep := [0, 1, 2, 3, 4, 5, 6, 7, 8, 9, 48]) (N := 58) (by (conv => whnf); first | done | exact rfl) | (refine HrA q1 ?_) | (refine HrA q2 ?_)) | refine ⟨_, rfl, ?_⟩ | refine Mi rfl ?_ | (refine And.intro ?_ ?_))); all_goals (first | decide | rfl | assumption | omega | (dsimp only; omega) | (unfold maxLen; omega) | ((try dsimp only [maxLen]); simp only [List.length_append, List.length_cons, List.length_nil, List.length_map, List.length_range, List.length_set, List.length_replicate]; omega) | ((try dsimp only [maxLen]); simp only [IntKind.wrap_i64, IntKind.wrap_u64, List.length_append, List.length_cons, List.length_nil, List.length_map, List.length_range, List.length_set, List.length_replicate]; omega) | ((try dsimp only [maxLen]); simp only [List.length_append, List.length_cons, List.length_nil, List.length_map, List.length_range, List.length_set, List.length_replicate] at *; omega))))
          ((conv => whnf); repeat (refine Gq ?_; (conv => whnf)))
          (refine And.intro (by decide +kernel) ?_; apply Exists.intro; apply And.intro; focus ((repeat' ((conv => whnf); first | exact trivial | refine Wo ?_ | refine Lt (by decide) ?_ | refine Lf (by decide) ?_ | refine Cl (by decide) ?_ | refine Cr (by decide) ?_ | refine Both.mk ?_ ?_ | (first | exact Wk.frc (keep := [0, 1, 2, 3, 4, 5, 6, 7, 8, 9, 48]) (N := 58) (by (conv => whnf); first | done | exact rfl) | exact trivial) | refine ⟨_, rfl, ?_⟩ | refine Mi rfl ?_ | (refine And.intro ?_ ?_))); all_goals (first | decide | rfl | assumption | omega | (dsimp only; omega) | (unfold maxLen; omega) | ((try dsimp only [maxLen]); simp only [List.length_append, List.length_cons, List.length_nil, List.length_map, List.length_range, List.length_set, List.length_replicate]; omega) | ((try dsimp only [maxLen]); simp only [IntKind.wrap_i64, IntKind.wrap_u64, List.length_append, List.length_cons, List.length_nil, List.length_map, List.length_range, List.length_set, List.length_replicate]; omega) | ((try dsimp only [maxLen]); simp only [List.length_append, List.length_cons, List.length_nil, List.length_map, List.length_range, List.length_set, List.length_replicate] at *; omega))))
          ((conv => whnf); repeat (refine Gq ?_; (conv => whnf)))
          exact TeA
      · rw [if_neg (by decide)]
        refine Runs.wp Am.hT Am.hm Tryz.func158 rfl (by decide) ⟨[(4, .ld2 0 [3, 6, 7, 8] [] (.alt 1 (.first 2 (.alt 3 (.load 4 [6, 7, 8] (.load 5 [6, 7, 8] (.alt 6 (.alt 7 (.alt 8 .done .nil) .nil) .nil))) (.alt 4 (.alt 3 (.load 5 [6, 7, 8] (.alt 6 (.alt 7 (.alt 8 .done .nil) .nil) .nil)) (.alt 5 (.alt 3 (.alt 6 (.alt 7 (.alt 8 .done .nil) .nil) .nil) .nil) .nil)) (.alt 5 (.alt 3 (.load 4 [6, 7, 8] (.alt 6 (.alt 7 (.alt 8 .done .nil) .nil) .nil)) (.alt 4 (.alt 3 (.alt 6 (.alt 7 (.alt 8 .done .nil) .nil) .nil) .nil) .nil)) .nil)))) (.alt 4 (.alt 1 (.first 2 (.alt 3 (.load 5 [6, 7, 8] (.alt 6 (.alt 7 (.alt 8 .done .nil) .nil) .nil)) (.alt 5 (.alt 3 (.alt 6 (.alt 7 (.alt 8 .done .nil) .nil) .nil) .nil) .nil))) (.alt 5 (.alt 1 (.first 2 (.alt 3 (.alt 6 (.alt 7 (.alt 8 .done .nil) .nil) .nil) .nil)) .nil) .nil)) (.alt 5 (.alt 1 (.first 2 (.alt 3 (.load 4 [6, 7, 8] (.alt 6 (.alt 7 (.alt 8 .done .nil) .nil) .nil)) (.alt 4 (.alt 3 (.alt 6 (.alt 7 (.alt 8 .done .nil) .nil) .nil) .nil) .nil))) (.alt 4 (.alt 1 (.first 2 (.alt 3 (.alt 6 (.alt 7 (.alt 8 .done .nil) .nil) .nil) .nil)) .nil) .nil)) .nil)))), (5, .load 0 [2, 3] (.alt 1 (.alt 2 (.alt 3 .done .nil) .nil) (.alt 2 (.load 1 [3] (.alt 3 .done .nil)) .nil)))], [0, 1, 2, 3, 4, 5, 6, 7, 8, 9, 48], 58⟩ ?_; ((conv => whnf); repeat (refine Gq ?_; (conv => whnf)))
        ((conv => whnf); (refine HrA hq ?_); ((conv => whnf); repeat (refine Gq ?_; (conv => whnf))))
        (repeat (first | refine litE l1 ?_ | refine litE l2 ?_); ((conv => whnf); repeat (refine Gq ?_; (conv => whnf))))
        (refine And.intro (by decide +kernel) ?_; apply Exists.intro; apply And.intro; focus ((repeat' ((conv => whnf); first | exact trivial | refine Wo ?_ | refine Lt (by decide) ?_ | refine Lf (by decide) ?_ | refine Cl (by decide) ?_ | refine Cr (by decide) ?_ | refine Both.mk ?_ ?_ | (first | exact Wk.frc (keep := [0, 1, 2, 3, 4, 5, 6, 7, 8, 9, 48]) (N := 58) (by (conv => whnf); first | done | exact rfl) | exact trivial) | refine ⟨_, rfl, ?_⟩ | refine Mi rfl ?_ | (refine And.intro ?_ ?_))); all_goals (first | decide | rfl | assumption | omega | (dsimp only; omega) | (unfold maxLen; omega) | ((try dsimp only [maxLen]); simp only [List.length_append, List.length_cons, List.length_nil, List.length_map, List.length_range, List.length_set, List.length_replicate]; omega) | ((try dsimp only [maxLen]); simp only [IntKind.wrap_i64, IntKind.wrap_u64, List.length_append, List.length_cons, List.length_nil, List.length_map, List.length_range, List.length_set, List.length_replicate]; omega) | ((try dsimp only [maxLen]); simp only [List.length_append, List.length_cons, List.length_nil, List.length_map, List.length_range, List.length_set, List.length_replicate] at *; omega))))
        ((conv => whnf); repeat (refine Gq ?_; (conv => whnf)))
        exact TeA
  have := key _ _ rfl rfl
  unfold divW
  by_cases h : 0 < x % y ∧ a ≠ b
  · rw [if_pos (by rw [decide_eq_true h.1]; simpa using h.2)] at this
    rw [if_pos h]
    exact this
  · rw [if_neg (fun e => h (by simpa using e))] at this
    rw [if_neg h]
    exact this
end Go.Proofs.YtkhgpnbhnipndaaGreatDoor.Am
end
section
/- What num's calls tell of one number, and of two. -/
namespace Go.Proofs.YtkhgpnbhnipndaaGreatDoor.Am
open Go Go.Lib Go.RowKit Go.Proofs.YtkhgpnbhnipndaaGreatDoor.Nm Go.Proofs.YtkhgpnbhnipndaaGreatDoorW.PrintWords Go.Proofs.YtkhgpnbhnipndaaGreatDoor
set_option linter.unusedVariables false
set_option linter.unusedSimpArgs false
set_option maxRecDepth 100000
set_option maxHeartbeats 8000000
abbrev eD (r : ByteArray × Int) : D := .tup [sD r.1, iD r.2]
theorem mayZ {z : Int} (h : Nm.Sm z) : Runs Tryz.prog 74 [sD (numS z)] (bD true) := by
  have := may_runs (itoa z)
  rwa [may_num z h] at this
theorem sm_mg {z : Int} (h : Nm.Sm z) : (mg z.natAbs).length ≤ 101 := mg_len h
theorem of_yes {F n : Nat} {b : Bool} {x y : Int} (hx : Nm.Sm x) (hy : Nm.Sm y) (hF : Runs Tryz.prog F [wD x.natAbs (decide (x < 0)), wD y.natAbs (decide (y < 0))] (wD n b)) (hn : (mg n).length ≤ 1000000) :
    Runs Tryz.prog 151 [sD (numS x), sD (numS y), .fn F []] (eD (told (sv n b))) := by
  have h1 := mayZ hx
  have h2 := mayZ hy
  have h3 := read_runs x (by have := sm_nl hx; omega)
  have h4 := read_runs y (by have := sm_nl hy; omega)
  have h5 := told_runs n b hn
  refine Runs.wp Am.hT Am.hm Tryz.func151 rfl (by decide) ⟨[], [0, 1, 2, 6, 7, 15], 25⟩ ?_; ((conv => whnf); repeat (refine Gq ?_; (conv => whnf)))
  ((conv => whnf); (refine HfA h1 ?_); ((conv => whnf); repeat (refine Gq ?_; (conv => whnf))))
  ((conv => whnf); (refine HfA h2 ?_); ((conv => whnf); repeat (refine Gq ?_; (conv => whnf))))
  ((conv => whnf); (refine HrA h3 ?_); ((conv => whnf); repeat (refine Gq ?_; (conv => whnf))))
  ((conv => whnf); (refine HrA h4 ?_); ((conv => whnf); repeat (refine Gq ?_; (conv => whnf))))
  ((conv => whnf); (refine HrA hF ?_); ((conv => whnf); repeat (refine Gq ?_; (conv => whnf))))
  ((conv => whnf); (refine HrA h5 ?_); ((conv => whnf); repeat (refine Gq ?_; (conv => whnf))))
  exact TeA
section
variable {x y : Int} (hx : Nm.Sm x) (hy : Nm.Sm y)
theorem sv_z (z : Int) : sv z.natAbs (decide (z < 0)) = z := sv_abs z
theorem mg_le {n k : Nat} (h : n < 1000000000 ^ k) : (mg n).length ≤ k := by
  rcases Nat.eq_zero_or_pos n with rfl | hn
  · rw [mg_zero]; exact Nat.zero_le _
  · rcases Nat.lt_or_ge k (mg n).length with h1 | h1
    · exfalso
      have h4 := mg_low (n := n) (by omega)
      have h5 : 1000000000 ^ k ≤ 1000000000 ^ ((mg n).length - 1) := Nat.pow_le_pow_right (by decide) (by omega)
      omega
    · exact h1
theorem mg_addK {x y K : Nat} (hx : (mg x).length ≤ K) (hy : (mg y).length ≤ K) : (mg (x + y)).length ≤ K + 1 := by
  have h1 : x < 1000000000 ^ K := by have := mv_lt _ (pt_mg x); rw [mv_mg] at this; exact Nat.lt_of_lt_of_le this (Nat.pow_le_pow_right (by decide) hx)
  have h2 : y < 1000000000 ^ K := by have := mv_lt _ (pt_mg y); rw [mv_mg] at this; exact Nat.lt_of_lt_of_le this (Nat.pow_le_pow_right (by decide) hy)
  refine mg_le ?_
  rw [Nat.pow_succ]
  generalize 1000000000 ^ K = B at *
  omega
theorem plusW_mg {x y : Nat} (a b : Bool) (hx : (mg x).length ≤ 1000) (hy : (mg y).length ≤ 1000) : (mg (plusW x a y b).1).length ≤ 1000000 := by
  have hs : (mg (x + y)).length ≤ 1000000 := Nat.le_trans (mg_addK hx hy) (by decide)
  unfold plusW
  split
  · exact hs
  · split
    · exact Nat.le_trans (mg_mono (by omega)) hs
    · exact Nat.le_trans (mg_mono (by omega)) hs
include hx hy
theorem add_yes : Runs Tryz.prog 97 [sD (numS x), sD (numS y)] (eD (told (x + y))) := by
  have h1 := of_yes (F := 152) hx hy (plus_runs _ _ _ _ (by have := sm_mg hx; omega) (by have := sm_mg hy; omega)) (plusW_mg _ _ (by have := sm_mg hx; omega) (by have := sm_mg hy; omega))
  rw [plusW_sv, sv_z, sv_z] at h1
  refine Runs.wp Am.hT Am.hm Tryz.func97 rfl (by decide) ⟨[], [0, 1, 4, 5], 11⟩ ?_; ((conv => whnf); repeat (refine Gq ?_; (conv => whnf)))
  ((conv => whnf); (refine HfA h1 ?_); ((conv => whnf); repeat (refine Gq ?_; (conv => whnf))))
  exact TeA
theorem sub_yes : Runs Tryz.prog 98 [sD (numS x), sD (numS y)] (eD (told (x - y))) := by
  have ht := turned_runs y.natAbs (decide (y < 0)) (by have := sm_mg hy; omega)
  have hp := plus_runs x.natAbs y.natAbs (decide (x < 0)) (!decide (y < 0) && decide (y.natAbs ≠ 0)) (by have := sm_mg hx; omega) (by have := sm_mg hy; omega)
  have hs : sv y.natAbs (!decide (y < 0) && decide (y.natAbs ≠ 0)) = -y := by
    unfold sv
    by_cases h : y < 0
    · rw [decide_eq_true h]; simp; omega
    · by_cases h0 : y = 0
      · subst h0; rfl
      · rw [decide_eq_false h, decide_eq_true (show y.natAbs ≠ 0 by omega)]; simp; omega
  have hF : Runs Tryz.prog 153 [wD x.natAbs (decide (x < 0)), wD y.natAbs (decide (y < 0))] (wD (plusW x.natAbs (decide (x < 0)) y.natAbs (!decide (y < 0) && decide (y.natAbs ≠ 0))).1 (plusW x.natAbs (decide (x < 0)) y.natAbs (!decide (y < 0) && decide (y.natAbs ≠ 0))).2) := by
    refine Runs.wp Am.hT Am.hm Tryz.func153 rfl (by decide) ⟨[(1, .load 1 [2, 3, 4] (.alt 0 (.alt 2 (.alt 3 (.alt 4 .done .nil) .nil) .nil) (.alt 2 (.load 0 [3, 4] (.alt 3 (.alt 4 .done .nil) .nil)) .nil)))], [0, 1, 2, 3, 4], 9⟩ ?_; ((conv => whnf); repeat (refine Gq ?_; (conv => whnf)))
    (refine And.intro (by decide +kernel) ?_; apply Exists.intro; apply And.intro; focus ((repeat' ((conv => whnf); first | exact trivial | refine Wo ?_ | refine Lt (by decide) ?_ | refine Lf (by decide) ?_ | refine Cl (by decide) ?_ | refine Cr (by decide) ?_ | refine Both.mk ?_ ?_ | (first | exact Wk.frc (keep := [0, 1, 2, 3, 4]) (N := 9) (by (conv => whnf); first | done | exact rfl) | (refine HrA ht ?_) | (refine HrA hp ?_)) | refine ⟨_, rfl, ?_⟩ | refine Mi rfl ?_ | (refine And.intro ?_ ?_))); all_goals (first | decide | rfl | assumption | omega | (dsimp only; omega) | (unfold maxLen; omega) | ((try dsimp only [maxLen]); simp only [List.length_append, List.length_cons, List.length_nil, List.length_map, List.length_range, List.length_set, List.length_replicate]; omega) | ((try dsimp only [maxLen]); simp only [IntKind.wrap_i64, IntKind.wrap_u64, List.length_append, List.length_cons, List.length_nil, List.length_map, List.length_range, List.length_set, List.length_replicate]; omega) | ((try dsimp only [maxLen]); simp only [List.length_append, List.length_cons, List.length_nil, List.length_map, List.length_range, List.length_set, List.length_replicate] at *; omega))))
    ((conv => whnf); repeat (refine Gq ?_; (conv => whnf)))
    exact TeA
  have h1 := of_yes hx hy hF (plusW_mg _ _ (by have := sm_mg hx; omega) (by have := sm_mg hy; omega))
  rw [plusW_sv, sv_z, hs, show x + -y = x - y by omega] at h1
  refine Runs.wp Am.hT Am.hm Tryz.func98 rfl (by decide) ⟨[], [0, 1, 4, 5], 11⟩ ?_; ((conv => whnf); repeat (refine Gq ?_; (conv => whnf)))
  ((conv => whnf); (refine HfA h1 ?_); ((conv => whnf); repeat (refine Gq ?_; (conv => whnf))))
  exact TeA
end
end Go.Proofs.YtkhgpnbhnipndaaGreatDoor.Am
end
section
/- The document's numbers: which texts are numbers. -/
namespace Go.Proofs.YtkhgpnbhnipndaaGreatDoor.Am
open Go Go.Lib Go.RowKit Go.Proofs.YtkhgpnbhnipndaaGreatDoor.Nm Go.Proofs.YtkhgpnbhnipndaaGreatDoorW.PrintWords Go.Proofs.YtkhgpnbhnipndaaGreatDoor
set_option linter.unusedVariables false
set_option linter.unusedSimpArgs false
set_option maxRecDepth 100000
set_option maxHeartbeats 8000000
theorem eq_0 (l : List UInt8) : ((BA l).toList == ByteArray.toList ⟨#[48]⟩) = (l == [48]) := by
  rw [ba_list, show ByteArray.toList ⟨#[48]⟩ = ([48] : List UInt8) from ba_list [48]]
theorem mayL_cons {l : List UInt8} (h : (l == [48]) = false) : mayL l = (decide (1 ≤ (body l).length) && decide ((body l).length ≤ 100) && (((body l).headD 0).toNat != 48) && (body l).all digB) := by
  unfold mayL
  rw [h, Bool.false_or]
theorem rmay_pos (c : UInt8) (r : List UInt8) (h0 : ((c :: r) == [48]) = false) (h45 : (c == 45) = false) (hl : (c :: r).length ≤ 1000000) : Runs Tryz.prog 87 [sD (BA (c :: r))] (bD (mayL (c :: r))) := by
  have hb : body (c :: r) = (c :: r).drop 0 := by rw [body_cons, if_neg (fun e => by rw [show c = 45 from UInt8.toNat_inj.mp e] at h45; cases h45)]; rfl
  rw [mayL_cons h0, hb]
  have t0 := (eq_0 (c :: r)).trans h0
  have t1 : (!((BA (c :: r)).toList == ByteArray.toList ⟨#[]⟩)) = true := by rw [emp_l]; rfl
  have t2 : (((c.toNat : Nat) : Int) == 45) = false := (u8b c 45).trans h45
  have g0 : (BA (c :: r))[(0 : Int).toNat]? = some c := ba_ix (l := c :: r) (i := 0) (j := (0 : Int)) (by simp) rfl
  have hlp : 1 ≤ (c :: r).length := by simp
  clear hb h0
  generalize c :: r = l at *
  have hz : ((BA l).size : Int) = (l.length : Int) := by rw [ba_size]
  have hw : IntKind.i64.wrap (((BA l).size : Int) - 0) = (l.length : Int) - 0 := by rw [hz, i64w (by omega) (by omega)]
  have hdl : (l.drop 0).length = l.length - 0 := List.length_drop
  by_cases c1 : l.length - 0 < 1
  · have t3 : decide (IntKind.i64.wrap (((BA l).size : Int) - 0) < 1) = true := by rw [decide_eq_true_iff, hw]; omega
    rw [decide_eq_false (show ¬ 1 ≤ (l.drop 0).length by omega), Bool.false_and, Bool.false_and, Bool.false_and]
    refine Runs.wp Am.hT Am.hm Tryz.func87 rfl (by decide) ⟨[], [0, 2, 3, 4, 6, 13, 31, 36, 48], 49⟩ ?_; ((conv => whnf); repeat (refine Gq ?_; (conv => whnf)))
    refine litE t0 ?_
    ((conv => whnf); repeat (refine Gq ?_; (conv => whnf)))
    refine litE t1 ?_
    ((conv => whnf); repeat (refine Gq ?_; (conv => whnf)))
    refine ⟨by decide, by rw [hz]; omega, _, g0, ?_⟩
    ((conv => whnf); repeat (refine Gq ?_; (conv => whnf)))
    refine litE t2 ?_
    ((conv => whnf); repeat (refine Gq ?_; (conv => whnf)))
    refine litE t3 ?_
    ((conv => whnf); repeat (refine Gq ?_; (conv => whnf)))
    exact TeA
  · have t3 : decide (IntKind.i64.wrap (((BA l).size : Int) - 0) < 1) = false := by rw [decide_eq_false_iff_not, hw]; omega
    rw [decide_eq_true (show 1 ≤ (l.drop 0).length by omega), Bool.true_and]
    by_cases c2 : l.length - 0 ≤ 100
    · have t4 : decide (IntKind.i64.wrap (((BA l).size : Int) - 0) > 100) = false := by rw [decide_eq_false_iff_not, hw]; omega
      rw [decide_eq_true (show (l.drop 0).length ≤ 100 by omega), Bool.true_and]
      have ga := ba_ix (l := l) (i := 0) (j := (0 : Int)) (by omega) rfl
      have hh : (l.drop 0).headD 0 = l[0]'(by omega) := by rw [List.drop_eq_getElem_cons (show 0 < l.length by omega)]; rfl
      rw [hh]
      by_cases c3 : (l[0]'(by omega)).toNat = 48
      · have t5 : ((((l[0]'(by omega)).toNat : Nat) : Int) == 48) = true := by rw [c3]; rfl
        rw [c3, show ((48 : Nat) != 48) = false from rfl, Bool.false_and]
        refine Runs.wp Am.hT Am.hm Tryz.func87 rfl (by decide) ⟨[], [0, 2, 3, 4, 6, 13, 31, 36, 48], 49⟩ ?_; ((conv => whnf); repeat (refine Gq ?_; (conv => whnf)))
        refine litE t0 ?_
        ((conv => whnf); repeat (refine Gq ?_; (conv => whnf)))
        refine litE t1 ?_
        ((conv => whnf); repeat (refine Gq ?_; (conv => whnf)))
        refine ⟨by decide, by rw [hz]; omega, _, g0, ?_⟩
        ((conv => whnf); repeat (refine Gq ?_; (conv => whnf)))
        refine litE t2 ?_
        ((conv => whnf); repeat (refine Gq ?_; (conv => whnf)))
        refine litE t3 ?_
        ((conv => whnf); repeat (refine Gq ?_; (conv => whnf)))
        refine litE t4 ?_
        ((conv => whnf); repeat (refine Gq ?_; (conv => whnf)))
        refine ⟨by decide, by rw [hz]; omega, _, ga, ?_⟩
        ((conv => whnf); repeat (refine Gq ?_; (conv => whnf)))
        refine litE t5 ?_
        ((conv => whnf); repeat (refine Gq ?_; (conv => whnf)))
        exact TeA
      · have t5 : ((((l[0]'(by omega)).toNat : Nat) : Int) == 48) = false := beq_eq_false_iff_ne.mpr (by omega)
        rw [show ((l[0]'(by omega)).toNat != 48) = true by simpa using c3, Bool.true_and]
        refine Runs.wp Am.hT Am.hm Tryz.func87 rfl (by decide) ⟨[], [0, 2, 3, 4, 6, 13, 31, 36, 48], 49⟩ ?_; ((conv => whnf); repeat (refine Gq ?_; (conv => whnf)))
        refine litE t0 ?_
        ((conv => whnf); repeat (refine Gq ?_; (conv => whnf)))
        refine litE t1 ?_
        ((conv => whnf); repeat (refine Gq ?_; (conv => whnf)))
        refine ⟨by decide, by rw [hz]; omega, _, g0, ?_⟩
        ((conv => whnf); repeat (refine Gq ?_; (conv => whnf)))
        refine litE t2 ?_
        ((conv => whnf); repeat (refine Gq ?_; (conv => whnf)))
        refine litE t3 ?_
        ((conv => whnf); repeat (refine Gq ?_; (conv => whnf)))
        refine litE t4 ?_
        ((conv => whnf); repeat (refine Gq ?_; (conv => whnf)))
        refine ⟨by decide, by rw [hz]; omega, _, ga, ?_⟩
        ((conv => whnf); repeat (refine Gq ?_; (conv => whnf)))
        refine litE t5 ?_
        ((conv => whnf); repeat (refine Gq ?_; (conv => whnf)))
        refine loop_ind (fun k (i : Nat) => i + k = l.length + 1 ∧ i ≤ l.length ∧ (l.drop 0).all digB = (l.drop i).all digB) (fun i => { t := pin [(0, .d (sD (BA l))), (4, .d (iD i))], N := 49, h := hpin [], n := 0, lo := 0 }) (fun i h => by omega) ?_ (l.length + 1 - 0) 0 ⟨by omega, by omega, rfl⟩ _ ?_
        · rintro k i R ih ⟨hk, hi, he⟩
          rw [he]
          by_cases hlt : i < l.length
          · have t6 : decide ((i : Int) < ((BA l).size : Int)) = true := by rw [decide_eq_true_iff, hz]; omega
            have gi := ba_ix (l := l) (i := i) (j := (i : Int)) hlt (by simp)
            rw [List.drop_eq_getElem_cons hlt, List.all_cons] at he ⊢
            unfold digB at he ⊢
            by_cases d1 : 48 ≤ l[i].toNat
            · have t7 : decide (((l[i].toNat : Nat) : Int) < 48) = false := by rw [decide_eq_false_iff_not]; omega
              rw [decide_eq_true d1, Bool.true_and] at he ⊢
              by_cases d2 : l[i].toNat ≤ 57
              · have t8 : decide (((l[i].toNat : Nat) : Int) > 57) = false := by rw [decide_eq_false_iff_not]; omega
                rw [decide_eq_true d2, Bool.true_and] at he ⊢
                ((conv => whnf); repeat (refine Gq ?_; (conv => whnf)))
                refine litE t6 ?_
                ((conv => whnf); repeat (refine Gq ?_; (conv => whnf)))
                refine ⟨by omega, by rw [hz]; omega, _, gi, ?_⟩
                ((conv => whnf); repeat (refine Gq ?_; (conv => whnf)))
                refine litE t7 ?_
                ((conv => whnf); repeat (refine Gq ?_; (conv => whnf)))
                refine ⟨by omega, by rw [hz]; omega, _, gi, ?_⟩
                ((conv => whnf); repeat (refine Gq ?_; (conv => whnf)))
                refine litE t8 ?_
                ((conv => whnf); repeat (refine Gq ?_; (conv => whnf)))
                refine ih (i + 1) _ ⟨by omega, by omega, he⟩ ?_
                (refine Wk.to _ _ ?_ ?_ <;> (repeat' first | exact trivial | rfl | (refine And.intro ?_ ?_)))
                exact inE (i64n (n := i + 1) (by omega) (by omega))
              · have t8 : decide (((l[i].toNat : Nat) : Int) > 57) = true := by rw [decide_eq_true_iff]; omega
                rw [decide_eq_false d2, Bool.false_and]
                ((conv => whnf); repeat (refine Gq ?_; (conv => whnf)))
                refine litE t6 ?_
                ((conv => whnf); repeat (refine Gq ?_; (conv => whnf)))
                refine ⟨by omega, by rw [hz]; omega, _, gi, ?_⟩
                ((conv => whnf); repeat (refine Gq ?_; (conv => whnf)))
                refine litE t7 ?_
                ((conv => whnf); repeat (refine Gq ?_; (conv => whnf)))
                refine ⟨by omega, by rw [hz]; omega, _, gi, ?_⟩
                ((conv => whnf); repeat (refine Gq ?_; (conv => whnf)))
                refine litE t8 ?_
                ((conv => whnf); repeat (refine Gq ?_; (conv => whnf)))
                exact TeA
            · have t7 : decide (((l[i].toNat : Nat) : Int) < 48) = true := by rw [decide_eq_true_iff]; omega
              rw [decide_eq_false d1, Bool.false_and, Bool.false_and]
              ((conv => whnf); repeat (refine Gq ?_; (conv => whnf)))
              refine litE t6 ?_
              ((conv => whnf); repeat (refine Gq ?_; (conv => whnf)))
              refine ⟨by omega, by rw [hz]; omega, _, gi, ?_⟩
              ((conv => whnf); repeat (refine Gq ?_; (conv => whnf)))
              refine litE t7 ?_
              ((conv => whnf); repeat (refine Gq ?_; (conv => whnf)))
              exact TeA
          · have t6 : decide ((i : Int) < ((BA l).size : Int)) = false := by rw [decide_eq_false_iff_not, hz]; omega
            rw [List.drop_eq_nil_of_le (by omega)]
            ((conv => whnf); repeat (refine Gq ?_; (conv => whnf)))
            refine litE t6 ?_
            ((conv => whnf); repeat (refine Gq ?_; (conv => whnf)))
            exact TeA
        · (refine Wk.to _ _ ?_ ?_ <;> (repeat' first | exact trivial | rfl | (refine And.intro ?_ ?_)))
    · have t4 : decide (IntKind.i64.wrap (((BA l).size : Int) - 0) > 100) = true := by rw [decide_eq_true_iff, hw]; omega
      rw [decide_eq_false (show ¬ (l.drop 0).length ≤ 100 by omega), Bool.false_and, Bool.false_and]
      refine Runs.wp Am.hT Am.hm Tryz.func87 rfl (by decide) ⟨[], [0, 2, 3, 4, 6, 13, 31, 36, 48], 49⟩ ?_; ((conv => whnf); repeat (refine Gq ?_; (conv => whnf)))
      refine litE t0 ?_
      ((conv => whnf); repeat (refine Gq ?_; (conv => whnf)))
      refine litE t1 ?_
      ((conv => whnf); repeat (refine Gq ?_; (conv => whnf)))
      refine ⟨by decide, by rw [hz]; omega, _, g0, ?_⟩
      ((conv => whnf); repeat (refine Gq ?_; (conv => whnf)))
      refine litE t2 ?_
      ((conv => whnf); repeat (refine Gq ?_; (conv => whnf)))
      refine litE t3 ?_
      ((conv => whnf); repeat (refine Gq ?_; (conv => whnf)))
      refine litE t4 ?_
      ((conv => whnf); repeat (refine Gq ?_; (conv => whnf)))
      exact TeA
theorem rmay_neg (c : UInt8) (r : List UInt8) (h0 : ((c :: r) == [48]) = false) (h45 : (c == 45) = true) (hl : (c :: r).length ≤ 1000000) : Runs Tryz.prog 87 [sD (BA (c :: r))] (bD (mayL (c :: r))) := by
  have hb : body (c :: r) = (c :: r).drop 1 := by rw [body_cons, if_pos (by rw [show c = 45 by simpa using h45]; rfl)]; rfl
  rw [mayL_cons h0, hb]
  have t0 := (eq_0 (c :: r)).trans h0
  have t1 : (!((BA (c :: r)).toList == ByteArray.toList ⟨#[]⟩)) = true := by rw [emp_l]; rfl
  have t2 : (((c.toNat : Nat) : Int) == 45) = true := (u8b c 45).trans h45
  have g0 : (BA (c :: r))[(0 : Int).toNat]? = some c := ba_ix (l := c :: r) (i := 0) (j := (0 : Int)) (by simp) rfl
  have hlp : 1 ≤ (c :: r).length := by simp
  clear hb h0
  generalize c :: r = l at *
  have hz : ((BA l).size : Int) = (l.length : Int) := by rw [ba_size]
  have hw : IntKind.i64.wrap (((BA l).size : Int) - 1) = (l.length : Int) - 1 := by rw [hz, i64w (by omega) (by omega)]
  have hdl : (l.drop 1).length = l.length - 1 := List.length_drop
  by_cases c1 : l.length - 1 < 1
  · have t3 : decide (IntKind.i64.wrap (((BA l).size : Int) - 1) < 1) = true := by rw [decide_eq_true_iff, hw]; omega
    rw [decide_eq_false (show ¬ 1 ≤ (l.drop 1).length by omega), Bool.false_and, Bool.false_and, Bool.false_and]
    refine Runs.wp Am.hT Am.hm Tryz.func87 rfl (by decide) ⟨[], [0, 2, 3, 4, 6, 13, 31, 36, 48], 49⟩ ?_; ((conv => whnf); repeat (refine Gq ?_; (conv => whnf)))
    refine litE t0 ?_
    ((conv => whnf); repeat (refine Gq ?_; (conv => whnf)))
    refine litE t1 ?_
    ((conv => whnf); repeat (refine Gq ?_; (conv => whnf)))
    refine ⟨by decide, by rw [hz]; omega, _, g0, ?_⟩
    ((conv => whnf); repeat (refine Gq ?_; (conv => whnf)))
    refine litE t2 ?_
    ((conv => whnf); repeat (refine Gq ?_; (conv => whnf)))
    refine litE t3 ?_
    ((conv => whnf); repeat (refine Gq ?_; (conv => whnf)))
    exact TeA
  · have t3 : decide (IntKind.i64.wrap (((BA l).size : Int) - 1) < 1) = false := by rw [decide_eq_false_iff_not, hw]; omega
    rw [decide_eq_true (show 1 ≤ (l.drop 1).length by omega), Bool.true_and]
    by_cases c2 : l.length - 1 ≤ 100
    · have t4 : decide (IntKind.i64.wrap (((BA l).size : Int) - 1) > 100) = false := by rw [decide_eq_false_iff_not, hw]; omega
      rw [decide_eq_true (show (l.drop 1).length ≤ 100 by omega), Bool.true_and]
      have ga := ba_ix (l := l) (i := 1) (j := (1 : Int)) (by omega) rfl
      have hh : (l.drop 1).headD 0 = l[1]'(by omega) := by rw [List.drop_eq_getElem_cons (show 1 < l.length by omega)]; rfl
      rw [hh]
      by_cases c3 : (l[1]'(by omega)).toNat = 48
      · have t5 : ((((l[1]'(by omega)).toNat : Nat) : Int) == 48) = true := by rw [c3]; rfl
        rw [c3, show ((48 : Nat) != 48) = false from rfl, Bool.false_and]
        refine Runs.wp Am.hT Am.hm Tryz.func87 rfl (by decide) ⟨[], [0, 2, 3, 4, 6, 13, 31, 36, 48], 49⟩ ?_; ((conv => whnf); repeat (refine Gq ?_; (conv => whnf)))
        refine litE t0 ?_
        ((conv => whnf); repeat (refine Gq ?_; (conv => whnf)))
        refine litE t1 ?_
        ((conv => whnf); repeat (refine Gq ?_; (conv => whnf)))
        refine ⟨by decide, by rw [hz]; omega, _, g0, ?_⟩
        ((conv => whnf); repeat (refine Gq ?_; (conv => whnf)))
        refine litE t2 ?_
        ((conv => whnf); repeat (refine Gq ?_; (conv => whnf)))
        refine litE t3 ?_
        ((conv => whnf); repeat (refine Gq ?_; (conv => whnf)))
        refine litE t4 ?_
        ((conv => whnf); repeat (refine Gq ?_; (conv => whnf)))
        refine ⟨by decide, by rw [hz]; omega, _, ga, ?_⟩
        ((conv => whnf); repeat (refine Gq ?_; (conv => whnf)))
        refine litE t5 ?_
        ((conv => whnf); repeat (refine Gq ?_; (conv => whnf)))
        exact TeA
      · have t5 : ((((l[1]'(by omega)).toNat : Nat) : Int) == 48) = false := beq_eq_false_iff_ne.mpr (by omega)
        rw [show ((l[1]'(by omega)).toNat != 48) = true by simpa using c3, Bool.true_and]
        refine Runs.wp Am.hT Am.hm Tryz.func87 rfl (by decide) ⟨[], [0, 2, 3, 4, 6, 13, 31, 36, 48], 49⟩ ?_; ((conv => whnf); repeat (refine Gq ?_; (conv => whnf)))
        refine litE t0 ?_
        ((conv => whnf); repeat (refine Gq ?_; (conv => whnf)))
        refine litE t1 ?_
        ((conv => whnf); repeat (refine Gq ?_; (conv => whnf)))
        refine ⟨by decide, by rw [hz]; omega, _, g0, ?_⟩
        ((conv => whnf); repeat (refine Gq ?_; (conv => whnf)))
        refine litE t2 ?_
        ((conv => whnf); repeat (refine Gq ?_; (conv => whnf)))
        refine litE t3 ?_
        ((conv => whnf); repeat (refine Gq ?_; (conv => whnf)))
        refine litE t4 ?_
        ((conv => whnf); repeat (refine Gq ?_; (conv => whnf)))
        refine ⟨by decide, by rw [hz]; omega, _, ga, ?_⟩
        ((conv => whnf); repeat (refine Gq ?_; (conv => whnf)))
        refine litE t5 ?_
        ((conv => whnf); repeat (refine Gq ?_; (conv => whnf)))
        refine loop_ind (fun k (i : Nat) => i + k = l.length + 1 ∧ i ≤ l.length ∧ (l.drop 1).all digB = (l.drop i).all digB) (fun i => { t := pin [(0, .d (sD (BA l))), (4, .d (iD i))], N := 49, h := hpin [], n := 0, lo := 0 }) (fun i h => by omega) ?_ (l.length + 1 - 1) 1 ⟨by omega, by omega, rfl⟩ _ ?_
        · rintro k i R ih ⟨hk, hi, he⟩
          rw [he]
          by_cases hlt : i < l.length
          · have t6 : decide ((i : Int) < ((BA l).size : Int)) = true := by rw [decide_eq_true_iff, hz]; omega
            have gi := ba_ix (l := l) (i := i) (j := (i : Int)) hlt (by simp)
            rw [List.drop_eq_getElem_cons hlt, List.all_cons] at he ⊢
            unfold digB at he ⊢
            by_cases d1 : 48 ≤ l[i].toNat
            · have t7 : decide (((l[i].toNat : Nat) : Int) < 48) = false := by rw [decide_eq_false_iff_not]; omega
              rw [decide_eq_true d1, Bool.true_and] at he ⊢
              by_cases d2 : l[i].toNat ≤ 57
              · have t8 : decide (((l[i].toNat : Nat) : Int) > 57) = false := by rw [decide_eq_false_iff_not]; omega
                rw [decide_eq_true d2, Bool.true_and] at he ⊢
                ((conv => whnf); repeat (refine Gq ?_; (conv => whnf)))
                refine litE t6 ?_
                ((conv => whnf); repeat (refine Gq ?_; (conv => whnf)))
                refine ⟨by omega, by rw [hz]; omega, _, gi, ?_⟩
                ((conv => whnf); repeat (refine Gq ?_; (conv => whnf)))
                refine litE t7 ?_
                ((conv => whnf); repeat (refine Gq ?_; (conv => whnf)))
                refine ⟨by omega, by rw [hz]; omega, _, gi, ?_⟩
                ((conv => whnf); repeat (refine Gq ?_; (conv => whnf)))
                refine litE t8 ?_
                ((conv => whnf); repeat (refine Gq ?_; (conv => whnf)))
                refine ih (i + 1) _ ⟨by omega, by omega, he⟩ ?_
                (refine Wk.to _ _ ?_ ?_ <;> (repeat' first | exact trivial | rfl | (refine And.intro ?_ ?_)))
                exact inE (i64n (n := i + 1) (by omega) (by omega))
              · have t8 : decide (((l[i].toNat : Nat) : Int) > 57) = true := by rw [decide_eq_true_iff]; omega
                rw [decide_eq_false d2, Bool.false_and]
                ((conv => whnf); repeat (refine Gq ?_; (conv => whnf)))
                refine litE t6 ?_
                ((conv => whnf); repeat (refine Gq ?_; (conv => whnf)))
                refine ⟨by omega, by rw [hz]; omega, _, gi, ?_⟩
                ((conv => whnf); repeat (refine Gq ?_; (conv => whnf)))
                refine litE t7 ?_
                ((conv => whnf); repeat (refine Gq ?_; (conv => whnf)))
                refine ⟨by omega, by rw [hz]; omega, _, gi, ?_⟩
                ((conv => whnf); repeat (refine Gq ?_; (conv => whnf)))
                refine litE t8 ?_
                ((conv => whnf); repeat (refine Gq ?_; (conv => whnf)))
                exact TeA
            · have t7 : decide (((l[i].toNat : Nat) : Int) < 48) = true := by rw [decide_eq_true_iff]; omega
              rw [decide_eq_false d1, Bool.false_and, Bool.false_and]
              ((conv => whnf); repeat (refine Gq ?_; (conv => whnf)))
              refine litE t6 ?_
              ((conv => whnf); repeat (refine Gq ?_; (conv => whnf)))
              refine ⟨by omega, by rw [hz]; omega, _, gi, ?_⟩
              ((conv => whnf); repeat (refine Gq ?_; (conv => whnf)))
              refine litE t7 ?_
              ((conv => whnf); repeat (refine Gq ?_; (conv => whnf)))
              exact TeA
          · have t6 : decide ((i : Int) < ((BA l).size : Int)) = false := by rw [decide_eq_false_iff_not, hz]; omega
            rw [List.drop_eq_nil_of_le (by omega)]
            ((conv => whnf); repeat (refine Gq ?_; (conv => whnf)))
            refine litE t6 ?_
            ((conv => whnf); repeat (refine Gq ?_; (conv => whnf)))
            exact TeA
        · (refine Wk.to _ _ ?_ ?_ <;> (repeat' first | exact trivial | rfl | (refine And.intro ?_ ?_)))
    · have t4 : decide (IntKind.i64.wrap (((BA l).size : Int) - 1) > 100) = true := by rw [decide_eq_true_iff, hw]; omega
      rw [decide_eq_false (show ¬ (l.drop 1).length ≤ 100 by omega), Bool.false_and, Bool.false_and]
      refine Runs.wp Am.hT Am.hm Tryz.func87 rfl (by decide) ⟨[], [0, 2, 3, 4, 6, 13, 31, 36, 48], 49⟩ ?_; ((conv => whnf); repeat (refine Gq ?_; (conv => whnf)))
      refine litE t0 ?_
      ((conv => whnf); repeat (refine Gq ?_; (conv => whnf)))
      refine litE t1 ?_
      ((conv => whnf); repeat (refine Gq ?_; (conv => whnf)))
      refine ⟨by decide, by rw [hz]; omega, _, g0, ?_⟩
      ((conv => whnf); repeat (refine Gq ?_; (conv => whnf)))
      refine litE t2 ?_
      ((conv => whnf); repeat (refine Gq ?_; (conv => whnf)))
      refine litE t3 ?_
      ((conv => whnf); repeat (refine Gq ?_; (conv => whnf)))
      refine litE t4 ?_
      ((conv => whnf); repeat (refine Gq ?_; (conv => whnf)))
      exact TeA
theorem rmay_runs (l : List UInt8) (hl : l.length ≤ 1000000) : Runs Tryz.prog 87 [sD (BA l)] (bD (mayL l)) := by
  cases h0 : l == [48] with
  | true =>
    have t0 := (eq_0 l).trans h0
    rw [show mayL l = true by unfold mayL; rw [h0, Bool.true_or]]
    refine Runs.wp Am.hT Am.hm Tryz.func87 rfl (by decide) ⟨[], [0, 2, 3, 4, 6, 13, 31, 36, 48], 49⟩ ?_; ((conv => whnf); repeat (refine Gq ?_; (conv => whnf)))
    refine litE t0 ?_
    ((conv => whnf); repeat (refine Gq ?_; (conv => whnf)))
    exact TeA
  | false =>
    cases l with
    | nil =>
      have t0 := (eq_0 []).trans h0
      have t1 : (!((BA []).toList == ByteArray.toList ⟨#[]⟩)) = false := by rw [emp_l]; rfl
      rw [show mayL [] = false from rfl]
      refine Runs.wp Am.hT Am.hm Tryz.func87 rfl (by decide) ⟨[], [0, 2, 3, 4, 6, 13, 31, 36, 48], 49⟩ ?_; ((conv => whnf); repeat (refine Gq ?_; (conv => whnf)))
      refine litE t0 ?_
      ((conv => whnf); repeat (refine Gq ?_; (conv => whnf)))
      refine litE t1 ?_
      ((conv => whnf); repeat (refine Gq ?_; (conv => whnf)))
      exact TeA
    | cons c r =>
      cases h45 : c == 45 with
      | true => exact rmay_neg c r h0 h45 hl
      | false => exact rmay_pos c r h0 h45 hl
theorem nmay_runs {z : Int} (h : Nm.Sm z) : Runs Tryz.prog 87 [sD (numS z)] (bD true) := by
  have := rmay_runs (itoa z) (by have := itoa_len z; have := sm_nl h; omega)
  rwa [may_num z h] at this
theorem nsign_runs {z : Int} (h : Nm.Sm z) : Runs Tryz.prog 162 [sD (numS z)] (iD (sgn z)) := by
  have m := nmay_runs h
  have lo := nlow_runs z
  have t0 : ((numS z).toList == ByteArray.toList ⟨#[48]⟩) = decide (z = 0) := by
    rw [numS_list, show ByteArray.toList ⟨#[48]⟩ = ([48] : List UInt8) from ba_list [48], Bool.eq_iff_iff, beq_iff_eq, decide_eq_true_iff]
    exact itoa_zero_iff z
  unfold sgn
  by_cases hn : z < 0
  · rw [if_pos hn]
    rw [decide_eq_true hn] at lo
    rw [decide_eq_false (show ¬ z = 0 by omega)] at t0
    refine Runs.wp Am.hT Am.hm Tryz.func162 rfl (by decide) ⟨[], [0, 2, 9, 11], 12⟩ ?_; ((conv => whnf); repeat (refine Gq ?_; (conv => whnf)))
    ((conv => whnf); (refine HfA m ?_); ((conv => whnf); repeat (refine Gq ?_; (conv => whnf))))
    refine litE t0 ?_
    ((conv => whnf); repeat (refine Gq ?_; (conv => whnf)))
    ((conv => whnf); (refine HfA lo ?_); ((conv => whnf); repeat (refine Gq ?_; (conv => whnf))))
    exact TeA
  · rw [if_neg hn]
    rw [decide_eq_false hn] at lo
    by_cases h0 : z = 0
    · rw [if_pos h0]
      rw [decide_eq_true h0] at t0
      refine Runs.wp Am.hT Am.hm Tryz.func162 rfl (by decide) ⟨[], [0, 2, 9, 11], 12⟩ ?_; ((conv => whnf); repeat (refine Gq ?_; (conv => whnf)))
      ((conv => whnf); (refine HfA m ?_); ((conv => whnf); repeat (refine Gq ?_; (conv => whnf))))
      refine litE t0 ?_
      ((conv => whnf); repeat (refine Gq ?_; (conv => whnf)))
      exact TeA
    · rw [if_neg h0]
      rw [decide_eq_false h0] at t0
      refine Runs.wp Am.hT Am.hm Tryz.func162 rfl (by decide) ⟨[], [0, 2, 9, 11], 12⟩ ?_; ((conv => whnf); repeat (refine Gq ?_; (conv => whnf)))
      ((conv => whnf); (refine HfA m ?_); ((conv => whnf); repeat (refine Gq ?_; (conv => whnf))))
      refine litE t0 ?_
      ((conv => whnf); repeat (refine Gq ?_; (conv => whnf)))
      ((conv => whnf); (refine HfA lo ?_); ((conv => whnf); repeat (refine Gq ?_; (conv => whnf))))
      exact TeA
theorem nbnd_runs (x : Int) : Runs Tryz.prog 163 [sD (numS x)] (sD (numS (Nm.bnd x))) := by
  have sx := nsize_runs x
  have lo := nlow_runs x
  have hz : ((BA (decDigits x.natAbs)).size : Int) = ((decDigits x.natAbs).length : Int) := by rw [ba_size]
  unfold Nm.bnd
  by_cases h : x.natAbs < 10 ^ 100
  · have := len_le _ _ (by decide) h
    have t1 : decide (((BA (decDigits x.natAbs)).size : Int) > 100) = false := by rw [decide_eq_false_iff_not, hz]; omega
    rw [if_pos h]
    refine Runs.wp Am.hT Am.hm Tryz.func163 rfl (by decide) ⟨[], [0, 2, 6], 11⟩ ?_; ((conv => whnf); repeat (refine Gq ?_; (conv => whnf)))
    ((conv => whnf); (refine HfA sx ?_); ((conv => whnf); repeat (refine Gq ?_; (conv => whnf))))
    refine litE t1 ?_
    ((conv => whnf); repeat (refine Gq ?_; (conv => whnf)))
    exact TeA
  · have : ¬ (decDigits x.natAbs).length ≤ 100 := fun e => h (lt_of_len _ _ e)
    have t1 : decide (((BA (decDigits x.natAbs)).size : Int) > 100) = true := by rw [decide_eq_true_iff, hz]; omega
    have g := nsigned_runs 1 (decide (x < 0)) (by rw [decDigits_one (by decide)]; decide)
    rw [show BA (decDigits 1) = ⟨#[49]⟩ by rw [decDigits_one (by decide)]; rfl, show sv 1 (decide (x < 0)) = (if x < 0 then -1 else 1) by
      unfold sv
      by_cases h : x < 0
      · rw [decide_eq_true h, if_pos rfl, if_pos h]; rfl
      · rw [decide_eq_false h, if_neg (by decide), if_neg h]; rfl] at g
    rw [if_neg h]
    refine Runs.wp Am.hT Am.hm Tryz.func163 rfl (by decide) ⟨[], [0, 2, 6], 11⟩ ?_; ((conv => whnf); repeat (refine Gq ?_; (conv => whnf)))
    ((conv => whnf); (refine HfA sx ?_); ((conv => whnf); repeat (refine Gq ?_; (conv => whnf))))
    refine litE t1 ?_
    ((conv => whnf); repeat (refine Gq ?_; (conv => whnf)))
    ((conv => whnf); (refine HfA lo ?_); ((conv => whnf); repeat (refine Gq ?_; (conv => whnf))))
    ((conv => whnf); (refine HfA g ?_); ((conv => whnf); repeat (refine Gq ?_; (conv => whnf))))
    exact TeA
theorem ncmp_runs {x y : Int} (hx : Nm.Sm x) (hy : Nm.Sm y) : Runs Tryz.prog 112 [sD (numS x), sD (numS y)] (iD (sgn (x - y))) := by
  have m1 := nmay_runs hx
  have m2 := nmay_runs hy
  have l1 := sm_nl hx
  have l2 := sm_nl hy
  have tu := nturned_runs y (by omega)
  have su := nsum_runs x (-y) (by omega) (by rw [nl_neg]; omega)
  have bo := nbnd_runs (x + -y)
  have sg := nsign_runs (bnd_sm (x + -y))
  rw [bnd_sgn, show x + -y = x - y by omega] at sg
  rw [show x + -y = x - y by omega] at su bo
  refine Runs.wp Am.hT Am.hm Tryz.func112 rfl (by decide) ⟨[], [0, 1, 4, 12], 19⟩ ?_; ((conv => whnf); repeat (refine Gq ?_; (conv => whnf)))
  ((conv => whnf); (refine HfA m1 ?_); ((conv => whnf); repeat (refine Gq ?_; (conv => whnf))))
  ((conv => whnf); (refine HfA m2 ?_); ((conv => whnf); repeat (refine Gq ?_; (conv => whnf))))
  ((conv => whnf); (refine HfA tu ?_); ((conv => whnf); repeat (refine Gq ?_; (conv => whnf))))
  ((conv => whnf); (refine HfA su ?_); ((conv => whnf); repeat (refine Gq ?_; (conv => whnf))))
  ((conv => whnf); (refine HfA bo ?_); ((conv => whnf); repeat (refine Gq ?_; (conv => whnf))))
  ((conv => whnf); (refine HfA sg ?_); ((conv => whnf); repeat (refine Gq ?_; (conv => whnf))))
  exact TeA
theorem nadd_runs {x y : Int} (hx : Nm.Sm x) (hy : Nm.Sm y) : Runs Tryz.prog 113 [sD (numS x), sD (numS y)] (eD (Nm.told (x + y))) := by
  have m1 := nmay_runs hx
  have m2 := nmay_runs hy
  have l1 := sm_nl hx
  have l2 := sm_nl hy
  have su := nsum_runs x y (by omega) (by omega)
  have tl := ntold_runs (x + y)
  refine Runs.wp Am.hT Am.hm Tryz.func113 rfl (by decide) ⟨[], [0, 1, 4, 5, 13], 20⟩ ?_; ((conv => whnf); repeat (refine Gq ?_; (conv => whnf)))
  ((conv => whnf); (refine HfA m1 ?_); ((conv => whnf); repeat (refine Gq ?_; (conv => whnf))))
  ((conv => whnf); (refine HfA m2 ?_); ((conv => whnf); repeat (refine Gq ?_; (conv => whnf))))
  ((conv => whnf); (refine HfA su ?_); ((conv => whnf); repeat (refine Gq ?_; (conv => whnf))))
  ((conv => whnf); (refine HrA tl ?_); ((conv => whnf); repeat (refine Gq ?_; (conv => whnf))))
  exact TeA
theorem nsub_runs {x y : Int} (hx : Nm.Sm x) (hy : Nm.Sm y) : Runs Tryz.prog 114 [sD (numS x), sD (numS y)] (eD (Nm.told (x - y))) := by
  have m1 := nmay_runs hx
  have m2 := nmay_runs hy
  have l1 := sm_nl hx
  have l2 := sm_nl hy
  have tu := nturned_runs y (by omega)
  have su := nsum_runs x (-y) (by omega) (by rw [nl_neg]; omega)
  have tl := ntold_runs (x - y)
  rw [show x + -y = x - y by omega] at su
  refine Runs.wp Am.hT Am.hm Tryz.func114 rfl (by decide) ⟨[], [0, 1, 4, 5, 13], 21⟩ ?_; ((conv => whnf); repeat (refine Gq ?_; (conv => whnf)))
  ((conv => whnf); (refine HfA m1 ?_); ((conv => whnf); repeat (refine Gq ?_; (conv => whnf))))
  ((conv => whnf); (refine HfA m2 ?_); ((conv => whnf); repeat (refine Gq ?_; (conv => whnf))))
  ((conv => whnf); (refine HfA tu ?_); ((conv => whnf); repeat (refine Gq ?_; (conv => whnf))))
  ((conv => whnf); (refine HfA su ?_); ((conv => whnf); repeat (refine Gq ?_; (conv => whnf))))
  ((conv => whnf); (refine HrA tl ?_); ((conv => whnf); repeat (refine Gq ?_; (conv => whnf))))
  exact TeA
theorem nneg_runs {x : Int} (hx : Nm.Sm x) : Runs Tryz.prog 161 [sD (numS x)] (sD (numS (-x))) := by
  have m1 := nmay_runs hx
  have l1 := sm_nl hx
  have tu := nturned_runs x (by omega)
  refine Runs.wp Am.hT Am.hm Tryz.func161 rfl (by decide) ⟨[], [0, 2, 5], 8⟩ ?_; ((conv => whnf); repeat (refine Gq ?_; (conv => whnf)))
  ((conv => whnf); (refine HfA m1 ?_); ((conv => whnf); repeat (refine Gq ?_; (conv => whnf))))
  ((conv => whnf); (refine HfA tu ?_); ((conv => whnf); repeat (refine Gq ?_; (conv => whnf))))
  exact TeA
end Go.Proofs.YtkhgpnbhnipndaaGreatDoor.Am
end
section
/- The document's numbers: products. -/
namespace Go.Proofs.YtkhgpnbhnipndaaGreatDoor.Am
open Go Go.Lib Go.RowKit Go.Proofs.YtkhgpnbhnipndaaGreatDoor.Nm Go.Proofs.YtkhgpnbhnipndaaGreatDoorW.PrintWords Go.Proofs.YtkhgpnbhnipndaaGreatDoor
set_option linter.unusedVariables false
set_option linter.unusedSimpArgs false
set_option maxRecDepth 100000
set_option maxHeartbeats 8000000
theorem rsv_mul (X Y : Nat) (a b : Bool) : sv X a * sv Y b = sv (X * Y) (a != b) := by
  cases a <;> cases b <;> simp [sv, Int.neg_mul, Int.mul_neg, Int.neg_neg]
theorem nprod_runs (x y : Int) (hx : nl x ≤ 10000) (hy : nl y ≤ 10000) : Runs Tryz.prog 167 [sD (numS x), sD (numS y)] (sD (numS (x * y))) := by
  have lx := nlow_runs x
  have ly := nlow_runs y
  have sx := nsize_runs x
  have sy := nsize_runs y
  have e : x * y = sv (x.natAbs * y.natAbs) (decide (x < 0) != decide (y < 0)) := by
    have := rsv_mul x.natAbs y.natAbs (decide (x < 0)) (decide (y < 0))
    rwa [sv_abs, sv_abs] at this
  rw [e]
  unfold nl at hx hy
  have hm : (decDigits (x.natAbs * y.natAbs)).length ≤ 20000 := by
    have h0 := List.length_pos_iff.mpr (decDigits_ne x.natAbs)
    have := dec_mul (x := x.natAbs) (y := y.natAbs) (k := (decDigits x.natAbs).length) (l := (decDigits y.natAbs).length) (by omega) (lt_of_len _ _ (Nat.le_refl _)) (lt_of_len _ _ (Nat.le_refl _))
    omega
  have hL := dig_decDigits y.natAbs
  have hv := val_decDigits y.natAbs
  have g := nsigned_runs (x.natAbs * y.natAbs) (decide (x < 0) != decide (y < 0)) (by omega)
  generalize decide (x < 0) = a at *
  generalize decide (y < 0) = b at *
  generalize x.natAbs = X at *
  generalize hYY : y.natAbs = Y at *
  generalize decDigits Y = L at *
  have hz : ((BA L).size : Int) = (L.length : Int) := by rw [ba_size]
  have hmono : ∀ P : Nat, P ≤ X * Y → (decDigits P).length ≤ 20000 := fun P hP => by have := dec_mono hP; omega
  refine Runs.wp Am.hT Am.hm Tryz.func167 rfl (by decide) ⟨[], [0, 1, 4, 5, 6, 7, 8, 14, 26], 40⟩ ?_; ((conv => whnf); repeat (refine Gq ?_; (conv => whnf)))
  ((conv => whnf); (refine HfA sy ?_); ((conv => whnf); repeat (refine Gq ?_; (conv => whnf))))
  refine loop_ind (fun k (i : Nat) => i + k = L.length + 1 ∧ i ≤ L.length) (fun i => { t := pin [(0, .d (sD (numS x))), (1, .d (sD (numS y))), (5, .d (sD (BA (decDigits (X * val (L.take i)))))), (6, .d (sD (BA L))), (7, .d (iD i))], N := 40, h := hpin [], n := 0, lo := 0 }) (fun i h => by omega) ?_ (L.length + 1) 0 ⟨by omega, by omega⟩ _ ?_
  · rintro k i R ih ⟨hk, hi⟩
    by_cases hlt : i < L.length
    · have t1 : decide ((i : Int) < ((BA L).size : Int)) = true := by rw [decide_eq_true_iff, hz]; omega
      have gi := ba_ix (l := L) (i := i) (j := (i : Int)) hlt (by simp)
      have hc := hL _ (List.getElem_mem hlt)
      have hd := fig_i _ hc
      have htv := take_val L i hlt
      rw [List.getD_eq_getElem?_getD, List.getElem?_eq_getElem hlt, Option.getD_some] at htv
      have hle := val_take_le L hL (i + 1) hlt
      rw [hv] at hle
      have hle2 : X * val (L.take (i + 1)) ≤ X * Y := Nat.mul_le_mul_left _ hle
      generalize hP : X * val (L.take i) = P at *
      generalize hD : L[i].toNat - 48 = D at *
      have hfin : X * val (L.take (i + 1)) = 10 * P + X * D := by rw [htv, Nat.mul_add, ← hP, Nat.mul_left_comm]
      rw [hfin] at hle2
      have hb := rbare_runs (decDigits P ++ [48]) (dig_app (dig_decDigits P) (fun c hc => by rw [List.mem_singleton.1 hc]; decide)) (by have := hmono P (by omega); simp; omega)
      rw [val_snoc, val_decDigits, show (48 : UInt8).toNat - 48 = 0 from rfl, Nat.add_zero] at hb
      have hp : ∀ n, n < D → Runs Tryz.prog 208 [sD (BA (decDigits (10 * P + X * n))), sD (BA (decDigits X))] (sD (BA (decDigits (10 * P + X * (n + 1))))) := fun n hn => by
        have h1 : X * n + X ≤ X * D := by rw [← Nat.mul_succ]; exact Nat.mul_le_mul_left _ hn
        have := nplus_runs (10 * P + X * n) X (by have := hmono (10 * P + X * n) (by omega); omega) (by have := hmono X (by omega); omega)
        rwa [Nat.add_assoc, ← Nat.mul_succ] at this
      ((conv => whnf); repeat (refine Gq ?_; (conv => whnf)))
      refine litE t1 ?_
      ((conv => whnf); repeat (refine Gq ?_; (conv => whnf)))
      refine ⟨cat_ok (decDigits P) [48] (by have := hmono P (by omega); simp; omega), ?_⟩
      ((conv => whnf); repeat (refine Gq ?_; (conv => whnf)))
      (refine Hc.flat hb ?_ rfl ?_; (focus ((repeat ((conv => arg 1; whnf); first | exact Tels.nil | apply Tels.cons | apply Tel.aggs | apply Tel.tups | exact Tel.refl _ | exact Tel.nil1 _ | exact Tel.cap _ _ _ _ | exact telS (ba_append (decDigits P) [48]))); done)))
      ((conv => whnf); repeat (refine Gq ?_; (conv => whnf)))
      refine loop_ind (fun k (n : Nat) => n + k = D + 1 ∧ n ≤ D) (fun n => { t := pin [(0, .d (sD (numS x))), (1, .d (sD (numS y))), (5, .d (sD (BA (decDigits (10 * P + X * n))))), (6, .d (sD (BA L))), (7, .d (iD i)), (8, .d (iD n))], N := 40, h := hpin [], n := 0, lo := 0 }) (fun i h => by omega) ?_ (D + 1) 0 ⟨by omega, by omega⟩ _ ?_
      · rintro k2 n R2 ih2 ⟨hk2, hn⟩
        by_cases hlt2 : n < D
        · have t2 : decide ((n : Int) < IntKind.i64.wrap (IntKind.u8.wrap (((L[i].toNat : Nat) : Int) - 48))) = true := by rw [hd, decide_eq_true_iff]; omega
          have hp2 := hp n hlt2
          ((conv => whnf); repeat (refine Gq ?_; (conv => whnf)))
          refine ⟨by omega, by rw [hz]; omega, _, gi, ?_⟩
          ((conv => whnf); repeat (refine Gq ?_; (conv => whnf)))
          refine litE t2 ?_
          ((conv => whnf); repeat (refine Gq ?_; (conv => whnf)))
          ((conv => whnf); (refine HfA sx ?_); ((conv => whnf); repeat (refine Gq ?_; (conv => whnf))))
          ((conv => whnf); (refine HfA hp2 ?_); ((conv => whnf); repeat (refine Gq ?_; (conv => whnf))))
          refine ih2 (n + 1) _ ⟨by omega, by omega⟩ ?_
          (refine Wk.to _ _ ?_ ?_ <;> (repeat' first | exact trivial | rfl | (refine And.intro ?_ ?_)))
          exact inE (i64n (n := n + 1) (by omega) (by omega))
        · have t2 : decide ((n : Int) < IntKind.i64.wrap (IntKind.u8.wrap (((L[i].toNat : Nat) : Int) - 48))) = false := by rw [hd, decide_eq_false_iff_not]; omega
          ((conv => whnf); repeat (refine Gq ?_; (conv => whnf)))
          refine ⟨by omega, by rw [hz]; omega, _, gi, ?_⟩
          ((conv => whnf); repeat (refine Gq ?_; (conv => whnf)))
          refine litE t2 ?_
          ((conv => whnf); repeat (refine Gq ?_; (conv => whnf)))
          refine ih (i + 1) _ ⟨by omega, by omega⟩ ?_
          (refine Wk.to _ _ ?_ ?_ <;> (repeat' first | exact trivial | rfl | (refine And.intro ?_ ?_)))
          · exact stE (by rw [hfin, show n = D by omega])
          · exact inE (i64n (n := i + 1) (by omega) (by omega))
      · (refine Wk.to _ _ ?_ ?_ <;> (repeat' first | exact trivial | rfl | (refine And.intro ?_ ?_)))
    · have t1 : decide ((i : Int) < ((BA L).size : Int)) = false := by rw [decide_eq_false_iff_not, hz]; omega
      rw [List.take_of_length_le (by omega), hv]
      ((conv => whnf); repeat (refine Gq ?_; (conv => whnf)))
      refine litE t1 ?_
      ((conv => whnf); repeat (refine Gq ?_; (conv => whnf)))
      ((conv => whnf); (refine HfA lx ?_); ((conv => whnf); repeat (refine Gq ?_; (conv => whnf))))
      ((conv => whnf); (refine HfA ly ?_); ((conv => whnf); repeat (refine Gq ?_; (conv => whnf))))
      ((conv => whnf); (refine HfA g ?_); ((conv => whnf); repeat (refine Gq ?_; (conv => whnf))))
      exact TeA
  · (refine Wk.to _ _ ?_ ?_ <;> (repeat' first | exact trivial | rfl | (refine And.intro ?_ ?_)))
    exact stE (by rw [List.take_zero, val_nil, Nat.mul_zero, decDigits_zero])
theorem nmul_runs {x y : Int} (hx : Nm.Sm x) (hy : Nm.Sm y) : Runs Tryz.prog 115 [sD (numS x), sD (numS y)] (eD (Nm.told (x * y))) := by
  have m1 := nmay_runs hx
  have m2 := nmay_runs hy
  have l1 := sm_nl hx
  have l2 := sm_nl hy
  have su := nprod_runs x y (by omega) (by omega)
  have tl := ntold_runs (x * y)
  refine Runs.wp Am.hT Am.hm Tryz.func115 rfl (by decide) ⟨[], [0, 1, 4, 5, 13], 20⟩ ?_; ((conv => whnf); repeat (refine Gq ?_; (conv => whnf)))
  ((conv => whnf); (refine HfA m1 ?_); ((conv => whnf); repeat (refine Gq ?_; (conv => whnf))))
  ((conv => whnf); (refine HfA m2 ?_); ((conv => whnf); repeat (refine Gq ?_; (conv => whnf))))
  ((conv => whnf); (refine HfA su ?_); ((conv => whnf); repeat (refine Gq ?_; (conv => whnf))))
  ((conv => whnf); (refine HrA tl ?_); ((conv => whnf); repeat (refine Gq ?_; (conv => whnf))))
  exact TeA
theorem nof_runs {x : Int} (hx : x = -1 ∨ x = 0 ∨ x = 1) : Runs Tryz.prog 128 [iD x] (sD (numS x)) := by
  rcases hx with rfl | rfl | rfl
  · rw [show numS (-1) = BA [45, 49] by rw [numS_neg (by decide)]; rw [show (-1 : Int).natAbs = 1 from rfl, decDigits_one (by decide)]; rfl]
    refine Runs.wp Am.hT Am.hm Tryz.func128 rfl (by decide) ⟨[(4, .first 0 (.first 1 (.first 3 (.first 4 (.first 5 (.alt 2 (.load 6 [7, 8, 9, 10] (.alt 7 (.load 8 [9, 10] (.first 9 (.first 10 .done))) .nil)) (.alt 6 (.alt 2 (.alt 7 (.load 8 [9, 10] (.first 9 (.first 10 .done))) .nil) (.alt 7 (.alt 2 (.load 8 [9, 10] (.first 9 (.first 10 .done))) (.alt 8 (.alt 2 (.first 9 (.first 10 .done)) .nil) .nil)) .nil)) .nil))))))), (7, .first 0 (.first 1 (.first 3 (.first 4 (.first 5 (.alt 2 (.load 6 [7, 8, 9, 10] (.alt 7 (.load 8 [9, 10] (.first 9 (.first 10 .done))) .nil)) (.alt 6 (.alt 2 (.alt 7 (.load 8 [9, 10] (.first 9 (.first 10 .done))) .nil) (.alt 7 (.alt 2 (.load 8 [9, 10] (.first 9 (.first 10 .done))) (.alt 8 (.alt 2 (.first 9 (.first 10 .done)) .nil) .nil)) .nil)) .nil)))))))], [0, 2, 4, 6, 24], 40⟩ ?_; ((conv => whnf); repeat (refine Gq ?_; (conv => whnf)))
    refine ⟨[49] , congrArg (fun z : Int => [D.v (.int .u8 z)]) (show IntKind.u8.wrap (IntKind.i64.wrap (48 - -1)) = 49 by decide), ?_⟩
    ((conv => whnf); repeat (refine Gq ?_; (conv => whnf)))
    refine ⟨by decide, ?_⟩
    ((conv => whnf); repeat (refine Gq ?_; (conv => whnf)))
    exact TeA
  · rw [show numS 0 = BA [48] by rw [numS_pos (by decide)]; rw [show (0 : Int).natAbs = 0 from rfl, decDigits_zero]]
    refine Runs.wp Am.hT Am.hm Tryz.func128 rfl (by decide) ⟨[(4, .first 0 (.first 1 (.first 3 (.first 4 (.first 5 (.alt 2 (.load 6 [7, 8, 9, 10] (.alt 7 (.load 8 [9, 10] (.first 9 (.first 10 .done))) .nil)) (.alt 6 (.alt 2 (.alt 7 (.load 8 [9, 10] (.first 9 (.first 10 .done))) .nil) (.alt 7 (.alt 2 (.load 8 [9, 10] (.first 9 (.first 10 .done))) (.alt 8 (.alt 2 (.first 9 (.first 10 .done)) .nil) .nil)) .nil)) .nil))))))), (7, .first 0 (.first 1 (.first 3 (.first 4 (.first 5 (.alt 2 (.load 6 [7, 8, 9, 10] (.alt 7 (.load 8 [9, 10] (.first 9 (.first 10 .done))) .nil)) (.alt 6 (.alt 2 (.alt 7 (.load 8 [9, 10] (.first 9 (.first 10 .done))) .nil) (.alt 7 (.alt 2 (.load 8 [9, 10] (.first 9 (.first 10 .done))) (.alt 8 (.alt 2 (.first 9 (.first 10 .done)) .nil) .nil)) .nil)) .nil)))))))], [0, 2, 4, 6, 24], 40⟩ ?_; ((conv => whnf); repeat (refine Gq ?_; (conv => whnf)))
    refine ⟨[48] , congrArg (fun z : Int => [D.v (.int .u8 z)]) (show IntKind.u8.wrap (IntKind.i64.wrap (48 + 0)) = 48 by decide), ?_⟩
    ((conv => whnf); repeat (refine Gq ?_; (conv => whnf)))
    exact TeA
  · rw [show numS 1 = BA [49] by rw [numS_pos (by decide)]; rw [show (1 : Int).natAbs = 1 from rfl, decDigits_one (by decide)]; rfl]
    refine Runs.wp Am.hT Am.hm Tryz.func128 rfl (by decide) ⟨[(4, .first 0 (.first 1 (.first 3 (.first 4 (.first 5 (.alt 2 (.load 6 [7, 8, 9, 10] (.alt 7 (.load 8 [9, 10] (.first 9 (.first 10 .done))) .nil)) (.alt 6 (.alt 2 (.alt 7 (.load 8 [9, 10] (.first 9 (.first 10 .done))) .nil) (.alt 7 (.alt 2 (.load 8 [9, 10] (.first 9 (.first 10 .done))) (.alt 8 (.alt 2 (.first 9 (.first 10 .done)) .nil) .nil)) .nil)) .nil))))))), (7, .first 0 (.first 1 (.first 3 (.first 4 (.first 5 (.alt 2 (.load 6 [7, 8, 9, 10] (.alt 7 (.load 8 [9, 10] (.first 9 (.first 10 .done))) .nil)) (.alt 6 (.alt 2 (.alt 7 (.load 8 [9, 10] (.first 9 (.first 10 .done))) .nil) (.alt 7 (.alt 2 (.load 8 [9, 10] (.first 9 (.first 10 .done))) (.alt 8 (.alt 2 (.first 9 (.first 10 .done)) .nil) .nil)) .nil)) .nil)))))))], [0, 2, 4, 6, 24], 40⟩ ?_; ((conv => whnf); repeat (refine Gq ?_; (conv => whnf)))
    refine ⟨[49] , congrArg (fun z : Int => [D.v (.int .u8 z)]) (show IntKind.u8.wrap (IntKind.i64.wrap (48 + 1)) = 49 by decide), ?_⟩
    ((conv => whnf); repeat (refine Gq ?_; (conv => whnf)))
    exact TeA
theorem nparts_runs (A B : Nat) (hB : 0 < B) (hA1 : (decDigits A).length ≤ 10000) (hB1 : (decDigits B).length ≤ 10000) : Runs Tryz.prog 212 [sD (BA (decDigits A)), sD (BA (decDigits B))] (.tup [sD (BA (decDigits (A / B))), sD (BA (decDigits (A % B)))]) := by
  have hL := dig_decDigits A
  have hv := val_decDigits A
  generalize decDigits A = L at *
  have hz : ((BA L).size : Int) = (L.length : Int) := by rw [ba_size]
  have hmono : ∀ P : Nat, P ≤ 10 * B + 10 → (decDigits P).length ≤ 20000 := fun P hP => by
    have h1 : (decDigits (B + 1)).length ≤ 10001 := dec_add hB1 (by rw [decDigits_one (by decide)]; decide)
    have h2 := dec_add h1 h1
    have h3 := dec_add h2 h2
    have h4 := dec_add h3 h3
    have h5 := dec_add h4 h4
    have h6 := dec_mono (show P ≤ B + 1 + (B + 1) + (B + 1 + (B + 1)) + (B + 1 + (B + 1) + (B + 1 + (B + 1))) + (B + 1 + (B + 1) + (B + 1 + (B + 1)) + (B + 1 + (B + 1) + (B + 1 + (B + 1)))) by omega)
    omega
  refine Runs.wp Am.hT Am.hm Tryz.func212 rfl (by decide) ⟨[], [0, 1, 4, 5, 6, 7, 8, 9, 13, 27], 43⟩ ?_; ((conv => whnf); repeat (refine Gq ?_; (conv => whnf)))
  refine loop_ind (fun k (x : List UInt8) => x.length + k = L.length + 1 ∧ x.length ≤ L.length ∧ Dig x ∧ val x = val (L.take x.length) / B) (fun x => { t := pin [(0, .d (sD (BA L))), (1, .d (sD (BA (decDigits B)))), (6, .d (sD (BA x))), (7, .d (sD (BA (decDigits (val (L.take x.length) % B))))), (8, .d (iD x.length))], N := 43, h := hpin [], n := 0, lo := 0 }) (fun i h => by omega) ?_ (L.length + 1) [] ⟨by simp, by simp, fun c h => (by cases h), by simp [val]⟩ _ ?_
  · rintro k x R ih ⟨hk, hi, hxd, hxv⟩
    by_cases hlt : x.length < L.length
    · have t1 : decide ((x.length : Int) < ((BA L).size : Int)) = true := by rw [decide_eq_true_iff, hz]; omega
      have hc := hL _ (List.getElem_mem hlt)
      have htv := take_val L x.length hlt
      have hone := ba_one L x.length hlt
      rw [List.getD_eq_getElem?_getD, List.getElem?_eq_getElem hlt, Option.getD_some] at htv hone
      generalize L[x.length] = c at *
      have hps := parts_step (val (L.take x.length)) (c.toNat - 48) B hB (by omega)
      have hmod : val (L.take x.length) % B < B := Nat.mod_lt _ hB
      rw [← htv] at hps
      generalize hT : val (L.take x.length) % B = T at *
      generalize hV : 10 * T + (c.toNat - 48) = V at *
      have hVB : V ≤ 10 * B + 10 := by omega
      have hb := rbare_runs (decDigits T ++ [c]) (dig_app (dig_decDigits T) (fun d hd => by rw [List.mem_singleton.1 hd]; exact hc)) (by have := hmono T (by omega); simp; omega)
      rw [val_snoc, val_decDigits, hV] at hb
      have ew : IntKind.i64.wrap ((x.length : Int) + 1) = ((x.length + 1 : Nat) : Int) := i64n (n := x.length + 1) (by omega) (by omega)
      have hx2 : (BA L).extract (x.length : Int).toNat (IntKind.i64.wrap ((x.length : Int) + 1)).toNat = BA [c] := by rw [ew, Int.toNat_natCast, Int.toNat_natCast]; exact hone
      have hdm := Nat.div_add_mod V B
      have hml : V % B < B := Nat.mod_lt _ hB
      obtain ⟨hq9, hp2, hp3⟩ := hps
      generalize V / B = Q at *
      generalize V % B = W at *
      have hm : ∀ n, n < Q → Runs Tryz.prog 210 [sD (BA (decDigits (V - B * n))), sD (BA (decDigits B))] (sD (BA (decDigits (V - B * (n + 1))))) := fun n hn => by
        have h1 : B * n + B ≤ V := by
          have := Nat.mul_le_mul_left B hn
          rw [Nat.mul_succ] at this
          omega
        have := nminus_runs (V - B * n) B (by have := hmono (V - B * n) (by omega); omega) (by omega) (by omega)
        rwa [Nat.sub_sub, ← Nat.mul_succ] at this
      have hmo : ∀ n, n ≤ Q → Runs Tryz.prog 209 [sD (BA (decDigits (V - B * n))), sD (BA (decDigits B))] (iD (cmpN (V - B * n) B)) := fun n hn => rmore_runs _ _ (by have := hmono (V - B * n) (by omega); omega)
      ((conv => whnf); repeat (refine Gq ?_; (conv => whnf)))
      refine litE t1 ?_
      ((conv => whnf); repeat (refine Gq ?_; (conv => whnf)))
      refine ⟨by omega, by rw [ew]; omega, by rw [ew, hz]; omega, ?_⟩
      ((conv => whnf); repeat (refine Gq ?_; (conv => whnf)))
      refine ⟨by rw [hx2]; exact cat_ok (decDigits T) [c] (by have := hmono T (by omega); simp; omega), ?_⟩
      ((conv => whnf); repeat (refine Gq ?_; (conv => whnf)))
      (refine Hc.flat hb ?_ rfl ?_; (focus ((repeat ((conv => arg 1; whnf); first | exact Tels.nil | apply Tels.cons | apply Tel.aggs | apply Tel.tups | exact Tel.refl _ | exact Tel.nil1 _ | exact Tel.cap _ _ _ _ | exact telS (by rw [hx2]; exact ba_append (decDigits T) [c]))); done)))
      ((conv => whnf); repeat (refine Gq ?_; (conv => whnf)))
      refine loop_ind (fun k (n : Nat) => n + k = Q + 1 ∧ n ≤ Q) (fun n => { t := pin [(0, .d (sD (BA L))), (1, .d (sD (BA (decDigits B)))), (6, .d (sD (BA x))), (7, .d (sD (BA (decDigits (V - B * n))))), (8, .d (iD x.length)), (9, .d (iD n))], N := 43, h := hpin [], n := 0, lo := 0 }) (fun i h => by omega) ?_ (Q + 1) 0 ⟨by omega, by omega⟩ _ ?_
      · rintro k2 n R2 ih2 ⟨hk2, hn⟩
        have hmo2 := hmo n hn
        have ge := cmpN_ge (V - B * n) B
        by_cases hlt2 : n < Q
        · have h1 : B * n + B ≤ V := by
            have := Nat.mul_le_mul_left B hlt2
            rw [Nat.mul_succ] at this
            omega
          rw [decide_eq_true (show B ≤ V - B * n by omega)] at ge
          have hm2 := hm n hlt2
          ((conv => whnf); repeat (refine Gq ?_; (conv => whnf)))
          ((conv => whnf); (refine HfA hmo2 ?_); ((conv => whnf); repeat (refine Gq ?_; (conv => whnf))))
          refine litE ge ?_
          ((conv => whnf); repeat (refine Gq ?_; (conv => whnf)))
          ((conv => whnf); (refine HfA hm2 ?_); ((conv => whnf); repeat (refine Gq ?_; (conv => whnf))))
          refine ih2 (n + 1) _ ⟨by omega, by omega⟩ ?_
          (refine Wk.to _ _ ?_ ?_ <;> (repeat' first | exact trivial | rfl | (refine And.intro ?_ ?_)))
          exact inE (i64n (n := n + 1) (by omega) (by omega))
        · have hnq : n = Q := by omega
          have h1 : V - B * n = W := by rw [hnq]; omega
          rw [decide_eq_false (show ¬ B ≤ V - B * n by omega)] at ge
          have ef : [D.v (.int .u8 (IntKind.u8.wrap (IntKind.i64.wrap (48 + (n : Int)))))] = [UInt8.ofNat (48 + n)].map (fun c : UInt8 => D.v (.int .u8 c.toNat)) := by
            rw [List.map_singleton, i64n (n := 48 + n) (by omega) (by omega), u8w (by omega) (by omega), dig_ofNat _ (by omega)]
          ((conv => whnf); repeat (refine Gq ?_; (conv => whnf)))
          ((conv => whnf); (refine HfA hmo2 ?_); ((conv => whnf); repeat (refine Gq ?_; (conv => whnf))))
          refine litE ge ?_
          ((conv => whnf); repeat (refine Gq ?_; (conv => whnf)))
          refine ⟨_, ef, ?_⟩
          ((conv => whnf); repeat (refine Gq ?_; (conv => whnf)))
          refine ⟨cat_ok x [UInt8.ofNat (48 + n)] (by simp; omega), ?_⟩
          ((conv => whnf); repeat (refine Gq ?_; (conv => whnf)))
          refine ih (x ++ [UInt8.ofNat (48 + n)]) _ ⟨by simp; omega, by simp; omega, dig_app hxd (fun d hd => by rw [List.mem_singleton.1 hd, dig_ofNat _ (by omega)]; omega), ?_⟩ ?_
          · rw [List.length_append, List.length_singleton, val_snoc, dig_ofNat _ (by omega), hxv, hp2, hnq]
            omega
          · rw [List.length_append, List.length_singleton, hp3, ← h1]
            (refine Wk.pin [] _ _ ?_ ?_ rfl rfl (by decide) rfl rfl <;> (repeat' first | exact trivial | rfl | (refine And.intro ?_ ?_)))
            exact inE ew
      · (refine Wk.to _ _ ?_ ?_ <;> (repeat' first | exact trivial | rfl | (refine And.intro ?_ ?_)))
    · have t1 : decide ((x.length : Int) < ((BA L).size : Int)) = false := by rw [decide_eq_false_iff_not, hz]; omega
      have hr := rbare_runs x hxd (by omega)
      rw [List.take_of_length_le (by omega), hv] at hxv
      rw [hxv] at hr
      rw [List.take_of_length_le (by omega), hv]
      ((conv => whnf); repeat (refine Gq ?_; (conv => whnf)))
      refine litE t1 ?_
      ((conv => whnf); repeat (refine Gq ?_; (conv => whnf)))
      ((conv => whnf); (refine HfA hr ?_); ((conv => whnf); repeat (refine Gq ?_; (conv => whnf))))
      exact TeA
  · (refine Wk.to _ _ ?_ ?_ <;> (repeat' first | exact trivial | rfl | (refine And.intro ?_ ?_)))
    exact stE (by rw [List.length_nil, List.take_zero, val_nil, Nat.zero_mod, decDigits_zero])
end Go.Proofs.YtkhgpnbhnipndaaGreatDoor.Am
end
