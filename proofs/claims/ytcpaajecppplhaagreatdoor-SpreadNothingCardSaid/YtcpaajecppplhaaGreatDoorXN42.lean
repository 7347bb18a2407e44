/- What the law leans on, part 43: declarations of several texts of ours, in their order. -/
import Derived.Test.YtcpaajecppplhaaGreatDoorXN30
import Derived.Test.YtcpaajecppplhaaGreatDoorXN32
section
/- What num's functions tell, plainly: what is told where a text is no number; quotients and what is left, rounded down; which of two is greater; the opposite; the sign; and the example at the head of all statements. -/
namespace Go.Proofs.YtcpaajecppplhaaGreatDoor.Nm
open Go.Lib Go.RowKit Go.Proofs.YtcpaajecppplhaaGreatDoorW.PrintWords Go.Proofs.YtcpaajecppplhaaGreatDoorW.PrintLast Go.Proofs.YtcpaajecppplhaaGreatDoor
set_option linter.unusedVariables false
set_option linter.unusedSimpArgs false
theorem num_Div_zero (x : Int) (hx : Sm x) : Ev (fun k => M.num_Div.f k (numS x) (numS 0)) (BA [], 5) := by
  unfold M.num_Div.f
  rw [mayS hx]
  simp only [Option.bind_some, if_true]
  exact Ev.congr (fun k => if_pos (by rw [numS_list]; exact (itoa_zero_iff 0).2 rfl)) (Ev.now _)
theorem num_Mod_zero (x : Int) (hx : Sm x) : Ev (fun k => M.num_Mod.f k (numS x) (numS 0)) (BA [], 5) := by
  unfold M.num_Mod.f
  rw [mayS hx]
  simp only [Option.bind_some, if_true]
  exact Ev.congr (fun k => if_pos (by rw [numS_list]; exact (itoa_zero_iff 0).2 rfl)) (Ev.now _)
/-! ### rounded down -/
/-- a number divided by another one, rounded down, and what is left -/
def fl (x y : Int) : Int := if 0 < y then x / y else (-x) / (-y)
def fm (x y : Int) : Int := x - y * fl x y
theorem neg_div (X Y : Nat) (hY : 0 < Y) : (-(X : Int)) / (Y : Int) = if X % Y = 0 then -((X / Y : Nat) : Int) else -((X / Y : Nat) : Int) - 1 := by
  have h1 := Nat.div_add_mod X Y
  have h2 := Nat.mod_lt X hY
  generalize X / Y = q at *
  generalize X % Y = r at *
  have h3 : (X : Int) = (Y : Int) * (q : Int) + (r : Int) := by rw [← h1]; simp
  by_cases h : r = 0
  · rw [if_pos h]
    refine ((Int.ediv_emod_unique (show (0 : Int) < Y by omega)).2 ⟨?_, Int.le_refl 0, by omega⟩).1
    rw [h3, h, Int.mul_neg]
    simp
  · rw [if_neg h]
    refine ((Int.ediv_emod_unique (r := (Y : Int) - r) (show (0 : Int) < Y by omega)).2 ⟨?_, by omega, by omega⟩).1
    rw [h3, Int.mul_sub, Int.mul_neg, Int.mul_one]
    omega
theorem div_sv (X : Nat) (a : Bool) (Y : Nat) (b : Bool) (hY : 0 < Y) : sv (Hd.divW X a Y b).1.1 (Hd.divW X a Y b).1.2 = fl (sv X a) (sv Y b) ∧ sv (Hd.divW X a Y b).2.1 (Hd.divW X a Y b).2.2 = fm (sv X a) (sv Y b) := by
  have h1 := Nat.div_add_mod X Y
  have h2 := Nat.mod_lt X hY
  have h3 : (X : Int) = (Y : Int) * ((X / Y : Nat) : Int) + ((X % Y : Nat) : Int) := by rw [← Int.natCast_mul, ← Int.natCast_add, h1]
  have hq : ∀ c : Bool, sv (X / Y) (c && decide (0 < X / Y)) = sv (X / Y) c := fun c => by
    cases c with
    | false => rfl
    | true =>
      by_cases h : 0 < X / Y
      · rw [decide_eq_true h]; rfl
      · rw [decide_eq_false h, Nat.eq_zero_of_not_pos h]; rfl
  have hr : ∀ c : Bool, sv (X % Y) (c && decide (0 < X % Y)) = sv (X % Y) c := fun c => by
    cases c with
    | false => rfl
    | true =>
      by_cases h : 0 < X % Y
      · rw [decide_eq_true h]; rfl
      · rw [decide_eq_false h, Nat.eq_zero_of_not_pos h]; rfl
  have hYi : (0 : Int) < (Y : Int) := by omega
  have nd := neg_div X Y hY
  unfold Hd.divW
  by_cases h : 0 < X % Y ∧ a ≠ b
  · rw [if_pos h, plusW_sv, plusW_sv, hq, hr]
    rw [if_neg (fun e => by have := h.1; omega)] at nd
    cases a <;> cases b
    · exact absurd rfl h.2
    · have e : fl (sv X false) (sv Y true) = -((X / Y : Nat) : Int) - 1 := by
        show (if (0 : Int) < -(Y : Int) then _ else (-(X : Int)) / (-(-(Y : Int)))) = _
        rw [if_neg (by omega), Int.neg_neg]
        exact nd
      rw [show fm (sv X false) (sv Y true) = sv X false - sv Y true * fl (sv X false) (sv Y true) from rfl, e]
      simp only [sv, bne, Bool.false_eq_true, if_false, if_true, Bool.not_false, beq_self_eq_true, show (false == true) = false from rfl]
      rw [Int.mul_sub, Int.neg_mul_neg, Int.mul_one]
      have h4 := h3
      generalize ((X / Y : Nat) : Int) = q at *
      generalize ((X % Y : Nat) : Int) = r at *
      generalize (Y : Int) * q = P at *
      first | omega | (refine ⟨trivial, ?_⟩; omega)
    · have e : fl (sv X true) (sv Y false) = -((X / Y : Nat) : Int) - 1 := by
        show (if (0 : Int) < (Y : Int) then (-(X : Int)) / (Y : Int) else _) = _
        rw [if_pos hYi]
        exact nd
      rw [show fm (sv X true) (sv Y false) = sv X true - sv Y false * fl (sv X true) (sv Y false) from rfl, e]
      simp only [sv, bne, Bool.false_eq_true, if_false, if_true, Bool.not_false, beq_self_eq_true, show (true == false) = false from rfl]
      rw [Int.mul_sub, Int.mul_neg, Int.mul_one]
      have h4 := h3
      generalize ((X / Y : Nat) : Int) = q at *
      generalize ((X % Y : Nat) : Int) = r at *
      generalize (Y : Int) * q = P at *
      first | omega | (refine ⟨trivial, ?_⟩; omega)
    · exact absurd rfl h.2
  · rw [if_neg h]
    simp only
    rw [hq, hr]
    cases a <;> cases b
    · have e : fl (sv X false) (sv Y false) = ((X / Y : Nat) : Int) := by
        show (if (0 : Int) < (Y : Int) then (X : Int) / (Y : Int) else _) = _
        rw [if_pos hYi]
        rfl
      rw [show fm (sv X false) (sv Y false) = sv X false - sv Y false * fl (sv X false) (sv Y false) from rfl, e]
      simp only [sv, bne, Bool.false_eq_true, if_false, Bool.not_true, beq_self_eq_true]
      have h4 := h3
      generalize ((X / Y : Nat) : Int) = q at *
      generalize ((X % Y : Nat) : Int) = r at *
      generalize (Y : Int) * q = P at *
      first | omega | (refine ⟨trivial, ?_⟩; omega)
    · have hz : X % Y = 0 := by
        rcases Nat.eq_zero_or_pos (X % Y) with hz | hz
        · exact hz
        · exact absurd ⟨hz, by decide⟩ h
      rw [if_pos hz] at nd
      have e : fl (sv X false) (sv Y true) = -((X / Y : Nat) : Int) := by
        show (if (0 : Int) < -(Y : Int) then _ else (-(X : Int)) / (-(-(Y : Int)))) = _
        rw [if_neg (by omega), Int.neg_neg]
        exact nd
      rw [show fm (sv X false) (sv Y true) = sv X false - sv Y true * fl (sv X false) (sv Y true) from rfl, e]
      simp only [sv, bne, Bool.false_eq_true, if_false, if_true, Bool.not_false, show (false == true) = false from rfl]
      rw [Int.neg_mul_neg]
      have h4 := h3
      generalize ((X / Y : Nat) : Int) = q at *
      generalize ((X % Y : Nat) : Int) = r at *
      generalize (Y : Int) * q = P at *
      first | omega | (refine ⟨trivial, ?_⟩; omega)
    · have hz : X % Y = 0 := by
        rcases Nat.eq_zero_or_pos (X % Y) with hz | hz
        · exact hz
        · exact absurd ⟨hz, by decide⟩ h
      rw [if_pos hz] at nd
      have e : fl (sv X true) (sv Y false) = -((X / Y : Nat) : Int) := by
        show (if (0 : Int) < (Y : Int) then (-(X : Int)) / (Y : Int) else _) = _
        rw [if_pos hYi]
        exact nd
      rw [show fm (sv X true) (sv Y false) = sv X true - sv Y false * fl (sv X true) (sv Y false) from rfl, e]
      simp only [sv, bne, Bool.false_eq_true, if_false, if_true, Bool.not_false, show (true == false) = false from rfl]
      rw [Int.mul_neg]
      have h4 := h3
      generalize ((X / Y : Nat) : Int) = q at *
      generalize ((X % Y : Nat) : Int) = r at *
      generalize (Y : Int) * q = P at *
      first | omega | (refine ⟨trivial, ?_⟩; omega)
    · have e : fl (sv X true) (sv Y true) = ((X / Y : Nat) : Int) := by
        show (if (0 : Int) < -(Y : Int) then _ else (-(-(X : Int))) / (-(-(Y : Int)))) = _
        rw [if_neg (by omega), Int.neg_neg, Int.neg_neg]
        rfl
      rw [show fm (sv X true) (sv Y true) = sv X true - sv Y true * fl (sv X true) (sv Y true) from rfl, e]
      simp only [sv, bne, Bool.false_eq_true, if_true, if_false, Bool.not_true, beq_self_eq_true]
      rw [Int.neg_mul]
      have h4 := h3
      generalize ((X / Y : Nat) : Int) = q at *
      generalize ((X % Y : Nat) : Int) = r at *
      generalize (Y : Int) * q = P at *
      first | omega | (refine ⟨trivial, ?_⟩; omega)
theorem div_len (X Y : Nat) (a b : Bool) (hY : 0 < Y) (hx : (decDigits X).length ≤ 900) (hy : (decDigits Y).length ≤ 900) : (mg (Hd.divW X a Y b).1.1).length ≤ 1000000 ∧ (mg (Hd.divW X a Y b).2.1).length ≤ 1000000 := by
  have hd : (decDigits (X / Y)).length ≤ 1000 := Nat.le_trans (dec_mono (Nat.div_le_self X Y)) (by omega)
  have hm : (decDigits (X % Y)).length ≤ 1000 := Nat.le_trans (dec_mono (Nat.le_of_lt (Nat.mod_lt X hY))) (by omega)
  have h1 : (decDigits 1).length ≤ 1000 := by rw [decDigits_one (show 1 < 10 by decide)]; decide
  unfold Hd.divW
  by_cases h : 0 < X % Y ∧ a ≠ b
  · rw [if_pos h]
    exact ⟨plusW_len _ _ _ _ hd h1, plusW_len _ _ _ _ hm (by omega)⟩
  · rw [if_neg h]
    have := mg_len_nl hd
    have := mg_len_nl hm
    exact ⟨by simp only; omega, by simp only; omega⟩
theorem numDiv_ev (x y : Int) (hx : Sm x) (hy : Sm y) (h0 : y ≠ 0) : Ev (fun k => M.num_Div.f k (numS x) (numS y)) (told (fl x y)) := by
  have h1 : (decDigits x.natAbs).length ≤ 1000 := Nat.le_trans (sm_nl hx) (by decide)
  have h2 : (decDigits y.natAbs).length ≤ 1000 := Nat.le_trans (sm_nl hy) (by decide)
  have h3 : (decDigits x.natAbs).length ≤ 900 := Nat.le_trans (sm_nl hx) (by decide)
  have h4 : (decDigits y.natAbs).length ≤ 900 := Nat.le_trans (sm_nl hy) (by decide)
  have hY : 0 < y.natAbs := by omega
  have hsv := (div_sv x.natAbs (decide (x < 0)) y.natAbs (decide (y < 0)) hY).1
  rw [sv_abs, sv_abs] at hsv
  have ht := tell_ev _ (Hd.divW x.natAbs (decide (x < 0)) y.natAbs (decide (y < 0))).1.2 (div_len x.natAbs y.natAbs (decide (x < 0)) (decide (y < 0)) hY h3 h4).1
  rw [hsv] at ht
  have hin : Hd.Div1.f (wh x).1 (wh x).2 (wh y).1 (wh y).2 = some (il (mg (Hd.divW x.natAbs (decide (x < 0)) y.natAbs (decide (y < 0))).1.1), (Hd.divW x.natAbs (decide (x < 0)) y.natAbs (decide (y < 0))).1.2) := Hd.div1_f x.natAbs y.natAbs _ _ hY h3 h4
  unfold M.num_Div.f
  rw [mayS hx]
  simp only [Option.bind_some, if_true]
  refine Ev.congr (fun k => if_neg (by rw [numS_list]; exact fun e => h0 ((itoa_zero_iff y).1 e))) ?_
  refine Ev.bind ?_ (Ev.now _)
  unfold M.num_of_Div1.f
  rw [mayS hx, mayS hy]
  simp only [Option.bind_some, if_true, Bool.not_true]
  refine Ev.step (fun k => ?_) (Ev.bind (f := fun k a => (K.num_read.f k (numS y)).bind fun b => ((Hd.Div1.f a.1 a.2 b.1 b.2).bind fun c => ((L.num_told.f k c.1 c.2).bind fun d => (some (d.1, d.2))))) (read_ev x h1) (Ev.bind (f := fun k b => (Hd.Div1.f (wh x).1 (wh x).2 b.1 b.2).bind fun c => ((L.num_told.f k c.1 c.2).bind fun d => (some (d.1, d.2)))) (read_ev y h2) (Ev.congr (fun k => by rw [hin]; rfl) (Ev.bind ht (Ev.now _)))))
  simp only [M.num_of_Div1.j0]
  rw [if_neg (by decide)]
theorem numMod_ev (x y : Int) (hx : Sm x) (hy : Sm y) (h0 : y ≠ 0) : Ev (fun k => M.num_Mod.f k (numS x) (numS y)) (told (fm x y)) := by
  have h1 : (decDigits x.natAbs).length ≤ 1000 := Nat.le_trans (sm_nl hx) (by decide)
  have h2 : (decDigits y.natAbs).length ≤ 1000 := Nat.le_trans (sm_nl hy) (by decide)
  have h3 : (decDigits x.natAbs).length ≤ 900 := Nat.le_trans (sm_nl hx) (by decide)
  have h4 : (decDigits y.natAbs).length ≤ 900 := Nat.le_trans (sm_nl hy) (by decide)
  have hY : 0 < y.natAbs := by omega
  have hsv := (div_sv x.natAbs (decide (x < 0)) y.natAbs (decide (y < 0)) hY).2
  rw [sv_abs, sv_abs] at hsv
  have ht := tell_ev _ (Hd.divW x.natAbs (decide (x < 0)) y.natAbs (decide (y < 0))).2.2 (div_len x.natAbs y.natAbs (decide (x < 0)) (decide (y < 0)) hY h3 h4).2
  rw [hsv] at ht
  have hin : Hd.Mod1.f (wh x).1 (wh x).2 (wh y).1 (wh y).2 = some (il (mg (Hd.divW x.natAbs (decide (x < 0)) y.natAbs (decide (y < 0))).2.1), (Hd.divW x.natAbs (decide (x < 0)) y.natAbs (decide (y < 0))).2.2) := Hd.mod1_f x.natAbs y.natAbs _ _ hY h3 h4
  unfold M.num_Mod.f
  rw [mayS hx]
  simp only [Option.bind_some, if_true]
  refine Ev.congr (fun k => if_neg (by rw [numS_list]; exact fun e => h0 ((itoa_zero_iff y).1 e))) ?_
  refine Ev.bind ?_ (Ev.now _)
  unfold M.num_of_Mod1.f
  rw [mayS hx, mayS hy]
  simp only [Option.bind_some, if_true, Bool.not_true]
  refine Ev.step (fun k => ?_) (Ev.bind (f := fun k a => (K.num_read.f k (numS y)).bind fun b => ((Hd.Mod1.f a.1 a.2 b.1 b.2).bind fun c => ((L.num_told.f k c.1 c.2).bind fun d => (some (d.1, d.2))))) (read_ev x h1) (Ev.bind (f := fun k b => (Hd.Mod1.f (wh x).1 (wh x).2 b.1 b.2).bind fun c => ((L.num_told.f k c.1 c.2).bind fun d => (some (d.1, d.2)))) (read_ev y h2) (Ev.congr (fun k => by rw [hin]; rfl) (Ev.bind ht (Ev.now _)))))
  simp only [M.num_of_Mod1.j0]
  rw [if_neg (by decide)]
theorem turned_wh (z : Int) : K.num_whole_turned.f (wh z).1 (wh z).2 = some ((wh (-z)).1, (wh (-z)).2) := by
  unfold K.num_whole_turned.f wh
  simp only [Int.natAbs_neg]
  by_cases h : z < 0
  · rw [decide_eq_true h, decide_eq_false (show ¬ -z < 0 by omega)]
    first | rfl | simp
  · rw [decide_eq_false h]
    have hp := il_pos z.natAbs
    by_cases hz : z = 0
    · subst hz
      simp [hp, mg_zero, il]
    · rw [decide_eq_true (show -z < 0 by omega)]
      simp only [Bool.false_eq_true, if_false, if_true]
      rw [hp, decide_eq_true (show z.natAbs ≠ 0 by omega)]
theorem plusW_neg (x : Nat) (a : Bool) (y : Nat) (b : Bool) : (plusW x a y b).1 ≠ 0 → ((plusW x a y b).2 = true ↔ sv x a + sv y b < 0) := by
  intro h
  rw [← plusW_sv]
  generalize plusW x a y b = p at *
  obtain ⟨n, c⟩ := p
  simp only at h ⊢
  cases c with
  | true => simp [sv] <;> omega
  | false => simp [sv] <;> omega
theorem numCmp_ev (x y : Int) (hx : Sm x) (hy : Sm y) : Ev (fun k => L.num_Cmp.f k (numS x) (numS y)) (sgn (x - y)) := by
  have h1 : (decDigits x.natAbs).length ≤ 1000 := Nat.le_trans (sm_nl hx) (by decide)
  have h2 : (decDigits y.natAbs).length ≤ 1000 := Nat.le_trans (sm_nl hy) (by decide)
  have h3 : (decDigits (-y).natAbs).length ≤ 1000 := by rw [Int.natAbs_neg]; exact h2
  have hsv := plusW_sv x.natAbs (decide (x < 0)) (-y).natAbs (decide (-y < 0))
  have hng := plusW_neg x.natAbs (decide (x < 0)) (-y).natAbs (decide (-y < 0))
  rw [sv_abs, sv_abs] at hsv hng
  have hin : Ev (fun k => L.num_plus.f k (wh x).1 (wh x).2 (wh (-y)).1 (wh (-y)).2) (il (mg (plusW x.natAbs (decide (x < 0)) (-y).natAbs (decide (-y < 0))).1), (plusW x.natAbs (decide (x < 0)) (-y).natAbs (decide (-y < 0))).2) := wplus_ev x.natAbs (-y).natAbs (decide (x < 0)) (decide (-y < 0)) h1 h3
  generalize plusW x.natAbs (decide (x < 0)) (-y).natAbs (decide (-y < 0)) = p at *
  obtain ⟨n, c⟩ := p
  simp only at hsv hng hin
  unfold L.num_Cmp.f
  rw [mayS hx, mayS hy]
  simp only [Option.bind_some, if_true, Bool.not_true]
  refine Ev.step (f := fun k => (K.num_read.f k (numS x)).bind fun a => (K.num_read.f k (numS y)).bind fun b => (K.num_whole_turned.f b.1 b.2).bind fun t => (L.num_plus.f k a.1 a.2 t.1 t.2).bind fun s => (if (s.1.length : Int) = 0 then (some 0) else (if s.2 = true then (some (-1)) else (some 1)))) (fun k => ?_) ?_
  · simp only [L.num_Cmp.j0]
    rw [if_neg (by decide)]
  · refine Ev.bind (read_ev x h1) (Ev.bind (f := fun k b => (K.num_whole_turned.f b.1 b.2).bind fun t => (L.num_plus.f k (wh x).1 (wh x).2 t.1 t.2).bind fun s => (if (s.1.length : Int) = 0 then (some 0) else (if s.2 = true then (some (-1)) else (some 1)))) (read_ev y h2) ?_)
    rw [turned_wh]
    simp only [Option.bind_some]
    refine Ev.bind (f := fun k s => (if ((s.1 : List Int).length : Int) = 0 then (some (0 : Int)) else (if (s.2 : Bool) = true then (some (-1)) else (some 1)))) hin ?_
    simp only
    have hl : (il (mg n)).length = 0 ↔ n = 0 := by rw [il_len, List.length_eq_zero_iff]; exact mg_nil
    by_cases hn : n = 0
    · rw [if_pos (by rw [hl.2 hn]; rfl)]
      have : x - y = 0 := by
        subst hn
        have : sv 0 c = 0 := by cases c <;> rfl
        omega
      rw [this]
      exact Ev.now _
    · rw [if_neg (by intro e; exact hn (hl.1 (by omega)))]
      have h := hng hn
      have hne : x - y ≠ 0 := by
        intro e
        have e2 : sv n c = 0 := by rw [hsv]; omega
        cases c <;> simp [sv] at e2 <;> omega
      cases c with
      | true =>
        rw [if_pos rfl, show sgn (x - y) = -1 from if_pos (by have := h.1 rfl; omega)]
        exact Ev.now _
      | false =>
        rw [if_neg (by decide), show sgn (x - y) = 1 by unfold sgn; rw [if_neg (by intro e; have := h.2 (by omega); cases this), if_neg hne]]
        exact Ev.now _
/-! ### any text -/
theorem num_or (s : ByteArray) : (∃ l, s = BA l ∧ mayL l = false) ∨ ∃ z, s = numS z ∧ Sm z := by
  cases h : mayL s.data.toList with
  | false => exact .inl ⟨_, ba_of s, h⟩
  | true =>
    obtain ⟨z, hz, h1⟩ := num_of_may _ h
    exact .inr ⟨z, by rw [ba_of s, hz]; rfl, h1⟩
/-! ### the example at the head of all statements -/
theorem litS (n : Nat) (l : List UInt8) (hd : l.all digB = true) (hv : val l = n) (hh : (l.headD 0).toNat ≠ 48) (hne : l ≠ []) : BA l = numS (n : Int) := by
  rw [numS_pos (by omega), Int.natAbs_natCast, ← hv, canon l ((all_dig l).mp hd) (fun c r e => by rw [e] at hh; exact hh) hne]
end Go.Proofs.YtcpaajecppplhaaGreatDoor.Nm
end
