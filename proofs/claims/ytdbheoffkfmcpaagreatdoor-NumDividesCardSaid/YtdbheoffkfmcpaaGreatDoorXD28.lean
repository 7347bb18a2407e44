/- What the law leans on, part 29: declarations of several texts of ours, in their order. -/
import Derived.Test.YtdbheoffkfmcpaaGreatDoorXD23
import Derived.Test.YtdbheoffkfmcpaaGreatDoorXD25
import Derived.Test.YtdbheoffkfmcpaaGreatDoorXD26
section
/- What num's functions tell, plainly: what is told where a text is no number; quotients and what is left, rounded down; which of two is greater; the opposite; the sign; and the example at the head of all statements. -/
namespace Go.Proofs.YtdbheoffkfmcpaaGreatDoor.Nm
open Go.Lib Go.RowKit Go.Proofs.YtdbheoffkfmcpaaGreatDoorW.PrintWords Go.Proofs.YtdbheoffkfmcpaaGreatDoorW.PrintLast Go.Proofs.YtdbheoffkfmcpaaGreatDoor
set_option linter.unusedVariables false
set_option linter.unusedSimpArgs false
theorem num_of_Div1_no (l m : List UInt8) (h : mayL l = false ∨ mayL m = false) : Ev (fun k => M.num_of_Div1.f k (BA l) (BA m)) (BA [], 1) := by
  have st : Ev (fun k => M.num_of_Div1.j0 k (BA l) (BA m) true) (BA [], 1) := Ev.step (f := fun _ => some (BA [], 1)) (fun k => by simp only [M.num_of_Div1.j0, if_true]) (Ev.now _)
  unfold M.num_of_Div1.f
  rw [may_ev, may_ev]
  simp only [Option.bind_some]
  cases hl : mayL l with
  | false => simpa using st
  | true =>
    rcases h with h | h
    · rw [hl] at h; cases h
    · rw [h]
      simpa using st
theorem num_of_Mod1_no (l m : List UInt8) (h : mayL l = false ∨ mayL m = false) : Ev (fun k => M.num_of_Mod1.f k (BA l) (BA m)) (BA [], 1) := by
  have st : Ev (fun k => M.num_of_Mod1.j0 k (BA l) (BA m) true) (BA [], 1) := Ev.step (f := fun _ => some (BA [], 1)) (fun k => by simp only [M.num_of_Mod1.j0, if_true]) (Ev.now _)
  unfold M.num_of_Mod1.f
  rw [may_ev, may_ev]
  simp only [Option.bind_some]
  cases hl : mayL l with
  | false => simpa using st
  | true =>
    rcases h with h | h
    · rw [hl] at h; cases h
    · rw [h]
      simpa using st
theorem num_Div_no (l m : List UInt8) (h : mayL l = false ∨ mayL m = false) : Ev (fun k => M.num_Div.f k (BA l) (BA m)) (BA [], 1) := by
  unfold M.num_Div.f
  rw [may_ev]
  simp only [Option.bind_some]
  cases hl : mayL l with
  | false =>
    refine Ev.congr (fun k => if_neg (by decide)) ?_
    exact Ev.bind (num_of_Div1_no l m (.inl hl)) (Ev.now _)
  | true =>
    have hm : mayL m = false := by
      rcases h with h | h
      · rw [hl] at h; cases h
      · exact h
    have hne : ¬ (BA m).toList = [48] := by
      rw [ba_list]
      intro e
      subst e
      revert hm
      decide
    refine Ev.congr (fun k => (if_pos rfl).trans (if_neg hne)) ?_
    exact Ev.bind (num_of_Div1_no l m (.inr hm)) (Ev.now _)
theorem num_Div_zero (x : Int) (hx : Sm x) : Ev (fun k => M.num_Div.f k (numS x) (numS 0)) (BA [], 5) := by
  unfold M.num_Div.f
  rw [mayS hx]
  simp only [Option.bind_some, if_true]
  exact Ev.congr (fun k => if_pos (by rw [numS_list]; exact (itoa_zero_iff 0).2 rfl)) (Ev.now _)
theorem num_Mod_no (l m : List UInt8) (h : mayL l = false ∨ mayL m = false) : Ev (fun k => M.num_Mod.f k (BA l) (BA m)) (BA [], 1) := by
  unfold M.num_Mod.f
  rw [may_ev]
  simp only [Option.bind_some]
  cases hl : mayL l with
  | false =>
    refine Ev.congr (fun k => if_neg (by decide)) ?_
    exact Ev.bind (num_of_Mod1_no l m (.inl hl)) (Ev.now _)
  | true =>
    have hm : mayL m = false := by
      rcases h with h | h
      · rw [hl] at h; cases h
      · exact h
    have hne : ¬ (BA m).toList = [48] := by
      rw [ba_list]
      intro e
      subst e
      revert hm
      decide
    refine Ev.congr (fun k => (if_pos rfl).trans (if_neg hne)) ?_
    exact Ev.bind (num_of_Mod1_no l m (.inr hm)) (Ev.now _)
theorem num_Mod_zero (x : Int) (hx : Sm x) : Ev (fun k => M.num_Mod.f k (numS x) (numS 0)) (BA [], 5) := by
  unfold M.num_Mod.f
  rw [mayS hx]
  simp only [Option.bind_some, if_true]
  exact Ev.congr (fun k => if_pos (by rw [numS_list]; exact (itoa_zero_iff 0).2 rfl)) (Ev.now _)
/-! ### rounded down -/
/-- a number divided by another one, rounded down, and what is left -/
def fl (x y : Int) : Int := if 0 < y then x / y else (-x) / (-y)
def fm (x y : Int) : Int := x - y * fl x y
theorem neg_div (X Y : Nat) (hY : 0 < Y) : (-(X : Int)) / (Y : Int) = if X % Y = 0 then -((X / Y : Nat) : Int) else -((X / Y : Nat) : Int) - 1 := by
  have h1 := Nat.div_add_mod X Y
  have h2 := Nat.mod_lt X hY
  generalize X / Y = q at *
  generalize X % Y = r at *
  have h3 : (X : Int) = (Y : Int) * (q : Int) + (r : Int) := by rw [← h1]; simp
  by_cases h : r = 0
  · rw [if_pos h]
    refine ((Int.ediv_emod_unique (show (0 : Int) < Y by omega)).2 ⟨?_, Int.le_refl 0, by omega⟩).1
    rw [h3, h, Int.mul_neg]
    simp
  · rw [if_neg h]
    refine ((Int.ediv_emod_unique (r := (Y : Int) - r) (show (0 : Int) < Y by omega)).2 ⟨?_, by omega, by omega⟩).1
    rw [h3, Int.mul_sub, Int.mul_neg, Int.mul_one]
    omega
theorem div_sv (X : Nat) (a : Bool) (Y : Nat) (b : Bool) (hY : 0 < Y) : sv (Hd.divW X a Y b).1.1 (Hd.divW X a Y b).1.2 = fl (sv X a) (sv Y b) ∧ sv (Hd.divW X a Y b).2.1 (Hd.divW X a Y b).2.2 = fm (sv X a) (sv Y b) := by
  have h1 := Nat.div_add_mod X Y
  have h2 := Nat.mod_lt X hY
  have h3 : (X : Int) = (Y : Int) * ((X / Y : Nat) : Int) + ((X % Y : Nat) : Int) := by rw [← Int.natCast_mul, ← Int.natCast_add, h1]
  have hq : ∀ c : Bool, sv (X / Y) (c && decide (0 < X / Y)) = sv (X / Y) c := fun c => by
    cases c with
    | false => rfl
    | true =>
      by_cases h : 0 < X / Y
      · rw [decide_eq_true h]; rfl
      · rw [decide_eq_false h, Nat.eq_zero_of_not_pos h]; rfl
  have hr : ∀ c : Bool, sv (X % Y) (c && decide (0 < X % Y)) = sv (X % Y) c := fun c => by
    cases c with
    | false => rfl
    | true =>
      by_cases h : 0 < X % Y
      · rw [decide_eq_true h]; rfl
      · rw [decide_eq_false h, Nat.eq_zero_of_not_pos h]; rfl
  have hYi : (0 : Int) < (Y : Int) := by omega
  have nd := neg_div X Y hY
  unfold Hd.divW
  by_cases h : 0 < X % Y ∧ a ≠ b
  · rw [if_pos h, plusW_sv, plusW_sv, hq, hr]
    rw [if_neg (fun e => by have := h.1; omega)] at nd
    cases a <;> cases b
    · exact absurd rfl h.2
    · have e : fl (sv X false) (sv Y true) = -((X / Y : Nat) : Int) - 1 := by
        show (if (0 : Int) < -(Y : Int) then _ else (-(X : Int)) / (-(-(Y : Int)))) = _
        rw [if_neg (by omega), Int.neg_neg]
        exact nd
      rw [show fm (sv X false) (sv Y true) = sv X false - sv Y true * fl (sv X false) (sv Y true) from rfl, e]
      simp only [sv, bne, Bool.false_eq_true, if_false, if_true, Bool.not_false, beq_self_eq_true, show (false == true) = false from rfl]
      rw [Int.mul_sub, Int.neg_mul_neg, Int.mul_one]
      have h4 := h3
      generalize ((X / Y : Nat) : Int) = q at *
      generalize ((X % Y : Nat) : Int) = r at *
      generalize (Y : Int) * q = P at *
      first | omega | (refine ⟨trivial, ?_⟩; omega)
    · have e : fl (sv X true) (sv Y false) = -((X / Y : Nat) : Int) - 1 := by
        show (if (0 : Int) < (Y : Int) then (-(X : Int)) / (Y : Int) else _) = _
        rw [if_pos hYi]
        exact nd
      rw [show fm (sv X true) (sv Y false) = sv X true - sv Y false * fl (sv X true) (sv Y false) from rfl, e]
      simp only [sv, bne, Bool.false_eq_true, if_false, if_true, Bool.not_false, beq_self_eq_true, show (true == false) = false from rfl]
      rw [Int.mul_sub, Int.mul_neg, Int.mul_one]
      have h4 := h3
      generalize ((X / Y : Nat) : Int) = q at *
      generalize ((X % Y : Nat) : Int) = r at *
      generalize (Y : Int) * q = P at *
      first | omega | (refine ⟨trivial, ?_⟩; omega)
    · exact absurd rfl h.2
  · rw [if_neg h]
    simp only
    rw [hq, hr]
    cases a <;> cases b
    · have e : fl (sv X false) (sv Y false) = ((X / Y : Nat) : Int) := by
        show (if (0 : Int) < (Y : Int) then (X : Int) / (Y : Int) else _) = _
        rw [if_pos hYi]
        rfl
      rw [show fm (sv X false) (sv Y false) = sv X false - sv Y false * fl (sv X false) (sv Y false) from rfl, e]
      simp only [sv, bne, Bool.false_eq_true, if_false, Bool.not_true, beq_self_eq_true]
      have h4 := h3
      generalize ((X / Y : Nat) : Int) = q at *
      generalize ((X % Y : Nat) : Int) = r at *
      generalize (Y : Int) * q = P at *
      first | omega | (refine ⟨trivial, ?_⟩; omega)
    · have hz : X % Y = 0 := by
        rcases Nat.eq_zero_or_pos (X % Y) with hz | hz
        · exact hz
        · exact absurd ⟨hz, by decide⟩ h
      rw [if_pos hz] at nd
      have e : fl (sv X false) (sv Y true) = -((X / Y : Nat) : Int) := by
        show (if (0 : Int) < -(Y : Int) then _ else (-(X : Int)) / (-(-(Y : Int)))) = _
        rw [if_neg (by omega), Int.neg_neg]
        exact nd
      rw [show fm (sv X false) (sv Y true) = sv X false - sv Y true * fl (sv X false) (sv Y true) from rfl, e]
      simp only [sv, bne, Bool.false_eq_true, if_false, if_true, Bool.not_false, show (false == true) = false from rfl]
      rw [Int.neg_mul_neg]
      have h4 := h3
      generalize ((X / Y : Nat) : Int) = q at *
      generalize ((X % Y : Nat) : Int) = r at *
      generalize (Y : Int) * q = P at *
      first | omega | (refine ⟨trivial, ?_⟩; omega)
    · have hz : X % Y = 0 := by
        rcases Nat.eq_zero_or_pos (X % Y) with hz | hz
        · exact hz
        · exact absurd ⟨hz, by decide⟩ h
      rw [if_pos hz] at nd
      have e : fl (sv X true) (sv Y false) = -((X / Y : Nat) : Int) := by
        show (if (0 : Int) < (Y : Int) then (-(X : Int)) / (Y : Int) else _) = _
        rw [if_pos hYi]
        exact nd
      rw [show fm (sv X true) (sv Y false) = sv X true - sv Y false * fl (sv X true) (sv Y false) from rfl, e]
      simp only [sv, bne, Bool.false_eq_true, if_false, if_true, Bool.not_false, show (true == false) = false from rfl]
      rw [Int.mul_neg]
      have h4 := h3
      generalize ((X / Y : Nat) : Int) = q at *
      generalize ((X % Y : Nat) : Int) = r at *
      generalize (Y : Int) * q = P at *
      first | omega | (refine ⟨trivial, ?_⟩; omega)
    · have e : fl (sv X true) (sv Y true) = ((X / Y : Nat) : Int) := by
        show (if (0 : Int) < -(Y : Int) then _ else (-(-(X : Int))) / (-(-(Y : Int)))) = _
        rw [if_neg (by omega), Int.neg_neg, Int.neg_neg]
        rfl
      rw [show fm (sv X true) (sv Y true) = sv X true - sv Y true * fl (sv X true) (sv Y true) from rfl, e]
      simp only [sv, bne, Bool.false_eq_true, if_true, if_false, Bool.not_true, beq_self_eq_true]
      rw [Int.neg_mul]
      have h4 := h3
      generalize ((X / Y : Nat) : Int) = q at *
      generalize ((X % Y : Nat) : Int) = r at *
      generalize (Y : Int) * q = P at *
      first | omega | (refine ⟨trivial, ?_⟩; omega)
theorem div_len (X Y : Nat) (a b : Bool) (hY : 0 < Y) (hx : (decDigits X).length ≤ 900) (hy : (decDigits Y).length ≤ 900) : (mg (Hd.divW X a Y b).1.1).length ≤ 1000000 ∧ (mg (Hd.divW X a Y b).2.1).length ≤ 1000000 := by
  have hd : (decDigits (X / Y)).length ≤ 1000 := Nat.le_trans (dec_mono (Nat.div_le_self X Y)) (by omega)
  have hm : (decDigits (X % Y)).length ≤ 1000 := Nat.le_trans (dec_mono (Nat.le_of_lt (Nat.mod_lt X hY))) (by omega)
  have h1 : (decDigits 1).length ≤ 1000 := by rw [decDigits_one (show 1 < 10 by decide)]; decide
  unfold Hd.divW
  by_cases h : 0 < X % Y ∧ a ≠ b
  · rw [if_pos h]
    exact ⟨plusW_len _ _ _ _ hd h1, plusW_len _ _ _ _ hm (by omega)⟩
  · rw [if_neg h]
    have := mg_len_nl hd
    have := mg_len_nl hm
    exact ⟨by simp only; omega, by simp only; omega⟩
theorem numDiv_ev (x y : Int) (hx : Sm x) (hy : Sm y) (h0 : y ≠ 0) : Ev (fun k => M.num_Div.f k (numS x) (numS y)) (told (fl x y)) := by
  have h1 : (decDigits x.natAbs).length ≤ 1000 := Nat.le_trans (sm_nl hx) (by decide)
  have h2 : (decDigits y.natAbs).length ≤ 1000 := Nat.le_trans (sm_nl hy) (by decide)
  have h3 : (decDigits x.natAbs).length ≤ 900 := Nat.le_trans (sm_nl hx) (by decide)
  have h4 : (decDigits y.natAbs).length ≤ 900 := Nat.le_trans (sm_nl hy) (by decide)
  have hY : 0 < y.natAbs := by omega
  have hsv := (div_sv x.natAbs (decide (x < 0)) y.natAbs (decide (y < 0)) hY).1
  rw [sv_abs, sv_abs] at hsv
  have ht := tell_ev _ (Hd.divW x.natAbs (decide (x < 0)) y.natAbs (decide (y < 0))).1.2 (div_len x.natAbs y.natAbs (decide (x < 0)) (decide (y < 0)) hY h3 h4).1
  rw [hsv] at ht
  have hin : Hd.Div1.f (wh x).1 (wh x).2 (wh y).1 (wh y).2 = some (il (mg (Hd.divW x.natAbs (decide (x < 0)) y.natAbs (decide (y < 0))).1.1), (Hd.divW x.natAbs (decide (x < 0)) y.natAbs (decide (y < 0))).1.2) := Hd.div1_f x.natAbs y.natAbs _ _ hY h3 h4
  unfold M.num_Div.f
  rw [mayS hx]
  simp only [Option.bind_some, if_true]
  refine Ev.congr (fun k => if_neg (by rw [numS_list]; exact fun e => h0 ((itoa_zero_iff y).1 e))) ?_
  refine Ev.bind ?_ (Ev.now _)
  unfold M.num_of_Div1.f
  rw [mayS hx, mayS hy]
  simp only [Option.bind_some, if_true, Bool.not_true]
  refine Ev.step (fun k => ?_) (Ev.bind (f := fun k a => (K.num_read.f k (numS y)).bind fun b => ((Hd.Div1.f a.1 a.2 b.1 b.2).bind fun c => ((L.num_told.f k c.1 c.2).bind fun d => (some (d.1, d.2))))) (read_ev x h1) (Ev.bind (f := fun k b => (Hd.Div1.f (wh x).1 (wh x).2 b.1 b.2).bind fun c => ((L.num_told.f k c.1 c.2).bind fun d => (some (d.1, d.2)))) (read_ev y h2) (Ev.congr (fun k => by rw [hin]; rfl) (Ev.bind ht (Ev.now _)))))
  simp only [M.num_of_Div1.j0]
  rw [if_neg (by decide)]
theorem numMod_ev (x y : Int) (hx : Sm x) (hy : Sm y) (h0 : y ≠ 0) : Ev (fun k => M.num_Mod.f k (numS x) (numS y)) (told (fm x y)) := by
  have h1 : (decDigits x.natAbs).length ≤ 1000 := Nat.le_trans (sm_nl hx) (by decide)
  have h2 : (decDigits y.natAbs).length ≤ 1000 := Nat.le_trans (sm_nl hy) (by decide)
  have h3 : (decDigits x.natAbs).length ≤ 900 := Nat.le_trans (sm_nl hx) (by decide)
  have h4 : (decDigits y.natAbs).length ≤ 900 := Nat.le_trans (sm_nl hy) (by decide)
  have hY : 0 < y.natAbs := by omega
  have hsv := (div_sv x.natAbs (decide (x < 0)) y.natAbs (decide (y < 0)) hY).2
  rw [sv_abs, sv_abs] at hsv
  have ht := tell_ev _ (Hd.divW x.natAbs (decide (x < 0)) y.natAbs (decide (y < 0))).2.2 (div_len x.natAbs y.natAbs (decide (x < 0)) (decide (y < 0)) hY h3 h4).2
  rw [hsv] at ht
  have hin : Hd.Mod1.f (wh x).1 (wh x).2 (wh y).1 (wh y).2 = some (il (mg (Hd.divW x.natAbs (decide (x < 0)) y.natAbs (decide (y < 0))).2.1), (Hd.divW x.natAbs (decide (x < 0)) y.natAbs (decide (y < 0))).2.2) := Hd.mod1_f x.natAbs y.natAbs _ _ hY h3 h4
  unfold M.num_Mod.f
  rw [mayS hx]
  simp only [Option.bind_some, if_true]
  refine Ev.congr (fun k => if_neg (by rw [numS_list]; exact fun e => h0 ((itoa_zero_iff y).1 e))) ?_
  refine Ev.bind ?_ (Ev.now _)
  unfold M.num_of_Mod1.f
  rw [mayS hx, mayS hy]
  simp only [Option.bind_some, if_true, Bool.not_true]
  refine Ev.step (fun k => ?_) (Ev.bind (f := fun k a => (K.num_read.f k (numS y)).bind fun b => ((Hd.Mod1.f a.1 a.2 b.1 b.2).bind fun c => ((L.num_told.f k c.1 c.2).bind fun d => (some (d.1, d.2))))) (read_ev x h1) (Ev.bind (f := fun k b => (Hd.Mod1.f (wh x).1 (wh x).2 b.1 b.2).bind fun c => ((L.num_told.f k c.1 c.2).bind fun d => (some (d.1, d.2)))) (read_ev y h2) (Ev.congr (fun k => by rw [hin]; rfl) (Ev.bind ht (Ev.now _)))))
  simp only [M.num_of_Mod1.j0]
  rw [if_neg (by decide)]
/-! ### any text -/
theorem num_or (s : ByteArray) : (∃ l, s = BA l ∧ mayL l = false) ∨ ∃ z, s = numS z ∧ Sm z := by
  cases h : mayL s.data.toList with
  | false => exact .inl ⟨_, ba_of s, h⟩
  | true =>
    obtain ⟨z, hz, h1⟩ := num_of_may _ h
    exact .inr ⟨z, by rw [ba_of s, hz]; rfl, h1⟩
/-! ### the example at the head of all statements -/
theorem litS (n : Nat) (l : List UInt8) (hd : l.all digB = true) (hv : val l = n) (hh : (l.headD 0).toNat ≠ 48) (hne : l ≠ []) : BA l = numS (n : Int) := by
  rw [numS_pos (by omega), Int.natAbs_natCast, ← hv, canon l ((all_dig l).mp hd) (fun c r e => by rw [e] at hh; exact hh) hne]
theorem litN (n : Nat) (l : List UInt8) (hd : l.all digB = true) (hv : val l = n) (hh : (l.headD 0).toNat ≠ 48) (hne : l ≠ []) (h0 : n ≠ 0) : BA (45 :: l) = numS (-(n : Int)) := by
  have h := litS n l hd hv hh hne
  rw [numS_pos (by omega)] at h
  have h2 := ba_inj h
  rw [numS_neg (by omega), Int.natAbs_neg, ← h2]
theorem shownN : Ev (fun k => M.reredoslaw01_shown.f k) true := by
  have e1 : (⟨#[45, 55]⟩ : ByteArray) = numS (-7) := litN 7 [55] (by decide) (by decide) (by decide) (by simp) (by decide)
  have e2 : (⟨#[50]⟩ : ByteArray) = numS 2 := litS 2 [50] (by decide) (by decide) (by decide) (by simp)
  have e3 : (⟨#[49, 50, 51, 52, 53, 54, 55, 56, 57, 48, 49, 50, 51, 52, 53, 54, 55, 56, 57, 48, 49]⟩ : ByteArray) = numS 123456789012345678901 := litS 123456789012345678901 [49, 50, 51, 52, 53, 54, 55, 56, 57, 48, 49, 50, 51, 52, 53, 54, 55, 56, 57, 48, 49] (by decide) (by decide) (by decide) (by simp)
  have e4 : (⟨#[45, 49, 48]⟩ : ByteArray) = numS (-10) := litN 10 [49, 48] (by decide) (by decide) (by decide) (by simp) (by decide)
  have e5 : (numS (-4)).toList = [45, 52] := by rw [show numS (-4) = BA [45, 52] from (litN 4 [52] (by decide) (by decide) (by decide) (by simp) (by decide)).symm, ba_list]
  have e6 : (numS 1).toList = [49] := by rw [show numS 1 = BA [49] from (litS 1 [49] (by decide) (by decide) (by decide) (by simp)).symm, ba_list]
  have e7 : (numS (-1234567890123456789010)).toList = 45 :: [49, 50, 51, 52, 53, 54, 55, 56, 57, 48, 49, 50, 51, 52, 53, 54, 55, 56, 57, 48, 49, 48] := by rw [show numS (-1234567890123456789010) = BA (45 :: [49, 50, 51, 52, 53, 54, 55, 56, 57, 48, 49, 50, 51, 52, 53, 54, 55, 56, 57, 48, 49, 48]) from (litN 1234567890123456789010 [49, 50, 51, 52, 53, 54, 55, 56, 57, 48, 49, 50, 51, 52, 53, 54, 55, 56, 57, 48, 49, 48] (by decide) (by decide) (by decide) (by simp) (by decide)).symm, ba_list]
  have s1 : Sm (-7) := sm_i64 (by decide) (by decide)
  have s2 : Sm 2 := sm_i64 (by decide) (by decide)
  have s3 : Sm 123456789012345678901 := Nat.lt_of_lt_of_le (show (123456789012345678901 : Int).natAbs < 10 ^ 21 by decide) (Nat.pow_le_pow_right (by decide) (by decide))
  have s4 : Sm (-10) := sm_i64 (by decide) (by decide)
  have t1 : told (fl (-7) 2) = (numS (-4), 0) := by rw [show fl (-7) 2 = -4 from rfl]; exact if_pos (sm_i64 (z := -4) (by decide) (by decide))
  have t2 : told (fm (-7) 2) = (numS 1, 0) := by rw [show fm (-7) 2 = 1 from rfl]; exact if_pos (sm_i64 (z := 1) (by decide) (by decide))
  have t3 : told (123456789012345678901 * -10) = (numS (-1234567890123456789010), 0) := by rw [show (123456789012345678901 : Int) * -10 = -1234567890123456789010 from by decide]; exact if_pos (Nat.lt_of_lt_of_le (show (-1234567890123456789010 : Int).natAbs < 10 ^ 22 by decide) (Nat.pow_le_pow_right (by decide) (by decide)))
  unfold M.reredoslaw01_shown.f
  rw [e1, e2, e3, e4]
  refine Ev.bind (numDiv_ev (-7) 2 s1 s2 (by decide)) (Ev.bind (numMod_ev (-7) 2 s1 s2 (by decide)) (Ev.bind (numMul_ev 123456789012345678901 (-10) s3 s4) ?_))
  rw [t1, t2, t3]
  simp only [if_true]
  rw [if_pos e5, if_pos e6, e7]
  exact Ev.now _
end Go.Proofs.YtdbheoffkfmcpaaGreatDoor.Nm
end
section
/- The document's division, plainly: figure by figure it tells the number rounded down, and what is left; and what it tells where a text is no number. -/
namespace Go.Proofs.YtdbheoffkfmcpaaGreatDoor.Nm
open Go.Lib Go.RowKit Go.Proofs.YtdbheoffkfmcpaaGreatDoorW.PrintWords Go.Proofs.YtdbheoffkfmcpaaGreatDoorW.PrintLast Go.Proofs.YtdbheoffkfmcpaaGreatDoor
set_option linter.unusedVariables false
set_option linter.unusedSimpArgs false
theorem ba_one (l : List UInt8) (i : Nat) (h : i < l.length) : (BA l).extract i (i + 1) = BA [l.getD i 0] := by
  apply ByteArray.ext
  rw [ByteArray.data_extract]
  apply Array.ext'
  simp only [BA, Array.toList_extract, List.extract, Nat.add_sub_cancel_left]
  rw [List.drop_eq_getElem_cons h, List.take_succ_cons, List.take_zero, List.getD, List.getElem?_eq_getElem h]
  rfl
theorem take_val (l : List UInt8) (i : Nat) (h : i < l.length) : val (l.take (i + 1)) = 10 * val (l.take i) + ((l.getD i 0).toNat - 48) := by
  rw [List.take_succ_eq_append_getElem h, val_snoc]
  simp [List.getD, List.getElem?_eq_getElem h]
theorem parts_step (T d Y : Nat) (hY : 0 < Y) (hd : d < 10) : (10 * (T % Y) + d) / Y ≤ 9 ∧ (10 * T + d) / Y = 10 * (T / Y) + (10 * (T % Y) + d) / Y ∧ (10 * T + d) % Y = (10 * (T % Y) + d) % Y := by
  have h1 := Nat.div_add_mod T Y
  have h2 := Nat.mod_lt T hY
  generalize T / Y = q at *
  generalize T % Y = r at *
  subst h1
  have e : 10 * (Y * q + r) + d = (10 * r + d) + Y * (10 * q) := by rw [Nat.mul_add, Nat.mul_left_comm]; omega
  rw [e, Nat.add_mul_div_left _ _ hY, Nat.add_mul_mod_self_left]
  refine ⟨?_, by omega, rfl⟩
  have : (10 * r + d) / Y < 10 := (Nat.div_lt_iff_lt_mul hY).2 (by omega)
  omega
theorem parts_inner (A qd : List UInt8) (Y z i : Nat) (hY : 0 < Y) (hz : z / Y ≤ 9) (hi : i < A.length) (hA : A.length ≤ 1000) (hq : qd.length ≤ 1000) (hzl : (decDigits z).length ≤ 2000) (hYl : (decDigits Y).length ≤ 2000) (r : ByteArray × ByteArray)
    (hk : Ev (fun k => K.reredosref01_parts.l0 k (BA A) (BA (decDigits Y)) (BA (qd ++ [UInt8.ofNat (48 + z / Y)])) (BA (decDigits (z % Y))) ((i + 1 : Nat) : Int)) r) : ∀ (d n : Nat), z / Y - n ≤ d → n ≤ z / Y →
    Ev (fun k => K.reredosref01_parts.l1 k (BA A) (BA (decDigits Y)) (BA qd) (BA (decDigits (z - n * Y))) (i : Int) (n : Int)) r := by
  intro d
  induction d with
  | zero =>
    intro n h1 h2
    have hn : n = z / Y := by omega
    subst hn
    have hm : z - z / Y * Y = z % Y := by have := Nat.div_add_mod z Y; rw [Nat.mul_comm] at this; omega
    have hlt := Nat.mod_lt z hY
    rw [hm]
    refine Ev.step (f := ?f) (fun k => ?h) ?g
    case h => rw [K.reredosref01_parts.l1]
    case g =>
      refine Ev.bind (more_ev (z % Y) Y (Nat.le_trans (dec_mono (Nat.mod_le z Y)) (by omega))) ?_
      refine Ev.congr (fun k => if_neg (by unfold cmpN; rw [if_pos hlt]; decide)) ?_
      simp only [Option.bind_some]
      rw [fig _ (by omega)]
      refine Ev.congr (fun k => if_pos (by rw [ba_size, ba_size]; simp only [List.length_cons, List.length_nil]; omega)) ?_
      rw [ba_append, w64 (by omega) (by omega)]
      exact hk
  | succ d ih =>
    intro n h1 h2
    by_cases hn : n = z / Y
    · exact ih n (by omega) h2
    · have hle : (n + 1) * Y ≤ z := by
        have h3 : (n + 1) * Y ≤ z / Y * Y := Nat.mul_le_mul_right _ (by omega)
        have h4 := Nat.div_mul_le_self z Y
        omega
      rw [Nat.add_mul, Nat.one_mul] at hle
      have hb : Y ≤ z - n * Y := by omega
      have hl : (decDigits (z - n * Y)).length ≤ 2000 := Nat.le_trans (dec_mono (Nat.sub_le _ _)) hzl
      refine Ev.step (f := ?f2) (fun k => ?h2) ?g2
      case h2 => rw [K.reredosref01_parts.l1]
      case g2 =>
        refine Ev.bind (more_ev (z - n * Y) Y (by omega)) ?_
        refine Ev.congr (fun k => if_pos (by unfold cmpN; rw [if_neg (by omega)]; split <;> decide)) ?_
        refine Ev.bind (minus_dec (z - n * Y) Y (by omega) (by omega) hb) ?_
        have h5 := ih (n + 1) (by omega) (by omega)
        rw [show z - (n + 1) * Y = z - n * Y - Y by rw [Nat.add_mul, Nat.one_mul]; omega] at h5
        rw [w64 (by omega) (by omega)]
        exact h5
theorem parts_outer (A : List UInt8) (hA : Dig A) (hl : A.length ≤ 1000) (Y : Nat) (hY : 0 < Y) (hYl : (decDigits Y).length ≤ 1000) : ∀ (d i : Nat), A.length - i ≤ d → i ≤ A.length → ∀ qd : List UInt8, Dig qd → val qd = val (A.take i) / Y → qd.length = i →
    Ev (fun k => K.reredosref01_parts.l0 k (BA A) (BA (decDigits Y)) (BA qd) (BA (decDigits (val (A.take i) % Y))) (i : Int)) (BA (decDigits (val A / Y)), BA (decDigits (val A % Y))) := by
  have fin : ∀ qd : List UInt8, Dig qd → val qd = val A / Y → qd.length = A.length → Ev (fun k => K.reredosref01_parts.l0 k (BA A) (BA (decDigits Y)) (BA qd) (BA (decDigits (val A % Y))) (A.length : Int)) (BA (decDigits (val A / Y)), BA (decDigits (val A % Y))) := by
    intro qd h1 h2 h3
    refine Ev.step (f := ?f) (fun k => ?h) ?g
    case h => rw [K.reredosref01_parts.l0]
    case g =>
      refine Ev.congr (fun k => if_neg (by rw [ba_size]; omega)) ?_
      refine Ev.bind (bare_ev qd h1 (by omega)) ?_
      rw [h2]
      exact Ev.now _
  intro d
  induction d with
  | zero =>
    intro i h1 h2 qd h3 h4 h5
    have hi : i = A.length := by omega
    subst hi
    rw [List.take_length] at h4 ⊢
    exact fin qd h3 h4 h5
  | succ d ih =>
    intro i h1 h2 qd h3 h4 h5
    by_cases hi : i = A.length
    · subst hi
      rw [List.take_length] at h4 ⊢
      exact fin qd h3 h4 h5
    · have hlt : i < A.length := by omega
      have hw : wrap64 ((i : Int) + 1) = ((i + 1 : Nat) : Int) := (w64 (by omega) (by omega)).trans (by omega)
      have c1 : (i : Int) < ((BA A).size : Int) := by rw [ba_size]; omega
      have c2 : (0 : Int) ≤ (i : Int) := by omega
      have c3 : (i : Int) ≤ wrap64 ((i : Int) + 1) := by rw [hw]; omega
      have c4 : wrap64 ((i : Int) + 1) ≤ ((BA A).size : Int) := by rw [hw, ba_size]; omega
      have hmem : A.getD i 0 ∈ A := by simp [List.getD, List.getElem?_eq_getElem hlt]
      have hc := hA _ hmem
      obtain ⟨c, hcc⟩ : ∃ c, c = A.getD i 0 := ⟨_, rfl⟩
      rw [← hcc] at hc
      obtain ⟨p1, p2, p3⟩ := parts_step (val (A.take i)) (c.toNat - 48) Y hY (by omega)
      have ht := take_val A i hlt
      rw [← hcc] at ht
      have hrl : (decDigits (val (A.take i) % Y)).length ≤ 1000 := Nat.le_trans (dec_mono (Nat.le_of_lt (Nat.mod_lt _ hY))) hYl
      have hdg : Dig (decDigits (val (A.take i) % Y) ++ [c]) := fun x hx => by
        rcases List.mem_append.1 hx with h | h
        · exact dig_decDigits _ x h
        · rw [List.mem_singleton.1 h]; exact hc
      have hb := bare_ev (decDigits (val (A.take i) % Y) ++ [c]) hdg (by rw [List.length_append]; simp only [List.length_cons, List.length_nil]; omega)
      rw [val_snoc, val_decDigits] at hb
      obtain ⟨z, hz⟩ : ∃ z, z = 10 * (val (A.take i) % Y) + (c.toNat - 48) := ⟨_, rfl⟩
      rw [← hz] at p1 p2 p3 hb
      have hzl : (decDigits z).length ≤ 2000 := by
        rw [hz]
        by_cases h0 : val (A.take i) % Y = 0
        · rw [h0, Nat.mul_zero, Nat.zero_add, decDigits_one (by omega)]
          simp
        · rw [decDigits_snoc _ _ (by omega) (by omega), List.length_append]
          simp only [List.length_cons, List.length_nil]
          omega
      obtain ⟨n, hn⟩ : ∃ n, n = z / Y := ⟨_, rfl⟩
      have p1' := p1
      rw [← hn] at p1 p2
      have hnext := ih (i + 1) (by omega) (by omega) (qd ++ [UInt8.ofNat (48 + n)]) (fun x hx => by
          rcases List.mem_append.1 hx with h | h
          · exact h3 x h
          · rw [List.mem_singleton.1 h, dig_ofNat _ (by omega)]; omega)
        (by rw [val_snoc, dig_ofNat _ (by omega), h4, ht, p2, Nat.add_sub_cancel_left]) (by rw [List.length_append, h5]; rfl)
      rw [hn] at hnext
      rw [ht, p3] at hnext
      have hin := parts_inner A qd Y z i hY p1' hlt hl (by omega) hzl (by omega) _ hnext (z / Y) 0 (Nat.le_refl _) (Nat.zero_le _)
      rw [Nat.zero_mul, Nat.sub_zero] at hin
      refine Ev.step (f := ?f3) (fun k => ?h3) ?g3
      case h3 => rw [K.reredosref01_parts.l0]
      case g3 =>
        refine Ev.congr (fun k => if_pos c1) ?_
        refine Ev.congr (fun k => if_pos c2) ?_
        refine Ev.congr (fun k => if_pos c3) ?_
        refine Ev.congr (fun k => if_pos c4) ?_
        rw [hw, Int.toNat_natCast, Int.toNat_natCast, ba_one A i hlt, ← hcc, ba_append]
        have c5 : (BA (decDigits (val (A.take i) % Y))).size + (BA [c]).size ≤ 9223372036854775807 := by
          rw [ba_size, ba_size]
          exact Nat.le_trans (Nat.add_le_add hrl (Nat.le_refl 1)) (by decide)
        refine Ev.congr (fun k => if_pos c5) ?_
        refine Ev.bind hb ?_
        exact hin
theorem parts_ev (X Y : Nat) (hY : 0 < Y) (hX : (decDigits X).length ≤ 1000) (hYl : (decDigits Y).length ≤ 1000) : Ev (fun k => K.reredosref01_parts.f k (BA (decDigits X)) (BA (decDigits Y))) (BA (decDigits (X / Y)), BA (decDigits (X % Y))) := by
  have h := parts_outer (decDigits X) (dig_decDigits X) hX Y hY hYl _ 0 (Nat.le_refl _) (Nat.zero_le _) [] (fun c h => by cases h) (by rw [List.take_zero, val_nil, Nat.zero_div]) rfl
  rw [List.take_zero, val_nil, Nat.zero_mod, decDigits_zero, val_decDigits] at h
  exact h
theorem fl_sv (X : Nat) (a : Bool) (Y : Nat) (b : Bool) (hY : 0 < Y) : fl (sv X a) (sv Y b) = if a = b then ((X / Y : Nat) : Int) else if X % Y = 0 then -((X / Y : Nat) : Int) else -((X / Y : Nat) : Int) - 1 := by
  have hYi : (0 : Int) < (Y : Int) := by omega
  have nd := neg_div X Y hY
  cases a <;> cases b
  · rw [if_pos rfl]
    show (if (0 : Int) < (Y : Int) then (X : Int) / (Y : Int) else _) = _
    rw [if_pos hYi]
    rfl
  · rw [if_neg (by decide), ← nd]
    show (if (0 : Int) < -(Y : Int) then _ else (-(X : Int)) / (-(-(Y : Int)))) = _
    rw [if_neg (by omega), Int.neg_neg]
  · rw [if_neg (by decide), ← nd]
    show (if (0 : Int) < (Y : Int) then (-(X : Int)) / (Y : Int) else _) = _
    rw [if_pos hYi]
  · rw [if_pos rfl]
    show (if (0 : Int) < -(Y : Int) then _ else (-(-(X : Int))) / (-(-(Y : Int)))) = _
    rw [if_neg (by omega), Int.neg_neg, Int.neg_neg]
    rfl
theorem fl_abs (x y : Int) (hy : y ≠ 0) : (fl x y).natAbs ≤ x.natAbs + 1 := by
  have h := fl_sv x.natAbs (decide (x < 0)) y.natAbs (decide (y < 0)) (by omega)
  rw [sv_abs, sv_abs] at h
  have h2 := Nat.div_le_self x.natAbs y.natAbs
  rw [h]
  generalize x.natAbs / y.natAbs = q at *
  split
  · omega
  · split <;> omega
theorem fl_nl (x y : Int) (hx : Sm x) (hy : y ≠ 0) : nl (fl x y) ≤ 101 := by
  refine nl_le (by decide) ?_
  have h1 := fl_abs x y hy
  have h2 : x.natAbs < 10 ^ 100 := hx
  have h3 : (10 : Nat) ^ 101 = 10 ^ 100 * 10 := by rw [show 101 = 100 + 1 from rfl, Nat.pow_succ]
  rw [h3]
  generalize (10 : Nat) ^ 100 = P at *
  omega
theorem floor_ev (x y : Int) (hx : Sm x) (hy : Sm y) (h0 : y ≠ 0) : Ev (fun k => K.reredosref01_floor.f k (numS x) (numS y)) (numS (fl x y)) := by
  have h1 : (decDigits x.natAbs).length ≤ 100 := sm_nl hx
  have h2 : (decDigits y.natAbs).length ≤ 100 := sm_nl hy
  have hY : 0 < y.natAbs := by omega
  have hf := fl_sv x.natAbs (decide (x < 0)) y.natAbs (decide (y < 0)) hY
  rw [sv_abs, sv_abs] at hf
  have hql : (decDigits (x.natAbs / y.natAbs)).length ≤ 100 := Nat.le_trans (dec_mono (Nat.div_le_self _ _)) h1
  unfold K.reredosref01_floor.f
  rw [size_ev, size_ev, low_ev, low_ev]
  simp only [Option.bind_some]
  refine Ev.bind (parts_ev x.natAbs y.natAbs hY (by omega) (by omega)) ?_
  simp only
  by_cases hs : decide (x < 0) = decide (y < 0)
  · rw [if_pos hs] at hf
    refine Ev.congr (fun k => if_pos (by rw [hs]; exact beq_self_eq_true _)) ?_
    rw [hf, numS_pos (Int.not_lt.mpr (Int.natCast_nonneg _)), Int.natAbs_natCast]
    exact Ev.now _
  · rw [if_neg hs] at hf
    refine Ev.congr (fun k => if_neg (by rw [beq_iff_eq]; exact hs)) ?_
    by_cases hr : x.natAbs % y.natAbs = 0
    · rw [if_pos hr] at hf
      refine Ev.congr (fun k => if_pos (by rw [ba_list, hr, decDigits_zero])) ?_
      refine Ev.bind (signed_dec (x.natAbs / y.natAbs) (by omega) true) ?_
      rw [if_pos rfl, ← hf]
      exact Ev.now _
    · rw [if_neg hr] at hf
      refine Ev.congr (fun k => if_neg (by rw [ba_list]; exact fun e => hr ((dec_zero_iff _).1 e))) ?_
      have e1 : (⟨#[49]⟩ : ByteArray) = BA (decDigits 1) := by rw [decDigits_one (show 1 < 10 by decide)]; rfl
      rw [e1]
      refine Ev.bind (plus_dec (x.natAbs / y.natAbs) 1 (by omega) (by rw [decDigits_one (show 1 < 10 by decide)]; decide)) ?_
      refine Ev.bind (signed_dec (x.natAbs / y.natAbs + 1) (Nat.le_trans (dec_add hql (show (decDigits 1).length ≤ 100 by rw [decDigits_one (show 1 < 10 by decide)]; decide)) (by decide)) true) ?_
      rw [if_pos rfl, show -((x.natAbs / y.natAbs + 1 : Nat) : Int) = -((x.natAbs / y.natAbs : Nat) : Int) - 1 by omega, ← hf]
      exact Ev.now _
theorem refDiv_no (l m : List UInt8) (hl : l.length ≤ 1000000000) (hm : m.length ≤ 1000000000) (h : mayL l = false ∨ mayL m = false) : Ev (fun k => K.reredosref01_Div.f k (BA l) (BA m)) (BA [], 1) := by
  unfold K.reredosref01_Div.f
  have zero : Ev (fun k => K.reredosref01_Div.j0 k (BA l) (BA m) true) (BA [], 1) := by
    refine Ev.step (f := fun _ => some (BA [], 1)) (fun k => ?_) (Ev.now _)
    simp only [K.reredosref01_Div.j0]
    rw [if_pos trivial]
  refine Ev.bind (refMay_ev l hl) ?_
  by_cases h1 : mayL l = true
  · rw [h1]
    simp only [if_true]
    have h2 : mayL m = false := by
      rcases h with h | h
      · rw [h] at h1; cases h1
      · exact h
    refine Ev.bind (refMay_ev m hm) ?_
    rw [h2]
    exact zero
  · rw [Bool.eq_false_iff.mpr h1]
    simp only [Bool.false_eq_true, if_false]
    exact zero
theorem refMod_no (l m : List UInt8) (hl : l.length ≤ 1000000000) (hm : m.length ≤ 1000000000) (h : mayL l = false ∨ mayL m = false) : Ev (fun k => K.reredosref01_Mod.f k (BA l) (BA m)) (BA [], 1) := by
  unfold K.reredosref01_Mod.f
  have zero : Ev (fun k => K.reredosref01_Mod.j0 k (BA l) (BA m) true) (BA [], 1) := by
    refine Ev.step (f := fun _ => some (BA [], 1)) (fun k => ?_) (Ev.now _)
    simp only [K.reredosref01_Mod.j0]
    rw [if_pos trivial]
  refine Ev.bind (refMay_ev l hl) ?_
  by_cases h1 : mayL l = true
  · rw [h1]
    simp only [if_true]
    have h2 : mayL m = false := by
      rcases h with h | h
      · rw [h] at h1; cases h1
      · exact h
    refine Ev.bind (refMay_ev m hm) ?_
    rw [h2]
    exact zero
  · rw [Bool.eq_false_iff.mpr h1]
    simp only [Bool.false_eq_true, if_false]
    exact zero
theorem refDiv_zero (x : Int) (hx : Sm x) : Ev (fun k => K.reredosref01_Div.f k (numS x) (numS 0)) (BA [], 5) := by
  unfold K.reredosref01_Div.f
  refine Ev.bind (numS_may hx) ?_
  refine Ev.congr (fun k => if_pos rfl) ?_
  refine Ev.bind (numS_may (sm_i64 (z := 0) (by decide) (by decide))) ?_
  refine Ev.step (f := ?f) (fun k => ?h) ?g
  case h => rw [K.reredosref01_Div.j0]
  case g =>
    refine Ev.congr (fun k => (if_neg (by decide)).trans (if_pos (by rw [numS_list]; exact (itoa_zero_iff 0).2 rfl))) ?_
    exact Ev.now _
theorem refDiv_ev (x y : Int) (hx : Sm x) (hy : Sm y) (h0 : y ≠ 0) : Ev (fun k => K.reredosref01_Div.f k (numS x) (numS y)) (told (fl x y)) := by
  unfold K.reredosref01_Div.f
  refine Ev.bind (numS_may hx) ?_
  refine Ev.congr (fun k => if_pos rfl) ?_
  refine Ev.bind (numS_may hy) ?_
  refine Ev.step (f := ?f) (fun k => ?h) ?g
  case h => rw [K.reredosref01_Div.j0]
  case g =>
    refine Ev.congr (fun k => (if_neg (by decide)).trans (if_neg (by rw [numS_list]; exact fun e => h0 ((itoa_zero_iff y).1 e)))) ?_
    · refine Ev.bind (floor_ev x y hx hy h0) ?_
      rw [told_ev]
      exact Ev.now _
theorem refMod_zero (x : Int) (hx : Sm x) : Ev (fun k => K.reredosref01_Mod.f k (numS x) (numS 0)) (BA [], 5) := by
  unfold K.reredosref01_Mod.f
  refine Ev.bind (numS_may hx) ?_
  refine Ev.congr (fun k => if_pos rfl) ?_
  refine Ev.bind (numS_may (sm_i64 (z := 0) (by decide) (by decide))) ?_
  refine Ev.step (f := ?f) (fun k => ?h) ?g
  case h => rw [K.reredosref01_Mod.j0]
  case g =>
    refine Ev.congr (fun k => (if_neg (by decide)).trans (if_pos (by rw [numS_list]; exact (itoa_zero_iff 0).2 rfl))) ?_
    exact Ev.now _
theorem refMod_ev (x y : Int) (hx : Sm x) (hy : Sm y) (h0 : y ≠ 0) : Ev (fun k => K.reredosref01_Mod.f k (numS x) (numS y)) (told (fm x y)) := by
  unfold K.reredosref01_Mod.f
  refine Ev.bind (numS_may hx) ?_
  refine Ev.congr (fun k => if_pos rfl) ?_
  refine Ev.bind (numS_may hy) ?_
  refine Ev.step (f := ?f) (fun k => ?h) ?g
  case h => rw [K.reredosref01_Mod.j0]
  case g =>
    refine Ev.congr (fun k => (if_neg (by decide)).trans (if_neg (by rw [numS_list]; exact fun e => h0 ((itoa_zero_iff y).1 e)))) ?_
    · have hfl := fl_nl x y hx h0
      have hyl : nl y ≤ 100 := sm_nl hy
      have hxl : nl x ≤ 100 := sm_nl hx
      have hp := nl_mul y (fl x y)
      refine Ev.bind (floor_ev x y hx hy h0) ?_
      refine Ev.bind (product_ev y (fl x y) (by omega) (by omega)) ?_
      refine Ev.bind (turned_ev (y * fl x y) (by omega)) ?_
      refine Ev.bind (sum_ev x (-(y * fl x y)) (by omega) (by rw [nl_neg]; omega)) ?_
      rw [told_ev, show x + -(y * fl x y) = fm x y from rfl]
      exact Ev.now _
end Go.Proofs.YtdbheoffkfmcpaaGreatDoor.Nm
end
