/- The document's answers on numbers, plainly: Sign, Neg, Cmp, Add, Sub, Mul, Of, Int at every text; and the program's Int. -/
import Derived.Test.YtdbheoffkfmcpaaDoorNumD
namespace Go.Proofs.YtdbheoffkfmcpaaDoor.Nm
open Go.Lib Go.RowKit Go.Proofs.YtdbheoffkfmcpaaDoorW.PrintWords Go.Proofs.YtdbheoffkfmcpaaDoorW.PrintLast Go.Proofs.YtdbheoffkfmcpaaDoor
set_option linter.unusedVariables false
set_option linter.unusedSimpArgs false

def sgn (z : Int) : Int := if z < 0 then -1 else if z = 0 then 0 else 1
def Sm (z : Int) : Prop := z.natAbs < 10 ^ 100
theorem sm_nl {z : Int} (h : Sm z) : nl z ≤ 100 := nl_le (by decide) h
theorem sm_i64 {z : Int} (h1 : -9223372036854775808 ≤ z) (h2 : z ≤ 9223372036854775807) : Sm z := Nat.lt_of_lt_of_le (show z.natAbs < 10 ^ 19 by omega) (Nat.pow_le_pow_right (by decide) (by decide))
theorem sm_neg {z : Int} (h : Sm z) : Sm (-z) := by unfold Sm; rw [Int.natAbs_neg]; exact h
theorem itoa_len (z : Int) : (itoa z).length ≤ nl z + 1 := by
  by_cases h : z < 0
  · rw [itoa_neg' h]; exact Nat.le_refl _
  · rw [itoa_pos' h]; exact Nat.le_succ _
theorem numS_may {z : Int} (h : Sm z) : Ev (fun k => K.reredosref01_May.f k (numS z)) true := by
  have := refMay_ev (itoa z) (by have := itoa_len z; have := sm_nl h; omega)
  rwa [may_num z h] at this
theorem itoa_zero_iff (z : Int) : itoa z = [48] ↔ z = 0 := by
  constructor
  · intro h
    by_cases hn : z < 0
    · rw [itoa_neg' hn] at h
      simp at h
    · rw [itoa_pos' hn, dec_zero_iff] at h
      omega
  · rintro rfl
    rw [itoa_pos' (by omega)]
    exact decDigits_zero
theorem numS_list (z : Int) : (numS z).toList = itoa z := ba_list _
theorem sign_ev (z : Int) (h : Sm z) : Ev (fun k => K.reredosref01_Sign.f k (numS z)) (sgn z) := by
  unfold K.reredosref01_Sign.f
  refine Ev.bind (numS_may h) ?_
  simp only [if_true]
  rw [numS_list]
  by_cases h0 : z = 0
  · refine Ev.step (f := fun _ => some 0) (fun k => ?_) (by subst h0; exact Ev.now _)
    simp only [K.reredosref01_Sign.j0, (itoa_zero_iff z).mpr h0]
    rw [if_pos (by rfl)]
  · have hne : (itoa z == [48]) = false := beq_eq_false_iff_ne.mpr (fun e => h0 ((itoa_zero_iff z).mp e))
    rw [hne]
    refine Ev.step (f := fun _ => some (sgn z)) (fun k => ?_) (Ev.now _)
    simp only [K.reredosref01_Sign.j0]
    rw [if_neg (by decide), low_ev]
    simp only [Option.bind_some]
    unfold sgn
    by_cases hn : z < 0
    · rw [if_pos (decide_eq_true hn), if_pos hn]
    · rw [if_neg (by simp [hn]), if_neg hn, if_neg h0]
theorem sign_no (l : List UInt8) (hl : l.length ≤ 1000000000) (h : mayL l = false) : Ev (fun k => K.reredosref01_Sign.f k (BA l)) 0 := by
  have := refMay_ev l hl
  rw [h] at this
  unfold K.reredosref01_Sign.f
  refine Ev.bind this ?_
  simp only [Bool.false_eq_true, if_false]
  refine Ev.step (f := fun _ => some 0) (fun k => ?_) (Ev.now _)
  simp only [K.reredosref01_Sign.j0]
  rw [if_pos trivial]
theorem neg_ev (z : Int) (h : Sm z) : Ev (fun k => K.reredosref01_Neg.f k (numS z)) (numS (-z)) := by
  unfold K.reredosref01_Neg.f
  refine Ev.bind (numS_may h) ?_
  simp only [if_true]
  exact Ev.bind (turned_ev z (by have := sm_nl h; omega)) (Ev.now _)
theorem neg_no (l : List UInt8) (hl : l.length ≤ 1000000000) (h : mayL l = false) : Ev (fun k => K.reredosref01_Neg.f k (BA l)) (BA []) := by
  have := refMay_ev l hl
  rw [h] at this
  unfold K.reredosref01_Neg.f
  refine Ev.bind this ?_
  simp only [Bool.false_eq_true, if_false]
  exact Ev.now _
def bnd (z : Int) : Int := if z.natAbs < 10 ^ 100 then z else if z < 0 then -1 else 1
theorem bounded_ev (z : Int) : Ev (fun k => K.reredosref01_bounded.f k (numS z)) (numS (bnd z)) := by
  unfold K.reredosref01_bounded.f bnd
  simp only [size_ev, low_ev, Option.bind_some]
  rw [ba_size]
  by_cases h : z.natAbs < 10 ^ 100
  · have := len_le _ 100 (by decide) h
    rw [if_pos h]
    refine Ev.congr (f := fun _ => some (numS z)) (fun k => ?_) (Ev.now _)
    rw [if_neg (by omega)]
  · have : ¬ (decDigits z.natAbs).length ≤ 100 := fun e => h (lt_of_len _ _ e)
    rw [if_neg h]
    have hs := signed_ev [49] (fun c hc => by simp at hc; subst hc; decide) (by decide) (decide (z < 0))
    have e : (if decide (z < 0) = true then -((val [49] : Nat) : Int) else (val [49] : Int)) = (if z < 0 then -1 else 1) := by
      by_cases hn : z < 0
      · rw [if_pos (decide_eq_true hn), if_pos hn]; rfl
      · rw [if_neg (by simp [hn]), if_neg hn]; rfl
    rw [e] at hs
    refine Ev.congr (fun k => ?_) (Ev.bind (f := fun k t => some t) hs (Ev.now _))
    rw [if_pos (by omega)]
theorem bnd_sm (z : Int) : Sm (bnd z) := by
  unfold bnd Sm
  by_cases h : z.natAbs < 10 ^ 100
  · rw [if_pos h]; exact h
  · rw [if_neg h]
    split <;> decide
theorem bnd_sgn (z : Int) : sgn (bnd z) = sgn z := by
  unfold bnd
  by_cases h : z.natAbs < 10 ^ 100
  · rw [if_pos h]
  · rw [if_neg h]
    have h0 : z ≠ 0 := fun e => h (by rw [e]; decide)
    unfold sgn
    by_cases hn : z < 0
    · rw [if_pos hn, if_pos hn]; rfl
    · rw [if_neg hn, if_neg hn, if_neg h0]; rfl
theorem cmp_ev (x y : Int) (hx : Sm x) (hy : Sm y) : Ev (fun k => K.reredosref01_Cmp.f k (numS x) (numS y)) (sgn (x - y)) := by
  unfold K.reredosref01_Cmp.f
  refine Ev.bind (numS_may hx) ?_
  simp only [if_true]
  refine Ev.bind (numS_may hy) ?_
  have h1 := sm_nl hx
  have h2 := sm_nl hy
  refine Ev.step (fun k => ?_) (Ev.bind (f := fun k t231 => (K.reredosref01_sum.f k (numS x) t231).bind fun t232 => ((K.reredosref01_bounded.f k t232).bind fun t233 => ((K.reredosref01_Sign.f k t233).bind fun t234 => some t234))) (turned_ev y (by omega)) (Ev.bind (f := fun k t232 => (K.reredosref01_bounded.f k t232).bind fun t233 => ((K.reredosref01_Sign.f k t233).bind fun t234 => some t234)) (sum_ev x (-y) (by omega) (by rw [nl_neg]; omega)) (Ev.bind (f := fun k t233 => (K.reredosref01_Sign.f k t233).bind fun t234 => some t234) (bounded_ev _) (Ev.bind (f := fun k t234 => some t234) (sign_ev _ (bnd_sm _)) (by rw [bnd_sgn, show x + -y = x - y from rfl]; exact Ev.now _)))))
  simp only [K.reredosref01_Cmp.j0]
  rw [if_neg (by decide)]
theorem cmp_no (l m : List UInt8) (hl : l.length ≤ 1000000000) (hm : m.length ≤ 1000000000) (h : mayL l = false ∨ mayL m = false) : Ev (fun k => K.reredosref01_Cmp.f k (BA l) (BA m)) 0 := by
  unfold K.reredosref01_Cmp.f
  have zero : Ev (fun k => K.reredosref01_Cmp.j0 k (BA l) (BA m) true) 0 := by
    refine Ev.step (f := fun _ => some 0) (fun k => ?_) (Ev.now _)
    simp only [K.reredosref01_Cmp.j0]
    rw [if_pos trivial]
  refine Ev.bind (refMay_ev l hl) ?_
  by_cases h1 : mayL l = true
  · rw [h1]
    simp only [if_true]
    have h2 : mayL m = false := by
      rcases h with h | h
      · rw [h] at h1; cases h1
      · exact h
    refine Ev.bind (refMay_ev m hm) ?_
    rw [h2]
    exact zero
  · rw [Bool.eq_false_iff.mpr h1]
    simp only [Bool.false_eq_true, if_false]
    exact zero
theorem add_ev (x y : Int) (hx : Sm x) (hy : Sm y) : Ev (fun k => K.reredosref01_Add.f k (numS x) (numS y)) (told (x + y)) := by
  unfold K.reredosref01_Add.f
  refine Ev.bind (numS_may hx) ?_
  simp only [if_true]
  refine Ev.bind (numS_may hy) ?_
  have h1 := sm_nl hx
  have h2 := sm_nl hy
  refine Ev.step (fun k => ?_) (Ev.bind (f := fun k t258 => (K.reredosref01_told.f t258).bind fun bt259 => some (bt259.1, bt259.2)) (sum_ev x y (by omega) (by omega)) (by rw [told_ev]; exact Ev.now _))
  simp only [K.reredosref01_Add.j0]
  rw [if_neg (by decide)]
theorem sub_ev (x y : Int) (hx : Sm x) (hy : Sm y) : Ev (fun k => K.reredosref01_Sub.f k (numS x) (numS y)) (told (x - y)) := by
  unfold K.reredosref01_Sub.f
  refine Ev.bind (numS_may hx) ?_
  simp only [if_true]
  refine Ev.bind (numS_may hy) ?_
  have h1 := sm_nl hx
  have h2 := sm_nl hy
  refine Ev.step (fun k => ?_) (Ev.bind (f := fun k t263 => (K.reredosref01_sum.f k (numS x) t263).bind fun t264 => ((K.reredosref01_told.f t264).bind fun bt265 => some (bt265.1, bt265.2))) (turned_ev y (by omega)) (Ev.bind (f := fun k t264 => (K.reredosref01_told.f t264).bind fun bt265 => some (bt265.1, bt265.2)) (sum_ev x (-y) (by omega) (by rw [nl_neg]; omega)) (by rw [told_ev, show x + -y = x - y from rfl]; exact Ev.now _)))
  simp only [K.reredosref01_Sub.j0]
  rw [if_neg (by decide)]
theorem mul_ev (x y : Int) (hx : Sm x) (hy : Sm y) : Ev (fun k => K.reredosref01_Mul.f k (numS x) (numS y)) (told (x * y)) := by
  unfold K.reredosref01_Mul.f
  refine Ev.bind (numS_may hx) ?_
  simp only [if_true]
  refine Ev.bind (numS_may hy) ?_
  have h1 := sm_nl hx
  have h2 := sm_nl hy
  refine Ev.step (fun k => ?_) (Ev.bind (f := fun k t276 => (K.reredosref01_told.f t276).bind fun bt277 => some (bt277.1, bt277.2)) (product_ev x y (by omega) (by omega)) (by rw [told_ev]; exact Ev.now _))
  simp only [K.reredosref01_Mul.j0]
  rw [if_neg (by decide)]
theorem add_no (l m : List UInt8) (hl : l.length ≤ 1000000000) (hm : m.length ≤ 1000000000) (h : mayL l = false ∨ mayL m = false) : Ev (fun k => K.reredosref01_Add.f k (BA l) (BA m)) (BA [], 1) := by
  unfold K.reredosref01_Add.f
  have zero : Ev (fun k => K.reredosref01_Add.j0 k (BA l) (BA m) true) (BA [], 1) := by
    refine Ev.step (f := fun _ => some (BA [], 1)) (fun k => ?_) (Ev.now _)
    simp only [K.reredosref01_Add.j0]
    rw [if_pos trivial]
  refine Ev.bind (refMay_ev l hl) ?_
  by_cases h1 : mayL l = true
  · rw [h1]
    simp only [if_true]
    have h2 : mayL m = false := by
      rcases h with h | h
      · rw [h] at h1; cases h1
      · exact h
    refine Ev.bind (refMay_ev m hm) ?_
    rw [h2]
    exact zero
  · rw [Bool.eq_false_iff.mpr h1]
    simp only [Bool.false_eq_true, if_false]
    exact zero

/-! ### Of -/
theorem of_step (x : Int) (n d : Nat) (h : 0 < n) (hd : d < 10) (hx : x.natAbs = 10 * n + d) : itoa x = itoa (if x < 0 then -(n : Int) else n) ++ [UInt8.ofNat (48 + d)] := by
  by_cases hn : x < 0
  · rw [if_pos hn, itoa_neg' hn, itoa_neg' (by omega), hx, decDigits_snoc n d h hd, Int.natAbs_neg, Int.natAbs_natCast]
    rfl
  · rw [if_neg hn, itoa_pos' hn, itoa_pos' (by omega), hx, decDigits_snoc n d h hd, Int.natAbs_natCast]
theorem of_ev : ∀ (m : Nat) (x : Int), x.natAbs ≤ m → -9223372036854775808 ≤ x → x ≤ 9223372036854775807 → Ev (fun k => K.reredosref01_Of.f k x) (numS x)
  | m, x, hm, h1, h2 => by
    have hnl := nl_i64 h1 h2
    by_cases hs : x.natAbs < 10
    · by_cases hn : x < 0
      · refine Ev.step (f := fun _ => some (numS x)) (fun k => ?_) (Ev.now _)
        unfold K.reredosref01_Of.f
        rw [if_pos hn, if_pos (by omega)]
        have e : (48 - x) = 48 + ((x.natAbs : Nat) : Int) := by omega
        simp only [Option.bind_some]
        rw [e, fig _ hs, ba_size, if_pos (by simp), numS_neg hn, decDigits_one hs]
        rw [show (⟨#[45]⟩ : ByteArray) = BA [45] from rfl, ba_append]
        rfl
      · refine Ev.step (f := fun _ => some (numS x)) (fun k => ?_) (Ev.now _)
        unfold K.reredosref01_Of.f
        rw [if_neg hn, if_pos (by omega)]
        have e : x = ((x.natAbs : Nat) : Int) := by omega
        rw [numS_pos hn, decDigits_one hs]
        conv => lhs; rw [e]
        rw [fig _ hs]
    · obtain ⟨n, d, hd, hx⟩ : ∃ n d : Nat, d < 10 ∧ x.natAbs = 10 * n + d := ⟨x.natAbs / 10, x.natAbs % 10, by omega, by omega⟩
      have hn0 : 0 < n := by omega
      have hst := of_step x n d hn0 hd hx
      have hlen : (itoa x).length ≤ 20 := by have := itoa_len x; omega
      match m, hm with
      | 0, hm => omega
      | m + 1, hm =>
        by_cases hn : x < 0
        · rw [if_pos hn] at hst
          have ih := of_ev m (-(n : Int)) (by omega) (by omega) (by omega)
          have ed : Int.tdiv x 10 = -(n : Int) := by
            rw [show x = -((10 * n + d : Nat) : Int) by omega, Int.neg_tdiv, show (10 : Int) = ((10 : Nat) : Int) from rfl, tdiv_nat]
            omega
          have em : Int.tmod x 10 = -(d : Int) := by
            rw [show x = -((10 * n + d : Nat) : Int) by omega, Int.neg_tmod, show (10 : Int) = ((10 : Nat) : Int) from rfl, tmod_nat]
            omega
          refine Ev.step (fun k => ?_) (Ev.bind (f := fun k t => some (BA ((itoa (-(n : Int))) ++ [UInt8.ofNat (48 + d)]))) ih (by rw [← hst]; exact Ev.now _))
          conv => lhs; unfold K.reredosref01_Of.f
          rw [if_pos hn, if_neg (by omega), ed, em, w64 (x := -(n : Int)) (by omega) (by omega)]
          cases hq : K.reredosref01_Of.f k (-(n : Int)) with
          | none => rfl
          | some t =>
            have ht : t = numS (-(n : Int)) := by
              obtain ⟨K0, hK⟩ := ih
              have h3 := at_rounds (fun j => K.reredosref01_Of.mono (-(n : Int)) j) (Nat.le_max_left k K0) hq
              exact Option.some.inj (h3.symm.trans (hK _ (Nat.le_max_right k K0)))
            subst ht
            simp only [Option.bind_some]
            rw [show (48 : Int) - -(d : Int) = 48 + (d : Int) by omega, fig _ hd, show (numS (-(n : Int))).size = (itoa (-(n : Int))).length from ba_size _, ba_size, if_pos (by rw [hst] at hlen; simp at hlen ⊢; omega)]
            rfl
        · rw [if_neg hn] at hst
          have ih := of_ev m (n : Int) (by omega) (by omega) (by omega)
          have ed : Int.tdiv x 10 = (n : Int) := by
            rw [show x = ((10 * n + d : Nat) : Int) by omega, show (10 : Int) = ((10 : Nat) : Int) from rfl, tdiv_nat]
            omega
          have em : Int.tmod x 10 = (d : Int) := by
            rw [show x = ((10 * n + d : Nat) : Int) by omega, show (10 : Int) = ((10 : Nat) : Int) from rfl, tmod_nat]
            omega
          refine Ev.step (fun k => ?_) (Ev.bind (f := fun k t => some (BA ((itoa (n : Int)) ++ [UInt8.ofNat (48 + d)]))) ih (by rw [← hst]; exact Ev.now _))
          conv => lhs; unfold K.reredosref01_Of.f
          rw [if_neg hn, if_neg (by omega), ed, em, w64 (x := (n : Int)) (by omega) (by omega)]
          cases hq : K.reredosref01_Of.f k (n : Int) with
          | none => rfl
          | some t =>
            have ht : t = numS (n : Int) := by
              obtain ⟨K0, hK⟩ := ih
              have h3 := at_rounds (fun j => K.reredosref01_Of.mono (n : Int) j) (Nat.le_max_left k K0) hq
              exact Option.some.inj (h3.symm.trans (hK _ (Nat.le_max_right k K0)))
            subst ht
            simp only [Option.bind_some]
            rw [fig _ hd, show (numS (n : Int)).size = (itoa (n : Int)).length from ba_size _, ba_size, if_pos (by rw [hst] at hlen; simp at hlen ⊢; omega)]
            rfl
theorem refOf_ev (x : Int) (h1 : -9223372036854775808 ≤ x) (h2 : x ≤ 9223372036854775807) : Ev (fun k => K.reredosref01_Of.f k x) (numS x) := of_ev _ x (Nat.le_refl _) h1 h2
theorem numOf_ev (x : Int) (h1 : -9223372036854775808 ≤ x) (h2 : x ≤ 9223372036854775807) : Hd.numOf.f x = some (numS x) := by
  unfold Hd.numOf.f
  rw [if_pos ⟨h1, h2⟩]
  rfl

/-! ### Int -/
def i64P (z : Int) : Prop := -9223372036854775808 ≤ z ∧ z ≤ 9223372036854775807
instance (z : Int) : Decidable (i64P z) := by unfold i64P; exact inferInstance
def intOfZ (z : Int) : Int × Bool := if i64P z then (z, true) else (0, false)
theorem val_take_le (l : List UInt8) (hd : Dig l) (i : Nat) (hi : i ≤ l.length) : val (l.take i) ≤ val l := by
  have : l = l.take i ++ l.drop i := (List.take_append_drop i l).symm
  conv => rhs; rw [this]
  rw [val_append]
  have h1 : 1 ≤ 10 ^ (l.drop i).length := Nat.one_le_pow _ _ (by decide)
  have := Nat.mul_le_mul_left (val (l.take i)) h1
  omega
theorem int_loop (z : Int) (h : i64P z) : ∀ (d i : Nat), nl z - i ≤ d → i ≤ nl z → Ev (fun k => K.reredosref01_Int.l0 k (numS z) (if z < 0 then -(val ((decDigits z.natAbs).take i) : Int) else (val ((decDigits z.natAbs).take i) : Int)) (i : Int)) (z, true) := by
  have hz1 := h.1
  have hz2 := h.2
  have hnl := nl_i64 h.1 h.2
  have hlen : (decDigits z.natAbs).length = nl z := rfl
  intro d
  induction d with
  | zero =>
    intro i h0 hi
    refine Ev.step (f := fun _ => some (z, true)) (fun k => ?_) (Ev.now _)
    simp only [K.reredosref01_Int.l0]
    rw [size_ev]
    simp only [Option.bind_some]
    rw [ba_size, hlen, if_neg (by omega), List.take_of_length_le (by omega), val_decDigits]
    congr 2
    split <;> omega
  | succ d ih =>
    intro i h0 hi
    by_cases hl : i = nl z
    · refine Ev.step (f := fun _ => some (z, true)) (fun k => ?_) (Ev.now _)
      simp only [K.reredosref01_Int.l0]
      rw [size_ev]
      simp only [Option.bind_some]
      rw [ba_size, hlen, if_neg (by omega), List.take_of_length_le (by omega), val_decDigits]
      congr 2
      split <;> omega
    · have hlt : i < (decDigits z.natAbs).length := by omega
      have hnx := ih (i + 1) (by omega) (by omega)
      have hg : (decDigits z.natAbs).getD i 0 = (decDigits z.natAbs)[i] := by simp [List.getD, List.getElem?_eq_getElem hlt]
      have hdd := dig_decDigits z.natAbs _ (List.getElem_mem hlt)
      have hv : val ((decDigits z.natAbs).take (i + 1)) = 10 * val ((decDigits z.natAbs).take i) + ((decDigits z.natAbs)[i].toNat - 48) := by rw [List.take_succ_eq_append_getElem hlt, val_snoc]
      have hle := val_take_le _ (dig_decDigits z.natAbs) (i + 1) (by omega)
      rw [val_decDigits] at hle
      rw [hv] at hnx hle
      generalize val ((decDigits z.natAbs).take i) = v at *
      refine Ev.step (fun k => ?_) hnx
      simp only [K.reredosref01_Int.l0]
      rw [size_ev, low_ev]
      simp only [Option.bind_some]
      rw [ba_size, hlen, if_pos (by omega), if_pos (by omega), if_pos (by omega), bt_ba _ _ hlt, hg]
      generalize (decDigits z.natAbs)[i].toNat = c at *
      by_cases hn : z < 0
      · rw [if_pos (decide_eq_true hn), if_pos hn, if_pos hn, w64 (x := 10 * -(v : Int)) (by omega) (by omega), w64 (by omega) (by omega), w64 (by omega) (by omega)]
        congr 1
        omega
      · rw [if_neg (by simp [hn]), if_neg hn, if_neg hn, w64 (x := 10 * (v : Int)) (by omega) (by omega), w64 (by omega) (by omega), w64 (by omega) (by omega)]
        congr 1
        omega
theorem j0_no (s : ByteArray) : Ev (fun k => K.reredosref01_Int.j0 k s true) (0, false) := by
  refine Ev.step (f := fun _ => some (0, false)) (fun k => ?_) (Ev.now _)
  simp only [K.reredosref01_Int.j0]
  rw [if_pos trivial]
theorem max64 : (⟨#[57, 50, 50, 51, 51, 55, 50, 48, 51, 54, 56, 53, 52, 55, 55, 53, 56, 48, 55]⟩ : ByteArray) = numS 9223372036854775807 := by
  unfold numS
  rw [itoa_pos' (by decide), show (9223372036854775807 : Int).natAbs = val [57, 50, 50, 51, 51, 55, 50, 48, 51, 54, 56, 53, 52, 55, 55, 53, 56, 48, 55] by decide, canon _ ((all_dig _).mp (by decide)) (by intro c r e; simp at e; rw [← e.1]; decide) (by simp)]
theorem min64 : (⟨#[45, 57, 50, 50, 51, 51, 55, 50, 48, 51, 54, 56, 53, 52, 55, 55, 53, 56, 48, 56]⟩ : ByteArray) = numS (-9223372036854775808) := by
  unfold numS
  rw [itoa_neg' (by decide), show (-9223372036854775808 : Int).natAbs = val [57, 50, 50, 51, 51, 55, 50, 48, 51, 54, 56, 53, 52, 55, 55, 53, 56, 48, 56] by decide, canon _ ((all_dig _).mp (by decide)) (by intro c r e; simp at e; rw [← e.1]; decide) (by simp)]
theorem refInt_ev (z : Int) (h : Sm z) : Ev (fun k => K.reredosref01_Int.f k (numS z)) (intOfZ z) := by
  unfold K.reredosref01_Int.f
  refine Ev.bind (numS_may h) ?_
  simp only [if_true]
  rw [max64, min64]
  refine Ev.bind (cmp_ev z 9223372036854775807 h (sm_i64 (by decide) (by decide))) ?_
  by_cases h1 : z ≤ 9223372036854775807
  · have e1 : ¬ sgn (z - 9223372036854775807) > 0 := by unfold sgn; split <;> (try split) <;> omega
    simp only [e1, if_false]
    refine Ev.bind (cmp_ev z (-9223372036854775808) h (sm_i64 (by decide) (by decide))) ?_
    by_cases h2 : -9223372036854775808 ≤ z
    · have e2 : ¬ sgn (z - -9223372036854775808) < 0 := by unfold sgn; split <;> (try split) <;> omega
      rw [decide_eq_false e2]
      unfold intOfZ
      rw [if_pos ⟨h2, h1⟩]
      have hl := int_loop z ⟨h2, h1⟩ _ 0 (Nat.le_refl _) (by omega)
      rw [List.take_zero, val_nil, show (if z < 0 then -((0 : Nat) : Int) else ((0 : Nat) : Int)) = 0 by split <;> rfl] at hl
      refine Ev.step (fun k => ?_) hl
      simp only [K.reredosref01_Int.j0]
      rw [if_neg (by decide)]
      rfl
    · have e2 : sgn (z - -9223372036854775808) < 0 := by unfold sgn; rw [if_pos (by omega)]; decide
      rw [decide_eq_true e2]
      unfold intOfZ
      rw [if_neg (fun e => h2 e.1)]
      exact j0_no _
  · have e1 : sgn (z - 9223372036854775807) > 0 := by unfold sgn; rw [if_neg (by omega), if_neg (by omega)]; decide
    simp only [e1, if_true]
    unfold intOfZ
    rw [if_neg (fun e => h1 e.2)]
    exact j0_no _
theorem refInt_no (l : List UInt8) (hl : l.length ≤ 1000000000) (h : mayL l = false) : Ev (fun k => K.reredosref01_Int.f k (BA l)) (0, false) := by
  have := refMay_ev l hl
  rw [h] at this
  unfold K.reredosref01_Int.f
  refine Ev.bind this ?_
  simp only [Bool.false_eq_true, if_false]
  exact j0_no _
theorem parseM (l : List UInt8) (hd : Dig l) : ∀ acc, acc ≤ 18446744073709551615 → parseUintM (2 ^ 64 - 1) acc l = if acc * 10 ^ l.length + val l ≤ 18446744073709551615 then .ok (acc * 10 ^ l.length + val l) else .range := by
  induction l with
  | nil =>
    intro acc h
    simp [parseUintM, val, h]
  | cons c r ih =>
    intro acc h
    have hc := hd c (by simp)
    have hdr : Dig r := fun x hx => hd x (by simp [hx])
    have hp : 1 ≤ 10 ^ r.length := Nat.one_le_pow _ _ (by decide)
    have e : acc * 10 ^ (c :: r).length + val (c :: r) = (acc * 10 + (c.toNat - 48)) * 10 ^ r.length + val r := by
      rw [val_cons, List.length_cons, Nat.pow_succ, Nat.add_mul, Nat.mul_comm (10 ^ r.length) 10, ← Nat.mul_assoc]
      omega
    have hge : acc * 10 + (c.toNat - 48) ≤ (acc * 10 + (c.toNat - 48)) * 10 ^ r.length := Nat.le_mul_of_pos_right _ hp
    rw [e]
    unfold parseUintM
    rw [if_pos hc]
    by_cases h1 : 1844674407370955162 ≤ acc
    · rw [if_pos h1, if_neg (by omega)]
    · rw [if_neg h1]
      by_cases h2 : 2 ^ 64 - 1 < acc * 10 + (c.toNat - 48)
      · rw [if_pos h2, if_neg (by omega)]
      · rw [if_neg h2, ih hdr _ (by omega)]
theorem parseU (n : Nat) : parseUintB 64 (decDigits n) = if n ≤ 18446744073709551615 then .ok n else .range := by
  unfold parseUintB
  rw [if_neg (decDigits_ne n), parseM _ (dig_decDigits n) 0 (by decide), val_decDigits, Nat.zero_mul, Nat.zero_add]
theorem parse_itoa (z : Int) : parseIntB 64 (itoa z) = if i64P z then .ok z else .range := by
  by_cases hn : z < 0
  · rw [itoa_neg' hn]
    unfold parseIntB
    simp only
    rw [if_pos (by decide), parseU]
    by_cases h1 : z.natAbs ≤ 18446744073709551615
    · rw [if_pos h1]
      simp only
      rw [if_neg (by simp)]
      by_cases h2 : 2 ^ (64 - 1) < z.natAbs
      · rw [if_pos ⟨by decide, h2⟩, if_neg (fun e => by have := e.1; omega)]
      · rw [if_neg (fun e => h2 e.2), if_pos (by decide), if_pos ⟨by omega, by omega⟩]
        congr 1
        omega
    · rw [if_neg h1, if_neg (fun e => by have := e.1; omega)]
  · rw [itoa_pos' hn]
    obtain ⟨c, r, e, h1, h2⟩ := head_dec z.natAbs
    have hp := parseU z.natAbs
    rw [e] at hp ⊢
    unfold parseIntB
    simp only
    rw [if_neg (by omega), hp]
    by_cases h3 : z.natAbs ≤ 18446744073709551615
    · rw [if_pos h3]
      simp only
      by_cases h4 : 2 ^ (64 - 1) ≤ z.natAbs
      · rw [if_pos ⟨by omega, h4⟩, if_neg (fun e => by have := e.2; omega)]
      · rw [if_neg (fun e => h4 e.2), if_neg (fun e => by omega), if_neg (by omega), if_pos ⟨by omega, by omega⟩]
        congr 1
        omega
    · rw [if_neg h3, if_neg (fun e => by have := e.2; omega)]
theorem numInt_ev (z : Int) (h : Sm z) : Hd.numInt.f (numS z) = some (intOfZ z) := by
  unfold Hd.numInt.f
  have hs : (numS z).size ≤ 101 := by
    have := itoa_len z
    have := sm_nl h
    rw [show (numS z).size = (itoa z).length from ba_size _]
    omega
  rw [if_pos (by omega), show K.num_May.f (numS z) = some true from by rw [← may_num z h]; exact may_ev _]
  simp only [Option.bind_some, if_true]
  rw [show (numS z).data.toList = itoa z from ba_data _, parse_itoa]
  unfold intOfZ
  by_cases hi : i64P z
  · rw [if_pos hi, if_pos hi]
  · rw [if_neg hi, if_neg hi]
theorem numInt_no (l : List UInt8) (hl : l.length ≤ 1000000000) (h : mayL l = false) : Hd.numInt.f (BA l) = some (0, false) := by
  unfold Hd.numInt.f
  rw [if_pos (by rw [ba_size]; omega), may_ev, h]
  rfl

end Go.Proofs.YtdbheoffkfmcpaaDoor.Nm
