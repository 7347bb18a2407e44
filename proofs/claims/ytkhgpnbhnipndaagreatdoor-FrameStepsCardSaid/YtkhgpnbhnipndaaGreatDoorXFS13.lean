/- What the law leans on, part 14: declarations of several texts of ours, in their order. -/
import Derived.RowKit
import Derived.Lib.ParseIntB
import Derived.Lib.ItoaNum
import Derived.KernelRfl
import Derived.Lib.SpaceUEq
import Derived.Laws.Bits64
import Derived.Lib.TrimUEq
section
/- Decimal digits, numbers and their parts, plainly. -/
namespace Go.Proofs.YtkhgpnbhnipndaaGreatDoor.Nm
open Go.Lib Go.RowKit
set_option linter.unusedVariables false
set_option linter.unusedSimpArgs false
abbrev BA (l : List UInt8) : ByteArray := ⟨l.toArray⟩
theorem ba_of (s : ByteArray) : s = BA s.data.toList := by cases s; simp [BA]
theorem ba_size (l : List UInt8) : (BA l).size = l.length := by simp [BA, ByteArray.size]
theorem ba_data (l : List UInt8) : (BA l).data.toList = l := by simp [BA]
theorem ba_list (l : List UInt8) : (BA l).toList = l := by simp [BA]
theorem ba_append (l m : List UInt8) : BA l ++ BA m = BA (l ++ m) := by
  apply ByteArray.ext
  simp [BA]
theorem ba_extract1 (c : UInt8) (l : List UInt8) : (BA (c :: l)).extract 1 (BA (c :: l)).size = BA l := by
  apply ByteArray.ext
  rw [ByteArray.data_extract]
  apply Array.ext'
  simp [BA, ByteArray.size]
def Dig (l : List UInt8) : Prop := ∀ c ∈ l, 48 ≤ c.toNat ∧ c.toNat ≤ 57
def val (l : List UInt8) : Nat := l.foldl (fun n c => 10 * n + (c.toNat - 48)) 0
theorem val_nil : val [] = 0 := rfl
theorem val_snoc (l : List UInt8) (c : UInt8) : val (l ++ [c]) = 10 * val l + (c.toNat - 48) := by simp [val]
theorem foldl_val (l : List UInt8) : ∀ n : Nat, l.foldl (fun n c => 10 * n + (c.toNat - 48)) n = n * 10 ^ l.length + val l := by
  induction l with
  | nil => intro n; simp [val]
  | cons c l ih =>
    intro n
    have h2 : val (c :: l) = (10 * 0 + (c.toNat - 48)) * 10 ^ l.length + val l := by rw [← ih]; rfl
    rw [List.foldl_cons, ih, h2, List.length_cons, Nat.pow_succ]
    generalize 10 ^ l.length = p
    rw [Nat.add_mul, Nat.add_mul, Nat.mul_comm 10 n, Nat.mul_assoc n 10 p, Nat.mul_comm 10 p]
    omega
theorem val_cons (c : UInt8) (l : List UInt8) : val (c :: l) = (c.toNat - 48) * 10 ^ l.length + val l := by
  rw [val, List.foldl_cons, foldl_val]
  simp
theorem val_append (l m : List UInt8) : val (l ++ m) = val l * 10 ^ m.length + val m := by rw [val, List.foldl_append, foldl_val]; rfl
theorem val_lt (l : List UInt8) (h : Dig l) : val l < 10 ^ l.length := by
  induction l with
  | nil => simp [val]
  | cons c l ih =>
    have h1 := ih (fun x hx => h x (by simp [hx]))
    have h2 := (h c (by simp)).2
    rw [val_cons, List.length_cons, Nat.pow_succ]
    have : (c.toNat - 48) * 10 ^ l.length ≤ 9 * 10 ^ l.length := Nat.mul_le_mul_right _ (by omega)
    omega
theorem dig_ofNat (n : Nat) (h : n < 10) : (UInt8.ofNat (48 + n)).toNat = 48 + n := by
  rw [UInt8.toNat_ofNat']
  omega
theorem dig_decDigits (n : Nat) : Dig (decDigits n) := by
  induction n using Nat.strongRecOn with
  | _ n ih =>
    unfold decDigits
    split
    · intro c hc
      simp only [List.mem_singleton] at hc
      subst hc
      rw [dig_ofNat _ (by omega)]
      omega
    · intro c hc
      rcases List.mem_append.mp hc with hc | hc
      · exact ih (n / 10) (by omega) c hc
      · simp only [List.mem_singleton] at hc
        subst hc
        rw [dig_ofNat _ (by omega)]
        omega
theorem val_decDigits (n : Nat) : val (decDigits n) = n := by
  induction n using Nat.strongRecOn with
  | _ n ih =>
    unfold decDigits
    split
    · rw [val_cons, dig_ofNat _ (by omega)]
      simp [val]
    · rw [val_snoc, ih (n / 10) (by omega), dig_ofNat _ (by omega)]
      omega
theorem decDigits_ne (n : Nat) : decDigits n ≠ [] := by
  unfold decDigits
  split <;> simp
theorem ofNat_toNat (c : UInt8) : UInt8.ofNat c.toNat = c := by simp
/-- a list of digits without a zero ahead is the numeral of its value -/
theorem canon : ∀ (l : List UInt8), Dig l → (∀ c r, l = c :: r → c.toNat ≠ 48) → l ≠ [] → decDigits (val l) = l := by
  intro l
  induction hn : l.length generalizing l with
  | zero => intro _ _ h; exact absurd (List.length_eq_zero_iff.mp hn) h
  | succ n ih =>
    intro hd hh hne
    obtain ⟨m, c, rfl⟩ : ∃ m c, l = m ++ [c] := ⟨l.dropLast, l.getLast hne, (List.dropLast_concat_getLast hne).symm⟩
    have hc := hd c (by simp)
    rw [val_snoc]
    by_cases hm : m = []
    · subst hm
      rw [val_nil, decDigits_one (by omega)]
      simp only [Nat.mul_zero, Nat.zero_add, List.nil_append]
      rw [show 48 + (c.toNat - 48) = c.toNat by omega, ofNat_toNat]
    · have hmd : Dig m := fun x hx => hd x (by simp [hx])
      have hmh : ∀ c' r, m = c' :: r → c'.toNat ≠ 48 := fun c' r e => hh c' (r ++ [c]) (by rw [e]; rfl)
      have hi := ih m (by simp at hn; exact hn) hmd hmh hm
      have hpos : 0 < val m := by
        cases m with
        | nil => exact absurd rfl hm
        | cons a r =>
          have h1 := hmh a r rfl
          have h2 := hmd a (by simp)
          rw [val_cons]
          have : 0 < (a.toNat - 48) * 10 ^ r.length := Nat.mul_pos (by omega) (Nat.pow_pos (by decide))
          omega
      rw [decDigits, dif_neg (by omega), show (10 * val m + (c.toNat - 48)) / 10 = val m by omega, hi, show (10 * val m + (c.toNat - 48)) % 10 = c.toNat - 48 by omega, show 48 + (c.toNat - 48) = c.toNat by omega, ofNat_toNat]
theorem decDigits_zero : decDigits 0 = [48] := decDigits_one (by decide)
theorem decDigits_head (n : Nat) (h : 0 < n) : ∀ c r, decDigits n = c :: r → c.toNat ≠ 48 := by
  induction n using Nat.strongRecOn with
  | _ n ih =>
    intro c r
    rw [decDigits]
    split
    · intro e
      simp only [List.cons.injEq] at e
      rw [← e.1, dig_ofNat _ (by omega)]
      omega
    · intro e
      have hne := decDigits_ne (n / 10)
      cases hd : decDigits (n / 10) with
      | nil => exact absurd hd hne
      | cons a m =>
        rw [hd] at e
        simp only [List.cons_append, List.cons.injEq] at e
        rw [← e.1]
        exact ih (n / 10) (by omega) (by omega) a m hd
/-- how long a numeral is -/
theorem len_le (n k : Nat) (hk : 0 < k) (h : n < 10 ^ k) : (decDigits n).length ≤ k := by
  induction k generalizing n with
  | zero => omega
  | succ k ih =>
    rw [decDigits]
    split
    · simp
    · rename_i h10
      have hk' : 0 < k := by
        rcases Nat.eq_zero_or_pos k with e | e
        · subst e; simp at h; omega
        · exact e
      have := ih (n / 10) hk' (by rw [Nat.pow_succ] at h; omega)
      simp
      omega
theorem lt_of_len (n k : Nat) (h : (decDigits n).length ≤ k) : n < 10 ^ k := by
  have h1 := val_lt _ (dig_decDigits n)
  rw [val_decDigits] at h1
  exact Nat.lt_of_lt_of_le h1 (Nat.pow_le_pow_right (by decide) h)
theorem dig_cons {c : UInt8} {l : List UInt8} (h1 : 48 ≤ c.toNat ∧ c.toNat ≤ 57) (h : Dig l) : Dig (c :: l) := fun x hx => by
  rcases List.mem_cons.mp hx with rfl | hx
  · exact h1
  · exact h x hx
theorem dig_fig {d : Nat} {l : List UInt8} (hd : d < 10) (h : Dig l) : Dig (UInt8.ofNat (48 + d) :: l) := dig_cons (by rw [dig_ofNat _ hd]; omega) h
theorem val_fig (d : Nat) (l : List UInt8) (hd : d < 10) : val (UInt8.ofNat (48 + d) :: l) = d * 10 ^ l.length + val l := by
  rw [val_cons, dig_ofNat _ hd, Nat.add_sub_cancel_left]
/-- a figure, from the end -/
theorem dg_val (l : List UInt8) (hd : Dig l) (i : Nat) (h : i < l.length) : (l.getD (l.length - 1 - i) 0).toNat - 48 = val l / 10 ^ i % 10 := by
  have hj : l.length - 1 - i < l.length := by omega
  obtain ⟨p, c, s, hl, hs⟩ : ∃ p c s, l = p ++ c :: s ∧ s.length = i := ⟨l.take (l.length - 1 - i), l[l.length - 1 - i], l.drop (l.length - 1 - i + 1), by
    rw [← List.drop_eq_getElem_cons hj, List.take_append_drop], by simp; omega⟩
  have hp : l.length - 1 - i = p.length := by rw [hl]; simp; omega
  have hg : l.getD (l.length - 1 - i) 0 = c := by rw [hp, hl]; simp [List.getD]
  have hcd := hd c (by rw [hl]; simp)
  have hsd : val s < 10 ^ i := by rw [← hs]; exact val_lt s (fun x hx => hd x (by rw [hl]; simp [hx]))
  rw [hg, hl, val_append, val_cons, List.length_cons, hs, Nat.pow_succ]
  have e : val p * (10 ^ i * 10) + ((c.toNat - 48) * 10 ^ i + val s) = val s + 10 ^ i * (val p * 10 + (c.toNat - 48)) := by
    rw [Nat.mul_add, Nat.mul_left_comm (val p) (10 ^ i) 10, Nat.mul_comm (10 ^ i) (c.toNat - 48)]
    omega
  rw [e, Nat.add_mul_div_left _ _ (Nat.pow_pos (by decide)), Nat.div_eq_of_lt hsd]
  omega
theorem low_step (A i : Nat) : A % 10 ^ (i + 1) = A % 10 ^ i + 10 ^ i * (A / 10 ^ i % 10) := Nat.mod_pow_succ
def cmpN (x y : Nat) : Int := if x < y then -1 else if y < x then 1 else 0
theorem len_lt_val (x y : Nat) (h : (decDigits x).length < (decDigits y).length) : x < y := by
  rcases Nat.lt_or_ge x y with h1 | h1
  · exact h1
  · exfalso
    have h2 := lt_of_len x (decDigits x).length (Nat.le_refl _)
    have := len_le y (decDigits x).length (by have := List.length_pos_iff.mpr (decDigits_ne x); omega) (by omega)
    omega
/-! ### NumC -/
def numS (z : Int) : ByteArray := BA (itoa z)
def nl (z : Int) : Nat := (decDigits z.natAbs).length
theorem itoa_neg' {z : Int} (h : z < 0) : itoa z = 45 :: decDigits z.natAbs := by unfold itoa; rw [if_pos h]
theorem itoa_pos' {z : Int} (h : ¬ z < 0) : itoa z = decDigits z.natAbs := by unfold itoa; rw [if_neg h, show z.toNat = z.natAbs by omega]
theorem numS_neg {z : Int} (h : z < 0) : numS z = BA (45 :: decDigits z.natAbs) := by unfold numS; rw [itoa_neg' h]
theorem numS_pos {z : Int} (h : ¬ z < 0) : numS z = BA (decDigits z.natAbs) := by unfold numS; rw [itoa_pos' h]
theorem nl_pos (z : Int) : 0 < nl z := List.length_pos_iff.mpr (decDigits_ne _)
theorem nl_le {z : Int} {k : Nat} (hk : 0 < k) (h : z.natAbs < 10 ^ k) : nl z ≤ k := len_le _ _ hk h
theorem nl_lt {z : Int} {k : Nat} (h : nl z ≤ k) : z.natAbs < 10 ^ k := lt_of_len _ _ h
theorem nl_neg (x : Int) : nl (-x) = nl x := by unfold nl; rw [Int.natAbs_neg]
theorem nl_mul (x y : Int) : nl (x * y) ≤ nl x + nl y := by
  refine nl_le (by have := nl_pos x; omega) ?_
  rw [Int.natAbs_mul, Nat.pow_add]
  exact Nat.mul_lt_mul'' (nl_lt (Nat.le_refl _)) (nl_lt (Nat.le_refl _))
theorem head_dec (n : Nat) : ∃ c r, decDigits n = c :: r ∧ 48 ≤ c.toNat ∧ c.toNat ≤ 57 := by
  cases h : decDigits n with
  | nil => exact absurd h (decDigits_ne n)
  | cons c r => exact ⟨c, r, rfl, dig_decDigits n c (by rw [h]; simp)⟩
theorem dec_zero_iff (n : Nat) : decDigits n = [48] ↔ n = 0 := by
  constructor
  · intro h
    have := val_decDigits n
    rw [h] at this
    simpa [val] using this.symm
  · rintro rfl
    exact decDigits_zero
theorem dec_mono {x y : Nat} (h : x ≤ y) : (decDigits x).length ≤ (decDigits y).length := by
  rcases Nat.lt_or_ge (decDigits y).length (decDigits x).length with h1 | h1
  · have := len_lt_val _ _ h1
    omega
  · exact h1
theorem dec_add {x y k : Nat} (hx : (decDigits x).length ≤ k) (hy : (decDigits y).length ≤ k) : (decDigits (x + y)).length ≤ k + 1 := by
  refine len_le _ _ (by omega) ?_
  have h1 := lt_of_len x k hx
  have h2 := lt_of_len y k hy
  rw [Nat.pow_succ]
  omega
theorem dec_mul {x y k l : Nat} (hk : 0 < k + l) (hx : x < 10 ^ k) (hy : y < 10 ^ l) : (decDigits (x * y)).length ≤ k + l := by
  refine len_le _ _ hk ?_
  rw [Nat.pow_add]
  exact Nat.mul_lt_mul'' hx hy
def told (z : Int) : ByteArray × Int := if z.natAbs < 10 ^ 100 then (numS z, 0) else (BA [], 8)
/-! ### NumD -/
def digB (c : UInt8) : Bool := decide (48 ≤ c.toNat) && decide (c.toNat ≤ 57)
theorem digB_iff (c : UInt8) : digB c = true ↔ 48 ≤ c.toNat ∧ c.toNat ≤ 57 := by simp [digB]
theorem all_dig (l : List UInt8) : l.all digB = true ↔ Dig l := by
  rw [List.all_eq_true]
  exact ⟨fun h c hc => (digB_iff c).mp (h c hc), fun h c hc => (digB_iff c).mpr (h c hc)⟩
/-- what stands behind the sign -/
def body : List UInt8 → List UInt8
  | [] => []
  | c :: r => if c.toNat = 45 then r else c :: r
theorem body_cons (c : UInt8) (r : List UInt8) : body (c :: r) = if c.toNat = 45 then r else c :: r := rfl
def mayL (l : List UInt8) : Bool := l == [48] || (decide (1 ≤ (body l).length) && decide ((body l).length ≤ 100) && (((body l).headD 0).toNat != 48) && (body l).all digB)
theorem body_itoa (z : Int) : body (itoa z) = decDigits z.natAbs := by
  by_cases h : z < 0
  · rw [itoa_neg' h]
    simp [body]
  · rw [itoa_pos' h]
    obtain ⟨c, r, e, h1, h2⟩ := head_dec z.natAbs
    rw [e]
    rw [body_cons, if_neg (by omega)]
theorem may_num (z : Int) (h : z.natAbs < 10 ^ 100) : mayL (itoa z) = true := by
  by_cases h0 : z = 0
  · subst h0
    have : itoa 0 = [48] := by rw [itoa_pos' (by omega)]; exact decDigits_zero
    rw [this]
    decide
  · have h1 := len_le _ 100 (by decide) h
    obtain ⟨c, r, e, h2, h3⟩ := head_dec z.natAbs
    have h4 := decDigits_head z.natAbs (by omega) c r e
    unfold mayL
    rw [body_itoa]
    have h5 := (all_dig _).mpr (dig_decDigits z.natAbs)
    rw [h5, decide_eq_true h1]
    have h6 : 1 ≤ (decDigits z.natAbs).length := by rw [e]; simp
    rw [decide_eq_true h6, e]
    simp [h4]
theorem num_of_may (l : List UInt8) (h : mayL l = true) : ∃ z : Int, l = itoa z ∧ z.natAbs < 10 ^ 100 := by
  unfold mayL at h
  rcases Bool.or_eq_true_iff.mp h with h | h
  · refine ⟨0, ?_, by decide⟩
    rw [itoa_pos' (by omega)]
    rw [eq_of_beq h]
    exact decDigits_zero.symm
  · simp only [Bool.and_eq_true, decide_eq_true_eq, bne_iff_ne] at h
    obtain ⟨⟨⟨h1, h2⟩, h3⟩, h4⟩ := h
    have hd := (all_dig _).mp h4
    have hne : body l ≠ [] := fun e => by rw [e] at h1; simp at h1
    have hh : ∀ c r, body l = c :: r → c.toNat ≠ 48 := fun c r e => by rw [e] at h3; exact h3
    have hc := canon _ hd hh hne
    have hv : val (body l) < 10 ^ 100 := Nat.lt_of_lt_of_le (val_lt _ hd) (Nat.pow_le_pow_right (by decide) h2)
    have hp : 0 < val (body l) := by
      cases hb : body l with
      | nil => exact absurd hb hne
      | cons c r =>
        have := hh c r hb
        have := hd c (by rw [hb]; simp)
        rw [val_cons]
        have : 0 < (c.toNat - 48) * 10 ^ r.length := Nat.mul_pos (by omega) (Nat.pow_pos (by decide))
        omega
    cases l with
    | nil => exact absurd rfl hne
    | cons c r =>
      by_cases hc45 : c.toNat = 45
      · have hb : body (c :: r) = r := by rw [body_cons, if_pos hc45]
        rw [hb] at hc hv hp
        refine ⟨-(val r : Int), ?_, by omega⟩
        rw [itoa_neg' (by omega), Int.natAbs_neg, Int.natAbs_natCast, hc]
        congr 1
        exact UInt8.toNat_inj.mp hc45
      · have hb : body (c :: r) = c :: r := by rw [body_cons, if_neg hc45]
        rw [hb] at hc hv hp
        refine ⟨(val (c :: r) : Int), ?_, by omega⟩
        rw [itoa_pos' (by omega), Int.natAbs_natCast, hc]
theorem decode_asc (s : ByteArray) (p : Nat) (h : (s.data.toList.getD p 0).toNat < 128) : Utf8.decode s p = ((s.data.toList.getD p 0).toNat, 1) := by rw [decode_N, decodeN_ascii _ _ _ _ _ h]
theorem decode_high (s : ByteArray) (p : Nat) (h : 128 ≤ (s.data.toList.getD p 0).toNat) : 128 ≤ (Utf8.decode s p).1 := by
  rw [decode_N]
  rcases decodeN_cases (s.data.toList.length - p) (s.data.toList.getD p 0).toNat (s.data.toList.getD (p + 1) 0).toNat (s.data.toList.getD (p + 2) 0).toNat (s.data.toList.getD (p + 3) 0).toNat with ⟨h1, _⟩ | ⟨_, _, _, h1, e⟩ | ⟨_, _, _, _, h1, e⟩ | ⟨h1, _⟩ | e
  · omega
  · rw [e]; exact h1
  · rw [e]; simp only; omega
  · omega
  · rw [e]; decide
theorem extract0 (c : UInt8) (r : List UInt8) : ((BA (c :: r)).extract 0 1).toList = [c] := by
  have : (BA (c :: r)).extract 0 1 = BA [c] := by
    apply ByteArray.ext
    rw [ByteArray.data_extract]
    apply Array.ext'
    simp [BA]
  rw [this, ba_list]
/-! ### NumE -/
def sgn (z : Int) : Int := if z < 0 then -1 else if z = 0 then 0 else 1
def Sm (z : Int) : Prop := z.natAbs < 10 ^ 100
theorem sm_nl {z : Int} (h : Sm z) : nl z ≤ 100 := nl_le (by decide) h
theorem sm_i64 {z : Int} (h1 : -9223372036854775808 ≤ z) (h2 : z ≤ 9223372036854775807) : Sm z := Nat.lt_of_lt_of_le (show z.natAbs < 10 ^ 19 by omega) (Nat.pow_le_pow_right (by decide) (by decide))
theorem sm_neg {z : Int} (h : Sm z) : Sm (-z) := by unfold Sm; rw [Int.natAbs_neg]; exact h
theorem itoa_len (z : Int) : (itoa z).length ≤ nl z + 1 := by
  by_cases h : z < 0
  · rw [itoa_neg' h]; exact Nat.le_refl _
  · rw [itoa_pos' h]; exact Nat.le_succ _
theorem itoa_zero_iff (z : Int) : itoa z = [48] ↔ z = 0 := by
  constructor
  · intro h
    by_cases hn : z < 0
    · rw [itoa_neg' hn] at h
      simp at h
    · rw [itoa_pos' hn, dec_zero_iff] at h
      omega
  · rintro rfl
    rw [itoa_pos' (by omega)]
    exact decDigits_zero
theorem numS_list (z : Int) : (numS z).toList = itoa z := ba_list _
def bnd (z : Int) : Int := if z.natAbs < 10 ^ 100 then z else if z < 0 then -1 else 1
theorem bnd_sm (z : Int) : Sm (bnd z) := by
  unfold bnd Sm
  by_cases h : z.natAbs < 10 ^ 100
  · rw [if_pos h]; exact h
  · rw [if_neg h]
    split <;> decide
theorem bnd_sgn (z : Int) : sgn (bnd z) = sgn z := by
  unfold bnd
  by_cases h : z.natAbs < 10 ^ 100
  · rw [if_pos h]
  · rw [if_neg h]
    have h0 : z ≠ 0 := fun e => h (by rw [e]; decide)
    unfold sgn
    by_cases hn : z < 0
    · rw [if_pos hn, if_pos hn]; rfl
    · rw [if_neg hn, if_neg hn, if_neg h0]; rfl
theorem val_take_le (l : List UInt8) (hd : Dig l) (i : Nat) (hi : i ≤ l.length) : val (l.take i) ≤ val l := by
  have : l = l.take i ++ l.drop i := (List.take_append_drop i l).symm
  conv => rhs; rw [this]
  rw [val_append]
  have h1 : 1 ≤ 10 ^ (l.drop i).length := Nat.one_le_pow _ _ (by decide)
  have := Nat.mul_le_mul_left (val (l.take i)) h1
  omega
theorem parseM (l : List UInt8) (hd : Dig l) : ∀ acc, acc ≤ 18446744073709551615 → parseUintM (2 ^ 64 - 1) acc l = if acc * 10 ^ l.length + val l ≤ 18446744073709551615 then .ok (acc * 10 ^ l.length + val l) else .range := by
  induction l with
  | nil =>
    intro acc h
    simp [parseUintM, val, h]
  | cons c r ih =>
    intro acc h
    have hc := hd c (by simp)
    have hdr : Dig r := fun x hx => hd x (by simp [hx])
    have hp : 1 ≤ 10 ^ r.length := Nat.one_le_pow _ _ (by decide)
    have e : acc * 10 ^ (c :: r).length + val (c :: r) = (acc * 10 + (c.toNat - 48)) * 10 ^ r.length + val r := by
      rw [val_cons, List.length_cons, Nat.pow_succ, Nat.add_mul, Nat.mul_comm (10 ^ r.length) 10, ← Nat.mul_assoc]
      omega
    have hge : acc * 10 + (c.toNat - 48) ≤ (acc * 10 + (c.toNat - 48)) * 10 ^ r.length := Nat.le_mul_of_pos_right _ hp
    rw [e]
    unfold parseUintM
    rw [if_pos hc]
    by_cases h1 : 1844674407370955162 ≤ acc
    · rw [if_pos h1, if_neg (by omega)]
    · rw [if_neg h1]
      by_cases h2 : 2 ^ 64 - 1 < acc * 10 + (c.toNat - 48)
      · rw [if_pos h2, if_neg (by omega)]
      · rw [if_neg h2, ih hdr _ (by omega)]
/-! ### NumM -/
def il (m : List Nat) : List Int := m.map (fun x : Nat => (x : Int))
theorem il_len (m : List Nat) : (il m).length = m.length := by simp [il]
theorem il_getD (m : List Nat) (i : Nat) : (il m).getD i 0 = ((m.getD i 0 : Nat) : Int) := by
  unfold il
  simp only [List.getD_eq_getElem?_getD, List.getElem?_map]
  cases m[i]? <;> rfl
def mv : List Nat → Nat
  | [] => 0
  | x :: l => x + 1000000000 * mv l
def Pt (m : List Nat) : Prop := ∀ x ∈ m, x < 1000000000
theorem mv_append (a b : List Nat) : mv (a ++ b) = mv a + 1000000000 ^ a.length * mv b := by
  induction a with
  | nil => simp [mv]
  | cons x l ih =>
    rw [List.cons_append, mv, ih, mv, List.length_cons, Nat.pow_succ, Nat.mul_add, Nat.mul_comm (1000000000 ^ l.length) 1000000000, Nat.mul_assoc]
    omega
theorem mv_snoc (a : List Nat) (x : Nat) : mv (a ++ [x]) = mv a + 1000000000 ^ a.length * x := by rw [mv_append]; simp [mv]
theorem mv_lt (m : List Nat) (h : Pt m) : mv m < 1000000000 ^ m.length := by
  induction m with
  | nil => simp [mv]
  | cons x l ih =>
    have h1 := ih (fun y hy => h y (by simp [hy]))
    have h2 := h x (by simp)
    rw [mv, List.length_cons, Nat.pow_succ]
    generalize 1000000000 ^ l.length = p at *
    omega
theorem pt_append {a b : List Nat} (ha : Pt a) (hb : Pt b) : Pt (a ++ b) := fun x hx => by
  rcases List.mem_append.mp hx with h | h
  · exact ha x h
  · exact hb x h
theorem pt_one {x : Nat} (h : x < 1000000000) : Pt [x] := fun y hy => by simp at hy; omega
/-- part i -/
theorem part (m : List Nat) (h : Pt m) (i : Nat) : m.getD i 0 = mv m / 1000000000 ^ i % 1000000000 := by
  induction m generalizing i with
  | nil => simp [mv]
  | cons x l ih =>
    have hl : Pt l := fun y hy => h y (by simp [hy])
    have hx := h x (by simp)
    cases i with
    | zero =>
      rw [mv, Nat.pow_zero, Nat.div_one]
      simp
      omega
    | succ i =>
      have e : (x :: l).getD (i + 1) 0 = l.getD i 0 := by simp [List.getD]
      rw [e, ih hl i, mv, Nat.pow_succ, Nat.mul_comm (1000000000 ^ i) 1000000000, ← Nat.div_div_eq_div_mul]
      congr 2
      omega
/-- a number's parts -/
def mg (n : Nat) : List Nat := if h : n = 0 then [] else n % 1000000000 :: mg (n / 1000000000)
termination_by n
decreasing_by exact Nat.div_lt_self (by omega) (by decide)
theorem mg_zero : mg 0 = [] := by rw [mg, dif_pos rfl]
theorem mg_pos {n : Nat} (h : n ≠ 0) : mg n = n % 1000000000 :: mg (n / 1000000000) := by rw [mg, dif_neg h]
theorem mg_nil {n : Nat} : mg n = [] ↔ n = 0 := by
  constructor
  · intro h
    by_cases h0 : n = 0
    · exact h0
    · rw [mg_pos h0] at h; cases h
  · rintro rfl; exact mg_zero
theorem mv_mg (n : Nat) : mv (mg n) = n := by
  induction n using Nat.strongRecOn with
  | _ n ih =>
    by_cases h : n = 0
    · subst h; rw [mg_zero]; rfl
    · rw [mg_pos h, mv, ih _ (Nat.div_lt_self (by omega) (by decide))]
      omega
theorem pt_mg (n : Nat) : Pt (mg n) := by
  induction n using Nat.strongRecOn with
  | _ n ih =>
    by_cases h : n = 0
    · subst h; rw [mg_zero]; intro x hx; cases hx
    · rw [mg_pos h]
      intro x hx
      rcases List.mem_cons.mp hx with rfl | hx
      · exact Nat.mod_lt _ (by decide)
      · exact ih _ (Nat.div_lt_self (by omega) (by decide)) x hx
theorem mv_pos {m : List Nat} (h : ∀ p x, m = p ++ [x] → x ≠ 0) (hne : m ≠ []) : 0 < mv m := by
  obtain ⟨p, x, rfl⟩ : ∃ p x, m = p ++ [x] := ⟨m.dropLast, m.getLast hne, (List.dropLast_concat_getLast hne).symm⟩
  rw [mv_snoc]
  have := h p x rfl
  have : 0 < 1000000000 ^ p.length * x := Nat.mul_pos (Nat.pow_pos (by decide)) (by omega)
  omega
theorem canonM (m : List Nat) (hp : Pt m) (h : ∀ p x, m = p ++ [x] → x ≠ 0) : mg (mv m) = m := by
  induction m with
  | nil => exact mg_zero
  | cons x l ih =>
    have hl : Pt l := fun y hy => hp y (by simp [hy])
    have hx := hp x (by simp)
    have h' : ∀ p y, l = p ++ [y] → y ≠ 0 := fun p y e => h (x :: p) y (by rw [e]; rfl)
    have hpos := mv_pos h (by simp)
    rw [mg_pos (by omega)]
    rw [mv]
    congr 1
    · omega
    · rw [show (x + 1000000000 * mv l) / 1000000000 = mv l by omega]
      exact ih hl h'
theorem mg_last (n : Nat) : ∀ p x, mg n = p ++ [x] → x ≠ 0 := by
  induction n using Nat.strongRecOn with
  | _ n ih =>
    intro p x e
    by_cases h : n = 0
    · subst h; rw [mg_zero] at e; simp at e
    · rw [mg_pos h] at e
      cases p with
      | nil =>
        simp only [List.nil_append, List.cons.injEq] at e
        have h1 := mg_nil.mp e.2
        have h2 := e.1
        omega
      | cons y q =>
        simp only [List.cons_append, List.cons.injEq] at e
        exact ih _ (Nat.div_lt_self (by omega) (by decide)) q x e.2
theorem low_stepB (A i : Nat) : A % 1000000000 ^ (i + 1) = A % 1000000000 ^ i + 1000000000 ^ i * (A / 1000000000 ^ i % 1000000000) := Nat.mod_pow_succ
/-! ### NumP -/
theorem mv_zeros (n : Nat) : mv (List.replicate n 0) = 0 := by
  induction n with
  | zero => rfl
  | succ n ih => rw [List.replicate_succ, mv, ih]
theorem pt_zeros (n : Nat) : Pt (List.replicate n 0) := fun x hx => by rw [List.eq_of_mem_replicate hx]; decide
theorem pt_set {m : List Nat} (h : Pt m) (i x : Nat) (hx : x < 1000000000) : Pt (m.set i x) := fun y hy => by
  rcases List.mem_or_eq_of_mem_set hy with h1 | h1
  · exact h y h1
  · rw [h1]; exact hx
theorem mv_set (m : List Nat) (i x : Nat) (hi : i < m.length) : mv (m.set i x) + m.getD i 0 * 1000000000 ^ i = mv m + x * 1000000000 ^ i := by
  induction m generalizing i with
  | nil => simp at hi
  | cons y l ih =>
    cases i with
    | zero =>
      rw [List.set_cons_zero, mv, mv]
      simp
      omega
    | succ i =>
      have h := ih i (by simpa using hi)
      have e : (y :: l).getD (i + 1) 0 = l.getD i 0 := by simp [List.getD]
      rw [List.set_cons_succ, mv, mv, e, Nat.pow_succ, ← Nat.mul_assoc, ← Nat.mul_assoc]
      generalize l.getD i 0 * 1000000000 ^ i = q1 at *
      generalize x * 1000000000 ^ i = q2 at *
      omega
theorem cmpN_zero (x y : Nat) : cmpN x y = 0 ↔ x = y := by
  unfold cmpN
  split
  · constructor <;> omega
  · split <;> constructor <;> omega
theorem mg_low {n : Nat} (h : n ≠ 0) : 1000000000 ^ ((mg n).length - 1) ≤ n := by
  have hl := mg_last n
  have hne : mg n ≠ [] := fun e => h (mg_nil.mp e)
  obtain ⟨p, x, e⟩ : ∃ p x, mg n = p ++ [x] := ⟨(mg n).dropLast, (mg n).getLast hne, (List.dropLast_concat_getLast hne).symm⟩
  have hx := hl p x e
  have hv := mv_mg n
  rw [e, mv_snoc] at hv
  rw [e]
  simp only [List.length_append, List.length_cons, List.length_nil, Nat.zero_add, Nat.add_sub_cancel]
  have : 1000000000 ^ p.length * 1 ≤ 1000000000 ^ p.length * x := Nat.mul_le_mul_left _ (by omega)
  omega
theorem mg_len_lt {x y : Nat} (h : (mg x).length < (mg y).length) : x < y := by
  have hy : y ≠ 0 := fun e => by rw [e, mg_zero] at h; simp at h
  have h1 := mv_lt (mg x) (pt_mg x)
  rw [mv_mg] at h1
  exact Nat.lt_of_lt_of_le h1 (Nat.le_trans (Nat.pow_le_pow_right (by decide) (by omega)) (mg_low hy))
/-! ### NumQ -/
theorem ba_drop (l : List UInt8) (i : Nat) (hi : i ≤ l.length) : (BA l).extract i (BA l).size = BA (l.drop i) := by
  apply ByteArray.ext
  rw [ByteArray.data_extract]
  apply Array.ext'
  simp [BA, ByteArray.size]
  exact List.take_of_length_le (by simp)
theorem ba_take (l : List UInt8) (i : Nat) (hi : i ≤ l.length) : (BA l).extract 0 i = BA (l.take i) := by
  apply ByteArray.ext
  rw [ByteArray.data_extract]
  apply Array.ext'
  simp [BA]
theorem dig_drop {l : List UInt8} (h : Dig l) (i : Nat) : Dig (l.drop i) := fun c hc => h c (List.mem_of_mem_drop hc)
theorem dig_take {l : List UInt8} (h : Dig l) (i : Nat) : Dig (l.take i) := fun c hc => h c (List.mem_of_mem_take hc)
theorem val_split (l : List UInt8) (i : Nat) : val l = val (l.take i) * 10 ^ (l.length - i) + val (l.drop i) := by
  conv => lhs; rw [← List.take_append_drop i l]
  rw [val_append, List.length_drop]
def wh (z : Int) : List Int × Bool := (il (mg z.natAbs), decide (z < 0))
def tx : List Nat → List UInt8
  | [] => []
  | [x] => decDigits x
  | x :: y :: l => tx (y :: l) ++ (List.replicate (9 - (decDigits x).length) 48 ++ decDigits x)
theorem dig_rep (n : Nat) : Dig (List.replicate n 48) := fun c hc => by rw [List.eq_of_mem_replicate hc]; decide
theorem dig_app {a b : List UInt8} (ha : Dig a) (hb : Dig b) : Dig (a ++ b) := fun c hc => by
  rcases List.mem_append.mp hc with h | h
  · exact ha c h
  · exact hb c h
theorem val_rep (n : Nat) (l : List UInt8) : val (List.replicate n 48 ++ l) = val l := by
  induction n with
  | zero => rfl
  | succ n ih =>
    rw [List.replicate_succ, List.cons_append, val_cons, ih]
    simp
theorem dec_len9 {x : Nat} (h : x < 1000000000) : (decDigits x).length ≤ 9 := len_le x 9 (by decide) h
theorem tx_dig : ∀ m : List Nat, Dig (tx m)
  | [] => fun _ h => by cases h
  | [x] => dig_decDigits x
  | x :: y :: l => dig_app (tx_dig (y :: l)) (dig_app (dig_rep _) (dig_decDigits x))
theorem tx_val : ∀ m : List Nat, Pt m → val (tx m) = mv m
  | [], _ => rfl
  | [x], _ => by rw [tx, val_decDigits]; simp [mv]
  | x :: y :: l, h => by
    have h9 := dec_len9 (h x (by simp))
    rw [tx, val_append, val_rep, val_decDigits, tx_val (y :: l) (fun z hz => h z (by simp at hz ⊢; exact .inr hz)), List.length_append, List.length_replicate, show 9 - (decDigits x).length + (decDigits x).length = 9 by omega]
    rw [show mv (x :: y :: l) = x + 1000000000 * mv (y :: l) from rfl]
    omega
theorem tx_head : ∀ m : List Nat, m ≠ [] → (∀ p x, m = p ++ [x] → x ≠ 0) → tx m ≠ [] ∧ ∀ c r, tx m = c :: r → c.toNat ≠ 48
  | [], h, _ => absurd rfl h
  | [x], _, h => ⟨decDigits_ne x, decDigits_head x (Nat.pos_of_ne_zero (h [] x rfl))⟩
  | x :: y :: l, _, h => by
    obtain ⟨h1, h2⟩ := tx_head (y :: l) (by simp) (fun p z e => h (x :: p) z (by rw [e]; rfl))
    rw [tx]
    cases ht : tx (y :: l) with
    | nil => exact absurd ht h1
    | cons c r =>
      refine ⟨by simp, fun c' r' e => ?_⟩
      simp only [List.cons_append, List.cons.injEq] at e
      rw [← e.1]
      exact h2 c r ht
theorem tx_mg (n : Nat) (h : n ≠ 0) : tx (mg n) = decDigits n := by
  obtain ⟨h1, h2⟩ := tx_head (mg n) (fun e => h (mg_nil.mp e)) (mg_last n)
  have := canon (tx (mg n)) (tx_dig _) h2 h1
  rw [tx_val _ (pt_mg n), mv_mg] at this
  exact this.symm
/-- part i of n parts, as the code writes it -/
def ck (m : List Nat) (i : Nat) : List UInt8 := if i < m.length - 1 then List.replicate (9 - (decDigits (m.getD i 0)).length) 48 ++ decDigits (m.getD i 0) else decDigits (m.getD i 0)
theorem ck_flat : ∀ (m : List Nat), (List.range m.length).reverse.flatMap (ck m) = tx m
  | [] => rfl
  | [x] => by simp [ck, tx]
  | x :: y :: l => by
    have ih := ck_flat (y :: l)
    have e : List.range (x :: y :: l).length = 0 :: (List.range (y :: l).length).map Nat.succ := by
      rw [List.length_cons, List.range_succ_eq_map]
    rw [e, List.reverse_cons, List.flatMap_append, ← List.map_reverse, List.flatMap_map, tx, ← ih]
    congr 1
    · congr 1
      funext i
      have h1 : (x :: y :: l).getD (i + 1) 0 = (y :: l).getD i 0 := by simp [List.getD]
      unfold ck
      rw [h1]
      have h2 : (i + 1 < (x :: y :: l).length - 1) = (i < (y :: l).length - 1) := by simp only [List.length_cons, eq_iff_iff]; omega
      simp only [Nat.succ_eq_add_one, h2]
    · simp [ck]
/-! ### NumR -/
instance decSm (z : Int) : Decidable (Sm z) := by unfold Sm; exact inferInstance
/-- a size with a sign -/
def sv (n : Nat) (b : Bool) : Int := if b = true then -(n : Int) else (n : Int)
theorem sv_abs (z : Int) : sv z.natAbs (decide (z < 0)) = z := by
  unfold sv
  by_cases h : z < 0
  · rw [if_pos (decide_eq_true h)]; omega
  · rw [if_neg (by simp [h])]; omega
theorem mg_len {n k : Nat} (h : n < 10 ^ k) : (mg n).length ≤ k + 1 := by
  by_cases h0 : n = 0
  · subst h0; rw [mg_zero]; simp
  · have h1 := mg_low h0
    have h2 : 10 ^ k ≤ 1000000000 ^ k := Nat.pow_le_pow_left (by decide) k
    rcases Nat.lt_or_ge (k + 1) (mg n).length with h3 | h3
    · have h4 : 1000000000 ^ k ≤ 1000000000 ^ ((mg n).length - 1) := Nat.pow_le_pow_right (by decide) (by omega)
      omega
    · exact h3
theorem mg_len_nl {n : Nat} {k : Nat} (h : (decDigits n).length ≤ k) : (mg n).length ≤ k + 1 := mg_len (lt_of_len n k h)
def plusW (x : Nat) (a : Bool) (y : Nat) (b : Bool) : Nat × Bool := if (a == b) = true then (x + y, a) else if x < y then (y - x, b) else (x - y, a)
theorem plusW_sv (x : Nat) (a : Bool) (y : Nat) (b : Bool) : sv (plusW x a y b).1 (plusW x a y b).2 = sv x a + sv y b := by
  unfold plusW sv
  by_cases hlt : x < y
  · cases a <;> cases b <;> simp [hlt] <;> omega
  · cases a <;> cases b <;> simp [hlt] <;> omega
theorem itoa_inj {x y : Int} (h : itoa x = itoa y) : x = y := by
  have h1 := congrArg body h
  rw [body_itoa, body_itoa] at h1
  have h2 := congrArg val h1
  rw [val_decDigits, val_decDigits] at h2
  by_cases hx : x < 0
  · by_cases hy : y < 0
    · omega
    · exfalso
      rw [itoa_neg' hx, itoa_pos' hy] at h
      obtain ⟨c, r, e, h3, h4⟩ := head_dec y.natAbs
      rw [e] at h
      simp only [List.cons.injEq] at h
      rw [← h.1] at h3
      exact absurd h3 (by decide)
  · by_cases hy : y < 0
    · exfalso
      rw [itoa_pos' hx, itoa_neg' hy] at h
      obtain ⟨c, r, e, h3, h4⟩ := head_dec x.natAbs
      rw [e] at h
      simp only [List.cons.injEq] at h
      rw [h.1] at h3
      exact absurd h3 (by decide)
    · omega
theorem may_iff (z : Int) : mayL (itoa z) = decide (Sm z) := by
  by_cases h : Sm z
  · rw [may_num z h, decide_eq_true h]
  · rw [decide_eq_false h]
    refine Bool.eq_false_iff.mpr (fun e => h ?_)
    obtain ⟨z', e1, h1⟩ := num_of_may _ e
    rw [itoa_inj e1]
    exact h1
theorem plusW_len (x : Nat) (a : Bool) (y : Nat) (b : Bool) (hx : (decDigits x).length ≤ 1000) (hy : (decDigits y).length ≤ 1000) : (mg (plusW x a y b).1).length ≤ 1000000 := by
  have h : (plusW x a y b).1 ≤ x + y := by unfold plusW; split <;> (try split) <;> simp only <;> omega
  have h1 := Nat.le_trans (dec_mono h) (dec_add hx hy)
  have := mg_len_nl h1
  omega
/-! ### NumV -/
def fl (x y : Int) : Int := if 0 < y then x / y else (-x) / (-y)
def fm (x y : Int) : Int := x - y * fl x y
theorem neg_div (X Y : Nat) (hY : 0 < Y) : (-(X : Int)) / (Y : Int) = if X % Y = 0 then -((X / Y : Nat) : Int) else -((X / Y : Nat) : Int) - 1 := by
  have h1 := Nat.div_add_mod X Y
  have h2 := Nat.mod_lt X hY
  generalize X / Y = q at *
  generalize X % Y = r at *
  have h3 : (X : Int) = (Y : Int) * (q : Int) + (r : Int) := by rw [← h1]; simp
  by_cases h : r = 0
  · rw [if_pos h]
    refine ((Int.ediv_emod_unique (show (0 : Int) < Y by omega)).2 ⟨?_, Int.le_refl 0, by omega⟩).1
    rw [h3, h, Int.mul_neg]
    simp
  · rw [if_neg h]
    refine ((Int.ediv_emod_unique (r := (Y : Int) - r) (show (0 : Int) < Y by omega)).2 ⟨?_, by omega, by omega⟩).1
    rw [h3, Int.mul_sub, Int.mul_neg, Int.mul_one]
    omega
theorem plusW_neg (x : Nat) (a : Bool) (y : Nat) (b : Bool) : (plusW x a y b).1 ≠ 0 → ((plusW x a y b).2 = true ↔ sv x a + sv y b < 0) := by
  intro h
  rw [← plusW_sv]
  generalize plusW x a y b = p at *
  obtain ⟨n, c⟩ := p
  simp only at h ⊢
  cases c with
  | true => simp [sv] <;> omega
  | false => simp [sv] <;> omega
theorem told_or (z : Int) : (told z = (numS z, 0) ∧ Sm z) ∨ (told z = (BA [], 8) ∧ ¬ Sm z) := by
  by_cases h : Sm z
  · exact .inl ⟨if_pos h, h⟩
  · exact .inr ⟨if_neg h, h⟩
theorem litS (n : Nat) (l : List UInt8) (hd : l.all digB = true) (hv : val l = n) (hh : (l.headD 0).toNat ≠ 48) (hne : l ≠ []) : BA l = numS (n : Int) := by
  rw [numS_pos (by omega), Int.natAbs_natCast, ← hv, canon l ((all_dig l).mp hd) (fun c r e => by rw [e] at hh; exact hh) hne]
/-! ### NumW -/
theorem ba_one (l : List UInt8) (i : Nat) (h : i < l.length) : (BA l).extract i (i + 1) = BA [l.getD i 0] := by
  apply ByteArray.ext
  rw [ByteArray.data_extract]
  apply Array.ext'
  simp only [BA, Array.toList_extract, List.extract, Nat.add_sub_cancel_left]
  rw [List.drop_eq_getElem_cons h, List.take_succ_cons, List.take_zero, List.getD, List.getElem?_eq_getElem h]
  rfl
theorem take_val (l : List UInt8) (i : Nat) (h : i < l.length) : val (l.take (i + 1)) = 10 * val (l.take i) + ((l.getD i 0).toNat - 48) := by
  rw [List.take_succ_eq_append_getElem h, val_snoc]
  simp [List.getD, List.getElem?_eq_getElem h]
theorem parts_step (T d Y : Nat) (hY : 0 < Y) (hd : d < 10) : (10 * (T % Y) + d) / Y ≤ 9 ∧ (10 * T + d) / Y = 10 * (T / Y) + (10 * (T % Y) + d) / Y ∧ (10 * T + d) % Y = (10 * (T % Y) + d) % Y := by
  have h1 := Nat.div_add_mod T Y
  have h2 := Nat.mod_lt T hY
  generalize T / Y = q at *
  generalize T % Y = r at *
  subst h1
  have e : 10 * (Y * q + r) + d = (10 * r + d) + Y * (10 * q) := by rw [Nat.mul_add, Nat.mul_left_comm]; omega
  rw [e, Nat.add_mul_div_left _ _ hY, Nat.add_mul_mod_self_left]
  refine ⟨?_, by omega, rfl⟩
  have : (10 * r + d) / Y < 10 := (Nat.div_lt_iff_lt_mul hY).2 (by omega)
  omega
theorem fl_sv (X : Nat) (a : Bool) (Y : Nat) (b : Bool) (hY : 0 < Y) : fl (sv X a) (sv Y b) = if a = b then ((X / Y : Nat) : Int) else if X % Y = 0 then -((X / Y : Nat) : Int) else -((X / Y : Nat) : Int) - 1 := by
  have hYi : (0 : Int) < (Y : Int) := by omega
  have nd := neg_div X Y hY
  cases a <;> cases b
  · rw [if_pos rfl]
    show (if (0 : Int) < (Y : Int) then (X : Int) / (Y : Int) else _) = _
    rw [if_pos hYi]
    rfl
  · rw [if_neg (by decide), ← nd]
    show (if (0 : Int) < -(Y : Int) then _ else (-(X : Int)) / (-(-(Y : Int)))) = _
    rw [if_neg (by omega), Int.neg_neg]
  · rw [if_neg (by decide), ← nd]
    show (if (0 : Int) < (Y : Int) then (-(X : Int)) / (Y : Int) else _) = _
    rw [if_pos hYi]
  · rw [if_pos rfl]
    show (if (0 : Int) < -(Y : Int) then _ else (-(-(X : Int))) / (-(-(Y : Int)))) = _
    rw [if_neg (by omega), Int.neg_neg, Int.neg_neg]
    rfl
theorem fl_abs (x y : Int) (hy : y ≠ 0) : (fl x y).natAbs ≤ x.natAbs + 1 := by
  have h := fl_sv x.natAbs (decide (x < 0)) y.natAbs (decide (y < 0)) (by omega)
  rw [sv_abs, sv_abs] at h
  have h2 := Nat.div_le_self x.natAbs y.natAbs
  rw [h]
  generalize x.natAbs / y.natAbs = q at *
  split
  · omega
  · split <;> omega
theorem fl_nl (x y : Int) (hx : Sm x) (hy : y ≠ 0) : nl (fl x y) ≤ 101 := by
  refine nl_le (by decide) ?_
  have h1 := fl_abs x y hy
  have h2 : x.natAbs < 10 ^ 100 := hx
  have h3 : (10 : Nat) ^ 101 = 10 ^ 100 * 10 := by rw [show 101 = 100 + 1 from rfl, Nat.pow_succ]
  rw [h3]
  generalize (10 : Nat) ^ 100 = P at *
  omega
end Go.Proofs.YtkhgpnbhnipndaaGreatDoor.Nm
end
