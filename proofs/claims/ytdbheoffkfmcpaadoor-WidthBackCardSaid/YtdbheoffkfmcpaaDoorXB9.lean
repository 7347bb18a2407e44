/- What the law leans on, part 10: declarations of several texts of ours, in their order. -/
import Derived.Test.YtdbheoffkfmcpaaDoorXB4
import Derived.Lib.SpaceUEq
import Derived.DataShut
import Derived.Test.YtdbheoffkfmcpaaDoorXB5
import Derived.Test.YtdbheoffkfmcpaaDoorXB7
import Derived.Test.YtdbheoffkfmcpaaDoorXB8
section
/- Decimal digits, plainly: the value of a list of digits, the numeral of a number, and what stripping of zeros does, at every list. -/
namespace Go.Proofs.YtdbheoffkfmcpaaDoor.Nm
open Go.Lib Go.RowKit Go.Proofs.YtdbheoffkfmcpaaDoorW.PrintWords Go.Proofs.YtdbheoffkfmcpaaDoorW.PrintLast Go.Proofs.YtdbheoffkfmcpaaDoor
set_option linter.unusedVariables false
set_option linter.unusedSimpArgs false
theorem w64 {x : Int} (h1 : -9223372036854775808 ≤ x) (h2 : x ≤ 9223372036854775807) : wrap64 x = x := by unfold wrap64; omega
/-! ### bytes -/
abbrev BA (l : List UInt8) : ByteArray := ⟨l.toArray⟩
theorem ba_size (l : List UInt8) : (BA l).size = l.length := by simp [BA, ByteArray.size]
theorem ba_data (l : List UInt8) : (BA l).data.toList = l := by simp [BA]
theorem ba_list (l : List UInt8) : (BA l).toList = l := by simp [BA]
theorem bt_ba (l : List UInt8) (i : Nat) (h : i < l.length) : bt (BA l) (i : Int) = ((l.getD i 0).toNat : Int) := by
  unfold bt
  have h1 : ((i : Int)).toNat < (BA l).size := by rw [ba_size]; omega
  rw [dif_pos h1]
  simp [BA, List.getD, List.getElem?_eq_getElem h]
  rfl
theorem bt_head (c : UInt8) (l : List UInt8) : bt (BA (c :: l)) 0 = (c.toNat : Int) := bt_ba (c :: l) 0 (by simp)
theorem ba_extract1 (c : UInt8) (l : List UInt8) : (BA (c :: l)).extract 1 (BA (c :: l)).size = BA l := by
  apply ByteArray.ext
  rw [ByteArray.data_extract]
  apply Array.ext'
  simp [BA, ByteArray.size]
/-! ### digits -/
def Dig (l : List UInt8) : Prop := ∀ c ∈ l, 48 ≤ c.toNat ∧ c.toNat ≤ 57
def val (l : List UInt8) : Nat := l.foldl (fun n c => 10 * n + (c.toNat - 48)) 0
theorem val_nil : val [] = 0 := rfl
theorem val_snoc (l : List UInt8) (c : UInt8) : val (l ++ [c]) = 10 * val l + (c.toNat - 48) := by simp [val]
theorem foldl_val (l : List UInt8) : ∀ n : Nat, l.foldl (fun n c => 10 * n + (c.toNat - 48)) n = n * 10 ^ l.length + val l := by
  induction l with
  | nil => intro n; simp [val]
  | cons c l ih =>
    intro n
    have h2 : val (c :: l) = (10 * 0 + (c.toNat - 48)) * 10 ^ l.length + val l := by rw [← ih]; rfl
    rw [List.foldl_cons, ih, h2, List.length_cons, Nat.pow_succ]
    generalize 10 ^ l.length = p
    rw [Nat.add_mul, Nat.add_mul, Nat.mul_comm 10 n, Nat.mul_assoc n 10 p, Nat.mul_comm 10 p]
    omega
theorem val_cons (c : UInt8) (l : List UInt8) : val (c :: l) = (c.toNat - 48) * 10 ^ l.length + val l := by
  rw [val, List.foldl_cons, foldl_val]
  simp
theorem val_append (l m : List UInt8) : val (l ++ m) = val l * 10 ^ m.length + val m := by rw [val, List.foldl_append, foldl_val]; rfl
theorem val_lt (l : List UInt8) (h : Dig l) : val l < 10 ^ l.length := by
  induction l with
  | nil => simp [val]
  | cons c l ih =>
    have h1 := ih (fun x hx => h x (by simp [hx]))
    have h2 := (h c (by simp)).2
    rw [val_cons, List.length_cons, Nat.pow_succ]
    have : (c.toNat - 48) * 10 ^ l.length ≤ 9 * 10 ^ l.length := Nat.mul_le_mul_right _ (by omega)
    omega
theorem dig_ofNat (n : Nat) (h : n < 10) : (UInt8.ofNat (48 + n)).toNat = 48 + n := by
  rw [UInt8.toNat_ofNat']
  omega
theorem dig_decDigits (n : Nat) : Dig (decDigits n) := by
  induction n using Nat.strongRecOn with
  | _ n ih =>
    unfold decDigits
    split
    · intro c hc
      simp only [List.mem_singleton] at hc
      subst hc
      rw [dig_ofNat _ (by omega)]
      omega
    · intro c hc
      rcases List.mem_append.mp hc with hc | hc
      · exact ih (n / 10) (by omega) c hc
      · simp only [List.mem_singleton] at hc
        subst hc
        rw [dig_ofNat _ (by omega)]
        omega
theorem val_decDigits (n : Nat) : val (decDigits n) = n := by
  induction n using Nat.strongRecOn with
  | _ n ih =>
    unfold decDigits
    split
    · rw [val_cons, dig_ofNat _ (by omega)]
      simp [val]
    · rw [val_snoc, ih (n / 10) (by omega), dig_ofNat _ (by omega)]
      omega
theorem decDigits_ne (n : Nat) : decDigits n ≠ [] := by
  unfold decDigits
  split <;> simp
theorem ofNat_toNat (c : UInt8) : UInt8.ofNat c.toNat = c := by simp
/-- a list of digits without a zero ahead is the numeral of its value -/
theorem canon : ∀ (l : List UInt8), Dig l → (∀ c r, l = c :: r → c.toNat ≠ 48) → l ≠ [] → decDigits (val l) = l := by
  intro l
  induction hn : l.length generalizing l with
  | zero => intro _ _ h; exact absurd (List.length_eq_zero_iff.mp hn) h
  | succ n ih =>
    intro hd hh hne
    obtain ⟨m, c, rfl⟩ : ∃ m c, l = m ++ [c] := ⟨l.dropLast, l.getLast hne, (List.dropLast_concat_getLast hne).symm⟩
    have hc := hd c (by simp)
    rw [val_snoc]
    by_cases hm : m = []
    · subst hm
      rw [val_nil, decDigits_one (by omega)]
      simp only [Nat.mul_zero, Nat.zero_add, List.nil_append]
      rw [show 48 + (c.toNat - 48) = c.toNat by omega, ofNat_toNat]
    · have hmd : Dig m := fun x hx => hd x (by simp [hx])
      have hmh : ∀ c' r, m = c' :: r → c'.toNat ≠ 48 := fun c' r e => hh c' (r ++ [c]) (by rw [e]; rfl)
      have hi := ih m (by simp at hn; exact hn) hmd hmh hm
      have hpos : 0 < val m := by
        cases m with
        | nil => exact absurd rfl hm
        | cons a r =>
          have h1 := hmh a r rfl
          have h2 := hmd a (by simp)
          rw [val_cons]
          have : 0 < (a.toNat - 48) * 10 ^ r.length := Nat.mul_pos (by omega) (Nat.pow_pos (by decide))
          omega
      rw [decDigits, dif_neg (by omega), show (10 * val m + (c.toNat - 48)) / 10 = val m by omega, hi, show (10 * val m + (c.toNat - 48)) % 10 = c.toNat - 48 by omega, show 48 + (c.toNat - 48) = c.toNat by omega, ofNat_toNat]
theorem decDigits_zero : decDigits 0 = [48] := decDigits_one (by decide)
theorem decDigits_head (n : Nat) (h : 0 < n) : ∀ c r, decDigits n = c :: r → c.toNat ≠ 48 := by
  induction n using Nat.strongRecOn with
  | _ n ih =>
    intro c r
    rw [decDigits]
    split
    · intro e
      simp only [List.cons.injEq] at e
      rw [← e.1, dig_ofNat _ (by omega)]
      omega
    · intro e
      have hne := decDigits_ne (n / 10)
      cases hd : decDigits (n / 10) with
      | nil => exact absurd hd hne
      | cons a m =>
        rw [hd] at e
        simp only [List.cons_append, List.cons.injEq] at e
        rw [← e.1]
        exact ih (n / 10) (by omega) (by omega) a m hd
/-- how long a numeral is -/
theorem len_le (n k : Nat) (hk : 0 < k) (h : n < 10 ^ k) : (decDigits n).length ≤ k := by
  induction k generalizing n with
  | zero => omega
  | succ k ih =>
    rw [decDigits]
    split
    · simp
    · rename_i h10
      have hk' : 0 < k := by
        rcases Nat.eq_zero_or_pos k with e | e
        · subst e; simp at h; omega
        · exact e
      have := ih (n / 10) hk' (by rw [Nat.pow_succ] at h; omega)
      simp
      omega
theorem lt_of_len (n k : Nat) (h : (decDigits n).length ≤ k) : n < 10 ^ k := by
  have h1 := val_lt _ (dig_decDigits n)
  rw [val_decDigits] at h1
  exact Nat.lt_of_lt_of_le h1 (Nat.pow_le_pow_right (by decide) h)
end Go.Proofs.YtdbheoffkfmcpaaDoor.Nm
end
section
/- The document's sums and differences of digits, plainly: plus, minus, more come to the numbers' sum, difference, order. -/
namespace Go.Proofs.YtdbheoffkfmcpaaDoor.Nm
open Go.Lib Go.RowKit Go.Proofs.YtdbheoffkfmcpaaDoorW.PrintWords Go.Proofs.YtdbheoffkfmcpaaDoorW.PrintLast Go.Proofs.YtdbheoffkfmcpaaDoor
set_option linter.unusedVariables false
set_option linter.unusedSimpArgs false
theorem tmod_nat (n m : Nat) : Int.tmod (n : Int) (m : Int) = ((n % m : Nat) : Int) := rfl
theorem tdiv_nat (n m : Nat) : Int.tdiv (n : Int) (m : Int) = ((n / m : Nat) : Int) := rfl
theorem mx_nat (a b : Nat) : mx (a : Int) (b : Int) = ((max a b : Nat) : Int) := by
  unfold mx
  split <;> omega
/-! ### more: which size is greater -/
def cmpN (x y : Nat) : Int := if x < y then -1 else if y < x then 1 else 0
theorem len_lt_val (x y : Nat) (h : (decDigits x).length < (decDigits y).length) : x < y := by
  rcases Nat.lt_or_ge x y with h1 | h1
  · exact h1
  · exfalso
    have h2 := lt_of_len x (decDigits x).length (Nat.le_refl _)
    have := len_le y (decDigits x).length (by have := List.length_pos_iff.mpr (decDigits_ne x); omega) (by omega)
    omega
end Go.Proofs.YtdbheoffkfmcpaaDoor.Nm
end
section
/- The document's numbers, plainly: what low, size, signed, sum, turned, product, told come to, at the text of every number. -/
namespace Go.Proofs.YtdbheoffkfmcpaaDoor.Nm
open Go.Lib Go.RowKit Go.Proofs.YtdbheoffkfmcpaaDoorW.PrintWords Go.Proofs.YtdbheoffkfmcpaaDoorW.PrintLast Go.Proofs.YtdbheoffkfmcpaaDoor
set_option linter.unusedVariables false
set_option linter.unusedSimpArgs false
/-- a number's text -/
def numS (z : Int) : ByteArray := BA (itoa z)
def nl (z : Int) : Nat := (decDigits z.natAbs).length
theorem itoa_neg' {z : Int} (h : z < 0) : itoa z = 45 :: decDigits z.natAbs := by unfold itoa; rw [if_pos h]
theorem itoa_pos' {z : Int} (h : ¬ z < 0) : itoa z = decDigits z.natAbs := by unfold itoa; rw [if_neg h, show z.toNat = z.natAbs by omega]
theorem numS_neg {z : Int} (h : z < 0) : numS z = BA (45 :: decDigits z.natAbs) := by unfold numS; rw [itoa_neg' h]
theorem numS_pos {z : Int} (h : ¬ z < 0) : numS z = BA (decDigits z.natAbs) := by unfold numS; rw [itoa_pos' h]
theorem nl_le {z : Int} {k : Nat} (hk : 0 < k) (h : z.natAbs < 10 ^ k) : nl z ≤ k := len_le _ _ hk h
theorem head_dec (n : Nat) : ∃ c r, decDigits n = c :: r ∧ 48 ≤ c.toNat ∧ c.toNat ≤ 57 := by
  cases h : decDigits n with
  | nil => exact absurd h (decDigits_ne n)
  | cons c r => exact ⟨c, r, rfl, dig_decDigits n c (by rw [h]; simp)⟩
theorem dec_mono {x y : Nat} (h : x ≤ y) : (decDigits x).length ≤ (decDigits y).length := by
  rcases Nat.lt_or_ge (decDigits y).length (decDigits x).length with h1 | h1
  · have := len_lt_val _ _ h1
    omega
  · exact h1
theorem dec_add {x y k : Nat} (hx : (decDigits x).length ≤ k) (hy : (decDigits y).length ≤ k) : (decDigits (x + y)).length ≤ k + 1 := by
  refine len_le _ _ (by omega) ?_
  have h1 := lt_of_len x k hx
  have h2 := lt_of_len y k hy
  rw [Nat.pow_succ]
  omega
def told (z : Int) : ByteArray × Int := if z.natAbs < 10 ^ 100 then (numS z, 0) else (BA [], 8)
end Go.Proofs.YtdbheoffkfmcpaaDoor.Nm
end
section
/- Which texts are numbers, plainly: the document's May and the program's May are one and the same, and say that the text is some number's. -/
namespace Go.Proofs.YtdbheoffkfmcpaaDoor.Nm
open Go.Lib Go.RowKit Go.Proofs.YtdbheoffkfmcpaaDoorW.PrintWords Go.Proofs.YtdbheoffkfmcpaaDoorW.PrintLast Go.Proofs.YtdbheoffkfmcpaaDoor
set_option linter.unusedVariables false
set_option linter.unusedSimpArgs false
def digB (c : UInt8) : Bool := decide (48 ≤ c.toNat) && decide (c.toNat ≤ 57)
theorem digB_iff (c : UInt8) : digB c = true ↔ 48 ≤ c.toNat ∧ c.toNat ≤ 57 := by simp [digB]
theorem all_dig (l : List UInt8) : l.all digB = true ↔ Dig l := by
  rw [List.all_eq_true]
  exact ⟨fun h c hc => (digB_iff c).mp (h c hc), fun h c hc => (digB_iff c).mpr (h c hc)⟩
/-- what stands behind the sign -/
def body : List UInt8 → List UInt8
  | [] => []
  | c :: r => if c.toNat = 45 then r else c :: r
theorem body_cons (c : UInt8) (r : List UInt8) : body (c :: r) = if c.toNat = 45 then r else c :: r := rfl
def mayL (l : List UInt8) : Bool := l == [48] || (decide (1 ≤ (body l).length) && decide ((body l).length ≤ 100) && (((body l).headD 0).toNat != 48) && (body l).all digB)
theorem body_itoa (z : Int) : body (itoa z) = decDigits z.natAbs := by
  by_cases h : z < 0
  · rw [itoa_neg' h]
    simp [body]
  · rw [itoa_pos' h]
    obtain ⟨c, r, e, h1, h2⟩ := head_dec z.natAbs
    rw [e]
    rw [body_cons, if_neg (by omega)]
theorem may_num (z : Int) (h : z.natAbs < 10 ^ 100) : mayL (itoa z) = true := by
  by_cases h0 : z = 0
  · subst h0
    have : itoa 0 = [48] := by rw [itoa_pos' (by omega)]; exact decDigits_zero
    rw [this]
    decide
  · have h1 := len_le _ 100 (by decide) h
    obtain ⟨c, r, e, h2, h3⟩ := head_dec z.natAbs
    have h4 := decDigits_head z.natAbs (by omega) c r e
    unfold mayL
    rw [body_itoa]
    have h5 := (all_dig _).mpr (dig_decDigits z.natAbs)
    rw [h5, decide_eq_true h1]
    have h6 : 1 ≤ (decDigits z.natAbs).length := by rw [e]; simp
    rw [decide_eq_true h6, e]
    simp [h4]
theorem num_of_may (l : List UInt8) (h : mayL l = true) : ∃ z : Int, l = itoa z ∧ z.natAbs < 10 ^ 100 := by
  unfold mayL at h
  rcases Bool.or_eq_true_iff.mp h with h | h
  · refine ⟨0, ?_, by decide⟩
    rw [itoa_pos' (by omega)]
    rw [eq_of_beq h]
    exact decDigits_zero.symm
  · simp only [Bool.and_eq_true, decide_eq_true_eq, bne_iff_ne] at h
    obtain ⟨⟨⟨h1, h2⟩, h3⟩, h4⟩ := h
    have hd := (all_dig _).mp h4
    have hne : body l ≠ [] := fun e => by rw [e] at h1; simp at h1
    have hh : ∀ c r, body l = c :: r → c.toNat ≠ 48 := fun c r e => by rw [e] at h3; exact h3
    have hc := canon _ hd hh hne
    have hv : val (body l) < 10 ^ 100 := Nat.lt_of_lt_of_le (val_lt _ hd) (Nat.pow_le_pow_right (by decide) h2)
    have hp : 0 < val (body l) := by
      cases hb : body l with
      | nil => exact absurd hb hne
      | cons c r =>
        have := hh c r hb
        have := hd c (by rw [hb]; simp)
        rw [val_cons]
        have : 0 < (c.toNat - 48) * 10 ^ r.length := Nat.mul_pos (by omega) (Nat.pow_pos (by decide))
        omega
    cases l with
    | nil => exact absurd rfl hne
    | cons c r =>
      by_cases hc45 : c.toNat = 45
      · have hb : body (c :: r) = r := by rw [body_cons, if_pos hc45]
        rw [hb] at hc hv hp
        refine ⟨-(val r : Int), ?_, by omega⟩
        rw [itoa_neg' (by omega), Int.natAbs_neg, Int.natAbs_natCast, hc]
        congr 1
        exact UInt8.toNat_inj.mp hc45
      · have hb : body (c :: r) = c :: r := by rw [body_cons, if_neg hc45]
        rw [hb] at hc hv hp
        refine ⟨(val (c :: r) : Int), ?_, by omega⟩
        rw [itoa_pos' (by omega), Int.natAbs_natCast, hc]
/-! ### the program's May -/
theorem decode_asc (s : ByteArray) (p : Nat) (h : (s.data.toList.getD p 0).toNat < 128) : Utf8.decode s p = ((s.data.toList.getD p 0).toNat, 1) := by rw [decode_N, decodeN_ascii _ _ _ _ _ h]
theorem decode_high (s : ByteArray) (p : Nat) (h : 128 ≤ (s.data.toList.getD p 0).toNat) : 128 ≤ (Utf8.decode s p).1 := by
  rw [decode_N]
  rcases decodeN_cases (s.data.toList.length - p) (s.data.toList.getD p 0).toNat (s.data.toList.getD (p + 1) 0).toNat (s.data.toList.getD (p + 2) 0).toNat (s.data.toList.getD (p + 3) 0).toNat with ⟨h1, _⟩ | ⟨_, _, _, h1, e⟩ | ⟨_, _, _, _, h1, e⟩ | ⟨h1, _⟩ | e
  · omega
  · rw [e]; exact h1
  · rw [e]; simp only; omega
  · omega
  · rw [e]; decide
theorem idx_all (l : List UInt8) : ∀ (d p : Nat), l.length - p ≤ d → p ≤ l.length → decide (0 ≤ idxFuncFrom Hd.notDigit true (BA l) d p) = !((l.drop p).all digB)
  | 0, p, h0, hp => by
    rw [List.drop_of_length_le (by omega)]
    simp [idxFuncFrom]
  | d + 1, p, h0, hp => by
    unfold idxFuncFrom
    rw [ba_size]
    by_cases hlt : p < l.length
    · rw [if_pos hlt, List.drop_eq_getElem_cons hlt, List.all_cons]
      have hg : (BA l).data.toList.getD p 0 = l[p] := by rw [ba_data]; simp [List.getD, List.getElem?_eq_getElem hlt]
      by_cases h128 : l[p].toNat < 128
      · rw [decode_asc _ _ (by rw [hg]; exact h128), hg]
        simp only
        by_cases hd : digB l[p] = true
        · have := (digB_iff _).mp hd
          rw [show Hd.notDigit l[p].toNat = false by simp [Hd.notDigit]; omega, if_neg (by decide), hd, Bool.true_and]
          exact idx_all l d (p + 1) (by omega) (by omega)
        · rw [show Hd.notDigit l[p].toNat = true by simp [digB] at hd; simp [Hd.notDigit]; omega, if_pos rfl, Bool.eq_false_iff.mpr hd]
          simp
      · have hhi := decode_high (BA l) p (by rw [hg]; omega)
        rw [show Hd.notDigit (Utf8.decode (BA l) p).1 = true by simp [Hd.notDigit]; omega, if_pos rfl, show digB l[p] = false by simp [digB]; omega]
        simp
    · rw [if_neg hlt, List.drop_of_length_le (by omega)]
      simp
theorem contains_ev (l : List UInt8) : Hd.containsFunc_May.f (BA l) = some (!(l.all digB)) := by
  unfold Hd.containsFunc_May.f
  have := idx_all l l.length 0 (by omega) (by omega)
  rw [List.drop_zero] at this
  rw [← this]
  unfold idxFunc
  rw [ba_size]
theorem extract0 (c : UInt8) (r : List UInt8) : ((BA (c :: r)).extract 0 1).toList = [c] := by
  have : (BA (c :: r)).extract 0 1 = BA [c] := by
    apply ByteArray.ext
    rw [ByteArray.data_extract]
    apply Array.ext'
    simp [BA]
  rw [this, ba_list]
theorem trim_ev (l : List UInt8) : K.strings_TrimPrefix.f (BA l) (⟨#[45]⟩ : ByteArray) = some (BA (body l)) := by
  unfold K.strings_TrimPrefix.f K.stringslite_TrimPrefix.f K.stringslite_HasPrefix.f
  rw [show (⟨#[45]⟩ : ByteArray) = BA [45] from rfl, ba_size, ba_size]
  cases l with
  | nil => rfl
  | cons c r =>
    rw [if_pos (by simp; omega), if_pos (by simp), if_pos (by simp; omega)]
    simp only [Option.bind_some]
    rw [show ((([45] : List UInt8).length : Nat) : Int).toNat = 1 from rfl, extract0, ba_list]
    by_cases hc : c.toNat = 45
    · have hc' : c = 45 := UInt8.toNat_inj.mp hc
      subst hc'
      rw [if_pos (by decide), if_pos (by simp), if_pos (by simp; omega), show (45 :: r).length = (BA (45 :: r)).size from (ba_size _).symm, ba_extract1]
      rw [body_cons, if_pos hc]
      rfl
    · rw [if_neg (by simp; intro e; exact hc (by rw [e]; rfl))]
      rw [body_cons, if_neg hc]
      rfl
theorem may_ev (l : List UInt8) : K.num_May.f (BA l) = some (mayL l) := by
  unfold K.num_May.f
  rw [trim_ev]
  simp only [Option.bind_some]
  rw [ba_size, ba_list]
  unfold mayL
  by_cases h0 : l = [48]
  · subst h0
    rw [show body [48] = [48] by decide, bt_head, contains_ev]
    rfl
  · rw [show (l == [48]) = false from beq_eq_false_iff_ne.mpr h0, Bool.false_or]
    by_cases h1 : (body l).length < 1
    · rw [if_pos (by omega), decide_eq_false (by omega)]
      rfl
    · rw [if_neg (by omega), decide_eq_true (by omega)]
      by_cases h2 : (body l).length > 100
      · rw [if_pos (by omega), decide_eq_false (by omega)]
        rfl
      · rw [if_neg (by omega), decide_eq_true (by omega), if_pos (by omega)]
        cases hb : body l with
        | nil => rw [hb] at h1; simp at h1
        | cons c r =>
          rw [bt_head, List.headD_cons]
          by_cases h48 : c.toNat = 48
          · rw [if_pos (by omega), if_neg h0, h48]
            rfl
          · rw [if_neg (by omega), contains_ev]
            simp only [Option.bind_some, Bool.not_not]
            rw [show (c.toNat != 48) = true from bne_iff_ne.mpr h48]
            rfl
end Go.Proofs.YtdbheoffkfmcpaaDoor.Nm
end
section
/- The document's answers on numbers, plainly: Sign, Neg, Cmp, Add, Sub, Mul, Of, Int at every text; and the program's Int. -/
namespace Go.Proofs.YtdbheoffkfmcpaaDoor.Nm
open Go.Lib Go.RowKit Go.Proofs.YtdbheoffkfmcpaaDoorW.PrintWords Go.Proofs.YtdbheoffkfmcpaaDoorW.PrintLast Go.Proofs.YtdbheoffkfmcpaaDoor
set_option linter.unusedVariables false
set_option linter.unusedSimpArgs false
def Sm (z : Int) : Prop := z.natAbs < 10 ^ 100
theorem sm_nl {z : Int} (h : Sm z) : nl z ≤ 100 := nl_le (by decide) h
theorem sm_i64 {z : Int} (h1 : -9223372036854775808 ≤ z) (h2 : z ≤ 9223372036854775807) : Sm z := Nat.lt_of_lt_of_le (show z.natAbs < 10 ^ 19 by omega) (Nat.pow_le_pow_right (by decide) (by decide))
theorem itoa_len (z : Int) : (itoa z).length ≤ nl z + 1 := by
  by_cases h : z < 0
  · rw [itoa_neg' h]; exact Nat.le_refl _
  · rw [itoa_pos' h]; exact Nat.le_succ _
theorem numOf_ev (x : Int) (h1 : -9223372036854775808 ≤ x) (h2 : x ≤ 9223372036854775807) : Hd.numOf.f x = some (numS x) := by
  unfold Hd.numOf.f
  rw [if_pos ⟨h1, h2⟩]
  rfl
/-! ### Int -/
def i64P (z : Int) : Prop := -9223372036854775808 ≤ z ∧ z ≤ 9223372036854775807
instance (z : Int) : Decidable (i64P z) := by unfold i64P; exact inferInstance
def intOfZ (z : Int) : Int × Bool := if i64P z then (z, true) else (0, false)
theorem parseM (l : List UInt8) (hd : Dig l) : ∀ acc, acc ≤ 18446744073709551615 → parseUintM (2 ^ 64 - 1) acc l = if acc * 10 ^ l.length + val l ≤ 18446744073709551615 then .ok (acc * 10 ^ l.length + val l) else .range := by
  induction l with
  | nil =>
    intro acc h
    simp [parseUintM, val, h]
  | cons c r ih =>
    intro acc h
    have hc := hd c (by simp)
    have hdr : Dig r := fun x hx => hd x (by simp [hx])
    have hp : 1 ≤ 10 ^ r.length := Nat.one_le_pow _ _ (by decide)
    have e : acc * 10 ^ (c :: r).length + val (c :: r) = (acc * 10 + (c.toNat - 48)) * 10 ^ r.length + val r := by
      rw [val_cons, List.length_cons, Nat.pow_succ, Nat.add_mul, Nat.mul_comm (10 ^ r.length) 10, ← Nat.mul_assoc]
      omega
    have hge : acc * 10 + (c.toNat - 48) ≤ (acc * 10 + (c.toNat - 48)) * 10 ^ r.length := Nat.le_mul_of_pos_right _ hp
    rw [e]
    unfold parseUintM
    rw [if_pos hc]
    by_cases h1 : 1844674407370955162 ≤ acc
    · rw [if_pos h1, if_neg (by omega)]
    · rw [if_neg h1]
      by_cases h2 : 2 ^ 64 - 1 < acc * 10 + (c.toNat - 48)
      · rw [if_pos h2, if_neg (by omega)]
      · rw [if_neg h2, ih hdr _ (by omega)]
theorem parseU (n : Nat) : parseUintB 64 (decDigits n) = if n ≤ 18446744073709551615 then .ok n else .range := by
  unfold parseUintB
  rw [if_neg (decDigits_ne n), parseM _ (dig_decDigits n) 0 (by decide), val_decDigits, Nat.zero_mul, Nat.zero_add]
theorem parse_itoa (z : Int) : parseIntB 64 (itoa z) = if i64P z then .ok z else .range := by
  by_cases hn : z < 0
  · rw [itoa_neg' hn]
    unfold parseIntB
    simp only
    rw [if_pos (by decide), parseU]
    by_cases h1 : z.natAbs ≤ 18446744073709551615
    · rw [if_pos h1]
      simp only
      rw [if_neg (by simp)]
      by_cases h2 : 2 ^ (64 - 1) < z.natAbs
      · rw [if_pos ⟨by decide, h2⟩, if_neg (fun e => by have := e.1; omega)]
      · rw [if_neg (fun e => h2 e.2), if_pos (by decide), if_pos ⟨by omega, by omega⟩]
        congr 1
        omega
    · rw [if_neg h1, if_neg (fun e => by have := e.1; omega)]
  · rw [itoa_pos' hn]
    obtain ⟨c, r, e, h1, h2⟩ := head_dec z.natAbs
    have hp := parseU z.natAbs
    rw [e] at hp ⊢
    unfold parseIntB
    simp only
    rw [if_neg (by omega), hp]
    by_cases h3 : z.natAbs ≤ 18446744073709551615
    · rw [if_pos h3]
      simp only
      by_cases h4 : 2 ^ (64 - 1) ≤ z.natAbs
      · rw [if_pos ⟨by omega, h4⟩, if_neg (fun e => by have := e.2; omega)]
      · rw [if_neg (fun e => h4 e.2), if_neg (fun e => by omega), if_neg (by omega), if_pos ⟨by omega, by omega⟩]
        congr 1
        omega
    · rw [if_neg h3, if_neg (fun e => by have := e.2; omega)]
theorem numInt_ev (z : Int) (h : Sm z) : Hd.numInt.f (numS z) = some (intOfZ z) := by
  unfold Hd.numInt.f
  have hs : (numS z).size ≤ 101 := by
    have := itoa_len z
    have := sm_nl h
    rw [show (numS z).size = (itoa z).length from ba_size _]
    omega
  rw [if_pos (by omega), show K.num_May.f (numS z) = some true from by rw [← may_num z h]; exact may_ev _]
  simp only [Option.bind_some, if_true]
  rw [show (numS z).data.toList = itoa z from ba_data _, parse_itoa]
  unfold intOfZ
  by_cases hi : i64P z
  · rw [if_pos hi, if_pos hi]
  · rw [if_neg hi, if_neg hi]
end Go.Proofs.YtdbheoffkfmcpaaDoor.Nm
end
section
/- Widths, plainly: what the document and the program say of numbers and widths, at every number of 64 bits and every text. -/
namespace Go.Proofs.YtdbheoffkfmcpaaDoor.Nm
open Go.Lib Go.RowKit Go.Proofs.YtdbheoffkfmcpaaDoorW.PrintWords Go.Proofs.YtdbheoffkfmcpaaDoorW.PrintLast Go.Proofs.YtdbheoffkfmcpaaDoor
set_option linter.unusedVariables false
set_option linter.unusedSimpArgs false
instance (z : Int) : Decidable (Sm z) := by unfold Sm; exact inferInstance
def inW (z w : Int) : Bool := if w = 8 then decide (-128 ≤ z) && decide (z ≤ 127) else if w = 16 then decide (-32768 ≤ z) && decide (z ≤ 32767) else if w = 32 then decide (-2147483648 ≤ z) && decide (z ≤ 2147483647) else if w = 64 then decide (-9223372036854775808 ≤ z) && decide (z ≤ 9223372036854775807) else w == 128
theorem i64_of {x : Int} (h : (Lit.int .i64 x).wf = true) : i64P x := (Lit.wf_int_iff .i64 x).mp h
theorem told_sm {z : Int} (h : Sm z) : told z = (numS z, 0) := if_pos h
theorem canonS (n : Nat) (l : List UInt8) (hd : l.all digB = true) (hv : val l = n) (hh : (l.headD 0).toNat ≠ 48) (hne : l ≠ []) : BA l = numS (n : Int) := by
  rw [numS_pos (by omega), Int.natAbs_natCast, ← hv, canon l ((all_dig l).mp hd) (fun c r e => by rw [e] at hh; exact hh) hne]
theorem fits_in {z : Int} (h : i64P z) (w : Int) : Hd.fitsW z w = inW z w := by
  have h1 := h.1
  have h2 := h.2
  unfold Hd.fitsW inW
  by_cases h64 : w = 64
  · subst h64
    simp [h1, h2]
  rw [if_neg h64, if_neg h64]
  by_cases h128 : w = 128
  · subst h128
    simp
  rw [if_neg h128]
  by_cases h8 : w = 8
  · rw [if_pos h8, if_pos h8]
    congr 1
    rw [decide_eq_decide]
    omega
  rw [if_neg h8, if_neg h8]
  by_cases h16 : w = 16
  · rw [if_pos h16, if_pos h16]
    congr 1
    rw [decide_eq_decide]
    omega
  rw [if_neg h16, if_neg h16]
  by_cases h32 : w = 32
  · rw [if_pos h32, if_pos h32]
    congr 1
    rw [decide_eq_decide]
    omega
  rw [if_neg h32, if_neg h32]
  exact (beq_eq_false_iff_ne.mpr h128).symm
theorem i64_sm {z : Int} (h : i64P z) : Sm z := sm_i64 h.1 h.2
theorem fits_e (x w : Int) : Ev (fun k => K.width_Fits.f k x w) (Hd.fitsW x w) := Ev.of (fun k => K.width_Fits.mono x w k) (Hd.fits_ev x w)
/-! ### the width of a text -/
def leastZ (z : Int) : Int := if inW z 8 = true then 8 else if inW z 16 = true then 16 else if inW z 32 = true then 32 else if inW z 64 = true then 64 else 128
theorem least_eq {z : Int} (h : i64P z) : Hd.leastW z = leastZ z := by
  unfold Hd.leastW leastZ
  rw [fits_in h, fits_in h, fits_in h]
  have : inW z 64 = true := by
    have h1 := h.1
    have h2 := h.2
    simp [inW, h1, h2]
  rw [this]
  rfl
theorem least_big {z : Int} (h : ¬ i64P z) : leastZ z = 128 := by
  have hz : z < -9223372036854775808 ∨ 9223372036854775807 < z := by
    by_cases h1 : z < -9223372036854775808
    · exact .inl h1
    · by_cases h2 : 9223372036854775807 < z
      · exact .inr h2
      · exact absurd ⟨by omega, by omega⟩ h
  unfold leastZ
  have e8 : inW z 8 = false := by simp [inW]; omega
  have e16 : inW z 16 = false := by simp [inW]; omega
  have e32 : inW z 32 = false := by simp [inW]; omega
  have e64 : inW z 64 = false := by simp [inW]; omega
  rw [e8, e16, e32, e64]
  rfl
theorem widthOf_ev (z : Int) (h : Sm z) : Hd.widthOf.f (numS z) = some (leastZ z) := by
  unfold Hd.widthOf.f
  rw [numInt_ev z h]
  simp only [Option.bind_some]
  unfold intOfZ
  by_cases hi : i64P z
  · rw [if_pos hi]
    simp only [if_true]
    rw [least_eq hi]
  · rw [if_neg hi, least_big hi]
    rfl
/-! ### two numbers in a width -/
def doW (z a b w : Int) : Int × Bool := if i64P z then (if Hd.fitsW a w = true then (if Hd.fitsW b w = true then (if Hd.fitsW z w = true then (z, true) else (0, false)) else (0, false)) else (0, false)) else (0, false)
theorem add_sm {a b : Int} (ha : i64P a) (hb : i64P b) : Sm (a + b) := by
  have := ha.1; have := ha.2; have := hb.1; have := hb.2
  exact Nat.lt_of_lt_of_le (show (a + b).natAbs < 10 ^ 20 by omega) (Nat.pow_le_pow_right (by decide) (by decide))
theorem told_over (a b n w : Int) : Ev (fun k => K.width_told.f k a b n true w) (0, false) := by
  unfold K.width_told.f
  simp only [if_true]
  exact Ev.now _
theorem told_ok (a b z w : Int) (hz : i64P z) : Ev (fun k => K.width_told.f k a b z false w) (doW z a b w) := by
  unfold K.width_told.f doW
  rw [if_pos hz]
  simp only [Bool.false_eq_true, if_false]
  refine Ev.bind (fits_e a w) ?_
  by_cases h1 : Hd.fitsW a w = true
  · simp only [h1, if_true]
    refine Ev.bind (fits_e b w) ?_
    by_cases h2 : Hd.fitsW b w = true
    · simp only [h2, if_true]
      refine Ev.bind (fits_e z w) ?_
      by_cases h3 : Hd.fitsW z w = true
      · simp only [h3, if_true]
        exact Ev.now _
      · simp only [h3, if_false, Bool.false_eq_true]
        exact Ev.now _
    · simp only [h2, if_false, Bool.false_eq_true]
      exact Ev.now _
  · simp only [h1, if_false, Bool.false_eq_true]
    exact Ev.now _
theorem doW_big {z : Int} (h : ¬ i64P z) (a b w : Int) : doW z a b w = (0, false) := if_neg h
theorem wadd_ev (a b w : Int) (ha : i64P a) (hb : i64P b) : Ev (fun k => K.width_Add.f k a b w) (doW (a + b) a b w) := by
  have h1 := ha.1; have h2 := ha.2; have h3 := hb.1; have h4 := hb.2
  unfold K.width_Add.f
  by_cases hz : i64P (a + b)
  · have e : wrap64 (a + b) = a + b := w64 hz.1 hz.2
    have ho : (decide (wrap64 (a + b) > a) != decide (b > 0)) = false := by
      rw [e, bne_eq_false_iff_eq, decide_eq_decide]
      omega
    rw [ho, e]
    exact Ev.bind (told_ok a b (a + b) w hz) (Ev.now _)
  · have ho : (decide (wrap64 (a + b) > a) != decide (b > 0)) = true := by
      have hr : a + b < -9223372036854775808 ∨ 9223372036854775807 < a + b := by
        by_cases h5 : a + b < -9223372036854775808
        · exact .inl h5
        · by_cases h6 : 9223372036854775807 < a + b
          · exact .inr h6
          · exact absurd ⟨by omega, by omega⟩ hz
      rw [bne_iff_ne, ne_eq, decide_eq_decide]
      unfold wrap64
      omega
    rw [ho, doW_big hz]
    exact Ev.bind (told_over a b _ w) (Ev.now _)
theorem wsub_ev (a b w : Int) (ha : i64P a) (hb : i64P b) : Ev (fun k => K.width_Sub.f k a b w) (doW (a - b) a b w) := by
  have h1 := ha.1; have h2 := ha.2; have h3 := hb.1; have h4 := hb.2
  unfold K.width_Sub.f
  by_cases hz : i64P (a - b)
  · have e : wrap64 (a - b) = a - b := w64 hz.1 hz.2
    have ho : (decide (wrap64 (a - b) < a) != decide (b > 0)) = false := by
      rw [e, bne_eq_false_iff_eq, decide_eq_decide]
      omega
    rw [ho, e]
    exact Ev.bind (told_ok a b (a - b) w hz) (Ev.now _)
  · have ho : (decide (wrap64 (a - b) < a) != decide (b > 0)) = true := by
      have hr : a - b < -9223372036854775808 ∨ 9223372036854775807 < a - b := by
        by_cases h5 : a - b < -9223372036854775808
        · exact .inl h5
        · by_cases h6 : 9223372036854775807 < a - b
          · exact .inr h6
          · exact absurd ⟨by omega, by omega⟩ hz
      rw [bne_iff_ne, ne_eq, decide_eq_decide]
      unfold wrap64
      omega
    rw [ho, doW_big hz]
    exact Ev.bind (told_over a b _ w) (Ev.now _)
/-! ### shown -/
theorem shownW : Ev (fun k => LS.reredoslaw02_shown.f k) true := by
  unfold LS.reredoslaw02_shown.f
  refine Ev.bind (wadd_ev 100 100 8 (by decide) (by decide)) ?_
  refine Ev.bind (wadd_ev 100 100 16 (by decide) (by decide)) ?_
  rw [show doW (100 + 100) 100 100 8 = (0, false) by decide, show doW (100 + 100) 100 100 16 = (200, true) by decide]
  simp only [Bool.false_eq_true, if_false, if_true]
  have e : (⟨#[50, 48, 48]⟩ : ByteArray) = numS 200 := canonS 200 [50, 48, 48] (by decide) (by decide) (by decide) (by simp)
  rw [e, widthOf_ev 200 (by decide)]
  exact Ev.now _
end Go.Proofs.YtdbheoffkfmcpaaDoor.Nm
end
section
/- Sizes in parts of nine figures, plainly: trim, sum, less, product, compare come to the numbers' own sum, difference, product, order. -/
namespace Go.Proofs.YtdbheoffkfmcpaaDoor.Nm
open Go.Lib Go.RowKit Go.Proofs.YtdbheoffkfmcpaaDoorW.PrintWords Go.Proofs.YtdbheoffkfmcpaaDoorW.PrintLast Go.Proofs.YtdbheoffkfmcpaaDoor
set_option linter.unusedVariables false
set_option linter.unusedSimpArgs false
def il (m : List Nat) : List Int := m.map (fun x : Nat => (x : Int))
theorem il_len (m : List Nat) : (il m).length = m.length := by simp [il]
theorem il_getD (m : List Nat) (i : Nat) : (il m).getD i 0 = ((m.getD i 0 : Nat) : Int) := by
  unfold il
  simp only [List.getD_eq_getElem?_getD, List.getElem?_map]
  cases m[i]? <;> rfl
theorem il_append (a b : List Nat) : il (a ++ b) = il a ++ il b := by simp [il]
theorem il_take (m : List Nat) (i : Nat) : il (m.take i) = (il m).take i := by simp [il]
theorem rd_il (m : List Nat) (i : Nat) : rd (il m) (i : Int) = ((m.getD i 0 : Nat) : Int) := by rw [← il_getD]; simp [rd]
def mv : List Nat → Nat
  | [] => 0
  | x :: l => x + 1000000000 * mv l
def Pt (m : List Nat) : Prop := ∀ x ∈ m, x < 1000000000
theorem mv_append (a b : List Nat) : mv (a ++ b) = mv a + 1000000000 ^ a.length * mv b := by
  induction a with
  | nil => simp [mv]
  | cons x l ih =>
    rw [List.cons_append, mv, ih, mv, List.length_cons, Nat.pow_succ, Nat.mul_add, Nat.mul_comm (1000000000 ^ l.length) 1000000000, Nat.mul_assoc]
    omega
theorem mv_snoc (a : List Nat) (x : Nat) : mv (a ++ [x]) = mv a + 1000000000 ^ a.length * x := by rw [mv_append]; simp [mv]
theorem mv_lt (m : List Nat) (h : Pt m) : mv m < 1000000000 ^ m.length := by
  induction m with
  | nil => simp [mv]
  | cons x l ih =>
    have h1 := ih (fun y hy => h y (by simp [hy]))
    have h2 := h x (by simp)
    rw [mv, List.length_cons, Nat.pow_succ]
    generalize 1000000000 ^ l.length = p at *
    omega
theorem pt_append {a b : List Nat} (ha : Pt a) (hb : Pt b) : Pt (a ++ b) := fun x hx => by
  rcases List.mem_append.mp hx with h | h
  · exact ha x h
  · exact hb x h
theorem pt_one {x : Nat} (h : x < 1000000000) : Pt [x] := fun y hy => by simp at hy; omega
/-- part i -/
theorem part (m : List Nat) (h : Pt m) (i : Nat) : m.getD i 0 = mv m / 1000000000 ^ i % 1000000000 := by
  induction m generalizing i with
  | nil => simp [mv]
  | cons x l ih =>
    have hl : Pt l := fun y hy => h y (by simp [hy])
    have hx := h x (by simp)
    cases i with
    | zero =>
      rw [mv, Nat.pow_zero, Nat.div_one]
      simp
      omega
    | succ i =>
      have e : (x :: l).getD (i + 1) 0 = l.getD i 0 := by simp [List.getD]
      rw [e, ih hl i, mv, Nat.pow_succ, Nat.mul_comm (1000000000 ^ i) 1000000000, ← Nat.div_div_eq_div_mul]
      congr 2
      omega
/-- a number's parts -/
def mg (n : Nat) : List Nat := if h : n = 0 then [] else n % 1000000000 :: mg (n / 1000000000)
termination_by n
decreasing_by exact Nat.div_lt_self (by omega) (by decide)
theorem mg_zero : mg 0 = [] := by rw [mg, dif_pos rfl]
theorem mg_pos {n : Nat} (h : n ≠ 0) : mg n = n % 1000000000 :: mg (n / 1000000000) := by rw [mg, dif_neg h]
theorem mg_nil {n : Nat} : mg n = [] ↔ n = 0 := by
  constructor
  · intro h
    by_cases h0 : n = 0
    · exact h0
    · rw [mg_pos h0] at h; cases h
  · rintro rfl; exact mg_zero
theorem mv_mg (n : Nat) : mv (mg n) = n := by
  induction n using Nat.strongRecOn with
  | _ n ih =>
    by_cases h : n = 0
    · subst h; rw [mg_zero]; rfl
    · rw [mg_pos h, mv, ih _ (Nat.div_lt_self (by omega) (by decide))]
      omega
theorem pt_mg (n : Nat) : Pt (mg n) := by
  induction n using Nat.strongRecOn with
  | _ n ih =>
    by_cases h : n = 0
    · subst h; rw [mg_zero]; intro x hx; cases hx
    · rw [mg_pos h]
      intro x hx
      rcases List.mem_cons.mp hx with rfl | hx
      · exact Nat.mod_lt _ (by decide)
      · exact ih _ (Nat.div_lt_self (by omega) (by decide)) x hx
theorem mv_pos {m : List Nat} (h : ∀ p x, m = p ++ [x] → x ≠ 0) (hne : m ≠ []) : 0 < mv m := by
  obtain ⟨p, x, rfl⟩ : ∃ p x, m = p ++ [x] := ⟨m.dropLast, m.getLast hne, (List.dropLast_concat_getLast hne).symm⟩
  rw [mv_snoc]
  have := h p x rfl
  have : 0 < 1000000000 ^ p.length * x := Nat.mul_pos (Nat.pow_pos (by decide)) (by omega)
  omega
theorem canonM (m : List Nat) (hp : Pt m) (h : ∀ p x, m = p ++ [x] → x ≠ 0) : mg (mv m) = m := by
  induction m with
  | nil => exact mg_zero
  | cons x l ih =>
    have hl : Pt l := fun y hy => hp y (by simp [hy])
    have hx := hp x (by simp)
    have h' : ∀ p y, l = p ++ [y] → y ≠ 0 := fun p y e => h (x :: p) y (by rw [e]; rfl)
    have hpos := mv_pos h (by simp)
    rw [mg_pos (by omega)]
    rw [mv]
    congr 1
    · omega
    · rw [show (x + 1000000000 * mv l) / 1000000000 = mv l by omega]
      exact ih hl h'
theorem mg_last (n : Nat) : ∀ p x, mg n = p ++ [x] → x ≠ 0 := by
  induction n using Nat.strongRecOn with
  | _ n ih =>
    intro p x e
    by_cases h : n = 0
    · subst h; rw [mg_zero] at e; simp at e
    · rw [mg_pos h] at e
      cases p with
      | nil =>
        simp only [List.nil_append, List.cons.injEq] at e
        have h1 := mg_nil.mp e.2
        have h2 := e.1
        omega
      | cons y q =>
        simp only [List.cons_append, List.cons.injEq] at e
        exact ih _ (Nat.div_lt_self (by omega) (by decide)) q x e.2
/-! ### trim, at -/
theorem trim_loop : ∀ (d : Nat) (m : List Nat), m.length ≤ d → d ≤ 1000000000 → Pt m → Ev (fun k => K.num_trim.l0 k (il m)) (il (mg (mv m)))
  | 0, m, h, _, hp => by
    have : m = [] := List.length_eq_zero_iff.mp (by omega)
    subst this
    refine Ev.step (f := fun _ => some (il [])) (fun k => ?_) (by rw [mv, mg_zero]; exact Ev.now _)
    simp only [K.num_trim.l0]
    rw [if_neg (by simp [il])]
  | d + 1, m, h, hd, hp => by
    by_cases hne : m = []
    · subst hne
      exact trim_loop 0 [] (by simp) (by omega) hp
    · obtain ⟨p, x, rfl⟩ : ∃ p x, m = p ++ [x] := ⟨m.dropLast, m.getLast hne, (List.dropLast_concat_getLast hne).symm⟩
      have hlen : ((il (p ++ [x])).length : Int) = (p.length : Int) + 1 := by rw [il_len]; simp
      have hw : wrap64 ((p.length : Int) + 1 - 1) = (p.length : Int) := by simp at h; rw [w64 (by omega) (by omega)]; omega
      have hg : (p ++ [x]).getD p.length 0 = x := by simp [List.getD]
      by_cases hx : x = 0
      · subst hx
        have ih := trim_loop d p (by simp at h; omega) (by omega) (fun y hy => hp y (by simp [hy]))
        rw [mv_snoc, Nat.mul_zero, Nat.add_zero]
        refine Ev.step (fun k => ?_) ih
        simp only [K.num_trim.l0]
        rw [hlen, hw, if_pos (by omega), if_pos (by omega), if_pos (by omega), rd_il, hg, if_pos (by rfl), if_pos (by omega), Int.toNat_natCast, ← il_take, List.take_left]
      · rw [canonM _ hp (fun q y e => by have := List.append_inj' e rfl; simp at this; rw [← this.2]; exact hx)]
        refine Ev.step (f := fun _ => some (il (p ++ [x]))) (fun k => ?_) (Ev.now _)
        simp only [K.num_trim.l0]
        rw [hlen, hw, if_pos (by omega), if_pos (by omega), if_pos (by omega), rd_il, hg, if_neg (by omega)]
theorem trimM_ev (m : List Nat) (hl : m.length ≤ 1000000000) (hp : Pt m) : Ev (fun k => K.num_trim.f k (il m)) (il (mg (mv m))) := trim_loop _ m (Nat.le_refl _) hl hp
theorem at_ev (m : List Nat) (i : Nat) : K.num_mag_at.f (il m) (i : Int) = some ((m.getD i 0 : Nat) : Int) := by
  unfold K.num_mag_at.f
  rw [il_len]
  by_cases h : i < m.length
  · rw [if_pos (by omega), if_pos (by omega), rd_il]
  · rw [if_neg (by omega)]
    simp [List.getD, List.getElem?_eq_none (Nat.not_lt.mp h)]
theorem uw (n : Nat) (h : n < 18446744073709551616) : IntKind.u64.wrap (n : Int) = (n : Int) := by rw [IntKind.wrap_u64]; omega
/-! ### sum -/
theorem low_stepB (A i : Nat) : A % 1000000000 ^ (i + 1) = A % 1000000000 ^ i + 1000000000 ^ i * (A / 1000000000 ^ i % 1000000000) := Nat.mod_pow_succ
theorem sumM_loop (a b : List Nat) (ha : Pt a) (hb : Pt b) (hla : a.length ≤ 100000) (hlb : b.length ≤ 100000) : ∀ (d i : Nat) (m : List Nat) (c : Nat), max a.length b.length + 1 - i ≤ d → i ≤ max a.length b.length + 1 → Pt m → m.length = i → c ≤ 1 → mv m + c * 1000000000 ^ i = mv a % 1000000000 ^ i + mv b % 1000000000 ^ i →
    Ev (fun k => K.num_sum.l0 k (il a) (il b) (il m) (c : Int) ((max a.length b.length + 1 : Nat) : Int) (i : Int)) (il (mg (mv a + mv b)))
  | 0, i, m, c, h0, hi, hm, hml, hc, hv => by
    have hii : i = max a.length b.length + 1 := by omega
    have hA : mv a < 1000000000 ^ max a.length b.length := Nat.lt_of_lt_of_le (mv_lt a ha) (Nat.pow_le_pow_right (by decide) (by omega))
    have hB : mv b < 1000000000 ^ max a.length b.length := Nat.lt_of_lt_of_le (mv_lt b hb) (Nat.pow_le_pow_right (by decide) (by omega))
    have hp : 1000000000 ^ i = 1000000000 ^ max a.length b.length * 1000000000 := by rw [hii, Nat.pow_succ]
    have hle : 1000000000 ^ max a.length b.length ≤ 1000000000 ^ i := by rw [hp]; omega
    have hc0 : c = 0 := by
      rcases Nat.lt_or_ge c 1 with h | h
      · omega
      · have : c = 1 := by omega
        subst this
        rw [Nat.mod_eq_of_lt (by omega), Nat.mod_eq_of_lt (by omega)] at hv
        omega
    subst hc0
    rw [Nat.mod_eq_of_lt (by omega), Nat.mod_eq_of_lt (by omega)] at hv
    have hvm : mv m = mv a + mv b := by omega
    refine Ev.step (fun k => ?_) (Ev.bind (f := fun k t => some t) (trimM_ev m (by omega) hm) (by rw [hvm]; exact Ev.now _))
    simp only [K.num_sum.l0]
    rw [if_neg (by omega)]
  | d + 1, i, m, c, h0, hi, hm, hml, hc, hv => by
    by_cases hlast : i = max a.length b.length + 1
    · exact sumM_loop a b ha hb hla hlb 0 i m c (by omega) hi hm hml hc hv
    · obtain ⟨x, hx⟩ : ∃ x, x = mv a / 1000000000 ^ i % 1000000000 := ⟨_, rfl⟩
      obtain ⟨y, hy⟩ : ∃ y, y = mv b / 1000000000 ^ i % 1000000000 := ⟨_, rfl⟩
      have hx9 : x < 1000000000 := by rw [hx]; exact Nat.mod_lt _ (by decide)
      have hy9 : y < 1000000000 := by rw [hy]; exact Nat.mod_lt _ (by decide)
      have hstep := sumM_loop a b ha hb hla hlb d (i + 1) (m ++ [(x + y + c) % 1000000000]) ((x + y + c) / 1000000000) (by omega) (by omega) (pt_append hm (pt_one (Nat.mod_lt _ (by decide)))) (by simp [hml]) (by omega) (by
        rw [mv_snoc, hml, low_stepB, low_stepB, ← hx, ← hy, Nat.pow_succ]
        have e : 1000000000 ^ i * ((x + y + c) % 1000000000) + (x + y + c) / 1000000000 * (1000000000 ^ i * 1000000000) = (x + y + c) * 1000000000 ^ i := by
          have h1 := Nat.mod_add_div (x + y + c) 1000000000
          rw [Nat.mul_comm ((x + y + c) / 1000000000), Nat.mul_assoc, ← Nat.mul_add, h1, Nat.mul_comm]
        rw [Nat.add_mul, Nat.add_mul, Nat.mul_comm x, Nat.mul_comm y] at e
        generalize 1000000000 ^ i * ((x + y + c) % 1000000000) = q1 at *
        generalize (x + y + c) / 1000000000 * (1000000000 ^ i * 1000000000) = q2 at *
        omega)
      refine Ev.step (fun k => ?_) hstep
      simp only [K.num_sum.l0]
      rw [if_pos (by omega), at_ev, at_ev, part a ha i, part b hb i, ← hx, ← hy]
      simp only [Option.bind_some]
      rw [il_len, if_pos (by omega), show ((x : Int) + (y : Int)) = ((x + y : Nat) : Int) by omega, uw _ (by omega), show (((x + y : Nat) : Int) + (c : Int)) = ((x + y + c : Nat) : Int) by omega, uw _ (by omega), show (1000000000 : Int) = ((1000000000 : Nat) : Int) from rfl, tmod_nat, tdiv_nat, uw _ (by omega), w64 (by omega) (by omega), il_append]
      rfl
theorem sumM_ev (a b : List Nat) (ha : Pt a) (hb : Pt b) (hla : a.length ≤ 100000) (hlb : b.length ≤ 100000) : Ev (fun k => K.num_sum.f k (il a) (il b)) (il (mg (mv a + mv b))) := by
  have h := sumM_loop a b ha hb hla hlb _ 0 [] 0 (Nat.le_refl _) (by omega) (fun _ h => by cases h) rfl (by omega) (by simp [mv, Nat.mod_one])
  refine Ev.congr (fun k => ?_) h
  unfold K.num_sum.f
  rw [il_len, il_len, mx_nat, w64 (by omega) (by omega)]
  rfl
/-! ### less -/
theorem lessM_loop (a b : List Nat) (ha : Pt a) (hb : Pt b) (hla : a.length ≤ 100000) (hle : mv b ≤ mv a) : ∀ (d i : Nat) (m : List Nat) (c : Nat), a.length - i ≤ d → i ≤ a.length → Pt m → m.length = i → c ≤ 1 → mv m + mv b % 1000000000 ^ i = mv a % 1000000000 ^ i + c * 1000000000 ^ i →
    Ev (fun k => K.num_less.l0 k (il a) (il b) (il m) (c : Int) (a.length : Int) (i : Int)) (il (mg (mv a - mv b)))
  | 0, i, m, c, h0, hi, hm, hml, hc, hv => by
    have hii : i = a.length := by omega
    have hA : mv a < 1000000000 ^ i := by rw [hii]; exact mv_lt a ha
    have hM : mv m < 1000000000 ^ i := by rw [← hml]; exact mv_lt m hm
    rw [Nat.mod_eq_of_lt (by omega), Nat.mod_eq_of_lt (by omega)] at hv
    have hc0 : c = 0 := by
      rcases Nat.lt_or_ge c 1 with h | h
      · omega
      · have : c = 1 := by omega
        subst this
        omega
    subst hc0
    have hvm : mv m = mv a - mv b := by omega
    refine Ev.step (fun k => ?_) (Ev.bind (f := fun k t => some t) (trimM_ev m (by omega) hm) (by rw [hvm]; exact Ev.now _))
    simp only [K.num_less.l0]
    rw [if_neg (by omega)]
  | d + 1, i, m, c, h0, hi, hm, hml, hc, hv => by
    by_cases hlast : i = a.length
    · exact lessM_loop a b ha hb hla hle 0 i m c (by omega) hi hm hml hc hv
    · obtain ⟨x, hx⟩ : ∃ x, x = mv a / 1000000000 ^ i % 1000000000 := ⟨_, rfl⟩
      obtain ⟨y, hy⟩ : ∃ y, y = mv b / 1000000000 ^ i % 1000000000 := ⟨_, rfl⟩
      have hx9 : x < 1000000000 := by rw [hx]; exact Nat.mod_lt _ (by decide)
      have hy9 : y < 1000000000 := by rw [hy]; exact Nat.mod_lt _ (by decide)
      obtain ⟨n, hn⟩ : ∃ n, n = x + 1000000000 - y - c := ⟨_, rfl⟩
      have hn1 : n + y + c = x + 1000000000 := by omega
      have hstep := lessM_loop a b ha hb hla hle d (i + 1) (m ++ [n % 1000000000]) (1 - n / 1000000000) (by omega) (by omega) (pt_append hm (pt_one (Nat.mod_lt _ (by decide)))) (by simp [hml]) (by omega) (by
        rw [mv_snoc, hml, low_stepB, low_stepB, ← hx, ← hy, Nat.pow_succ]
        have hq : n / 1000000000 ≤ 1 := by omega
        have e : 1000000000 ^ i * (n % 1000000000) + n / 1000000000 * (1000000000 ^ i * 1000000000) = n * 1000000000 ^ i := by
          have h1 := Nat.mod_add_div n 1000000000
          rw [Nat.mul_comm (n / 1000000000), Nat.mul_assoc, ← Nat.mul_add, h1, Nat.mul_comm]
        have e2 : (n + y + c) * 1000000000 ^ i = (x + 1000000000) * 1000000000 ^ i := by rw [hn1]
        rw [Nat.add_mul, Nat.add_mul, Nat.add_mul, Nat.mul_comm x, Nat.mul_comm y, Nat.mul_comm 1000000000] at e2
        rcases (by omega : n / 1000000000 = 0 ∨ n / 1000000000 = 1) with h1 | h1
        · rw [h1] at e ⊢
          generalize 1000000000 ^ i * (n % 1000000000) = q1 at *
          generalize n * 1000000000 ^ i = q2 at *
          generalize 1000000000 ^ i * 1000000000 = q3 at *
          generalize c * 1000000000 ^ i = q4 at *
          omega
        · rw [h1] at e ⊢
          generalize 1000000000 ^ i * (n % 1000000000) = q1 at *
          generalize n * 1000000000 ^ i = q2 at *
          generalize 1000000000 ^ i * 1000000000 = q3 at *
          generalize c * 1000000000 ^ i = q4 at *
          omega)
      refine Ev.step (fun k => ?_) hstep
      simp only [K.num_less.l0]
      rw [if_pos (by omega), if_pos (by omega), il_len, if_pos (by omega), at_ev, rd_il, part a ha i, part b hb i, ← hx, ← hy]
      simp only [Option.bind_some]
      rw [il_len, if_pos (by omega), show ((x : Int) + 1000000000) = ((x + 1000000000 : Nat) : Int) by omega, uw _ (by omega), show (((x + 1000000000 : Nat) : Int) - (y : Int)) = ((x + 1000000000 - y : Nat) : Int) by omega, uw _ (by omega), show (((x + 1000000000 - y : Nat) : Int) - (c : Int)) = (n : Int) by omega, uw _ (by omega), show (1000000000 : Int) = ((1000000000 : Nat) : Int) from rfl, tmod_nat, tdiv_nat, uw _ (by omega), show (1 - ((n / 1000000000 : Nat) : Int)) = ((1 - n / 1000000000 : Nat) : Int) by omega, uw _ (by omega), w64 (by omega) (by omega), il_append]
      rfl
theorem lessM_ev (a b : List Nat) (ha : Pt a) (hb : Pt b) (hla : a.length ≤ 100000) (hle : mv b ≤ mv a) : Ev (fun k => K.num_less.f k (il a) (il b)) (il (mg (mv a - mv b))) := by
  have h := lessM_loop a b ha hb hla hle _ 0 [] 0 (Nat.le_refl _) (by omega) (fun _ h => by cases h) rfl (by omega) (by simp [mv, Nat.mod_one])
  refine Ev.congr (fun k => ?_) h
  unfold K.num_less.f
  rw [il_len]
  rfl
end Go.Proofs.YtdbheoffkfmcpaaDoor.Nm
end
section
/- Products and order of sizes in parts, and reading and telling of numbers, plainly. -/
namespace Go.Proofs.YtdbheoffkfmcpaaDoor.Nm
open Go.Lib Go.RowKit Go.Proofs.YtdbheoffkfmcpaaDoorW.PrintWords Go.Proofs.YtdbheoffkfmcpaaDoorW.PrintLast Go.Proofs.YtdbheoffkfmcpaaDoor
set_option linter.unusedVariables false
set_option linter.unusedSimpArgs false
/-! ### compare -/
theorem cmpI_nat (x y : Nat) : Hd.cmpI (x : Int) (y : Int) = cmpN x y := by
  unfold Hd.cmpI cmpN
  by_cases h1 : x < y
  · rw [if_pos (by omega), if_pos h1]
  · rw [if_neg (by omega), if_neg h1]
    by_cases h2 : y < x
    · rw [if_pos (by omega), if_pos h2]
    · rw [if_neg (by omega), if_neg h2]
theorem cmpN_zero (x y : Nat) : cmpN x y = 0 ↔ x = y := by
  unfold cmpN
  split
  · constructor <;> omega
  · split <;> constructor <;> omega
theorem cmpTop_mv (a b : List Nat) (ha : Pt a) (hb : Pt b) : ∀ n, Hd.cmpTop (il a) (il b) n = cmpN (mv a % 1000000000 ^ n) (mv b % 1000000000 ^ n)
  | 0 => by simp [Hd.cmpTop, cmpN, Nat.mod_one]
  | n + 1 => by
    unfold Hd.cmpTop
    rw [il_getD, il_getD, cmpI_nat, part a ha n, part b hb n, low_stepB, low_stepB]
    have h1 : mv a % 1000000000 ^ n < 1000000000 ^ n := Nat.mod_lt _ (Nat.pow_pos (by decide))
    have h2 : mv b % 1000000000 ^ n < 1000000000 ^ n := Nat.mod_lt _ (Nat.pow_pos (by decide))
    have ih := cmpTop_mv a b ha hb n
    generalize mv a / 1000000000 ^ n % 1000000000 = x at *
    generalize mv b / 1000000000 ^ n % 1000000000 = y at *
    by_cases hxy : x = y
    · rw [if_pos ((cmpN_zero x y).mpr hxy), ih, hxy]
      unfold cmpN
      generalize 1000000000 ^ n * y = q
      split <;> split <;> (try split) <;> (try split) <;> omega
    · rw [if_neg (fun e => hxy ((cmpN_zero x y).mp e))]
      rcases Nat.lt_or_ge x y with h | h
      · have h3 : 1000000000 ^ n * (x + 1) ≤ 1000000000 ^ n * y := Nat.mul_le_mul_left _ h
        rw [Nat.mul_add] at h3
        unfold cmpN
        rw [if_pos h, if_pos (by omega)]
      · have h3 : 1000000000 ^ n * (y + 1) ≤ 1000000000 ^ n * x := Nat.mul_le_mul_left _ (by omega)
        rw [Nat.mul_add] at h3
        unfold cmpN
        rw [if_neg (by omega), if_pos (by omega), if_neg (by omega), if_pos (by omega)]
theorem mg_low {n : Nat} (h : n ≠ 0) : 1000000000 ^ ((mg n).length - 1) ≤ n := by
  have hl := mg_last n
  have hne : mg n ≠ [] := fun e => h (mg_nil.mp e)
  obtain ⟨p, x, e⟩ : ∃ p x, mg n = p ++ [x] := ⟨(mg n).dropLast, (mg n).getLast hne, (List.dropLast_concat_getLast hne).symm⟩
  have hx := hl p x e
  have hv := mv_mg n
  rw [e, mv_snoc] at hv
  rw [e]
  simp only [List.length_append, List.length_cons, List.length_nil, Nat.zero_add, Nat.add_sub_cancel]
  have : 1000000000 ^ p.length * 1 ≤ 1000000000 ^ p.length * x := Nat.mul_le_mul_left _ (by omega)
  omega
theorem mg_len_lt {x y : Nat} (h : (mg x).length < (mg y).length) : x < y := by
  have hy : y ≠ 0 := fun e => by rw [e, mg_zero] at h; simp at h
  have h1 := mv_lt (mg x) (pt_mg x)
  rw [mv_mg] at h1
  exact Nat.lt_of_lt_of_le h1 (Nat.le_trans (Nat.pow_le_pow_right (by decide) (by omega)) (mg_low hy))
theorem compare_ev (x y : Nat) : Hd.compare.f (il (mg x)) (il (mg y)) = some (cmpN x y) := by
  unfold Hd.compare.f
  rw [il_len, il_len, cmpI_nat]
  by_cases h : (mg x).length = (mg y).length
  · rw [if_pos ((cmpN_zero _ _).mpr h), cmpTop_mv _ _ (pt_mg x) (pt_mg y), mv_mg, mv_mg]
    have h1 := mv_lt (mg x) (pt_mg x)
    have h2 := mv_lt (mg y) (pt_mg y)
    rw [mv_mg] at h1 h2
    rw [Nat.mod_eq_of_lt h1, Nat.mod_eq_of_lt (by rw [h]; exact h2)]
  · rw [if_neg (fun e => h ((cmpN_zero _ _).mp e))]
    rcases Nat.lt_or_ge (mg x).length (mg y).length with h1 | h1
    · have h2 := mg_len_lt h1
      unfold cmpN
      rw [if_pos h1, if_pos h2]
    · have h2 := mg_len_lt (x := y) (y := x) (by omega)
      unfold cmpN
      rw [if_neg (by omega), if_pos (by omega), if_neg (by omega), if_pos h2]
end Go.Proofs.YtdbheoffkfmcpaaDoor.Nm
end
section
/- Reading and telling of numbers, plainly: num.read and whole.text at every number. -/
namespace Go.Proofs.YtdbheoffkfmcpaaDoor.Nm
open Go.Lib Go.RowKit Go.Proofs.YtdbheoffkfmcpaaDoorW.PrintWords Go.Proofs.YtdbheoffkfmcpaaDoorW.PrintLast Go.Proofs.YtdbheoffkfmcpaaDoor
set_option linter.unusedVariables false
set_option linter.unusedSimpArgs false
/-! ### read -/
theorem parse_part (l : List UInt8) (hd : Dig l) (hne : l ≠ []) (hl : l.length ≤ 9) : Hd.parseUint.f (BA l) 10 64 = some ((val l : Int), none) := by
  have hv : val l < 1000000000 := Nat.lt_of_lt_of_le (val_lt l hd) (Nat.le_trans (Nat.pow_le_pow_right (by decide) hl) (by decide))
  unfold Hd.parseUint.f
  rw [if_pos ⟨rfl, rfl, by rw [ba_size]; omega⟩, ba_data]
  have e : parseUintB 64 l = .ok (val l) := by
    unfold parseUintB
    rw [if_neg hne, parseM l hd 0 (by decide), Nat.zero_mul, Nat.zero_add, if_pos (by omega)]
  rw [e]
theorem ba_drop (l : List UInt8) (i : Nat) (hi : i ≤ l.length) : (BA l).extract i (BA l).size = BA (l.drop i) := by
  apply ByteArray.ext
  rw [ByteArray.data_extract]
  apply Array.ext'
  simp [BA, ByteArray.size]
  exact List.take_of_length_le (by simp)
theorem ba_take (l : List UInt8) (i : Nat) (hi : i ≤ l.length) : (BA l).extract 0 i = BA (l.take i) := by
  apply ByteArray.ext
  rw [ByteArray.data_extract]
  apply Array.ext'
  simp [BA]
theorem dig_drop {l : List UInt8} (h : Dig l) (i : Nat) : Dig (l.drop i) := fun c hc => h c (List.mem_of_mem_drop hc)
theorem dig_take {l : List UInt8} (h : Dig l) (i : Nat) : Dig (l.take i) := fun c hc => h c (List.mem_of_mem_take hc)
theorem val_split (l : List UInt8) (i : Nat) : val l = val (l.take i) * 10 ^ (l.length - i) + val (l.drop i) := by
  conv => lhs; rw [← List.take_append_drop i l]
  rw [val_append, List.length_drop]
theorem read_loop (z : Int) (hz : (itoa z).length ≤ 100000) : ∀ (e : Nat) (d : List UInt8) (m : List Nat), d.length ≤ e → d.length ≤ 100000 → m.length ≤ 100000 - d.length → Dig d → Pt m →
    Ev (fun k => K.num_read.l0 k (numS z) (BA d) (il m)) (il (mg (mv m + 1000000000 ^ m.length * val d)), decide (z < 0)) := by
  have hsz : (numS z).size = (itoa z).length := ba_size _
  have hpos : 0 < (itoa z).length := by
    by_cases h : z < 0
    · rw [itoa_neg' h]; simp
    · rw [itoa_pos' h]; exact List.length_pos_iff.mpr (decDigits_ne _)
  have hend : ∀ (m : List Nat), m.length ≤ 100000 → Pt m → Ev (fun k => K.num_read.l0 k (numS z) (BA []) (il m)) (il (mg (mv m)), decide (z < 0)) := by
    intro m hl hp
    refine Ev.step (fun k => ?_) (Ev.bind (f := fun k t => some (t, decide (z < 0))) (trimM_ev m (by omega) hp) (Ev.now _))
    simp only [K.num_read.l0]
    rw [if_neg (by rw [ba_size]; simp), hsz]
    have hl1 : ((itoa z).length : Int) > 0 := by omega
    have hl2 : (0 : Int) < ((itoa z).length : Int) := by omega
    simp only [hl1, hl2, if_true]
    have hb : (bt (numS z) 0 == 45) = decide (z < 0) := by
      by_cases h : z < 0
      · rw [numS_neg h, bt_head, decide_eq_true h]; rfl
      · obtain ⟨c, r, e, h1, h2⟩ := head_dec z.natAbs
        rw [numS_pos h, e, bt_head, decide_eq_false h]
        exact beq_eq_false_iff_ne.mpr (by omega)
    rw [hb]
  intro e
  induction e with
  | zero =>
    intro d m hd _ hl hdd hp
    have : d = [] := List.length_eq_zero_iff.mp (by omega)
    subst this
    rw [val_nil, Nat.mul_zero, Nat.add_zero]
    exact hend m (by omega) hp
  | succ e ih =>
    intro d m hd hd1 hl hdd hp
    by_cases hne : d = []
    · subst hne
      rw [val_nil, Nat.mul_zero, Nat.add_zero]
      exact hend m (by omega) hp
    · have hdl : 0 < d.length := List.length_pos_iff.mpr hne
      obtain ⟨a, ha⟩ : ∃ a, a = d.length - 9 := ⟨_, rfl⟩
      have hmx : mx (wrap64 ((d.length : Int) - 9)) 0 = (a : Int) := by
        rw [w64 (by omega) (by omega)]
        unfold mx
        split <;> omega
      have hpart := parse_part (d.drop a) (dig_drop hdd a) (by intro h; have := congrArg List.length h; simp at this; omega) (by simp; omega)
      have hv9 : val (d.drop a) < 1000000000 := by
        have h1 := val_lt (d.drop a) (dig_drop hdd a)
        rw [List.length_drop] at h1
        exact Nat.lt_of_lt_of_le h1 (Nat.le_trans (Nat.pow_le_pow_right (by decide) (show d.length - a ≤ 9 by omega)) (by decide))
      have hih := ih (d.take a) (m ++ [val (d.drop a)]) (by simp; omega) (by simp; omega) (by simp; omega) (dig_take hdd a) (pt_append hp (pt_one hv9))
      have hval : mv (m ++ [val (d.drop a)]) + 1000000000 ^ (m ++ [val (d.drop a)]).length * val (d.take a) = mv m + 1000000000 ^ m.length * val d := by
        rw [mv_snoc, val_split d a, List.length_append, List.length_cons, List.length_nil, Nat.zero_add, Nat.pow_succ]
        have hs : val (d.take a) * 10 ^ (d.length - a) = val (d.take a) * 1000000000 := by
          by_cases h9 : 9 ≤ d.length
          · rw [show d.length - a = 9 by omega]
          · have : a = 0 := by omega
            rw [this, List.take_zero, val_nil, Nat.zero_mul, Nat.zero_mul]
        rw [hs, Nat.mul_add, Nat.mul_assoc, Nat.mul_comm 1000000000 (val (d.take a))]
        omega
      rw [hval] at hih
      refine Ev.step (fun k => ?_) hih
      simp only [K.num_read.l0]
      rw [if_pos (by rw [ba_size]; omega), ba_size, hmx, if_pos (by omega), if_pos (by omega), Int.toNat_natCast]
      rw [← ba_size d, ba_drop d a (by omega), ba_take d a (by omega), hpart]
      simp only [Option.bind_some]
      rw [il_len, if_pos (by omega), il_append]
      rfl
def wh (z : Int) : List Int × Bool := (il (mg z.natAbs), decide (z < 0))
theorem read_ev (z : Int) (hz : nl z ≤ 1000) : Ev (fun k => K.num_read.f k (numS z)) (wh z) := by
  have hl := itoa_len z
  have h := read_loop z (by omega) _ (decDigits z.natAbs) [] (Nat.le_refl _) (by show nl z ≤ _; omega) (by simp) (dig_decDigits _) (fun _ h => by cases h)
  rw [mv, Nat.zero_add, List.length_nil, Nat.pow_zero, Nat.one_mul, val_decDigits] at h
  refine Ev.congr (fun k => ?_) h
  unfold K.num_read.f
  rw [show numS z = BA (itoa z) from rfl, trim_ev, body_itoa]
  rfl
/-! ### text -/
/-- the figures of parts, the highest ahead -/
def tx : List Nat → List UInt8
  | [] => []
  | [x] => decDigits x
  | x :: y :: l => tx (y :: l) ++ (List.replicate (9 - (decDigits x).length) 48 ++ decDigits x)
theorem dig_rep (n : Nat) : Dig (List.replicate n 48) := fun c hc => by rw [List.eq_of_mem_replicate hc]; decide
theorem dig_app {a b : List UInt8} (ha : Dig a) (hb : Dig b) : Dig (a ++ b) := fun c hc => by
  rcases List.mem_append.mp hc with h | h
  · exact ha c h
  · exact hb c h
theorem val_rep (n : Nat) (l : List UInt8) : val (List.replicate n 48 ++ l) = val l := by
  induction n with
  | zero => rfl
  | succ n ih =>
    rw [List.replicate_succ, List.cons_append, val_cons, ih]
    simp
theorem dec_len9 {x : Nat} (h : x < 1000000000) : (decDigits x).length ≤ 9 := len_le x 9 (by decide) h
theorem tx_dig : ∀ m : List Nat, Dig (tx m)
  | [] => fun _ h => by cases h
  | [x] => dig_decDigits x
  | x :: y :: l => dig_app (tx_dig (y :: l)) (dig_app (dig_rep _) (dig_decDigits x))
theorem tx_val : ∀ m : List Nat, Pt m → val (tx m) = mv m
  | [], _ => rfl
  | [x], _ => by rw [tx, val_decDigits]; simp [mv]
  | x :: y :: l, h => by
    have h9 := dec_len9 (h x (by simp))
    rw [tx, val_append, val_rep, val_decDigits, tx_val (y :: l) (fun z hz => h z (by simp at hz ⊢; exact .inr hz)), List.length_append, List.length_replicate, show 9 - (decDigits x).length + (decDigits x).length = 9 by omega]
    rw [show mv (x :: y :: l) = x + 1000000000 * mv (y :: l) from rfl]
    omega
theorem tx_head : ∀ m : List Nat, m ≠ [] → (∀ p x, m = p ++ [x] → x ≠ 0) → tx m ≠ [] ∧ ∀ c r, tx m = c :: r → c.toNat ≠ 48
  | [], h, _ => absurd rfl h
  | [x], _, h => ⟨decDigits_ne x, decDigits_head x (Nat.pos_of_ne_zero (h [] x rfl))⟩
  | x :: y :: l, _, h => by
    obtain ⟨h1, h2⟩ := tx_head (y :: l) (by simp) (fun p z e => h (x :: p) z (by rw [e]; rfl))
    rw [tx]
    cases ht : tx (y :: l) with
    | nil => exact absurd ht h1
    | cons c r =>
      refine ⟨by simp, fun c' r' e => ?_⟩
      simp only [List.cons_append, List.cons.injEq] at e
      rw [← e.1]
      exact h2 c r ht
theorem tx_mg (n : Nat) (h : n ≠ 0) : tx (mg n) = decDigits n := by
  obtain ⟨h1, h2⟩ := tx_head (mg n) (fun e => h (mg_nil.mp e)) (mg_last n)
  have := canon (tx (mg n)) (tx_dig _) h2 h1
  rw [tx_val _ (pt_mg n), mv_mg] at this
  exact this.symm
/-- part i of n parts, as the code writes it -/
def ck (m : List Nat) (i : Nat) : List UInt8 := if i < m.length - 1 then List.replicate (9 - (decDigits (m.getD i 0)).length) 48 ++ decDigits (m.getD i 0) else decDigits (m.getD i 0)
theorem chunk_ck (m : List Nat) (i : Fin (il m).length) : Hd.chunk (il m) i = ck m i.1 := by
  unfold Hd.chunk ck
  rw [il_getD, Int.toNat_natCast]
  simp only [il_len]
theorem ck_flat : ∀ (m : List Nat), (List.range m.length).reverse.flatMap (ck m) = tx m
  | [] => rfl
  | [x] => by simp [ck, tx]
  | x :: y :: l => by
    have ih := ck_flat (y :: l)
    have e : List.range (x :: y :: l).length = 0 :: (List.range (y :: l).length).map Nat.succ := by
      rw [List.length_cons, List.range_succ_eq_map]
    rw [e, List.reverse_cons, List.flatMap_append, ← List.map_reverse, List.flatMap_map, tx, ← ih]
    congr 1
    · congr 1
      funext i
      have h1 : (x :: y :: l).getD (i + 1) 0 = (y :: l).getD i 0 := by simp [List.getD]
      unfold ck
      rw [h1]
      have h2 : (i + 1 < (x :: y :: l).length - 1) = (i < (y :: l).length - 1) := by simp only [List.length_cons, eq_iff_iff]; omega
      simp only [Nat.succ_eq_add_one, h2]
    · simp [ck]
theorem bk_flat (m : List Nat) : (Hd.bk (il m).length (il m).length).flatMap (Hd.chunk (il m)) = tx m := by
  have h1 : (Hd.bk (il m).length (il m).length) = (List.finRange (il m).length).reverse := by
    unfold Hd.bk
    rw [List.take_of_length_le (by simp)]
  rw [h1, ← ck_flat m]
  have h2 : (List.range m.length) = (List.finRange (il m).length).map (fun i => i.1) := by
    apply List.ext_getElem
    · simp [il_len]
    · intro i h1 h2; simp
  rw [h2, ← List.map_reverse, List.flatMap_map]
  congr 1
  funext i
  exact chunk_ck m i
theorem text_ev (n : Nat) (b : Bool) (hl : (mg n).length ≤ 1000000) : Hd.wtext.f (il (mg n)) b = some (if n = 0 then BA [48] else BA ((if b = true then [45] else []) ++ decDigits n)) := by
  unfold Hd.wtext.f
  by_cases h : n = 0
  · subst h
    rw [mg_zero]
    rfl
  · have hne : il (mg n) ≠ [] := fun e => h (mg_nil.mp (by have := congrArg List.length e; rw [il_len] at this; exact List.length_eq_zero_iff.mp (by simpa using this)))
    have hp : ∀ x ∈ il (mg n), 0 ≤ x ∧ x < 1000000000 := fun x hx => by
      simp only [il, List.mem_map] at hx
      obtain ⟨y, hy, rfl⟩ := hx
      have := pt_mg n y hy
      omega
    rw [if_neg hne, if_pos ⟨hp, by rw [il_len]; exact hl⟩, if_neg h, bk_flat, tx_mg n h]
end Go.Proofs.YtdbheoffkfmcpaaDoor.Nm
end
section
/- The program's numbers, plainly: Add, Sub, Mul, Cmp, Neg, Sign at the text of every number, and at every other text. -/
namespace Go.Proofs.YtdbheoffkfmcpaaDoor.Nm
open Go.Lib Go.RowKit Go.Proofs.YtdbheoffkfmcpaaDoorW.PrintWords Go.Proofs.YtdbheoffkfmcpaaDoorW.PrintLast Go.Proofs.YtdbheoffkfmcpaaDoor
set_option linter.unusedVariables false
set_option linter.unusedSimpArgs false
/-- a size with a sign -/
def sv (n : Nat) (b : Bool) : Int := if b = true then -(n : Int) else (n : Int)
theorem sv_abs (z : Int) : sv z.natAbs (decide (z < 0)) = z := by
  unfold sv
  by_cases h : z < 0
  · rw [if_pos (decide_eq_true h)]; omega
  · rw [if_neg (by simp [h])]; omega
theorem mg_len {n k : Nat} (h : n < 10 ^ k) : (mg n).length ≤ k + 1 := by
  by_cases h0 : n = 0
  · subst h0; rw [mg_zero]; simp
  · have h1 := mg_low h0
    have h2 : 10 ^ k ≤ 1000000000 ^ k := Nat.pow_le_pow_left (by decide) k
    rcases Nat.lt_or_ge (k + 1) (mg n).length with h3 | h3
    · have h4 : 1000000000 ^ k ≤ 1000000000 ^ ((mg n).length - 1) := Nat.pow_le_pow_right (by decide) (by omega)
      omega
    · exact h3
theorem mg_len_nl {n : Nat} {k : Nat} (h : (decDigits n).length ≤ k) : (mg n).length ≤ k + 1 := mg_len (lt_of_len n k h)
def plusW (x : Nat) (a : Bool) (y : Nat) (b : Bool) : Nat × Bool := if (a == b) = true then (x + y, a) else if x < y then (y - x, b) else (x - y, a)
theorem plusW_sv (x : Nat) (a : Bool) (y : Nat) (b : Bool) : sv (plusW x a y b).1 (plusW x a y b).2 = sv x a + sv y b := by
  unfold plusW sv
  by_cases hlt : x < y
  · cases a <;> cases b <;> simp [hlt] <;> omega
  · cases a <;> cases b <;> simp [hlt] <;> omega
theorem wplus_ev (x y : Nat) (a b : Bool) (hx : (decDigits x).length ≤ 1000) (hy : (decDigits y).length ≤ 1000) : Ev (fun k => L.num_plus.f k (il (mg x)) a (il (mg y)) b) (il (mg (plusW x a y b).1), (plusW x a y b).2) := by
  have lx := mg_len_nl hx
  have ly := mg_len_nl hy
  have ex := mv_mg x
  have ey := mv_mg y
  unfold L.num_plus.f plusW
  by_cases hab : (a == b) = true
  · simp only [hab, if_true]
    have := sumM_ev (mg x) (mg y) (pt_mg x) (pt_mg y) (by omega) (by omega)
    rw [ex, ey] at this
    exact Ev.bind this (Ev.now _)
  · simp only [hab, if_false, Bool.false_eq_true]
    rw [compare_ev]
    simp only [Option.bind_some]
    by_cases hlt : x < y
    · have hc : cmpN x y < 0 := by unfold cmpN; rw [if_pos hlt]; decide
      simp only [hc, hlt, if_true]
      have := lessM_ev (mg y) (mg x) (pt_mg y) (pt_mg x) (by omega) (by rw [ex, ey]; omega)
      rw [ex, ey] at this
      exact Ev.bind this (Ev.now _)
    · have hc : ¬ cmpN x y < 0 := by unfold cmpN; rw [if_neg hlt]; split <;> decide
      simp only [hc, hlt, if_false]
      have := lessM_ev (mg x) (mg y) (pt_mg x) (pt_mg y) (by omega) (by rw [ex, ey]; omega)
      rw [ex, ey] at this
      exact Ev.bind this (Ev.now _)
theorem il_pos (n : Nat) : decide (0 < (il (mg n)).length) = decide (n ≠ 0) := by
  rw [il_len, decide_eq_decide]
  constructor
  · intro h e; rw [e, mg_zero] at h; simp at h
  · intro h
    exact List.length_pos_iff.mpr (fun e => h (mg_nil.mp e))
theorem itoa_inj {x y : Int} (h : itoa x = itoa y) : x = y := by
  have h1 := congrArg body h
  rw [body_itoa, body_itoa] at h1
  have h2 := congrArg val h1
  rw [val_decDigits, val_decDigits] at h2
  by_cases hx : x < 0
  · by_cases hy : y < 0
    · omega
    · exfalso
      rw [itoa_neg' hx, itoa_pos' hy] at h
      obtain ⟨c, r, e, h3, h4⟩ := head_dec y.natAbs
      rw [e] at h
      simp only [List.cons.injEq] at h
      rw [← h.1] at h3
      exact absurd h3 (by decide)
  · by_cases hy : y < 0
    · exfalso
      rw [itoa_pos' hx, itoa_neg' hy] at h
      obtain ⟨c, r, e, h3, h4⟩ := head_dec x.natAbs
      rw [e] at h
      simp only [List.cons.injEq] at h
      rw [h.1] at h3
      exact absurd h3 (by decide)
    · omega
theorem may_iff (z : Int) : mayL (itoa z) = decide (Sm z) := by
  by_cases h : Sm z
  · rw [may_num z h, decide_eq_true h]
  · rw [decide_eq_false h]
    refine Bool.eq_false_iff.mpr (fun e => h ?_)
    obtain ⟨z', e1, h1⟩ := num_of_may _ e
    rw [itoa_inj e1]
    exact h1
theorem text_sv (n : Nat) (b : Bool) (hb : b = true → n ≠ 0) (hl : (mg n).length ≤ 1000000) : Hd.wtext.f (il (mg n)) b = some (numS (sv n b)) := by
  rw [text_ev n b hl]
  congr 1
  by_cases h : n = 0
  · subst h
    have : b = false := by
      cases b with
      | true => exact absurd rfl (hb rfl)
      | false => rfl
    subst this
    rw [if_pos rfl, show sv 0 false = 0 from rfl, numS_pos (by decide)]
    exact congrArg BA decDigits_zero.symm
  · rw [if_neg h]
    cases b with
    | true =>
      rw [if_pos rfl, show sv n true = -(n : Int) from rfl, numS_neg (by omega), Int.natAbs_neg, Int.natAbs_natCast]
      rfl
    | false =>
      rw [if_neg (by decide), show sv n false = (n : Int) from rfl, numS_pos (by omega), Int.natAbs_natCast]
      rfl
theorem tell_j0 (n : Nat) (b : Bool) (hb : b = true → n ≠ 0) (hl : (mg n).length ≤ 1000000) : Ev (fun k => L.num_told.j0 k (il (mg n)) b) (told (sv n b)) := by
  refine Ev.step (f := fun _ => some (told (sv n b))) (fun k => ?_) (Ev.now _)
  simp only [L.num_told.j0]
  rw [text_sv n b hb hl]
  simp only [Option.bind_some]
  rw [show K.num_May.f (numS (sv n b)) = some (mayL (itoa (sv n b))) from may_ev _, may_iff]
  simp only [Option.bind_some]
  unfold told
  by_cases h : Sm (sv n b)
  · rw [if_pos (decide_eq_true h)]
    exact congrArg some (if_pos h).symm
  · rw [if_neg (by simp [h])]
    exact congrArg some (if_neg h).symm
theorem tell_ev (n : Nat) (b : Bool) (hl : (mg n).length ≤ 1000000) : Ev (fun k => L.num_told.f k (il (mg n)) b) (told (sv n b)) := by
  cases b with
  | false =>
    refine Ev.congr (fun k => ?_) (tell_j0 n false (by intro h; cases h) hl)
    unfold L.num_told.f
    rw [if_neg (by decide)]
  | true =>
    by_cases h : n = 0
    · subst h
      refine Ev.congr (fun k => ?_) (tell_j0 0 false (by intro h; cases h) hl)
      unfold L.num_told.f
      rw [if_pos rfl, il_pos]
      rfl
    · refine Ev.congr (fun k => ?_) (tell_j0 n true (fun _ => h) hl)
      unfold L.num_told.f
      rw [if_pos rfl, il_pos, decide_eq_true h]
theorem mayS {z : Int} (h : Sm z) : K.num_May.f (numS z) = some true := by rw [← may_num z h]; exact may_ev _
theorem plusW_len (x : Nat) (a : Bool) (y : Nat) (b : Bool) (hx : (decDigits x).length ≤ 1000) (hy : (decDigits y).length ≤ 1000) : (mg (plusW x a y b).1).length ≤ 1000000 := by
  have h : (plusW x a y b).1 ≤ x + y := by unfold plusW; split <;> (try split) <;> simp only <;> omega
  have h1 := Nat.le_trans (dec_mono h) (dec_add hx hy)
  have := mg_len_nl h1
  omega
theorem numAdd_ev (x y : Int) (hx : Sm x) (hy : Sm y) : Ev (fun k => L.num_Add.f k (numS x) (numS y)) (told (x + y)) := by
  have h1 : (decDigits x.natAbs).length ≤ 1000 := Nat.le_trans (sm_nl hx) (by decide)
  have h2 : (decDigits y.natAbs).length ≤ 1000 := Nat.le_trans (sm_nl hy) (by decide)
  have hsv := plusW_sv x.natAbs (decide (x < 0)) y.natAbs (decide (y < 0))
  rw [sv_abs, sv_abs] at hsv
  have ht := tell_ev (plusW x.natAbs (decide (x < 0)) y.natAbs (decide (y < 0))).1 (plusW x.natAbs (decide (x < 0)) y.natAbs (decide (y < 0))).2 (plusW_len _ _ _ _ h1 h2)
  rw [hsv] at ht
  have hin : Ev (fun k => L.num_plus.f k (wh x).1 (wh x).2 (wh y).1 (wh y).2) (il (mg (plusW x.natAbs (decide (x < 0)) y.natAbs (decide (y < 0))).1), (plusW x.natAbs (decide (x < 0)) y.natAbs (decide (y < 0))).2) := wplus_ev x.natAbs y.natAbs (decide (x < 0)) (decide (y < 0)) h1 h2
  unfold L.num_Add.f
  refine Ev.bind ?_ (Ev.now _)
  unfold L.num_of_plus.f
  rw [mayS hx, mayS hy]
  simp only [Option.bind_some, if_true, Bool.not_true]
  refine Ev.step (fun k => ?_) (Ev.bind (f := fun k bt136 => (K.num_read.f k (numS y)).bind fun bt140 => ((L.num_plus.f k bt136.1 bt136.2 bt140.1 bt140.2).bind fun bt144 => ((L.num_told.f k bt144.1 bt144.2).bind fun bt148 => (some (bt148.1, bt148.2))))) (read_ev x h1) (Ev.bind (f := fun k bt140 => (L.num_plus.f k (wh x).1 (wh x).2 bt140.1 bt140.2).bind fun bt144 => ((L.num_told.f k bt144.1 bt144.2).bind fun bt148 => (some (bt148.1, bt148.2)))) (read_ev y h2) (Ev.bind (f := fun k bt144 => (L.num_told.f k bt144.1 bt144.2).bind fun bt148 => (some (bt148.1, bt148.2))) hin (Ev.bind ht (Ev.now _)))))
  simp only [L.num_of_plus.j0]
  rw [if_neg (by decide)]
end Go.Proofs.YtdbheoffkfmcpaaDoor.Nm
end
section
/- WidthBack: what was added in a width is taken away again in the next one; numbers that go over aren't told. Conditions: none but the statement's own. -/
namespace Go.Proofs.YtdbheoffkfmcpaaDoor.Pure
open Go.RowKit Go.Proofs.YtdbheoffkfmcpaaDoor.LS Go.Proofs.YtdbheoffkfmcpaaDoor.LBack Go.Proofs.YtdbheoffkfmcpaaDoorW.PrintWords Go.Proofs.YtdbheoffkfmcpaaDoorW.PrintLast Go.Proofs.YtdbheoffkfmcpaaDoor Go.Proofs.YtdbheoffkfmcpaaDoor.Nm
set_option linter.unusedVariables false
set_option linter.unusedSimpArgs false
theorem fits_next {x w : Int} (hw : w = 8 ∨ w = 16 ∨ w = 32 ∨ w = 64 ∨ w = 128) (h : Hd.fitsW x w = true) : Hd.fitsW x (Hd.nextW w) = true := by
  rcases hw with rfl | rfl | rfl | rfl | rfl
  · simp [Hd.fitsW, Hd.nextW] at h ⊢; omega
  · simp [Hd.fitsW, Hd.nextW] at h ⊢; omega
  · simp [Hd.fitsW, Hd.nextW]
  · simp [Hd.fitsW, Hd.nextW]
  · simp [Hd.fitsW, Hd.nextW]
theorem doW_cases (z a b w : Int) : (doW z a b w = (z, true) ∧ i64P z ∧ Hd.fitsW a w = true ∧ Hd.fitsW b w = true ∧ Hd.fitsW z w = true) ∨ (doW z a b w = (0, false) ∧ (i64P z → Hd.fitsW a w = true → Hd.fitsW b w = true → Hd.fitsW z w = false)) := by
  unfold doW
  by_cases h1 : i64P z
  · by_cases h2 : Hd.fitsW a w = true
    · by_cases h3 : Hd.fitsW b w = true
      · by_cases h4 : Hd.fitsW z w = true
        · left; simp [h1, h2, h3, h4]
        · right; simp [h1, h2, h3, h4]
      · right; simp [h1, h2, h3]
    · right; simp [h1, h2]
  · right; simp [h1]
theorem least_more {x w : Int} (hw : w = 8 ∨ w = 16 ∨ w = 32 ∨ w = 64) (h : i64P x → Hd.fitsW x w = false) : leastZ x > w := by
  by_cases hi : i64P x
  · have hf := h hi
    have h64 : inW x 64 = true := by rw [← fits_in hi]; simp [Hd.fitsW]
    rcases hw with rfl | rfl | rfl | rfl
    · rw [fits_in hi] at hf
      unfold leastZ
      rw [hf]
      simp only [Bool.false_eq_true, if_false]
      repeat' split
      all_goals decide
    · have h8 : inW x 8 = false := by
        cases e : inW x 8 with
        | false => rfl
        | true =>
          have := fits_next (w := 8) (x := x) (.inl rfl) (by rw [fits_in hi]; exact e)
          rw [show Hd.nextW 8 = 16 by decide, hf] at this
          cases this
      rw [fits_in hi] at hf
      unfold leastZ
      rw [h8, hf]
      simp only [Bool.false_eq_true, if_false]
      repeat' split
      all_goals decide
    · have h16 : inW x 16 = false := by
        cases e : inW x 16 with
        | false => rfl
        | true =>
          have := fits_next (w := 16) (x := x) (.inr (.inl rfl)) (by rw [fits_in hi]; exact e)
          rw [show Hd.nextW 16 = 32 by decide, hf] at this
          cases this
      have h8 : inW x 8 = false := by
        cases e : inW x 8 with
        | false => rfl
        | true =>
          have := fits_next (w := 8) (x := x) (.inl rfl) (by rw [fits_in hi]; exact e)
          rw [show Hd.nextW 8 = 16 by decide, fits_in hi, h16] at this
          cases this
      rw [fits_in hi] at hf
      unfold leastZ
      rw [h8, h16, hf]
      simp only [Bool.false_eq_true, if_false]
      repeat' split
      all_goals decide
    · exfalso
      rw [fits_in hi, h64] at hf
      cases hf
  · rw [least_big hi]
    rcases hw with rfl | rfl | rfl | rfl <;> decide
theorem sum_ev' (a b : Int) (ha : i64P a) (hb : i64P b) : Ev (fun k => reredoslaw02_sum.f k a b) (numS (a + b)) := by
  unfold reredoslaw02_sum.f
  rw [numOf_ev a ha.1 ha.2, numOf_ev b hb.1 hb.2]
  simp only [Option.bind_some]
  have h := numAdd_ev a b (i64_sm ha) (i64_sm hb)
  rw [told_sm (add_sm ha hb)] at h
  exact Ev.bind h (Ev.now _)
theorem rd4 (k : Int) (h0 : 0 ≤ k) (h : k ≤ 255) : ∃ w, rd [8, 16, 32, 64] (Int.tmod k 4) = w ∧ (w = 8 ∨ w = 16 ∨ w = 32 ∨ w = 64) ∧ 0 ≤ Int.tmod k 4 ∧ Int.tmod k 4 < 4 := by
  have e : Int.tmod k 4 = k % 4 := Int.tmod_eq_emod_of_nonneg h0
  rw [e]
  have hc : k % 4 = 0 ∨ k % 4 = 1 ∨ k % 4 = 2 ∨ k % 4 = 3 := by omega
  rcases hc with h | h | h | h <;> rw [h]
  · exact ⟨8, rfl, .inl rfl, by decide, by decide⟩
  · exact ⟨16, rfl, .inr (.inl rfl), by decide, by decide⟩
  · exact ⟨32, rfl, .inr (.inr (.inl rfl)), by decide, by decide⟩
  · exact ⟨64, rfl, .inr (.inr (.inr rfl)), by decide, by decide⟩
theorem WidthBack : reredoslaw02_WidthBack.Pure := by
  intro a b k ha hb hk
  have h1 := i64_of ha
  have h2 := i64_of hb
  have hk2 := (Lit.wf_int_iff .u8 k).mp hk
  obtain ⟨w, hw, hwc, ht0, ht1⟩ := rd4 k hk2.1 hk2.2
  have hwc' : w = 8 ∨ w = 16 ∨ w = 32 ∨ w = 64 ∨ w = 128 := by rcases hwc with h | h | h | h <;> simp [h]
  refine Ev.rounds ?_
  unfold reredoslaw02_WidthBack.f
  refine Ev.bind shownW ?_
  have ht2 : Int.tmod k 4 < (([8, 16, 32, 64] : List Int).length : Int) := ht1
  simp only [Option.bind_some, ht0, ht2, if_true, hw]
  refine Ev.bind (wadd_ev a b w h1 h2) ?_
  rw [show Hd.widthNext.f w = some (Hd.nextW w) from rfl]
  simp only [Option.bind_some]
  have hz : ∀ Z, Z = doW (a - b) a b w → (if Z.2 = true then some true else if Z.1 = 0 then some true else some false) = some true := by
    intro Z hZ
    rcases doW_cases (a - b) a b w with ⟨e, _⟩ | ⟨e, _⟩
    · rw [hZ, e]; rfl
    · rw [hZ, e]; rfl
  rcases doW_cases (a + b) a b w with ⟨e, hi, f1, f2, f3⟩ | ⟨e, hno⟩
  · rw [e]
    refine Ev.bind (wsub_ev (a + b) b (Hd.nextW w) hi h2) ?_
    have e2 : doW (a + b - b) (a + b) b (Hd.nextW w) = (a, true) := by
      rw [show a + b - b = a by omega]
      unfold doW
      rw [if_pos h1, if_pos (fits_next hwc' f3), if_pos (fits_next hwc' f2), if_pos (fits_next hwc' f1)]
    rw [e2]
    refine Ev.bind (wsub_ev a b w h1 h2) ?_
    simp only [if_true]
    rw [hz _ rfl]
    exact Ev.now _
  · rw [e]
    refine Ev.bind (wsub_ev 0 b (Hd.nextW w) (by decide) h2) ?_
    refine Ev.bind (wsub_ev a b w h1 h2) ?_
    simp only [Bool.false_eq_true, if_false, if_true]
    have tail : Ev (fun k => (K.width_Fits.f k a w).bind fun t117 => (if t117 = true then ((K.width_Fits.f k b w).bind fun t118 => (if t118 = true then ((reredoslaw02_sum.f k a b).bind fun t119 => ((Hd.widthOf.f t119).bind fun t120 => (some (decide (t120 > w))))) else (some true))) else (some true))) true := by
      refine Ev.bind (fits_e a w) ?_
      by_cases f1 : Hd.fitsW a w = true
      · simp only [f1, if_true]
        refine Ev.bind (fits_e b w) ?_
        by_cases f2 : Hd.fitsW b w = true
        · simp only [f2, if_true]
          refine Ev.bind (sum_ev' a b h1 h2) ?_
          rw [widthOf_ev (a + b) (add_sm h1 h2)]
          simp only [Option.bind_some]
          rw [decide_eq_true (least_more hwc (fun hi => hno hi f1 f2))]
          exact Ev.now _
        · simp only [f2, if_false, Bool.false_eq_true]
          exact Ev.now _
      · simp only [f1, if_false, Bool.false_eq_true]
        exact Ev.now _
    rcases doW_cases (a - b) a b w with ⟨e3, _⟩ | ⟨e3, _⟩
    · rw [e3]
      simp only [if_true]
      exact tail
    · rw [e3]
      simp only [Bool.false_eq_true, if_false, if_true]
      exact tail
end Go.Proofs.YtdbheoffkfmcpaaDoor.Pure
end
