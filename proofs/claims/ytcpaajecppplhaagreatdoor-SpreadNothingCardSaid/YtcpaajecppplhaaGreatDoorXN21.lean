/- What the law leans on, part 22: declarations of several texts of ours, in their order. -/
import Derived.Test.YtcpaajecppplhaaGreatDoorXN20
section
/- Decimal digits, plainly: the value of a list of digits, the numeral of a number, and what stripping of zeros does, at every list. -/
namespace Go.Proofs.YtcpaajecppplhaaGreatDoor.Nm
open Go.Lib Go.RowKit Go.Proofs.YtcpaajecppplhaaGreatDoorW.PrintWords Go.Proofs.YtcpaajecppplhaaGreatDoorW.PrintLast Go.Proofs.YtcpaajecppplhaaGreatDoor
set_option linter.unusedVariables false
set_option linter.unusedSimpArgs false
theorem Ev.shift {α : Type} {g : Nat → Option α} {r : α} (h : Ev (fun k => g (k + 1)) r) : Ev g r := Ev.step (fun _ => rfl) h
theorem w64 {x : Int} (h1 : -9223372036854775808 ≤ x) (h2 : x ≤ 9223372036854775807) : wrap64 x = x := by unfold wrap64; omega
/-! ### bytes -/
abbrev BA (l : List UInt8) : ByteArray := ⟨l.toArray⟩
theorem ba_of (s : ByteArray) : s = BA s.data.toList := by cases s; simp [BA]
theorem ba_size (l : List UInt8) : (BA l).size = l.length := by simp [BA, ByteArray.size]
theorem ba_data (l : List UInt8) : (BA l).data.toList = l := by simp [BA]
theorem ba_list (l : List UInt8) : (BA l).toList = l := by simp [BA]
theorem bt_ba (l : List UInt8) (i : Nat) (h : i < l.length) : bt (BA l) (i : Int) = ((l.getD i 0).toNat : Int) := by
  unfold bt
  have h1 : ((i : Int)).toNat < (BA l).size := by rw [ba_size]; omega
  rw [dif_pos h1]
  simp [BA, List.getD, List.getElem?_eq_getElem h]
  rfl
theorem bt_head (c : UInt8) (l : List UInt8) : bt (BA (c :: l)) 0 = (c.toNat : Int) := bt_ba (c :: l) 0 (by simp)
theorem ba_extract1 (c : UInt8) (l : List UInt8) : (BA (c :: l)).extract 1 (BA (c :: l)).size = BA l := by
  apply ByteArray.ext
  rw [ByteArray.data_extract]
  apply Array.ext'
  simp [BA, ByteArray.size]
/-! ### digits -/
def Dig (l : List UInt8) : Prop := ∀ c ∈ l, 48 ≤ c.toNat ∧ c.toNat ≤ 57
def val (l : List UInt8) : Nat := l.foldl (fun n c => 10 * n + (c.toNat - 48)) 0
theorem val_nil : val [] = 0 := rfl
theorem val_snoc (l : List UInt8) (c : UInt8) : val (l ++ [c]) = 10 * val l + (c.toNat - 48) := by simp [val]
theorem foldl_val (l : List UInt8) : ∀ n : Nat, l.foldl (fun n c => 10 * n + (c.toNat - 48)) n = n * 10 ^ l.length + val l := by
  induction l with
  | nil => intro n; simp [val]
  | cons c l ih =>
    intro n
    have h2 : val (c :: l) = (10 * 0 + (c.toNat - 48)) * 10 ^ l.length + val l := by rw [← ih]; rfl
    rw [List.foldl_cons, ih, h2, List.length_cons, Nat.pow_succ]
    generalize 10 ^ l.length = p
    rw [Nat.add_mul, Nat.add_mul, Nat.mul_comm 10 n, Nat.mul_assoc n 10 p, Nat.mul_comm 10 p]
    omega
theorem val_cons (c : UInt8) (l : List UInt8) : val (c :: l) = (c.toNat - 48) * 10 ^ l.length + val l := by
  rw [val, List.foldl_cons, foldl_val]
  simp
theorem val_append (l m : List UInt8) : val (l ++ m) = val l * 10 ^ m.length + val m := by rw [val, List.foldl_append, foldl_val]; rfl
theorem val_lt (l : List UInt8) (h : Dig l) : val l < 10 ^ l.length := by
  induction l with
  | nil => simp [val]
  | cons c l ih =>
    have h1 := ih (fun x hx => h x (by simp [hx]))
    have h2 := (h c (by simp)).2
    rw [val_cons, List.length_cons, Nat.pow_succ]
    have : (c.toNat - 48) * 10 ^ l.length ≤ 9 * 10 ^ l.length := Nat.mul_le_mul_right _ (by omega)
    omega
theorem dig_ofNat (n : Nat) (h : n < 10) : (UInt8.ofNat (48 + n)).toNat = 48 + n := by
  rw [UInt8.toNat_ofNat']
  omega
theorem dig_decDigits (n : Nat) : Dig (decDigits n) := by
  induction n using Nat.strongRecOn with
  | _ n ih =>
    unfold decDigits
    split
    · intro c hc
      simp only [List.mem_singleton] at hc
      subst hc
      rw [dig_ofNat _ (by omega)]
      omega
    · intro c hc
      rcases List.mem_append.mp hc with hc | hc
      · exact ih (n / 10) (by omega) c hc
      · simp only [List.mem_singleton] at hc
        subst hc
        rw [dig_ofNat _ (by omega)]
        omega
theorem val_decDigits (n : Nat) : val (decDigits n) = n := by
  induction n using Nat.strongRecOn with
  | _ n ih =>
    unfold decDigits
    split
    · rw [val_cons, dig_ofNat _ (by omega)]
      simp [val]
    · rw [val_snoc, ih (n / 10) (by omega), dig_ofNat _ (by omega)]
      omega
theorem decDigits_ne (n : Nat) : decDigits n ≠ [] := by
  unfold decDigits
  split <;> simp
theorem ofNat_toNat (c : UInt8) : UInt8.ofNat c.toNat = c := by simp
/-- a list of digits without a zero ahead is the numeral of its value -/
theorem canon : ∀ (l : List UInt8), Dig l → (∀ c r, l = c :: r → c.toNat ≠ 48) → l ≠ [] → decDigits (val l) = l := by
  intro l
  induction hn : l.length generalizing l with
  | zero => intro _ _ h; exact absurd (List.length_eq_zero_iff.mp hn) h
  | succ n ih =>
    intro hd hh hne
    obtain ⟨m, c, rfl⟩ : ∃ m c, l = m ++ [c] := ⟨l.dropLast, l.getLast hne, (List.dropLast_concat_getLast hne).symm⟩
    have hc := hd c (by simp)
    rw [val_snoc]
    by_cases hm : m = []
    · subst hm
      rw [val_nil, decDigits_one (by omega)]
      simp only [Nat.mul_zero, Nat.zero_add, List.nil_append]
      rw [show 48 + (c.toNat - 48) = c.toNat by omega, ofNat_toNat]
    · have hmd : Dig m := fun x hx => hd x (by simp [hx])
      have hmh : ∀ c' r, m = c' :: r → c'.toNat ≠ 48 := fun c' r e => hh c' (r ++ [c]) (by rw [e]; rfl)
      have hi := ih m (by simp at hn; exact hn) hmd hmh hm
      have hpos : 0 < val m := by
        cases m with
        | nil => exact absurd rfl hm
        | cons a r =>
          have h1 := hmh a r rfl
          have h2 := hmd a (by simp)
          rw [val_cons]
          have : 0 < (a.toNat - 48) * 10 ^ r.length := Nat.mul_pos (by omega) (Nat.pow_pos (by decide))
          omega
      rw [decDigits, dif_neg (by omega), show (10 * val m + (c.toNat - 48)) / 10 = val m by omega, hi, show (10 * val m + (c.toNat - 48)) % 10 = c.toNat - 48 by omega, show 48 + (c.toNat - 48) = c.toNat by omega, ofNat_toNat]
theorem decDigits_zero : decDigits 0 = [48] := decDigits_one (by decide)
theorem decDigits_head (n : Nat) (h : 0 < n) : ∀ c r, decDigits n = c :: r → c.toNat ≠ 48 := by
  induction n using Nat.strongRecOn with
  | _ n ih =>
    intro c r
    rw [decDigits]
    split
    · intro e
      simp only [List.cons.injEq] at e
      rw [← e.1, dig_ofNat _ (by omega)]
      omega
    · intro e
      have hne := decDigits_ne (n / 10)
      cases hd : decDigits (n / 10) with
      | nil => exact absurd hd hne
      | cons a m =>
        rw [hd] at e
        simp only [List.cons_append, List.cons.injEq] at e
        rw [← e.1]
        exact ih (n / 10) (by omega) (by omega) a m hd
/-- how long a numeral is -/
theorem len_le (n k : Nat) (hk : 0 < k) (h : n < 10 ^ k) : (decDigits n).length ≤ k := by
  induction k generalizing n with
  | zero => omega
  | succ k ih =>
    rw [decDigits]
    split
    · simp
    · rename_i h10
      have hk' : 0 < k := by
        rcases Nat.eq_zero_or_pos k with e | e
        · subst e; simp at h; omega
        · exact e
      have := ih (n / 10) hk' (by rw [Nat.pow_succ] at h; omega)
      simp
      omega
theorem lt_of_len (n k : Nat) (h : (decDigits n).length ≤ k) : n < 10 ^ k := by
  have h1 := val_lt _ (dig_decDigits n)
  rw [val_decDigits] at h1
  exact Nat.lt_of_lt_of_le h1 (Nat.pow_le_pow_right (by decide) h)
end Go.Proofs.YtcpaajecppplhaaGreatDoor.Nm
end
section
/- The document's sums and differences of digits, plainly: plus, minus, more come to the numbers' sum, difference, order. -/
namespace Go.Proofs.YtcpaajecppplhaaGreatDoor.Nm
open Go.Lib Go.RowKit Go.Proofs.YtcpaajecppplhaaGreatDoorW.PrintWords Go.Proofs.YtcpaajecppplhaaGreatDoorW.PrintLast Go.Proofs.YtcpaajecppplhaaGreatDoor
set_option linter.unusedVariables false
set_option linter.unusedSimpArgs false
theorem tmod_nat (n m : Nat) : Int.tmod (n : Int) (m : Int) = ((n % m : Nat) : Int) := rfl
theorem tdiv_nat (n m : Nat) : Int.tdiv (n : Int) (m : Int) = ((n / m : Nat) : Int) := rfl
theorem mx_nat (a b : Nat) : mx (a : Int) (b : Int) = ((max a b : Nat) : Int) := by
  unfold mx
  split <;> omega
/-! ### more: which size is greater -/
def cmpN (x y : Nat) : Int := if x < y then -1 else if y < x then 1 else 0
theorem len_lt_val (x y : Nat) (h : (decDigits x).length < (decDigits y).length) : x < y := by
  rcases Nat.lt_or_ge x y with h1 | h1
  · exact h1
  · exfalso
    have h2 := lt_of_len x (decDigits x).length (Nat.le_refl _)
    have := len_le y (decDigits x).length (by have := List.length_pos_iff.mpr (decDigits_ne x); omega) (by omega)
    omega
end Go.Proofs.YtcpaajecppplhaaGreatDoor.Nm
end
section
/- The document's numbers, plainly: what low, size, signed, sum, turned, product, told come to, at the text of every number. -/
namespace Go.Proofs.YtcpaajecppplhaaGreatDoor.Nm
open Go.Lib Go.RowKit Go.Proofs.YtcpaajecppplhaaGreatDoorW.PrintWords Go.Proofs.YtcpaajecppplhaaGreatDoorW.PrintLast Go.Proofs.YtcpaajecppplhaaGreatDoor
set_option linter.unusedVariables false
set_option linter.unusedSimpArgs false
/-- a number's text -/
def numS (z : Int) : ByteArray := BA (itoa z)
def nl (z : Int) : Nat := (decDigits z.natAbs).length
theorem itoa_neg' {z : Int} (h : z < 0) : itoa z = 45 :: decDigits z.natAbs := by unfold itoa; rw [if_pos h]
theorem itoa_pos' {z : Int} (h : ¬ z < 0) : itoa z = decDigits z.natAbs := by unfold itoa; rw [if_neg h, show z.toNat = z.natAbs by omega]
theorem numS_neg {z : Int} (h : z < 0) : numS z = BA (45 :: decDigits z.natAbs) := by unfold numS; rw [itoa_neg' h]
theorem numS_pos {z : Int} (h : ¬ z < 0) : numS z = BA (decDigits z.natAbs) := by unfold numS; rw [itoa_pos' h]
theorem nl_pos (z : Int) : 0 < nl z := List.length_pos_iff.mpr (decDigits_ne _)
theorem nl_le {z : Int} {k : Nat} (hk : 0 < k) (h : z.natAbs < 10 ^ k) : nl z ≤ k := len_le _ _ hk h
theorem nl_lt {z : Int} {k : Nat} (h : nl z ≤ k) : z.natAbs < 10 ^ k := lt_of_len _ _ h
theorem nl_mul (x y : Int) : nl (x * y) ≤ nl x + nl y := by
  refine nl_le (by have := nl_pos x; omega) ?_
  rw [Int.natAbs_mul, Nat.pow_add]
  exact Nat.mul_lt_mul'' (nl_lt (Nat.le_refl _)) (nl_lt (Nat.le_refl _))
theorem head_dec (n : Nat) : ∃ c r, decDigits n = c :: r ∧ 48 ≤ c.toNat ∧ c.toNat ≤ 57 := by
  cases h : decDigits n with
  | nil => exact absurd h (decDigits_ne n)
  | cons c r => exact ⟨c, r, rfl, dig_decDigits n c (by rw [h]; simp)⟩
theorem low_dec (n : Nat) : K.reredosref01_low.f (BA (decDigits n)) = some false := by
  obtain ⟨c, r, e, h1, h2⟩ := head_dec n
  unfold K.reredosref01_low.f
  rw [e, ba_list, if_neg (by simp), ba_size, if_pos (by simp), bt_head]
  congr 1
  exact beq_eq_false_iff_ne.mpr (by omega)
theorem low_ev (z : Int) : K.reredosref01_low.f (numS z) = some (decide (z < 0)) := by
  by_cases h : z < 0
  · rw [numS_neg h]
    unfold K.reredosref01_low.f
    rw [ba_list, if_neg (by simp), ba_size, if_pos (by simp), bt_head]
    simp [h]
  · rw [numS_pos h, low_dec]
    simp [h]
theorem size_ev (z : Int) : K.reredosref01_size.f (numS z) = some (BA (decDigits z.natAbs)) := by
  unfold K.reredosref01_size.f
  rw [low_ev]
  simp only [Option.bind_some]
  by_cases h : z < 0
  · rw [decide_eq_true h, if_pos rfl, numS_neg h, ba_extract1, ba_size, if_pos (by simp; omega)]
  · rw [decide_eq_false h, if_neg (by decide), numS_pos h]
theorem dec_zero_iff (n : Nat) : decDigits n = [48] ↔ n = 0 := by
  constructor
  · intro h
    have := val_decDigits n
    rw [h] at this
    simpa [val] using this.symm
  · rintro rfl
    exact decDigits_zero
theorem dec_mono {x y : Nat} (h : x ≤ y) : (decDigits x).length ≤ (decDigits y).length := by
  rcases Nat.lt_or_ge (decDigits y).length (decDigits x).length with h1 | h1
  · have := len_lt_val _ _ h1
    omega
  · exact h1
theorem dec_add {x y k : Nat} (hx : (decDigits x).length ≤ k) (hy : (decDigits y).length ≤ k) : (decDigits (x + y)).length ≤ k + 1 := by
  refine len_le _ _ (by omega) ?_
  have h1 := lt_of_len x k hx
  have h2 := lt_of_len y k hy
  rw [Nat.pow_succ]
  omega
def told (z : Int) : ByteArray × Int := if z.natAbs < 10 ^ 100 then (numS z, 0) else (BA [], 8)
end Go.Proofs.YtcpaajecppplhaaGreatDoor.Nm
end
