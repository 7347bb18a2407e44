/- What the law leans on, part 17: declarations of several texts of ours, in their order. -/
import Derived.Test.YtcpaajecppplhaaGreatDoorXT5
import Derived.Test.YtcpaajecppplhaaGreatDoorXT13
section
/- slices.Max of ints, num.Int, width.Of and width.Next: what they tell, at every input within the bounds that each f names. -/
namespace Go.Proofs.YtcpaajecppplhaaGreatDoor.Hd
open Go.RowKit Go.Proofs.YtcpaajecppplhaaGreatDoorW.PrintWords Go.Proofs.YtcpaajecppplhaaGreatDoorW.PrintLast Go.Proofs.YtcpaajecppplhaaGreatDoorW.PrintMore Go.Proofs.YtcpaajecppplhaaGreatDoor.B Go.Lib
set_option linter.unusedVariables false
set_option linter.unusedSimpArgs false
/-! ### num.Int -/
def numInt.f (a0 : ByteArray) : Option (Int × Bool) :=
  if a0.size ≤ 281474976710656 then (K.num_May.f a0).bind fun m => if m = true then (match parseIntB 64 a0.data.toList with | .ok v => some (v, true) | _ => some (0, false)) else some (0, false) else none
set_option maxHeartbeats 1000000 in
theorem numInt.calls (a0 : ByteArray) (r1 : Int) (r2 : Bool) (w : World) (hG : GL w) (h : numInt.f a0 = some (r1, r2)) :
    Calls Tryz.prog 124 #[.string a0] w fun e w' => e = .returned (.tuple #[.int .i64 r1, .bool r2]) ∧ Below w.heap.size w w' := by
  unfold numInt.f at h
  split at h
  · rename_i hs
    obtain ⟨m, hm, h⟩ := Option.bind_eq_some_iff.mp h
    have HM := Aside0.mk hm
    clear hm
    cases m with
    | false =>
      simp only [Bool.false_eq_true, if_false, Option.some.injEq, Prod.mk.injEq] at h
      obtain ⟨rfl, rfl⟩ := h
      go_enter Tryz.func124, Tryz.ntmps124
      go_wp2_with (go_at_call 70; refine (K.num_May.calls a0 false _ HM.out).mono ?_; rintro e w' ⟨rfl, hb⟩)
      go_ret2
      exact ⟨rfl, hb⟩
    | true =>
      have H1 : Calls Tryz.prog 124 #[.string a0] w fun e w' => e = .returned (.tuple (match parseIntB 64 a0.data.toList with | .ok v => #[.int .i64 v, .bool true] | _ => #[.int .i64 0, .bool false])) ∧ Below w.heap.size w w' := by
        obtain ⟨q, hq⟩ : ∃ q, q = parseIntB 64 a0.data.toList := ⟨_, rfl⟩
        have HQ := Aside0.mk hq.symm
        rw [← hq]
        clear h hq
        cases q
        · rename_i v
          go_enter Tryz.func124, Tryz.ntmps124
          go_wp2_with (first | (go_at_call 70; refine (K.num_May.calls a0 true _ HM.out).mono ?_; rintro e w1 ⟨rfl, hb⟩) | (go_at_call 178; refine (Tryz.strconv_ParseInt_10_at64_ok a0 (by omega) v HQ.out _).mono ?_; rintro e w2 ⟨rfl, hw⟩))
          have hb2 : Below w.heap.size w w2 := by
            rcases hw with rfl | ⟨t, rfl⟩
            · exact hb
            · exact hb.trans ((bytesWorld_below _ _ _).mono hb.size)
          clear hw
          go_ret2
          exact ⟨rfl, hb2⟩
        · obtain ⟨_, ⟨tp, p, hv⟩, _⟩ := id hG
          have HV : ∀ W, Below w.heap.size w W → W.var? Tryz.prog "strconv.ErrSyntax" = some #[.iface tp p] := fun W hb => var_keep (g := 2) (Nat.le_refl _) (by kernel_rfl) hb hv
          go_enter Tryz.func124, Tryz.ntmps124
          go_wp2_with (first | (go_at_call 70; refine (K.num_May.calls a0 true _ HM.out).mono ?_; rintro e w1 ⟨rfl, hb⟩) | (go_at_call 178; refine (Any.strconv_ParseInt_10_at64_syntax_var Tryz.laysC174 a0 (by omega) HQ.out tp p _ (HV _ hb)).mono ?_; rintro e w2 ⟨N, rfl, _, _, hb2⟩))
          go_ret2
          exact ⟨rfl, hb.trans (hb2.mono hb.size)⟩
        · obtain ⟨_, _, ⟨tp, p, hv⟩, _⟩ := id hG
          have HV : ∀ W, Below w.heap.size w W → W.var? Tryz.prog "strconv.ErrRange" = some #[.iface tp p] := fun W hb => var_keep (g := 3) (Nat.le_refl _) (by kernel_rfl) hb hv
          go_enter Tryz.func124, Tryz.ntmps124
          go_wp2_with (first | (go_at_call 70; refine (K.num_May.calls a0 true _ HM.out).mono ?_; rintro e w1 ⟨rfl, hb⟩) | (go_at_call 178; refine (Tryz.strconv_ParseInt_10_at64_range_var a0 (by omega) HQ.out tp p _ (HV _ hb)).mono ?_; rintro e w2 ⟨N, rfl, _, _, hb2⟩))
          go_ret2
          exact ⟨rfl, hb.trans (hb2.mono hb.size)⟩
      refine H1.mono ?_
      rintro e w' ⟨rfl, hb⟩
      refine ⟨?_, hb⟩
      simp only [if_true] at h
      revert h
      cases parseIntB 64 a0.data.toList <;> (intro h; simp only [Option.some.injEq, Prod.mk.injEq] at h; obtain ⟨rfl, rfl⟩ := h; rfl)
  · cases h
end Go.Proofs.YtcpaajecppplhaaGreatDoor.Hd
end
section
/- Decimal digits, plainly: the value of a list of digits, the numeral of a number, and what stripping of zeros does, at every list. -/
namespace Go.Proofs.YtcpaajecppplhaaGreatDoor.Nm
open Go.Lib Go.RowKit Go.Proofs.YtcpaajecppplhaaGreatDoorW.PrintWords Go.Proofs.YtcpaajecppplhaaGreatDoorW.PrintLast Go.Proofs.YtcpaajecppplhaaGreatDoor
set_option linter.unusedVariables false
set_option linter.unusedSimpArgs false
theorem w64 {x : Int} (h1 : -9223372036854775808 ≤ x) (h2 : x ≤ 9223372036854775807) : wrap64 x = x := by unfold wrap64; omega
/-! ### bytes -/
abbrev BA (l : List UInt8) : ByteArray := ⟨l.toArray⟩
theorem ba_of (s : ByteArray) : s = BA s.data.toList := by cases s; simp [BA]
theorem ba_size (l : List UInt8) : (BA l).size = l.length := by simp [BA, ByteArray.size]
theorem ba_data (l : List UInt8) : (BA l).data.toList = l := by simp [BA]
theorem ba_list (l : List UInt8) : (BA l).toList = l := by simp [BA]
theorem ba_inj {l m : List UInt8} (h : BA l = BA m) : l = m := by have := congrArg (fun s : ByteArray => s.data.toList) h; simpa [BA] using this
theorem bt_ba (l : List UInt8) (i : Nat) (h : i < l.length) : bt (BA l) (i : Int) = ((l.getD i 0).toNat : Int) := by
  unfold bt
  have h1 : ((i : Int)).toNat < (BA l).size := by rw [ba_size]; omega
  rw [dif_pos h1]
  simp [BA, List.getD, List.getElem?_eq_getElem h]
  rfl
theorem bt_head (c : UInt8) (l : List UInt8) : bt (BA (c :: l)) 0 = (c.toNat : Int) := bt_ba (c :: l) 0 (by simp)
theorem ba_append (l m : List UInt8) : BA l ++ BA m = BA (l ++ m) := by
  apply ByteArray.ext
  simp [BA]
theorem ba_extract1 (c : UInt8) (l : List UInt8) : (BA (c :: l)).extract 1 (BA (c :: l)).size = BA l := by
  apply ByteArray.ext
  rw [ByteArray.data_extract]
  apply Array.ext'
  simp [BA, ByteArray.size]
/-! ### digits -/
def Dig (l : List UInt8) : Prop := ∀ c ∈ l, 48 ≤ c.toNat ∧ c.toNat ≤ 57
def val (l : List UInt8) : Nat := l.foldl (fun n c => 10 * n + (c.toNat - 48)) 0
theorem val_nil : val [] = 0 := rfl
theorem val_snoc (l : List UInt8) (c : UInt8) : val (l ++ [c]) = 10 * val l + (c.toNat - 48) := by simp [val]
theorem foldl_val (l : List UInt8) : ∀ n : Nat, l.foldl (fun n c => 10 * n + (c.toNat - 48)) n = n * 10 ^ l.length + val l := by
  induction l with
  | nil => intro n; simp [val]
  | cons c l ih =>
    intro n
    have h2 : val (c :: l) = (10 * 0 + (c.toNat - 48)) * 10 ^ l.length + val l := by rw [← ih]; rfl
    rw [List.foldl_cons, ih, h2, List.length_cons, Nat.pow_succ]
    generalize 10 ^ l.length = p
    rw [Nat.add_mul, Nat.add_mul, Nat.mul_comm 10 n, Nat.mul_assoc n 10 p, Nat.mul_comm 10 p]
    omega
theorem val_cons (c : UInt8) (l : List UInt8) : val (c :: l) = (c.toNat - 48) * 10 ^ l.length + val l := by
  rw [val, List.foldl_cons, foldl_val]
  simp
theorem val_append (l m : List UInt8) : val (l ++ m) = val l * 10 ^ m.length + val m := by rw [val, List.foldl_append, foldl_val]; rfl
theorem val_lt (l : List UInt8) (h : Dig l) : val l < 10 ^ l.length := by
  induction l with
  | nil => simp [val]
  | cons c l ih =>
    have h1 := ih (fun x hx => h x (by simp [hx]))
    have h2 := (h c (by simp)).2
    rw [val_cons, List.length_cons, Nat.pow_succ]
    have : (c.toNat - 48) * 10 ^ l.length ≤ 9 * 10 ^ l.length := Nat.mul_le_mul_right _ (by omega)
    omega
theorem dig_ofNat (n : Nat) (h : n < 10) : (UInt8.ofNat (48 + n)).toNat = 48 + n := by
  rw [UInt8.toNat_ofNat']
  omega
theorem dig_decDigits (n : Nat) : Dig (decDigits n) := by
  induction n using Nat.strongRecOn with
  | _ n ih =>
    unfold decDigits
    split
    · intro c hc
      simp only [List.mem_singleton] at hc
      subst hc
      rw [dig_ofNat _ (by omega)]
      omega
    · intro c hc
      rcases List.mem_append.mp hc with hc | hc
      · exact ih (n / 10) (by omega) c hc
      · simp only [List.mem_singleton] at hc
        subst hc
        rw [dig_ofNat _ (by omega)]
        omega
theorem val_decDigits (n : Nat) : val (decDigits n) = n := by
  induction n using Nat.strongRecOn with
  | _ n ih =>
    unfold decDigits
    split
    · rw [val_cons, dig_ofNat _ (by omega)]
      simp [val]
    · rw [val_snoc, ih (n / 10) (by omega), dig_ofNat _ (by omega)]
      omega
theorem decDigits_ne (n : Nat) : decDigits n ≠ [] := by
  unfold decDigits
  split <;> simp
theorem ofNat_toNat (c : UInt8) : UInt8.ofNat c.toNat = c := by simp
/-- a list of digits without a zero ahead is the numeral of its value -/
theorem canon : ∀ (l : List UInt8), Dig l → (∀ c r, l = c :: r → c.toNat ≠ 48) → l ≠ [] → decDigits (val l) = l := by
  intro l
  induction hn : l.length generalizing l with
  | zero => intro _ _ h; exact absurd (List.length_eq_zero_iff.mp hn) h
  | succ n ih =>
    intro hd hh hne
    obtain ⟨m, c, rfl⟩ : ∃ m c, l = m ++ [c] := ⟨l.dropLast, l.getLast hne, (List.dropLast_concat_getLast hne).symm⟩
    have hc := hd c (by simp)
    rw [val_snoc]
    by_cases hm : m = []
    · subst hm
      rw [val_nil, decDigits_one (by omega)]
      simp only [Nat.mul_zero, Nat.zero_add, List.nil_append]
      rw [show 48 + (c.toNat - 48) = c.toNat by omega, ofNat_toNat]
    · have hmd : Dig m := fun x hx => hd x (by simp [hx])
      have hmh : ∀ c' r, m = c' :: r → c'.toNat ≠ 48 := fun c' r e => hh c' (r ++ [c]) (by rw [e]; rfl)
      have hi := ih m (by simp at hn; exact hn) hmd hmh hm
      have hpos : 0 < val m := by
        cases m with
        | nil => exact absurd rfl hm
        | cons a r =>
          have h1 := hmh a r rfl
          have h2 := hmd a (by simp)
          rw [val_cons]
          have : 0 < (a.toNat - 48) * 10 ^ r.length := Nat.mul_pos (by omega) (Nat.pow_pos (by decide))
          omega
      rw [decDigits, dif_neg (by omega), show (10 * val m + (c.toNat - 48)) / 10 = val m by omega, hi, show (10 * val m + (c.toNat - 48)) % 10 = c.toNat - 48 by omega, show 48 + (c.toNat - 48) = c.toNat by omega, ofNat_toNat]
theorem decDigits_zero : decDigits 0 = [48] := decDigits_one (by decide)
theorem decDigits_head (n : Nat) (h : 0 < n) : ∀ c r, decDigits n = c :: r → c.toNat ≠ 48 := by
  induction n using Nat.strongRecOn with
  | _ n ih =>
    intro c r
    rw [decDigits]
    split
    · intro e
      simp only [List.cons.injEq] at e
      rw [← e.1, dig_ofNat _ (by omega)]
      omega
    · intro e
      have hne := decDigits_ne (n / 10)
      cases hd : decDigits (n / 10) with
      | nil => exact absurd hd hne
      | cons a m =>
        rw [hd] at e
        simp only [List.cons_append, List.cons.injEq] at e
        rw [← e.1]
        exact ih (n / 10) (by omega) (by omega) a m hd
/-- how long a numeral is -/
theorem len_le (n k : Nat) (hk : 0 < k) (h : n < 10 ^ k) : (decDigits n).length ≤ k := by
  induction k generalizing n with
  | zero => omega
  | succ k ih =>
    rw [decDigits]
    split
    · simp
    · rename_i h10
      have hk' : 0 < k := by
        rcases Nat.eq_zero_or_pos k with e | e
        · subst e; simp at h; omega
        · exact e
      have := ih (n / 10) hk' (by rw [Nat.pow_succ] at h; omega)
      simp
      omega
theorem lt_of_len (n k : Nat) (h : (decDigits n).length ≤ k) : n < 10 ^ k := by
  have h1 := val_lt _ (dig_decDigits n)
  rw [val_decDigits] at h1
  exact Nat.lt_of_lt_of_le h1 (Nat.pow_le_pow_right (by decide) h)
theorem decDigits_snoc (n d : Nat) (h : 0 < n) (hd : d < 10) : decDigits (10 * n + d) = decDigits n ++ [UInt8.ofNat (48 + d)] := by
  rw [decDigits, dif_neg (by omega), show (10 * n + d) / 10 = n by omega, show (10 * n + d) % 10 = d by omega]
/-! ### bare: no zeros ahead -/
theorem bare_ev : ∀ (l : List UInt8), Dig l → l.length ≤ 9223372036854775807 → Ev (fun k => K.reredosref01_bare.f k (BA l)) (BA (decDigits (val l)))
  | [], _, _ => by
    unfold K.reredosref01_bare.f
    refine Ev.step (f := fun _ => some (BA [48])) (fun k => ?_) (by rw [val_nil, decDigits_zero]; exact Ev.now _)
    simp only [K.reredosref01_bare.l0, ba_size, ba_list]
    rw [if_neg (by simp)]
    simp
  | [c], hd, _ => by
    have hc : decDigits (val [c]) = [c] := by
      have h := hd c (by simp)
      rw [val_cons, val_nil, decDigits_one (by simp; omega)]
      simp only [List.length_nil, Nat.pow_zero, Nat.mul_one, Nat.add_zero]
      rw [show 48 + (c.toNat - 48) = c.toNat by omega, ofNat_toNat]
    unfold K.reredosref01_bare.f
    refine Ev.step (f := fun _ => some (BA [c])) (fun k => ?_) (by rw [hc]; exact Ev.now _)
    simp only [K.reredosref01_bare.l0, ba_size, ba_list]
    rw [if_neg (by simp), if_neg (by simp)]
  | c :: d :: r, hd, hl => by
    unfold K.reredosref01_bare.f
    have hlen : (((c :: d :: r).length : Nat) : Int) > 1 := by simp; omega
    have h0 : (0 : Int) < (((c :: d :: r).length : Nat) : Int) := by omega
    have h1 : (1 : Int) ≤ (((c :: d :: r).length : Nat) : Int) := by omega
    by_cases hc : c.toNat = 48
    · have hv : val (c :: d :: r) = val (d :: r) := by rw [val_cons, hc]; simp
      rw [hv]
      refine Ev.step (fun k => ?_) (bare_ev (d :: r) (fun x hx => hd x (by simp at hx ⊢; exact .inr hx)) (by simp at hl ⊢; omega))
      simp only [K.reredosref01_bare.l0, K.reredosref01_bare.f]
      rw [ba_extract1, bt_head, hc, ba_size, if_pos hlen, if_pos h0, if_pos (by rfl), if_pos h1]
    · refine Ev.step (f := fun _ => some (BA (c :: d :: r))) (fun k => ?_) ?_
      · simp only [K.reredosref01_bare.l0]
        rw [ba_extract1, bt_head, ba_size, ba_list, if_pos hlen, if_pos h0, if_neg (by omega), if_neg (by simp)]
      · rw [canon _ hd (fun c' r' e => by simp at e; rw [← e.1]; exact hc) (by simp)]
        exact Ev.now _
end Go.Proofs.YtcpaajecppplhaaGreatDoor.Nm
end
section
/- The document's sums and differences of digits, plainly: plus, minus, more come to the numbers' sum, difference, order. -/
namespace Go.Proofs.YtcpaajecppplhaaGreatDoor.Nm
open Go.Lib Go.RowKit Go.Proofs.YtcpaajecppplhaaGreatDoorW.PrintWords Go.Proofs.YtcpaajecppplhaaGreatDoorW.PrintLast Go.Proofs.YtcpaajecppplhaaGreatDoor
set_option linter.unusedVariables false
set_option linter.unusedSimpArgs false
theorem tmod_nat (n m : Nat) : Int.tmod (n : Int) (m : Int) = ((n % m : Nat) : Int) := rfl
theorem tdiv_nat (n m : Nat) : Int.tdiv (n : Int) (m : Int) = ((n / m : Nat) : Int) := rfl
theorem strOfNums_one (x : Int) : strOfNums [x] = BA [UInt8.ofNat x.toNat] := rfl
/-- a byte as the code makes it of a figure -/
theorem fig (d : Nat) (h : d < 10) : strOfNums [wrap64 (48 + (d : Int)) % 256] = BA [UInt8.ofNat (48 + d)] := by
  rw [strOfNums_one, w64 (by omega) (by omega)]
  congr 3
  omega
theorem dig_cons {c : UInt8} {l : List UInt8} (h1 : 48 ≤ c.toNat ∧ c.toNat ≤ 57) (h : Dig l) : Dig (c :: l) := fun x hx => by
  rcases List.mem_cons.mp hx with rfl | hx
  · exact h1
  · exact h x hx
theorem dig_fig {d : Nat} {l : List UInt8} (hd : d < 10) (h : Dig l) : Dig (UInt8.ofNat (48 + d) :: l) := dig_cons (by rw [dig_ofNat _ hd]; omega) h
theorem val_fig (d : Nat) (l : List UInt8) (hd : d < 10) : val (UInt8.ofNat (48 + d) :: l) = d * 10 ^ l.length + val l := by
  rw [val_cons, dig_ofNat _ hd, Nat.add_sub_cancel_left]
/-- a figure, from the end -/
theorem dg_val (l : List UInt8) (hd : Dig l) (i : Nat) (h : i < l.length) : (l.getD (l.length - 1 - i) 0).toNat - 48 = val l / 10 ^ i % 10 := by
  have hj : l.length - 1 - i < l.length := by omega
  obtain ⟨p, c, s, hl, hs⟩ : ∃ p c s, l = p ++ c :: s ∧ s.length = i := ⟨l.take (l.length - 1 - i), l[l.length - 1 - i], l.drop (l.length - 1 - i + 1), by
    rw [← List.drop_eq_getElem_cons hj, List.take_append_drop], by simp; omega⟩
  have hp : l.length - 1 - i = p.length := by rw [hl]; simp; omega
  have hg : l.getD (l.length - 1 - i) 0 = c := by rw [hp, hl]; simp [List.getD]
  have hcd := hd c (by rw [hl]; simp)
  have hsd : val s < 10 ^ i := by rw [← hs]; exact val_lt s (fun x hx => hd x (by rw [hl]; simp [hx]))
  rw [hg, hl, val_append, val_cons, List.length_cons, hs, Nat.pow_succ]
  have e : val p * (10 ^ i * 10) + ((c.toNat - 48) * 10 ^ i + val s) = val s + 10 ^ i * (val p * 10 + (c.toNat - 48)) := by
    rw [Nat.mul_add, Nat.mul_left_comm (val p) (10 ^ i) 10, Nat.mul_comm (10 ^ i) (c.toNat - 48)]
    omega
  rw [e, Nat.add_mul_div_left _ _ (Nat.pow_pos (by decide)), Nat.div_eq_of_lt hsd]
  omega
theorem digit_ev (l : List UInt8) (hd : Dig l) (hl : l.length ≤ 1000000000) (i : Nat) (hi : i ≤ 2000000000) : K.reredosref01_digit.f (BA l) (i : Int) = some ((val l / 10 ^ i % 10 : Nat) : Int) := by
  unfold K.reredosref01_digit.f
  rw [ba_size]
  by_cases h : i < l.length
  · rw [if_neg (by omega), w64 (x := (l.length : Int) - 1) (by omega) (by omega), w64 (by omega) (by omega), if_pos (by omega), if_pos (by omega), show ((l.length : Int) - 1 - (i : Int)) = ((l.length - 1 - i : Nat) : Int) by omega, bt_ba _ _ (by omega), ← dg_val l hd i h]
    have hm : l.getD (l.length - 1 - i) 0 ∈ l := by
      rw [List.getD_eq_getElem?_getD, List.getElem?_eq_getElem (by omega)]
      exact List.getElem_mem _
    have := hd _ hm
    congr 1
    omega
  · rw [if_pos (by omega)]
    have h1 : val l < 10 ^ i := Nat.lt_of_lt_of_le (val_lt l hd) (Nat.pow_le_pow_right (by decide) (by omega))
    rw [Nat.div_eq_of_lt h1]
    rfl
theorem low_step (A i : Nat) : A % 10 ^ (i + 1) = A % 10 ^ i + 10 ^ i * (A / 10 ^ i % 10) := Nat.mod_pow_succ
theorem mx_nat (a b : Nat) : mx (a : Int) (b : Int) = ((max a b : Nat) : Int) := by
  unfold mx
  split <;> omega
/-! ### plus -/
theorem plus_loop (a b : List UInt8) (ha : Dig a) (hb : Dig b) (hla : a.length ≤ 1000000000) (hlb : b.length ≤ 1000000000) : ∀ (d i : Nat) (m : List UInt8) (c : Nat), max a.length b.length + 1 - i ≤ d → i ≤ max a.length b.length + 1 → Dig m → m.length = i → c ≤ 1 → val m + c * 10 ^ i = val a % 10 ^ i + val b % 10 ^ i →
    Ev (fun k => K.reredosref01_plus.l0 k (BA a) (BA b) (BA m) (c : Int) (i : Int)) (BA (decDigits (val a + val b)))
  | 0, i, m, c, h0, hi, hm, hml, hc, hv => by
    have hii : i = max a.length b.length + 1 := by omega
    have hA : val a < 10 ^ max a.length b.length := Nat.lt_of_lt_of_le (val_lt a ha) (Nat.pow_le_pow_right (by decide) (by omega))
    have hB : val b < 10 ^ max a.length b.length := Nat.lt_of_lt_of_le (val_lt b hb) (Nat.pow_le_pow_right (by decide) (by omega))
    have hp : 10 ^ i = 10 ^ max a.length b.length * 10 := by rw [hii, Nat.pow_succ]
    have hc0 : c = 0 := by
      rcases Nat.lt_or_ge c 1 with h | h
      · omega
      · have : c = 1 := by omega
        subst this
        rw [Nat.mod_eq_of_lt (by omega), Nat.mod_eq_of_lt (by omega)] at hv
        omega
    subst hc0
    rw [Nat.mod_eq_of_lt (by omega), Nat.mod_eq_of_lt (by omega)] at hv
    have hvm : val m = val a + val b := by omega
    refine Ev.step (fun k => ?_) (Ev.bind (f := fun k t => some t) (bare_ev m hm (by omega)) (by rw [hvm]; exact Ev.now _))
    simp only [K.reredosref01_plus.l0]
    rw [ba_size, ba_size, mx_nat, if_neg (by omega)]
  | d + 1, i, m, c, h0, hi, hm, hml, hc, hv => by
    by_cases hlast : i = max a.length b.length + 1
    · exact plus_loop a b ha hb hla hlb 0 i m c (by omega) hi hm hml hc hv
    · obtain ⟨x, hx⟩ : ∃ x, x = val a / 10 ^ i % 10 := ⟨_, rfl⟩
      obtain ⟨y, hy⟩ : ∃ y, y = val b / 10 ^ i % 10 := ⟨_, rfl⟩
      have hx9 : x < 10 := by omega
      have hy9 : y < 10 := by omega
      have hstep := plus_loop a b ha hb hla hlb d (i + 1) (UInt8.ofNat (48 + (x + y + c) % 10) :: m) ((x + y + c) / 10) (by omega) (by omega) (dig_fig (by omega) hm) (by simp [hml]) (by omega) (by
        rw [val_fig _ _ (by omega), hml, low_step, low_step, ← hx, ← hy, Nat.pow_succ, Nat.mul_comm (10 ^ i) x, Nat.mul_comm (10 ^ i) y]
        have e : (x + y + c) % 10 * 10 ^ i + (x + y + c) / 10 * (10 ^ i * 10) = (x + y + c) * 10 ^ i := by
          rw [Nat.mul_comm (10 ^ i) 10, ← Nat.mul_assoc, ← Nat.add_mul]
          congr 1
          omega
        rw [Nat.add_mul, Nat.add_mul] at e
        omega)
      refine Ev.step (fun k => ?_) hstep
      simp only [K.reredosref01_plus.l0]
      rw [ba_size, ba_size, mx_nat, if_pos (by omega), digit_ev a ha hla i (by omega), digit_ev b hb hlb i (by omega), ← hx, ← hy]
      simp only [Option.bind_some]
      rw [w64 (x := (x : Int) + (y : Int)) (by omega) (by omega), w64 (x := (x : Int) + (y : Int) + (c : Int)) (by omega) (by omega), show ((x : Int) + (y : Int) + (c : Int)) = ((x + y + c : Nat) : Int) by omega, show (10 : Int) = ((10 : Nat) : Int) from rfl, tmod_nat, tdiv_nat, fig _ (by omega), ba_append, ba_size, w64 (by omega) (by omega), w64 (by omega) (by omega), if_pos (by rw [ba_size]; simp; omega)]
      rfl
theorem plus_ev (a b : List UInt8) (ha : Dig a) (hb : Dig b) (hla : a.length ≤ 1000000000) (hlb : b.length ≤ 1000000000) : Ev (fun k => K.reredosref01_plus.f k (BA a) (BA b)) (BA (decDigits (val a + val b))) :=
  plus_loop a b ha hb hla hlb _ 0 [] 0 (Nat.le_refl _) (by omega) (fun _ h => by cases h) rfl (by omega) (by simp [val, Nat.mod_one])
/-! ### minus -/
theorem minus_loop (a b : List UInt8) (ha : Dig a) (hb : Dig b) (hla : a.length ≤ 1000000000) (hlb : b.length ≤ 1000000000) (hle : val b ≤ val a) : ∀ (d i : Nat) (m : List UInt8) (c : Nat), a.length - i ≤ d → i ≤ a.length → Dig m → m.length = i → c ≤ 1 → val m + val b % 10 ^ i = val a % 10 ^ i + c * 10 ^ i →
    Ev (fun k => K.reredosref01_minus.l0 k (BA a) (BA b) (BA m) (c : Int) (i : Int)) (BA (decDigits (val a - val b)))
  | 0, i, m, c, h0, hi, hm, hml, hc, hv => by
    have hii : i = a.length := by omega
    have hA : val a < 10 ^ i := by rw [hii]; exact val_lt a ha
    have hM : val m < 10 ^ i := by rw [← hml]; exact val_lt m hm
    rw [Nat.mod_eq_of_lt (by omega), Nat.mod_eq_of_lt (by omega)] at hv
    have hc0 : c = 0 := by
      rcases Nat.lt_or_ge c 1 with h | h
      · omega
      · have : c = 1 := by omega
        subst this
        omega
    subst hc0
    have hvm : val m = val a - val b := by omega
    refine Ev.step (fun k => ?_) (Ev.bind (f := fun k t => some t) (bare_ev m hm (by omega)) (by rw [hvm]; exact Ev.now _))
    simp only [K.reredosref01_minus.l0]
    rw [ba_size, if_neg (by omega)]
  | d + 1, i, m, c, h0, hi, hm, hml, hc, hv => by
    by_cases hlast : i = a.length
    · exact minus_loop a b ha hb hla hlb hle 0 i m c (by omega) hi hm hml hc hv
    · obtain ⟨x, hx⟩ : ∃ x, x = val a / 10 ^ i % 10 := ⟨_, rfl⟩
      obtain ⟨y, hy⟩ : ∃ y, y = val b / 10 ^ i % 10 := ⟨_, rfl⟩
      have hx9 : x < 10 := by omega
      have hy9 : y < 10 := by omega
      have key : ∀ (e c' : Nat), e < 10 → c' ≤ 1 → e + y + c = x + 10 * c' → Ev (fun k => K.reredosref01_minus.l0 k (BA a) (BA b) (BA (UInt8.ofNat (48 + e) :: m)) (c' : Int) ((i + 1 : Nat) : Int)) (BA (decDigits (val a - val b))) := fun e c' he hc' hec =>
        minus_loop a b ha hb hla hlb hle d (i + 1) (UInt8.ofNat (48 + e) :: m) c' (by omega) (by omega) (dig_fig he hm) (by simp [hml]) hc' (by
          rw [val_fig _ _ he, hml, low_step, low_step, ← hx, ← hy, Nat.pow_succ, Nat.mul_comm (10 ^ i) x, Nat.mul_comm (10 ^ i) y]
          have e1 : (e + y + c) * 10 ^ i = (x + 10 * c') * 10 ^ i := by rw [hec]
          rw [Nat.add_mul, Nat.add_mul, Nat.add_mul, Nat.mul_comm 10 c', Nat.mul_assoc c' 10, Nat.mul_comm 10 (10 ^ i)] at e1
          omega)
      by_cases hneg : x < y + c
      · refine Ev.step (fun k => ?_) (key (x + 10 - y - c) 1 (by omega) (by omega) (by omega))
        simp only [K.reredosref01_minus.l0]
        rw [ba_size, if_pos (by omega), digit_ev a ha hla i (by omega), digit_ev b hb hlb i (by omega), ← hx, ← hy]
        simp only [Option.bind_some]
        rw [w64 (x := (x : Int) - (y : Int)) (by omega) (by omega), w64 (x := (x : Int) - (y : Int) - (c : Int)) (by omega) (by omega), if_pos (by omega), w64 (x := (x : Int) - (y : Int) - (c : Int) + 10) (by omega) (by omega), show ((x : Int) - (y : Int) - (c : Int) + 10) = ((x + 10 - y - c : Nat) : Int) by omega, fig _ (by omega), ba_append, ba_size, w64 (by omega) (by omega), if_pos (by rw [ba_size]; simp; omega)]
        rfl
      · refine Ev.step (fun k => ?_) (key (x - y - c) 0 (by omega) (by omega) (by omega))
        simp only [K.reredosref01_minus.l0]
        rw [ba_size, if_pos (by omega), digit_ev a ha hla i (by omega), digit_ev b hb hlb i (by omega), ← hx, ← hy]
        simp only [Option.bind_some]
        rw [w64 (x := (x : Int) - (y : Int)) (by omega) (by omega), w64 (x := (x : Int) - (y : Int) - (c : Int)) (by omega) (by omega), if_neg (by omega), show ((x : Int) - (y : Int) - (c : Int)) = ((x - y - c : Nat) : Int) by omega, fig _ (by omega), ba_append, ba_size, w64 (by omega) (by omega), if_pos (by rw [ba_size]; simp; omega)]
        rfl
theorem minus_ev (a b : List UInt8) (ha : Dig a) (hb : Dig b) (hla : a.length ≤ 1000000000) (hlb : b.length ≤ 1000000000) (hle : val b ≤ val a) : Ev (fun k => K.reredosref01_minus.f k (BA a) (BA b)) (BA (decDigits (val a - val b))) :=
  minus_loop a b ha hb hla hlb hle _ 0 [] 0 (Nat.le_refl _) (by omega) (fun _ h => by cases h) rfl (by omega) (by simp [val, Nat.mod_one])
/-! ### more: which size is greater -/
def cmpN (x y : Nat) : Int := if x < y then -1 else if y < x then 1 else 0
theorem more_loop (a b : List UInt8) (ha : Dig a) (hb : Dig b) (hl : a.length = b.length) (hla : a.length ≤ 1000000000) : ∀ (d i : Nat), a.length - i ≤ d → i ≤ a.length → a.take i = b.take i →
    Ev (fun k => K.reredosref01_more.l0 k (BA a) (BA b) (i : Int)) (cmpN (val a) (val b))
  | 0, i, h0, hi, hp => by
    have e : a = b := by rw [← List.take_of_length_le (l := a) (i := i) (by omega), hp, List.take_of_length_le (by omega)]
    subst e
    refine Ev.step (f := fun _ => some 0) (fun k => ?_) (by simp [cmpN]; exact Ev.now _)
    simp only [K.reredosref01_more.l0]
    rw [ba_size, if_neg (by omega)]
  | d + 1, i, h0, hi, hp => by
    by_cases hlast : i = a.length
    · exact more_loop a b ha hb hl hla 0 i (by omega) hi hp
    · have hia : i < a.length := by omega
      have hib : i < b.length := by omega
      have ea : a = a.take i ++ a[i] :: a.drop (i + 1) := by rw [← List.drop_eq_getElem_cons hia, List.take_append_drop]
      have eb : b = a.take i ++ b[i] :: b.drop (i + 1) := by rw [hp, ← List.drop_eq_getElem_cons hib, List.take_append_drop]
      have ga : a.getD i 0 = a[i] := by simp [List.getD, List.getElem?_eq_getElem hia]
      have gb : b.getD i 0 = b[i] := by simp [List.getD, List.getElem?_eq_getElem hib]
      have hda := ha a[i] (List.getElem_mem hia)
      have hdb := hb b[i] (List.getElem_mem hib)
      have va : val a = val (a.take i) * (10 ^ (a.length - i - 1) * 10) + ((a[i].toNat - 48) * 10 ^ (a.length - i - 1) + val (a.drop (i + 1))) := by
        conv => lhs; rw [ea]
        rw [val_append, val_cons, List.length_cons, Nat.pow_succ, List.length_drop, show a.length - (i + 1) = a.length - i - 1 by omega]
      have vb : val b = val (a.take i) * (10 ^ (a.length - i - 1) * 10) + ((b[i].toNat - 48) * 10 ^ (a.length - i - 1) + val (b.drop (i + 1))) := by
        conv => lhs; rw [eb]
        rw [val_append, val_cons, List.length_cons, Nat.pow_succ, List.length_drop, show b.length - (i + 1) = a.length - i - 1 by omega]
      have la : val (a.drop (i + 1)) < 10 ^ (a.length - i - 1) := by
        have := val_lt (a.drop (i + 1)) (fun x hx => ha x (List.mem_of_mem_drop hx))
        rwa [List.length_drop, show a.length - (i + 1) = a.length - i - 1 by omega] at this
      have lb : val (b.drop (i + 1)) < 10 ^ (a.length - i - 1) := by
        have := val_lt (b.drop (i + 1)) (fun x hx => hb x (List.mem_of_mem_drop hx))
        rwa [List.length_drop, show b.length - (i + 1) = a.length - i - 1 by omega] at this
      rcases Nat.lt_trichotomy a[i].toNat b[i].toNat with h | h | h
      · have hlt : val a < val b := by
          rw [va, vb]
          have : (a[i].toNat - 48 + 1) * 10 ^ (a.length - i - 1) ≤ (b[i].toNat - 48) * 10 ^ (a.length - i - 1) := Nat.mul_le_mul_right _ (by omega)
          rw [Nat.add_mul] at this
          omega
        refine Ev.step (f := fun _ => some (-1)) (fun k => ?_) (by unfold cmpN; rw [if_pos hlt]; exact Ev.now _)
        simp only [K.reredosref01_more.l0]
        rw [ba_size, ba_size, if_pos (by omega), if_pos (by omega), if_pos (by omega), bt_ba a i hia, bt_ba b i hib, ga, gb, if_pos (by omega)]
      · have hcc : a[i] = b[i] := UInt8.toNat_inj.mp h
        refine Ev.step (fun k => ?_) (more_loop a b ha hb hl hla d (i + 1) (by omega) (by omega) (by rw [List.take_succ_eq_append_getElem hia, List.take_succ_eq_append_getElem hib, hp, hcc]))
        simp only [K.reredosref01_more.l0]
        rw [ba_size, ba_size, if_pos (by omega), if_pos (by omega), if_pos (by omega), bt_ba a i hia, bt_ba b i hib, ga, gb, if_neg (by omega), if_neg (by omega), w64 (by omega) (by omega)]
        rfl
      · have hlt : val b < val a := by
          rw [va, vb]
          have : (b[i].toNat - 48 + 1) * 10 ^ (a.length - i - 1) ≤ (a[i].toNat - 48) * 10 ^ (a.length - i - 1) := Nat.mul_le_mul_right _ (by omega)
          rw [Nat.add_mul] at this
          omega
        refine Ev.step (f := fun _ => some 1) (fun k => ?_) (by unfold cmpN; rw [if_neg (by omega), if_pos hlt]; exact Ev.now _)
        simp only [K.reredosref01_more.l0]
        rw [ba_size, ba_size, if_pos (by omega), if_pos (by omega), if_pos (by omega), bt_ba a i hia, bt_ba b i hib, ga, gb, if_neg (by omega), if_pos (by omega)]
theorem len_lt_val (x y : Nat) (h : (decDigits x).length < (decDigits y).length) : x < y := by
  rcases Nat.lt_or_ge x y with h1 | h1
  · exact h1
  · exfalso
    have h2 := lt_of_len x (decDigits x).length (Nat.le_refl _)
    have := len_le y (decDigits x).length (by have := List.length_pos_iff.mpr (decDigits_ne x); omega) (by omega)
    omega
theorem more_ev (x y : Nat) (hx : (decDigits x).length ≤ 1000000000) : Ev (fun k => K.reredosref01_more.f k (BA (decDigits x)) (BA (decDigits y))) (cmpN x y) := by
  unfold K.reredosref01_more.f
  by_cases h : (decDigits x).length = (decDigits y).length
  · have := more_loop _ _ (dig_decDigits x) (dig_decDigits y) h hx _ 0 (Nat.le_refl _) (by omega) (by simp)
    rw [val_decDigits, val_decDigits] at this
    refine Ev.congr (fun k => ?_) this
    rw [ba_size, ba_size, if_pos (by omega)]
    rfl
  · rcases Nat.lt_or_ge (decDigits x).length (decDigits y).length with h1 | h1
    · refine Ev.congr (f := fun _ => some (-1)) (fun k => ?_) (by unfold cmpN; rw [if_pos (len_lt_val x y h1)]; exact Ev.now _)
      rw [ba_size, ba_size, if_neg (by omega), if_pos (by omega)]
    · have h2 := len_lt_val y x (by omega)
      refine Ev.congr (f := fun _ => some 1) (fun k => ?_) (by unfold cmpN; rw [if_neg (by omega), if_pos h2]; exact Ev.now _)
      rw [ba_size, ba_size, if_neg (by omega), if_neg (by omega)]
end Go.Proofs.YtcpaajecppplhaaGreatDoor.Nm
end
section
/- The document's numbers, plainly: what low, size, signed, sum, turned, product, told come to, at the text of every number. -/
namespace Go.Proofs.YtcpaajecppplhaaGreatDoor.Nm
open Go.Lib Go.RowKit Go.Proofs.YtcpaajecppplhaaGreatDoorW.PrintWords Go.Proofs.YtcpaajecppplhaaGreatDoorW.PrintLast Go.Proofs.YtcpaajecppplhaaGreatDoor
set_option linter.unusedVariables false
set_option linter.unusedSimpArgs false
/-- a number's text -/
def numS (z : Int) : ByteArray := BA (itoa z)
def nl (z : Int) : Nat := (decDigits z.natAbs).length
theorem itoa_neg' {z : Int} (h : z < 0) : itoa z = 45 :: decDigits z.natAbs := by unfold itoa; rw [if_pos h]
theorem itoa_pos' {z : Int} (h : ¬ z < 0) : itoa z = decDigits z.natAbs := by unfold itoa; rw [if_neg h, show z.toNat = z.natAbs by omega]
theorem numS_neg {z : Int} (h : z < 0) : numS z = BA (45 :: decDigits z.natAbs) := by unfold numS; rw [itoa_neg' h]
theorem numS_pos {z : Int} (h : ¬ z < 0) : numS z = BA (decDigits z.natAbs) := by unfold numS; rw [itoa_pos' h]
theorem nl_le {z : Int} {k : Nat} (hk : 0 < k) (h : z.natAbs < 10 ^ k) : nl z ≤ k := len_le _ _ hk h
theorem nl_neg (x : Int) : nl (-x) = nl x := by unfold nl; rw [Int.natAbs_neg]
theorem nl_i64 {z : Int} (h1 : -9223372036854775808 ≤ z) (h2 : z ≤ 9223372036854775807) : nl z ≤ 19 := nl_le (by decide) (by omega)
theorem head_dec (n : Nat) : ∃ c r, decDigits n = c :: r ∧ 48 ≤ c.toNat ∧ c.toNat ≤ 57 := by
  cases h : decDigits n with
  | nil => exact absurd h (decDigits_ne n)
  | cons c r => exact ⟨c, r, rfl, dig_decDigits n c (by rw [h]; simp)⟩
theorem low_dec (n : Nat) : K.reredosref01_low.f (BA (decDigits n)) = some false := by
  obtain ⟨c, r, e, h1, h2⟩ := head_dec n
  unfold K.reredosref01_low.f
  rw [e, ba_list, if_neg (by simp), ba_size, if_pos (by simp), bt_head]
  congr 1
  exact beq_eq_false_iff_ne.mpr (by omega)
theorem low_ev (z : Int) : K.reredosref01_low.f (numS z) = some (decide (z < 0)) := by
  by_cases h : z < 0
  · rw [numS_neg h]
    unfold K.reredosref01_low.f
    rw [ba_list, if_neg (by simp), ba_size, if_pos (by simp), bt_head]
    simp [h]
  · rw [numS_pos h, low_dec]
    simp [h]
theorem size_ev (z : Int) : K.reredosref01_size.f (numS z) = some (BA (decDigits z.natAbs)) := by
  unfold K.reredosref01_size.f
  rw [low_ev]
  simp only [Option.bind_some]
  by_cases h : z < 0
  · rw [decide_eq_true h, if_pos rfl, numS_neg h, ba_extract1, ba_size, if_pos (by simp; omega)]
  · rw [decide_eq_false h, if_neg (by decide), numS_pos h]
theorem dec_zero_iff (n : Nat) : decDigits n = [48] ↔ n = 0 := by
  constructor
  · intro h
    have := val_decDigits n
    rw [h] at this
    simpa [val] using this.symm
  · rintro rfl
    exact decDigits_zero
theorem signed_ev (l : List UInt8) (hd : Dig l) (hl : l.length ≤ 1000000000) (b : Bool) : Ev (fun k => K.reredosref01_signed.f k (BA l) b) (numS (if b = true then -((val l : Nat) : Int) else (val l : Int))) := by
  have hb := bare_ev l hd (by omega)
  have hlen : (decDigits (val l)).length ≤ 1000000001 := by
    have := val_lt l hd
    exact Nat.le_trans (len_le _ (l.length + 1) (by omega) (Nat.lt_of_lt_of_le this (Nat.pow_le_pow_right (by decide) (by omega)))) (by omega)
  have plain : Ev (fun k => K.reredosref01_signed.j0 k (BA l) false) (BA (decDigits (val l))) := by
    refine Ev.step (fun k => ?_) (Ev.bind (f := fun k t => some t) hb (Ev.now _))
    simp only [K.reredosref01_signed.j0]
    rw [if_neg (by decide)]
  cases b with
  | false =>
    refine Ev.congr (fun k => ?_) (f := fun k => K.reredosref01_signed.j0 k (BA l) false) ?_
    · unfold K.reredosref01_signed.f
      rw [if_neg (by decide)]
    · rw [if_neg (by decide), numS_pos (by omega), Int.natAbs_natCast]
      exact plain
  | true =>
    rw [if_pos rfl]
    refine Ev.congr (fun k => ?_) (Ev.bind (f := fun k t => K.reredosref01_signed.j0 k (BA l) (t.toList != ([48] : List UInt8))) hb ?_)
    · unfold K.reredosref01_signed.f
      rw [if_pos rfl]
    · rw [ba_list]
      by_cases h0 : val l = 0
      · rw [h0, decDigits_zero]
        rw [h0, decDigits_zero] at plain
        rw [show ([48] != ([48] : List UInt8)) = false by decide, show numS (-((0 : Nat) : Int)) = BA [48] by rw [numS_pos (by omega)]; simp [decDigits_zero]]
        exact plain
      · have hne : decDigits (val l) ≠ [48] := fun e => h0 ((dec_zero_iff _).mp e)
        rw [show (decDigits (val l) != [48]) = true from bne_iff_ne.mpr hne, numS_neg (by omega), Int.natAbs_neg, Int.natAbs_natCast]
        refine Ev.step (fun k => ?_) (Ev.bind (f := fun k t => if 1 + t.size ≤ 9223372036854775807 then (some ((⟨#[45]⟩ : ByteArray) ++ t)) else none) hb ?_)
        · simp only [K.reredosref01_signed.j0]
          rw [if_pos trivial]
        · rw [ba_size, if_pos (by omega)]
          exact Ev.now _
theorem signed_dec (n : Nat) (hl : (decDigits n).length ≤ 1000000000) (b : Bool) : Ev (fun k => K.reredosref01_signed.f k (BA (decDigits n)) b) (numS (if b = true then -((n : Nat) : Int) else (n : Int))) := by
  have := signed_ev _ (dig_decDigits n) hl b
  rwa [val_decDigits] at this
theorem plus_dec (x y : Nat) (hx : (decDigits x).length ≤ 1000000000) (hy : (decDigits y).length ≤ 1000000000) : Ev (fun k => K.reredosref01_plus.f k (BA (decDigits x)) (BA (decDigits y))) (BA (decDigits (x + y))) := by
  have := plus_ev _ _ (dig_decDigits x) (dig_decDigits y) hx hy
  rwa [val_decDigits, val_decDigits] at this
theorem minus_dec (x y : Nat) (hx : (decDigits x).length ≤ 1000000000) (hy : (decDigits y).length ≤ 1000000000) (h : y ≤ x) : Ev (fun k => K.reredosref01_minus.f k (BA (decDigits x)) (BA (decDigits y))) (BA (decDigits (x - y))) := by
  have := minus_ev _ _ (dig_decDigits x) (dig_decDigits y) hx hy (by rw [val_decDigits, val_decDigits]; exact h)
  rwa [val_decDigits, val_decDigits] at this
theorem dec_mono {x y : Nat} (h : x ≤ y) : (decDigits x).length ≤ (decDigits y).length := by
  rcases Nat.lt_or_ge (decDigits y).length (decDigits x).length with h1 | h1
  · have := len_lt_val _ _ h1
    omega
  · exact h1
theorem dec_add {x y k : Nat} (hx : (decDigits x).length ≤ k) (hy : (decDigits y).length ≤ k) : (decDigits (x + y)).length ≤ k + 1 := by
  refine len_le _ _ (by omega) ?_
  have h1 := lt_of_len x k hx
  have h2 := lt_of_len y k hy
  rw [Nat.pow_succ]
  omega
theorem sum_ev (x y : Int) (hx : nl x ≤ 10000) (hy : nl y ≤ 10000) : Ev (fun k => K.reredosref01_sum.f k (numS x) (numS y)) (numS (x + y)) := by
  have hlx : (decDigits x.natAbs).length ≤ 10000 := hx
  have hly : (decDigits y.natAbs).length ≤ 10000 := hy
  unfold K.reredosref01_sum.f
  simp only [low_ev, size_ev, Option.bind_some]
  by_cases hs : (decide (x < 0) == decide (y < 0)) = true
  · simp only [hs, if_true]
    refine Ev.bind (plus_dec _ _ (by omega) (by omega)) ?_
    have hlen : (decDigits (x.natAbs + y.natAbs)).length ≤ 10001 := dec_add hlx hly
    refine Ev.bind (signed_dec _ (by omega) _) ?_
    have e : (if decide (x < 0) = true then -((x.natAbs + y.natAbs : Nat) : Int) else ((x.natAbs + y.natAbs : Nat) : Int)) = x + y := by
      have hs' : (x < 0) ↔ (y < 0) := by simpa using hs
      by_cases h : x < 0
      · have := hs'.mp h
        rw [if_pos (decide_eq_true h)]
        omega
      · have : ¬ y < 0 := fun e => h (hs'.mpr e)
        rw [if_neg (by simp [h])]
        omega
    rw [e]
    exact Ev.now _
  · simp only [hs, if_false, Bool.false_eq_true]
    have hs' : ¬ ((x < 0) ↔ (y < 0)) := by simpa using hs
    refine Ev.bind (more_ev _ _ (by omega)) ?_
    by_cases hm : y.natAbs ≤ x.natAbs
    · have hc : cmpN x.natAbs y.natAbs ≥ 0 := by unfold cmpN; rw [if_neg (by omega)]; split <;> omega
      simp only [hc, if_true]
      refine Ev.bind (minus_dec _ _ (by omega) (by omega) hm) ?_
      have hlen : (decDigits (x.natAbs - y.natAbs)).length ≤ 10000 := Nat.le_trans (dec_mono (Nat.sub_le _ _)) hlx
      refine Ev.bind (signed_dec _ (by omega) _) ?_
      have e : (if decide (x < 0) = true then -((x.natAbs - y.natAbs : Nat) : Int) else ((x.natAbs - y.natAbs : Nat) : Int)) = x + y := by
        by_cases h : x < 0
        · rw [if_pos (decide_eq_true h)]
          have : ¬ y < 0 := fun e => hs' ⟨fun _ => e, fun _ => h⟩
          omega
        · rw [if_neg (by simp [h])]
          have : y < 0 := by
            rcases (by omega : y < 0 ∨ 0 ≤ y) with e | e
            · exact e
            · exact absurd ⟨fun h' => absurd h' h, fun h' => absurd h' (by omega)⟩ hs'
          omega
      rw [e]
      exact Ev.now _
    · have hc : ¬ cmpN x.natAbs y.natAbs ≥ 0 := by unfold cmpN; rw [if_pos (by omega)]; omega
      simp only [hc, if_false]
      refine Ev.bind (minus_dec _ _ (by omega) (by omega) (by omega)) ?_
      have hlen : (decDigits (y.natAbs - x.natAbs)).length ≤ 10000 := Nat.le_trans (dec_mono (Nat.sub_le _ _)) hly
      refine Ev.bind (signed_dec _ (by omega) _) ?_
      have e : (if decide (y < 0) = true then -((y.natAbs - x.natAbs : Nat) : Int) else ((y.natAbs - x.natAbs : Nat) : Int)) = x + y := by
        by_cases h : y < 0
        · rw [if_pos (decide_eq_true h)]
          have : ¬ x < 0 := fun e => hs' ⟨fun _ => h, fun _ => e⟩
          omega
        · rw [if_neg (by simp [h])]
          have : x < 0 := by
            rcases (by omega : x < 0 ∨ 0 ≤ x) with e | e
            · exact e
            · exact absurd ⟨fun h' => absurd h' (by omega), fun h' => absurd h' h⟩ hs'
          omega
      rw [e]
      exact Ev.now _
theorem turned_ev (x : Int) (hx : nl x ≤ 100000) : Ev (fun k => K.reredosref01_turned.f k (numS x)) (numS (-x)) := by
  have hlx : (decDigits x.natAbs).length ≤ 100000 := hx
  unfold K.reredosref01_turned.f
  simp only [low_ev, size_ev, Option.bind_some]
  refine Ev.bind (signed_dec _ (by omega) _) ?_
  have e : (if (!decide (x < 0)) = true then -((x.natAbs : Nat) : Int) else (x.natAbs : Int)) = -x := by
    by_cases h : x < 0
    · rw [if_neg (by simp [h])]
      omega
    · rw [if_pos (by simp [h])]
      omega
  rw [e]
  exact Ev.now _
end Go.Proofs.YtcpaajecppplhaaGreatDoor.Nm
end
