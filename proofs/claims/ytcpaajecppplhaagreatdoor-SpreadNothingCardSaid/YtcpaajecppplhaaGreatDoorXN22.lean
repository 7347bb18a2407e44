/- What the law leans on, part 23: declarations of several texts of ours, in their order. -/
import Derived.Test.YtcpaajecppplhaaGreatDoorXN21
import Derived.Lib.SpaceUEq
section
/- Which texts are numbers, plainly: the document's May and the program's May are one and the same, and say that the text is some number's. -/
namespace Go.Proofs.YtcpaajecppplhaaGreatDoor.Nm
open Go.Lib Go.RowKit Go.Proofs.YtcpaajecppplhaaGreatDoorW.PrintWords Go.Proofs.YtcpaajecppplhaaGreatDoorW.PrintLast Go.Proofs.YtcpaajecppplhaaGreatDoor
set_option linter.unusedVariables false
set_option linter.unusedSimpArgs false
def digB (c : UInt8) : Bool := decide (48 ≤ c.toNat) && decide (c.toNat ≤ 57)
theorem digB_iff (c : UInt8) : digB c = true ↔ 48 ≤ c.toNat ∧ c.toNat ≤ 57 := by simp [digB]
theorem all_dig (l : List UInt8) : l.all digB = true ↔ Dig l := by
  rw [List.all_eq_true]
  exact ⟨fun h c hc => (digB_iff c).mp (h c hc), fun h c hc => (digB_iff c).mpr (h c hc)⟩
/-- what stands behind the sign -/
def body : List UInt8 → List UInt8
  | [] => []
  | c :: r => if c.toNat = 45 then r else c :: r
theorem body_cons (c : UInt8) (r : List UInt8) : body (c :: r) = if c.toNat = 45 then r else c :: r := rfl
def mayL (l : List UInt8) : Bool := l == [48] || (decide (1 ≤ (body l).length) && decide ((body l).length ≤ 100) && (((body l).headD 0).toNat != 48) && (body l).all digB)
theorem body_itoa (z : Int) : body (itoa z) = decDigits z.natAbs := by
  by_cases h : z < 0
  · rw [itoa_neg' h]
    simp [body]
  · rw [itoa_pos' h]
    obtain ⟨c, r, e, h1, h2⟩ := head_dec z.natAbs
    rw [e]
    rw [body_cons, if_neg (by omega)]
theorem may_num (z : Int) (h : z.natAbs < 10 ^ 100) : mayL (itoa z) = true := by
  by_cases h0 : z = 0
  · subst h0
    have : itoa 0 = [48] := by rw [itoa_pos' (by omega)]; exact decDigits_zero
    rw [this]
    decide
  · have h1 := len_le _ 100 (by decide) h
    obtain ⟨c, r, e, h2, h3⟩ := head_dec z.natAbs
    have h4 := decDigits_head z.natAbs (by omega) c r e
    unfold mayL
    rw [body_itoa]
    have h5 := (all_dig _).mpr (dig_decDigits z.natAbs)
    rw [h5, decide_eq_true h1]
    have h6 : 1 ≤ (decDigits z.natAbs).length := by rw [e]; simp
    rw [decide_eq_true h6, e]
    simp [h4]
theorem num_of_may (l : List UInt8) (h : mayL l = true) : ∃ z : Int, l = itoa z ∧ z.natAbs < 10 ^ 100 := by
  unfold mayL at h
  rcases Bool.or_eq_true_iff.mp h with h | h
  · refine ⟨0, ?_, by decide⟩
    rw [itoa_pos' (by omega)]
    rw [eq_of_beq h]
    exact decDigits_zero.symm
  · simp only [Bool.and_eq_true, decide_eq_true_eq, bne_iff_ne] at h
    obtain ⟨⟨⟨h1, h2⟩, h3⟩, h4⟩ := h
    have hd := (all_dig _).mp h4
    have hne : body l ≠ [] := fun e => by rw [e] at h1; simp at h1
    have hh : ∀ c r, body l = c :: r → c.toNat ≠ 48 := fun c r e => by rw [e] at h3; exact h3
    have hc := canon _ hd hh hne
    have hv : val (body l) < 10 ^ 100 := Nat.lt_of_lt_of_le (val_lt _ hd) (Nat.pow_le_pow_right (by decide) h2)
    have hp : 0 < val (body l) := by
      cases hb : body l with
      | nil => exact absurd hb hne
      | cons c r =>
        have := hh c r hb
        have := hd c (by rw [hb]; simp)
        rw [val_cons]
        have : 0 < (c.toNat - 48) * 10 ^ r.length := Nat.mul_pos (by omega) (Nat.pow_pos (by decide))
        omega
    cases l with
    | nil => exact absurd rfl hne
    | cons c r =>
      by_cases hc45 : c.toNat = 45
      · have hb : body (c :: r) = r := by rw [body_cons, if_pos hc45]
        rw [hb] at hc hv hp
        refine ⟨-(val r : Int), ?_, by omega⟩
        rw [itoa_neg' (by omega), Int.natAbs_neg, Int.natAbs_natCast, hc]
        congr 1
        exact UInt8.toNat_inj.mp hc45
      · have hb : body (c :: r) = c :: r := by rw [body_cons, if_neg hc45]
        rw [hb] at hc hv hp
        refine ⟨(val (c :: r) : Int), ?_, by omega⟩
        rw [itoa_pos' (by omega), Int.natAbs_natCast, hc]
/-! ### the program's May -/
theorem decode_asc (s : ByteArray) (p : Nat) (h : (s.data.toList.getD p 0).toNat < 128) : Utf8.decode s p = ((s.data.toList.getD p 0).toNat, 1) := by rw [decode_N, decodeN_ascii _ _ _ _ _ h]
theorem decode_high (s : ByteArray) (p : Nat) (h : 128 ≤ (s.data.toList.getD p 0).toNat) : 128 ≤ (Utf8.decode s p).1 := by
  rw [decode_N]
  rcases decodeN_cases (s.data.toList.length - p) (s.data.toList.getD p 0).toNat (s.data.toList.getD (p + 1) 0).toNat (s.data.toList.getD (p + 2) 0).toNat (s.data.toList.getD (p + 3) 0).toNat with ⟨h1, _⟩ | ⟨_, _, _, h1, e⟩ | ⟨_, _, _, _, h1, e⟩ | ⟨h1, _⟩ | e
  · omega
  · rw [e]; exact h1
  · rw [e]; simp only; omega
  · omega
  · rw [e]; decide
theorem idx_all (l : List UInt8) : ∀ (d p : Nat), l.length - p ≤ d → p ≤ l.length → decide (0 ≤ idxFuncFrom Hd.notDigit true (BA l) d p) = !((l.drop p).all digB)
  | 0, p, h0, hp => by
    rw [List.drop_of_length_le (by omega)]
    simp [idxFuncFrom]
  | d + 1, p, h0, hp => by
    unfold idxFuncFrom
    rw [ba_size]
    by_cases hlt : p < l.length
    · rw [if_pos hlt, List.drop_eq_getElem_cons hlt, List.all_cons]
      have hg : (BA l).data.toList.getD p 0 = l[p] := by rw [ba_data]; simp [List.getD, List.getElem?_eq_getElem hlt]
      by_cases h128 : l[p].toNat < 128
      · rw [decode_asc _ _ (by rw [hg]; exact h128), hg]
        simp only
        by_cases hd : digB l[p] = true
        · have := (digB_iff _).mp hd
          rw [show Hd.notDigit l[p].toNat = false by simp [Hd.notDigit]; omega, if_neg (by decide), hd, Bool.true_and]
          exact idx_all l d (p + 1) (by omega) (by omega)
        · rw [show Hd.notDigit l[p].toNat = true by simp [digB] at hd; simp [Hd.notDigit]; omega, if_pos rfl, Bool.eq_false_iff.mpr hd]
          simp
      · have hhi := decode_high (BA l) p (by rw [hg]; omega)
        rw [show Hd.notDigit (Utf8.decode (BA l) p).1 = true by simp [Hd.notDigit]; omega, if_pos rfl, show digB l[p] = false by simp [digB]; omega]
        simp
    · rw [if_neg hlt, List.drop_of_length_le (by omega)]
      simp
theorem contains_ev (l : List UInt8) : Hd.containsFunc_May.f (BA l) = some (!(l.all digB)) := by
  unfold Hd.containsFunc_May.f
  have := idx_all l l.length 0 (by omega) (by omega)
  rw [List.drop_zero] at this
  rw [← this]
  unfold idxFunc
  rw [ba_size]
theorem extract0 (c : UInt8) (r : List UInt8) : ((BA (c :: r)).extract 0 1).toList = [c] := by
  have : (BA (c :: r)).extract 0 1 = BA [c] := by
    apply ByteArray.ext
    rw [ByteArray.data_extract]
    apply Array.ext'
    simp [BA]
  rw [this, ba_list]
theorem trim_ev (l : List UInt8) : K.strings_TrimPrefix.f (BA l) (⟨#[45]⟩ : ByteArray) = some (BA (body l)) := by
  unfold K.strings_TrimPrefix.f K.stringslite_TrimPrefix.f K.stringslite_HasPrefix.f
  rw [show (⟨#[45]⟩ : ByteArray) = BA [45] from rfl, ba_size, ba_size]
  cases l with
  | nil => rfl
  | cons c r =>
    rw [if_pos (by simp; omega), if_pos (by simp), if_pos (by simp; omega)]
    simp only [Option.bind_some]
    rw [show ((([45] : List UInt8).length : Nat) : Int).toNat = 1 from rfl, extract0, ba_list]
    by_cases hc : c.toNat = 45
    · have hc' : c = 45 := UInt8.toNat_inj.mp hc
      subst hc'
      rw [if_pos (by decide), if_pos (by simp), if_pos (by simp; omega), show (45 :: r).length = (BA (45 :: r)).size from (ba_size _).symm, ba_extract1]
      rw [body_cons, if_pos hc]
      rfl
    · rw [if_neg (by simp; intro e; exact hc (by rw [e]; rfl))]
      rw [body_cons, if_neg hc]
      rfl
theorem may_ev (l : List UInt8) : K.num_May.f (BA l) = some (mayL l) := by
  unfold K.num_May.f
  rw [trim_ev]
  simp only [Option.bind_some]
  rw [ba_size, ba_list]
  unfold mayL
  by_cases h0 : l = [48]
  · subst h0
    rw [show body [48] = [48] by decide, bt_head, contains_ev]
    rfl
  · rw [show (l == [48]) = false from beq_eq_false_iff_ne.mpr h0, Bool.false_or]
    by_cases h1 : (body l).length < 1
    · rw [if_pos (by omega), decide_eq_false (by omega)]
      rfl
    · rw [if_neg (by omega), decide_eq_true (by omega)]
      by_cases h2 : (body l).length > 100
      · rw [if_pos (by omega), decide_eq_false (by omega)]
        rfl
      · rw [if_neg (by omega), decide_eq_true (by omega), if_pos (by omega)]
        cases hb : body l with
        | nil => rw [hb] at h1; simp at h1
        | cons c r =>
          rw [bt_head, List.headD_cons]
          by_cases h48 : c.toNat = 48
          · rw [if_pos (by omega), if_neg h0, h48]
            rfl
          · rw [if_neg (by omega), contains_ev]
            simp only [Option.bind_some, Bool.not_not]
            rw [show (c.toNat != 48) = true from bne_iff_ne.mpr h48]
            rfl
end Go.Proofs.YtcpaajecppplhaaGreatDoor.Nm
end
section
/- The document's answers on numbers, plainly: Sign, Neg, Cmp, Add, Sub, Mul, Of, Int at every text; and the program's Int. -/
namespace Go.Proofs.YtcpaajecppplhaaGreatDoor.Nm
open Go.Lib Go.RowKit Go.Proofs.YtcpaajecppplhaaGreatDoorW.PrintWords Go.Proofs.YtcpaajecppplhaaGreatDoorW.PrintLast Go.Proofs.YtcpaajecppplhaaGreatDoor
set_option linter.unusedVariables false
set_option linter.unusedSimpArgs false
def sgn (z : Int) : Int := if z < 0 then -1 else if z = 0 then 0 else 1
def Sm (z : Int) : Prop := z.natAbs < 10 ^ 100
theorem sm_nl {z : Int} (h : Sm z) : nl z ≤ 100 := nl_le (by decide) h
theorem sm_i64 {z : Int} (h1 : -9223372036854775808 ≤ z) (h2 : z ≤ 9223372036854775807) : Sm z := Nat.lt_of_lt_of_le (show z.natAbs < 10 ^ 19 by omega) (Nat.pow_le_pow_right (by decide) (by decide))
theorem itoa_len (z : Int) : (itoa z).length ≤ nl z + 1 := by
  by_cases h : z < 0
  · rw [itoa_neg' h]; exact Nat.le_refl _
  · rw [itoa_pos' h]; exact Nat.le_succ _
theorem itoa_zero_iff (z : Int) : itoa z = [48] ↔ z = 0 := by
  constructor
  · intro h
    by_cases hn : z < 0
    · rw [itoa_neg' hn] at h
      simp at h
    · rw [itoa_pos' hn, dec_zero_iff] at h
      omega
  · rintro rfl
    rw [itoa_pos' (by omega)]
    exact decDigits_zero
theorem numS_list (z : Int) : (numS z).toList = itoa z := ba_list _
def bnd (z : Int) : Int := if z.natAbs < 10 ^ 100 then z else if z < 0 then -1 else 1
theorem parseM (l : List UInt8) (hd : Dig l) : ∀ acc, acc ≤ 18446744073709551615 → parseUintM (2 ^ 64 - 1) acc l = if acc * 10 ^ l.length + val l ≤ 18446744073709551615 then .ok (acc * 10 ^ l.length + val l) else .range := by
  induction l with
  | nil =>
    intro acc h
    simp [parseUintM, val, h]
  | cons c r ih =>
    intro acc h
    have hc := hd c (by simp)
    have hdr : Dig r := fun x hx => hd x (by simp [hx])
    have hp : 1 ≤ 10 ^ r.length := Nat.one_le_pow _ _ (by decide)
    have e : acc * 10 ^ (c :: r).length + val (c :: r) = (acc * 10 + (c.toNat - 48)) * 10 ^ r.length + val r := by
      rw [val_cons, List.length_cons, Nat.pow_succ, Nat.add_mul, Nat.mul_comm (10 ^ r.length) 10, ← Nat.mul_assoc]
      omega
    have hge : acc * 10 + (c.toNat - 48) ≤ (acc * 10 + (c.toNat - 48)) * 10 ^ r.length := Nat.le_mul_of_pos_right _ hp
    rw [e]
    unfold parseUintM
    rw [if_pos hc]
    by_cases h1 : 1844674407370955162 ≤ acc
    · rw [if_pos h1, if_neg (by omega)]
    · rw [if_neg h1]
      by_cases h2 : 2 ^ 64 - 1 < acc * 10 + (c.toNat - 48)
      · rw [if_pos h2, if_neg (by omega)]
      · rw [if_neg h2, ih hdr _ (by omega)]
end Go.Proofs.YtcpaajecppplhaaGreatDoor.Nm
end
