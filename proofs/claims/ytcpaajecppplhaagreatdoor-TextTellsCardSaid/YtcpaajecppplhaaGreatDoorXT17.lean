/- What the law leans on, part 18: declarations of several texts of ours, in their order. -/
import Derived.Test.YtcpaajecppplhaaGreatDoorXT16
import Derived.Lib.SpaceUEq
section
/- Which texts are numbers, plainly: the document's May and the program's May are one and the same, and say that the text is some number's. -/
namespace Go.Proofs.YtcpaajecppplhaaGreatDoor.Nm
open Go.Lib Go.RowKit Go.Proofs.YtcpaajecppplhaaGreatDoorW.PrintWords Go.Proofs.YtcpaajecppplhaaGreatDoorW.PrintLast Go.Proofs.YtcpaajecppplhaaGreatDoor
set_option linter.unusedVariables false
set_option linter.unusedSimpArgs false
def digB (c : UInt8) : Bool := decide (48 ≤ c.toNat) && decide (c.toNat ≤ 57)
theorem digB_iff (c : UInt8) : digB c = true ↔ 48 ≤ c.toNat ∧ c.toNat ≤ 57 := by simp [digB]
theorem all_dig (l : List UInt8) : l.all digB = true ↔ Dig l := by
  rw [List.all_eq_true]
  exact ⟨fun h c hc => (digB_iff c).mp (h c hc), fun h c hc => (digB_iff c).mpr (h c hc)⟩
/-- what stands behind the sign -/
def body : List UInt8 → List UInt8
  | [] => []
  | c :: r => if c.toNat = 45 then r else c :: r
theorem body_cons (c : UInt8) (r : List UInt8) : body (c :: r) = if c.toNat = 45 then r else c :: r := rfl
def mayL (l : List UInt8) : Bool := l == [48] || (decide (1 ≤ (body l).length) && decide ((body l).length ≤ 100) && (((body l).headD 0).toNat != 48) && (body l).all digB)
theorem body_itoa (z : Int) : body (itoa z) = decDigits z.natAbs := by
  by_cases h : z < 0
  · rw [itoa_neg' h]
    simp [body]
  · rw [itoa_pos' h]
    obtain ⟨c, r, e, h1, h2⟩ := head_dec z.natAbs
    rw [e]
    rw [body_cons, if_neg (by omega)]
theorem may_num (z : Int) (h : z.natAbs < 10 ^ 100) : mayL (itoa z) = true := by
  by_cases h0 : z = 0
  · subst h0
    have : itoa 0 = [48] := by rw [itoa_pos' (by omega)]; exact decDigits_zero
    rw [this]
    decide
  · have h1 := len_le _ 100 (by decide) h
    obtain ⟨c, r, e, h2, h3⟩ := head_dec z.natAbs
    have h4 := decDigits_head z.natAbs (by omega) c r e
    unfold mayL
    rw [body_itoa]
    have h5 := (all_dig _).mpr (dig_decDigits z.natAbs)
    rw [h5, decide_eq_true h1]
    have h6 : 1 ≤ (decDigits z.natAbs).length := by rw [e]; simp
    rw [decide_eq_true h6, e]
    simp [h4]
theorem num_of_may (l : List UInt8) (h : mayL l = true) : ∃ z : Int, l = itoa z ∧ z.natAbs < 10 ^ 100 := by
  unfold mayL at h
  rcases Bool.or_eq_true_iff.mp h with h | h
  · refine ⟨0, ?_, by decide⟩
    rw [itoa_pos' (by omega)]
    rw [eq_of_beq h]
    exact decDigits_zero.symm
  · simp only [Bool.and_eq_true, decide_eq_true_eq, bne_iff_ne] at h
    obtain ⟨⟨⟨h1, h2⟩, h3⟩, h4⟩ := h
    have hd := (all_dig _).mp h4
    have hne : body l ≠ [] := fun e => by rw [e] at h1; simp at h1
    have hh : ∀ c r, body l = c :: r → c.toNat ≠ 48 := fun c r e => by rw [e] at h3; exact h3
    have hc := canon _ hd hh hne
    have hv : val (body l) < 10 ^ 100 := Nat.lt_of_lt_of_le (val_lt _ hd) (Nat.pow_le_pow_right (by decide) h2)
    have hp : 0 < val (body l) := by
      cases hb : body l with
      | nil => exact absurd hb hne
      | cons c r =>
        have := hh c r hb
        have := hd c (by rw [hb]; simp)
        rw [val_cons]
        have : 0 < (c.toNat - 48) * 10 ^ r.length := Nat.mul_pos (by omega) (Nat.pow_pos (by decide))
        omega
    cases l with
    | nil => exact absurd rfl hne
    | cons c r =>
      by_cases hc45 : c.toNat = 45
      · have hb : body (c :: r) = r := by rw [body_cons, if_pos hc45]
        rw [hb] at hc hv hp
        refine ⟨-(val r : Int), ?_, by omega⟩
        rw [itoa_neg' (by omega), Int.natAbs_neg, Int.natAbs_natCast, hc]
        congr 1
        exact UInt8.toNat_inj.mp hc45
      · have hb : body (c :: r) = c :: r := by rw [body_cons, if_neg hc45]
        rw [hb] at hc hv hp
        refine ⟨(val (c :: r) : Int), ?_, by omega⟩
        rw [itoa_pos' (by omega), Int.natAbs_natCast, hc]
/-! ### the document's May -/
theorem may_loop (l : List UInt8) (hl : l.length ≤ 1000000000) : ∀ (d i : Nat), l.length - i ≤ d → i ≤ l.length → Ev (fun k => K.reredosref01_May.l0 k (BA l) (i : Int)) ((l.drop i).all digB)
  | 0, i, h0, hi => by
    refine Ev.step (f := fun _ => some true) (fun k => ?_) (by rw [List.drop_of_length_le (by omega)]; exact Ev.now _)
    simp only [K.reredosref01_May.l0]
    rw [ba_size, if_neg (by omega)]
  | d + 1, i, h0, hi => by
    by_cases hlast : i = l.length
    · exact may_loop l hl 0 i (by omega) hi
    · have hlt : i < l.length := by omega
      have hg : l.getD i 0 = l[i] := by simp [List.getD, List.getElem?_eq_getElem hlt]
      rw [List.drop_eq_getElem_cons hlt, List.all_cons]
      by_cases h1 : l[i].toNat < 48
      · refine Ev.step (f := fun _ => some false) (fun k => ?_) (by rw [show digB l[i] = false by simp [digB]; omega]; exact Ev.now _)
        simp only [K.reredosref01_May.l0]
        rw [ba_size, if_pos (by omega), if_pos (by omega), bt_ba l i hlt, hg, if_pos (by omega)]
      · by_cases h2 : l[i].toNat > 57
        · refine Ev.step (f := fun _ => some false) (fun k => ?_) (by rw [show digB l[i] = false by simp [digB]; omega]; exact Ev.now _)
          simp only [K.reredosref01_May.l0]
          rw [ba_size, if_pos (by omega), if_pos (by omega), bt_ba l i hlt, hg, if_neg (by omega), if_pos (by omega)]
        · refine Ev.step (fun k => ?_) (by rw [show digB l[i] = true from (digB_iff _).mpr (by omega), Bool.true_and]; exact may_loop l hl d (i + 1) (by omega) (by omega))
          simp only [K.reredosref01_May.l0]
          rw [ba_size, if_pos (by omega), if_pos (by omega), bt_ba l i hlt, hg, if_neg (by omega), if_neg (by omega), w64 (by omega) (by omega)]
          rfl
theorem may_j1 (l : List UInt8) (hl : l.length ≤ 1000000000) (i : Nat) (hi : i ≤ l.length) : Ev (fun k => K.reredosref01_May.j1 k (BA l) (i : Int)) (decide (1 ≤ (l.drop i).length) && decide ((l.drop i).length ≤ 100) && (((l.drop i).headD 0).toNat != 48) && (l.drop i).all digB) := by
  have hlen : (l.drop i).length = l.length - i := by simp
  by_cases h1 : l.length - i < 1
  · refine Ev.step (fun k => ?_) (g := fun k => K.reredosref01_May.j1 k (BA l) (i : Int)) (f := fun k => K.reredosref01_May.j2 k (BA l) (i : Int) true) ?_
    · simp only [K.reredosref01_May.j1]
      rw [ba_size, w64 (by omega) (by omega), if_pos (by omega)]
    · refine Ev.step (f := fun _ => some false) (fun k => ?_) (by rw [hlen, decide_eq_false (by omega)]; exact Ev.now _)
      simp only [K.reredosref01_May.j2]
      rw [if_pos trivial]
  · by_cases h2 : l.length - i > 100
    · refine Ev.step (fun k => ?_) (g := fun k => K.reredosref01_May.j1 k (BA l) (i : Int)) (f := fun k => K.reredosref01_May.j2 k (BA l) (i : Int) true) ?_
      · simp only [K.reredosref01_May.j1]
        rw [ba_size, w64 (by omega) (by omega), if_neg (by omega), if_pos (by omega)]
      · refine Ev.step (f := fun _ => some false) (fun k => ?_) (by rw [hlen, decide_eq_false (p := l.length - i ≤ 100) (by omega)]; simp; exact Ev.now _)
        simp only [K.reredosref01_May.j2]
        rw [if_pos trivial]
    · have hlt : i < l.length := by omega
      have hg : l.getD i 0 = l[i] := by simp [List.getD, List.getElem?_eq_getElem hlt]
      have hhd : (l.drop i).headD 0 = l[i] := by rw [List.drop_eq_getElem_cons hlt]; rfl
      rw [hlen, hhd, decide_eq_true (by omega), decide_eq_true (p := l.length - i ≤ 100) (by omega)]
      refine Ev.step (fun k => ?_) (g := fun k => K.reredosref01_May.j1 k (BA l) (i : Int)) (f := fun k => K.reredosref01_May.j2 k (BA l) (i : Int) ((l[i].toNat : Int) == 48)) ?_
      · simp only [K.reredosref01_May.j1]
        rw [ba_size, w64 (by omega) (by omega), if_neg (by omega), if_neg (by omega), if_pos (by omega), if_pos (by omega), bt_ba l i hlt, hg]
      · by_cases h48 : l[i].toNat = 48
        · refine Ev.step (f := fun _ => some false) (fun k => ?_) (by simp [h48]; exact Ev.now _)
          simp only [K.reredosref01_May.j2, h48]
          rw [if_pos (by rfl)]
        · refine Ev.step (fun k => ?_) (by rw [show (l[i].toNat != 48) = true from bne_iff_ne.mpr h48]; simp only [Bool.true_and]; exact may_loop l hl _ i (Nat.le_refl _) hi)
          simp only [K.reredosref01_May.j2]
          rw [if_neg (by simp; omega)]
theorem refMay_ev (l : List UInt8) (hl : l.length ≤ 1000000000) : Ev (fun k => K.reredosref01_May.f k (BA l)) (mayL l) := by
  by_cases h0 : l = [48]
  · subst h0
    exact Ev.congr (f := fun _ => some true) (fun k => by unfold K.reredosref01_May.f; rw [ba_list, if_pos rfl]) (Ev.now _)
  · have hm : mayL l = (decide (1 ≤ (body l).length) && decide ((body l).length ≤ 100) && (((body l).headD 0).toNat != 48) && (body l).all digB) := by
      unfold mayL
      rw [show (l == [48]) = false from beq_eq_false_iff_ne.mpr h0, Bool.false_or]
    rw [hm]
    cases l with
    | nil =>
      have := may_j1 [] hl 0 (by simp)
      refine Ev.congr (f := fun k => K.reredosref01_May.j0 k (BA []) 0 false) (fun k => by unfold K.reredosref01_May.f; rw [ba_list, if_neg (by simp), if_pos rfl]) (Ev.step (fun k => ?_) this)
      simp only [K.reredosref01_May.j0]
      rw [if_neg (by decide)]
      rfl
    | cons c r =>
      refine Ev.congr (f := fun k => K.reredosref01_May.j0 k (BA (c :: r)) 0 ((c.toNat : Int) == 45)) (fun k => by unfold K.reredosref01_May.f; rw [ba_list, if_neg h0, if_neg (by simp), ba_size, if_pos (by simp), bt_head]) ?_
      by_cases hc : c.toNat = 45
      · have hb : body (c :: r) = r := by rw [body_cons, if_pos hc]
        rw [hb]
        refine Ev.step (fun k => ?_) (may_j1 (c :: r) hl 1 (by simp))
        simp only [K.reredosref01_May.j0, hc]
        rw [if_pos (by rfl)]
        rfl
      · have hb : body (c :: r) = c :: r := by rw [body_cons, if_neg hc]
        rw [hb]
        refine Ev.step (fun k => ?_) (may_j1 (c :: r) hl 0 (by simp))
        simp only [K.reredosref01_May.j0]
        rw [if_neg (by simp; omega)]
        rfl
/-! ### the program's May -/
theorem decode_asc (s : ByteArray) (p : Nat) (h : (s.data.toList.getD p 0).toNat < 128) : Utf8.decode s p = ((s.data.toList.getD p 0).toNat, 1) := by rw [decode_N, decodeN_ascii _ _ _ _ _ h]
theorem decode_high (s : ByteArray) (p : Nat) (h : 128 ≤ (s.data.toList.getD p 0).toNat) : 128 ≤ (Utf8.decode s p).1 := by
  rw [decode_N]
  rcases decodeN_cases (s.data.toList.length - p) (s.data.toList.getD p 0).toNat (s.data.toList.getD (p + 1) 0).toNat (s.data.toList.getD (p + 2) 0).toNat (s.data.toList.getD (p + 3) 0).toNat with ⟨h1, _⟩ | ⟨_, _, _, h1, e⟩ | ⟨_, _, _, _, h1, e⟩ | ⟨h1, _⟩ | e
  · omega
  · rw [e]; exact h1
  · rw [e]; simp only; omega
  · omega
  · rw [e]; decide
theorem idx_all (l : List UInt8) : ∀ (d p : Nat), l.length - p ≤ d → p ≤ l.length → decide (0 ≤ idxFuncFrom Hd.notDigit true (BA l) d p) = !((l.drop p).all digB)
  | 0, p, h0, hp => by
    rw [List.drop_of_length_le (by omega)]
    simp [idxFuncFrom]
  | d + 1, p, h0, hp => by
    unfold idxFuncFrom
    rw [ba_size]
    by_cases hlt : p < l.length
    · rw [if_pos hlt, List.drop_eq_getElem_cons hlt, List.all_cons]
      have hg : (BA l).data.toList.getD p 0 = l[p] := by rw [ba_data]; simp [List.getD, List.getElem?_eq_getElem hlt]
      by_cases h128 : l[p].toNat < 128
      · rw [decode_asc _ _ (by rw [hg]; exact h128), hg]
        simp only
        by_cases hd : digB l[p] = true
        · have := (digB_iff _).mp hd
          rw [show Hd.notDigit l[p].toNat = false by simp [Hd.notDigit]; omega, if_neg (by decide), hd, Bool.true_and]
          exact idx_all l d (p + 1) (by omega) (by omega)
        · rw [show Hd.notDigit l[p].toNat = true by simp [digB] at hd; simp [Hd.notDigit]; omega, if_pos rfl, Bool.eq_false_iff.mpr hd]
          simp
      · have hhi := decode_high (BA l) p (by rw [hg]; omega)
        rw [show Hd.notDigit (Utf8.decode (BA l) p).1 = true by simp [Hd.notDigit]; omega, if_pos rfl, show digB l[p] = false by simp [digB]; omega]
        simp
    · rw [if_neg hlt, List.drop_of_length_le (by omega)]
      simp
theorem contains_ev (l : List UInt8) : Hd.containsFunc_May.f (BA l) = some (!(l.all digB)) := by
  unfold Hd.containsFunc_May.f
  have := idx_all l l.length 0 (by omega) (by omega)
  rw [List.drop_zero] at this
  rw [← this]
  unfold idxFunc
  rw [ba_size]
theorem extract0 (c : UInt8) (r : List UInt8) : ((BA (c :: r)).extract 0 1).toList = [c] := by
  have : (BA (c :: r)).extract 0 1 = BA [c] := by
    apply ByteArray.ext
    rw [ByteArray.data_extract]
    apply Array.ext'
    simp [BA]
  rw [this, ba_list]
theorem trim_ev (l : List UInt8) : K.strings_TrimPrefix.f (BA l) (⟨#[45]⟩ : ByteArray) = some (BA (body l)) := by
  unfold K.strings_TrimPrefix.f K.stringslite_TrimPrefix.f K.stringslite_HasPrefix.f
  rw [show (⟨#[45]⟩ : ByteArray) = BA [45] from rfl, ba_size, ba_size]
  cases l with
  | nil => rfl
  | cons c r =>
    rw [if_pos (by simp; omega), if_pos (by simp), if_pos (by simp; omega)]
    simp only [Option.bind_some]
    rw [show ((([45] : List UInt8).length : Nat) : Int).toNat = 1 from rfl, extract0, ba_list]
    by_cases hc : c.toNat = 45
    · have hc' : c = 45 := UInt8.toNat_inj.mp hc
      subst hc'
      rw [if_pos (by decide), if_pos (by simp), if_pos (by simp; omega), show (45 :: r).length = (BA (45 :: r)).size from (ba_size _).symm, ba_extract1]
      rw [body_cons, if_pos hc]
      rfl
    · rw [if_neg (by simp; intro e; exact hc (by rw [e]; rfl))]
      rw [body_cons, if_neg hc]
      rfl
theorem may_ev (l : List UInt8) : K.num_May.f (BA l) = some (mayL l) := by
  unfold K.num_May.f
  rw [trim_ev]
  simp only [Option.bind_some]
  rw [ba_size, ba_list]
  unfold mayL
  by_cases h0 : l = [48]
  · subst h0
    rw [show body [48] = [48] by decide, bt_head, contains_ev]
    rfl
  · rw [show (l == [48]) = false from beq_eq_false_iff_ne.mpr h0, Bool.false_or]
    by_cases h1 : (body l).length < 1
    · rw [if_pos (by omega), decide_eq_false (by omega)]
      rfl
    · rw [if_neg (by omega), decide_eq_true (by omega)]
      by_cases h2 : (body l).length > 100
      · rw [if_pos (by omega), decide_eq_false (by omega)]
        rfl
      · rw [if_neg (by omega), decide_eq_true (by omega), if_pos (by omega)]
        cases hb : body l with
        | nil => rw [hb] at h1; simp at h1
        | cons c r =>
          rw [bt_head, List.headD_cons]
          by_cases h48 : c.toNat = 48
          · rw [if_pos (by omega), if_neg h0, h48]
            rfl
          · rw [if_neg (by omega), contains_ev]
            simp only [Option.bind_some, Bool.not_not]
            rw [show (c.toNat != 48) = true from bne_iff_ne.mpr h48]
            rfl
end Go.Proofs.YtcpaajecppplhaaGreatDoor.Nm
end
section
/- The document's answers on numbers, plainly: Sign, Neg, Cmp, Add, Sub, Mul, Of, Int at every text; and the program's Int. -/
namespace Go.Proofs.YtcpaajecppplhaaGreatDoor.Nm
open Go.Lib Go.RowKit Go.Proofs.YtcpaajecppplhaaGreatDoorW.PrintWords Go.Proofs.YtcpaajecppplhaaGreatDoorW.PrintLast Go.Proofs.YtcpaajecppplhaaGreatDoor
set_option linter.unusedVariables false
set_option linter.unusedSimpArgs false
def sgn (z : Int) : Int := if z < 0 then -1 else if z = 0 then 0 else 1
def Sm (z : Int) : Prop := z.natAbs < 10 ^ 100
theorem sm_nl {z : Int} (h : Sm z) : nl z ≤ 100 := nl_le (by decide) h
theorem sm_i64 {z : Int} (h1 : -9223372036854775808 ≤ z) (h2 : z ≤ 9223372036854775807) : Sm z := Nat.lt_of_lt_of_le (show z.natAbs < 10 ^ 19 by omega) (Nat.pow_le_pow_right (by decide) (by decide))
theorem itoa_len (z : Int) : (itoa z).length ≤ nl z + 1 := by
  by_cases h : z < 0
  · rw [itoa_neg' h]; exact Nat.le_refl _
  · rw [itoa_pos' h]; exact Nat.le_succ _
theorem numS_may {z : Int} (h : Sm z) : Ev (fun k => K.reredosref01_May.f k (numS z)) true := by
  have := refMay_ev (itoa z) (by have := itoa_len z; have := sm_nl h; omega)
  rwa [may_num z h] at this
theorem itoa_zero_iff (z : Int) : itoa z = [48] ↔ z = 0 := by
  constructor
  · intro h
    by_cases hn : z < 0
    · rw [itoa_neg' hn] at h
      simp at h
    · rw [itoa_pos' hn, dec_zero_iff] at h
      omega
  · rintro rfl
    rw [itoa_pos' (by omega)]
    exact decDigits_zero
theorem numS_list (z : Int) : (numS z).toList = itoa z := ba_list _
theorem sign_ev (z : Int) (h : Sm z) : Ev (fun k => K.reredosref01_Sign.f k (numS z)) (sgn z) := by
  unfold K.reredosref01_Sign.f
  refine Ev.bind (numS_may h) ?_
  simp only [if_true]
  rw [numS_list]
  by_cases h0 : z = 0
  · refine Ev.step (f := fun _ => some 0) (fun k => ?_) (by subst h0; exact Ev.now _)
    simp only [K.reredosref01_Sign.j0, (itoa_zero_iff z).mpr h0]
    rw [if_pos (by rfl)]
  · have hne : (itoa z == [48]) = false := beq_eq_false_iff_ne.mpr (fun e => h0 ((itoa_zero_iff z).mp e))
    rw [hne]
    refine Ev.step (f := fun _ => some (sgn z)) (fun k => ?_) (Ev.now _)
    simp only [K.reredosref01_Sign.j0]
    rw [if_neg (by decide), low_ev]
    simp only [Option.bind_some]
    unfold sgn
    by_cases hn : z < 0
    · rw [if_pos (decide_eq_true hn), if_pos hn]
    · rw [if_neg (by simp [hn]), if_neg hn, if_neg h0]
def bnd (z : Int) : Int := if z.natAbs < 10 ^ 100 then z else if z < 0 then -1 else 1
theorem bounded_ev (z : Int) : Ev (fun k => K.reredosref01_bounded.f k (numS z)) (numS (bnd z)) := by
  unfold K.reredosref01_bounded.f bnd
  simp only [size_ev, low_ev, Option.bind_some]
  rw [ba_size]
  by_cases h : z.natAbs < 10 ^ 100
  · have := len_le _ 100 (by decide) h
    rw [if_pos h]
    refine Ev.congr (f := fun _ => some (numS z)) (fun k => ?_) (Ev.now _)
    rw [if_neg (by omega)]
  · have : ¬ (decDigits z.natAbs).length ≤ 100 := fun e => h (lt_of_len _ _ e)
    rw [if_neg h]
    have hs := signed_ev [49] (fun c hc => by simp at hc; subst hc; decide) (by decide) (decide (z < 0))
    have e : (if decide (z < 0) = true then -((val [49] : Nat) : Int) else (val [49] : Int)) = (if z < 0 then -1 else 1) := by
      by_cases hn : z < 0
      · rw [if_pos (decide_eq_true hn), if_pos hn]; rfl
      · rw [if_neg (by simp [hn]), if_neg hn]; rfl
    rw [e] at hs
    refine Ev.congr (fun k => ?_) (Ev.bind (f := fun k t => some t) hs (Ev.now _))
    rw [if_pos (by omega)]
theorem bnd_sm (z : Int) : Sm (bnd z) := by
  unfold bnd Sm
  by_cases h : z.natAbs < 10 ^ 100
  · rw [if_pos h]; exact h
  · rw [if_neg h]
    split <;> decide
theorem bnd_sgn (z : Int) : sgn (bnd z) = sgn z := by
  unfold bnd
  by_cases h : z.natAbs < 10 ^ 100
  · rw [if_pos h]
  · rw [if_neg h]
    have h0 : z ≠ 0 := fun e => h (by rw [e]; decide)
    unfold sgn
    by_cases hn : z < 0
    · rw [if_pos hn, if_pos hn]; rfl
    · rw [if_neg hn, if_neg hn, if_neg h0]; rfl
theorem cmp_ev (x y : Int) (hx : Sm x) (hy : Sm y) : Ev (fun k => K.reredosref01_Cmp.f k (numS x) (numS y)) (sgn (x - y)) := by
  unfold K.reredosref01_Cmp.f
  refine Ev.bind (numS_may hx) ?_
  simp only [if_true]
  refine Ev.bind (numS_may hy) ?_
  have h1 := sm_nl hx
  have h2 := sm_nl hy
  refine Ev.step (fun k => ?_) (Ev.bind (f := fun k t231 => (K.reredosref01_sum.f k (numS x) t231).bind fun t232 => ((K.reredosref01_bounded.f k t232).bind fun t233 => ((K.reredosref01_Sign.f k t233).bind fun t234 => some t234))) (turned_ev y (by omega)) (Ev.bind (f := fun k t232 => (K.reredosref01_bounded.f k t232).bind fun t233 => ((K.reredosref01_Sign.f k t233).bind fun t234 => some t234)) (sum_ev x (-y) (by omega) (by rw [nl_neg]; omega)) (Ev.bind (f := fun k t233 => (K.reredosref01_Sign.f k t233).bind fun t234 => some t234) (bounded_ev _) (Ev.bind (f := fun k t234 => some t234) (sign_ev _ (bnd_sm _)) (by rw [bnd_sgn, show x + -y = x - y from rfl]; exact Ev.now _)))))
  simp only [K.reredosref01_Cmp.j0]
  rw [if_neg (by decide)]
/-! ### Of -/
theorem of_step (x : Int) (n d : Nat) (h : 0 < n) (hd : d < 10) (hx : x.natAbs = 10 * n + d) : itoa x = itoa (if x < 0 then -(n : Int) else n) ++ [UInt8.ofNat (48 + d)] := by
  by_cases hn : x < 0
  · rw [if_pos hn, itoa_neg' hn, itoa_neg' (by omega), hx, decDigits_snoc n d h hd, Int.natAbs_neg, Int.natAbs_natCast]
    rfl
  · rw [if_neg hn, itoa_pos' hn, itoa_pos' (by omega), hx, decDigits_snoc n d h hd, Int.natAbs_natCast]
theorem of_ev : ∀ (m : Nat) (x : Int), x.natAbs ≤ m → -9223372036854775808 ≤ x → x ≤ 9223372036854775807 → Ev (fun k => K.reredosref01_Of.f k x) (numS x)
  | m, x, hm, h1, h2 => by
    have hnl := nl_i64 h1 h2
    by_cases hs : x.natAbs < 10
    · by_cases hn : x < 0
      · refine Ev.step (f := fun _ => some (numS x)) (fun k => ?_) (Ev.now _)
        unfold K.reredosref01_Of.f
        rw [if_pos hn, if_pos (by omega)]
        have e : (48 - x) = 48 + ((x.natAbs : Nat) : Int) := by omega
        simp only [Option.bind_some]
        rw [e, fig _ hs, ba_size, if_pos (by simp), numS_neg hn, decDigits_one hs]
        rw [show (⟨#[45]⟩ : ByteArray) = BA [45] from rfl, ba_append]
        rfl
      · refine Ev.step (f := fun _ => some (numS x)) (fun k => ?_) (Ev.now _)
        unfold K.reredosref01_Of.f
        rw [if_neg hn, if_pos (by omega)]
        have e : x = ((x.natAbs : Nat) : Int) := by omega
        rw [numS_pos hn, decDigits_one hs]
        conv => lhs; rw [e]
        rw [fig _ hs]
    · obtain ⟨n, d, hd, hx⟩ : ∃ n d : Nat, d < 10 ∧ x.natAbs = 10 * n + d := ⟨x.natAbs / 10, x.natAbs % 10, by omega, by omega⟩
      have hn0 : 0 < n := by omega
      have hst := of_step x n d hn0 hd hx
      have hlen : (itoa x).length ≤ 20 := by have := itoa_len x; omega
      match m, hm with
      | 0, hm => omega
      | m + 1, hm =>
        by_cases hn : x < 0
        · rw [if_pos hn] at hst
          have ih := of_ev m (-(n : Int)) (by omega) (by omega) (by omega)
          have ed : Int.tdiv x 10 = -(n : Int) := by
            rw [show x = -((10 * n + d : Nat) : Int) by omega, Int.neg_tdiv, show (10 : Int) = ((10 : Nat) : Int) from rfl, tdiv_nat]
            omega
          have em : Int.tmod x 10 = -(d : Int) := by
            rw [show x = -((10 * n + d : Nat) : Int) by omega, Int.neg_tmod, show (10 : Int) = ((10 : Nat) : Int) from rfl, tmod_nat]
            omega
          refine Ev.step (fun k => ?_) (Ev.bind (f := fun k t => some (BA ((itoa (-(n : Int))) ++ [UInt8.ofNat (48 + d)]))) ih (by rw [← hst]; exact Ev.now _))
          conv => lhs; unfold K.reredosref01_Of.f
          rw [if_pos hn, if_neg (by omega), ed, em, w64 (x := -(n : Int)) (by omega) (by omega)]
          cases hq : K.reredosref01_Of.f k (-(n : Int)) with
          | none => rfl
          | some t =>
            have ht : t = numS (-(n : Int)) := by
              obtain ⟨K0, hK⟩ := ih
              have h3 := at_rounds (fun j => K.reredosref01_Of.mono (-(n : Int)) j) (Nat.le_max_left k K0) hq
              exact Option.some.inj (h3.symm.trans (hK _ (Nat.le_max_right k K0)))
            subst ht
            simp only [Option.bind_some]
            rw [show (48 : Int) - -(d : Int) = 48 + (d : Int) by omega, fig _ hd, show (numS (-(n : Int))).size = (itoa (-(n : Int))).length from ba_size _, ba_size, if_pos (by rw [hst] at hlen; simp at hlen ⊢; omega)]
            rfl
        · rw [if_neg hn] at hst
          have ih := of_ev m (n : Int) (by omega) (by omega) (by omega)
          have ed : Int.tdiv x 10 = (n : Int) := by
            rw [show x = ((10 * n + d : Nat) : Int) by omega, show (10 : Int) = ((10 : Nat) : Int) from rfl, tdiv_nat]
            omega
          have em : Int.tmod x 10 = (d : Int) := by
            rw [show x = ((10 * n + d : Nat) : Int) by omega, show (10 : Int) = ((10 : Nat) : Int) from rfl, tmod_nat]
            omega
          refine Ev.step (fun k => ?_) (Ev.bind (f := fun k t => some (BA ((itoa (n : Int)) ++ [UInt8.ofNat (48 + d)]))) ih (by rw [← hst]; exact Ev.now _))
          conv => lhs; unfold K.reredosref01_Of.f
          rw [if_neg hn, if_neg (by omega), ed, em, w64 (x := (n : Int)) (by omega) (by omega)]
          cases hq : K.reredosref01_Of.f k (n : Int) with
          | none => rfl
          | some t =>
            have ht : t = numS (n : Int) := by
              obtain ⟨K0, hK⟩ := ih
              have h3 := at_rounds (fun j => K.reredosref01_Of.mono (n : Int) j) (Nat.le_max_left k K0) hq
              exact Option.some.inj (h3.symm.trans (hK _ (Nat.le_max_right k K0)))
            subst ht
            simp only [Option.bind_some]
            rw [fig _ hd, show (numS (n : Int)).size = (itoa (n : Int)).length from ba_size _, ba_size, if_pos (by rw [hst] at hlen; simp at hlen ⊢; omega)]
            rfl
theorem refOf_ev (x : Int) (h1 : -9223372036854775808 ≤ x) (h2 : x ≤ 9223372036854775807) : Ev (fun k => K.reredosref01_Of.f k x) (numS x) := of_ev _ x (Nat.le_refl _) h1 h2
theorem numOf_ev (x : Int) (h1 : -9223372036854775808 ≤ x) (h2 : x ≤ 9223372036854775807) : Hd.numOf.f x = some (numS x) := by
  unfold Hd.numOf.f
  rw [if_pos ⟨h1, h2⟩]
  rfl
/-! ### Int -/
def i64P (z : Int) : Prop := -9223372036854775808 ≤ z ∧ z ≤ 9223372036854775807
instance (z : Int) : Decidable (i64P z) := by unfold i64P; exact inferInstance
def intOfZ (z : Int) : Int × Bool := if i64P z then (z, true) else (0, false)
theorem val_take_le (l : List UInt8) (hd : Dig l) (i : Nat) (hi : i ≤ l.length) : val (l.take i) ≤ val l := by
  have : l = l.take i ++ l.drop i := (List.take_append_drop i l).symm
  conv => rhs; rw [this]
  rw [val_append]
  have h1 : 1 ≤ 10 ^ (l.drop i).length := Nat.one_le_pow _ _ (by decide)
  have := Nat.mul_le_mul_left (val (l.take i)) h1
  omega
theorem int_loop (z : Int) (h : i64P z) : ∀ (d i : Nat), nl z - i ≤ d → i ≤ nl z → Ev (fun k => K.reredosref01_Int.l0 k (numS z) (if z < 0 then -(val ((decDigits z.natAbs).take i) : Int) else (val ((decDigits z.natAbs).take i) : Int)) (i : Int)) (z, true) := by
  have hz1 := h.1
  have hz2 := h.2
  have hnl := nl_i64 h.1 h.2
  have hlen : (decDigits z.natAbs).length = nl z := rfl
  intro d
  induction d with
  | zero =>
    intro i h0 hi
    refine Ev.step (f := fun _ => some (z, true)) (fun k => ?_) (Ev.now _)
    simp only [K.reredosref01_Int.l0]
    rw [size_ev]
    simp only [Option.bind_some]
    rw [ba_size, hlen, if_neg (by omega), List.take_of_length_le (by omega), val_decDigits]
    congr 2
    split <;> omega
  | succ d ih =>
    intro i h0 hi
    by_cases hl : i = nl z
    · refine Ev.step (f := fun _ => some (z, true)) (fun k => ?_) (Ev.now _)
      simp only [K.reredosref01_Int.l0]
      rw [size_ev]
      simp only [Option.bind_some]
      rw [ba_size, hlen, if_neg (by omega), List.take_of_length_le (by omega), val_decDigits]
      congr 2
      split <;> omega
    · have hlt : i < (decDigits z.natAbs).length := by omega
      have hnx := ih (i + 1) (by omega) (by omega)
      have hg : (decDigits z.natAbs).getD i 0 = (decDigits z.natAbs)[i] := by simp [List.getD, List.getElem?_eq_getElem hlt]
      have hdd := dig_decDigits z.natAbs _ (List.getElem_mem hlt)
      have hv : val ((decDigits z.natAbs).take (i + 1)) = 10 * val ((decDigits z.natAbs).take i) + ((decDigits z.natAbs)[i].toNat - 48) := by rw [List.take_succ_eq_append_getElem hlt, val_snoc]
      have hle := val_take_le _ (dig_decDigits z.natAbs) (i + 1) (by omega)
      rw [val_decDigits] at hle
      rw [hv] at hnx hle
      generalize val ((decDigits z.natAbs).take i) = v at *
      refine Ev.step (fun k => ?_) hnx
      simp only [K.reredosref01_Int.l0]
      rw [size_ev, low_ev]
      simp only [Option.bind_some]
      rw [ba_size, hlen, if_pos (by omega), if_pos (by omega), if_pos (by omega), bt_ba _ _ hlt, hg]
      generalize (decDigits z.natAbs)[i].toNat = c at *
      by_cases hn : z < 0
      · rw [if_pos (decide_eq_true hn), if_pos hn, if_pos hn, w64 (x := 10 * -(v : Int)) (by omega) (by omega), w64 (by omega) (by omega), w64 (by omega) (by omega)]
        congr 1
        omega
      · rw [if_neg (by simp [hn]), if_neg hn, if_neg hn, w64 (x := 10 * (v : Int)) (by omega) (by omega), w64 (by omega) (by omega), w64 (by omega) (by omega)]
        congr 1
        omega
theorem j0_no (s : ByteArray) : Ev (fun k => K.reredosref01_Int.j0 k s true) (0, false) := by
  refine Ev.step (f := fun _ => some (0, false)) (fun k => ?_) (Ev.now _)
  simp only [K.reredosref01_Int.j0]
  rw [if_pos trivial]
theorem max64 : (⟨#[57, 50, 50, 51, 51, 55, 50, 48, 51, 54, 56, 53, 52, 55, 55, 53, 56, 48, 55]⟩ : ByteArray) = numS 9223372036854775807 := by
  unfold numS
  rw [itoa_pos' (by decide), show (9223372036854775807 : Int).natAbs = val [57, 50, 50, 51, 51, 55, 50, 48, 51, 54, 56, 53, 52, 55, 55, 53, 56, 48, 55] by decide, canon _ ((all_dig _).mp (by decide)) (by intro c r e; simp at e; rw [← e.1]; decide) (by simp)]
theorem min64 : (⟨#[45, 57, 50, 50, 51, 51, 55, 50, 48, 51, 54, 56, 53, 52, 55, 55, 53, 56, 48, 56]⟩ : ByteArray) = numS (-9223372036854775808) := by
  unfold numS
  rw [itoa_neg' (by decide), show (-9223372036854775808 : Int).natAbs = val [57, 50, 50, 51, 51, 55, 50, 48, 51, 54, 56, 53, 52, 55, 55, 53, 56, 48, 56] by decide, canon _ ((all_dig _).mp (by decide)) (by intro c r e; simp at e; rw [← e.1]; decide) (by simp)]
theorem refInt_ev (z : Int) (h : Sm z) : Ev (fun k => K.reredosref01_Int.f k (numS z)) (intOfZ z) := by
  unfold K.reredosref01_Int.f
  refine Ev.bind (numS_may h) ?_
  simp only [if_true]
  rw [max64, min64]
  refine Ev.bind (cmp_ev z 9223372036854775807 h (sm_i64 (by decide) (by decide))) ?_
  by_cases h1 : z ≤ 9223372036854775807
  · have e1 : ¬ sgn (z - 9223372036854775807) > 0 := by unfold sgn; split <;> (try split) <;> omega
    simp only [e1, if_false]
    refine Ev.bind (cmp_ev z (-9223372036854775808) h (sm_i64 (by decide) (by decide))) ?_
    by_cases h2 : -9223372036854775808 ≤ z
    · have e2 : ¬ sgn (z - -9223372036854775808) < 0 := by unfold sgn; split <;> (try split) <;> omega
      rw [decide_eq_false e2]
      unfold intOfZ
      rw [if_pos ⟨h2, h1⟩]
      have hl := int_loop z ⟨h2, h1⟩ _ 0 (Nat.le_refl _) (by omega)
      rw [List.take_zero, val_nil, show (if z < 0 then -((0 : Nat) : Int) else ((0 : Nat) : Int)) = 0 by split <;> rfl] at hl
      refine Ev.step (fun k => ?_) hl
      simp only [K.reredosref01_Int.j0]
      rw [if_neg (by decide)]
      rfl
    · have e2 : sgn (z - -9223372036854775808) < 0 := by unfold sgn; rw [if_pos (by omega)]; decide
      rw [decide_eq_true e2]
      unfold intOfZ
      rw [if_neg (fun e => h2 e.1)]
      exact j0_no _
  · have e1 : sgn (z - 9223372036854775807) > 0 := by unfold sgn; rw [if_neg (by omega), if_neg (by omega)]; decide
    simp only [e1, if_true]
    unfold intOfZ
    rw [if_neg (fun e => h1 e.2)]
    exact j0_no _
theorem refInt_no (l : List UInt8) (hl : l.length ≤ 1000000000) (h : mayL l = false) : Ev (fun k => K.reredosref01_Int.f k (BA l)) (0, false) := by
  have := refMay_ev l hl
  rw [h] at this
  unfold K.reredosref01_Int.f
  refine Ev.bind this ?_
  simp only [Bool.false_eq_true, if_false]
  exact j0_no _
theorem parseM (l : List UInt8) (hd : Dig l) : ∀ acc, acc ≤ 18446744073709551615 → parseUintM (2 ^ 64 - 1) acc l = if acc * 10 ^ l.length + val l ≤ 18446744073709551615 then .ok (acc * 10 ^ l.length + val l) else .range := by
  induction l with
  | nil =>
    intro acc h
    simp [parseUintM, val, h]
  | cons c r ih =>
    intro acc h
    have hc := hd c (by simp)
    have hdr : Dig r := fun x hx => hd x (by simp [hx])
    have hp : 1 ≤ 10 ^ r.length := Nat.one_le_pow _ _ (by decide)
    have e : acc * 10 ^ (c :: r).length + val (c :: r) = (acc * 10 + (c.toNat - 48)) * 10 ^ r.length + val r := by
      rw [val_cons, List.length_cons, Nat.pow_succ, Nat.add_mul, Nat.mul_comm (10 ^ r.length) 10, ← Nat.mul_assoc]
      omega
    have hge : acc * 10 + (c.toNat - 48) ≤ (acc * 10 + (c.toNat - 48)) * 10 ^ r.length := Nat.le_mul_of_pos_right _ hp
    rw [e]
    unfold parseUintM
    rw [if_pos hc]
    by_cases h1 : 1844674407370955162 ≤ acc
    · rw [if_pos h1, if_neg (by omega)]
    · rw [if_neg h1]
      by_cases h2 : 2 ^ 64 - 1 < acc * 10 + (c.toNat - 48)
      · rw [if_pos h2, if_neg (by omega)]
      · rw [if_neg h2, ih hdr _ (by omega)]
theorem parseU (n : Nat) : parseUintB 64 (decDigits n) = if n ≤ 18446744073709551615 then .ok n else .range := by
  unfold parseUintB
  rw [if_neg (decDigits_ne n), parseM _ (dig_decDigits n) 0 (by decide), val_decDigits, Nat.zero_mul, Nat.zero_add]
theorem parse_itoa (z : Int) : parseIntB 64 (itoa z) = if i64P z then .ok z else .range := by
  by_cases hn : z < 0
  · rw [itoa_neg' hn]
    unfold parseIntB
    simp only
    rw [if_pos (by decide), parseU]
    by_cases h1 : z.natAbs ≤ 18446744073709551615
    · rw [if_pos h1]
      simp only
      rw [if_neg (by simp)]
      by_cases h2 : 2 ^ (64 - 1) < z.natAbs
      · rw [if_pos ⟨by decide, h2⟩, if_neg (fun e => by have := e.1; omega)]
      · rw [if_neg (fun e => h2 e.2), if_pos (by decide), if_pos ⟨by omega, by omega⟩]
        congr 1
        omega
    · rw [if_neg h1, if_neg (fun e => by have := e.1; omega)]
  · rw [itoa_pos' hn]
    obtain ⟨c, r, e, h1, h2⟩ := head_dec z.natAbs
    have hp := parseU z.natAbs
    rw [e] at hp ⊢
    unfold parseIntB
    simp only
    rw [if_neg (by omega), hp]
    by_cases h3 : z.natAbs ≤ 18446744073709551615
    · rw [if_pos h3]
      simp only
      by_cases h4 : 2 ^ (64 - 1) ≤ z.natAbs
      · rw [if_pos ⟨by omega, h4⟩, if_neg (fun e => by have := e.2; omega)]
      · rw [if_neg (fun e => h4 e.2), if_neg (fun e => by omega), if_neg (by omega), if_pos ⟨by omega, by omega⟩]
        congr 1
        omega
    · rw [if_neg h3, if_neg (fun e => by have := e.2; omega)]
theorem numInt_ev (z : Int) (h : Sm z) : Hd.numInt.f (numS z) = some (intOfZ z) := by
  unfold Hd.numInt.f
  have hs : (numS z).size ≤ 101 := by
    have := itoa_len z
    have := sm_nl h
    rw [show (numS z).size = (itoa z).length from ba_size _]
    omega
  rw [if_pos (by omega), show K.num_May.f (numS z) = some true from by rw [← may_num z h]; exact may_ev _]
  simp only [Option.bind_some, if_true]
  rw [show (numS z).data.toList = itoa z from ba_data _, parse_itoa]
  unfold intOfZ
  by_cases hi : i64P z
  · rw [if_pos hi, if_pos hi]
  · rw [if_neg hi, if_neg hi]
theorem numInt_no (l : List UInt8) (hl : l.length ≤ 1000000000) (h : mayL l = false) : Hd.numInt.f (BA l) = some (0, false) := by
  unfold Hd.numInt.f
  rw [if_pos (by rw [ba_size]; omega), may_ev, h]
  rfl
end Go.Proofs.YtcpaajecppplhaaGreatDoor.Nm
end
