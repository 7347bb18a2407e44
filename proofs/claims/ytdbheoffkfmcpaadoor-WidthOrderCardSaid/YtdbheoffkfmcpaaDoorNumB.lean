/- The document's sums and differences of digits, plainly: plus, minus, more come to the numbers' sum, difference, order. -/
import Derived.Test.YtdbheoffkfmcpaaDoorNumA
namespace Go.Proofs.YtdbheoffkfmcpaaDoor.Nm
open Go.Lib Go.RowKit Go.Proofs.YtdbheoffkfmcpaaDoorW.PrintWords Go.Proofs.YtdbheoffkfmcpaaDoorW.PrintLast Go.Proofs.YtdbheoffkfmcpaaDoor
set_option linter.unusedVariables false
set_option linter.unusedSimpArgs false

theorem tmod_nat (n m : Nat) : Int.tmod (n : Int) (m : Int) = ((n % m : Nat) : Int) := rfl
theorem tdiv_nat (n m : Nat) : Int.tdiv (n : Int) (m : Int) = ((n / m : Nat) : Int) := rfl
theorem strOfNums_one (x : Int) : strOfNums [x] = BA [UInt8.ofNat x.toNat] := rfl
/-- a byte as the code makes it of a figure -/
theorem fig (d : Nat) (h : d < 10) : strOfNums [wrap64 (48 + (d : Int)) % 256] = BA [UInt8.ofNat (48 + d)] := by
  rw [strOfNums_one, w64 (by omega) (by omega)]
  congr 3
  omega
theorem dig_cons {c : UInt8} {l : List UInt8} (h1 : 48 ≤ c.toNat ∧ c.toNat ≤ 57) (h : Dig l) : Dig (c :: l) := fun x hx => by
  rcases List.mem_cons.mp hx with rfl | hx
  · exact h1
  · exact h x hx
theorem dig_fig {d : Nat} {l : List UInt8} (hd : d < 10) (h : Dig l) : Dig (UInt8.ofNat (48 + d) :: l) := dig_cons (by rw [dig_ofNat _ hd]; omega) h
theorem val_fig (d : Nat) (l : List UInt8) (hd : d < 10) : val (UInt8.ofNat (48 + d) :: l) = d * 10 ^ l.length + val l := by
  rw [val_cons, dig_ofNat _ hd, Nat.add_sub_cancel_left]
/-- a figure, from the end -/
theorem dg_val (l : List UInt8) (hd : Dig l) (i : Nat) (h : i < l.length) : (l.getD (l.length - 1 - i) 0).toNat - 48 = val l / 10 ^ i % 10 := by
  have hj : l.length - 1 - i < l.length := by omega
  obtain ⟨p, c, s, hl, hs⟩ : ∃ p c s, l = p ++ c :: s ∧ s.length = i := ⟨l.take (l.length - 1 - i), l[l.length - 1 - i], l.drop (l.length - 1 - i + 1), by
    rw [← List.drop_eq_getElem_cons hj, List.take_append_drop], by simp; omega⟩
  have hp : l.length - 1 - i = p.length := by rw [hl]; simp; omega
  have hg : l.getD (l.length - 1 - i) 0 = c := by rw [hp, hl]; simp [List.getD]
  have hcd := hd c (by rw [hl]; simp)
  have hsd : val s < 10 ^ i := by rw [← hs]; exact val_lt s (fun x hx => hd x (by rw [hl]; simp [hx]))
  rw [hg, hl, val_append, val_cons, List.length_cons, hs, Nat.pow_succ]
  have e : val p * (10 ^ i * 10) + ((c.toNat - 48) * 10 ^ i + val s) = val s + 10 ^ i * (val p * 10 + (c.toNat - 48)) := by
    rw [Nat.mul_add, Nat.mul_left_comm (val p) (10 ^ i) 10, Nat.mul_comm (10 ^ i) (c.toNat - 48)]
    omega
  rw [e, Nat.add_mul_div_left _ _ (Nat.pow_pos (by decide)), Nat.div_eq_of_lt hsd]
  omega
theorem digit_ev (l : List UInt8) (hd : Dig l) (hl : l.length ≤ 1000000000) (i : Nat) (hi : i ≤ 2000000000) : K.reredosref01_digit.f (BA l) (i : Int) = some ((val l / 10 ^ i % 10 : Nat) : Int) := by
  unfold K.reredosref01_digit.f
  rw [ba_size]
  by_cases h : i < l.length
  · rw [if_neg (by omega), w64 (x := (l.length : Int) - 1) (by omega) (by omega), w64 (by omega) (by omega), if_pos (by omega), if_pos (by omega), show ((l.length : Int) - 1 - (i : Int)) = ((l.length - 1 - i : Nat) : Int) by omega, bt_ba _ _ (by omega), ← dg_val l hd i h]
    have hm : l.getD (l.length - 1 - i) 0 ∈ l := by
      rw [List.getD_eq_getElem?_getD, List.getElem?_eq_getElem (by omega)]
      exact List.getElem_mem _
    have := hd _ hm
    congr 1
    omega
  · rw [if_pos (by omega)]
    have h1 : val l < 10 ^ i := Nat.lt_of_lt_of_le (val_lt l hd) (Nat.pow_le_pow_right (by decide) (by omega))
    rw [Nat.div_eq_of_lt h1]
    rfl
theorem low_step (A i : Nat) : A % 10 ^ (i + 1) = A % 10 ^ i + 10 ^ i * (A / 10 ^ i % 10) := Nat.mod_pow_succ
theorem mx_nat (a b : Nat) : mx (a : Int) (b : Int) = ((max a b : Nat) : Int) := by
  unfold mx
  split <;> omega

/-! ### plus -/
theorem plus_loop (a b : List UInt8) (ha : Dig a) (hb : Dig b) (hla : a.length ≤ 1000000000) (hlb : b.length ≤ 1000000000) : ∀ (d i : Nat) (m : List UInt8) (c : Nat), max a.length b.length + 1 - i ≤ d → i ≤ max a.length b.length + 1 → Dig m → m.length = i → c ≤ 1 → val m + c * 10 ^ i = val a % 10 ^ i + val b % 10 ^ i →
    Ev (fun k => K.reredosref01_plus.l0 k (BA a) (BA b) (BA m) (c : Int) (i : Int)) (BA (decDigits (val a + val b)))
  | 0, i, m, c, h0, hi, hm, hml, hc, hv => by
    have hii : i = max a.length b.length + 1 := by omega
    have hA : val a < 10 ^ max a.length b.length := Nat.lt_of_lt_of_le (val_lt a ha) (Nat.pow_le_pow_right (by decide) (by omega))
    have hB : val b < 10 ^ max a.length b.length := Nat.lt_of_lt_of_le (val_lt b hb) (Nat.pow_le_pow_right (by decide) (by omega))
    have hp : 10 ^ i = 10 ^ max a.length b.length * 10 := by rw [hii, Nat.pow_succ]
    have hc0 : c = 0 := by
      rcases Nat.lt_or_ge c 1 with h | h
      · omega
      · have : c = 1 := by omega
        subst this
        rw [Nat.mod_eq_of_lt (by omega), Nat.mod_eq_of_lt (by omega)] at hv
        omega
    subst hc0
    rw [Nat.mod_eq_of_lt (by omega), Nat.mod_eq_of_lt (by omega)] at hv
    have hvm : val m = val a + val b := by omega
    refine Ev.step (fun k => ?_) (Ev.bind (f := fun k t => some t) (bare_ev m hm (by omega)) (by rw [hvm]; exact Ev.now _))
    simp only [K.reredosref01_plus.l0]
    rw [ba_size, ba_size, mx_nat, if_neg (by omega)]
  | d + 1, i, m, c, h0, hi, hm, hml, hc, hv => by
    by_cases hlast : i = max a.length b.length + 1
    · exact plus_loop a b ha hb hla hlb 0 i m c (by omega) hi hm hml hc hv
    · obtain ⟨x, hx⟩ : ∃ x, x = val a / 10 ^ i % 10 := ⟨_, rfl⟩
      obtain ⟨y, hy⟩ : ∃ y, y = val b / 10 ^ i % 10 := ⟨_, rfl⟩
      have hx9 : x < 10 := by omega
      have hy9 : y < 10 := by omega
      have hstep := plus_loop a b ha hb hla hlb d (i + 1) (UInt8.ofNat (48 + (x + y + c) % 10) :: m) ((x + y + c) / 10) (by omega) (by omega) (dig_fig (by omega) hm) (by simp [hml]) (by omega) (by
        rw [val_fig _ _ (by omega), hml, low_step, low_step, ← hx, ← hy, Nat.pow_succ, Nat.mul_comm (10 ^ i) x, Nat.mul_comm (10 ^ i) y]
        have e : (x + y + c) % 10 * 10 ^ i + (x + y + c) / 10 * (10 ^ i * 10) = (x + y + c) * 10 ^ i := by
          rw [Nat.mul_comm (10 ^ i) 10, ← Nat.mul_assoc, ← Nat.add_mul]
          congr 1
          omega
        rw [Nat.add_mul, Nat.add_mul] at e
        omega)
      refine Ev.step (fun k => ?_) hstep
      simp only [K.reredosref01_plus.l0]
      rw [ba_size, ba_size, mx_nat, if_pos (by omega), digit_ev a ha hla i (by omega), digit_ev b hb hlb i (by omega), ← hx, ← hy]
      simp only [Option.bind_some]
      rw [w64 (x := (x : Int) + (y : Int)) (by omega) (by omega), w64 (x := (x : Int) + (y : Int) + (c : Int)) (by omega) (by omega), show ((x : Int) + (y : Int) + (c : Int)) = ((x + y + c : Nat) : Int) by omega, show (10 : Int) = ((10 : Nat) : Int) from rfl, tmod_nat, tdiv_nat, fig _ (by omega), ba_append, ba_size, w64 (by omega) (by omega), w64 (by omega) (by omega), if_pos (by rw [ba_size]; simp; omega)]
      rfl
theorem plus_ev (a b : List UInt8) (ha : Dig a) (hb : Dig b) (hla : a.length ≤ 1000000000) (hlb : b.length ≤ 1000000000) : Ev (fun k => K.reredosref01_plus.f k (BA a) (BA b)) (BA (decDigits (val a + val b))) :=
  plus_loop a b ha hb hla hlb _ 0 [] 0 (Nat.le_refl _) (by omega) (fun _ h => by cases h) rfl (by omega) (by simp [val, Nat.mod_one])

/-! ### minus -/
theorem minus_loop (a b : List UInt8) (ha : Dig a) (hb : Dig b) (hla : a.length ≤ 1000000000) (hlb : b.length ≤ 1000000000) (hle : val b ≤ val a) : ∀ (d i : Nat) (m : List UInt8) (c : Nat), a.length - i ≤ d → i ≤ a.length → Dig m → m.length = i → c ≤ 1 → val m + val b % 10 ^ i = val a % 10 ^ i + c * 10 ^ i →
    Ev (fun k => K.reredosref01_minus.l0 k (BA a) (BA b) (BA m) (c : Int) (i : Int)) (BA (decDigits (val a - val b)))
  | 0, i, m, c, h0, hi, hm, hml, hc, hv => by
    have hii : i = a.length := by omega
    have hA : val a < 10 ^ i := by rw [hii]; exact val_lt a ha
    have hM : val m < 10 ^ i := by rw [← hml]; exact val_lt m hm
    rw [Nat.mod_eq_of_lt (by omega), Nat.mod_eq_of_lt (by omega)] at hv
    have hc0 : c = 0 := by
      rcases Nat.lt_or_ge c 1 with h | h
      · omega
      · have : c = 1 := by omega
        subst this
        omega
    subst hc0
    have hvm : val m = val a - val b := by omega
    refine Ev.step (fun k => ?_) (Ev.bind (f := fun k t => some t) (bare_ev m hm (by omega)) (by rw [hvm]; exact Ev.now _))
    simp only [K.reredosref01_minus.l0]
    rw [ba_size, if_neg (by omega)]
  | d + 1, i, m, c, h0, hi, hm, hml, hc, hv => by
    by_cases hlast : i = a.length
    · exact minus_loop a b ha hb hla hlb hle 0 i m c (by omega) hi hm hml hc hv
    · obtain ⟨x, hx⟩ : ∃ x, x = val a / 10 ^ i % 10 := ⟨_, rfl⟩
      obtain ⟨y, hy⟩ : ∃ y, y = val b / 10 ^ i % 10 := ⟨_, rfl⟩
      have hx9 : x < 10 := by omega
      have hy9 : y < 10 := by omega
      have key : ∀ (e c' : Nat), e < 10 → c' ≤ 1 → e + y + c = x + 10 * c' → Ev (fun k => K.reredosref01_minus.l0 k (BA a) (BA b) (BA (UInt8.ofNat (48 + e) :: m)) (c' : Int) ((i + 1 : Nat) : Int)) (BA (decDigits (val a - val b))) := fun e c' he hc' hec =>
        minus_loop a b ha hb hla hlb hle d (i + 1) (UInt8.ofNat (48 + e) :: m) c' (by omega) (by omega) (dig_fig he hm) (by simp [hml]) hc' (by
          rw [val_fig _ _ he, hml, low_step, low_step, ← hx, ← hy, Nat.pow_succ, Nat.mul_comm (10 ^ i) x, Nat.mul_comm (10 ^ i) y]
          have e1 : (e + y + c) * 10 ^ i = (x + 10 * c') * 10 ^ i := by rw [hec]
          rw [Nat.add_mul, Nat.add_mul, Nat.add_mul, Nat.mul_comm 10 c', Nat.mul_assoc c' 10, Nat.mul_comm 10 (10 ^ i)] at e1
          omega)
      by_cases hneg : x < y + c
      · refine Ev.step (fun k => ?_) (key (x + 10 - y - c) 1 (by omega) (by omega) (by omega))
        simp only [K.reredosref01_minus.l0]
        rw [ba_size, if_pos (by omega), digit_ev a ha hla i (by omega), digit_ev b hb hlb i (by omega), ← hx, ← hy]
        simp only [Option.bind_some]
        rw [w64 (x := (x : Int) - (y : Int)) (by omega) (by omega), w64 (x := (x : Int) - (y : Int) - (c : Int)) (by omega) (by omega), if_pos (by omega), w64 (x := (x : Int) - (y : Int) - (c : Int) + 10) (by omega) (by omega), show ((x : Int) - (y : Int) - (c : Int) + 10) = ((x + 10 - y - c : Nat) : Int) by omega, fig _ (by omega), ba_append, ba_size, w64 (by omega) (by omega), if_pos (by rw [ba_size]; simp; omega)]
        rfl
      · refine Ev.step (fun k => ?_) (key (x - y - c) 0 (by omega) (by omega) (by omega))
        simp only [K.reredosref01_minus.l0]
        rw [ba_size, if_pos (by omega), digit_ev a ha hla i (by omega), digit_ev b hb hlb i (by omega), ← hx, ← hy]
        simp only [Option.bind_some]
        rw [w64 (x := (x : Int) - (y : Int)) (by omega) (by omega), w64 (x := (x : Int) - (y : Int) - (c : Int)) (by omega) (by omega), if_neg (by omega), show ((x : Int) - (y : Int) - (c : Int)) = ((x - y - c : Nat) : Int) by omega, fig _ (by omega), ba_append, ba_size, w64 (by omega) (by omega), if_pos (by rw [ba_size]; simp; omega)]
        rfl
theorem minus_ev (a b : List UInt8) (ha : Dig a) (hb : Dig b) (hla : a.length ≤ 1000000000) (hlb : b.length ≤ 1000000000) (hle : val b ≤ val a) : Ev (fun k => K.reredosref01_minus.f k (BA a) (BA b)) (BA (decDigits (val a - val b))) :=
  minus_loop a b ha hb hla hlb hle _ 0 [] 0 (Nat.le_refl _) (by omega) (fun _ h => by cases h) rfl (by omega) (by simp [val, Nat.mod_one])

/-! ### more: which size is greater -/
def cmpN (x y : Nat) : Int := if x < y then -1 else if y < x then 1 else 0
theorem more_loop (a b : List UInt8) (ha : Dig a) (hb : Dig b) (hl : a.length = b.length) (hla : a.length ≤ 1000000000) : ∀ (d i : Nat), a.length - i ≤ d → i ≤ a.length → a.take i = b.take i →
    Ev (fun k => K.reredosref01_more.l0 k (BA a) (BA b) (i : Int)) (cmpN (val a) (val b))
  | 0, i, h0, hi, hp => by
    have e : a = b := by rw [← List.take_of_length_le (l := a) (i := i) (by omega), hp, List.take_of_length_le (by omega)]
    subst e
    refine Ev.step (f := fun _ => some 0) (fun k => ?_) (by simp [cmpN]; exact Ev.now _)
    simp only [K.reredosref01_more.l0]
    rw [ba_size, if_neg (by omega)]
  | d + 1, i, h0, hi, hp => by
    by_cases hlast : i = a.length
    · exact more_loop a b ha hb hl hla 0 i (by omega) hi hp
    · have hia : i < a.length := by omega
      have hib : i < b.length := by omega
      have ea : a = a.take i ++ a[i] :: a.drop (i + 1) := by rw [← List.drop_eq_getElem_cons hia, List.take_append_drop]
      have eb : b = a.take i ++ b[i] :: b.drop (i + 1) := by rw [hp, ← List.drop_eq_getElem_cons hib, List.take_append_drop]
      have ga : a.getD i 0 = a[i] := by simp [List.getD, List.getElem?_eq_getElem hia]
      have gb : b.getD i 0 = b[i] := by simp [List.getD, List.getElem?_eq_getElem hib]
      have hda := ha a[i] (List.getElem_mem hia)
      have hdb := hb b[i] (List.getElem_mem hib)
      have va : val a = val (a.take i) * (10 ^ (a.length - i - 1) * 10) + ((a[i].toNat - 48) * 10 ^ (a.length - i - 1) + val (a.drop (i + 1))) := by
        conv => lhs; rw [ea]
        rw [val_append, val_cons, List.length_cons, Nat.pow_succ, List.length_drop, show a.length - (i + 1) = a.length - i - 1 by omega]
      have vb : val b = val (a.take i) * (10 ^ (a.length - i - 1) * 10) + ((b[i].toNat - 48) * 10 ^ (a.length - i - 1) + val (b.drop (i + 1))) := by
        conv => lhs; rw [eb]
        rw [val_append, val_cons, List.length_cons, Nat.pow_succ, List.length_drop, show b.length - (i + 1) = a.length - i - 1 by omega]
      have la : val (a.drop (i + 1)) < 10 ^ (a.length - i - 1) := by
        have := val_lt (a.drop (i + 1)) (fun x hx => ha x (List.mem_of_mem_drop hx))
        rwa [List.length_drop, show a.length - (i + 1) = a.length - i - 1 by omega] at this
      have lb : val (b.drop (i + 1)) < 10 ^ (a.length - i - 1) := by
        have := val_lt (b.drop (i + 1)) (fun x hx => hb x (List.mem_of_mem_drop hx))
        rwa [List.length_drop, show b.length - (i + 1) = a.length - i - 1 by omega] at this
      rcases Nat.lt_trichotomy a[i].toNat b[i].toNat with h | h | h
      · have hlt : val a < val b := by
          rw [va, vb]
          have : (a[i].toNat - 48 + 1) * 10 ^ (a.length - i - 1) ≤ (b[i].toNat - 48) * 10 ^ (a.length - i - 1) := Nat.mul_le_mul_right _ (by omega)
          rw [Nat.add_mul] at this
          omega
        refine Ev.step (f := fun _ => some (-1)) (fun k => ?_) (by unfold cmpN; rw [if_pos hlt]; exact Ev.now _)
        simp only [K.reredosref01_more.l0]
        rw [ba_size, ba_size, if_pos (by omega), if_pos (by omega), if_pos (by omega), bt_ba a i hia, bt_ba b i hib, ga, gb, if_pos (by omega)]
      · have hcc : a[i] = b[i] := UInt8.toNat_inj.mp h
        refine Ev.step (fun k => ?_) (more_loop a b ha hb hl hla d (i + 1) (by omega) (by omega) (by rw [List.take_succ_eq_append_getElem hia, List.take_succ_eq_append_getElem hib, hp, hcc]))
        simp only [K.reredosref01_more.l0]
        rw [ba_size, ba_size, if_pos (by omega), if_pos (by omega), if_pos (by omega), bt_ba a i hia, bt_ba b i hib, ga, gb, if_neg (by omega), if_neg (by omega), w64 (by omega) (by omega)]
        rfl
      · have hlt : val b < val a := by
          rw [va, vb]
          have : (b[i].toNat - 48 + 1) * 10 ^ (a.length - i - 1) ≤ (a[i].toNat - 48) * 10 ^ (a.length - i - 1) := Nat.mul_le_mul_right _ (by omega)
          rw [Nat.add_mul] at this
          omega
        refine Ev.step (f := fun _ => some 1) (fun k => ?_) (by unfold cmpN; rw [if_neg (by omega), if_pos hlt]; exact Ev.now _)
        simp only [K.reredosref01_more.l0]
        rw [ba_size, ba_size, if_pos (by omega), if_pos (by omega), if_pos (by omega), bt_ba a i hia, bt_ba b i hib, ga, gb, if_neg (by omega), if_pos (by omega)]
theorem len_lt_val (x y : Nat) (h : (decDigits x).length < (decDigits y).length) : x < y := by
  rcases Nat.lt_or_ge x y with h1 | h1
  · exact h1
  · exfalso
    have h2 := lt_of_len x (decDigits x).length (Nat.le_refl _)
    have := len_le y (decDigits x).length (by have := List.length_pos_iff.mpr (decDigits_ne x); omega) (by omega)
    omega
theorem more_ev (x y : Nat) (hx : (decDigits x).length ≤ 1000000000) : Ev (fun k => K.reredosref01_more.f k (BA (decDigits x)) (BA (decDigits y))) (cmpN x y) := by
  unfold K.reredosref01_more.f
  by_cases h : (decDigits x).length = (decDigits y).length
  · have := more_loop _ _ (dig_decDigits x) (dig_decDigits y) h hx _ 0 (Nat.le_refl _) (by omega) (by simp)
    rw [val_decDigits, val_decDigits] at this
    refine Ev.congr (fun k => ?_) this
    rw [ba_size, ba_size, if_pos (by omega)]
    rfl
  · rcases Nat.lt_or_ge (decDigits x).length (decDigits y).length with h1 | h1
    · refine Ev.congr (f := fun _ => some (-1)) (fun k => ?_) (by unfold cmpN; rw [if_pos (len_lt_val x y h1)]; exact Ev.now _)
      rw [ba_size, ba_size, if_neg (by omega), if_pos (by omega)]
    · have h2 := len_lt_val y x (by omega)
      refine Ev.congr (f := fun _ => some 1) (fun k => ?_) (by unfold cmpN; rw [if_neg (by omega), if_pos h2]; exact Ev.now _)
      rw [ba_size, ba_size, if_neg (by omega), if_neg (by omega)]

end Go.Proofs.YtdbheoffkfmcpaaDoor.Nm
