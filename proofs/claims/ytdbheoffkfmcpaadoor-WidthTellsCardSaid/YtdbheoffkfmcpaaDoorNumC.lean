/- The document's numbers, plainly: what low, size, signed, sum, turned, product, told come to, at the text of every number. -/
import Derived.Test.YtdbheoffkfmcpaaDoorNumB
namespace Go.Proofs.YtdbheoffkfmcpaaDoor.Nm
open Go.Lib Go.RowKit Go.Proofs.YtdbheoffkfmcpaaDoorW.PrintWords Go.Proofs.YtdbheoffkfmcpaaDoorW.PrintLast Go.Proofs.YtdbheoffkfmcpaaDoor
set_option linter.unusedVariables false
set_option linter.unusedSimpArgs false

/-- a number's text -/
def numS (z : Int) : ByteArray := BA (itoa z)
def nl (z : Int) : Nat := (decDigits z.natAbs).length
theorem itoa_neg' {z : Int} (h : z < 0) : itoa z = 45 :: decDigits z.natAbs := by unfold itoa; rw [if_pos h]
theorem itoa_pos' {z : Int} (h : ¬ z < 0) : itoa z = decDigits z.natAbs := by unfold itoa; rw [if_neg h, show z.toNat = z.natAbs by omega]
theorem numS_neg {z : Int} (h : z < 0) : numS z = BA (45 :: decDigits z.natAbs) := by unfold numS; rw [itoa_neg' h]
theorem numS_pos {z : Int} (h : ¬ z < 0) : numS z = BA (decDigits z.natAbs) := by unfold numS; rw [itoa_pos' h]
theorem nl_pos (z : Int) : 0 < nl z := List.length_pos_iff.mpr (decDigits_ne _)
theorem nl_le {z : Int} {k : Nat} (hk : 0 < k) (h : z.natAbs < 10 ^ k) : nl z ≤ k := len_le _ _ hk h
theorem nl_lt {z : Int} {k : Nat} (h : nl z ≤ k) : z.natAbs < 10 ^ k := lt_of_len _ _ h
theorem nl_add (x y : Int) : nl (x + y) ≤ max (nl x) (nl y) + 1 := by
  refine nl_le (by omega) ?_
  have h1 := nl_lt (z := x) (k := max (nl x) (nl y)) (by omega)
  have h2 := nl_lt (z := y) (k := max (nl x) (nl y)) (by omega)
  rw [Nat.pow_succ]
  omega
theorem nl_neg (x : Int) : nl (-x) = nl x := by unfold nl; rw [Int.natAbs_neg]
theorem nl_mul (x y : Int) : nl (x * y) ≤ nl x + nl y := by
  refine nl_le (by have := nl_pos x; omega) ?_
  rw [Int.natAbs_mul, Nat.pow_add]
  exact Nat.mul_lt_mul'' (nl_lt (Nat.le_refl _)) (nl_lt (Nat.le_refl _))
theorem nl_i64 {z : Int} (h1 : -9223372036854775808 ≤ z) (h2 : z ≤ 9223372036854775807) : nl z ≤ 19 := nl_le (by decide) (by omega)
theorem head_dec (n : Nat) : ∃ c r, decDigits n = c :: r ∧ 48 ≤ c.toNat ∧ c.toNat ≤ 57 := by
  cases h : decDigits n with
  | nil => exact absurd h (decDigits_ne n)
  | cons c r => exact ⟨c, r, rfl, dig_decDigits n c (by rw [h]; simp)⟩
theorem low_dec (n : Nat) : K.reredosref01_low.f (BA (decDigits n)) = some false := by
  obtain ⟨c, r, e, h1, h2⟩ := head_dec n
  unfold K.reredosref01_low.f
  rw [e, ba_list, if_neg (by simp), ba_size, if_pos (by simp), bt_head]
  congr 1
  exact beq_eq_false_iff_ne.mpr (by omega)
theorem low_ev (z : Int) : K.reredosref01_low.f (numS z) = some (decide (z < 0)) := by
  by_cases h : z < 0
  · rw [numS_neg h]
    unfold K.reredosref01_low.f
    rw [ba_list, if_neg (by simp), ba_size, if_pos (by simp), bt_head]
    simp [h]
  · rw [numS_pos h, low_dec]
    simp [h]
theorem size_ev (z : Int) : K.reredosref01_size.f (numS z) = some (BA (decDigits z.natAbs)) := by
  unfold K.reredosref01_size.f
  rw [low_ev]
  simp only [Option.bind_some]
  by_cases h : z < 0
  · rw [decide_eq_true h, if_pos rfl, numS_neg h, ba_extract1, ba_size, if_pos (by simp; omega)]
  · rw [decide_eq_false h, if_neg (by decide), numS_pos h]
theorem dec_zero_iff (n : Nat) : decDigits n = [48] ↔ n = 0 := by
  constructor
  · intro h
    have := val_decDigits n
    rw [h] at this
    simpa [val] using this.symm
  · rintro rfl
    exact decDigits_zero
theorem signed_ev (l : List UInt8) (hd : Dig l) (hl : l.length ≤ 1000000000) (b : Bool) : Ev (fun k => K.reredosref01_signed.f k (BA l) b) (numS (if b = true then -((val l : Nat) : Int) else (val l : Int))) := by
  have hb := bare_ev l hd (by omega)
  have hlen : (decDigits (val l)).length ≤ 1000000001 := by
    have := val_lt l hd
    exact Nat.le_trans (len_le _ (l.length + 1) (by omega) (Nat.lt_of_lt_of_le this (Nat.pow_le_pow_right (by decide) (by omega)))) (by omega)
  have plain : Ev (fun k => K.reredosref01_signed.j0 k (BA l) false) (BA (decDigits (val l))) := by
    refine Ev.step (fun k => ?_) (Ev.bind (f := fun k t => some t) hb (Ev.now _))
    simp only [K.reredosref01_signed.j0]
    rw [if_neg (by decide)]
  cases b with
  | false =>
    refine Ev.congr (fun k => ?_) (f := fun k => K.reredosref01_signed.j0 k (BA l) false) ?_
    · unfold K.reredosref01_signed.f
      rw [if_neg (by decide)]
    · rw [if_neg (by decide), numS_pos (by omega), Int.natAbs_natCast]
      exact plain
  | true =>
    rw [if_pos rfl]
    refine Ev.congr (fun k => ?_) (Ev.bind (f := fun k t => K.reredosref01_signed.j0 k (BA l) (t.toList != ([48] : List UInt8))) hb ?_)
    · unfold K.reredosref01_signed.f
      rw [if_pos rfl]
    · rw [ba_list]
      by_cases h0 : val l = 0
      · rw [h0, decDigits_zero]
        rw [h0, decDigits_zero] at plain
        rw [show ([48] != ([48] : List UInt8)) = false by decide, show numS (-((0 : Nat) : Int)) = BA [48] by rw [numS_pos (by omega)]; simp [decDigits_zero]]
        exact plain
      · have hne : decDigits (val l) ≠ [48] := fun e => h0 ((dec_zero_iff _).mp e)
        rw [show (decDigits (val l) != [48]) = true from bne_iff_ne.mpr hne, numS_neg (by omega), Int.natAbs_neg, Int.natAbs_natCast]
        refine Ev.step (fun k => ?_) (Ev.bind (f := fun k t => if 1 + t.size ≤ 9223372036854775807 then (some ((⟨#[45]⟩ : ByteArray) ++ t)) else none) hb ?_)
        · simp only [K.reredosref01_signed.j0]
          rw [if_pos trivial]
        · rw [ba_size, if_pos (by omega)]
          exact Ev.now _
theorem signed_dec (n : Nat) (hl : (decDigits n).length ≤ 1000000000) (b : Bool) : Ev (fun k => K.reredosref01_signed.f k (BA (decDigits n)) b) (numS (if b = true then -((n : Nat) : Int) else (n : Int))) := by
  have := signed_ev _ (dig_decDigits n) hl b
  rwa [val_decDigits] at this
theorem plus_dec (x y : Nat) (hx : (decDigits x).length ≤ 1000000000) (hy : (decDigits y).length ≤ 1000000000) : Ev (fun k => K.reredosref01_plus.f k (BA (decDigits x)) (BA (decDigits y))) (BA (decDigits (x + y))) := by
  have := plus_ev _ _ (dig_decDigits x) (dig_decDigits y) hx hy
  rwa [val_decDigits, val_decDigits] at this
theorem minus_dec (x y : Nat) (hx : (decDigits x).length ≤ 1000000000) (hy : (decDigits y).length ≤ 1000000000) (h : y ≤ x) : Ev (fun k => K.reredosref01_minus.f k (BA (decDigits x)) (BA (decDigits y))) (BA (decDigits (x - y))) := by
  have := minus_ev _ _ (dig_decDigits x) (dig_decDigits y) hx hy (by rw [val_decDigits, val_decDigits]; exact h)
  rwa [val_decDigits, val_decDigits] at this
theorem dec_mono {x y : Nat} (h : x ≤ y) : (decDigits x).length ≤ (decDigits y).length := by
  rcases Nat.lt_or_ge (decDigits y).length (decDigits x).length with h1 | h1
  · have := len_lt_val _ _ h1
    omega
  · exact h1
theorem dec_add {x y k : Nat} (hx : (decDigits x).length ≤ k) (hy : (decDigits y).length ≤ k) : (decDigits (x + y)).length ≤ k + 1 := by
  refine len_le _ _ (by omega) ?_
  have h1 := lt_of_len x k hx
  have h2 := lt_of_len y k hy
  rw [Nat.pow_succ]
  omega
theorem dec_mul {x y k l : Nat} (hk : 0 < k + l) (hx : x < 10 ^ k) (hy : y < 10 ^ l) : (decDigits (x * y)).length ≤ k + l := by
  refine len_le _ _ hk ?_
  rw [Nat.pow_add]
  exact Nat.mul_lt_mul'' hx hy
theorem sum_ev (x y : Int) (hx : nl x ≤ 10000) (hy : nl y ≤ 10000) : Ev (fun k => K.reredosref01_sum.f k (numS x) (numS y)) (numS (x + y)) := by
  have hlx : (decDigits x.natAbs).length ≤ 10000 := hx
  have hly : (decDigits y.natAbs).length ≤ 10000 := hy
  unfold K.reredosref01_sum.f
  simp only [low_ev, size_ev, Option.bind_some]
  by_cases hs : (decide (x < 0) == decide (y < 0)) = true
  · simp only [hs, if_true]
    refine Ev.bind (plus_dec _ _ (by omega) (by omega)) ?_
    have hlen : (decDigits (x.natAbs + y.natAbs)).length ≤ 10001 := dec_add hlx hly
    refine Ev.bind (signed_dec _ (by omega) _) ?_
    have e : (if decide (x < 0) = true then -((x.natAbs + y.natAbs : Nat) : Int) else ((x.natAbs + y.natAbs : Nat) : Int)) = x + y := by
      have hs' : (x < 0) ↔ (y < 0) := by simpa using hs
      by_cases h : x < 0
      · have := hs'.mp h
        rw [if_pos (decide_eq_true h)]
        omega
      · have : ¬ y < 0 := fun e => h (hs'.mpr e)
        rw [if_neg (by simp [h])]
        omega
    rw [e]
    exact Ev.now _
  · simp only [hs, if_false, Bool.false_eq_true]
    have hs' : ¬ ((x < 0) ↔ (y < 0)) := by simpa using hs
    refine Ev.bind (more_ev _ _ (by omega)) ?_
    by_cases hm : y.natAbs ≤ x.natAbs
    · have hc : cmpN x.natAbs y.natAbs ≥ 0 := by unfold cmpN; rw [if_neg (by omega)]; split <;> omega
      simp only [hc, if_true]
      refine Ev.bind (minus_dec _ _ (by omega) (by omega) hm) ?_
      have hlen : (decDigits (x.natAbs - y.natAbs)).length ≤ 10000 := Nat.le_trans (dec_mono (Nat.sub_le _ _)) hlx
      refine Ev.bind (signed_dec _ (by omega) _) ?_
      have e : (if decide (x < 0) = true then -((x.natAbs - y.natAbs : Nat) : Int) else ((x.natAbs - y.natAbs : Nat) : Int)) = x + y := by
        by_cases h : x < 0
        · rw [if_pos (decide_eq_true h)]
          have : ¬ y < 0 := fun e => hs' ⟨fun _ => e, fun _ => h⟩
          omega
        · rw [if_neg (by simp [h])]
          have : y < 0 := by
            rcases (by omega : y < 0 ∨ 0 ≤ y) with e | e
            · exact e
            · exact absurd ⟨fun h' => absurd h' h, fun h' => absurd h' (by omega)⟩ hs'
          omega
      rw [e]
      exact Ev.now _
    · have hc : ¬ cmpN x.natAbs y.natAbs ≥ 0 := by unfold cmpN; rw [if_pos (by omega)]; omega
      simp only [hc, if_false]
      refine Ev.bind (minus_dec _ _ (by omega) (by omega) (by omega)) ?_
      have hlen : (decDigits (y.natAbs - x.natAbs)).length ≤ 10000 := Nat.le_trans (dec_mono (Nat.sub_le _ _)) hly
      refine Ev.bind (signed_dec _ (by omega) _) ?_
      have e : (if decide (y < 0) = true then -((y.natAbs - x.natAbs : Nat) : Int) else ((y.natAbs - x.natAbs : Nat) : Int)) = x + y := by
        by_cases h : y < 0
        · rw [if_pos (decide_eq_true h)]
          have : ¬ x < 0 := fun e => hs' ⟨fun _ => h, fun _ => e⟩
          omega
        · rw [if_neg (by simp [h])]
          have : x < 0 := by
            rcases (by omega : x < 0 ∨ 0 ≤ x) with e | e
            · exact e
            · exact absurd ⟨fun h' => absurd h' (by omega), fun h' => absurd h' h⟩ hs'
          omega
      rw [e]
      exact Ev.now _
theorem turned_ev (x : Int) (hx : nl x ≤ 100000) : Ev (fun k => K.reredosref01_turned.f k (numS x)) (numS (-x)) := by
  have hlx : (decDigits x.natAbs).length ≤ 100000 := hx
  unfold K.reredosref01_turned.f
  simp only [low_ev, size_ev, Option.bind_some]
  refine Ev.bind (signed_dec _ (by omega) _) ?_
  have e : (if (!decide (x < 0)) = true then -((x.natAbs : Nat) : Int) else (x.natAbs : Int)) = -x := by
    by_cases h : x < 0
    · rw [if_neg (by simp [h])]
      omega
    · rw [if_pos (by simp [h])]
      omega
  rw [e]
  exact Ev.now _
def told (z : Int) : ByteArray × Int := if z.natAbs < 10 ^ 100 then (numS z, 0) else (BA [], 8)
theorem told_ev (z : Int) : K.reredosref01_told.f (numS z) = some (told z) := by
  unfold K.reredosref01_told.f told
  rw [size_ev]
  simp only [Option.bind_some]
  rw [ba_size]
  by_cases h : z.natAbs < 10 ^ 100
  · have := len_le _ 100 (by decide) h
    rw [if_neg (by omega), if_pos h]
  · have : ¬ (decDigits z.natAbs).length ≤ 100 := fun e => h (lt_of_len _ _ e)
    rw [if_pos (by omega), if_neg h]

/-! ### product -/
theorem product_inner (x y : Int) (w : List UInt8) (i D : Nat) (hx : nl x ≤ 1000) (hi : i < w.length) (hw : w.length ≤ 1000) (hD : (w.getD i 0).toNat - 48 = D) (hDd : 48 ≤ (w.getD i 0).toNat ∧ (w.getD i 0).toNat ≤ 57) (S : Nat) (hS : ∀ j, j ≤ 10 → (decDigits (S + j * x.natAbs)).length ≤ 5000) (r : ByteArray)
    (hk : Ev (fun k => K.reredosref01_product.l0 k (numS x) (numS y) (BA (decDigits (S + D * x.natAbs))) (BA w) ((i + 1 : Nat) : Int)) r) : ∀ (d j : Nat), D - j ≤ d → j ≤ D →
    Ev (fun k => K.reredosref01_product.l1 k (numS x) (numS y) (BA (decDigits (S + j * x.natAbs))) (BA w) (i : Int) (j : Int)) r
  | 0, j, h0, hj => by
    have : j = D := by omega
    subst this
    refine Ev.step (fun k => ?_) hk
    simp only [K.reredosref01_product.l1]
    rw [ba_size, if_pos (by omega), if_pos (by omega), bt_ba w i hi, if_neg (by omega), w64 (by omega) (by omega)]
    rfl
  | d + 1, j, h0, hj => by
    by_cases hl : j = D
    · exact product_inner x y w i D hx hi hw hD hDd S hS r hk 0 j (by omega) hj
    · have hlx : (decDigits x.natAbs).length ≤ 1000 := hx
      have hlen : (decDigits (S + j * x.natAbs)).length ≤ 5000 := hS j (by omega)
      refine Ev.step (fun k => ?_) (Ev.bind (f := fun k t => K.reredosref01_product.l1 k (numS x) (numS y) t (BA w) (i : Int) ((j + 1 : Nat) : Int)) (plus_dec (S + j * x.natAbs) x.natAbs (Nat.le_trans hlen (by decide)) (Nat.le_trans hlx (by decide))) (by
        have := product_inner x y w i D hx hi hw hD hDd S hS r hk d (j + 1) (by omega) (by omega)
        rwa [Nat.succ_mul, ← Nat.add_assoc] at this))
      simp only [K.reredosref01_product.l1]
      rw [ba_size, if_pos (by omega), if_pos (by omega), bt_ba w i hi, if_pos (by omega), size_ev]
      simp only [Option.bind_some]
      rw [w64 (by omega) (by omega)]
      rfl
theorem product_outer (x y : Int) (w : List UInt8) (hwd : Dig w) (hx : nl x ≤ 1000) (hw : w.length ≤ 1000) : ∀ (d i : Nat), w.length - i ≤ d → i ≤ w.length →
    Ev (fun k => K.reredosref01_product.l0 k (numS x) (numS y) (BA (decDigits (val (w.take i) * x.natAbs))) (BA w) (i : Int)) (numS (if (decide (x < 0) != decide (y < 0)) = true then -((val w * x.natAbs : Nat) : Int) else ((val w * x.natAbs : Nat) : Int))) := by
  have hnx := nl_pos x
  have hvx := nl_lt (z := x) (k := nl x) (Nat.le_refl _)
  have vt : ∀ i, i ≤ w.length → val (w.take i) < 10 ^ i := by
    intro i hi
    have h1 := val_lt (w.take i) (fun c hc => hwd c (List.mem_of_mem_take hc))
    rwa [List.length_take, Nat.min_eq_left hi] at h1
  have bound : ∀ i, i ≤ w.length → (decDigits (val (w.take i) * x.natAbs)).length ≤ 2000 := fun i hi => Nat.le_trans (dec_mul (k := i) (l := nl x) (by omega) (vt i hi) hvx) (by omega)
  intro d
  induction d with
  | zero =>
    intro i h0 hi
    have hii : i = w.length := by omega
    have hlen := bound i hi
    rw [hii, List.take_of_length_le (Nat.le_refl _)] at hlen ⊢
    refine Ev.step (fun k => ?_) (Ev.bind (f := fun k t => some t) (signed_dec (val w * x.natAbs) (by omega) (decide (x < 0) != decide (y < 0))) (Ev.now _))
    simp only [K.reredosref01_product.l0]
    rw [ba_size, if_neg (by omega), low_ev, low_ev]
    simp only [Option.bind_some]
  | succ d ih =>
    intro i h0 hi
    by_cases hl : i = w.length
    · have hlen := bound i hi
      rw [hl, List.take_of_length_le (Nat.le_refl _)] at hlen ⊢
      refine Ev.step (fun k => ?_) (Ev.bind (f := fun k t => some t) (signed_dec (val w * x.natAbs) (by omega) (decide (x < 0) != decide (y < 0))) (Ev.now _))
      simp only [K.reredosref01_product.l0]
      rw [ba_size, if_neg (by omega), low_ev, low_ev]
      simp only [Option.bind_some]
    · have hlt : i < w.length := by omega
      have hlen := bound i hi
      have hm : w.getD i 0 = w[i] := by simp [List.getD, List.getElem?_eq_getElem hlt]
      have hdd := hwd w[i] (List.getElem_mem hlt)
      have hnext := ih (i + 1) (by omega) (by omega)
      have hv : val (w.take (i + 1)) * x.natAbs = 10 * (val (w.take i) * x.natAbs) + (w[i].toNat - 48) * x.natAbs := by
        rw [List.take_succ_eq_append_getElem hlt, val_snoc, Nat.add_mul, Nat.mul_assoc]
      rw [hv] at hnext
      have hbig : ∀ j, j ≤ 10 → (decDigits (10 * (val (w.take i) * x.natAbs) + j * x.natAbs)).length ≤ 5000 := by
        intro j hj
        have e : 10 * (val (w.take i) * x.natAbs) + j * x.natAbs = (10 * val (w.take i) + j) * x.natAbs := by rw [Nat.add_mul, Nat.mul_assoc]
        rw [e]
        have h1 := vt i (by omega)
        have h2 : 1 ≤ 10 ^ i := Nat.one_le_pow _ _ (by decide)
        refine Nat.le_trans (dec_mul (k := i + 2) (l := nl x) (by omega) ?_ hvx) (by omega)
        rw [Nat.pow_succ, Nat.pow_succ]
        generalize 10 ^ i = p at *
        omega
      have hin := product_inner x y w i (w[i].toNat - 48) hx hlt hw (by rw [hm]) (by rw [hm]; exact hdd) (10 * (val (w.take i) * x.natAbs)) hbig _ hnext _ 0 (Nat.le_refl _) (by omega)
      rw [Nat.zero_mul, Nat.add_zero] at hin
      have hz : Dig (decDigits (val (w.take i) * x.natAbs) ++ [48]) := fun c hc => by
        rcases List.mem_append.mp hc with hc | hc
        · exact dig_decDigits _ c hc
        · simp at hc; subst hc; decide
      have hbare := bare_ev _ hz (by simp; omega)
      rw [val_snoc, val_decDigits] at hbare
      have e48 : (48 : UInt8).toNat - 48 = 0 := by decide
      rw [e48, Nat.add_zero] at hbare
      refine Ev.step (fun k => ?_) (Ev.bind (f := fun k t => K.reredosref01_product.l1 k (numS x) (numS y) t (BA w) (i : Int) 0) hbare hin)
      simp only [K.reredosref01_product.l0]
      rw [ba_size, if_pos (by omega), ba_size, if_pos (by omega), show (⟨#[48]⟩ : ByteArray) = BA [48] from rfl, ba_append]
theorem product_ev (x y : Int) (hx : nl x ≤ 1000) (hy : nl y ≤ 1000) : Ev (fun k => K.reredosref01_product.f k (numS x) (numS y)) (numS (x * y)) := by
  have h := product_outer x y (decDigits y.natAbs) (dig_decDigits _) hx hy _ 0 (Nat.le_refl _) (by omega)
  rw [List.take_zero, val_nil, Nat.zero_mul, decDigits_zero, val_decDigits] at h
  have e : (if (decide (x < 0) != decide (y < 0)) = true then -((y.natAbs * x.natAbs : Nat) : Int) else ((y.natAbs * x.natAbs : Nat) : Int)) = x * y := by
    have hn : ((y.natAbs * x.natAbs : Nat) : Int) = (y.natAbs : Int) * (x.natAbs : Int) := by simp
    rw [hn]
    by_cases h1 : x < 0 <;> by_cases h2 : y < 0
    · rw [if_neg (by simp [h1, h2]), show (y.natAbs : Int) = -y by omega, show (x.natAbs : Int) = -x by omega, Int.neg_mul_neg, Int.mul_comm]
    · rw [if_pos (by simp [h1, h2]), show (y.natAbs : Int) = y by omega, show (x.natAbs : Int) = -x by omega, Int.mul_neg, Int.neg_neg, Int.mul_comm]
    · rw [if_pos (by simp [h1, h2]), show (y.natAbs : Int) = -y by omega, show (x.natAbs : Int) = x by omega, Int.neg_mul, Int.neg_neg, Int.mul_comm]
    · rw [if_neg (by simp [h1, h2]), show (y.natAbs : Int) = y by omega, show (x.natAbs : Int) = x by omega, Int.mul_comm]
  rw [e] at h
  refine Ev.congr (fun k => ?_) h
  unfold K.reredosref01_product.f
  rw [size_ev]
  rfl

end Go.Proofs.YtdbheoffkfmcpaaDoor.Nm
