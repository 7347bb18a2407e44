/- What the law leans on, part 27: declarations of several texts of ours, in their order. -/
import Derived.Test.YtcpaajecppplhaaGreatDoorXN23
import Derived.Test.YtcpaajecppplhaaGreatDoorXN25
section
/- Products and order of sizes in parts, and reading and telling of numbers, plainly. -/
namespace Go.Proofs.YtcpaajecppplhaaGreatDoor.Nm
open Go.Lib Go.RowKit Go.Proofs.YtcpaajecppplhaaGreatDoorW.PrintWords Go.Proofs.YtcpaajecppplhaaGreatDoorW.PrintLast Go.Proofs.YtcpaajecppplhaaGreatDoor
set_option linter.unusedVariables false
set_option linter.unusedSimpArgs false
/-! ### product -/
theorem mv_zeros (n : Nat) : mv (List.replicate n 0) = 0 := by
  induction n with
  | zero => rfl
  | succ n ih => rw [List.replicate_succ, mv, ih]
theorem pt_zeros (n : Nat) : Pt (List.replicate n 0) := fun x hx => by rw [List.eq_of_mem_replicate hx]; decide
theorem pt_set {m : List Nat} (h : Pt m) (i x : Nat) (hx : x < 1000000000) : Pt (m.set i x) := fun y hy => by
  rcases List.mem_or_eq_of_mem_set hy with h1 | h1
  · exact h y h1
  · rw [h1]; exact hx
theorem mv_set (m : List Nat) (i x : Nat) (hi : i < m.length) : mv (m.set i x) + m.getD i 0 * 1000000000 ^ i = mv m + x * 1000000000 ^ i := by
  induction m generalizing i with
  | nil => simp at hi
  | cons y l ih =>
    cases i with
    | zero =>
      rw [List.set_cons_zero, mv, mv]
      simp
      omega
    | succ i =>
      have h := ih i (by simpa using hi)
      have e : (y :: l).getD (i + 1) 0 = l.getD i 0 := by simp [List.getD]
      rw [List.set_cons_succ, mv, mv, e, Nat.pow_succ, ← Nat.mul_assoc, ← Nat.mul_assoc]
      generalize l.getD i 0 * 1000000000 ^ i = q1 at *
      generalize x * 1000000000 ^ i = q2 at *
      omega
theorem prod_inner (b m0 : List Nat) (x S i L : Nat) (a : List Nat) (hb : Pt b) (hx : x < 1000000000) (hlb : b.length ≤ 100000) (hi : i ≤ 100000) (hL : i + b.length + 1 ≤ L) (hLL : L ≤ 300000) (r : List Int)
    (hS : S + x * mv b * 1000000000 ^ i < 1000000000 ^ (i + b.length + 1))
    (hk : ∀ m : List Nat, Pt m → m.length = L → mv m = S + x * mv b * 1000000000 ^ i → Ev (fun k => K.num_product.l0 k (il b) (il m) (il a) (a.length : Int) ((i + 1 : Nat) : Int)) r) :
    ∀ (d j : Nat) (m : List Nat) (c : Nat), b.length + 1 - j ≤ d → j ≤ b.length + 1 → Pt m → m.length = L → c < 1000000000 → mv m + c * 1000000000 ^ (i + j) = S + x * (mv b % 1000000000 ^ j) * 1000000000 ^ i →
    Ev (fun k => K.num_product.l1 k (il b) (il m) (i : Int) (x : Int) (c : Int) (il a) (a.length : Int) (i : Int) ((b.length + 1 : Nat) : Int) (j : Int)) r
  | 0, j, m, c, h0, hj, hm, hml, hc, hv => by
    have hjj : j = b.length + 1 := by omega
    have hB : mv b < 1000000000 ^ j := Nat.lt_of_lt_of_le (mv_lt b hb) (Nat.pow_le_pow_right (by decide) (by omega))
    rw [Nat.mod_eq_of_lt hB] at hv
    have hc0 : c = 0 := by
      rcases Nat.eq_zero_or_pos c with h | h
      · exact h
      · exfalso
        rw [hjj, ← Nat.add_assoc] at hv
        have : 1 * 1000000000 ^ (i + b.length + 1) ≤ c * 1000000000 ^ (i + b.length + 1) := Nat.mul_le_mul_right _ h
        omega
    subst hc0
    refine Ev.step (fun k => ?_) (hk m hm hml (by omega))
    simp only [K.num_product.l1]
    rw [if_neg (by omega), w64 (by omega) (by omega)]
    rfl
  | d + 1, j, m, c, h0, hj, hm, hml, hc, hv => by
    by_cases hlast : j = b.length + 1
    · exact prod_inner b m0 x S i L a hb hx hlb hi hL hLL r hS hk 0 j m c (by omega) hj hm hml hc hv
    · obtain ⟨y, hy⟩ : ∃ y, y = mv b / 1000000000 ^ j % 1000000000 := ⟨_, rfl⟩
      have hy9 : y < 1000000000 := by rw [hy]; exact Nat.mod_lt _ (by decide)
      obtain ⟨e, he⟩ : ∃ e, e = m.getD (i + j) 0 := ⟨_, rfl⟩
      have he9 : e < 1000000000 := by rw [he, part m hm]; exact Nat.mod_lt _ (by decide)
      have hxy : x * y ≤ 999999999 * 999999999 := Nat.mul_le_mul (by omega) (by omega)
      obtain ⟨n, hn⟩ : ∃ n, n = e + x * y + c := ⟨_, rfl⟩
      have hn18 : n < 1000000000 * 1000000000 := by omega
      have hstep := prod_inner b m0 x S i L a hb hx hlb hi hL hLL r hS hk d (j + 1) (m.set (i + j) (n % 1000000000)) (n / 1000000000) (by omega) (by omega) (pt_set hm _ _ (Nat.mod_lt _ (by decide))) (by simp [hml]) (by omega) (by
        have h1 := mv_set m (i + j) (n % 1000000000) (by omega)
        rw [← he] at h1
        have h2 := Nat.mod_add_div n 1000000000
        have h3 : n % 1000000000 * 1000000000 ^ (i + j) + n / 1000000000 * 1000000000 ^ (i + (j + 1)) = n * 1000000000 ^ (i + j) := by
          rw [← Nat.add_assoc, Nat.pow_succ, Nat.mul_comm (1000000000 ^ (i + j)) 1000000000, ← Nat.mul_assoc, ← Nat.add_mul]
          congr 1
          omega
        have h4 : x * (mv b % 1000000000 ^ (j + 1)) * 1000000000 ^ i = x * (mv b % 1000000000 ^ j) * 1000000000 ^ i + x * y * 1000000000 ^ (i + j) := by
          rw [low_stepB, ← hy, Nat.mul_add, Nat.add_mul, Nat.pow_add, Nat.mul_comm (1000000000 ^ j) y, ← Nat.mul_assoc x y, Nat.mul_assoc (x * y), Nat.mul_comm (1000000000 ^ j) (1000000000 ^ i)]
        have h5 : n * 1000000000 ^ (i + j) = e * 1000000000 ^ (i + j) + x * y * 1000000000 ^ (i + j) + c * 1000000000 ^ (i + j) := by rw [hn, Nat.add_mul, Nat.add_mul]
        rw [h4]
        generalize 1000000000 ^ (i + (j + 1)) = P1 at *
        generalize e * 1000000000 ^ (i + j) = q1 at *
        generalize x * y * 1000000000 ^ (i + j) = q2 at *
        generalize c * 1000000000 ^ (i + j) = q3 at *
        generalize n % 1000000000 * 1000000000 ^ (i + j) = q4 at *
        generalize n * 1000000000 ^ (i + j) = q5 at *
        generalize x * (mv b % 1000000000 ^ j) * 1000000000 ^ i = q6 at *
        generalize n / 1000000000 * P1 = q7 at *
        omega)
      refine Ev.step (fun k => ?_) hstep
      simp only [K.num_product.l1]
      rw [if_pos (by omega), w64 (x := (i : Int) + (j : Int)) (by omega) (by omega), show ((i : Int) + (j : Int)) = ((i + j : Nat) : Int) by omega, if_pos (by omega), il_len, if_pos (by omega), at_ev, part b hb j, ← hy, rd_il, ← he]
      simp only [Option.bind_some]
      rw [show ((x : Int) * (y : Int)) = ((x * y : Nat) : Int) by simp, uw _ (by omega), show ((e : Int) + ((x * y : Nat) : Int)) = ((e + x * y : Nat) : Int) by omega, uw _ (by omega), show (((e + x * y : Nat) : Int) + (c : Int)) = (n : Int) by omega, uw _ (by omega), show (1000000000 : Int) = ((1000000000 : Nat) : Int) from rfl, tmod_nat, tdiv_nat, uw _ (by omega), w64 (by omega) (by omega), Int.toNat_natCast, il_set]
      rfl
theorem prod_outer (a b : List Nat) (L : Nat) (ha : Pt a) (hb : Pt b) (hla : a.length ≤ 100000) (hlb : b.length ≤ 100000) (hL : L = a.length + b.length + 1) : ∀ (d i : Nat) (m : List Nat), a.length - i ≤ d → i ≤ a.length → Pt m → m.length = L → mv m = mv a % 1000000000 ^ i * mv b →
    Ev (fun k => K.num_product.l0 k (il b) (il m) (il a) (a.length : Int) (i : Int)) (il (mg (mv a * mv b))) := by
  intro d
  induction d with
  | zero =>
    intro i m h0 hi hm hml hv
    have hii : i = a.length := by omega
    rw [hii, Nat.mod_eq_of_lt (mv_lt a ha)] at hv
    refine Ev.step (fun k => ?_) (Ev.bind (f := fun k t => some t) (trimM_ev m (by omega) hm) (by rw [hv]; exact Ev.now _))
    simp only [K.num_product.l0]
    rw [if_neg (by omega)]
  | succ d ih =>
    intro i m h0 hi hm hml hv
    by_cases hl : i = a.length
    · rw [hl, Nat.mod_eq_of_lt (mv_lt a ha)] at hv
      refine Ev.step (fun k => ?_) (Ev.bind (f := fun k t => some t) (trimM_ev m (by omega) hm) (by rw [hv]; exact Ev.now _))
      simp only [K.num_product.l0]
      rw [if_neg (by omega)]
    · obtain ⟨x, hx⟩ : ∃ x, x = mv a / 1000000000 ^ i % 1000000000 := ⟨_, rfl⟩
      have hx9 : x < 1000000000 := by rw [hx]; exact Nat.mod_lt _ (by decide)
      have hnext : mv a % 1000000000 ^ (i + 1) * mv b = mv a % 1000000000 ^ i * mv b + x * mv b * 1000000000 ^ i := by
        rw [low_stepB, ← hx, Nat.add_mul, Nat.mul_comm (1000000000 ^ i) x, Nat.mul_assoc x, Nat.mul_comm (1000000000 ^ i), ← Nat.mul_assoc x]
      have hin := prod_inner b m x (mv a % 1000000000 ^ i * mv b) i L a hb hx9 hlb (by omega) (by omega) (by omega) (il (mg (mv a * mv b))) (by
          rw [← hnext, show 1000000000 ^ (i + b.length + 1) = 1000000000 ^ (i + 1) * 1000000000 ^ b.length from by rw [← Nat.pow_add]; congr 1; omega]
          exact Nat.mul_lt_mul'' (Nat.mod_lt _ (show 0 < 1000000000 ^ (i + 1) from Nat.pow_pos (by decide))) (mv_lt b hb)) (fun m' hm' hml' hv' => ih (i + 1) m' (by omega) (by omega) hm' hml' (by rw [hv', hnext])) _ 0 m 0 (Nat.le_refl _) (by omega) hm hml (by decide) (by rw [hv]; simp [Nat.mod_one])
      refine Ev.step (fun k => ?_) hin
      simp only [K.num_product.l0]
      rw [if_pos (by omega), if_pos (by omega), il_len, if_pos (by omega), rd_il, part a ha i, ← hx, il_len, w64 (by omega) (by omega)]
      rfl
theorem prodM_ev (a b : List Nat) (ha : Pt a) (hb : Pt b) (hla : a.length ≤ 100000) (hlb : b.length ≤ 100000) : Ev (fun k => K.num_product.f k (il a) (il b)) (il (mg (mv a * mv b))) := by
  have h := prod_outer a b _ ha hb hla hlb rfl _ 0 (List.replicate (a.length + b.length + 1) 0) (Nat.le_refl _) (by omega) (pt_zeros _) (by simp) (by rw [mv_zeros]; simp [Nat.mod_one])
  refine Ev.congr (fun k => ?_) h
  unfold K.num_product.f
  rw [il_len, il_len, w64 (x := (a.length : Int) + (b.length : Int)) (by omega) (by omega), w64 (by omega) (by omega), if_pos (by omega), show ((a.length : Int) + (b.length : Int) + 1) = ((a.length + b.length + 1 : Nat) : Int) by omega, Int.toNat_natCast, if_pos (by omega)]
  congr 1
  simp [il]
theorem timesM_ev (a : List Nat) (x : Nat) (ha : Pt a) (hx : x < 1000000000) (hla : a.length ≤ 100000) : Ev (fun k => K.num_times.f k (il a) (x : Int)) (il (mg (mv a * x))) := by
  have h1 := trimM_ev [x] (by simp) (pt_one hx)
  have e : mv [x] = x := by simp [mv]
  rw [e] at h1
  have hl : (mg x).length ≤ 1 := by
    by_cases h : x = 0
    · subst h; rw [mg_zero]; simp
    · rw [mg_pos h, Nat.div_eq_of_lt hx, mg_zero]; simp
  have h2 := prodM_ev a (mg x) ha (pt_mg x) hla (by omega)
  rw [mv_mg] at h2
  unfold K.num_times.f
  exact Ev.bind h1 (Ev.bind h2 (Ev.now _))
/-! ### compare -/
theorem cmpI_nat (x y : Nat) : Hd.cmpI (x : Int) (y : Int) = cmpN x y := by
  unfold Hd.cmpI cmpN
  by_cases h1 : x < y
  · rw [if_pos (by omega), if_pos h1]
  · rw [if_neg (by omega), if_neg h1]
    by_cases h2 : y < x
    · rw [if_pos (by omega), if_pos h2]
    · rw [if_neg (by omega), if_neg h2]
theorem cmpN_zero (x y : Nat) : cmpN x y = 0 ↔ x = y := by
  unfold cmpN
  split
  · constructor <;> omega
  · split <;> constructor <;> omega
theorem cmpTop_mv (a b : List Nat) (ha : Pt a) (hb : Pt b) : ∀ n, Hd.cmpTop (il a) (il b) n = cmpN (mv a % 1000000000 ^ n) (mv b % 1000000000 ^ n)
  | 0 => by simp [Hd.cmpTop, cmpN, Nat.mod_one]
  | n + 1 => by
    unfold Hd.cmpTop
    rw [il_getD, il_getD, cmpI_nat, part a ha n, part b hb n, low_stepB, low_stepB]
    have h1 : mv a % 1000000000 ^ n < 1000000000 ^ n := Nat.mod_lt _ (Nat.pow_pos (by decide))
    have h2 : mv b % 1000000000 ^ n < 1000000000 ^ n := Nat.mod_lt _ (Nat.pow_pos (by decide))
    have ih := cmpTop_mv a b ha hb n
    generalize mv a / 1000000000 ^ n % 1000000000 = x at *
    generalize mv b / 1000000000 ^ n % 1000000000 = y at *
    by_cases hxy : x = y
    · rw [if_pos ((cmpN_zero x y).mpr hxy), ih, hxy]
      unfold cmpN
      generalize 1000000000 ^ n * y = q
      split <;> split <;> (try split) <;> (try split) <;> omega
    · rw [if_neg (fun e => hxy ((cmpN_zero x y).mp e))]
      rcases Nat.lt_or_ge x y with h | h
      · have h3 : 1000000000 ^ n * (x + 1) ≤ 1000000000 ^ n * y := Nat.mul_le_mul_left _ h
        rw [Nat.mul_add] at h3
        unfold cmpN
        rw [if_pos h, if_pos (by omega)]
      · have h3 : 1000000000 ^ n * (y + 1) ≤ 1000000000 ^ n * x := Nat.mul_le_mul_left _ (by omega)
        rw [Nat.mul_add] at h3
        unfold cmpN
        rw [if_neg (by omega), if_pos (by omega), if_neg (by omega), if_pos (by omega)]
theorem mg_low {n : Nat} (h : n ≠ 0) : 1000000000 ^ ((mg n).length - 1) ≤ n := by
  have hl := mg_last n
  have hne : mg n ≠ [] := fun e => h (mg_nil.mp e)
  obtain ⟨p, x, e⟩ : ∃ p x, mg n = p ++ [x] := ⟨(mg n).dropLast, (mg n).getLast hne, (List.dropLast_concat_getLast hne).symm⟩
  have hx := hl p x e
  have hv := mv_mg n
  rw [e, mv_snoc] at hv
  rw [e]
  simp only [List.length_append, List.length_cons, List.length_nil, Nat.zero_add, Nat.add_sub_cancel]
  have : 1000000000 ^ p.length * 1 ≤ 1000000000 ^ p.length * x := Nat.mul_le_mul_left _ (by omega)
  omega
theorem mg_len_lt {x y : Nat} (h : (mg x).length < (mg y).length) : x < y := by
  have hy : y ≠ 0 := fun e => by rw [e, mg_zero] at h; simp at h
  have h1 := mv_lt (mg x) (pt_mg x)
  rw [mv_mg] at h1
  exact Nat.lt_of_lt_of_le h1 (Nat.le_trans (Nat.pow_le_pow_right (by decide) (by omega)) (mg_low hy))
theorem compare_ev (x y : Nat) : Hd.compare.f (il (mg x)) (il (mg y)) = some (cmpN x y) := by
  unfold Hd.compare.f
  rw [il_len, il_len, cmpI_nat]
  by_cases h : (mg x).length = (mg y).length
  · rw [if_pos ((cmpN_zero _ _).mpr h), cmpTop_mv _ _ (pt_mg x) (pt_mg y), mv_mg, mv_mg]
    have h1 := mv_lt (mg x) (pt_mg x)
    have h2 := mv_lt (mg y) (pt_mg y)
    rw [mv_mg] at h1 h2
    rw [Nat.mod_eq_of_lt h1, Nat.mod_eq_of_lt (by rw [h]; exact h2)]
  · rw [if_neg (fun e => h ((cmpN_zero _ _).mp e))]
    rcases Nat.lt_or_ge (mg x).length (mg y).length with h1 | h1
    · have h2 := mg_len_lt h1
      unfold cmpN
      rw [if_pos h1, if_pos h2]
    · have h2 := mg_len_lt (x := y) (y := x) (by omega)
      unfold cmpN
      rw [if_neg (by omega), if_pos (by omega), if_neg (by omega), if_pos h2]
end Go.Proofs.YtcpaajecppplhaaGreatDoor.Nm
end
