/- What the law leans on, part 24: declarations of several texts of ours, in their order. -/
import Derived.Test.YtcpaajecppplhaaGreatDoorXN22
import Derived.Test.YtcpaajecppplhaaGreatDoorXN20
section
/- Sizes in parts of nine figures, plainly: trim, sum, less, product, compare come to the numbers' own sum, difference, product, order. -/
namespace Go.Proofs.YtcpaajecppplhaaGreatDoor.Nm
open Go.Lib Go.RowKit Go.Proofs.YtcpaajecppplhaaGreatDoorW.PrintWords Go.Proofs.YtcpaajecppplhaaGreatDoorW.PrintLast Go.Proofs.YtcpaajecppplhaaGreatDoor
set_option linter.unusedVariables false
set_option linter.unusedSimpArgs false
def il (m : List Nat) : List Int := m.map (fun x : Nat => (x : Int))
theorem il_len (m : List Nat) : (il m).length = m.length := by simp [il]
theorem il_getD (m : List Nat) (i : Nat) : (il m).getD i 0 = ((m.getD i 0 : Nat) : Int) := by
  unfold il
  simp only [List.getD_eq_getElem?_getD, List.getElem?_map]
  cases m[i]? <;> rfl
theorem il_append (a b : List Nat) : il (a ++ b) = il a ++ il b := by simp [il]
theorem il_set (m : List Nat) (i x : Nat) : il (m.set i x) = (il m).set i (x : Int) := by simp [il, List.map_set]
theorem il_take (m : List Nat) (i : Nat) : il (m.take i) = (il m).take i := by simp [il]
theorem rd_il (m : List Nat) (i : Nat) : rd (il m) (i : Int) = ((m.getD i 0 : Nat) : Int) := by rw [← il_getD]; simp [rd]
def mv : List Nat → Nat
  | [] => 0
  | x :: l => x + 1000000000 * mv l
def Pt (m : List Nat) : Prop := ∀ x ∈ m, x < 1000000000
theorem mv_append (a b : List Nat) : mv (a ++ b) = mv a + 1000000000 ^ a.length * mv b := by
  induction a with
  | nil => simp [mv]
  | cons x l ih =>
    rw [List.cons_append, mv, ih, mv, List.length_cons, Nat.pow_succ, Nat.mul_add, Nat.mul_comm (1000000000 ^ l.length) 1000000000, Nat.mul_assoc]
    omega
theorem mv_snoc (a : List Nat) (x : Nat) : mv (a ++ [x]) = mv a + 1000000000 ^ a.length * x := by rw [mv_append]; simp [mv]
theorem mv_lt (m : List Nat) (h : Pt m) : mv m < 1000000000 ^ m.length := by
  induction m with
  | nil => simp [mv]
  | cons x l ih =>
    have h1 := ih (fun y hy => h y (by simp [hy]))
    have h2 := h x (by simp)
    rw [mv, List.length_cons, Nat.pow_succ]
    generalize 1000000000 ^ l.length = p at *
    omega
theorem pt_append {a b : List Nat} (ha : Pt a) (hb : Pt b) : Pt (a ++ b) := fun x hx => by
  rcases List.mem_append.mp hx with h | h
  · exact ha x h
  · exact hb x h
theorem pt_one {x : Nat} (h : x < 1000000000) : Pt [x] := fun y hy => by simp at hy; omega
/-- part i -/
theorem part (m : List Nat) (h : Pt m) (i : Nat) : m.getD i 0 = mv m / 1000000000 ^ i % 1000000000 := by
  induction m generalizing i with
  | nil => simp [mv]
  | cons x l ih =>
    have hl : Pt l := fun y hy => h y (by simp [hy])
    have hx := h x (by simp)
    cases i with
    | zero =>
      rw [mv, Nat.pow_zero, Nat.div_one]
      simp
      omega
    | succ i =>
      have e : (x :: l).getD (i + 1) 0 = l.getD i 0 := by simp [List.getD]
      rw [e, ih hl i, mv, Nat.pow_succ, Nat.mul_comm (1000000000 ^ i) 1000000000, ← Nat.div_div_eq_div_mul]
      congr 2
      omega
/-- a number's parts -/
def mg (n : Nat) : List Nat := if h : n = 0 then [] else n % 1000000000 :: mg (n / 1000000000)
termination_by n
decreasing_by exact Nat.div_lt_self (by omega) (by decide)
theorem mg_zero : mg 0 = [] := by rw [mg, dif_pos rfl]
theorem mg_pos {n : Nat} (h : n ≠ 0) : mg n = n % 1000000000 :: mg (n / 1000000000) := by rw [mg, dif_neg h]
theorem mg_nil {n : Nat} : mg n = [] ↔ n = 0 := by
  constructor
  · intro h
    by_cases h0 : n = 0
    · exact h0
    · rw [mg_pos h0] at h; cases h
  · rintro rfl; exact mg_zero
theorem mv_mg (n : Nat) : mv (mg n) = n := by
  induction n using Nat.strongRecOn with
  | _ n ih =>
    by_cases h : n = 0
    · subst h; rw [mg_zero]; rfl
    · rw [mg_pos h, mv, ih _ (Nat.div_lt_self (by omega) (by decide))]
      omega
theorem pt_mg (n : Nat) : Pt (mg n) := by
  induction n using Nat.strongRecOn with
  | _ n ih =>
    by_cases h : n = 0
    · subst h; rw [mg_zero]; intro x hx; cases hx
    · rw [mg_pos h]
      intro x hx
      rcases List.mem_cons.mp hx with rfl | hx
      · exact Nat.mod_lt _ (by decide)
      · exact ih _ (Nat.div_lt_self (by omega) (by decide)) x hx
theorem mv_pos {m : List Nat} (h : ∀ p x, m = p ++ [x] → x ≠ 0) (hne : m ≠ []) : 0 < mv m := by
  obtain ⟨p, x, rfl⟩ : ∃ p x, m = p ++ [x] := ⟨m.dropLast, m.getLast hne, (List.dropLast_concat_getLast hne).symm⟩
  rw [mv_snoc]
  have := h p x rfl
  have : 0 < 1000000000 ^ p.length * x := Nat.mul_pos (Nat.pow_pos (by decide)) (by omega)
  omega
theorem canonM (m : List Nat) (hp : Pt m) (h : ∀ p x, m = p ++ [x] → x ≠ 0) : mg (mv m) = m := by
  induction m with
  | nil => exact mg_zero
  | cons x l ih =>
    have hl : Pt l := fun y hy => hp y (by simp [hy])
    have hx := hp x (by simp)
    have h' : ∀ p y, l = p ++ [y] → y ≠ 0 := fun p y e => h (x :: p) y (by rw [e]; rfl)
    have hpos := mv_pos h (by simp)
    rw [mg_pos (by omega)]
    rw [mv]
    congr 1
    · omega
    · rw [show (x + 1000000000 * mv l) / 1000000000 = mv l by omega]
      exact ih hl h'
theorem mg_last (n : Nat) : ∀ p x, mg n = p ++ [x] → x ≠ 0 := by
  induction n using Nat.strongRecOn with
  | _ n ih =>
    intro p x e
    by_cases h : n = 0
    · subst h; rw [mg_zero] at e; simp at e
    · rw [mg_pos h] at e
      cases p with
      | nil =>
        simp only [List.nil_append, List.cons.injEq] at e
        have h1 := mg_nil.mp e.2
        have h2 := e.1
        omega
      | cons y q =>
        simp only [List.cons_append, List.cons.injEq] at e
        exact ih _ (Nat.div_lt_self (by omega) (by decide)) q x e.2
/-! ### trim, at -/
theorem trim_loop : ∀ (d : Nat) (m : List Nat), m.length ≤ d → d ≤ 1000000000 → Pt m → Ev (fun k => K.num_trim.l0 k (il m)) (il (mg (mv m)))
  | 0, m, h, _, hp => by
    have : m = [] := List.length_eq_zero_iff.mp (by omega)
    subst this
    refine Ev.step (f := fun _ => some (il [])) (fun k => ?_) (by rw [mv, mg_zero]; exact Ev.now _)
    simp only [K.num_trim.l0]
    rw [if_neg (by simp [il])]
  | d + 1, m, h, hd, hp => by
    by_cases hne : m = []
    · subst hne
      exact trim_loop 0 [] (by simp) (by omega) hp
    · obtain ⟨p, x, rfl⟩ : ∃ p x, m = p ++ [x] := ⟨m.dropLast, m.getLast hne, (List.dropLast_concat_getLast hne).symm⟩
      have hlen : ((il (p ++ [x])).length : Int) = (p.length : Int) + 1 := by rw [il_len]; simp
      have hw : wrap64 ((p.length : Int) + 1 - 1) = (p.length : Int) := by simp at h; rw [w64 (by omega) (by omega)]; omega
      have hg : (p ++ [x]).getD p.length 0 = x := by simp [List.getD]
      by_cases hx : x = 0
      · subst hx
        have ih := trim_loop d p (by simp at h; omega) (by omega) (fun y hy => hp y (by simp [hy]))
        rw [mv_snoc, Nat.mul_zero, Nat.add_zero]
        refine Ev.step (fun k => ?_) ih
        simp only [K.num_trim.l0]
        rw [hlen, hw, if_pos (by omega), if_pos (by omega), if_pos (by omega), rd_il, hg, if_pos (by rfl), if_pos (by omega), Int.toNat_natCast, ← il_take, List.take_left]
      · rw [canonM _ hp (fun q y e => by have := List.append_inj' e rfl; simp at this; rw [← this.2]; exact hx)]
        refine Ev.step (f := fun _ => some (il (p ++ [x]))) (fun k => ?_) (Ev.now _)
        simp only [K.num_trim.l0]
        rw [hlen, hw, if_pos (by omega), if_pos (by omega), if_pos (by omega), rd_il, hg, if_neg (by omega)]
theorem trimM_ev (m : List Nat) (hl : m.length ≤ 1000000000) (hp : Pt m) : Ev (fun k => K.num_trim.f k (il m)) (il (mg (mv m))) := trim_loop _ m (Nat.le_refl _) hl hp
theorem at_ev (m : List Nat) (i : Nat) : K.num_mag_at.f (il m) (i : Int) = some ((m.getD i 0 : Nat) : Int) := by
  unfold K.num_mag_at.f
  rw [il_len]
  by_cases h : i < m.length
  · rw [if_pos (by omega), if_pos (by omega), rd_il]
  · rw [if_neg (by omega)]
    simp [List.getD, List.getElem?_eq_none (Nat.not_lt.mp h)]
theorem uw (n : Nat) (h : n < 18446744073709551616) : IntKind.u64.wrap (n : Int) = (n : Int) := by rw [IntKind.wrap_u64]; omega
/-! ### sum -/
theorem low_stepB (A i : Nat) : A % 1000000000 ^ (i + 1) = A % 1000000000 ^ i + 1000000000 ^ i * (A / 1000000000 ^ i % 1000000000) := Nat.mod_pow_succ
theorem sumM_loop (a b : List Nat) (ha : Pt a) (hb : Pt b) (hla : a.length ≤ 100000) (hlb : b.length ≤ 100000) : ∀ (d i : Nat) (m : List Nat) (c : Nat), max a.length b.length + 1 - i ≤ d → i ≤ max a.length b.length + 1 → Pt m → m.length = i → c ≤ 1 → mv m + c * 1000000000 ^ i = mv a % 1000000000 ^ i + mv b % 1000000000 ^ i →
    Ev (fun k => K.num_sum.l0 k (il a) (il b) (il m) (c : Int) ((max a.length b.length + 1 : Nat) : Int) (i : Int)) (il (mg (mv a + mv b)))
  | 0, i, m, c, h0, hi, hm, hml, hc, hv => by
    have hii : i = max a.length b.length + 1 := by omega
    have hA : mv a < 1000000000 ^ max a.length b.length := Nat.lt_of_lt_of_le (mv_lt a ha) (Nat.pow_le_pow_right (by decide) (by omega))
    have hB : mv b < 1000000000 ^ max a.length b.length := Nat.lt_of_lt_of_le (mv_lt b hb) (Nat.pow_le_pow_right (by decide) (by omega))
    have hp : 1000000000 ^ i = 1000000000 ^ max a.length b.length * 1000000000 := by rw [hii, Nat.pow_succ]
    have hle : 1000000000 ^ max a.length b.length ≤ 1000000000 ^ i := by rw [hp]; omega
    have hc0 : c = 0 := by
      rcases Nat.lt_or_ge c 1 with h | h
      · omega
      · have : c = 1 := by omega
        subst this
        rw [Nat.mod_eq_of_lt (by omega), Nat.mod_eq_of_lt (by omega)] at hv
        omega
    subst hc0
    rw [Nat.mod_eq_of_lt (by omega), Nat.mod_eq_of_lt (by omega)] at hv
    have hvm : mv m = mv a + mv b := by omega
    refine Ev.step (fun k => ?_) (Ev.bind (f := fun k t => some t) (trimM_ev m (by omega) hm) (by rw [hvm]; exact Ev.now _))
    simp only [K.num_sum.l0]
    rw [if_neg (by omega)]
  | d + 1, i, m, c, h0, hi, hm, hml, hc, hv => by
    by_cases hlast : i = max a.length b.length + 1
    · exact sumM_loop a b ha hb hla hlb 0 i m c (by omega) hi hm hml hc hv
    · obtain ⟨x, hx⟩ : ∃ x, x = mv a / 1000000000 ^ i % 1000000000 := ⟨_, rfl⟩
      obtain ⟨y, hy⟩ : ∃ y, y = mv b / 1000000000 ^ i % 1000000000 := ⟨_, rfl⟩
      have hx9 : x < 1000000000 := by rw [hx]; exact Nat.mod_lt _ (by decide)
      have hy9 : y < 1000000000 := by rw [hy]; exact Nat.mod_lt _ (by decide)
      have hstep := sumM_loop a b ha hb hla hlb d (i + 1) (m ++ [(x + y + c) % 1000000000]) ((x + y + c) / 1000000000) (by omega) (by omega) (pt_append hm (pt_one (Nat.mod_lt _ (by decide)))) (by simp [hml]) (by omega) (by
        rw [mv_snoc, hml, low_stepB, low_stepB, ← hx, ← hy, Nat.pow_succ]
        have e : 1000000000 ^ i * ((x + y + c) % 1000000000) + (x + y + c) / 1000000000 * (1000000000 ^ i * 1000000000) = (x + y + c) * 1000000000 ^ i := by
          have h1 := Nat.mod_add_div (x + y + c) 1000000000
          rw [Nat.mul_comm ((x + y + c) / 1000000000), Nat.mul_assoc, ← Nat.mul_add, h1, Nat.mul_comm]
        rw [Nat.add_mul, Nat.add_mul, Nat.mul_comm x, Nat.mul_comm y] at e
        generalize 1000000000 ^ i * ((x + y + c) % 1000000000) = q1 at *
        generalize (x + y + c) / 1000000000 * (1000000000 ^ i * 1000000000) = q2 at *
        omega)
      refine Ev.step (fun k => ?_) hstep
      simp only [K.num_sum.l0]
      rw [if_pos (by omega), at_ev, at_ev, part a ha i, part b hb i, ← hx, ← hy]
      simp only [Option.bind_some]
      rw [il_len, if_pos (by omega), show ((x : Int) + (y : Int)) = ((x + y : Nat) : Int) by omega, uw _ (by omega), show (((x + y : Nat) : Int) + (c : Int)) = ((x + y + c : Nat) : Int) by omega, uw _ (by omega), show (1000000000 : Int) = ((1000000000 : Nat) : Int) from rfl, tmod_nat, tdiv_nat, uw _ (by omega), w64 (by omega) (by omega), il_append]
      rfl
theorem sumM_ev (a b : List Nat) (ha : Pt a) (hb : Pt b) (hla : a.length ≤ 100000) (hlb : b.length ≤ 100000) : Ev (fun k => K.num_sum.f k (il a) (il b)) (il (mg (mv a + mv b))) := by
  have h := sumM_loop a b ha hb hla hlb _ 0 [] 0 (Nat.le_refl _) (by omega) (fun _ h => by cases h) rfl (by omega) (by simp [mv, Nat.mod_one])
  refine Ev.congr (fun k => ?_) h
  unfold K.num_sum.f
  rw [il_len, il_len, mx_nat, w64 (by omega) (by omega)]
  rfl
/-! ### less -/
theorem lessM_loop (a b : List Nat) (ha : Pt a) (hb : Pt b) (hla : a.length ≤ 100000) (hle : mv b ≤ mv a) : ∀ (d i : Nat) (m : List Nat) (c : Nat), a.length - i ≤ d → i ≤ a.length → Pt m → m.length = i → c ≤ 1 → mv m + mv b % 1000000000 ^ i = mv a % 1000000000 ^ i + c * 1000000000 ^ i →
    Ev (fun k => K.num_less.l0 k (il a) (il b) (il m) (c : Int) (a.length : Int) (i : Int)) (il (mg (mv a - mv b)))
  | 0, i, m, c, h0, hi, hm, hml, hc, hv => by
    have hii : i = a.length := by omega
    have hA : mv a < 1000000000 ^ i := by rw [hii]; exact mv_lt a ha
    have hM : mv m < 1000000000 ^ i := by rw [← hml]; exact mv_lt m hm
    rw [Nat.mod_eq_of_lt (by omega), Nat.mod_eq_of_lt (by omega)] at hv
    have hc0 : c = 0 := by
      rcases Nat.lt_or_ge c 1 with h | h
      · omega
      · have : c = 1 := by omega
        subst this
        omega
    subst hc0
    have hvm : mv m = mv a - mv b := by omega
    refine Ev.step (fun k => ?_) (Ev.bind (f := fun k t => some t) (trimM_ev m (by omega) hm) (by rw [hvm]; exact Ev.now _))
    simp only [K.num_less.l0]
    rw [if_neg (by omega)]
  | d + 1, i, m, c, h0, hi, hm, hml, hc, hv => by
    by_cases hlast : i = a.length
    · exact lessM_loop a b ha hb hla hle 0 i m c (by omega) hi hm hml hc hv
    · obtain ⟨x, hx⟩ : ∃ x, x = mv a / 1000000000 ^ i % 1000000000 := ⟨_, rfl⟩
      obtain ⟨y, hy⟩ : ∃ y, y = mv b / 1000000000 ^ i % 1000000000 := ⟨_, rfl⟩
      have hx9 : x < 1000000000 := by rw [hx]; exact Nat.mod_lt _ (by decide)
      have hy9 : y < 1000000000 := by rw [hy]; exact Nat.mod_lt _ (by decide)
      obtain ⟨n, hn⟩ : ∃ n, n = x + 1000000000 - y - c := ⟨_, rfl⟩
      have hn1 : n + y + c = x + 1000000000 := by omega
      have hstep := lessM_loop a b ha hb hla hle d (i + 1) (m ++ [n % 1000000000]) (1 - n / 1000000000) (by omega) (by omega) (pt_append hm (pt_one (Nat.mod_lt _ (by decide)))) (by simp [hml]) (by omega) (by
        rw [mv_snoc, hml, low_stepB, low_stepB, ← hx, ← hy, Nat.pow_succ]
        have hq : n / 1000000000 ≤ 1 := by omega
        have e : 1000000000 ^ i * (n % 1000000000) + n / 1000000000 * (1000000000 ^ i * 1000000000) = n * 1000000000 ^ i := by
          have h1 := Nat.mod_add_div n 1000000000
          rw [Nat.mul_comm (n / 1000000000), Nat.mul_assoc, ← Nat.mul_add, h1, Nat.mul_comm]
        have e2 : (n + y + c) * 1000000000 ^ i = (x + 1000000000) * 1000000000 ^ i := by rw [hn1]
        rw [Nat.add_mul, Nat.add_mul, Nat.add_mul, Nat.mul_comm x, Nat.mul_comm y, Nat.mul_comm 1000000000] at e2
        rcases (by omega : n / 1000000000 = 0 ∨ n / 1000000000 = 1) with h1 | h1
        · rw [h1] at e ⊢
          generalize 1000000000 ^ i * (n % 1000000000) = q1 at *
          generalize n * 1000000000 ^ i = q2 at *
          generalize 1000000000 ^ i * 1000000000 = q3 at *
          generalize c * 1000000000 ^ i = q4 at *
          omega
        · rw [h1] at e ⊢
          generalize 1000000000 ^ i * (n % 1000000000) = q1 at *
          generalize n * 1000000000 ^ i = q2 at *
          generalize 1000000000 ^ i * 1000000000 = q3 at *
          generalize c * 1000000000 ^ i = q4 at *
          omega)
      refine Ev.step (fun k => ?_) hstep
      simp only [K.num_less.l0]
      rw [if_pos (by omega), if_pos (by omega), il_len, if_pos (by omega), at_ev, rd_il, part a ha i, part b hb i, ← hx, ← hy]
      simp only [Option.bind_some]
      rw [il_len, if_pos (by omega), show ((x : Int) + 1000000000) = ((x + 1000000000 : Nat) : Int) by omega, uw _ (by omega), show (((x + 1000000000 : Nat) : Int) - (y : Int)) = ((x + 1000000000 - y : Nat) : Int) by omega, uw _ (by omega), show (((x + 1000000000 - y : Nat) : Int) - (c : Int)) = (n : Int) by omega, uw _ (by omega), show (1000000000 : Int) = ((1000000000 : Nat) : Int) from rfl, tmod_nat, tdiv_nat, uw _ (by omega), show (1 - ((n / 1000000000 : Nat) : Int)) = ((1 - n / 1000000000 : Nat) : Int) by omega, uw _ (by omega), w64 (by omega) (by omega), il_append]
      rfl
theorem lessM_ev (a b : List Nat) (ha : Pt a) (hb : Pt b) (hla : a.length ≤ 100000) (hle : mv b ≤ mv a) : Ev (fun k => K.num_less.f k (il a) (il b)) (il (mg (mv a - mv b))) := by
  have h := lessM_loop a b ha hb hla hle _ 0 [] 0 (Nat.le_refl _) (by omega) (fun _ h => by cases h) rfl (by omega) (by simp [mv, Nat.mod_one])
  refine Ev.congr (fun k => ?_) h
  unfold K.num_less.f
  rw [il_len]
  rfl
end Go.Proofs.YtcpaajecppplhaaGreatDoor.Nm
end
