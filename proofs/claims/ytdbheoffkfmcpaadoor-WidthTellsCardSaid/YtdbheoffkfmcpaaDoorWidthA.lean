/- Widths, plainly: what the document and the program say of numbers and widths, at every number of 64 bits and every text. -/
import Derived.Test.YtdbheoffkfmcpaaDoorNumE
import Derived.Test.YtdbheoffkfmcpaaDoorLS1
import Derived.DataShut
namespace Go.Proofs.YtdbheoffkfmcpaaDoor.Nm
open Go.Lib Go.RowKit Go.Proofs.YtdbheoffkfmcpaaDoorW.PrintWords Go.Proofs.YtdbheoffkfmcpaaDoorW.PrintLast Go.Proofs.YtdbheoffkfmcpaaDoor
set_option linter.unusedVariables false
set_option linter.unusedSimpArgs false

instance (z : Int) : Decidable (Sm z) := by unfold Sm; exact inferInstance
def inW (z w : Int) : Bool := if w = 8 then decide (-128 ≤ z) && decide (z ≤ 127) else if w = 16 then decide (-32768 ≤ z) && decide (z ≤ 32767) else if w = 32 then decide (-2147483648 ≤ z) && decide (z ≤ 2147483647) else if w = 64 then decide (-9223372036854775808 ≤ z) && decide (z ≤ 9223372036854775807) else w == 128
theorem i64_of {x : Int} (h : (Lit.int .i64 x).wf = true) : i64P x := (Lit.wf_int_iff .i64 x).mp h
theorem told_sm {z : Int} (h : Sm z) : told z = (numS z, 0) := if_pos h
theorem in_bound (z b : Int) (hz : Sm z) (hb : Sm b) (hb1 : Sm (-b - 1)) (w : Int) (hw : K.reredosref02_bound.f w = some (numS b)) : Ev (fun k => K.reredosref02_In.f k (numS z) w) (decide (-b - 1 ≤ z) && decide (z ≤ b)) := by
  unfold K.reredosref02_In.f
  rw [hw]
  simp only [Option.bind_some]
  rw [numS_list]
  have hne : itoa b ≠ [] := by
    by_cases h : b < 0
    · rw [itoa_neg' h]; simp
    · rw [itoa_pos' h]; exact decDigits_ne _
  have h1 : numS 1 = (⟨#[49]⟩ : ByteArray) := by
    rw [numS_pos (by decide), show (1 : Int).natAbs = 1 from rfl, decDigits_one (by decide)]
    rfl
  simp only [hne, if_false]
  refine Ev.bind (neg_ev b hb) ?_
  rw [← h1]
  refine Ev.bind (sub_ev (-b) 1 (sm_neg hb) (by decide)) ?_
  rw [told_sm hb1]
  refine Ev.bind (cmp_ev z b hz hb) ?_
  by_cases h : z ≤ b
  · have : sgn (z - b) ≤ 0 := by unfold sgn; split <;> (try split) <;> omega
    simp only [this, if_true]
    refine Ev.bind (cmp_ev z (-b - 1) hz hb1) ?_
    have e : decide (sgn (z - (-b - 1)) ≥ 0) = (decide (-b - 1 ≤ z) && decide (z ≤ b)) := by
      rw [decide_eq_true h, Bool.and_true, decide_eq_decide]
      unfold sgn
      constructor
      · intro h2; split at h2 <;> omega
      · intro h2; rw [if_neg (by omega)]; split <;> decide
    rw [e]
    exact Ev.now _
  · have : ¬ sgn (z - b) ≤ 0 := by unfold sgn; rw [if_neg (by omega), if_neg (by omega)]; decide
    simp only [this, if_false]
    rw [decide_eq_false h, Bool.and_false]
    exact Ev.now _
theorem canonS (n : Nat) (l : List UInt8) (hd : l.all digB = true) (hv : val l = n) (hh : (l.headD 0).toNat ≠ 48) (hne : l ≠ []) : BA l = numS (n : Int) := by
  rw [numS_pos (by omega), Int.natAbs_natCast, ← hv, canon l ((all_dig l).mp hd) (fun c r e => by rw [e] at hh; exact hh) hne]
theorem in_ev (z w : Int) (hz : Sm z) : Ev (fun k => K.reredosref02_In.f k (numS z) w) (inW z w) := by
  unfold inW
  by_cases h8 : w = 8
  · subst h8
    exact in_bound z 127 hz (by decide) (by decide) 8 (by unfold K.reredosref02_bound.f; rw [if_pos rfl]; exact congrArg some (canonS 127 [49, 50, 55] (by decide) (by decide) (by decide) (by simp)))
  rw [if_neg h8]
  by_cases h16 : w = 16
  · subst h16
    exact in_bound z 32767 hz (by decide) (by decide) 16 (by unfold K.reredosref02_bound.f; rw [if_neg (by decide), if_pos rfl]; exact congrArg some (canonS 32767 [51, 50, 55, 54, 55] (by decide) (by decide) (by decide) (by simp)))
  rw [if_neg h16]
  by_cases h32 : w = 32
  · subst h32
    exact in_bound z 2147483647 hz (by decide) (by decide) 32 (by unfold K.reredosref02_bound.f; rw [if_neg (by decide), if_neg (by decide), if_pos rfl]; exact congrArg some (canonS 2147483647 [50, 49, 52, 55, 52, 56, 51, 54, 52, 55] (by decide) (by decide) (by decide) (by simp)))
  rw [if_neg h32]
  by_cases h64 : w = 64
  · subst h64
    exact in_bound z 9223372036854775807 hz (sm_i64 (by decide) (by decide)) (sm_i64 (by decide) (by decide)) 64 (by unfold K.reredosref02_bound.f; rw [if_neg (by decide), if_neg (by decide), if_neg (by decide), if_pos rfl]; exact congrArg some (canonS 9223372036854775807 [57, 50, 50, 51, 51, 55, 50, 48, 51, 54, 56, 53, 52, 55, 55, 53, 56, 48, 55] (by decide) (by decide) (by decide) (by simp)))
  rw [if_neg h64]
  unfold K.reredosref02_In.f K.reredosref02_bound.f
  rw [if_neg h8, if_neg h16, if_neg h32, if_neg h64]
  simp only [Option.bind_some]
  rw [show (⟨#[]⟩ : ByteArray) = BA [] from rfl, ba_list]
  simp only [if_true]
  exact Ev.now _
theorem fits_in {z : Int} (h : i64P z) (w : Int) : Hd.fitsW z w = inW z w := by
  have h1 := h.1
  have h2 := h.2
  unfold Hd.fitsW inW
  by_cases h64 : w = 64
  · subst h64
    simp [h1, h2]
  rw [if_neg h64, if_neg h64]
  by_cases h128 : w = 128
  · subst h128
    simp
  rw [if_neg h128]
  by_cases h8 : w = 8
  · rw [if_pos h8, if_pos h8]
    congr 1
    rw [decide_eq_decide]
    omega
  rw [if_neg h8, if_neg h8]
  by_cases h16 : w = 16
  · rw [if_pos h16, if_pos h16]
    congr 1
    rw [decide_eq_decide]
    omega
  rw [if_neg h16, if_neg h16]
  by_cases h32 : w = 32
  · rw [if_pos h32, if_pos h32]
    congr 1
    rw [decide_eq_decide]
    omega
  rw [if_neg h32, if_neg h32]
  exact (beq_eq_false_iff_ne.mpr h128).symm
theorem i64_sm {z : Int} (h : i64P z) : Sm z := sm_i64 h.1 h.2
theorem refFits_ev (x w : Int) (h : i64P x) : Ev (fun k => K.reredosref02_Fits.f k x w) (Hd.fitsW x w) := by
  unfold K.reredosref02_Fits.f
  refine Ev.bind (refOf_ev x h.1 h.2) ?_
  refine Ev.bind (in_ev x w (i64_sm h)) ?_
  rw [fits_in h]
  exact Ev.now _
theorem fits_e (x w : Int) : Ev (fun k => K.width_Fits.f k x w) (Hd.fitsW x w) := Ev.of (fun k => K.width_Fits.mono x w k) (Hd.fits_ev x w)

/-! ### the width of a text -/
def leastZ (z : Int) : Int := if inW z 8 = true then 8 else if inW z 16 = true then 16 else if inW z 32 = true then 32 else if inW z 64 = true then 64 else 128
theorem refOf_step (z : Int) (hz : Sm z) (i : Nat) (hi : i < 4) (w : Int) (hw : rd [8, 16, 32, 64] (i : Int) = w) (r : Int) (h : Ev (fun k => K.reredosref02_Of.l0 k (numS z) [8, 16, 32, 64] ((i + 1 : Nat) : Int)) r) :
    Ev (fun k => K.reredosref02_Of.l0 k (numS z) [8, 16, 32, 64] (i : Int)) (if inW z w = true then w else r) := by
  have hin := in_ev z w hz
  refine Ev.step (fun k => ?_) (Ev.bind (f := fun k t288 => if t288 = true then (if 0 ≤ (i : Int) then ((K.reredosref02_In.f k (numS z) w).bind fun t290 => (if t290 = true then some w else K.reredosref02_Of.l0 k (numS z) [8, 16, 32, 64] ((i + 1 : Nat) : Int))) else none) else K.reredosref02_Of.l0 k (numS z) [8, 16, 32, 64] ((i + 1 : Nat) : Int)) (numS_may hz) ?_)
  · simp only [K.reredosref02_Of.l0]
    rw [if_pos (show (i : Int) < (([8, 16, 32, 64] : List Int).length : Int) from by simp only [List.length_cons, List.length_nil]; omega), hw, w64 (by omega) (by omega)]
    rfl
  · have hi0 : (0 : Int) ≤ (i : Int) := by omega
    simp only [if_true, hi0]
    generalize inW z w = b at *
    cases b with
    | true =>
      refine Ev.bind hin ?_
      simp only [if_true]
      exact Ev.now _
    | false =>
      refine Ev.bind hin ?_
      simp only [Bool.false_eq_true, if_false]
      exact h
theorem refOfEnd (s : ByteArray) : Ev (fun k => K.reredosref02_Of.l0 k s [8, 16, 32, 64] ((4 : Nat) : Int)) 128 := by
  refine Ev.step (f := fun _ => some 128) (fun k => ?_) (Ev.now _)
  simp only [K.reredosref02_Of.l0]
  rw [if_neg (by simp)]
theorem refWOf_ev (z : Int) (hz : Sm z) : Ev (fun k => K.reredosref02_Of.f k (numS z)) (leastZ z) :=
  refOf_step z hz 0 (by decide) 8 rfl _ (refOf_step z hz 1 (by decide) 16 rfl _ (refOf_step z hz 2 (by decide) 32 rfl _ (refOf_step z hz 3 (by decide) 64 rfl _ (refOfEnd _))))
theorem refWOf_no (l : List UInt8) (hl : l.length ≤ 1000000000) (h : mayL l = false) : Ev (fun k => K.reredosref02_Of.f k (BA l)) 128 := by
  have hm := refMay_ev l hl
  rw [h] at hm
  have step : ∀ i : Nat, i < 4 → Ev (fun k => K.reredosref02_Of.l0 k (BA l) [8, 16, 32, 64] ((i + 1 : Nat) : Int)) 128 → Ev (fun k => K.reredosref02_Of.l0 k (BA l) [8, 16, 32, 64] (i : Int)) 128 := by
    intro i hi hn
    refine Ev.step (fun k => ?_) (Ev.bind (f := fun k t288 => if t288 = true then (if 0 ≤ (i : Int) then ((K.reredosref02_In.f k (BA l) (rd [8, 16, 32, 64] (i : Int))).bind fun t290 => (if t290 = true then some (rd [8, 16, 32, 64] (i : Int)) else K.reredosref02_Of.l0 k (BA l) [8, 16, 32, 64] ((i + 1 : Nat) : Int))) else none) else K.reredosref02_Of.l0 k (BA l) [8, 16, 32, 64] ((i + 1 : Nat) : Int)) hm ?_)
    · simp only [K.reredosref02_Of.l0]
      rw [if_pos (show (i : Int) < (([8, 16, 32, 64] : List Int).length : Int) from by simp only [List.length_cons, List.length_nil]; omega), w64 (by omega) (by omega)]
      rfl
    · simp only [Bool.false_eq_true, if_false]
      exact hn
  exact step 0 (by decide) (step 1 (by decide) (step 2 (by decide) (step 3 (by decide) (refOfEnd _))))
theorem least_eq {z : Int} (h : i64P z) : Hd.leastW z = leastZ z := by
  unfold Hd.leastW leastZ
  rw [fits_in h, fits_in h, fits_in h]
  have : inW z 64 = true := by
    have h1 := h.1
    have h2 := h.2
    simp [inW, h1, h2]
  rw [this]
  rfl
theorem least_big {z : Int} (h : ¬ i64P z) : leastZ z = 128 := by
  have hz : z < -9223372036854775808 ∨ 9223372036854775807 < z := by
    by_cases h1 : z < -9223372036854775808
    · exact .inl h1
    · by_cases h2 : 9223372036854775807 < z
      · exact .inr h2
      · exact absurd ⟨by omega, by omega⟩ h
  unfold leastZ
  have e8 : inW z 8 = false := by simp [inW]; omega
  have e16 : inW z 16 = false := by simp [inW]; omega
  have e32 : inW z 32 = false := by simp [inW]; omega
  have e64 : inW z 64 = false := by simp [inW]; omega
  rw [e8, e16, e32, e64]
  rfl
theorem widthOf_ev (z : Int) (h : Sm z) : Hd.widthOf.f (numS z) = some (leastZ z) := by
  unfold Hd.widthOf.f
  rw [numInt_ev z h]
  simp only [Option.bind_some]
  unfold intOfZ
  by_cases hi : i64P z
  · rw [if_pos hi]
    simp only [if_true]
    rw [least_eq hi]
  · rw [if_neg hi, least_big hi]
    rfl
theorem widthOf_no (l : List UInt8) (hl : l.length ≤ 1000000000) (h : mayL l = false) : Hd.widthOf.f (BA l) = some 128 := by
  unfold Hd.widthOf.f
  rw [numInt_no l hl h]
  rfl

/-! ### the greatest width -/
def maxL (l : List Int) : Int := if l = [] then 8 else l.foldl max (l.headD 0)
theorem widthMax_ev (l : List Int) : LS.width_Max.f l = some (maxL l) := by
  unfold LS.width_Max.f Hd.slicesMax.f maxL
  by_cases h : l = []
  · subst h; rfl
  · have : ¬ (l.length : Int) = 0 := by have := List.length_pos_iff.mpr h; omega
    rw [if_neg this, if_neg h, if_neg h]
    rfl
theorem rd_nat (l : List Int) (i : Nat) : rd l (i : Int) = l.getD i 0 := by simp [rd]
theorem refMax_loop (l : List Int) (hl : l.length ≤ 1000000000) : ∀ (d i : Nat), l.length - i ≤ d → 1 ≤ i → i ≤ l.length → Ev (fun k => K.reredosref02_Max.l0 k l ((l.take i).foldl max (l.headD 0)) (i : Int)) (l.foldl max (l.headD 0)) := by
  intro d
  induction d with
  | zero =>
    intro i h0 h1 hi
    rw [List.take_of_length_le (by omega)]
    refine Ev.step (f := fun _ => some (l.foldl max (l.headD 0))) (fun k => ?_) (Ev.now _)
    simp only [K.reredosref02_Max.l0]
    rw [if_neg (by omega)]
  | succ d ih =>
    intro i h0 h1 hi
    by_cases hlast : i = l.length
    · rw [List.take_of_length_le (by omega)]
      refine Ev.step (f := fun _ => some (l.foldl max (l.headD 0))) (fun k => ?_) (Ev.now _)
      simp only [K.reredosref02_Max.l0]
      rw [if_neg (by omega)]
    · have hlt : i < l.length := by omega
      have hn := ih (i + 1) (by omega) (by omega) (by omega)
      rw [Hd.foldl_take_succ l _ i hlt] at hn
      generalize (l.take i).foldl max (l.headD 0) = m at *
      by_cases hg : l.getD i 0 > m
      · rw [show max m (l.getD i 0) = l.getD i 0 by rw [Int.max_def]; split <;> omega] at hn
        refine Ev.step (fun k => ?_) hn
        simp only [K.reredosref02_Max.l0]
        rw [if_pos (by omega), if_neg (by omega), if_pos (by omega), rd_nat, if_pos hg, w64 (by omega) (by omega)]
        rfl
      · rw [show max m (l.getD i 0) = m by rw [Int.max_def]; split <;> omega] at hn
        refine Ev.step (fun k => ?_) hn
        simp only [K.reredosref02_Max.l0]
        rw [if_pos (by omega), if_neg (by omega), if_pos (by omega), rd_nat, if_neg hg, w64 (by omega) (by omega)]
        rfl
theorem refMax_ev (l : List Int) (hl : l.length ≤ 1000000000) : Ev (fun k => K.reredosref02_Max.f k l) (maxL l) := by
  unfold K.reredosref02_Max.f maxL
  cases l with
  | nil =>
    refine Ev.step (f := fun _ => some 8) (fun k => ?_) (Ev.now _)
    simp only [K.reredosref02_Max.l0]
    rw [if_neg (by simp)]
  | cons x r =>
    have h := refMax_loop (x :: r) hl _ 1 (Nat.le_refl _) (Nat.le_refl _) (by simp)
    rw [if_neg (by simp)]
    refine Ev.step (fun k => ?_) h
    simp only [K.reredosref02_Max.l0]
    rw [if_pos (by simp), if_pos trivial, if_pos (by decide)]
    have e : rd (x :: r) 0 = ((x :: r).take 1).foldl max ((x :: r).headD 0) := by simp [rd]
    rw [e, show wrap64 (0 + 1) = ((1 : Nat) : Int) from w64 (by decide) (by decide)]
theorem refNext_ev (w : Int) : K.reredosref02_Next.f w = some (Hd.nextW w) := by
  unfold K.reredosref02_Next.f Hd.nextW
  by_cases h8 : w = 8
  · subst h8; rw [if_pos rfl, if_pos rfl, w64 (by decide) (by decide)]; rfl
  rw [if_neg h8, if_neg h8]
  by_cases h16 : w = 16
  · subst h16; rw [if_pos rfl, if_pos rfl, w64 (by decide) (by decide)]; rfl
  rw [if_neg h16, if_neg h16]
  by_cases h32 : w = 32
  · subst h32; rw [if_pos rfl, if_pos rfl, w64 (by decide) (by decide)]; rfl
  rw [if_neg h32, if_neg h32]

/-! ### two numbers in a width -/
def doW (z a b w : Int) : Int × Bool := if i64P z then (if Hd.fitsW a w = true then (if Hd.fitsW b w = true then (if Hd.fitsW z w = true then (z, true) else (0, false)) else (0, false)) else (0, false)) else (0, false)
theorem doJ1 (z a b w : Int) (hz : Sm z) (ha : i64P a) (hb : i64P b) : Ev (fun k => K.reredosref02_Do.j1 k w (numS a) (numS b) (numS z)) (doW z a b w) := by
  refine Ev.step (fun k => ?_) (Ev.bind (f := fun k bt305 => if bt305.2 = true then ((K.reredosref02_In.f k (numS a) w).bind fun t307 => (if t307 = true then ((K.reredosref02_In.f k (numS b) w).bind fun t308 => (if t308 = true then ((K.reredosref02_In.f k (numS z) w).bind fun t309 => (if t309 = true then (some (bt305.1, true)) else (some (0, false)))) else (some (0, false)))) else (some (0, false)))) else (some (0, false))) (refInt_ev z hz) ?_)
  · simp only [K.reredosref02_Do.j1]
  · unfold intOfZ doW
    by_cases hi : i64P z
    · rw [if_pos hi, if_pos hi]
      simp only [if_true]
      refine Ev.bind (in_ev a w (i64_sm ha)) ?_
      rw [← fits_in ha]
      by_cases h1 : Hd.fitsW a w = true
      · simp only [h1, if_true]
        refine Ev.bind (in_ev b w (i64_sm hb)) ?_
        rw [← fits_in hb]
        by_cases h2 : Hd.fitsW b w = true
        · simp only [h2, if_true]
          refine Ev.bind (in_ev z w hz) ?_
          rw [← fits_in hi]
          by_cases h3 : Hd.fitsW z w = true
          · simp only [h3, if_true]
            exact Ev.now _
          · simp only [h3, if_false, Bool.false_eq_true]
            exact Ev.now _
        · simp only [h2, if_false, Bool.false_eq_true]
          exact Ev.now _
      · simp only [h1, if_false, Bool.false_eq_true]
        exact Ev.now _
    · rw [if_neg hi, if_neg hi]
      simp only [Bool.false_eq_true, if_false]
      exact Ev.now _
theorem mul_sm {a b : Int} (ha : i64P a) (hb : i64P b) : Sm (a * b) := by
  have h1 : a.natAbs ≤ 9223372036854775808 := by have := ha.1; have := ha.2; omega
  have h2 : b.natAbs ≤ 9223372036854775808 := by have := hb.1; have := hb.2; omega
  unfold Sm
  rw [Int.natAbs_mul]
  exact Nat.lt_of_le_of_lt (Nat.mul_le_mul h1 h2) (by decide)
theorem add_sm {a b : Int} (ha : i64P a) (hb : i64P b) : Sm (a + b) := by
  have := ha.1; have := ha.2; have := hb.1; have := hb.2
  exact Nat.lt_of_lt_of_le (show (a + b).natAbs < 10 ^ 20 by omega) (Nat.pow_le_pow_right (by decide) (by decide))
theorem sub_sm {a b : Int} (ha : i64P a) (hb : i64P b) : Sm (a - b) := by
  have := ha.1; have := ha.2; have := hb.1; have := hb.2
  exact Nat.lt_of_lt_of_le (show (a - b).natAbs < 10 ^ 20 by omega) (Nat.pow_le_pow_right (by decide) (by decide))
theorem do_ev (kind a b w : Int) (ha : i64P a) (hb : i64P b) : Ev (fun k => K.reredosref02_Do.f k kind a b w) (doW (if kind = 1 then a + b else if kind = 2 then a - b else a * b) a b w) := by
  unfold K.reredosref02_Do.f
  refine Ev.bind (refOf_ev a ha.1 ha.2) ?_
  refine Ev.bind (refOf_ev b hb.1 hb.2) ?_
  refine Ev.bind (mul_ev a b (i64_sm ha) (i64_sm hb)) ?_
  rw [told_sm (mul_sm ha hb)]
  by_cases h1 : kind = 1
  · simp only [h1, if_true]
    refine Ev.bind (add_ev a b (i64_sm ha) (i64_sm hb)) ?_
    rw [told_sm (add_sm ha hb)]
    refine Ev.step (fun k => ?_) (doJ1 (a + b) a b w (add_sm ha hb) ha hb)
    simp only [K.reredosref02_Do.j0]
    rw [if_neg (by decide)]
  · simp only [h1, if_false]
    by_cases h2 : kind = 2
    · simp only [h2, if_true]
      refine Ev.step (fun k => ?_) (Ev.bind (f := fun k bt303 => K.reredosref02_Do.j1 k w (numS a) (numS b) bt303.1) (sub_ev a b (i64_sm ha) (i64_sm hb)) (by rw [told_sm (sub_sm ha hb)]; exact doJ1 (a - b) a b w (sub_sm ha hb) ha hb))
      simp only [K.reredosref02_Do.j0]
      rw [if_pos trivial]
    · simp only [h2, if_false]
      refine Ev.step (fun k => ?_) (doJ1 (a * b) a b w (mul_sm ha hb) ha hb)
      simp only [K.reredosref02_Do.j0]
      rw [if_neg h2]
theorem told_over (a b n w : Int) : Ev (fun k => K.width_told.f k a b n true w) (0, false) := by
  unfold K.width_told.f
  simp only [if_true]
  exact Ev.now _
theorem told_ok (a b z w : Int) (hz : i64P z) : Ev (fun k => K.width_told.f k a b z false w) (doW z a b w) := by
  unfold K.width_told.f doW
  rw [if_pos hz]
  simp only [Bool.false_eq_true, if_false]
  refine Ev.bind (fits_e a w) ?_
  by_cases h1 : Hd.fitsW a w = true
  · simp only [h1, if_true]
    refine Ev.bind (fits_e b w) ?_
    by_cases h2 : Hd.fitsW b w = true
    · simp only [h2, if_true]
      refine Ev.bind (fits_e z w) ?_
      by_cases h3 : Hd.fitsW z w = true
      · simp only [h3, if_true]
        exact Ev.now _
      · simp only [h3, if_false, Bool.false_eq_true]
        exact Ev.now _
    · simp only [h2, if_false, Bool.false_eq_true]
      exact Ev.now _
  · simp only [h1, if_false, Bool.false_eq_true]
    exact Ev.now _
theorem doW_big {z : Int} (h : ¬ i64P z) (a b w : Int) : doW z a b w = (0, false) := if_neg h
theorem wadd_ev (a b w : Int) (ha : i64P a) (hb : i64P b) : Ev (fun k => K.width_Add.f k a b w) (doW (a + b) a b w) := by
  have h1 := ha.1; have h2 := ha.2; have h3 := hb.1; have h4 := hb.2
  unfold K.width_Add.f
  by_cases hz : i64P (a + b)
  · have e : wrap64 (a + b) = a + b := w64 hz.1 hz.2
    have ho : (decide (wrap64 (a + b) > a) != decide (b > 0)) = false := by
      rw [e, bne_eq_false_iff_eq, decide_eq_decide]
      omega
    rw [ho, e]
    exact Ev.bind (told_ok a b (a + b) w hz) (Ev.now _)
  · have ho : (decide (wrap64 (a + b) > a) != decide (b > 0)) = true := by
      have hr : a + b < -9223372036854775808 ∨ 9223372036854775807 < a + b := by
        by_cases h5 : a + b < -9223372036854775808
        · exact .inl h5
        · by_cases h6 : 9223372036854775807 < a + b
          · exact .inr h6
          · exact absurd ⟨by omega, by omega⟩ hz
      rw [bne_iff_ne, ne_eq, decide_eq_decide]
      unfold wrap64
      omega
    rw [ho, doW_big hz]
    exact Ev.bind (told_over a b _ w) (Ev.now _)
theorem wsub_ev (a b w : Int) (ha : i64P a) (hb : i64P b) : Ev (fun k => K.width_Sub.f k a b w) (doW (a - b) a b w) := by
  have h1 := ha.1; have h2 := ha.2; have h3 := hb.1; have h4 := hb.2
  unfold K.width_Sub.f
  by_cases hz : i64P (a - b)
  · have e : wrap64 (a - b) = a - b := w64 hz.1 hz.2
    have ho : (decide (wrap64 (a - b) < a) != decide (b > 0)) = false := by
      rw [e, bne_eq_false_iff_eq, decide_eq_decide]
      omega
    rw [ho, e]
    exact Ev.bind (told_ok a b (a - b) w hz) (Ev.now _)
  · have ho : (decide (wrap64 (a - b) < a) != decide (b > 0)) = true := by
      have hr : a - b < -9223372036854775808 ∨ 9223372036854775807 < a - b := by
        by_cases h5 : a - b < -9223372036854775808
        · exact .inl h5
        · by_cases h6 : 9223372036854775807 < a - b
          · exact .inr h6
          · exact absurd ⟨by omega, by omega⟩ hz
      rw [bne_iff_ne, ne_eq, decide_eq_decide]
      unfold wrap64
      omega
    rw [ho, doW_big hz]
    exact Ev.bind (told_over a b _ w) (Ev.now _)
theorem wrap_range (x : Int) : i64P (wrap64 x) := by unfold i64P wrap64; omega
theorem wrap_mod (x : Int) : ∃ q : Int, wrap64 x = x + 18446744073709551616 * q := ⟨-((x + 9223372036854775808) / 18446744073709551616), by unfold wrap64; omega⟩
theorem wmul_ev (a b w : Int) (ha : i64P a) (hb : i64P b) : Ev (fun k => K.width_Mul.f k a b w) (doW (a * b) a b w) := by
  have h1 := ha.1; have h2 := ha.2; have h3 := hb.1; have h4 := hb.2
  unfold K.width_Mul.f
  by_cases h0 : a = 0
  · subst h0
    simp only [if_true, Int.zero_mul]
    rw [w64 (by decide) (by decide)]
    exact Ev.bind (told_ok 0 b 0 w (by decide)) (Ev.now _)
  · simp only [h0, if_false]
    by_cases hz : i64P (a * b)
    · have e : wrap64 (a * b) = a * b := w64 hz.1 hz.2
      have et : wrap64 (Int.tdiv (a * b) a) = b := by rw [Int.mul_tdiv_cancel_left b h0, w64 h3 h4]
      rw [e]
      simp only [et, if_true]
      by_cases hm : a = -1
      · simp only [hm, if_true]
        have hb9 : (b == -9223372036854775808) = false := by
          rw [beq_eq_false_iff_ne]
          rintro rfl
          subst hm
          have := hz.2
          simp at this
        rw [hb9]
        subst hm
        exact Ev.bind (told_ok (-1) b (-1 * b) w hz) (Ev.now _)
      · simp only [hm, if_false]
        exact Ev.bind (told_ok a b (a * b) w hz) (Ev.now _)
    · rw [doW_big hz]
      by_cases het : wrap64 (Int.tdiv (wrap64 (a * b)) a) = b
      · simp only [het, if_true]
        by_cases hm : a = -1
        · simp only [hm, if_true]
          have hb9 : b = -9223372036854775808 := by
            subst hm
            have : ¬ i64P (-b) := by rwa [show -b = -1 * b by omega]
            unfold i64P at this
            omega
          rw [hb9]
          exact Ev.bind (told_over _ _ _ w) (Ev.now _)
        · exfalso
          obtain ⟨n, hn⟩ : ∃ n, n = wrap64 (a * b) := ⟨_, rfl⟩
          rw [← hn] at het
          have hnr := wrap_range (a * b)
          rw [← hn] at hnr
          obtain ⟨q, hq⟩ := wrap_mod (a * b)
          rw [← hn] at hq
          have hdm := Int.mul_tdiv_add_tmod n a
          have hr : (Int.tmod n a).natAbs < a.natAbs := by
            rw [Int.natAbs_tmod]
            exact Nat.mod_lt _ (by omega)
          have hd : (Int.tdiv n a).natAbs ≤ n.natAbs := by
            rw [Int.natAbs_tdiv]
            exact Nat.div_le_self _ _
          have hn1 := hnr.1
          have hn2 := hnr.2
          have hdr : i64P (Int.tdiv n a) := by
            refine ⟨by omega, ?_⟩
            rcases (by omega : Int.tdiv n a ≤ 9223372036854775807 ∨ Int.tdiv n a = 9223372036854775808) with h5 | h5
            · exact h5
            · exfalso
              have h6 : n.natAbs / a.natAbs = 9223372036854775808 := by
                have h7 := Int.natAbs_tdiv n a
                rw [h5] at h7
                exact h7.symm
              have h7 : n.natAbs ≤ 9223372036854775808 := by omega
              have h8 : a.natAbs = 1 := by
                rcases Nat.lt_or_ge 1 a.natAbs with h9 | h9
                · have h10 := Nat.div_le_div_left (a := n.natAbs) (show 2 ≤ a.natAbs from h9) (by decide)
                  omega
                · omega
              have ha1 : a = 1 := by omega
              subst ha1
              rw [Int.tdiv_one] at h5
              omega
          rw [w64 hdr.1 hdr.2] at het
          rw [het] at hdm
          generalize a * b = p at *
          unfold i64P at hz
          omega
      · simp only [het, if_false]
        exact Ev.bind (told_over a b _ w) (Ev.now _)

/-! ### shown -/
theorem shownW : Ev (fun k => LS.reredoslaw02_shown.f k) true := by
  unfold LS.reredoslaw02_shown.f
  refine Ev.bind (wadd_ev 100 100 8 (by decide) (by decide)) ?_
  refine Ev.bind (wadd_ev 100 100 16 (by decide) (by decide)) ?_
  rw [show doW (100 + 100) 100 100 8 = (0, false) by decide, show doW (100 + 100) 100 100 16 = (200, true) by decide]
  simp only [Bool.false_eq_true, if_false, if_true]
  have e : (⟨#[50, 48, 48]⟩ : ByteArray) = numS 200 := canonS 200 [50, 48, 48] (by decide) (by decide) (by decide) (by simp)
  rw [e, widthOf_ev 200 (by decide)]
  exact Ev.now _

end Go.Proofs.YtdbheoffkfmcpaaDoor.Nm
