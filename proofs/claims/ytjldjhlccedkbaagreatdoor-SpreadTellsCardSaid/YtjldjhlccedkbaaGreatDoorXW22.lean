/- What the law leans on, part 23: declarations of several texts of ours, in their order. -/
import Derived.Test.YtjldjhlccedkbaaGreatDoorXW21
section
/- The document's numbers: sums, products, signs. -/
namespace Go.Proofs.YtjldjhlccedkbaaGreatDoor.Am
open Go Go.Lib Go.RowKit Go.Proofs.YtjldjhlccedkbaaGreatDoor.Nm Go.Proofs.YtjldjhlccedkbaaGreatDoorW.PrintWords Go.Proofs.YtjldjhlccedkbaaGreatDoor
set_option linter.unusedVariables false
set_option linter.unusedSimpArgs false
set_option maxRecDepth 100000
set_option maxHeartbeats 8000000
theorem hyp_itoa (z : Int) : hyp (itoa z) = decide (z < 0) := by
  by_cases h : z < 0
  · rw [itoa_neg' h, decide_eq_true h]; rfl
  · rw [itoa_pos' h, decide_eq_false h]
    obtain ⟨c, r, e, h1, h2⟩ := head_dec z.natAbs
    rw [e]
    show (c == 45) = false
    rw [beq_eq_false_iff_ne]
    intro hc
    subst hc
    exact absurd h1 (by decide)
theorem nlow_runs (z : Int) : Runs Tryz.prog 153 [sD (numS z)] (bD (decide (z < 0))) := by
  have h := rlow_runs (itoa z)
  rwa [hyp_itoa] at h
theorem nsize_runs (z : Int) : Runs Tryz.prog 164 [sD (numS z)] (sD (BA (decDigits z.natAbs))) := by
  have h := rsize_runs (itoa z)
  rwa [body_itoa] at h
theorem nsigned_runs (n : Nat) (b : Bool) (hl : (decDigits n).length ≤ 1000000) : Runs Tryz.prog 165 [sD (BA (decDigits n)), bD b] (sD (numS (sv n b))) := by
  have h := rsigned_runs (decDigits n) b (dig_decDigits n) hl
  rwa [val_decDigits] at h
theorem nplus_runs (x y : Nat) (hx : (decDigits x).length ≤ 100000) (hy : (decDigits y).length ≤ 100000) : Runs Tryz.prog 166 [sD (BA (decDigits x)), sD (BA (decDigits y))] (sD (BA (decDigits (x + y)))) := by
  have h := rplus_runs (decDigits x) (decDigits y) (dig_decDigits x) (dig_decDigits y) hx hy
  rwa [val_decDigits, val_decDigits] at h
theorem nminus_runs (x y : Nat) (hx : (decDigits x).length ≤ 100000) (hy : (decDigits y).length ≤ 100000) (hle : y ≤ x) : Runs Tryz.prog 168 [sD (BA (decDigits x)), sD (BA (decDigits y))] (sD (BA (decDigits (x - y)))) := by
  have h := rminus_runs (decDigits x) (decDigits y) (dig_decDigits x) (dig_decDigits y) hx hy (by rwa [val_decDigits, val_decDigits])
  rwa [val_decDigits, val_decDigits] at h
theorem cmpN_ge (x y : Nat) : decide (cmpN x y ≥ 0) = decide (y ≤ x) := by
  rw [decide_eq_decide]
  unfold cmpN
  split <;> (try split) <;> omega
theorem nsum_runs (x y : Int) (hx : nl x ≤ 10000) (hy : nl y ≤ 10000) : Runs Tryz.prog 145 [sD (numS x), sD (numS y)] (sD (numS (x + y))) := by
  have lx := nlow_runs x
  have ly := nlow_runs y
  have sx := nsize_runs x
  have sy := nsize_runs y
  have e : x + y = sv (plusW x.natAbs (decide (x < 0)) y.natAbs (decide (y < 0))).1 (plusW x.natAbs (decide (x < 0)) y.natAbs (decide (y < 0))).2 := by rw [plusW_sv, sv_abs, sv_abs]
  rw [e]
  unfold nl at hx hy
  generalize decide (x < 0) = a at *
  generalize decide (y < 0) = b at *
  generalize x.natAbs = X at *
  generalize y.natAbs = Y at *
  unfold plusW
  by_cases hab : (a == b) = true
  · rw [if_pos hab]
    have p := nplus_runs X Y (by omega) (by omega)
    have g := nsigned_runs (X + Y) a (by have := dec_add hx hy; omega)
    refine Runs.wp Go.Proofs.YtjldjhlccedkbaaGreatDoor.Am.hT Go.Proofs.YtjldjhlccedkbaaGreatDoor.Am.hm Tryz.func145 rfl (by decide) ⟨[], [0, 1, 4, 9, 23], 40⟩ ?_; ((conv => whnf); repeat ((first | refine Wo ?_ | refine Go1 ?_ | refine Go2 ?_ | refine Go3 ?_ | refine Go4 ?_ | refine ⟨_, rfl, ?_⟩ | refine Mi rfl ?_); (conv => whnf)))
    ((conv => whnf); (refine HfA lx ?_); ((conv => whnf); repeat ((first | refine Wo ?_ | refine Go1 ?_ | refine Go2 ?_ | refine Go3 ?_ | refine Go4 ?_ | refine ⟨_, rfl, ?_⟩ | refine Mi rfl ?_); (conv => whnf))))
    ((conv => whnf); (refine HfA ly ?_); ((conv => whnf); repeat ((first | refine Wo ?_ | refine Go1 ?_ | refine Go2 ?_ | refine Go3 ?_ | refine Go4 ?_ | refine ⟨_, rfl, ?_⟩ | refine Mi rfl ?_); (conv => whnf))))
    refine Cr (fun h => absurd hab (by rw [h]; decide)) ?_
    ((conv => whnf); repeat ((first | refine Wo ?_ | refine Go1 ?_ | refine Go2 ?_ | refine Go3 ?_ | refine Go4 ?_ | refine ⟨_, rfl, ?_⟩ | refine Mi rfl ?_); (conv => whnf)))
    ((conv => whnf); (refine HfA sx ?_); ((conv => whnf); repeat ((first | refine Wo ?_ | refine Go1 ?_ | refine Go2 ?_ | refine Go3 ?_ | refine Go4 ?_ | refine ⟨_, rfl, ?_⟩ | refine Mi rfl ?_); (conv => whnf))))
    ((conv => whnf); (refine HfA sy ?_); ((conv => whnf); repeat ((first | refine Wo ?_ | refine Go1 ?_ | refine Go2 ?_ | refine Go3 ?_ | refine Go4 ?_ | refine ⟨_, rfl, ?_⟩ | refine Mi rfl ?_); (conv => whnf))))
    ((conv => whnf); (refine HfA p ?_); ((conv => whnf); repeat ((first | refine Wo ?_ | refine Go1 ?_ | refine Go2 ?_ | refine Go3 ?_ | refine Go4 ?_ | refine ⟨_, rfl, ?_⟩ | refine Mi rfl ?_); (conv => whnf))))
    ((conv => whnf); (refine HfA lx ?_); ((conv => whnf); repeat ((first | refine Wo ?_ | refine Go1 ?_ | refine Go2 ?_ | refine Go3 ?_ | refine Go4 ?_ | refine ⟨_, rfl, ?_⟩ | refine Mi rfl ?_); (conv => whnf))))
    ((conv => whnf); (refine HfA g ?_); ((conv => whnf); repeat ((first | refine Wo ?_ | refine Go1 ?_ | refine Go2 ?_ | refine Go3 ?_ | refine Go4 ?_ | refine ⟨_, rfl, ?_⟩ | refine Mi rfl ?_); (conv => whnf))))
    exact TeA
  · rw [if_neg hab]
    have hab' : (a == b) = false := by simpa using hab
    have mo := rmore_runs X Y (by omega)
    have ge := cmpN_ge X Y
    by_cases hlt : X < Y
    · rw [decide_eq_false (show ¬ Y ≤ X by omega)] at ge
      rw [if_pos hlt]
      have p := nminus_runs Y X (by omega) (by omega) (by omega)
      have g := nsigned_runs (Y - X) b (by have := dec_mono (show Y - X ≤ Y by omega); omega)
      refine Runs.wp Go.Proofs.YtjldjhlccedkbaaGreatDoor.Am.hT Go.Proofs.YtjldjhlccedkbaaGreatDoor.Am.hm Tryz.func145 rfl (by decide) ⟨[], [0, 1, 4, 9, 23], 40⟩ ?_; ((conv => whnf); repeat ((first | refine Wo ?_ | refine Go1 ?_ | refine Go2 ?_ | refine Go3 ?_ | refine Go4 ?_ | refine ⟨_, rfl, ?_⟩ | refine Mi rfl ?_); (conv => whnf)))
      ((conv => whnf); (refine HfA lx ?_); ((conv => whnf); repeat ((first | refine Wo ?_ | refine Go1 ?_ | refine Go2 ?_ | refine Go3 ?_ | refine Go4 ?_ | refine ⟨_, rfl, ?_⟩ | refine Mi rfl ?_); (conv => whnf))))
      ((conv => whnf); (refine HfA ly ?_); ((conv => whnf); repeat ((first | refine Wo ?_ | refine Go1 ?_ | refine Go2 ?_ | refine Go3 ?_ | refine Go4 ?_ | refine ⟨_, rfl, ?_⟩ | refine Mi rfl ?_); (conv => whnf))))
      refine Cl hab ?_
      ((conv => whnf); repeat ((first | refine Wo ?_ | refine Go1 ?_ | refine Go2 ?_ | refine Go3 ?_ | refine Go4 ?_ | refine ⟨_, rfl, ?_⟩ | refine Mi rfl ?_); (conv => whnf)))
      ((conv => whnf); (refine HfA sx ?_); ((conv => whnf); repeat ((first | refine Wo ?_ | refine Go1 ?_ | refine Go2 ?_ | refine Go3 ?_ | refine Go4 ?_ | refine ⟨_, rfl, ?_⟩ | refine Mi rfl ?_); (conv => whnf))))
      ((conv => whnf); (refine HfA sy ?_); ((conv => whnf); repeat ((first | refine Wo ?_ | refine Go1 ?_ | refine Go2 ?_ | refine Go3 ?_ | refine Go4 ?_ | refine ⟨_, rfl, ?_⟩ | refine Mi rfl ?_); (conv => whnf))))
      ((conv => whnf); (refine HfA mo ?_); ((conv => whnf); repeat ((first | refine Wo ?_ | refine Go1 ?_ | refine Go2 ?_ | refine Go3 ?_ | refine Go4 ?_ | refine ⟨_, rfl, ?_⟩ | refine Mi rfl ?_); (conv => whnf))))
      refine litE ge ?_
      ((conv => whnf); repeat ((first | refine Wo ?_ | refine Go1 ?_ | refine Go2 ?_ | refine Go3 ?_ | refine Go4 ?_ | refine ⟨_, rfl, ?_⟩ | refine Mi rfl ?_); (conv => whnf)))
      ((conv => whnf); (refine HfA sy ?_); ((conv => whnf); repeat ((first | refine Wo ?_ | refine Go1 ?_ | refine Go2 ?_ | refine Go3 ?_ | refine Go4 ?_ | refine ⟨_, rfl, ?_⟩ | refine Mi rfl ?_); (conv => whnf))))
      ((conv => whnf); (refine HfA sx ?_); ((conv => whnf); repeat ((first | refine Wo ?_ | refine Go1 ?_ | refine Go2 ?_ | refine Go3 ?_ | refine Go4 ?_ | refine ⟨_, rfl, ?_⟩ | refine Mi rfl ?_); (conv => whnf))))
      ((conv => whnf); (refine HfA p ?_); ((conv => whnf); repeat ((first | refine Wo ?_ | refine Go1 ?_ | refine Go2 ?_ | refine Go3 ?_ | refine Go4 ?_ | refine ⟨_, rfl, ?_⟩ | refine Mi rfl ?_); (conv => whnf))))
      ((conv => whnf); (refine HfA ly ?_); ((conv => whnf); repeat ((first | refine Wo ?_ | refine Go1 ?_ | refine Go2 ?_ | refine Go3 ?_ | refine Go4 ?_ | refine ⟨_, rfl, ?_⟩ | refine Mi rfl ?_); (conv => whnf))))
      ((conv => whnf); (refine HfA g ?_); ((conv => whnf); repeat ((first | refine Wo ?_ | refine Go1 ?_ | refine Go2 ?_ | refine Go3 ?_ | refine Go4 ?_ | refine ⟨_, rfl, ?_⟩ | refine Mi rfl ?_); (conv => whnf))))
      exact TeA
    · rw [decide_eq_true (show Y ≤ X by omega)] at ge
      rw [if_neg hlt]
      have p := nminus_runs X Y (by omega) (by omega) (by omega)
      have g := nsigned_runs (X - Y) a (by have := dec_mono (show X - Y ≤ X by omega); omega)
      refine Runs.wp Go.Proofs.YtjldjhlccedkbaaGreatDoor.Am.hT Go.Proofs.YtjldjhlccedkbaaGreatDoor.Am.hm Tryz.func145 rfl (by decide) ⟨[], [0, 1, 4, 9, 23], 40⟩ ?_; ((conv => whnf); repeat ((first | refine Wo ?_ | refine Go1 ?_ | refine Go2 ?_ | refine Go3 ?_ | refine Go4 ?_ | refine ⟨_, rfl, ?_⟩ | refine Mi rfl ?_); (conv => whnf)))
      ((conv => whnf); (refine HfA lx ?_); ((conv => whnf); repeat ((first | refine Wo ?_ | refine Go1 ?_ | refine Go2 ?_ | refine Go3 ?_ | refine Go4 ?_ | refine ⟨_, rfl, ?_⟩ | refine Mi rfl ?_); (conv => whnf))))
      ((conv => whnf); (refine HfA ly ?_); ((conv => whnf); repeat ((first | refine Wo ?_ | refine Go1 ?_ | refine Go2 ?_ | refine Go3 ?_ | refine Go4 ?_ | refine ⟨_, rfl, ?_⟩ | refine Mi rfl ?_); (conv => whnf))))
      refine Cl hab ?_
      ((conv => whnf); repeat ((first | refine Wo ?_ | refine Go1 ?_ | refine Go2 ?_ | refine Go3 ?_ | refine Go4 ?_ | refine ⟨_, rfl, ?_⟩ | refine Mi rfl ?_); (conv => whnf)))
      ((conv => whnf); (refine HfA sx ?_); ((conv => whnf); repeat ((first | refine Wo ?_ | refine Go1 ?_ | refine Go2 ?_ | refine Go3 ?_ | refine Go4 ?_ | refine ⟨_, rfl, ?_⟩ | refine Mi rfl ?_); (conv => whnf))))
      ((conv => whnf); (refine HfA sy ?_); ((conv => whnf); repeat ((first | refine Wo ?_ | refine Go1 ?_ | refine Go2 ?_ | refine Go3 ?_ | refine Go4 ?_ | refine ⟨_, rfl, ?_⟩ | refine Mi rfl ?_); (conv => whnf))))
      ((conv => whnf); (refine HfA mo ?_); ((conv => whnf); repeat ((first | refine Wo ?_ | refine Go1 ?_ | refine Go2 ?_ | refine Go3 ?_ | refine Go4 ?_ | refine ⟨_, rfl, ?_⟩ | refine Mi rfl ?_); (conv => whnf))))
      refine litE ge ?_
      ((conv => whnf); repeat ((first | refine Wo ?_ | refine Go1 ?_ | refine Go2 ?_ | refine Go3 ?_ | refine Go4 ?_ | refine ⟨_, rfl, ?_⟩ | refine Mi rfl ?_); (conv => whnf)))
      ((conv => whnf); (refine HfA sx ?_); ((conv => whnf); repeat ((first | refine Wo ?_ | refine Go1 ?_ | refine Go2 ?_ | refine Go3 ?_ | refine Go4 ?_ | refine ⟨_, rfl, ?_⟩ | refine Mi rfl ?_); (conv => whnf))))
      ((conv => whnf); (refine HfA sy ?_); ((conv => whnf); repeat ((first | refine Wo ?_ | refine Go1 ?_ | refine Go2 ?_ | refine Go3 ?_ | refine Go4 ?_ | refine ⟨_, rfl, ?_⟩ | refine Mi rfl ?_); (conv => whnf))))
      ((conv => whnf); (refine HfA p ?_); ((conv => whnf); repeat ((first | refine Wo ?_ | refine Go1 ?_ | refine Go2 ?_ | refine Go3 ?_ | refine Go4 ?_ | refine ⟨_, rfl, ?_⟩ | refine Mi rfl ?_); (conv => whnf))))
      ((conv => whnf); (refine HfA lx ?_); ((conv => whnf); repeat ((first | refine Wo ?_ | refine Go1 ?_ | refine Go2 ?_ | refine Go3 ?_ | refine Go4 ?_ | refine ⟨_, rfl, ?_⟩ | refine Mi rfl ?_); (conv => whnf))))
      ((conv => whnf); (refine HfA g ?_); ((conv => whnf); repeat ((first | refine Wo ?_ | refine Go1 ?_ | refine Go2 ?_ | refine Go3 ?_ | refine Go4 ?_ | refine ⟨_, rfl, ?_⟩ | refine Mi rfl ?_); (conv => whnf))))
      exact TeA
theorem nturned_runs (x : Int) (hx : nl x ≤ 10000) : Runs Tryz.prog 146 [sD (numS x)] (sD (numS (-x))) := by
  have lx := nlow_runs x
  have sx := nsize_runs x
  have g := nsigned_runs x.natAbs (!decide (x < 0)) (by unfold nl at hx; omega)
  rw [show sv x.natAbs (!decide (x < 0)) = -x by
    unfold sv
    by_cases h : x < 0
    · rw [decide_eq_true h]; simp; omega
    · rw [decide_eq_false h]; simp; omega] at g
  refine Runs.wp Go.Proofs.YtjldjhlccedkbaaGreatDoor.Am.hT Go.Proofs.YtjldjhlccedkbaaGreatDoor.Am.hm Tryz.func146 rfl (by decide) ⟨[], [0, 2], 9⟩ ?_; ((conv => whnf); repeat ((first | refine Wo ?_ | refine Go1 ?_ | refine Go2 ?_ | refine Go3 ?_ | refine Go4 ?_ | refine ⟨_, rfl, ?_⟩ | refine Mi rfl ?_); (conv => whnf)))
  ((conv => whnf); (refine HfA sx ?_); ((conv => whnf); repeat ((first | refine Wo ?_ | refine Go1 ?_ | refine Go2 ?_ | refine Go3 ?_ | refine Go4 ?_ | refine ⟨_, rfl, ?_⟩ | refine Mi rfl ?_); (conv => whnf))))
  ((conv => whnf); (refine HfA lx ?_); ((conv => whnf); repeat ((first | refine Wo ?_ | refine Go1 ?_ | refine Go2 ?_ | refine Go3 ?_ | refine Go4 ?_ | refine ⟨_, rfl, ?_⟩ | refine Mi rfl ?_); (conv => whnf))))
  ((conv => whnf); (refine HfA g ?_); ((conv => whnf); repeat ((first | refine Wo ?_ | refine Go1 ?_ | refine Go2 ?_ | refine Go3 ?_ | refine Go4 ?_ | refine ⟨_, rfl, ?_⟩ | refine Mi rfl ?_); (conv => whnf))))
  exact TeA
theorem ntold_runs (x : Int) : Runs Tryz.prog 147 [sD (numS x)] (.tup [sD (Nm.told x).1, iD (Nm.told x).2]) := by
  have sx := nsize_runs x
  have hz : ((BA (decDigits x.natAbs)).size : Int) = ((decDigits x.natAbs).length : Int) := by rw [ba_size]
  unfold Nm.told
  by_cases h : x.natAbs < 10 ^ 100
  · have := len_le _ _ (by decide) h
    have t1 : decide (((BA (decDigits x.natAbs)).size : Int) > 100) = false := by rw [decide_eq_false_iff_not, hz]; omega
    rw [if_pos h]
    refine Runs.wp Go.Proofs.YtjldjhlccedkbaaGreatDoor.Am.hT Go.Proofs.YtjldjhlccedkbaaGreatDoor.Am.hm Tryz.func147 rfl (by decide) ⟨[], [0, 2, 3, 7], 9⟩ ?_; ((conv => whnf); repeat ((first | refine Wo ?_ | refine Go1 ?_ | refine Go2 ?_ | refine Go3 ?_ | refine Go4 ?_ | refine ⟨_, rfl, ?_⟩ | refine Mi rfl ?_); (conv => whnf)))
    ((conv => whnf); (refine HfA sx ?_); ((conv => whnf); repeat ((first | refine Wo ?_ | refine Go1 ?_ | refine Go2 ?_ | refine Go3 ?_ | refine Go4 ?_ | refine ⟨_, rfl, ?_⟩ | refine Mi rfl ?_); (conv => whnf))))
    refine litE t1 ?_
    ((conv => whnf); repeat ((first | refine Wo ?_ | refine Go1 ?_ | refine Go2 ?_ | refine Go3 ?_ | refine Go4 ?_ | refine ⟨_, rfl, ?_⟩ | refine Mi rfl ?_); (conv => whnf)))
    exact TeA
  · have : ¬ (decDigits x.natAbs).length ≤ 100 := fun e => h (lt_of_len _ _ e)
    have t1 : decide (((BA (decDigits x.natAbs)).size : Int) > 100) = true := by rw [decide_eq_true_iff, hz]; omega
    rw [if_neg h]
    refine Runs.wp Go.Proofs.YtjldjhlccedkbaaGreatDoor.Am.hT Go.Proofs.YtjldjhlccedkbaaGreatDoor.Am.hm Tryz.func147 rfl (by decide) ⟨[], [0, 2, 3, 7], 9⟩ ?_; ((conv => whnf); repeat ((first | refine Wo ?_ | refine Go1 ?_ | refine Go2 ?_ | refine Go3 ?_ | refine Go4 ?_ | refine ⟨_, rfl, ?_⟩ | refine Mi rfl ?_); (conv => whnf)))
    ((conv => whnf); (refine HfA sx ?_); ((conv => whnf); repeat ((first | refine Wo ?_ | refine Go1 ?_ | refine Go2 ?_ | refine Go3 ?_ | refine Go4 ?_ | refine ⟨_, rfl, ?_⟩ | refine Mi rfl ?_); (conv => whnf))))
    refine litE t1 ?_
    ((conv => whnf); repeat ((first | refine Wo ?_ | refine Go1 ?_ | refine Go2 ?_ | refine Go3 ?_ | refine Go4 ?_ | refine ⟨_, rfl, ?_⟩ | refine Mi rfl ?_); (conv => whnf)))
    exact TeA
end Go.Proofs.YtjldjhlccedkbaaGreatDoor.Am
end
section
/- Numbers: read, turned, added, told. -/
namespace Go.Proofs.YtjldjhlccedkbaaGreatDoor.Am
open Go Go.Lib Go.RowKit Go.Proofs.YtjldjhlccedkbaaGreatDoor.Nm Go.Proofs.YtjldjhlccedkbaaGreatDoorW.PrintWords Go.Proofs.YtjldjhlccedkbaaGreatDoor
set_option linter.unusedVariables false
set_option linter.unusedSimpArgs false
set_option maxRecDepth 100000
set_option maxHeartbeats 4000000
theorem dec_lt9 {l : List UInt8} (hd : Dig l) (hl : l.length ≤ 9) : val l < 1000000000 :=
  Nat.lt_of_lt_of_le (val_lt l hd) (Nat.pow_le_pow_right (n := 10) (by decide) hl)
theorem read_go (s : ByteArray) (n : Nat) (b : Bool) (hn : (decDigits n).length ≤ 10000) (hT : Runs Tryz.prog 100 [sD s, sD ⟨#[45]⟩] (sD (BA (decDigits n))))
    (hb : ∃ c r, s = BA (c :: r) ∧ (c.toNat == 45) = b) : Runs Tryz.prog 137 [sD s] (wD n b) := by
  obtain ⟨c0, r0, rfl, hb⟩ := hb
  refine Runs.wp Go.Proofs.YtjldjhlccedkbaaGreatDoor.Am.hT Go.Proofs.YtjldjhlccedkbaaGreatDoor.Am.hm Tryz.func137 rfl (by decide) ⟨[], [0, 2, 3, 4, 5, 6, 12], 42⟩ ?_; ((conv => whnf); repeat ((first | refine Wo ?_ | refine Go1 ?_ | refine Go2 ?_ | refine Go3 ?_ | refine Go4 ?_ | refine ⟨_, rfl, ?_⟩ | refine Mi rfl ?_); (conv => whnf)))
  ((conv => whnf); (refine HfA hT ?_); ((conv => whnf); repeat ((first | refine Wo ?_ | refine Go1 ?_ | refine Go2 ?_ | refine Go3 ?_ | refine Go4 ?_ | refine ⟨_, rfl, ?_⟩ | refine Mi rfl ?_); (conv => whnf))))
  refine loop_ind (fun k (x : List UInt8 × List Nat) => x.1.length < k ∧ x.1.length + x.2.length ≤ 10000 ∧ Dig x.1 ∧ Pt x.2 ∧ val x.1 * 1000000000 ^ x.2.length + mv x.2 = n ∧ x.1.length ≤ 10000)
    (fun x => { t := pin [(0, .d (sD (BA (c0 :: r0)))), (2, .pt 0 0), (3, .d (sD (BA x.1))), (4, .bs 1)], N := 42, h := hpin [some (.st 139 [.imm (.slice none 0 0), .imm (.bool false)]), uR x.2], n := 2, lo := 0 }) (fun x h => by omega) ?_ 10001 (decDigits n, []) ⟨Nat.lt_succ_of_le hn, hn, dig_decDigits n, fun z hz => by simp at hz, by simp [val_decDigits, mv], hn⟩ _ ?_
  · rintro k ⟨d, m⟩ R ih ⟨hk, hlen, hd, hm, hv, hd4⟩
    simp only at *
    have hs : ((BA d).size : Int) = (d.length : Int) := by rw [ba_size]
    by_cases h0 : d = []
    · subst h0
      have hv2 : mv m = n := by simpa [val] using hv
      have ht := trim_runs m hm (by omega)
      rw [hv2] at ht
      ((conv => whnf); repeat ((first | refine Wo ?_ | refine Go1 ?_ | refine Go2 ?_ | refine Go3 ?_ | refine Go4 ?_ | refine ⟨_, rfl, ?_⟩ | refine Mi rfl ?_); (conv => whnf)))
      ((conv => whnf); (refine HrA ht ?_); ((conv => whnf); repeat ((first | refine Wo ?_ | refine Go1 ?_ | refine Go2 ?_ | refine Go3 ?_ | refine Go4 ?_ | refine ⟨_, rfl, ?_⟩ | refine Mi rfl ?_); (conv => whnf))))
      have hsz : 0 < ((BA (c0 :: r0)).size : Int) := by rw [ba_size]; simp
      refine Lt (by rw [decide_eq_true_eq]; omega) ?_
      ((conv => whnf); repeat ((first | refine Wo ?_ | refine Lt (by decide) ?_ | refine Lf (by decide) ?_ | refine Cl (by decide) ?_ | refine Cr (by decide) ?_ | refine ⟨_, rfl, ?_⟩ | refine Mi rfl ?_ | (refine And.intro ArA ?_)); (conv => whnf)))
      refine litE ((u8E c0 45 (by decide)).trans hb) ?_
      ((conv => whnf); repeat ((first | refine Wo ?_ | refine Go1 ?_ | refine Go2 ?_ | refine Go3 ?_ | refine Go4 ?_ | refine ⟨_, rfl, ?_⟩ | refine Mi rfl ?_); (conv => whnf)))
      exact TeA
    · obtain ⟨at_, hat⟩ : ∃ a, a = d.length - 9 := ⟨_, rfl⟩
      have hpos : 0 < d.length := List.length_pos_iff.mpr h0
      have e1 : (if IntKind.i64.wrap (((BA d).size : Int) - 9) < 0 then 0 else IntKind.i64.wrap (((BA d).size : Int) - 9)) = (at_ : Int) := by
        rw [i64w (by omega) (by omega)]
        split <;> omega
      have e2 : (BA d).extract (Int.toNat (at_ : Int)) (Int.toNat ((BA d).size : Int)) = BA (d.drop at_) := ba_drop d at_ (by omega)
      have e3 : (BA d).extract (Int.toNat 0) (Int.toNat (at_ : Int)) = BA (d.take at_) := ba_take d at_ (by omega)
      have hdl : (d.drop at_).length ≤ 9 := by simp; omega
      have hp := parseU_runs (d.drop at_) (dig_drop hd at_) (fun e => by have := congrArg List.length e; simp at this; omega) hdl
      have h9 := dec_lt9 (dig_drop hd at_) hdl
      replace hv := Pk.mk hv
      ((conv => whnf); repeat ((first | refine Wo ?_ | refine Go1 ?_ | refine Go2 ?_ | refine Go3 ?_ | refine Go4 ?_ | refine ⟨_, rfl, ?_⟩ | refine Mi rfl ?_); (conv => whnf)))
      refine Lt (by rw [decide_eq_true_eq]; omega) ?_
      ((conv => whnf); repeat ((first | refine Wo ?_ | refine Go1 ?_ | refine Go2 ?_ | refine Go3 ?_ | refine Go4 ?_ | refine ⟨_, rfl, ?_⟩ | refine Mi rfl ?_); (conv => whnf)))
      rw [e1]
      ((conv => whnf); repeat ((first | refine Wo ?_ | refine Lt (by decide) ?_ | refine Lf (by decide) ?_ | refine Cl (by decide) ?_ | refine Cr (by decide) ?_ | refine ⟨_, rfl, ?_⟩ | refine Mi rfl ?_ | (refine And.intro ArA ?_)); (conv => whnf)))
      rw [e2]
      ((conv => whnf); (refine HfA hp ?_); ((conv => whnf); repeat ((first | refine Wo ?_ | refine Go1 ?_ | refine Go2 ?_ | refine Go3 ?_ | refine Go4 ?_ | refine ⟨_, rfl, ?_⟩ | refine Mi rfl ?_); (conv => whnf))))
      ((conv => whnf); repeat ((first | refine Wo ?_ | refine Lt (by decide) ?_ | refine Lf (by decide) ?_ | refine Cl (by decide) ?_ | refine Cr (by decide) ?_ | refine ⟨_, rfl, ?_⟩ | refine Mi rfl ?_ | (refine And.intro ArA ?_)); (conv => whnf)))
      refine ih (d.take at_, m ++ [val (d.drop at_)]) _ ⟨by simp; omega, by simp; omega, dig_take hd at_, pt_append hm (pt_one h9), ?_, by simp; omega⟩ ?_
      · dsimp only
        have h1 := val_split d at_
        have h2 : val (d.take at_) * 10 ^ (d.length - at_) = val (d.take at_) * 1000000000 := by
          by_cases h : at_ = 0
          · rw [h]; simp [val]
          · rw [show d.length - at_ = 9 by omega]
        rw [mv_snoc, List.length_append, List.length_singleton, Nat.pow_succ, ← hv.out, h1, h2, Nat.add_mul]
        rw [Nat.mul_comm (1000000000 ^ m.length) 1000000000, ← Nat.mul_assoc, Nat.mul_comm (val (d.drop at_))]
        omega
      · dsimp only
        (refine Wk.pin [0, 3] _ _ ?_ ?_ rfl rfl (by decide) rfl rfl <;> (repeat' first | exact trivial | rfl | (refine And.intro ?_ ?_)))
        · exact congrArg (fun z => V.d (.v (.string z))) e3
        · exact arE (by simp) (by simp)
  · refine (Wk.virt 4 154 1 rfl (show 4 < 42 by decide)).trans ?_
    (refine Wk.to _ _ ?_ ?_ <;> (repeat' first | exact trivial | rfl | (refine And.intro ?_ ?_)))
theorem read_runs (z : Int) (hz : nl z ≤ 10000) : Runs Tryz.prog 137 [sD (numS z)] (wD z.natAbs (decide (z < 0))) := by
  have ht := trimP_runs (itoa z)
  rw [body_itoa] at ht
  obtain ⟨c, r, e, h1, h2⟩ := head_dec z.natAbs
  refine read_go (numS z) z.natAbs _ hz ht ?_
  by_cases h : z < 0
  · exact ⟨45, decDigits z.natAbs, numS_neg h, by simp [h]⟩
  · exact ⟨c, r, by rw [numS_pos h, e], by rw [decide_eq_false h]; exact beq_eq_false_iff_ne.mpr (by omega)⟩
theorem turned_runs (n : Nat) (b : Bool) (hn : (mg n).length ≤ 1000000) : Runs Tryz.prog 131 [wD n b] (wD n (!b && decide (n ≠ 0))) := by
  cases b with
  | true =>
    refine Runs.wp Go.Proofs.YtjldjhlccedkbaaGreatDoor.Am.hT Go.Proofs.YtjldjhlccedkbaaGreatDoor.Am.hm Tryz.func131 rfl (by decide) ⟨[], [0, 1, 2], 15⟩ ?_; ((conv => whnf); repeat ((first | refine Wo ?_ | refine Go1 ?_ | refine Go2 ?_ | refine Go3 ?_ | refine Go4 ?_ | refine ⟨_, rfl, ?_⟩ | refine Mi rfl ?_); (conv => whnf)))
    exact TeA
  | false =>
    have h : decide (((mg n).length : Int) > 0) = decide (n ≠ 0) := by
      by_cases h0 : n = 0
      · subst h0; rw [mg_zero]; rfl
      · rw [mg_pos h0, decide_eq_true h0]
        simp
    refine Runs.wp Go.Proofs.YtjldjhlccedkbaaGreatDoor.Am.hT Go.Proofs.YtjldjhlccedkbaaGreatDoor.Am.hm Tryz.func131 rfl (by decide) ⟨[], [0, 1, 2], 15⟩ ?_; ((conv => whnf); repeat ((first | refine Wo ?_ | refine Go1 ?_ | refine Go2 ?_ | refine Go3 ?_ | refine Go4 ?_ | refine ⟨_, rfl, ?_⟩ | refine Mi rfl ?_); (conv => whnf)))
    refine litE h ?_
    ((conv => whnf); repeat ((first | refine Wo ?_ | refine Go1 ?_ | refine Go2 ?_ | refine Go3 ?_ | refine Go4 ?_ | refine ⟨_, rfl, ?_⟩ | refine Mi rfl ?_); (conv => whnf)))
    exact TeA
theorem plus_runs (x y : Nat) (a b : Bool) (hx : (mg x).length ≤ 90000) (hy : (mg y).length ≤ 90000) : Runs Tryz.prog 129 [wD x a, wD y b] (wD (plusW x a y b).1 (plusW x a y b).2) := by
  have same : ∀ a, Runs Tryz.prog 129 [wD x a, wD y a] (wD (x + y) a) := by
    have h1 := sum_runs (mg x) (mg y) (pt_mg x) (pt_mg y) (by omega) (by omega)
    rw [mv_mg, mv_mg] at h1
    intro a
    cases a
    all_goals
      refine Runs.wp Go.Proofs.YtjldjhlccedkbaaGreatDoor.Am.hT Go.Proofs.YtjldjhlccedkbaaGreatDoor.Am.hm Tryz.func129 rfl (by decide) ⟨[(2, .first 0 (.first 2 (.first 5 (.load 1 [4, 7, 8] (.load 3 [4, 7, 8] (.alt 4 (.load 6 [7, 8] (.first 7 (.alt 8 .done .nil))) (.alt 6 (.alt 4 (.first 7 (.alt 8 .done .nil)) .nil) .nil))))))), (4, .first 0 (.first 2 (.first 5 (.load 1 [4, 7, 8] (.load 3 [4, 7, 8] (.alt 4 (.load 6 [7, 8] (.first 7 (.alt 8 .done .nil))) (.alt 6 (.alt 4 (.first 7 (.alt 8 .done .nil)) .nil) .nil))))))), (5, .first 0 (.first 2 (.first 5 (.load 1 [4, 7, 8] (.load 3 [4, 7, 8] (.alt 4 (.load 6 [7, 8] (.first 7 (.alt 8 .done .nil))) (.alt 6 (.alt 4 (.first 7 (.alt 8 .done .nil)) .nil) .nil)))))))], [0, 1, 2, 3, 4, 5, 19], 42⟩ ?_; ((conv => whnf); repeat ((first | refine Wo ?_ | refine Go1 ?_ | refine Go2 ?_ | refine Go3 ?_ | refine Go4 ?_ | refine ⟨_, rfl, ?_⟩ | refine Mi rfl ?_); (conv => whnf)))
      (refine And.intro (by decide +kernel) ?_; apply Exists.intro; apply And.intro; focus ((repeat' ((conv => whnf); first | exact trivial | refine Wo ?_ | refine Lt (by decide) ?_ | refine Lf (by decide) ?_ | refine Cl (by decide) ?_ | refine Cr (by decide) ?_ | refine ⟨_, rfl, ?_⟩ | refine Mi rfl ?_ | (first | (refine HrA h1 ?_)) | (refine And.intro ?_ ?_))); all_goals (first | ((conv => whnf); exact Wk.frc (keep := [0, 1, 2, 3, 4, 5, 19]) (N := 42) (by (conv => whnf); first | done | exact rfl)) | (first | decide | rfl | assumption | omega | (dsimp only; omega) | (unfold maxLen; omega) | ((try dsimp only [maxLen]); simp only [List.length_append, List.length_cons, List.length_nil, List.length_map, List.length_range, List.length_set, List.length_replicate]; omega) | ((try dsimp only [maxLen]); simp only [IntKind.wrap_i64, IntKind.wrap_u64, List.length_append, List.length_cons, List.length_nil, List.length_map, List.length_range, List.length_set, List.length_replicate]; omega) | ((try dsimp only [maxLen]); simp only [List.length_append, List.length_cons, List.length_nil, List.length_map, List.length_range, List.length_set, List.length_replicate] at *; omega)))))
      ((conv => whnf); repeat ((first | refine Wo ?_ | refine Go1 ?_ | refine Go2 ?_ | refine Go3 ?_ | refine Go4 ?_ | refine ⟨_, rfl, ?_⟩ | refine Mi rfl ?_); (conv => whnf)))
      exact TeA
  have hc := compareM_runs x y (by omega)
  have one : x < y → ∀ a, Runs Tryz.prog 129 [wD x a, wD y (!a)] (wD (y - x) (!a)) := by
    intro hlt a
    have h1 := less_runs (mg y) (mg x) (pt_mg y) (pt_mg x) (by omega) (by omega) (by rw [mv_mg, mv_mg]; omega)
    rw [mv_mg, mv_mg] at h1
    rw [show cmpN x y = -1 by unfold cmpN; rw [if_pos hlt]] at hc
    cases a
    all_goals
      refine Runs.wp Go.Proofs.YtjldjhlccedkbaaGreatDoor.Am.hT Go.Proofs.YtjldjhlccedkbaaGreatDoor.Am.hm Tryz.func129 rfl (by decide) ⟨[(2, .first 0 (.first 2 (.first 5 (.load 1 [4, 7, 8] (.load 3 [4, 7, 8] (.alt 4 (.load 6 [7, 8] (.first 7 (.alt 8 .done .nil))) (.alt 6 (.alt 4 (.first 7 (.alt 8 .done .nil)) .nil) .nil))))))), (4, .first 0 (.first 2 (.first 5 (.load 1 [4, 7, 8] (.load 3 [4, 7, 8] (.alt 4 (.load 6 [7, 8] (.first 7 (.alt 8 .done .nil))) (.alt 6 (.alt 4 (.first 7 (.alt 8 .done .nil)) .nil) .nil))))))), (5, .first 0 (.first 2 (.first 5 (.load 1 [4, 7, 8] (.load 3 [4, 7, 8] (.alt 4 (.load 6 [7, 8] (.first 7 (.alt 8 .done .nil))) (.alt 6 (.alt 4 (.first 7 (.alt 8 .done .nil)) .nil) .nil)))))))], [0, 1, 2, 3, 4, 5, 19], 42⟩ ?_; ((conv => whnf); repeat ((first | refine Wo ?_ | refine Go1 ?_ | refine Go2 ?_ | refine Go3 ?_ | refine Go4 ?_ | refine ⟨_, rfl, ?_⟩ | refine Mi rfl ?_); (conv => whnf)))
      ((conv => whnf); (refine HfA hc ?_); ((conv => whnf); repeat ((first | refine Wo ?_ | refine Go1 ?_ | refine Go2 ?_ | refine Go3 ?_ | refine Go4 ?_ | refine ⟨_, rfl, ?_⟩ | refine Mi rfl ?_); (conv => whnf))))
      (refine And.intro (by decide +kernel) ?_; apply Exists.intro; apply And.intro; focus ((repeat' ((conv => whnf); first | exact trivial | refine Wo ?_ | refine Lt (by decide) ?_ | refine Lf (by decide) ?_ | refine Cl (by decide) ?_ | refine Cr (by decide) ?_ | refine ⟨_, rfl, ?_⟩ | refine Mi rfl ?_ | (first | (refine HrA h1 ?_)) | (refine And.intro ?_ ?_))); all_goals (first | ((conv => whnf); exact Wk.frc (keep := [0, 1, 2, 3, 4, 5, 19]) (N := 42) (by (conv => whnf); first | done | exact rfl)) | (first | decide | rfl | assumption | omega | (dsimp only; omega) | (unfold maxLen; omega) | ((try dsimp only [maxLen]); simp only [List.length_append, List.length_cons, List.length_nil, List.length_map, List.length_range, List.length_set, List.length_replicate]; omega) | ((try dsimp only [maxLen]); simp only [IntKind.wrap_i64, IntKind.wrap_u64, List.length_append, List.length_cons, List.length_nil, List.length_map, List.length_range, List.length_set, List.length_replicate]; omega) | ((try dsimp only [maxLen]); simp only [List.length_append, List.length_cons, List.length_nil, List.length_map, List.length_range, List.length_set, List.length_replicate] at *; omega)))))
      ((conv => whnf); repeat ((first | refine Wo ?_ | refine Go1 ?_ | refine Go2 ?_ | refine Go3 ?_ | refine Go4 ?_ | refine ⟨_, rfl, ?_⟩ | refine Mi rfl ?_); (conv => whnf)))
      exact TeA
  have two : ¬ x < y → ∀ a, Runs Tryz.prog 129 [wD x a, wD y (!a)] (wD (x - y) a) := by
    intro hlt a
    have h1 := less_runs (mg x) (mg y) (pt_mg x) (pt_mg y) (by omega) (by omega) (by rw [mv_mg, mv_mg]; omega)
    rw [mv_mg, mv_mg] at h1
    have hc0 : decide (cmpN x y < 0) = false := by
      rw [decide_eq_false_iff_not]
      unfold cmpN
      rw [if_neg hlt]
      split <;> omega
    cases a
    all_goals
      refine Runs.wp Go.Proofs.YtjldjhlccedkbaaGreatDoor.Am.hT Go.Proofs.YtjldjhlccedkbaaGreatDoor.Am.hm Tryz.func129 rfl (by decide) ⟨[(2, .first 0 (.first 2 (.first 5 (.load 1 [4, 7, 8] (.load 3 [4, 7, 8] (.alt 4 (.load 6 [7, 8] (.first 7 (.alt 8 .done .nil))) (.alt 6 (.alt 4 (.first 7 (.alt 8 .done .nil)) .nil) .nil))))))), (4, .first 0 (.first 2 (.first 5 (.load 1 [4, 7, 8] (.load 3 [4, 7, 8] (.alt 4 (.load 6 [7, 8] (.first 7 (.alt 8 .done .nil))) (.alt 6 (.alt 4 (.first 7 (.alt 8 .done .nil)) .nil) .nil))))))), (5, .first 0 (.first 2 (.first 5 (.load 1 [4, 7, 8] (.load 3 [4, 7, 8] (.alt 4 (.load 6 [7, 8] (.first 7 (.alt 8 .done .nil))) (.alt 6 (.alt 4 (.first 7 (.alt 8 .done .nil)) .nil) .nil)))))))], [0, 1, 2, 3, 4, 5, 19], 42⟩ ?_; ((conv => whnf); repeat ((first | refine Wo ?_ | refine Go1 ?_ | refine Go2 ?_ | refine Go3 ?_ | refine Go4 ?_ | refine ⟨_, rfl, ?_⟩ | refine Mi rfl ?_); (conv => whnf)))
      ((conv => whnf); (refine HfA hc ?_); ((conv => whnf); repeat ((first | refine Wo ?_ | refine Go1 ?_ | refine Go2 ?_ | refine Go3 ?_ | refine Go4 ?_ | refine ⟨_, rfl, ?_⟩ | refine Mi rfl ?_); (conv => whnf))))
      refine Lf hc0 ?_
      ((conv => whnf); repeat ((first | refine Wo ?_ | refine Go1 ?_ | refine Go2 ?_ | refine Go3 ?_ | refine Go4 ?_ | refine ⟨_, rfl, ?_⟩ | refine Mi rfl ?_); (conv => whnf)))
      (refine And.intro (by decide +kernel) ?_; apply Exists.intro; apply And.intro; focus ((repeat' ((conv => whnf); first | exact trivial | refine Wo ?_ | refine Lt (by decide) ?_ | refine Lf (by decide) ?_ | refine Cl (by decide) ?_ | refine Cr (by decide) ?_ | refine ⟨_, rfl, ?_⟩ | refine Mi rfl ?_ | (first | (refine HrA h1 ?_)) | (refine And.intro ?_ ?_))); all_goals (first | ((conv => whnf); exact Wk.frc (keep := [0, 1, 2, 3, 4, 5, 19]) (N := 42) (by (conv => whnf); first | done | exact rfl)) | (first | decide | rfl | assumption | omega | (dsimp only; omega) | (unfold maxLen; omega) | ((try dsimp only [maxLen]); simp only [List.length_append, List.length_cons, List.length_nil, List.length_map, List.length_range, List.length_set, List.length_replicate]; omega) | ((try dsimp only [maxLen]); simp only [IntKind.wrap_i64, IntKind.wrap_u64, List.length_append, List.length_cons, List.length_nil, List.length_map, List.length_range, List.length_set, List.length_replicate]; omega) | ((try dsimp only [maxLen]); simp only [List.length_append, List.length_cons, List.length_nil, List.length_map, List.length_range, List.length_set, List.length_replicate] at *; omega)))))
      ((conv => whnf); repeat ((first | refine Wo ?_ | refine Go1 ?_ | refine Go2 ?_ | refine Go3 ?_ | refine Go4 ?_ | refine ⟨_, rfl, ?_⟩ | refine Mi rfl ?_); (conv => whnf)))
      exact TeA
  unfold plusW
  by_cases h : (a == b) = true
  · rw [if_pos h, ← show a = b by simpa using h]
    exact same a
  · rw [if_neg h, show b = !a by cases a <;> cases b <;> simp at h ⊢]
    by_cases hlt : x < y
    · rw [if_pos hlt]; exact one hlt a
    · rw [if_neg hlt]; exact two hlt a
theorem told_runs (n : Nat) (b : Bool) (hn : (mg n).length ≤ 1000000) : Runs Tryz.prog 154 [wD n b] (.tup [sD (told (sv n b)).1, iD (told (sv n b)).2]) := by
  have hm := may_runs (itoa (sv n b))
  rw [may_iff] at hm
  have hlen : decide (((mg n).length : Int) > 0) = decide (n ≠ 0) := by
    by_cases h0 : n = 0
    · subst h0; rw [mg_zero]; rfl
    · rw [mg_pos h0, decide_eq_true h0]
      simp
  have ht := text_runs n (b && decide (n ≠ 0)) (fun h => by simpa using (Bool.and_eq_true_iff.1 h).2) hn
  have hs : sv n (b && decide (n ≠ 0)) = sv n b := by
    by_cases h0 : n = 0
    · subst h0; cases b <;> rfl
    · simp [h0]
  rw [hs] at ht
  have go : ∀ c : Bool, decide (Nm.Sm (sv n b)) = c → Runs Tryz.prog 154 [wD n b] (if c = true then .tup [sD (numS (sv n b)), iD 0] else .tup [sD (BA []), iD 8]) := by
    intro c hc
    rw [hc] at hm
    cases b with
    | false =>
      cases c with
      | true =>
        refine Runs.wp Go.Proofs.YtjldjhlccedkbaaGreatDoor.Am.hT Go.Proofs.YtjldjhlccedkbaaGreatDoor.Am.hm Tryz.func154 rfl (by decide) ⟨[], [0, 1, 2, 3, 4, 18], 20⟩ ?_; ((conv => whnf); repeat ((first | refine Wo ?_ | refine Go1 ?_ | refine Go2 ?_ | refine Go3 ?_ | refine Go4 ?_ | refine ⟨_, rfl, ?_⟩ | refine Mi rfl ?_); (conv => whnf)))
        ((conv => whnf); (refine HfA ht ?_); ((conv => whnf); repeat ((first | refine Wo ?_ | refine Go1 ?_ | refine Go2 ?_ | refine Go3 ?_ | refine Go4 ?_ | refine ⟨_, rfl, ?_⟩ | refine Mi rfl ?_); (conv => whnf))))
        ((conv => whnf); (refine HfA hm ?_); ((conv => whnf); repeat ((first | refine Wo ?_ | refine Go1 ?_ | refine Go2 ?_ | refine Go3 ?_ | refine Go4 ?_ | refine ⟨_, rfl, ?_⟩ | refine Mi rfl ?_); (conv => whnf))))
        exact TeA
      | false =>
        refine Runs.wp Go.Proofs.YtjldjhlccedkbaaGreatDoor.Am.hT Go.Proofs.YtjldjhlccedkbaaGreatDoor.Am.hm Tryz.func154 rfl (by decide) ⟨[], [0, 1, 2, 3, 4, 18], 20⟩ ?_; ((conv => whnf); repeat ((first | refine Wo ?_ | refine Go1 ?_ | refine Go2 ?_ | refine Go3 ?_ | refine Go4 ?_ | refine ⟨_, rfl, ?_⟩ | refine Mi rfl ?_); (conv => whnf)))
        ((conv => whnf); (refine HfA ht ?_); ((conv => whnf); repeat ((first | refine Wo ?_ | refine Go1 ?_ | refine Go2 ?_ | refine Go3 ?_ | refine Go4 ?_ | refine ⟨_, rfl, ?_⟩ | refine Mi rfl ?_); (conv => whnf))))
        ((conv => whnf); (refine HfA hm ?_); ((conv => whnf); repeat ((first | refine Wo ?_ | refine Go1 ?_ | refine Go2 ?_ | refine Go3 ?_ | refine Go4 ?_ | refine ⟨_, rfl, ?_⟩ | refine Mi rfl ?_); (conv => whnf))))
        exact TeA
    | true =>
      rw [Bool.true_and] at ht
      cases c with
      | true =>
        refine Runs.wp Go.Proofs.YtjldjhlccedkbaaGreatDoor.Am.hT Go.Proofs.YtjldjhlccedkbaaGreatDoor.Am.hm Tryz.func154 rfl (by decide) ⟨[], [0, 1, 2, 3, 4, 18], 20⟩ ?_; ((conv => whnf); repeat ((first | refine Wo ?_ | refine Go1 ?_ | refine Go2 ?_ | refine Go3 ?_ | refine Go4 ?_ | refine ⟨_, rfl, ?_⟩ | refine Mi rfl ?_); (conv => whnf)))
        refine litE hlen ?_
        ((conv => whnf); repeat ((first | refine Wo ?_ | refine Go1 ?_ | refine Go2 ?_ | refine Go3 ?_ | refine Go4 ?_ | refine ⟨_, rfl, ?_⟩ | refine Mi rfl ?_); (conv => whnf)))
        ((conv => whnf); (refine HfA ht ?_); ((conv => whnf); repeat ((first | refine Wo ?_ | refine Go1 ?_ | refine Go2 ?_ | refine Go3 ?_ | refine Go4 ?_ | refine ⟨_, rfl, ?_⟩ | refine Mi rfl ?_); (conv => whnf))))
        ((conv => whnf); (refine HfA hm ?_); ((conv => whnf); repeat ((first | refine Wo ?_ | refine Go1 ?_ | refine Go2 ?_ | refine Go3 ?_ | refine Go4 ?_ | refine ⟨_, rfl, ?_⟩ | refine Mi rfl ?_); (conv => whnf))))
        exact TeA
      | false =>
        refine Runs.wp Go.Proofs.YtjldjhlccedkbaaGreatDoor.Am.hT Go.Proofs.YtjldjhlccedkbaaGreatDoor.Am.hm Tryz.func154 rfl (by decide) ⟨[], [0, 1, 2, 3, 4, 18], 20⟩ ?_; ((conv => whnf); repeat ((first | refine Wo ?_ | refine Go1 ?_ | refine Go2 ?_ | refine Go3 ?_ | refine Go4 ?_ | refine ⟨_, rfl, ?_⟩ | refine Mi rfl ?_); (conv => whnf)))
        refine litE hlen ?_
        ((conv => whnf); repeat ((first | refine Wo ?_ | refine Go1 ?_ | refine Go2 ?_ | refine Go3 ?_ | refine Go4 ?_ | refine ⟨_, rfl, ?_⟩ | refine Mi rfl ?_); (conv => whnf)))
        ((conv => whnf); (refine HfA ht ?_); ((conv => whnf); repeat ((first | refine Wo ?_ | refine Go1 ?_ | refine Go2 ?_ | refine Go3 ?_ | refine Go4 ?_ | refine ⟨_, rfl, ?_⟩ | refine Mi rfl ?_); (conv => whnf))))
        ((conv => whnf); (refine HfA hm ?_); ((conv => whnf); repeat ((first | refine Wo ?_ | refine Go1 ?_ | refine Go2 ?_ | refine Go3 ?_ | refine Go4 ?_ | refine ⟨_, rfl, ?_⟩ | refine Mi rfl ?_); (conv => whnf))))
        exact TeA
  have := go _ rfl
  unfold told
  by_cases h : Nm.Sm (sv n b)
  · rw [decide_eq_true h, if_pos rfl] at this
    rw [if_pos (show (sv n b).natAbs < 10 ^ 100 from h)]
    exact this
  · rw [decide_eq_false h, if_neg (by decide)] at this
    rw [if_neg (show ¬ (sv n b).natAbs < 10 ^ 100 from h)]
    exact this
end Go.Proofs.YtjldjhlccedkbaaGreatDoor.Am
end
section
/- Numbers divided; what a call tells of two. -/
namespace Go.Proofs.YtjldjhlccedkbaaGreatDoor.Nm
open Go.Lib Go.RowKit
set_option linter.unusedVariables false
set_option linter.unusedSimpArgs false
/-- what divided tells: sizes and signs -/
def divW (x : Nat) (a : Bool) (y : Nat) (b : Bool) : (Nat × Bool) × (Nat × Bool) :=
  if 0 < x % y ∧ a ≠ b then (plusW (x / y) ((a != b) && decide (0 < x / y)) 1 true, plusW (x % y) (a && decide (0 < x % y)) y b)
  else ((x / y, (a != b) && decide (0 < x / y)), (x % y, a && decide (0 < x % y)))
theorem div_sv (X : Nat) (a : Bool) (Y : Nat) (b : Bool) (hY : 0 < Y) : sv (divW X a Y b).1.1 (divW X a Y b).1.2 = fl (sv X a) (sv Y b) ∧ sv (divW X a Y b).2.1 (divW X a Y b).2.2 = fm (sv X a) (sv Y b) := by
  have h1 := Nat.div_add_mod X Y
  have h2 := Nat.mod_lt X hY
  have h3 : (X : Int) = (Y : Int) * ((X / Y : Nat) : Int) + ((X % Y : Nat) : Int) := by rw [← Int.natCast_mul, ← Int.natCast_add, h1]
  have hq : ∀ c : Bool, sv (X / Y) (c && decide (0 < X / Y)) = sv (X / Y) c := fun c => by
    cases c with
    | false => rfl
    | true =>
      by_cases h : 0 < X / Y
      · rw [decide_eq_true h]; rfl
      · rw [decide_eq_false h, Nat.eq_zero_of_not_pos h]; rfl
  have hr : ∀ c : Bool, sv (X % Y) (c && decide (0 < X % Y)) = sv (X % Y) c := fun c => by
    cases c with
    | false => rfl
    | true =>
      by_cases h : 0 < X % Y
      · rw [decide_eq_true h]; rfl
      · rw [decide_eq_false h, Nat.eq_zero_of_not_pos h]; rfl
  have hYi : (0 : Int) < (Y : Int) := by omega
  have nd := neg_div X Y hY
  unfold divW
  by_cases h : 0 < X % Y ∧ a ≠ b
  · rw [if_pos h, plusW_sv, plusW_sv, hq, hr]
    rw [if_neg (fun e => by have := h.1; omega)] at nd
    cases a <;> cases b
    · exact absurd rfl h.2
    · have e : fl (sv X false) (sv Y true) = -((X / Y : Nat) : Int) - 1 := by
        show (if (0 : Int) < -(Y : Int) then _ else (-(X : Int)) / (-(-(Y : Int)))) = _
        rw [if_neg (by omega), Int.neg_neg]
        exact nd
      rw [show fm (sv X false) (sv Y true) = sv X false - sv Y true * fl (sv X false) (sv Y true) from rfl, e]
      simp only [sv, bne, Bool.false_eq_true, if_false, if_true, Bool.not_false, beq_self_eq_true, show (false == true) = false from rfl]
      rw [Int.mul_sub, Int.neg_mul_neg, Int.mul_one]
      have h4 := h3
      generalize ((X / Y : Nat) : Int) = q at *
      generalize ((X % Y : Nat) : Int) = r at *
      generalize (Y : Int) * q = P at *
      first | omega | (refine ⟨trivial, ?_⟩; omega)
    · have e : fl (sv X true) (sv Y false) = -((X / Y : Nat) : Int) - 1 := by
        show (if (0 : Int) < (Y : Int) then (-(X : Int)) / (Y : Int) else _) = _
        rw [if_pos hYi]
        exact nd
      rw [show fm (sv X true) (sv Y false) = sv X true - sv Y false * fl (sv X true) (sv Y false) from rfl, e]
      simp only [sv, bne, Bool.false_eq_true, if_false, if_true, Bool.not_false, beq_self_eq_true, show (true == false) = false from rfl]
      rw [Int.mul_sub, Int.mul_neg, Int.mul_one]
      have h4 := h3
      generalize ((X / Y : Nat) : Int) = q at *
      generalize ((X % Y : Nat) : Int) = r at *
      generalize (Y : Int) * q = P at *
      first | omega | (refine ⟨trivial, ?_⟩; omega)
    · exact absurd rfl h.2
  · rw [if_neg h]
    simp only
    rw [hq, hr]
    cases a <;> cases b
    · have e : fl (sv X false) (sv Y false) = ((X / Y : Nat) : Int) := by
        show (if (0 : Int) < (Y : Int) then (X : Int) / (Y : Int) else _) = _
        rw [if_pos hYi]
        rfl
      rw [show fm (sv X false) (sv Y false) = sv X false - sv Y false * fl (sv X false) (sv Y false) from rfl, e]
      simp only [sv, bne, Bool.false_eq_true, if_false, Bool.not_true, beq_self_eq_true]
      have h4 := h3
      generalize ((X / Y : Nat) : Int) = q at *
      generalize ((X % Y : Nat) : Int) = r at *
      generalize (Y : Int) * q = P at *
      first | omega | (refine ⟨trivial, ?_⟩; omega)
    · have hz : X % Y = 0 := by
        rcases Nat.eq_zero_or_pos (X % Y) with hz | hz
        · exact hz
        · exact absurd ⟨hz, by decide⟩ h
      rw [if_pos hz] at nd
      have e : fl (sv X false) (sv Y true) = -((X / Y : Nat) : Int) := by
        show (if (0 : Int) < -(Y : Int) then _ else (-(X : Int)) / (-(-(Y : Int)))) = _
        rw [if_neg (by omega), Int.neg_neg]
        exact nd
      rw [show fm (sv X false) (sv Y true) = sv X false - sv Y true * fl (sv X false) (sv Y true) from rfl, e]
      simp only [sv, bne, Bool.false_eq_true, if_false, if_true, Bool.not_false, show (false == true) = false from rfl]
      rw [Int.neg_mul_neg]
      have h4 := h3
      generalize ((X / Y : Nat) : Int) = q at *
      generalize ((X % Y : Nat) : Int) = r at *
      generalize (Y : Int) * q = P at *
      first | omega | (refine ⟨trivial, ?_⟩; omega)
    · have hz : X % Y = 0 := by
        rcases Nat.eq_zero_or_pos (X % Y) with hz | hz
        · exact hz
        · exact absurd ⟨hz, by decide⟩ h
      rw [if_pos hz] at nd
      have e : fl (sv X true) (sv Y false) = -((X / Y : Nat) : Int) := by
        show (if (0 : Int) < (Y : Int) then (-(X : Int)) / (Y : Int) else _) = _
        rw [if_pos hYi]
        exact nd
      rw [show fm (sv X true) (sv Y false) = sv X true - sv Y false * fl (sv X true) (sv Y false) from rfl, e]
      simp only [sv, bne, Bool.false_eq_true, if_false, if_true, Bool.not_false, show (true == false) = false from rfl]
      rw [Int.mul_neg]
      have h4 := h3
      generalize ((X / Y : Nat) : Int) = q at *
      generalize ((X % Y : Nat) : Int) = r at *
      generalize (Y : Int) * q = P at *
      first | omega | (refine ⟨trivial, ?_⟩; omega)
    · have e : fl (sv X true) (sv Y true) = ((X / Y : Nat) : Int) := by
        show (if (0 : Int) < -(Y : Int) then _ else (-(-(X : Int))) / (-(-(Y : Int)))) = _
        rw [if_neg (by omega), Int.neg_neg, Int.neg_neg]
        rfl
      rw [show fm (sv X true) (sv Y true) = sv X true - sv Y true * fl (sv X true) (sv Y true) from rfl, e]
      simp only [sv, bne, Bool.false_eq_true, if_true, if_false, Bool.not_true, beq_self_eq_true]
      rw [Int.neg_mul]
      have h4 := h3
      generalize ((X / Y : Nat) : Int) = q at *
      generalize ((X % Y : Nat) : Int) = r at *
      generalize (Y : Int) * q = P at *
      first | omega | (refine ⟨trivial, ?_⟩; omega)
theorem div_len (X Y : Nat) (a b : Bool) (hY : 0 < Y) (hx : (decDigits X).length ≤ 900) (hy : (decDigits Y).length ≤ 900) : (mg (divW X a Y b).1.1).length ≤ 1000000 ∧ (mg (divW X a Y b).2.1).length ≤ 1000000 := by
  have hd : (decDigits (X / Y)).length ≤ 1000 := Nat.le_trans (dec_mono (Nat.div_le_self X Y)) (by omega)
  have hm : (decDigits (X % Y)).length ≤ 1000 := Nat.le_trans (dec_mono (Nat.le_of_lt (Nat.mod_lt X hY))) (by omega)
  have h1 : (decDigits 1).length ≤ 1000 := by rw [decDigits_one (show 1 < 10 by decide)]; decide
  unfold divW
  by_cases h : 0 < X % Y ∧ a ≠ b
  · rw [if_pos h]
    exact ⟨plusW_len _ _ _ _ hd h1, plusW_len _ _ _ _ hm (by omega)⟩
  · rw [if_neg h]
    have := mg_len_nl hd
    have := mg_len_nl hm
    exact ⟨by simp only; omega, by simp only; omega⟩
end Go.Proofs.YtjldjhlccedkbaaGreatDoor.Nm
namespace Go.Proofs.YtjldjhlccedkbaaGreatDoor.Am
open Go Go.Lib Go.RowKit Go.Proofs.YtjldjhlccedkbaaGreatDoor.Nm Go.Proofs.YtjldjhlccedkbaaGreatDoorW.PrintWords Go.Proofs.YtjldjhlccedkbaaGreatDoor
set_option linter.unusedVariables false
set_option linter.unusedSimpArgs false
set_option maxRecDepth 100000
set_option maxHeartbeats 8000000
theorem len_pos (n : Nat) : decide (((mg n).length : Int) > 0) = decide (0 < n) := by
  by_cases h0 : n = 0
  · subst h0; rw [mg_zero]; rfl
  · rw [mg_pos h0, decide_eq_true (show 0 < n by omega)]
    simp
theorem mg_one : mg 1 = [1] := by rw [mg_pos (by decide), show 1 / 1000000000 = 0 from rfl, mg_zero]
theorem divided_runs (x y : Nat) (a b : Bool) (hy : 0 < y) (hlx : (mg x).length ≤ 10000) (hly : (mg y).length ≤ 10000) :
    Runs Tryz.prog 135 [wD x a, wD y b] (.tup [wD (divW x a y b).1.1 (divW x a y b).1.2, wD (divW x a y b).2.1 (divW x a y b).2.2]) := by
  have hq := quotient_runs x y hy (by omega) (by omega)
  have l1 := len_pos (x / y)
  have l2 := len_pos (x % y)
  have s1 : (mg (x / y)).length ≤ 10000 := Nat.le_trans (mg_mono (Nat.div_le_self x y)) hlx
  have s2 : (mg (x % y)).length ≤ 10000 := Nat.le_trans (mg_mono (Nat.le_of_lt (Nat.mod_lt x hy))) hly
  have s3 : (mg 1).length ≤ 90000 := by rw [mg_one]; simp
  have p1 : ∀ c, Runs Tryz.prog 129 [wD (x / y) c, .agg [.sl 1 [uD 1] 1 none, bD true]] (wD (plusW (x / y) c 1 true).1 (plusW (x / y) c 1 true).2) := fun c => by
    have := plus_runs (x / y) 1 c true (by omega) s3
    unfold wD at this ⊢
    rw [mg_one] at this
    exact this
  have p2 : ∀ c, Runs Tryz.prog 129 [wD (x % y) c, wD y b] (wD (plusW (x % y) c y b).1 (plusW (x % y) c y b).2) := fun c => plus_runs (x % y) y c b (by omega) (by omega)
  have key : ∀ P Q : Bool, decide (0 < x / y) = P → decide (0 < x % y) = Q → Runs Tryz.prog 135 [wD x a, wD y b] (if (Q && (a != b)) = true then .tup [wD (plusW (x / y) ((a != b) && P) 1 true).1 (plusW (x / y) ((a != b) && P) 1 true).2, wD (plusW (x % y) (a && Q) y b).1 (plusW (x % y) (a && Q) y b).2] else .tup [wD (x / y) ((a != b) && P), wD (x % y) (a && Q)]) := by
    intro P Q hP hQ
    rw [hP] at l1
    rw [hQ] at l2
    cases Q with
    | false =>
      rw [if_neg (by simp)]
      cases a <;> cases b
      all_goals
        refine Runs.wp Go.Proofs.YtjldjhlccedkbaaGreatDoor.Am.hT Go.Proofs.YtjldjhlccedkbaaGreatDoor.Am.hm Tryz.func135 rfl (by decide) ⟨[(4, .alt 0 (.alt 1 (.first 2 (.alt 3 (.load 4 [6, 7, 8] (.load 5 [6, 7, 8] (.alt 6 (.alt 7 (.alt 8 .done .nil) .nil) .nil))) (.alt 4 (.alt 3 (.load 5 [6, 7, 8] (.alt 6 (.alt 7 (.alt 8 .done .nil) .nil) .nil)) (.alt 5 (.alt 3 (.alt 6 (.alt 7 (.alt 8 .done .nil) .nil) .nil) .nil) .nil)) (.alt 5 (.alt 3 (.load 4 [6, 7, 8] (.alt 6 (.alt 7 (.alt 8 .done .nil) .nil) .nil)) (.alt 4 (.alt 3 (.alt 6 (.alt 7 (.alt 8 .done .nil) .nil) .nil) .nil) .nil)) .nil)))) (.alt 4 (.alt 1 (.first 2 (.alt 3 (.load 5 [6, 7, 8] (.alt 6 (.alt 7 (.alt 8 .done .nil) .nil) .nil)) (.alt 5 (.alt 3 (.alt 6 (.alt 7 (.alt 8 .done .nil) .nil) .nil) .nil) .nil))) (.alt 5 (.alt 1 (.first 2 (.alt 3 (.alt 6 (.alt 7 (.alt 8 .done .nil) .nil) .nil) .nil)) .nil) .nil)) (.alt 5 (.alt 1 (.first 2 (.alt 3 (.load 4 [6, 7, 8] (.alt 6 (.alt 7 (.alt 8 .done .nil) .nil) .nil)) (.alt 4 (.alt 3 (.alt 6 (.alt 7 (.alt 8 .done .nil) .nil) .nil) .nil) .nil))) (.alt 4 (.alt 1 (.first 2 (.alt 3 (.alt 6 (.alt 7 (.alt 8 .done .nil) .nil) .nil) .nil)) .nil) .nil)) .nil))) (.alt 1 (.first 2 (.load 0 [3, 6, 7, 8] (.alt 3 (.load 4 [6, 7, 8] (.load 5 [6, 7, 8] (.alt 6 (.alt 7 (.alt 8 .done .nil) .nil) .nil))) (.alt 4 (.alt 3 (.load 5 [6, 7, 8] (.alt 6 (.alt 7 (.alt 8 .done .nil) .nil) .nil)) (.alt 5 (.alt 3 (.alt 6 (.alt 7 (.alt 8 .done .nil) .nil) .nil) .nil) .nil)) (.alt 5 (.alt 3 (.load 4 [6, 7, 8] (.alt 6 (.alt 7 (.alt 8 .done .nil) .nil) .nil)) (.alt 4 (.alt 3 (.alt 6 (.alt 7 (.alt 8 .done .nil) .nil) .nil) .nil) .nil)) .nil))))) (.alt 4 (.alt 0 (.alt 1 (.first 2 (.alt 3 (.load 5 [6, 7, 8] (.alt 6 (.alt 7 (.alt 8 .done .nil) .nil) .nil)) (.alt 5 (.alt 3 (.alt 6 (.alt 7 (.alt 8 .done .nil) .nil) .nil) .nil) .nil))) (.alt 5 (.alt 1 (.first 2 (.alt 3 (.alt 6 (.alt 7 (.alt 8 .done .nil) .nil) .nil) .nil)) .nil) .nil)) (.alt 1 (.first 2 (.load 0 [3, 6, 7, 8] (.alt 3 (.load 5 [6, 7, 8] (.alt 6 (.alt 7 (.alt 8 .done .nil) .nil) .nil)) (.alt 5 (.alt 3 (.alt 6 (.alt 7 (.alt 8 .done .nil) .nil) .nil) .nil) .nil)))) (.alt 5 (.alt 0 (.alt 1 (.first 2 (.alt 3 (.alt 6 (.alt 7 (.alt 8 .done .nil) .nil) .nil) .nil)) .nil) (.alt 1 (.first 2 (.load 0 [3, 6, 7, 8] (.alt 3 (.alt 6 (.alt 7 (.alt 8 .done .nil) .nil) .nil) .nil))) .nil)) .nil))) (.alt 5 (.alt 0 (.alt 1 (.first 2 (.alt 3 (.load 4 [6, 7, 8] (.alt 6 (.alt 7 (.alt 8 .done .nil) .nil) .nil)) (.alt 4 (.alt 3 (.alt 6 (.alt 7 (.alt 8 .done .nil) .nil) .nil) .nil) .nil))) (.alt 4 (.alt 1 (.first 2 (.alt 3 (.alt 6 (.alt 7 (.alt 8 .done .nil) .nil) .nil) .nil)) .nil) .nil)) (.alt 1 (.first 2 (.load 0 [3, 6, 7, 8] (.alt 3 (.load 4 [6, 7, 8] (.alt 6 (.alt 7 (.alt 8 .done .nil) .nil) .nil)) (.alt 4 (.alt 3 (.alt 6 (.alt 7 (.alt 8 .done .nil) .nil) .nil) .nil) .nil)))) (.alt 4 (.alt 0 (.alt 1 (.first 2 (.alt 3 (.alt 6 (.alt 7 (.alt 8 .done .nil) .nil) .nil) .nil)) .nil) (.alt 1 (.first 2 (.load 0 [3, 6, 7, 8] (.alt 3 (.alt 6 (.alt 7 (.alt 8 .done .nil) .nil) .nil) .nil))) .nil)) .nil))) .nil)))), (5, .load 0 [2, 3] (.alt 1 (.alt 2 (.alt 3 .done .nil) .nil) (.alt 2 (.load 1 [3] (.alt 3 .done .nil)) .nil)))], [0, 1, 2, 3, 4, 5, 6, 7, 8, 9, 48], 58⟩ ?_; ((conv => whnf); repeat ((first | refine Wo ?_ | refine Go1 ?_ | refine Go2 ?_ | refine Go3 ?_ | refine Go4 ?_ | refine ⟨_, rfl, ?_⟩ | refine Mi rfl ?_); (conv => whnf)))
        ((conv => whnf); (refine HrA hq ?_); ((conv => whnf); repeat ((first | refine Wo ?_ | refine Go1 ?_ | refine Go2 ?_ | refine Go3 ?_ | refine Go4 ?_ | refine ⟨_, rfl, ?_⟩ | refine Mi rfl ?_); (conv => whnf))))
        (repeat (first | refine litE l1 ?_ | refine litE l2 ?_); ((conv => whnf); repeat ((first | refine Wo ?_ | refine Go1 ?_ | refine Go2 ?_ | refine Go3 ?_ | refine Go4 ?_ | refine ⟨_, rfl, ?_⟩ | refine Mi rfl ?_); (conv => whnf))))
        (refine And.intro (by decide +kernel) ?_; apply Exists.intro; apply And.intro; focus ((repeat' ((conv => whnf); first | exact trivial | refine Wo ?_ | refine Lt (by decide) ?_ | refine Lf (by decide) ?_ | refine Cl (by decide) ?_ | refine Cr (by decide) ?_ | refine ⟨_, rfl, ?_⟩ | refine Mi rfl ?_ | (first | exact trivial) | (refine And.intro ?_ ?_))); all_goals (first | ((conv => whnf); exact Wk.frc (keep := [0, 1, 2, 3, 4, 5, 6, 7, 8, 9, 48]) (N := 58) (by (conv => whnf); first | done | exact rfl)) | (first | decide | rfl | assumption | omega | (dsimp only; omega) | (unfold maxLen; omega) | ((try dsimp only [maxLen]); simp only [List.length_append, List.length_cons, List.length_nil, List.length_map, List.length_range, List.length_set, List.length_replicate]; omega) | ((try dsimp only [maxLen]); simp only [IntKind.wrap_i64, IntKind.wrap_u64, List.length_append, List.length_cons, List.length_nil, List.length_map, List.length_range, List.length_set, List.length_replicate]; omega) | ((try dsimp only [maxLen]); simp only [List.length_append, List.length_cons, List.length_nil, List.length_map, List.length_range, List.length_set, List.length_replicate] at *; omega)))))
        ((conv => whnf); repeat ((first | refine Wo ?_ | refine Go1 ?_ | refine Go2 ?_ | refine Go3 ?_ | refine Go4 ?_ | refine ⟨_, rfl, ?_⟩ | refine Mi rfl ?_); (conv => whnf)))
        exact TeA
    | true =>
      cases a <;> cases b
      · rw [if_neg (by decide)]
        refine Runs.wp Go.Proofs.YtjldjhlccedkbaaGreatDoor.Am.hT Go.Proofs.YtjldjhlccedkbaaGreatDoor.Am.hm Tryz.func135 rfl (by decide) ⟨[(4, .alt 0 (.alt 1 (.first 2 (.alt 3 (.load 4 [6, 7, 8] (.load 5 [6, 7, 8] (.alt 6 (.alt 7 (.alt 8 .done .nil) .nil) .nil))) (.alt 4 (.alt 3 (.load 5 [6, 7, 8] (.alt 6 (.alt 7 (.alt 8 .done .nil) .nil) .nil)) (.alt 5 (.alt 3 (.alt 6 (.alt 7 (.alt 8 .done .nil) .nil) .nil) .nil) .nil)) (.alt 5 (.alt 3 (.load 4 [6, 7, 8] (.alt 6 (.alt 7 (.alt 8 .done .nil) .nil) .nil)) (.alt 4 (.alt 3 (.alt 6 (.alt 7 (.alt 8 .done .nil) .nil) .nil) .nil) .nil)) .nil)))) (.alt 4 (.alt 1 (.first 2 (.alt 3 (.load 5 [6, 7, 8] (.alt 6 (.alt 7 (.alt 8 .done .nil) .nil) .nil)) (.alt 5 (.alt 3 (.alt 6 (.alt 7 (.alt 8 .done .nil) .nil) .nil) .nil) .nil))) (.alt 5 (.alt 1 (.first 2 (.alt 3 (.alt 6 (.alt 7 (.alt 8 .done .nil) .nil) .nil) .nil)) .nil) .nil)) (.alt 5 (.alt 1 (.first 2 (.alt 3 (.load 4 [6, 7, 8] (.alt 6 (.alt 7 (.alt 8 .done .nil) .nil) .nil)) (.alt 4 (.alt 3 (.alt 6 (.alt 7 (.alt 8 .done .nil) .nil) .nil) .nil) .nil))) (.alt 4 (.alt 1 (.first 2 (.alt 3 (.alt 6 (.alt 7 (.alt 8 .done .nil) .nil) .nil) .nil)) .nil) .nil)) .nil))) (.alt 1 (.first 2 (.load 0 [3, 6, 7, 8] (.alt 3 (.load 4 [6, 7, 8] (.load 5 [6, 7, 8] (.alt 6 (.alt 7 (.alt 8 .done .nil) .nil) .nil))) (.alt 4 (.alt 3 (.load 5 [6, 7, 8] (.alt 6 (.alt 7 (.alt 8 .done .nil) .nil) .nil)) (.alt 5 (.alt 3 (.alt 6 (.alt 7 (.alt 8 .done .nil) .nil) .nil) .nil) .nil)) (.alt 5 (.alt 3 (.load 4 [6, 7, 8] (.alt 6 (.alt 7 (.alt 8 .done .nil) .nil) .nil)) (.alt 4 (.alt 3 (.alt 6 (.alt 7 (.alt 8 .done .nil) .nil) .nil) .nil) .nil)) .nil))))) (.alt 4 (.alt 0 (.alt 1 (.first 2 (.alt 3 (.load 5 [6, 7, 8] (.alt 6 (.alt 7 (.alt 8 .done .nil) .nil) .nil)) (.alt 5 (.alt 3 (.alt 6 (.alt 7 (.alt 8 .done .nil) .nil) .nil) .nil) .nil))) (.alt 5 (.alt 1 (.first 2 (.alt 3 (.alt 6 (.alt 7 (.alt 8 .done .nil) .nil) .nil) .nil)) .nil) .nil)) (.alt 1 (.first 2 (.load 0 [3, 6, 7, 8] (.alt 3 (.load 5 [6, 7, 8] (.alt 6 (.alt 7 (.alt 8 .done .nil) .nil) .nil)) (.alt 5 (.alt 3 (.alt 6 (.alt 7 (.alt 8 .done .nil) .nil) .nil) .nil) .nil)))) (.alt 5 (.alt 0 (.alt 1 (.first 2 (.alt 3 (.alt 6 (.alt 7 (.alt 8 .done .nil) .nil) .nil) .nil)) .nil) (.alt 1 (.first 2 (.load 0 [3, 6, 7, 8] (.alt 3 (.alt 6 (.alt 7 (.alt 8 .done .nil) .nil) .nil) .nil))) .nil)) .nil))) (.alt 5 (.alt 0 (.alt 1 (.first 2 (.alt 3 (.load 4 [6, 7, 8] (.alt 6 (.alt 7 (.alt 8 .done .nil) .nil) .nil)) (.alt 4 (.alt 3 (.alt 6 (.alt 7 (.alt 8 .done .nil) .nil) .nil) .nil) .nil))) (.alt 4 (.alt 1 (.first 2 (.alt 3 (.alt 6 (.alt 7 (.alt 8 .done .nil) .nil) .nil) .nil)) .nil) .nil)) (.alt 1 (.first 2 (.load 0 [3, 6, 7, 8] (.alt 3 (.load 4 [6, 7, 8] (.alt 6 (.alt 7 (.alt 8 .done .nil) .nil) .nil)) (.alt 4 (.alt 3 (.alt 6 (.alt 7 (.alt 8 .done .nil) .nil) .nil) .nil) .nil)))) (.alt 4 (.alt 0 (.alt 1 (.first 2 (.alt 3 (.alt 6 (.alt 7 (.alt 8 .done .nil) .nil) .nil) .nil)) .nil) (.alt 1 (.first 2 (.load 0 [3, 6, 7, 8] (.alt 3 (.alt 6 (.alt 7 (.alt 8 .done .nil) .nil) .nil) .nil))) .nil)) .nil))) .nil)))), (5, .load 0 [2, 3] (.alt 1 (.alt 2 (.alt 3 .done .nil) .nil) (.alt 2 (.load 1 [3] (.alt 3 .done .nil)) .nil)))], [0, 1, 2, 3, 4, 5, 6, 7, 8, 9, 48], 58⟩ ?_; ((conv => whnf); repeat ((first | refine Wo ?_ | refine Go1 ?_ | refine Go2 ?_ | refine Go3 ?_ | refine Go4 ?_ | refine ⟨_, rfl, ?_⟩ | refine Mi rfl ?_); (conv => whnf)))
        ((conv => whnf); (refine HrA hq ?_); ((conv => whnf); repeat ((first | refine Wo ?_ | refine Go1 ?_ | refine Go2 ?_ | refine Go3 ?_ | refine Go4 ?_ | refine ⟨_, rfl, ?_⟩ | refine Mi rfl ?_); (conv => whnf))))
        (repeat (first | refine litE l1 ?_ | refine litE l2 ?_); ((conv => whnf); repeat ((first | refine Wo ?_ | refine Go1 ?_ | refine Go2 ?_ | refine Go3 ?_ | refine Go4 ?_ | refine ⟨_, rfl, ?_⟩ | refine Mi rfl ?_); (conv => whnf))))
        (refine And.intro (by decide +kernel) ?_; apply Exists.intro; apply And.intro; focus ((repeat' ((conv => whnf); first | exact trivial | refine Wo ?_ | refine Lt (by decide) ?_ | refine Lf (by decide) ?_ | refine Cl (by decide) ?_ | refine Cr (by decide) ?_ | refine ⟨_, rfl, ?_⟩ | refine Mi rfl ?_ | (first | exact trivial) | (refine And.intro ?_ ?_))); all_goals (first | ((conv => whnf); exact Wk.frc (keep := [0, 1, 2, 3, 4, 5, 6, 7, 8, 9, 48]) (N := 58) (by (conv => whnf); first | done | exact rfl)) | (first | decide | rfl | assumption | omega | (dsimp only; omega) | (unfold maxLen; omega) | ((try dsimp only [maxLen]); simp only [List.length_append, List.length_cons, List.length_nil, List.length_map, List.length_range, List.length_set, List.length_replicate]; omega) | ((try dsimp only [maxLen]); simp only [IntKind.wrap_i64, IntKind.wrap_u64, List.length_append, List.length_cons, List.length_nil, List.length_map, List.length_range, List.length_set, List.length_replicate]; omega) | ((try dsimp only [maxLen]); simp only [List.length_append, List.length_cons, List.length_nil, List.length_map, List.length_range, List.length_set, List.length_replicate] at *; omega)))))
        ((conv => whnf); repeat ((first | refine Wo ?_ | refine Go1 ?_ | refine Go2 ?_ | refine Go3 ?_ | refine Go4 ?_ | refine ⟨_, rfl, ?_⟩ | refine Mi rfl ?_); (conv => whnf)))
        exact TeA
      · rw [if_pos (by decide)]
        have q1 := p1 P
        have q2 := p2 false
        cases P
        all_goals
          refine Runs.wp Go.Proofs.YtjldjhlccedkbaaGreatDoor.Am.hT Go.Proofs.YtjldjhlccedkbaaGreatDoor.Am.hm Tryz.func135 rfl (by decide) ⟨[(4, .alt 0 (.alt 1 (.first 2 (.alt 3 (.load 4 [6, 7, 8] (.load 5 [6, 7, 8] (.alt 6 (.alt 7 (.alt 8 .done .nil) .nil) .nil))) (.alt 4 (.alt 3 (.load 5 [6, 7, 8] (.alt 6 (.alt 7 (.alt 8 .done .nil) .nil) .nil)) (.alt 5 (.alt 3 (.alt 6 (.alt 7 (.alt 8 .done .nil) .nil) .nil) .nil) .nil)) (.alt 5 (.alt 3 (.load 4 [6, 7, 8] (.alt 6 (.alt 7 (.alt 8 .done .nil) .nil) .nil)) (.alt 4 (.alt 3 (.alt 6 (.alt 7 (.alt 8 .done .nil) .nil) .nil) .nil) .nil)) .nil)))) (.alt 4 (.alt 1 (.first 2 (.alt 3 (.load 5 [6, 7, 8] (.alt 6 (.alt 7 (.alt 8 .done .nil) .nil) .nil)) (.alt 5 (.alt 3 (.alt 6 (.alt 7 (.alt 8 .done .nil) .nil) .nil) .nil) .nil))) (.alt 5 (.alt 1 (.first 2 (.alt 3 (.alt 6 (.alt 7 (.alt 8 .done .nil) .nil) .nil) .nil)) .nil) .nil)) (.alt 5 (.alt 1 (.first 2 (.alt 3 (.load 4 [6, 7, 8] (.alt 6 (.alt 7 (.alt 8 .done .nil) .nil) .nil)) (.alt 4 (.alt 3 (.alt 6 (.alt 7 (.alt 8 .done .nil) .nil) .nil) .nil) .nil))) (.alt 4 (.alt 1 (.first 2 (.alt 3 (.alt 6 (.alt 7 (.alt 8 .done .nil) .nil) .nil) .nil)) .nil) .nil)) .nil))) (.alt 1 (.first 2 (.load 0 [3, 6, 7, 8] (.alt 3 (.load 4 [6, 7, 8] (.load 5 [6, 7, 8] (.alt 6 (.alt 7 (.alt 8 .done .nil) .nil) .nil))) (.alt 4 (.alt 3 (.load 5 [6, 7, 8] (.alt 6 (.alt 7 (.alt 8 .done .nil) .nil) .nil)) (.alt 5 (.alt 3 (.alt 6 (.alt 7 (.alt 8 .done .nil) .nil) .nil) .nil) .nil)) (.alt 5 (.alt 3 (.load 4 [6, 7, 8] (.alt 6 (.alt 7 (.alt 8 .done .nil) .nil) .nil)) (.alt 4 (.alt 3 (.alt 6 (.alt 7 (.alt 8 .done .nil) .nil) .nil) .nil) .nil)) .nil))))) (.alt 4 (.alt 0 (.alt 1 (.first 2 (.alt 3 (.load 5 [6, 7, 8] (.alt 6 (.alt 7 (.alt 8 .done .nil) .nil) .nil)) (.alt 5 (.alt 3 (.alt 6 (.alt 7 (.alt 8 .done .nil) .nil) .nil) .nil) .nil))) (.alt 5 (.alt 1 (.first 2 (.alt 3 (.alt 6 (.alt 7 (.alt 8 .done .nil) .nil) .nil) .nil)) .nil) .nil)) (.alt 1 (.first 2 (.load 0 [3, 6, 7, 8] (.alt 3 (.load 5 [6, 7, 8] (.alt 6 (.alt 7 (.alt 8 .done .nil) .nil) .nil)) (.alt 5 (.alt 3 (.alt 6 (.alt 7 (.alt 8 .done .nil) .nil) .nil) .nil) .nil)))) (.alt 5 (.alt 0 (.alt 1 (.first 2 (.alt 3 (.alt 6 (.alt 7 (.alt 8 .done .nil) .nil) .nil) .nil)) .nil) (.alt 1 (.first 2 (.load 0 [3, 6, 7, 8] (.alt 3 (.alt 6 (.alt 7 (.alt 8 .done .nil) .nil) .nil) .nil))) .nil)) .nil))) (.alt 5 (.alt 0 (.alt 1 (.first 2 (.alt 3 (.load 4 [6, 7, 8] (.alt 6 (.alt 7 (.alt 8 .done .nil) .nil) .nil)) (.alt 4 (.alt 3 (.alt 6 (.alt 7 (.alt 8 .done .nil) .nil) .nil) .nil) .nil))) (.alt 4 (.alt 1 (.first 2 (.alt 3 (.alt 6 (.alt 7 (.alt 8 .done .nil) .nil) .nil) .nil)) .nil) .nil)) (.alt 1 (.first 2 (.load 0 [3, 6, 7, 8] (.alt 3 (.load 4 [6, 7, 8] (.alt 6 (.alt 7 (.alt 8 .done .nil) .nil) .nil)) (.alt 4 (.alt 3 (.alt 6 (.alt 7 (.alt 8 .done .nil) .nil) .nil) .nil) .nil)))) (.alt 4 (.alt 0 (.alt 1 (.first 2 (.alt 3 (.alt 6 (.alt 7 (.alt 8 .done .nil) .nil) .nil) .nil)) .nil) (.alt 1 (.first 2 (.load 0 [3, 6, 7, 8] (.alt 3 (.alt 6 (.alt 7 (.alt 8 .done .nil) .nil) .nil) .nil))) .nil)) .nil))) .nil)))), (5, .load 0 [2, 3] (.alt 1 (.alt 2 (.alt 3 .done .nil) .nil) (.alt 2 (.load 1 [3] (.alt 3 .done .nil)) .nil)))], [0, 1, 2, 3, 4, 5, 6, 7, 8, 9, 48], 58⟩ ?_; ((conv => whnf); repeat ((first | refine Wo ?_ | refine Go1 ?_ | refine Go2 ?_ | refine Go3 ?_ | refine Go4 ?_ | refine ⟨_, rfl, ?_⟩ | refine Mi rfl ?_); (conv => whnf)))
          ((conv => whnf); (refine HrA hq ?_); ((conv => whnf); repeat ((first | refine Wo ?_ | refine Go1 ?_ | refine Go2 ?_ | refine Go3 ?_ | refine Go4 ?_ | refine ⟨_, rfl, ?_⟩ | refine Mi rfl ?_); (conv => whnf))))
          (repeat (first | refine litE l1 ?_ | refine litE l2 ?_); ((conv => whnf); repeat ((first | refine Wo ?_ | refine Go1 ?_ | refine Go2 ?_ | refine Go3 ?_ | refine Go4 ?_ | refine ⟨_, rfl, ?_⟩ | refine Mi rfl ?_); (conv => whnf))))
          (refine And.intro (by decide +kernel) ?_; apply Exists.intro; apply And.intro; focus ((repeat' ((conv => whnf); first | exact trivial | refine Wo ?_ | refine Lt (by decide) ?_ | refine Lf (by decide) ?_ | refine Cl (by decide) ?_ | refine Cr (by decide) ?_ | refine ⟨_, rfl, ?_⟩ | refine Mi rfl ?_ | (first | (refine HrA q1 ?_) | (refine HrA q2 ?_)) | (refine And.intro ?_ ?_))); all_goals (first | ((conv => whnf); exact Wk.frc (keep := [0, 1, 2, 3, 4, 5, 6, 7, 8, 9, 48]) (N := 58) (by (conv => whnf); first | done | exact rfl)) | (first | decide | rfl | assumption | omega | (dsimp only; omega) | (unfold maxLen; omega) | ((try dsimp only [maxLen]); simp only [List.length_append, List.length_cons, List.length_nil, List.length_map, List.length_range, List.length_set, List.length_replicate]; omega) | ((try dsimp only [maxLen]); simp only [IntKind.wrap_i64, IntKind.wrap_u64, List.length_append, List.length_cons, List.length_nil, List.length_map, List.length_range, List.length_set, List.length_replicate]; omega) | ((try dsimp only [maxLen]); simp only [List.length_append, List.length_cons, List.length_nil, List.length_map, List.length_range, List.length_set, List.length_replicate] at *; omega)))))
          ((conv => whnf); repeat ((first | refine Wo ?_ | refine Go1 ?_ | refine Go2 ?_ | refine Go3 ?_ | refine Go4 ?_ | refine ⟨_, rfl, ?_⟩ | refine Mi rfl ?_); (conv => whnf)))
          (refine And.intro (by decide +kernel) ?_; apply Exists.intro; apply And.intro; focus ((repeat' ((conv => whnf); first | exact trivial | refine Wo ?_ | refine Lt (by decide) ?_ | refine Lf (by decide) ?_ | refine Cl (by decide) ?_ | refine Cr (by decide) ?_ | refine ⟨_, rfl, ?_⟩ | refine Mi rfl ?_ | (first | exact trivial) | (refine And.intro ?_ ?_))); all_goals (first | ((conv => whnf); exact Wk.frc (keep := [0, 1, 2, 3, 4, 5, 6, 7, 8, 9, 48]) (N := 58) (by (conv => whnf); first | done | exact rfl)) | (first | decide | rfl | assumption | omega | (dsimp only; omega) | (unfold maxLen; omega) | ((try dsimp only [maxLen]); simp only [List.length_append, List.length_cons, List.length_nil, List.length_map, List.length_range, List.length_set, List.length_replicate]; omega) | ((try dsimp only [maxLen]); simp only [IntKind.wrap_i64, IntKind.wrap_u64, List.length_append, List.length_cons, List.length_nil, List.length_map, List.length_range, List.length_set, List.length_replicate]; omega) | ((try dsimp only [maxLen]); simp only [List.length_append, List.length_cons, List.length_nil, List.length_map, List.length_range, List.length_set, List.length_replicate] at *; omega)))))
          ((conv => whnf); repeat ((first | refine Wo ?_ | refine Go1 ?_ | refine Go2 ?_ | refine Go3 ?_ | refine Go4 ?_ | refine ⟨_, rfl, ?_⟩ | refine Mi rfl ?_); (conv => whnf)))
          exact TeA
      · rw [if_pos (by decide)]
        have q1 := p1 P
        have q2 := p2 true
        cases P
        all_goals
          refine Runs.wp Go.Proofs.YtjldjhlccedkbaaGreatDoor.Am.hT Go.Proofs.YtjldjhlccedkbaaGreatDoor.Am.hm Tryz.func135 rfl (by decide) ⟨[(4, .alt 0 (.alt 1 (.first 2 (.alt 3 (.load 4 [6, 7, 8] (.load 5 [6, 7, 8] (.alt 6 (.alt 7 (.alt 8 .done .nil) .nil) .nil))) (.alt 4 (.alt 3 (.load 5 [6, 7, 8] (.alt 6 (.alt 7 (.alt 8 .done .nil) .nil) .nil)) (.alt 5 (.alt 3 (.alt 6 (.alt 7 (.alt 8 .done .nil) .nil) .nil) .nil) .nil)) (.alt 5 (.alt 3 (.load 4 [6, 7, 8] (.alt 6 (.alt 7 (.alt 8 .done .nil) .nil) .nil)) (.alt 4 (.alt 3 (.alt 6 (.alt 7 (.alt 8 .done .nil) .nil) .nil) .nil) .nil)) .nil)))) (.alt 4 (.alt 1 (.first 2 (.alt 3 (.load 5 [6, 7, 8] (.alt 6 (.alt 7 (.alt 8 .done .nil) .nil) .nil)) (.alt 5 (.alt 3 (.alt 6 (.alt 7 (.alt 8 .done .nil) .nil) .nil) .nil) .nil))) (.alt 5 (.alt 1 (.first 2 (.alt 3 (.alt 6 (.alt 7 (.alt 8 .done .nil) .nil) .nil) .nil)) .nil) .nil)) (.alt 5 (.alt 1 (.first 2 (.alt 3 (.load 4 [6, 7, 8] (.alt 6 (.alt 7 (.alt 8 .done .nil) .nil) .nil)) (.alt 4 (.alt 3 (.alt 6 (.alt 7 (.alt 8 .done .nil) .nil) .nil) .nil) .nil))) (.alt 4 (.alt 1 (.first 2 (.alt 3 (.alt 6 (.alt 7 (.alt 8 .done .nil) .nil) .nil) .nil)) .nil) .nil)) .nil))) (.alt 1 (.first 2 (.load 0 [3, 6, 7, 8] (.alt 3 (.load 4 [6, 7, 8] (.load 5 [6, 7, 8] (.alt 6 (.alt 7 (.alt 8 .done .nil) .nil) .nil))) (.alt 4 (.alt 3 (.load 5 [6, 7, 8] (.alt 6 (.alt 7 (.alt 8 .done .nil) .nil) .nil)) (.alt 5 (.alt 3 (.alt 6 (.alt 7 (.alt 8 .done .nil) .nil) .nil) .nil) .nil)) (.alt 5 (.alt 3 (.load 4 [6, 7, 8] (.alt 6 (.alt 7 (.alt 8 .done .nil) .nil) .nil)) (.alt 4 (.alt 3 (.alt 6 (.alt 7 (.alt 8 .done .nil) .nil) .nil) .nil) .nil)) .nil))))) (.alt 4 (.alt 0 (.alt 1 (.first 2 (.alt 3 (.load 5 [6, 7, 8] (.alt 6 (.alt 7 (.alt 8 .done .nil) .nil) .nil)) (.alt 5 (.alt 3 (.alt 6 (.alt 7 (.alt 8 .done .nil) .nil) .nil) .nil) .nil))) (.alt 5 (.alt 1 (.first 2 (.alt 3 (.alt 6 (.alt 7 (.alt 8 .done .nil) .nil) .nil) .nil)) .nil) .nil)) (.alt 1 (.first 2 (.load 0 [3, 6, 7, 8] (.alt 3 (.load 5 [6, 7, 8] (.alt 6 (.alt 7 (.alt 8 .done .nil) .nil) .nil)) (.alt 5 (.alt 3 (.alt 6 (.alt 7 (.alt 8 .done .nil) .nil) .nil) .nil) .nil)))) (.alt 5 (.alt 0 (.alt 1 (.first 2 (.alt 3 (.alt 6 (.alt 7 (.alt 8 .done .nil) .nil) .nil) .nil)) .nil) (.alt 1 (.first 2 (.load 0 [3, 6, 7, 8] (.alt 3 (.alt 6 (.alt 7 (.alt 8 .done .nil) .nil) .nil) .nil))) .nil)) .nil))) (.alt 5 (.alt 0 (.alt 1 (.first 2 (.alt 3 (.load 4 [6, 7, 8] (.alt 6 (.alt 7 (.alt 8 .done .nil) .nil) .nil)) (.alt 4 (.alt 3 (.alt 6 (.alt 7 (.alt 8 .done .nil) .nil) .nil) .nil) .nil))) (.alt 4 (.alt 1 (.first 2 (.alt 3 (.alt 6 (.alt 7 (.alt 8 .done .nil) .nil) .nil) .nil)) .nil) .nil)) (.alt 1 (.first 2 (.load 0 [3, 6, 7, 8] (.alt 3 (.load 4 [6, 7, 8] (.alt 6 (.alt 7 (.alt 8 .done .nil) .nil) .nil)) (.alt 4 (.alt 3 (.alt 6 (.alt 7 (.alt 8 .done .nil) .nil) .nil) .nil) .nil)))) (.alt 4 (.alt 0 (.alt 1 (.first 2 (.alt 3 (.alt 6 (.alt 7 (.alt 8 .done .nil) .nil) .nil) .nil)) .nil) (.alt 1 (.first 2 (.load 0 [3, 6, 7, 8] (.alt 3 (.alt 6 (.alt 7 (.alt 8 .done .nil) .nil) .nil) .nil))) .nil)) .nil))) .nil)))), (5, .load 0 [2, 3] (.alt 1 (.alt 2 (.alt 3 .done .nil) .nil) (.alt 2 (.load 1 [3] (.alt 3 .done .nil)) .nil)))], [0, 1, 2, 3, 4, 5, 6, 7, 8, 9, 48], 58⟩ ?_; ((conv => whnf); repeat ((first | refine Wo ?_ | refine Go1 ?_ | refine Go2 ?_ | refine Go3 ?_ | refine Go4 ?_ | refine ⟨_, rfl, ?_⟩ | refine Mi rfl ?_); (conv => whnf)))
          ((conv => whnf); (refine HrA hq ?_); ((conv => whnf); repeat ((first | refine Wo ?_ | refine Go1 ?_ | refine Go2 ?_ | refine Go3 ?_ | refine Go4 ?_ | refine ⟨_, rfl, ?_⟩ | refine Mi rfl ?_); (conv => whnf))))
          (repeat (first | refine litE l1 ?_ | refine litE l2 ?_); ((conv => whnf); repeat ((first | refine Wo ?_ | refine Go1 ?_ | refine Go2 ?_ | refine Go3 ?_ | refine Go4 ?_ | refine ⟨_, rfl, ?_⟩ | refine Mi rfl ?_); (conv => whnf))))
          (refine And.intro (by decide +kernel) ?_; apply Exists.intro; apply And.intro; focus ((repeat' ((conv => whnf); first | exact trivial | refine Wo ?_ | refine Lt (by decide) ?_ | refine Lf (by decide) ?_ | refine Cl (by decide) ?_ | refine Cr (by decide) ?_ | refine ⟨_, rfl, ?_⟩ | refine Mi rfl ?_ | (first | (refine HrA q1 ?_) | (refine HrA q2 ?_)) | (refine And.intro ?_ ?_))); all_goals (first | ((conv => whnf); exact Wk.frc (keep := [0, 1, 2, 3, 4, 5, 6, 7, 8, 9, 48]) (N := 58) (by (conv => whnf); first | done | exact rfl)) | (first | decide | rfl | assumption | omega | (dsimp only; omega) | (unfold maxLen; omega) | ((try dsimp only [maxLen]); simp only [List.length_append, List.length_cons, List.length_nil, List.length_map, List.length_range, List.length_set, List.length_replicate]; omega) | ((try dsimp only [maxLen]); simp only [IntKind.wrap_i64, IntKind.wrap_u64, List.length_append, List.length_cons, List.length_nil, List.length_map, List.length_range, List.length_set, List.length_replicate]; omega) | ((try dsimp only [maxLen]); simp only [List.length_append, List.length_cons, List.length_nil, List.length_map, List.length_range, List.length_set, List.length_replicate] at *; omega)))))
          ((conv => whnf); repeat ((first | refine Wo ?_ | refine Go1 ?_ | refine Go2 ?_ | refine Go3 ?_ | refine Go4 ?_ | refine ⟨_, rfl, ?_⟩ | refine Mi rfl ?_); (conv => whnf)))
          (refine And.intro (by decide +kernel) ?_; apply Exists.intro; apply And.intro; focus ((repeat' ((conv => whnf); first | exact trivial | refine Wo ?_ | refine Lt (by decide) ?_ | refine Lf (by decide) ?_ | refine Cl (by decide) ?_ | refine Cr (by decide) ?_ | refine ⟨_, rfl, ?_⟩ | refine Mi rfl ?_ | (first | exact trivial) | (refine And.intro ?_ ?_))); all_goals (first | ((conv => whnf); exact Wk.frc (keep := [0, 1, 2, 3, 4, 5, 6, 7, 8, 9, 48]) (N := 58) (by (conv => whnf); first | done | exact rfl)) | (first | decide | rfl | assumption | omega | (dsimp only; omega) | (unfold maxLen; omega) | ((try dsimp only [maxLen]); simp only [List.length_append, List.length_cons, List.length_nil, List.length_map, List.length_range, List.length_set, List.length_replicate]; omega) | ((try dsimp only [maxLen]); simp only [IntKind.wrap_i64, IntKind.wrap_u64, List.length_append, List.length_cons, List.length_nil, List.length_map, List.length_range, List.length_set, List.length_replicate]; omega) | ((try dsimp only [maxLen]); simp only [List.length_append, List.length_cons, List.length_nil, List.length_map, List.length_range, List.length_set, List.length_replicate] at *; omega)))))
          ((conv => whnf); repeat ((first | refine Wo ?_ | refine Go1 ?_ | refine Go2 ?_ | refine Go3 ?_ | refine Go4 ?_ | refine ⟨_, rfl, ?_⟩ | refine Mi rfl ?_); (conv => whnf)))
          exact TeA
      · rw [if_neg (by decide)]
        refine Runs.wp Go.Proofs.YtjldjhlccedkbaaGreatDoor.Am.hT Go.Proofs.YtjldjhlccedkbaaGreatDoor.Am.hm Tryz.func135 rfl (by decide) ⟨[(4, .alt 0 (.alt 1 (.first 2 (.alt 3 (.load 4 [6, 7, 8] (.load 5 [6, 7, 8] (.alt 6 (.alt 7 (.alt 8 .done .nil) .nil) .nil))) (.alt 4 (.alt 3 (.load 5 [6, 7, 8] (.alt 6 (.alt 7 (.alt 8 .done .nil) .nil) .nil)) (.alt 5 (.alt 3 (.alt 6 (.alt 7 (.alt 8 .done .nil) .nil) .nil) .nil) .nil)) (.alt 5 (.alt 3 (.load 4 [6, 7, 8] (.alt 6 (.alt 7 (.alt 8 .done .nil) .nil) .nil)) (.alt 4 (.alt 3 (.alt 6 (.alt 7 (.alt 8 .done .nil) .nil) .nil) .nil) .nil)) .nil)))) (.alt 4 (.alt 1 (.first 2 (.alt 3 (.load 5 [6, 7, 8] (.alt 6 (.alt 7 (.alt 8 .done .nil) .nil) .nil)) (.alt 5 (.alt 3 (.alt 6 (.alt 7 (.alt 8 .done .nil) .nil) .nil) .nil) .nil))) (.alt 5 (.alt 1 (.first 2 (.alt 3 (.alt 6 (.alt 7 (.alt 8 .done .nil) .nil) .nil) .nil)) .nil) .nil)) (.alt 5 (.alt 1 (.first 2 (.alt 3 (.load 4 [6, 7, 8] (.alt 6 (.alt 7 (.alt 8 .done .nil) .nil) .nil)) (.alt 4 (.alt 3 (.alt 6 (.alt 7 (.alt 8 .done .nil) .nil) .nil) .nil) .nil))) (.alt 4 (.alt 1 (.first 2 (.alt 3 (.alt 6 (.alt 7 (.alt 8 .done .nil) .nil) .nil) .nil)) .nil) .nil)) .nil))) (.alt 1 (.first 2 (.load 0 [3, 6, 7, 8] (.alt 3 (.load 4 [6, 7, 8] (.load 5 [6, 7, 8] (.alt 6 (.alt 7 (.alt 8 .done .nil) .nil) .nil))) (.alt 4 (.alt 3 (.load 5 [6, 7, 8] (.alt 6 (.alt 7 (.alt 8 .done .nil) .nil) .nil)) (.alt 5 (.alt 3 (.alt 6 (.alt 7 (.alt 8 .done .nil) .nil) .nil) .nil) .nil)) (.alt 5 (.alt 3 (.load 4 [6, 7, 8] (.alt 6 (.alt 7 (.alt 8 .done .nil) .nil) .nil)) (.alt 4 (.alt 3 (.alt 6 (.alt 7 (.alt 8 .done .nil) .nil) .nil) .nil) .nil)) .nil))))) (.alt 4 (.alt 0 (.alt 1 (.first 2 (.alt 3 (.load 5 [6, 7, 8] (.alt 6 (.alt 7 (.alt 8 .done .nil) .nil) .nil)) (.alt 5 (.alt 3 (.alt 6 (.alt 7 (.alt 8 .done .nil) .nil) .nil) .nil) .nil))) (.alt 5 (.alt 1 (.first 2 (.alt 3 (.alt 6 (.alt 7 (.alt 8 .done .nil) .nil) .nil) .nil)) .nil) .nil)) (.alt 1 (.first 2 (.load 0 [3, 6, 7, 8] (.alt 3 (.load 5 [6, 7, 8] (.alt 6 (.alt 7 (.alt 8 .done .nil) .nil) .nil)) (.alt 5 (.alt 3 (.alt 6 (.alt 7 (.alt 8 .done .nil) .nil) .nil) .nil) .nil)))) (.alt 5 (.alt 0 (.alt 1 (.first 2 (.alt 3 (.alt 6 (.alt 7 (.alt 8 .done .nil) .nil) .nil) .nil)) .nil) (.alt 1 (.first 2 (.load 0 [3, 6, 7, 8] (.alt 3 (.alt 6 (.alt 7 (.alt 8 .done .nil) .nil) .nil) .nil))) .nil)) .nil))) (.alt 5 (.alt 0 (.alt 1 (.first 2 (.alt 3 (.load 4 [6, 7, 8] (.alt 6 (.alt 7 (.alt 8 .done .nil) .nil) .nil)) (.alt 4 (.alt 3 (.alt 6 (.alt 7 (.alt 8 .done .nil) .nil) .nil) .nil) .nil))) (.alt 4 (.alt 1 (.first 2 (.alt 3 (.alt 6 (.alt 7 (.alt 8 .done .nil) .nil) .nil) .nil)) .nil) .nil)) (.alt 1 (.first 2 (.load 0 [3, 6, 7, 8] (.alt 3 (.load 4 [6, 7, 8] (.alt 6 (.alt 7 (.alt 8 .done .nil) .nil) .nil)) (.alt 4 (.alt 3 (.alt 6 (.alt 7 (.alt 8 .done .nil) .nil) .nil) .nil) .nil)))) (.alt 4 (.alt 0 (.alt 1 (.first 2 (.alt 3 (.alt 6 (.alt 7 (.alt 8 .done .nil) .nil) .nil) .nil)) .nil) (.alt 1 (.first 2 (.load 0 [3, 6, 7, 8] (.alt 3 (.alt 6 (.alt 7 (.alt 8 .done .nil) .nil) .nil) .nil))) .nil)) .nil))) .nil)))), (5, .load 0 [2, 3] (.alt 1 (.alt 2 (.alt 3 .done .nil) .nil) (.alt 2 (.load 1 [3] (.alt 3 .done .nil)) .nil)))], [0, 1, 2, 3, 4, 5, 6, 7, 8, 9, 48], 58⟩ ?_; ((conv => whnf); repeat ((first | refine Wo ?_ | refine Go1 ?_ | refine Go2 ?_ | refine Go3 ?_ | refine Go4 ?_ | refine ⟨_, rfl, ?_⟩ | refine Mi rfl ?_); (conv => whnf)))
        ((conv => whnf); (refine HrA hq ?_); ((conv => whnf); repeat ((first | refine Wo ?_ | refine Go1 ?_ | refine Go2 ?_ | refine Go3 ?_ | refine Go4 ?_ | refine ⟨_, rfl, ?_⟩ | refine Mi rfl ?_); (conv => whnf))))
        (repeat (first | refine litE l1 ?_ | refine litE l2 ?_); ((conv => whnf); repeat ((first | refine Wo ?_ | refine Go1 ?_ | refine Go2 ?_ | refine Go3 ?_ | refine Go4 ?_ | refine ⟨_, rfl, ?_⟩ | refine Mi rfl ?_); (conv => whnf))))
        (refine And.intro (by decide +kernel) ?_; apply Exists.intro; apply And.intro; focus ((repeat' ((conv => whnf); first | exact trivial | refine Wo ?_ | refine Lt (by decide) ?_ | refine Lf (by decide) ?_ | refine Cl (by decide) ?_ | refine Cr (by decide) ?_ | refine ⟨_, rfl, ?_⟩ | refine Mi rfl ?_ | (first | exact trivial) | (refine And.intro ?_ ?_))); all_goals (first | ((conv => whnf); exact Wk.frc (keep := [0, 1, 2, 3, 4, 5, 6, 7, 8, 9, 48]) (N := 58) (by (conv => whnf); first | done | exact rfl)) | (first | decide | rfl | assumption | omega | (dsimp only; omega) | (unfold maxLen; omega) | ((try dsimp only [maxLen]); simp only [List.length_append, List.length_cons, List.length_nil, List.length_map, List.length_range, List.length_set, List.length_replicate]; omega) | ((try dsimp only [maxLen]); simp only [IntKind.wrap_i64, IntKind.wrap_u64, List.length_append, List.length_cons, List.length_nil, List.length_map, List.length_range, List.length_set, List.length_replicate]; omega) | ((try dsimp only [maxLen]); simp only [List.length_append, List.length_cons, List.length_nil, List.length_map, List.length_range, List.length_set, List.length_replicate] at *; omega)))))
        ((conv => whnf); repeat ((first | refine Wo ?_ | refine Go1 ?_ | refine Go2 ?_ | refine Go3 ?_ | refine Go4 ?_ | refine ⟨_, rfl, ?_⟩ | refine Mi rfl ?_); (conv => whnf)))
        exact TeA
  have := key _ _ rfl rfl
  unfold divW
  by_cases h : 0 < x % y ∧ a ≠ b
  · rw [if_pos (by rw [decide_eq_true h.1]; simpa using h.2)] at this
    rw [if_pos h]
    exact this
  · rw [if_neg (fun e => h (by simpa using e))] at this
    rw [if_neg h]
    exact this
end Go.Proofs.YtjldjhlccedkbaaGreatDoor.Am
end
section
/- What num's calls tell of one number, and of two. -/
namespace Go.Proofs.YtjldjhlccedkbaaGreatDoor.Am
open Go Go.Lib Go.RowKit Go.Proofs.YtjldjhlccedkbaaGreatDoor.Nm Go.Proofs.YtjldjhlccedkbaaGreatDoorW.PrintWords Go.Proofs.YtjldjhlccedkbaaGreatDoor
set_option linter.unusedVariables false
set_option linter.unusedSimpArgs false
set_option maxRecDepth 100000
set_option maxHeartbeats 8000000
abbrev eD (r : ByteArray × Int) : D := .tup [sD r.1, iD r.2]
theorem mayZ {z : Int} (h : Nm.Sm z) : Runs Tryz.prog 48 [sD (numS z)] (bD true) := by
  have := may_runs (itoa z)
  rwa [may_num z h] at this
theorem sm_mg {z : Int} (h : Nm.Sm z) : (mg z.natAbs).length ≤ 101 := mg_len h
theorem of_yes {F n : Nat} {b : Bool} {x y : Int} (hx : Nm.Sm x) (hy : Nm.Sm y) (hF : Runs Tryz.prog F [wD x.natAbs (decide (x < 0)), wD y.natAbs (decide (y < 0))] (wD n b)) (hn : (mg n).length ≤ 1000000) :
    Runs Tryz.prog 128 [sD (numS x), sD (numS y), .fn F []] (eD (told (sv n b))) := by
  have h1 := mayZ hx
  have h2 := mayZ hy
  have h3 := read_runs x (by have := sm_nl hx; omega)
  have h4 := read_runs y (by have := sm_nl hy; omega)
  have h5 := told_runs n b hn
  refine Runs.wp Go.Proofs.YtjldjhlccedkbaaGreatDoor.Am.hT Go.Proofs.YtjldjhlccedkbaaGreatDoor.Am.hm Tryz.func128 rfl (by decide) ⟨[], [0, 1, 2, 6, 7, 15], 25⟩ ?_; ((conv => whnf); repeat ((first | refine Wo ?_ | refine Go1 ?_ | refine Go2 ?_ | refine Go3 ?_ | refine Go4 ?_ | refine ⟨_, rfl, ?_⟩ | refine Mi rfl ?_); (conv => whnf)))
  ((conv => whnf); (refine HfA h1 ?_); ((conv => whnf); repeat ((first | refine Wo ?_ | refine Go1 ?_ | refine Go2 ?_ | refine Go3 ?_ | refine Go4 ?_ | refine ⟨_, rfl, ?_⟩ | refine Mi rfl ?_); (conv => whnf))))
  ((conv => whnf); (refine HfA h2 ?_); ((conv => whnf); repeat ((first | refine Wo ?_ | refine Go1 ?_ | refine Go2 ?_ | refine Go3 ?_ | refine Go4 ?_ | refine ⟨_, rfl, ?_⟩ | refine Mi rfl ?_); (conv => whnf))))
  ((conv => whnf); (refine HrA h3 ?_); ((conv => whnf); repeat ((first | refine Wo ?_ | refine Go1 ?_ | refine Go2 ?_ | refine Go3 ?_ | refine Go4 ?_ | refine ⟨_, rfl, ?_⟩ | refine Mi rfl ?_); (conv => whnf))))
  ((conv => whnf); (refine HrA h4 ?_); ((conv => whnf); repeat ((first | refine Wo ?_ | refine Go1 ?_ | refine Go2 ?_ | refine Go3 ?_ | refine Go4 ?_ | refine ⟨_, rfl, ?_⟩ | refine Mi rfl ?_); (conv => whnf))))
  ((conv => whnf); (refine HrA hF ?_); ((conv => whnf); repeat ((first | refine Wo ?_ | refine Go1 ?_ | refine Go2 ?_ | refine Go3 ?_ | refine Go4 ?_ | refine ⟨_, rfl, ?_⟩ | refine Mi rfl ?_); (conv => whnf))))
  ((conv => whnf); (refine HrA h5 ?_); ((conv => whnf); repeat ((first | refine Wo ?_ | refine Go1 ?_ | refine Go2 ?_ | refine Go3 ?_ | refine Go4 ?_ | refine ⟨_, rfl, ?_⟩ | refine Mi rfl ?_); (conv => whnf))))
  exact TeA
section
variable {x y : Int} (hx : Nm.Sm x) (hy : Nm.Sm y)
theorem sv_z (z : Int) : sv z.natAbs (decide (z < 0)) = z := sv_abs z
theorem mg_le {n k : Nat} (h : n < 1000000000 ^ k) : (mg n).length ≤ k := by
  rcases Nat.eq_zero_or_pos n with rfl | hn
  · rw [mg_zero]; exact Nat.zero_le _
  · rcases Nat.lt_or_ge k (mg n).length with h1 | h1
    · exfalso
      have h4 := mg_low (n := n) (by omega)
      have h5 : 1000000000 ^ k ≤ 1000000000 ^ ((mg n).length - 1) := Nat.pow_le_pow_right (by decide) (by omega)
      omega
    · exact h1
theorem mg_addK {x y K : Nat} (hx : (mg x).length ≤ K) (hy : (mg y).length ≤ K) : (mg (x + y)).length ≤ K + 1 := by
  have h1 : x < 1000000000 ^ K := by have := mv_lt _ (pt_mg x); rw [mv_mg] at this; exact Nat.lt_of_lt_of_le this (Nat.pow_le_pow_right (by decide) hx)
  have h2 : y < 1000000000 ^ K := by have := mv_lt _ (pt_mg y); rw [mv_mg] at this; exact Nat.lt_of_lt_of_le this (Nat.pow_le_pow_right (by decide) hy)
  refine mg_le ?_
  rw [Nat.pow_succ]
  generalize 1000000000 ^ K = B at *
  omega
theorem plusW_mg {x y : Nat} (a b : Bool) (hx : (mg x).length ≤ 1000) (hy : (mg y).length ≤ 1000) : (mg (plusW x a y b).1).length ≤ 1000000 := by
  have hs : (mg (x + y)).length ≤ 1000000 := Nat.le_trans (mg_addK hx hy) (by decide)
  unfold plusW
  split
  · exact hs
  · split
    · exact Nat.le_trans (mg_mono (by omega)) hs
    · exact Nat.le_trans (mg_mono (by omega)) hs
include hx hy
theorem add_yes : Runs Tryz.prog 73 [sD (numS x), sD (numS y)] (eD (told (x + y))) := by
  have h1 := of_yes (F := 129) hx hy (plus_runs _ _ _ _ (by have := sm_mg hx; omega) (by have := sm_mg hy; omega)) (plusW_mg _ _ (by have := sm_mg hx; omega) (by have := sm_mg hy; omega))
  rw [plusW_sv, sv_z, sv_z] at h1
  refine Runs.wp Go.Proofs.YtjldjhlccedkbaaGreatDoor.Am.hT Go.Proofs.YtjldjhlccedkbaaGreatDoor.Am.hm Tryz.func73 rfl (by decide) ⟨[], [0, 1, 4, 5], 11⟩ ?_; ((conv => whnf); repeat ((first | refine Wo ?_ | refine Go1 ?_ | refine Go2 ?_ | refine Go3 ?_ | refine Go4 ?_ | refine ⟨_, rfl, ?_⟩ | refine Mi rfl ?_); (conv => whnf)))
  ((conv => whnf); (refine HfA h1 ?_); ((conv => whnf); repeat ((first | refine Wo ?_ | refine Go1 ?_ | refine Go2 ?_ | refine Go3 ?_ | refine Go4 ?_ | refine ⟨_, rfl, ?_⟩ | refine Mi rfl ?_); (conv => whnf))))
  exact TeA
theorem sub_yes : Runs Tryz.prog 74 [sD (numS x), sD (numS y)] (eD (told (x - y))) := by
  have ht := turned_runs y.natAbs (decide (y < 0)) (by have := sm_mg hy; omega)
  have hp := plus_runs x.natAbs y.natAbs (decide (x < 0)) (!decide (y < 0) && decide (y.natAbs ≠ 0)) (by have := sm_mg hx; omega) (by have := sm_mg hy; omega)
  have hs : sv y.natAbs (!decide (y < 0) && decide (y.natAbs ≠ 0)) = -y := by
    unfold sv
    by_cases h : y < 0
    · rw [decide_eq_true h]; simp; omega
    · by_cases h0 : y = 0
      · subst h0; rfl
      · rw [decide_eq_false h, decide_eq_true (show y.natAbs ≠ 0 by omega)]; simp; omega
  have hF : Runs Tryz.prog 130 [wD x.natAbs (decide (x < 0)), wD y.natAbs (decide (y < 0))] (wD (plusW x.natAbs (decide (x < 0)) y.natAbs (!decide (y < 0) && decide (y.natAbs ≠ 0))).1 (plusW x.natAbs (decide (x < 0)) y.natAbs (!decide (y < 0) && decide (y.natAbs ≠ 0))).2) := by
    refine Runs.wp Go.Proofs.YtjldjhlccedkbaaGreatDoor.Am.hT Go.Proofs.YtjldjhlccedkbaaGreatDoor.Am.hm Tryz.func130 rfl (by decide) ⟨[(1, .load 1 [2, 3, 4] (.alt 0 (.alt 2 (.alt 3 (.alt 4 .done .nil) .nil) .nil) (.alt 2 (.load 0 [3, 4] (.alt 3 (.alt 4 .done .nil) .nil)) .nil)))], [0, 1, 2, 3, 4], 9⟩ ?_; ((conv => whnf); repeat ((first | refine Wo ?_ | refine Go1 ?_ | refine Go2 ?_ | refine Go3 ?_ | refine Go4 ?_ | refine ⟨_, rfl, ?_⟩ | refine Mi rfl ?_); (conv => whnf)))
    (refine And.intro (by decide +kernel) ?_; apply Exists.intro; apply And.intro; focus ((repeat' ((conv => whnf); first | exact trivial | refine Wo ?_ | refine Lt (by decide) ?_ | refine Lf (by decide) ?_ | refine Cl (by decide) ?_ | refine Cr (by decide) ?_ | refine ⟨_, rfl, ?_⟩ | refine Mi rfl ?_ | (first | (refine HrA ht ?_) | (refine HrA hp ?_)) | (refine And.intro ?_ ?_))); all_goals (first | ((conv => whnf); exact Wk.frc (keep := [0, 1, 2, 3, 4]) (N := 9) (by (conv => whnf); first | done | exact rfl)) | (first | decide | rfl | assumption | omega | (dsimp only; omega) | (unfold maxLen; omega) | ((try dsimp only [maxLen]); simp only [List.length_append, List.length_cons, List.length_nil, List.length_map, List.length_range, List.length_set, List.length_replicate]; omega) | ((try dsimp only [maxLen]); simp only [IntKind.wrap_i64, IntKind.wrap_u64, List.length_append, List.length_cons, List.length_nil, List.length_map, List.length_range, List.length_set, List.length_replicate]; omega) | ((try dsimp only [maxLen]); simp only [List.length_append, List.length_cons, List.length_nil, List.length_map, List.length_range, List.length_set, List.length_replicate] at *; omega)))))
    ((conv => whnf); repeat ((first | refine Wo ?_ | refine Go1 ?_ | refine Go2 ?_ | refine Go3 ?_ | refine Go4 ?_ | refine ⟨_, rfl, ?_⟩ | refine Mi rfl ?_); (conv => whnf)))
    exact TeA
  have h1 := of_yes hx hy hF (plusW_mg _ _ (by have := sm_mg hx; omega) (by have := sm_mg hy; omega))
  rw [plusW_sv, sv_z, hs, show x + -y = x - y by omega] at h1
  refine Runs.wp Go.Proofs.YtjldjhlccedkbaaGreatDoor.Am.hT Go.Proofs.YtjldjhlccedkbaaGreatDoor.Am.hm Tryz.func74 rfl (by decide) ⟨[], [0, 1, 4, 5], 11⟩ ?_; ((conv => whnf); repeat ((first | refine Wo ?_ | refine Go1 ?_ | refine Go2 ?_ | refine Go3 ?_ | refine Go4 ?_ | refine ⟨_, rfl, ?_⟩ | refine Mi rfl ?_); (conv => whnf)))
  ((conv => whnf); (refine HfA h1 ?_); ((conv => whnf); repeat ((first | refine Wo ?_ | refine Go1 ?_ | refine Go2 ?_ | refine Go3 ?_ | refine Go4 ?_ | refine ⟨_, rfl, ?_⟩ | refine Mi rfl ?_); (conv => whnf))))
  exact TeA
end
end Go.Proofs.YtjldjhlccedkbaaGreatDoor.Am
end
