/- What the law leans on, part 28: declarations of several texts of ours, in their order. -/
import Derived.Test.YtjldjhlccedkbaaGreatDoorXS26
import Derived.Test.YtjldjhlccedkbaaGreatDoorXS24
section
/- What scalar.Dyad and Monad tell, of numbers. -/
namespace Go.Proofs.YtjldjhlccedkbaaGreatDoor.Am
open Go Go.Lib Go.RowKit Go.Proofs.YtjldjhlccedkbaaGreatDoor.Nm Go.Proofs.YtjldjhlccedkbaaGreatDoorW.PrintWords Go.Proofs.YtjldjhlccedkbaaGreatDoor
set_option linter.unusedVariables false
set_option linter.unusedSimpArgs false
set_option maxRecDepth 100000
set_option maxHeartbeats 8000000
/-- the number of a text -/
def zL : List UInt8 → Int
  | 45 :: r => -(Nm.val r : Int)
  | l => (Nm.val l : Int)
def zB (b : ByteArray) : Int := zL b.data.toList
theorem zL_pos {l : List UInt8} (h : ∀ r, l ≠ 45 :: r) : zL l = (Nm.val l : Int) := by
  unfold zL
  split
  · exact absurd rfl (h _)
  · rfl
theorem zB_num (z : Int) : zB (numS z) = z := by
  unfold zB numS
  rw [ba_data]
  by_cases h : z < 0
  · rw [itoa_neg' h]
    show -(Nm.val (decDigits z.natAbs) : Int) = z
    rw [val_decDigits]
    omega
  · rw [itoa_pos' h, zL_pos, val_decDigits]
    · omega
    · intro r e
      obtain ⟨c, r', h1, h2, h3⟩ := head_dec z.natAbs
      rw [e] at h1
      injection h1 with h1 _
      rw [← h1] at h2
      exact absurd h2 (by decide)
def b01 (p : Bool) : Int := if p = true then 1 else 0
theorem stold_num (p : Bool) : (if p = true then (⟨#[49]⟩ : ByteArray) else ⟨#[48]⟩) = numS (b01 p) := by
  cases p with
  | true => exact (litS 1 [49] (by decide) (by decide) (by decide) (by decide))
  | false =>
    show (BA [48]) = numS 0
    unfold numS
    rw [(itoa_zero_iff 0).2 rfl]
def dyZ (c : UInt8) (x y : Int) : ByteArray × Int :=
  if c = 43 then Nm.told (x + y) else if c = 45 then Nm.told (x - y) else if c = 42 then Nm.told (x * y)
  else if c = 37 then (if y = 0 then (BA [], 5) else Nm.told (fl x y)) else if c = 33 then (if y = 0 then (BA [], 5) else Nm.told (fm x y))
  else if c = 38 then (numS (if decide (x ≤ y) = true then x else y), 0) else if c = 124 then (numS (if decide (y ≤ x) = true then x else y), 0)
  else if c = 60 then (numS (b01 (decide (x < y))), 0) else if c = 62 then (numS (b01 (decide (y < x))), 0)
  else if c = 61 then (numS (b01 (decide (x = y))), 0) else (numS (b01 (!decide (x = y))), 0)
theorem cmp_le (x y : Int) : decide (cmpZ x y ≤ 0) = decide (x ≤ y) := by
  rw [decide_eq_decide]; unfold cmpZ; split <;> (try split) <;> omega
theorem cmp_ge (x y : Int) : decide (cmpZ x y ≥ 0) = decide (y ≤ x) := by
  rw [decide_eq_decide]; unfold cmpZ; split <;> (try split) <;> omega
theorem cmp_lt (x y : Int) : decide (cmpZ x y < 0) = decide (x < y) := by
  rw [decide_eq_decide]; unfold cmpZ; split <;> (try split) <;> omega
theorem cmp_gt (x y : Int) : decide (cmpZ x y > 0) = decide (y < x) := by
  rw [decide_eq_decide]; unfold cmpZ; split <;> (try split) <;> omega
theorem num_eqb (x y : Int) : ((numS x).toList == (numS y).toList) = decide (x = y) := by
  rw [numS_list, numS_list, Bool.eq_iff_iff, beq_iff_eq, decide_eq_true_iff]
  exact ⟨fun h => itoa_inj h, fun h => by rw [h]⟩
section
variable {x y : Int} (hx : Nm.Sm x) (hy : Nm.Sm y)
include hx hy
theorem min_runs : Runs Tryz.prog 78 [sD (numS x), sD (numS y)] (eD (numS (if decide (x ≤ y) = true then x else y), 0)) := by
  have h1 := cmp_yes hx hy
  have h2 := cmp_le x y
  have h3 := pick_runs (decide (x ≤ y)) (numS x) (numS y)
  rw [show (if decide (x ≤ y) = true then numS x else numS y) = numS (if decide (x ≤ y) = true then x else y) by split <;> rfl] at h3
  refine Runs.wp Go.Proofs.YtjldjhlccedkbaaGreatDoor.Am.hT Go.Proofs.YtjldjhlccedkbaaGreatDoor.Am.hm Tryz.func78 rfl (by decide) ⟨[], [0, 1, 4, 5], 15⟩ ?_; ((conv => whnf); repeat ((first | refine Wo ?_ | refine Lt (by decide) ?_ | refine Lf (by decide) ?_ | refine Cl (by decide) ?_ | refine Cr (by decide) ?_ | refine ⟨_, rfl, ?_⟩ | refine Mi rfl ?_); (conv => whnf)))
  ((conv => whnf); (refine Hc.flat h1 ?_ rfl ?_; (focus ((repeat ((conv => arg 1; whnf); first | exact Tels.nil | apply Tels.cons | apply Tel.aggs | apply Tel.tups | exact Tel.refl _ | exact Tel.nil1 _ | exact Tel.cap _ _ _ _)); done))); ((conv => whnf); repeat ((first | refine Wo ?_ | refine Lt (by decide) ?_ | refine Lf (by decide) ?_ | refine Cl (by decide) ?_ | refine Cr (by decide) ?_ | refine ⟨_, rfl, ?_⟩ | refine Mi rfl ?_); (conv => whnf))))
  refine litE h2 ?_
  ((conv => whnf); repeat ((first | refine Wo ?_ | refine Lt (by decide) ?_ | refine Lf (by decide) ?_ | refine Cl (by decide) ?_ | refine Cr (by decide) ?_ | refine ⟨_, rfl, ?_⟩ | refine Mi rfl ?_); (conv => whnf)))
  ((conv => whnf); (refine Hc.flat h3 ?_ rfl ?_; (focus ((repeat ((conv => arg 1; whnf); first | exact Tels.nil | apply Tels.cons | apply Tel.aggs | apply Tel.tups | exact Tel.refl _ | exact Tel.nil1 _ | exact Tel.cap _ _ _ _)); done))); ((conv => whnf); repeat ((first | refine Wo ?_ | refine Lt (by decide) ?_ | refine Lf (by decide) ?_ | refine Cl (by decide) ?_ | refine Cr (by decide) ?_ | refine ⟨_, rfl, ?_⟩ | refine Mi rfl ?_); (conv => whnf))))
  ((conv => whnf); ((repeat ((conv => arg 1; whnf); first | exact Tels.nil | apply Tels.cons | apply Tel.aggs | apply Tel.tups | exact Tel.refl _ | exact Tel.nil1 _ | exact Tel.cap _ _ _ _)); done))
theorem max_runs : Runs Tryz.prog 81 [sD (numS x), sD (numS y)] (eD (numS (if decide (y ≤ x) = true then x else y), 0)) := by
  have h1 := cmp_yes hx hy
  have h2 := cmp_ge x y
  have h3 := pick_runs (decide (y ≤ x)) (numS x) (numS y)
  rw [show (if decide (y ≤ x) = true then numS x else numS y) = numS (if decide (y ≤ x) = true then x else y) by split <;> rfl] at h3
  refine Runs.wp Go.Proofs.YtjldjhlccedkbaaGreatDoor.Am.hT Go.Proofs.YtjldjhlccedkbaaGreatDoor.Am.hm Tryz.func81 rfl (by decide) ⟨[], [0, 1, 4, 5], 15⟩ ?_; ((conv => whnf); repeat ((first | refine Wo ?_ | refine Lt (by decide) ?_ | refine Lf (by decide) ?_ | refine Cl (by decide) ?_ | refine Cr (by decide) ?_ | refine ⟨_, rfl, ?_⟩ | refine Mi rfl ?_); (conv => whnf)))
  ((conv => whnf); (refine Hc.flat h1 ?_ rfl ?_; (focus ((repeat ((conv => arg 1; whnf); first | exact Tels.nil | apply Tels.cons | apply Tel.aggs | apply Tel.tups | exact Tel.refl _ | exact Tel.nil1 _ | exact Tel.cap _ _ _ _)); done))); ((conv => whnf); repeat ((first | refine Wo ?_ | refine Lt (by decide) ?_ | refine Lf (by decide) ?_ | refine Cl (by decide) ?_ | refine Cr (by decide) ?_ | refine ⟨_, rfl, ?_⟩ | refine Mi rfl ?_); (conv => whnf))))
  refine litE h2 ?_
  ((conv => whnf); repeat ((first | refine Wo ?_ | refine Lt (by decide) ?_ | refine Lf (by decide) ?_ | refine Cl (by decide) ?_ | refine Cr (by decide) ?_ | refine ⟨_, rfl, ?_⟩ | refine Mi rfl ?_); (conv => whnf)))
  ((conv => whnf); (refine Hc.flat h3 ?_ rfl ?_; (focus ((repeat ((conv => arg 1; whnf); first | exact Tels.nil | apply Tels.cons | apply Tel.aggs | apply Tel.tups | exact Tel.refl _ | exact Tel.nil1 _ | exact Tel.cap _ _ _ _)); done))); ((conv => whnf); repeat ((first | refine Wo ?_ | refine Lt (by decide) ?_ | refine Lf (by decide) ?_ | refine Cl (by decide) ?_ | refine Cr (by decide) ?_ | refine ⟨_, rfl, ?_⟩ | refine Mi rfl ?_); (conv => whnf))))
  ((conv => whnf); ((repeat ((conv => arg 1; whnf); first | exact Tels.nil | apply Tels.cons | apply Tel.aggs | apply Tel.tups | exact Tel.refl _ | exact Tel.nil1 _ | exact Tel.cap _ _ _ _)); done))
theorem lt_runs : Runs Tryz.prog 82 [sD (numS x), sD (numS y)] (eD (numS (b01 (decide (x < y))), 0)) := by
  have h1 := cmp_yes hx hy
  have h2 := cmp_lt x y
  have h3 := stold_runs (decide (x < y))
  rw [stold_num] at h3
  refine Runs.wp Go.Proofs.YtjldjhlccedkbaaGreatDoor.Am.hT Go.Proofs.YtjldjhlccedkbaaGreatDoor.Am.hm Tryz.func82 rfl (by decide) ⟨[], [0, 1, 4, 5], 11⟩ ?_; ((conv => whnf); repeat ((first | refine Wo ?_ | refine Lt (by decide) ?_ | refine Lf (by decide) ?_ | refine Cl (by decide) ?_ | refine Cr (by decide) ?_ | refine ⟨_, rfl, ?_⟩ | refine Mi rfl ?_); (conv => whnf)))
  ((conv => whnf); (refine Hc.flat h1 ?_ rfl ?_; (focus ((repeat ((conv => arg 1; whnf); first | exact Tels.nil | apply Tels.cons | apply Tel.aggs | apply Tel.tups | exact Tel.refl _ | exact Tel.nil1 _ | exact Tel.cap _ _ _ _)); done))); ((conv => whnf); repeat ((first | refine Wo ?_ | refine Lt (by decide) ?_ | refine Lf (by decide) ?_ | refine Cl (by decide) ?_ | refine Cr (by decide) ?_ | refine ⟨_, rfl, ?_⟩ | refine Mi rfl ?_); (conv => whnf))))
  refine litE h2 ?_
  ((conv => whnf); repeat ((first | refine Wo ?_ | refine Lt (by decide) ?_ | refine Lf (by decide) ?_ | refine Cl (by decide) ?_ | refine Cr (by decide) ?_ | refine ⟨_, rfl, ?_⟩ | refine Mi rfl ?_); (conv => whnf)))
  ((conv => whnf); (refine Hc.flat h3 ?_ rfl ?_; (focus ((repeat ((conv => arg 1; whnf); first | exact Tels.nil | apply Tels.cons | apply Tel.aggs | apply Tel.tups | exact Tel.refl _ | exact Tel.nil1 _ | exact Tel.cap _ _ _ _)); done))); ((conv => whnf); repeat ((first | refine Wo ?_ | refine Lt (by decide) ?_ | refine Lf (by decide) ?_ | refine Cl (by decide) ?_ | refine Cr (by decide) ?_ | refine ⟨_, rfl, ?_⟩ | refine Mi rfl ?_); (conv => whnf))))
  ((conv => whnf); ((repeat ((conv => arg 1; whnf); first | exact Tels.nil | apply Tels.cons | apply Tel.aggs | apply Tel.tups | exact Tel.refl _ | exact Tel.nil1 _ | exact Tel.cap _ _ _ _)); done))
theorem gt_runs : Runs Tryz.prog 84 [sD (numS x), sD (numS y)] (eD (numS (b01 (decide (y < x))), 0)) := by
  have h1 := cmp_yes hx hy
  have h2 := cmp_gt x y
  have h3 := stold_runs (decide (y < x))
  rw [stold_num] at h3
  refine Runs.wp Go.Proofs.YtjldjhlccedkbaaGreatDoor.Am.hT Go.Proofs.YtjldjhlccedkbaaGreatDoor.Am.hm Tryz.func84 rfl (by decide) ⟨[], [0, 1, 4, 5], 11⟩ ?_; ((conv => whnf); repeat ((first | refine Wo ?_ | refine Lt (by decide) ?_ | refine Lf (by decide) ?_ | refine Cl (by decide) ?_ | refine Cr (by decide) ?_ | refine ⟨_, rfl, ?_⟩ | refine Mi rfl ?_); (conv => whnf)))
  ((conv => whnf); (refine Hc.flat h1 ?_ rfl ?_; (focus ((repeat ((conv => arg 1; whnf); first | exact Tels.nil | apply Tels.cons | apply Tel.aggs | apply Tel.tups | exact Tel.refl _ | exact Tel.nil1 _ | exact Tel.cap _ _ _ _)); done))); ((conv => whnf); repeat ((first | refine Wo ?_ | refine Lt (by decide) ?_ | refine Lf (by decide) ?_ | refine Cl (by decide) ?_ | refine Cr (by decide) ?_ | refine ⟨_, rfl, ?_⟩ | refine Mi rfl ?_); (conv => whnf))))
  refine litE h2 ?_
  ((conv => whnf); repeat ((first | refine Wo ?_ | refine Lt (by decide) ?_ | refine Lf (by decide) ?_ | refine Cl (by decide) ?_ | refine Cr (by decide) ?_ | refine ⟨_, rfl, ?_⟩ | refine Mi rfl ?_); (conv => whnf)))
  ((conv => whnf); (refine Hc.flat h3 ?_ rfl ?_; (focus ((repeat ((conv => arg 1; whnf); first | exact Tels.nil | apply Tels.cons | apply Tel.aggs | apply Tel.tups | exact Tel.refl _ | exact Tel.nil1 _ | exact Tel.cap _ _ _ _)); done))); ((conv => whnf); repeat ((first | refine Wo ?_ | refine Lt (by decide) ?_ | refine Lf (by decide) ?_ | refine Cl (by decide) ?_ | refine Cr (by decide) ?_ | refine ⟨_, rfl, ?_⟩ | refine Mi rfl ?_); (conv => whnf))))
  ((conv => whnf); ((repeat ((conv => arg 1; whnf); first | exact Tels.nil | apply Tels.cons | apply Tel.aggs | apply Tel.tups | exact Tel.refl _ | exact Tel.nil1 _ | exact Tel.cap _ _ _ _)); done))
omit hx hy in
theorem eq_runs : Runs Tryz.prog 85 [sD (numS x), sD (numS y)] (eD (numS (b01 (decide (x = y))), 0)) := by
  have h2 := num_eqb x y
  have h3 := stold_runs (decide (x = y))
  rw [stold_num] at h3
  refine Runs.wp Go.Proofs.YtjldjhlccedkbaaGreatDoor.Am.hT Go.Proofs.YtjldjhlccedkbaaGreatDoor.Am.hm Tryz.func85 rfl (by decide) ⟨[], [0, 1, 4, 5], 10⟩ ?_; ((conv => whnf); repeat ((first | refine Wo ?_ | refine Lt (by decide) ?_ | refine Lf (by decide) ?_ | refine Cl (by decide) ?_ | refine Cr (by decide) ?_ | refine ⟨_, rfl, ?_⟩ | refine Mi rfl ?_); (conv => whnf)))
  refine litE h2 ?_
  ((conv => whnf); repeat ((first | refine Wo ?_ | refine Lt (by decide) ?_ | refine Lf (by decide) ?_ | refine Cl (by decide) ?_ | refine Cr (by decide) ?_ | refine ⟨_, rfl, ?_⟩ | refine Mi rfl ?_); (conv => whnf)))
  ((conv => whnf); (refine Hc.flat h3 ?_ rfl ?_; (focus ((repeat ((conv => arg 1; whnf); first | exact Tels.nil | apply Tels.cons | apply Tel.aggs | apply Tel.tups | exact Tel.refl _ | exact Tel.nil1 _ | exact Tel.cap _ _ _ _)); done))); ((conv => whnf); repeat ((first | refine Wo ?_ | refine Lt (by decide) ?_ | refine Lf (by decide) ?_ | refine Cl (by decide) ?_ | refine Cr (by decide) ?_ | refine ⟨_, rfl, ?_⟩ | refine Mi rfl ?_); (conv => whnf))))
  ((conv => whnf); ((repeat ((conv => arg 1; whnf); first | exact Tels.nil | apply Tels.cons | apply Tel.aggs | apply Tel.tups | exact Tel.refl _ | exact Tel.nil1 _ | exact Tel.cap _ _ _ _)); done))
omit hx hy in
theorem ne_runs : Runs Tryz.prog 86 [sD (numS x), sD (numS y)] (eD (numS (b01 (!decide (x = y))), 0)) := by
  have h2 := show (!((numS x).toList == (numS y).toList)) = !decide (x = y) by rw [num_eqb]
  have h3 := stold_runs (!decide (x = y))
  rw [stold_num] at h3
  refine Runs.wp Go.Proofs.YtjldjhlccedkbaaGreatDoor.Am.hT Go.Proofs.YtjldjhlccedkbaaGreatDoor.Am.hm Tryz.func86 rfl (by decide) ⟨[], [0, 1, 4, 5], 10⟩ ?_; ((conv => whnf); repeat ((first | refine Wo ?_ | refine Lt (by decide) ?_ | refine Lf (by decide) ?_ | refine Cl (by decide) ?_ | refine Cr (by decide) ?_ | refine ⟨_, rfl, ?_⟩ | refine Mi rfl ?_); (conv => whnf)))
  refine litE h2 ?_
  ((conv => whnf); repeat ((first | refine Wo ?_ | refine Lt (by decide) ?_ | refine Lf (by decide) ?_ | refine Cl (by decide) ?_ | refine Cr (by decide) ?_ | refine ⟨_, rfl, ?_⟩ | refine Mi rfl ?_); (conv => whnf)))
  ((conv => whnf); (refine Hc.flat h3 ?_ rfl ?_; (focus ((repeat ((conv => arg 1; whnf); first | exact Tels.nil | apply Tels.cons | apply Tel.aggs | apply Tel.tups | exact Tel.refl _ | exact Tel.nil1 _ | exact Tel.cap _ _ _ _)); done))); ((conv => whnf); repeat ((first | refine Wo ?_ | refine Lt (by decide) ?_ | refine Lf (by decide) ?_ | refine Cl (by decide) ?_ | refine Cr (by decide) ?_ | refine ⟨_, rfl, ?_⟩ | refine Mi rfl ?_); (conv => whnf))))
  ((conv => whnf); ((repeat ((conv => arg 1; whnf); first | exact Tels.nil | apply Tels.cons | apply Tel.aggs | apply Tel.tups | exact Tel.refl _ | exact Tel.nil1 _ | exact Tel.cap _ _ _ _)); done))
omit hy
omit hx in
end
end Go.Proofs.YtjldjhlccedkbaaGreatDoor.Am
end
section
/- scalar.Dyad, at every sign. -/
namespace Go.Proofs.YtjldjhlccedkbaaGreatDoor.Am
open Go Go.Lib Go.RowKit Go.Proofs.YtjldjhlccedkbaaGreatDoor.Nm Go.Proofs.YtjldjhlccedkbaaGreatDoorW.PrintWords Go.Proofs.YtjldjhlccedkbaaGreatDoor
set_option linter.unusedVariables false
set_option linter.unusedSimpArgs false
set_option maxRecDepth 100000
set_option maxHeartbeats 8000000
theorem num_mayB {b : ByteArray} (h : mayB b = true) : ∃ x, b = numS x ∧ Nm.Sm x := by
  obtain ⟨z, h1, h2⟩ := num_of_may _ h
  exact ⟨z, by unfold numS; rw [← h1], h2⟩
def sd (op a b : ByteArray) : ByteArray × Int := dyZ (op.data.toList.headD 0) (zB a) (zB b)
theorem sd_num (c : UInt8) (x y : Int) : sd ⟨#[c]⟩ (numS x) (numS y) = dyZ c x y := by
  unfold sd
  rw [zB_num, zB_num]
  rfl
theorem sg_dy {op : ByteArray} (h : sgB dyS op = true) : ∃ c, op = ⟨#[c]⟩ ∧ c ∈ ([43, 45, 42, 37, 33, 38, 124, 60, 62, 61, 126] : List UInt8) := by
  unfold sgB at h
  split at h
  · rename_i c hc
    exact ⟨c, by rw [ba_of op, hc], by simpa [dyS] using h⟩
  · cases h
theorem dyZ_runs {x y : Int} (hx : Nm.Sm x) (hy : Nm.Sm y) {c : UInt8} (hc : c ∈ ([43, 45, 42, 37, 33, 38, 124, 60, 62, 61, 126] : List UInt8)) : Runs Tryz.prog 31 [sD ⟨#[c]⟩, sD (numS x), sD (numS y)] (eD (dyZ c x y)) := by
  have m1 := mayZ hx
  have m2 := mayZ hy
  simp only [List.mem_cons, List.not_mem_nil, or_false] at hc
  rcases hc with rfl | rfl | rfl | rfl | rfl | rfl | rfl | rfl | rfl | rfl | rfl
  · exact sc_add m1 m2 (add_yes hx hy)
  · exact sc_sub m1 m2 (sub_yes hx hy)
  · exact sc_mul m1 m2 (mul_yes hx hy)
  · show Runs Tryz.prog 31 _ (eD (if y = 0 then (BA [], 5) else Nm.told (fl x y)))
    by_cases h0 : y = 0
    · subst h0
      rw [if_pos rfl]
      exact sc_div m1 m2 (div_zero hx)
    · rw [if_neg h0]
      exact sc_div m1 m2 (div_yes hx hy h0)
  · show Runs Tryz.prog 31 _ (eD (if y = 0 then (BA [], 5) else Nm.told (fm x y)))
    by_cases h0 : y = 0
    · subst h0
      rw [if_pos rfl]
      exact sc_mod m1 m2 (mod_zero hx)
    · rw [if_neg h0]
      exact sc_mod m1 m2 (mod_yes hx hy h0)
  · exact sc_min m1 m2 (min_runs hx hy)
  · exact sc_max m1 m2 (max_runs hx hy)
  · exact sc_lt m1 m2 (lt_runs hx hy)
  · exact sc_gt m1 m2 (gt_runs hx hy)
  · exact sc_eq m1 m2 eq_runs
  · exact sc_ne m1 m2 ne_runs
theorem sd_runs {op a b : ByteArray} (ho : sgB dyS op = true) (ha : mayB a = true) (hb : mayB b = true) : Runs Tryz.prog 31 [sD op, sD a, sD b] (eD (sd op a b)) := by
  obtain ⟨c, rfl, hc⟩ := sg_dy ho
  obtain ⟨x, rfl, hx⟩ := num_mayB ha
  obtain ⟨y, rfl, hy⟩ := num_mayB hb
  rw [sd_num]
  exact dyZ_runs hx hy hc
end Go.Proofs.YtjldjhlccedkbaaGreatDoor.Am
end
section
/- spread.Dyad, told whole. -/
namespace Go.Proofs.YtjldjhlccedkbaaGreatDoor.Am
open Go Go.RowKit Go.Proofs.YtjldjhlccedkbaaGreatDoor.Sh
set_option linter.unusedVariables false
set_option linter.unusedSimpArgs false
set_option maxRecDepth 100000
set_option maxHeartbeats 8000000
theorem good_iff {s : List Int} {e : List ByteArray} : good s e = true ↔ sizeS s = ((e.length : Int), 0) ∧ ∀ b ∈ e, mayB b = true := by
  unfold good
  generalize sizeS s = q
  obtain ⟨n, x⟩ := q
  simp only [Bool.and_eq_true, decide_eq_true_eq, List.all_eq_true, Prod.mk.injEq]
  constructor
  · rintro ⟨⟨h1, h2⟩, h3⟩
    exact ⟨⟨h2.symm, h1⟩, h3⟩
  · rintro ⟨⟨h1, h2⟩, h3⟩
    exact ⟨⟨h2, h1.symm⟩, h3⟩
theorem good_size {s : List Int} {e : List ByteArray} (h : good s e = true) : sizeS s = ((e.length : Int), 0) := (good_iff.1 h).1
theorem good_all {s : List Int} {e : List ByteArray} (h : good s e = true) : ∀ b ∈ e, mayB b = true := (good_iff.1 h).2
theorem good_rank {s : List Int} {e : List ByteArray} (h : good s e = true) : s.length ≤ 3 := (size_ok (good_size h)).1
theorem good_few {s : List Int} {e : List ByteArray} (h : good s e = true) : e.length ≤ 4096 := by
  rcases (size_ok (good_size h)).2.2 with ⟨_, h⟩ | ⟨_, _, _, h⟩ <;> omega
theorem atS_mem {s : List Int} {e : List ByteArray} {i : Nat} (h0 : s = [] → 0 < e.length) (h1 : s ≠ [] → i < e.length) : atS s e i ∈ e := by
  unfold atS
  by_cases h : s = []
  · rw [if_pos h, List.getD_eq_getElem?_getD, List.getElem?_eq_getElem (h0 h)]
    exact List.getElem_mem _
  · rw [if_neg h, List.getD_eq_getElem?_getD, List.getElem?_eq_getElem (h1 h)]
    exact List.getElem_mem _
/-- what two arrays are together -/
def dyR (op : ByteArray) (s1 : List Int) (e1 : List ByteArray) (s2 : List Int) (e2 : List ByteArray) (i : Nat) : ByteArray × Int := sd op (atS s1 e1 i) (atS s2 e2 i)
def dyN (s1 s2 : List Int) : Nat := (sizeS (meetS s1 s2).1).1.toNat
def dyO (op : ByteArray) (s1 : List Int) (e1 : List ByteArray) (s2 : List Int) (e2 : List ByteArray) : (List Int × List ByteArray) × Int :=
  if good s1 e1 = true ∧ good s2 e2 = true ∧ sgB dyS op = true then
    if (meetS s1 s2).2 = 0 then
      match (List.range (dyN s1 s2)).find? (fun i => decide ((dyR op s1 e1 s2 e2 i).2 ≠ 0)) with
      | some z => (([], []), (dyR op s1 e1 s2 e2 z).2)
      | none => (((meetS s1 s2).1, (List.range (dyN s1 s2)).map fun i => (dyR op s1 e1 s2 e2 i).1), 0)
    else (([], []), (meetS s1 s2).2)
  else (([], []), 1)
theorem meet_ok {s1 s2 : List Int} {e1 e2 : List ByteArray} (g1 : good s1 e1 = true) (g2 : good s2 e2 = true) (hm : (meetS s1 s2).2 = 0) :
    sizeS (meetS s1 s2).1 = ((dyN s1 s2 : Int), 0) ∧ dyN s1 s2 ≤ 4096 ∧ (∀ i, i < dyN s1 s2 → (s1 = [] → 0 < e1.length) ∧ (s1 ≠ [] → i < e1.length)) ∧ (∀ i, i < dyN s1 s2 → (s2 = [] → 0 < e2.length) ∧ (s2 ≠ [] → i < e2.length)) ∧ ((meetS s1 s2).1 = s1 ∧ dyN s1 s2 = e1.length ∨ (meetS s1 s2).1 = s2 ∧ dyN s1 s2 = e2.length) := by
  have z1 := good_size g1
  have z2 := good_size g2
  have f1 := good_few g1
  have f2 := good_few g2
  have hnil : ∀ {s : List Int} {e : List ByteArray}, sizeS s = ((e.length : Int), 0) → s = [] → 0 < e.length := fun {s e} h hs => by
    subst hs
    have h0 : sizeS [] = (1, 0) := by decide
    rw [h0] at h
    have := congrArg Prod.fst h
    simp only at this
    omega
  have n1 := hnil z1
  have n2 := hnil z2
  unfold dyN
  unfold meetS at hm ⊢
  split at hm
  · rename_i hc
    rw [if_pos hc]
    simp only [z1]
    refine ⟨by simp, by simpa using f1, fun i hi => ⟨n1, fun _ => by simpa using hi⟩, fun i hi => ⟨n2, fun hne => ?_⟩, .inl ⟨by simp, by simp⟩⟩
    rcases hc with rfl | hc
    · rw [z1] at z2
      have := congrArg Prod.fst z2
      simp only at this
      simp only [Int.toNat_natCast] at hi
      omega
    · exact absurd hc hne
  · rename_i hc
    split at hm
    · rename_i ha
      rw [if_neg hc, if_pos ha]
      simp only [z2]
      exact ⟨by simp, by simpa using f2, fun i hi => ⟨n1, fun hne => absurd ha hne⟩, fun i hi => ⟨n2, fun _ => by simpa using hi⟩, .inr ⟨by simp, by simp⟩⟩
    · simp at hm
theorem dyad_runs (op : ByteArray) (s1 : List Int) (e1 : List ByteArray) (s2 : List Int) (e2 : List ByteArray) (l1 : s1.length ≤ 9223372036854775807) (l2 : s2.length ≤ 9223372036854775807) (j1 : e1.length ≤ 9223372036854775807) (j2 : e2.length ≤ 9223372036854775807) :
    Runs Tryz.prog 16 [sD op, vD s1 e1 none none, vD s2 e2 none none] (.tup [vD (dyO op s1 e1 s2 e2).1.1 (dyO op s1 e1 s2 e2).1.2 none none, iD (dyO op s1 e1 s2 e2).2]) := by
  have m1 := vmay_runs s1 e1 (by omega) (by omega)
  have m2 := vmay_runs s2 e2 (by omega) (by omega)
  have o := ops_runs op
  unfold dyO
  cases g1 : good s1 e1 with
  | false => rw [g1] at m1; rw [if_neg (by simp)]; exact dyad_no1 m1
  | true =>
    cases g2 : good s2 e2 with
    | false => rw [g1] at m1; rw [g2] at m2; rw [if_neg (by simp)]; exact dyad_no2 m1 m2
    | true =>
      cases ho : sgB dyS op with
      | false => rw [g1] at m1; rw [g2] at m2; rw [ho] at o; rw [if_neg (by simp)]; exact dyad_no3 m1 m2 o
      | true =>
        rw [g1] at m1
        rw [g2] at m2
        rw [ho] at o
        rw [if_pos ⟨rfl, rfl, rfl⟩]
        have r1 := good_rank g1
        have r2 := good_rank g2
        have hme := meet_runs s1 s2 (by omega) (by omega)
        by_cases hm : (meetS s1 s2).2 = 0
        · rw [if_pos hm]
          obtain ⟨k1, k2, k3, k4, k5⟩ := meet_ok g1 g2 hm
          rw [hm] at hme
          have hsz := size_runs (meetS s1 s2).1 (by rcases k5 with ⟨h, _⟩ | ⟨h, _⟩ <;> rw [h] <;> omega)
          rw [k1] at hsz
          have run := fun {z : Nat} {res : D} => dyad_run (z := z) (res := res) (r := dyR op s1 e1 s2 e2) m1 m2 o hme hsz (fun i hi => elem_runs (k3 i hi).1 (k3 i hi).2) (fun i hi => elem_runs (k4 i hi).1 (k4 i hi).2) (fun i hi => sd_runs ho (good_all g1 _ (atS_mem (k3 i hi).1 (k3 i hi).2)) (good_all g2 _ (atS_mem (k4 i hi).1 (k4 i hi).2))) (by omega)
          split
          · rename_i z hz
            rw [List.find?_eq_some_iff_append] at hz
            obtain ⟨hzb, l0, l3, hz1, hz2⟩ := hz
            have hlen : l0.length = z := by
              have := congrArg (fun l => l[l0.length]?) hz1
              simp only [List.getElem?_append_right (Nat.le_refl _), Nat.sub_self, List.getElem?_cons_zero] at this
              have h2 := (List.getElem?_eq_some_iff.1 this).2
              simpa using h2
            have hzn : z < dyN s1 s2 := by
              have := congrArg List.length hz1
              simp only [List.length_range, List.length_append, List.length_cons] at this
              omega
            refine run (z := z) (fun i hi => ?_) (.inr ⟨hzn, by simpa using hzb, rfl⟩)
            have hmem : i ∈ l0 := by
              have h3 : (List.range (dyN s1 s2))[i]? = some i := by simp [show i < dyN s1 s2 by omega]
              rw [hz1, List.getElem?_append_left (by omega)] at h3
              exact List.mem_of_getElem? h3
            simpa using hz2 i hmem
          · rename_i hz
            rw [List.find?_eq_none] at hz
            refine (run (z := dyN s1 s2) (fun i hi => by simpa using hz i (List.mem_range.2 hi)) (.inl ⟨rfl, rfl⟩)).tel (Tels.refl _) ?_
            have : rS ((List.range (dyN s1 s2)).map fun i => (dyR op s1 e1 s2 e2 i).1) none = .sl 1 ((List.range (dyN s1 s2)).map fun j => sD (dyR op s1 e1 s2 e2 j).1) (dyN s1 s2) none := by simp [List.map_map, Function.comp_def]
            show Tel _ (.tup [.agg [rI (meetS s1 s2).1 none, rS ((List.range (dyN s1 s2)).map fun i => (dyR op s1 e1 s2 e2 i).1) none], iD 0])
            rw [this]
            exact .refl _
        · rw [if_neg hm]
          exact dyad_no4 hm m1 m2 o hme
end Go.Proofs.YtjldjhlccedkbaaGreatDoor.Am
end
section
/- The statements' head: the document's example; few. -/
namespace Go.Proofs.YtjldjhlccedkbaaGreatDoor.Am
open Go Go.RowKit Go.Proofs.YtjldjhlccedkbaaGreatDoor.Sh
set_option linter.unusedVariables false
set_option linter.unusedSimpArgs false
set_option maxRecDepth 100000
set_option maxHeartbeats 8000000
theorem shown_dy : dyO ⟨#[43]⟩ [3] [⟨#[49]⟩, ⟨#[50]⟩, ⟨#[51]⟩] [] [⟨#[49, 48]⟩] = (([3], [⟨#[49, 49]⟩, ⟨#[49, 50]⟩, ⟨#[49, 51]⟩]), 0) := by
  decide +kernel
theorem shown_runs : Runs Tryz.prog 13 [] (bD true) := by
  have v1 := vector_runs [⟨#[49]⟩, ⟨#[50]⟩, ⟨#[51]⟩] (by decide)
  have v2 := vector_runs [⟨#[49, 49]⟩, ⟨#[49, 50]⟩, ⟨#[49, 51]⟩] (by decide)
  have c1 := scalar_runs ⟨#[49, 48]⟩
  have d := dyad_runs ⟨#[43]⟩ [3] [⟨#[49]⟩, ⟨#[50]⟩, ⟨#[51]⟩] [] [⟨#[49, 48]⟩] (by decide) (by decide) (by decide) (by decide)
  rw [shown_dy] at d
  have sm := vsame_runs [3] [3] [⟨#[49, 49]⟩, ⟨#[49, 50]⟩, ⟨#[49, 51]⟩] [⟨#[49, 49]⟩, ⟨#[49, 50]⟩, ⟨#[49, 51]⟩] (by decide) (by decide) (by decide) (by decide)
  have o1 := ops_runs ⟨#[43]⟩
  have o2 := ops_runs ⟨#[35]⟩
  rw [show sgB dyS ⟨#[43]⟩ = true by decide +kernel] at o1
  rw [show sgB dyS ⟨#[35]⟩ = false by decide +kernel] at o2
  rw [decide_eq_true ⟨rfl, rfl⟩] at sm
  refine Runs.wp Go.Proofs.YtjldjhlccedkbaaGreatDoor.Am.hT Go.Proofs.YtjldjhlccedkbaaGreatDoor.Am.hm Tryz.func13 rfl (by decide) ⟨[(2, .first 0 (.first 1 (.first 2 (.alt 3 (.alt 4 (.alt 5 (.alt 6 (.first 7 (.first 8 (.alt 9 (.first 10 (.first 11 (.alt 12 (.first 13 (.first 14 (.first 15 .done))) .nil))) .nil))) .nil) .nil) .nil) (.alt 4 (.alt 3 (.alt 5 (.alt 6 (.first 7 (.first 8 (.alt 9 (.first 10 (.first 11 (.alt 12 (.first 13 (.first 14 (.first 15 .done))) .nil))) .nil))) .nil) .nil) (.alt 5 (.alt 3 (.alt 6 (.first 7 (.first 8 (.alt 9 (.first 10 (.first 11 (.alt 12 (.first 13 (.first 14 (.first 15 .done))) .nil))) .nil))) .nil) .nil) .nil)) .nil)))))], [0, 1, 2], 25⟩ ?_; ((conv => whnf); repeat ((first | refine Wo ?_ | refine Lt (by decide) ?_ | refine Lf (by decide) ?_ | refine Cl (by decide) ?_ | refine Cr (by decide) ?_ | refine ⟨_, rfl, ?_⟩ | refine Mi rfl ?_); (conv => whnf)))
  ((conv => whnf); (refine Hc.runs v1 ?_ ?_; (focus ((repeat ((conv => arg 1; whnf); first | exact Tels.nil | apply Tels.cons | apply Tel.aggs | apply Tel.tups | exact Tel.refl _ | exact Tel.nil1 _ | exact Tel.cap _ _ _ _)); done))); ((conv => whnf); repeat ((first | refine Wo ?_ | refine Lt (by decide) ?_ | refine Lf (by decide) ?_ | refine Cl (by decide) ?_ | refine Cr (by decide) ?_ | refine ⟨_, rfl, ?_⟩ | refine Mi rfl ?_); (conv => whnf))))
  ((conv => whnf); (refine Hc.runs c1 ?_ ?_; (focus ((repeat ((conv => arg 1; whnf); first | exact Tels.nil | apply Tels.cons | apply Tel.aggs | apply Tel.tups | exact Tel.refl _ | exact Tel.nil1 _ | exact Tel.cap _ _ _ _)); done))); ((conv => whnf); repeat ((first | refine Wo ?_ | refine Lt (by decide) ?_ | refine Lf (by decide) ?_ | refine Cl (by decide) ?_ | refine Cr (by decide) ?_ | refine ⟨_, rfl, ?_⟩ | refine Mi rfl ?_); (conv => whnf))))
  ((conv => whnf); (refine Hc.runs d ?_ ?_; (focus ((repeat ((conv => arg 1; whnf); first | exact Tels.nil | apply Tels.cons | apply Tel.aggs | apply Tel.tups | exact Tel.refl _ | exact Tel.nil1 _ | exact Tel.cap _ _ _ _)); done))); ((conv => whnf); repeat ((first | refine Wo ?_ | refine Lt (by decide) ?_ | refine Lf (by decide) ?_ | refine Cl (by decide) ?_ | refine Cr (by decide) ?_ | refine ⟨_, rfl, ?_⟩ | refine Mi rfl ?_); (conv => whnf))))
  (refine And.intro (by decide +kernel) ?_; apply Exists.intro; apply And.intro; focus ((repeat' ((conv => whnf); first | exact trivial | refine Wo ?_ | refine Lt (by decide) ?_ | refine Lf (by decide) ?_ | refine Cl (by decide) ?_ | refine Cr (by decide) ?_ | refine ⟨_, rfl, ?_⟩ | refine Mi rfl ?_ | (first | (refine Hc.runs v2 ?_ ?_; (focus ((repeat ((conv => arg 1; whnf); first | exact Tels.nil | apply Tels.cons | apply Tel.aggs | apply Tel.tups | exact Tel.refl _ | exact Tel.nil1 _ | exact Tel.cap _ _ _ _)); done))) | (refine Hc.flat sm ?_ rfl ?_; (focus ((repeat ((conv => arg 1; whnf); first | exact Tels.nil | apply Tels.cons | apply Tel.aggs | apply Tel.tups | exact Tel.refl _ | exact Tel.nil1 _ | exact Tel.cap _ _ _ _)); done))) | (refine Hc.flat o1 ?_ rfl ?_; (focus ((repeat ((conv => arg 1; whnf); first | exact Tels.nil | apply Tels.cons | apply Tel.aggs | apply Tel.tups | exact Tel.refl _ | exact Tel.nil1 _ | exact Tel.cap _ _ _ _)); done))) | (refine Hc.flat o2 ?_ rfl ?_; (focus ((repeat ((conv => arg 1; whnf); first | exact Tels.nil | apply Tels.cons | apply Tel.aggs | apply Tel.tups | exact Tel.refl _ | exact Tel.nil1 _ | exact Tel.cap _ _ _ _)); done)))) | (refine And.intro ?_ ?_))); all_goals (first | ((conv => whnf); exact Wk.frc (keep := [0, 1, 2]) (N := 25) (by (conv => whnf); first | done | exact rfl)) | (first | decide | rfl | assumption | omega | (dsimp only; omega) | (unfold maxLen; omega) | ((try dsimp only [maxLen]); simp only [List.length_append, List.length_cons, List.length_nil, List.length_map, List.length_range, List.length_set, List.length_replicate]; omega) | ((try dsimp only [maxLen]); simp only [IntKind.wrap_i64, IntKind.wrap_u64, List.length_append, List.length_cons, List.length_nil, List.length_map, List.length_range, List.length_set, List.length_replicate]; omega) | ((try dsimp only [maxLen]); simp only [List.length_append, List.length_cons, List.length_nil, List.length_map, List.length_range, List.length_set, List.length_replicate] at *; omega)))))
  ((conv => whnf); repeat ((first | refine Wo ?_ | refine Lt (by decide) ?_ | refine Lf (by decide) ?_ | refine Cl (by decide) ?_ | refine Cr (by decide) ?_ | refine ⟨_, rfl, ?_⟩ | refine Mi rfl ?_); (conv => whnf)))
  ((conv => whnf); ((repeat ((conv => arg 1; whnf); first | exact Tels.nil | apply Tels.cons | apply Tel.aggs | apply Tel.tups | exact Tel.refl _ | exact Tel.nil1 _ | exact Tel.cap _ _ _ _)); done))
/-- few enough -/
def fewB (s : List Int) (e : List ByteArray) : Bool := (e.take 301).all (fun x => decide (x.size ≤ 120)) && decide (e.length ≤ 300) && decide (s.length ≤ 20)
theorem few_runs (s : List Int) (e : List ByteArray) (hs : s.length ≤ 9223372036854775807) (he : e.length ≤ 9223372036854775807) : Runs Tryz.prog 14 [vD s e none none] (bD (fewB s e)) := by
  refine Runs.wp Go.Proofs.YtjldjhlccedkbaaGreatDoor.Am.hT Go.Proofs.YtjldjhlccedkbaaGreatDoor.Am.hm Tryz.func14 rfl (by decide) ⟨[], [0, 1, 2, 3, 12, 21], 32⟩ ?_; ((conv => whnf); repeat ((first | refine Wo ?_ | refine Lt (by decide) ?_ | refine Lf (by decide) ?_ | refine Cl (by decide) ?_ | refine Cr (by decide) ?_ | refine ⟨_, rfl, ?_⟩ | refine Mi rfl ?_); (conv => whnf)))
  refine loop_ind (fun k (i : Nat) => i + k = 302 ∧ i ≤ e.length ∧ i ≤ 301 ∧ fewB s e = ((((e.take 301).drop i).all (fun x => decide (x.size ≤ 120))) && decide (e.length ≤ 300) && decide (s.length ≤ 20))) (fun i => { t := pin [(1, .pt 0 0), (2, .d (bD false)), (3, .d (iD i))], N := 32, h := hpin [some (.st 25 [.d (rI s none), .d (rS e none)])], n := 1, lo := 0 }) (fun i h => by omega) ?_ 302 0 ⟨by omega, by omega, by omega, rfl⟩ _ ?_
  · rintro k i R ih ⟨hk, hi, hi2, hq⟩
    rw [hq]
    have hend : ¬ (i < e.length ∧ i < 301) → ((((e.take 301).drop i).all (fun x => decide (x.size ≤ 120))) && decide (e.length ≤ 300) && decide (s.length ≤ 20)) = (decide (e.length ≤ 300) && decide (s.length ≤ 20)) := fun h => by
      rw [List.drop_eq_nil_of_le (by rw [List.length_take]; omega)]
      simp
    have g1 : decide (((e.length : Nat) : Int) ≤ 300) = decide (e.length ≤ 300) := by rw [decide_eq_decide]; omega
    have g2 : decide (((s.length : Nat) : Int) ≤ 20) = decide (s.length ≤ 20) := by rw [decide_eq_decide]; omega
    by_cases hl1 : i < e.length
    · have t1 : decide ((i : Int) < (e.length : Int)) = true := by simpa using hl1
      by_cases hl2 : i < 301
      · have t2 : decide ((i : Int) < 301) = true := by rw [decide_eq_true_iff]; omega
        have hlt : i < (e.take 301).length := by rw [List.length_take]; omega
        have hd : (e.take 301).drop i = e[i] :: (e.take 301).drop (i + 1) := by
          rw [List.drop_eq_getElem_cons hlt, List.getElem_take]
        have hix : (e.map sD)[(i : Int).toNat * 1]? = some (sD e[i]) := ixm (j := i) (by simp [hl1]) (by simp)
        rw [hd, List.all_cons] at hq ⊢
        by_cases hb : e[i].size ≤ 120
        · have t3 : decide (((e[i].size : Nat) : Int) > 120) = false := by rw [decide_eq_false_iff_not]; omega
          rw [decide_eq_true hb, Bool.true_and] at hq ⊢
          rw [← hq]
          ((conv => whnf); repeat ((first | refine Wo ?_ | refine Lt (by decide) ?_ | refine Lf (by decide) ?_ | refine Cl (by decide) ?_ | refine Cr (by decide) ?_ | refine ⟨_, rfl, ?_⟩ | refine Mi rfl ?_); (conv => whnf)))
          refine litE t1 ?_
          ((conv => whnf); repeat ((first | refine Wo ?_ | refine Lt (by decide) ?_ | refine Lf (by decide) ?_ | refine Cl (by decide) ?_ | refine Cr (by decide) ?_ | refine ⟨_, rfl, ?_⟩ | refine Mi rfl ?_); (conv => whnf)))
          refine litE t2 ?_
          ((conv => whnf); repeat ((first | refine Wo ?_ | refine Lt (by decide) ?_ | refine Lf (by decide) ?_ | refine Cl (by decide) ?_ | refine Cr (by decide) ?_ | refine ⟨_, rfl, ?_⟩ | refine Mi rfl ?_ | (refine And.intro ?_ ?_; focus (first | decide | rfl | assumption | omega | (dsimp only; omega) | (unfold maxLen; omega) | ((try dsimp only [maxLen]); simp only [List.length_append, List.length_cons, List.length_nil, List.length_map, List.length_range, List.length_set, List.length_replicate]; omega) | ((try dsimp only [maxLen]); simp only [IntKind.wrap_i64, IntKind.wrap_u64, List.length_append, List.length_cons, List.length_nil, List.length_map, List.length_range, List.length_set, List.length_replicate]; omega) | ((try dsimp only [maxLen]); simp only [List.length_append, List.length_cons, List.length_nil, List.length_map, List.length_range, List.length_set, List.length_replicate] at *; omega)))); (conv => whnf)))
          ((conv => whnf); refine ⟨_, hix, ?_⟩; ((conv => whnf); repeat ((first | refine Wo ?_ | refine Lt (by decide) ?_ | refine Lf (by decide) ?_ | refine Cl (by decide) ?_ | refine Cr (by decide) ?_ | refine ⟨_, rfl, ?_⟩ | refine Mi rfl ?_); (conv => whnf))))
          refine litE t3 ?_
          ((conv => whnf); repeat ((first | refine Wo ?_ | refine Lt (by decide) ?_ | refine Lf (by decide) ?_ | refine Cl (by decide) ?_ | refine Cr (by decide) ?_ | refine ⟨_, rfl, ?_⟩ | refine Mi rfl ?_); (conv => whnf)))
          refine ih (i + 1) _ ⟨by omega, by omega, by omega, hq⟩ ?_
          (refine Wk.to _ _ ?_ ?_ <;> (repeat' first | exact trivial | rfl | (refine And.intro ?_ ?_)))
          exact inE (i64n (by simp) (by omega))
        · have t3 : decide (((e[i].size : Nat) : Int) > 120) = true := by rw [decide_eq_true_iff]; omega
          rw [decide_eq_false hb, Bool.false_and, Bool.false_and, Bool.false_and]
          ((conv => whnf); repeat ((first | refine Wo ?_ | refine Lt (by decide) ?_ | refine Lf (by decide) ?_ | refine Cl (by decide) ?_ | refine Cr (by decide) ?_ | refine ⟨_, rfl, ?_⟩ | refine Mi rfl ?_); (conv => whnf)))
          refine litE t1 ?_
          ((conv => whnf); repeat ((first | refine Wo ?_ | refine Lt (by decide) ?_ | refine Lf (by decide) ?_ | refine Cl (by decide) ?_ | refine Cr (by decide) ?_ | refine ⟨_, rfl, ?_⟩ | refine Mi rfl ?_); (conv => whnf)))
          refine litE t2 ?_
          ((conv => whnf); repeat ((first | refine Wo ?_ | refine Lt (by decide) ?_ | refine Lf (by decide) ?_ | refine Cl (by decide) ?_ | refine Cr (by decide) ?_ | refine ⟨_, rfl, ?_⟩ | refine Mi rfl ?_ | (refine And.intro ?_ ?_; focus (first | decide | rfl | assumption | omega | (dsimp only; omega) | (unfold maxLen; omega) | ((try dsimp only [maxLen]); simp only [List.length_append, List.length_cons, List.length_nil, List.length_map, List.length_range, List.length_set, List.length_replicate]; omega) | ((try dsimp only [maxLen]); simp only [IntKind.wrap_i64, IntKind.wrap_u64, List.length_append, List.length_cons, List.length_nil, List.length_map, List.length_range, List.length_set, List.length_replicate]; omega) | ((try dsimp only [maxLen]); simp only [List.length_append, List.length_cons, List.length_nil, List.length_map, List.length_range, List.length_set, List.length_replicate] at *; omega)))); (conv => whnf)))
          ((conv => whnf); refine ⟨_, hix, ?_⟩; ((conv => whnf); repeat ((first | refine Wo ?_ | refine Lt (by decide) ?_ | refine Lf (by decide) ?_ | refine Cl (by decide) ?_ | refine Cr (by decide) ?_ | refine ⟨_, rfl, ?_⟩ | refine Mi rfl ?_); (conv => whnf))))
          refine litE t3 ?_
          ((conv => whnf); repeat ((first | refine Wo ?_ | refine Lt (by decide) ?_ | refine Lf (by decide) ?_ | refine Cl (by decide) ?_ | refine Cr (by decide) ?_ | refine ⟨_, rfl, ?_⟩ | refine Mi rfl ?_); (conv => whnf)))
          ((conv => whnf); ((repeat ((conv => arg 1; whnf); first | exact Tels.nil | apply Tels.cons | apply Tel.aggs | apply Tel.tups | exact Tel.refl _ | exact Tel.nil1 _ | exact Tel.cap _ _ _ _)); done))
      · have t2 : decide ((i : Int) < 301) = false := by rw [decide_eq_false_iff_not]; omega
        rw [hend (by omega)]
        rw [decide_eq_false (show ¬ e.length ≤ 300 by omega)] at g1 ⊢
        ((conv => whnf); repeat ((first | refine Wo ?_ | refine Lt (by decide) ?_ | refine Lf (by decide) ?_ | refine Cl (by decide) ?_ | refine Cr (by decide) ?_ | refine ⟨_, rfl, ?_⟩ | refine Mi rfl ?_); (conv => whnf)))
        refine litE t1 ?_
        ((conv => whnf); repeat ((first | refine Wo ?_ | refine Lt (by decide) ?_ | refine Lf (by decide) ?_ | refine Cl (by decide) ?_ | refine Cr (by decide) ?_ | refine ⟨_, rfl, ?_⟩ | refine Mi rfl ?_); (conv => whnf)))
        refine litE t2 ?_
        ((conv => whnf); repeat ((first | refine Wo ?_ | refine Lt (by decide) ?_ | refine Lf (by decide) ?_ | refine Cl (by decide) ?_ | refine Cr (by decide) ?_ | refine ⟨_, rfl, ?_⟩ | refine Mi rfl ?_); (conv => whnf)))
        refine litE g1 ?_
        ((conv => whnf); repeat ((first | refine Wo ?_ | refine Lt (by decide) ?_ | refine Lf (by decide) ?_ | refine Cl (by decide) ?_ | refine Cr (by decide) ?_ | refine ⟨_, rfl, ?_⟩ | refine Mi rfl ?_); (conv => whnf)))
        ((conv => whnf); ((repeat ((conv => arg 1; whnf); first | exact Tels.nil | apply Tels.cons | apply Tel.aggs | apply Tel.tups | exact Tel.refl _ | exact Tel.nil1 _ | exact Tel.cap _ _ _ _)); done))
    · have t1 : decide ((i : Int) < (e.length : Int)) = false := by simpa using hl1
      rw [hend (by omega)]
      by_cases h3 : e.length ≤ 300
      · rw [decide_eq_true h3] at g1 ⊢
        rw [Bool.true_and]
        ((conv => whnf); repeat ((first | refine Wo ?_ | refine Lt (by decide) ?_ | refine Lf (by decide) ?_ | refine Cl (by decide) ?_ | refine Cr (by decide) ?_ | refine ⟨_, rfl, ?_⟩ | refine Mi rfl ?_); (conv => whnf)))
        refine litE t1 ?_
        ((conv => whnf); repeat ((first | refine Wo ?_ | refine Lt (by decide) ?_ | refine Lf (by decide) ?_ | refine Cl (by decide) ?_ | refine Cr (by decide) ?_ | refine ⟨_, rfl, ?_⟩ | refine Mi rfl ?_); (conv => whnf)))
        refine litE g1 ?_
        ((conv => whnf); repeat ((first | refine Wo ?_ | refine Lt (by decide) ?_ | refine Lf (by decide) ?_ | refine Cl (by decide) ?_ | refine Cr (by decide) ?_ | refine ⟨_, rfl, ?_⟩ | refine Mi rfl ?_); (conv => whnf)))
        refine litE g2 ?_
        ((conv => whnf); repeat ((first | refine Wo ?_ | refine Lt (by decide) ?_ | refine Lf (by decide) ?_ | refine Cl (by decide) ?_ | refine Cr (by decide) ?_ | refine ⟨_, rfl, ?_⟩ | refine Mi rfl ?_); (conv => whnf)))
        ((conv => whnf); ((repeat ((conv => arg 1; whnf); first | exact Tels.nil | apply Tels.cons | apply Tel.aggs | apply Tel.tups | exact Tel.refl _ | exact Tel.nil1 _ | exact Tel.cap _ _ _ _)); done))
      · rw [decide_eq_false h3] at g1 ⊢
        rw [Bool.false_and]
        ((conv => whnf); repeat ((first | refine Wo ?_ | refine Lt (by decide) ?_ | refine Lf (by decide) ?_ | refine Cl (by decide) ?_ | refine Cr (by decide) ?_ | refine ⟨_, rfl, ?_⟩ | refine Mi rfl ?_); (conv => whnf)))
        refine litE t1 ?_
        ((conv => whnf); repeat ((first | refine Wo ?_ | refine Lt (by decide) ?_ | refine Lf (by decide) ?_ | refine Cl (by decide) ?_ | refine Cr (by decide) ?_ | refine ⟨_, rfl, ?_⟩ | refine Mi rfl ?_); (conv => whnf)))
        refine litE g1 ?_
        ((conv => whnf); repeat ((first | refine Wo ?_ | refine Lt (by decide) ?_ | refine Lf (by decide) ?_ | refine Cl (by decide) ?_ | refine Cr (by decide) ?_ | refine ⟨_, rfl, ?_⟩ | refine Mi rfl ?_); (conv => whnf)))
        ((conv => whnf); ((repeat ((conv => arg 1; whnf); first | exact Tels.nil | apply Tels.cons | apply Tel.aggs | apply Tel.tups | exact Tel.refl _ | exact Tel.nil1 _ | exact Tel.cap _ _ _ _)); done))
  · (refine Wk.to _ _ ?_ ?_ <;> (repeat' first | exact trivial | rfl | (refine And.intro ?_ ?_)))
end Go.Proofs.YtjldjhlccedkbaaGreatDoor.Am
end
section
/- What spread.Dyad tells, plainly. -/
namespace Go.Proofs.YtjldjhlccedkbaaGreatDoor.Am
open Go Go.RowKit Go.Proofs.YtjldjhlccedkbaaGreatDoor.Sh
open Go.Proofs.YtjldjhlccedkbaaGreatDoor.Nm (numS)
set_option linter.unusedVariables false
set_option linter.unusedSimpArgs false
set_option maxRecDepth 100000
set_option maxHeartbeats 8000000
/-- each pair is a pair of numbers -/
theorem dyR_num (op : ByteArray) {s1 s2 : List Int} {e1 e2 : List ByteArray} (g1 : good s1 e1 = true) (g2 : good s2 e2 = true) (hm : (meetS s1 s2).2 = 0) {i : Nat} (hi : i < dyN s1 s2) :
    ∃ x y, Nm.Sm x ∧ Nm.Sm y ∧ atS s1 e1 i = numS x ∧ atS s2 e2 i = numS y ∧ dyR op s1 e1 s2 e2 i = sd op (numS x) (numS y) := by
  obtain ⟨_, _, k3, k4, _⟩ := meet_ok g1 g2 hm
  obtain ⟨x, ex, hx⟩ := num_mayB (good_all g1 _ (atS_mem (k3 i hi).1 (k3 i hi).2))
  obtain ⟨y, ey, hy⟩ := num_mayB (good_all g2 _ (atS_mem (k4 i hi).1 (k4 i hi).2))
  exact ⟨x, y, hx, hy, ex, ey, by unfold dyR; rw [ex, ey]⟩
/-- what it comes to -/
theorem dyO_ok {op : ByteArray} {s1 s2 : List Int} {e1 e2 : List ByteArray} (g1 : good s1 e1 = true) (g2 : good s2 e2 = true) (ho : sgB dyS op = true) (hm : (meetS s1 s2).2 = 0) (hz : ∀ i, i < dyN s1 s2 → (dyR op s1 e1 s2 e2 i).2 = 0) :
    dyO op s1 e1 s2 e2 = (((meetS s1 s2).1, (List.range (dyN s1 s2)).map fun i => (dyR op s1 e1 s2 e2 i).1), 0) := by
  unfold dyO
  rw [if_pos ⟨g1, g2, ho⟩, if_pos hm]
  rw [show (List.range (dyN s1 s2)).find? (fun i => decide ((dyR op s1 e1 s2 e2 i).2 ≠ 0)) = none from List.find?_eq_none.2 fun i hi => by simpa using hz i (List.mem_range.1 hi)]
/-- an array and itself -/
theorem self_dy {op : ByteArray} {s : List Int} {e : List ByteArray} (G : ByteArray → ByteArray) (g : good s e = true) (ho : sgB dyS op = true) (hf : ∀ x, Nm.Sm x → sd op (numS x) (numS x) = (G (numS x), 0)) : dyO op s e s e = ((s, e.map G), 0) := by
  have hm : meetS s s = (s, 0) := by unfold meetS; rw [if_pos (.inl rfl)]
  have hm2 : (meetS s s).2 = 0 := by rw [hm]
  obtain ⟨k1, k2, k3, k4, k5⟩ := meet_ok g g hm2
  have hn : dyN s s = e.length := by rcases k5 with ⟨_, h⟩ | ⟨_, h⟩ <;> exact h
  have one : s = [] → e.length = 1 := fun hs => by
    have h := good_size g
    subst hs
    have h0 : sizeS [] = (1, 0) := by decide
    rw [h0] at h
    have := congrArg Prod.fst h
    simp only at this
    omega
  have hat : ∀ i, i < e.length → atS s e i = e.getD i ByteArray.empty := fun i hi => by
    unfold atS
    split
    · rename_i hs
      have := one hs
      rw [show i = 0 by omega]
    · rfl
  have hr : ∀ i, i < e.length → dyR op s e s e i = (G (e.getD i ByteArray.empty), 0) := fun i hi => by
    obtain ⟨x, y, hx, hy, ex, ey, er⟩ := dyR_num op g g hm2 (by rw [hn]; exact hi)
    rw [ex] at ey
    rw [er, ← ey, hf x hx, ← ex, hat i hi]
  rw [dyO_ok g g ho hm2 (fun i hi => by rw [hn] at hi; rw [hr i hi]), hm, hn]
  have : (List.range e.length).map (fun i => (dyR op s e s e i).1) = e.map G := by
    apply List.ext_getElem
    · simp
    · intro i h1 h2
      have hi : i < e.length := by simpa using h1
      simp only [List.getElem_map, List.getElem_range, hr i hi]
      rw [List.getD_eq_getElem?_getD, List.getElem?_eq_getElem hi]
      rfl
  rw [this]
theorem zero_n : (⟨#[48]⟩ : ByteArray) = numS 0 := stold_num false
theorem one_n : (⟨#[49]⟩ : ByteArray) = numS 1 := stold_num true
section
variable {s : List Int} {e : List ByteArray} (g : good s e = true)
include g
theorem self_sub : dyO ⟨#[45]⟩ s e s e = ((s, e.map fun _ => ⟨#[48]⟩), 0) := self_dy _ g (by decide +kernel) fun x hx => by
  rw [sd_num]
  show Nm.told (x - x) = _
  rw [Int.sub_self, zero_n]
  exact if_pos (show (0 : Int).natAbs < 10 ^ 100 from Nat.pow_pos (by decide))
theorem self_eq : dyO ⟨#[61]⟩ s e s e = ((s, e.map fun _ => ⟨#[49]⟩), 0) := self_dy _ g (by decide +kernel) fun x hx => by
  rw [sd_num]
  show (numS (b01 (decide (x = x))), (0 : Int)) = _
  rw [one_n, decide_eq_true rfl]
  rfl
theorem self_ne : dyO ⟨#[126]⟩ s e s e = ((s, e.map fun _ => ⟨#[48]⟩), 0) := self_dy _ g (by decide +kernel) fun x hx => by
  rw [sd_num]
  show (numS (b01 (!decide (x = x))), (0 : Int)) = _
  rw [zero_n, decide_eq_true rfl]
  rfl
theorem self_min : dyO ⟨#[38]⟩ s e s e = ((s, e), 0) := by
  have := self_dy (op := ⟨#[38]⟩) (fun b => b) g (by decide +kernel) fun x hx => by
    rw [sd_num]
    show (numS (if decide (x ≤ x) = true then x else x), (0 : Int)) = _
    rw [decide_eq_true (Int.le_refl x), if_pos rfl]
  rwa [List.map_id'] at this
theorem self_max : dyO ⟨#[124]⟩ s e s e = ((s, e), 0) := by
  have := self_dy (op := ⟨#[124]⟩) (fun b => b) g (by decide +kernel) fun x hx => by
    rw [sd_num]
    show (numS (if decide (x ≤ x) = true then x else x), (0 : Int)) = _
    rw [decide_eq_true (Int.le_refl x), if_pos rfl]
  rwa [List.map_id'] at this
end
end Go.Proofs.YtjldjhlccedkbaaGreatDoor.Am
end
section
/- SpreadSelf, walked. -/
namespace Go.Proofs.YtjldjhlccedkbaaGreatDoor.Am
open Go Go.RowKit Go.Proofs.YtjldjhlccedkbaaGreatDoor.Sh
open Go.Proofs.YtjldjhlccedkbaaGreatDoor.Nm (numS)
set_option linter.unusedVariables false
set_option linter.unusedSimpArgs false
set_option maxRecDepth 100000
set_option maxHeartbeats 8000000
section
variable {s : List Int} {e : List ByteArray}
theorem self_no1 (f1 : Runs Tryz.prog 14 [vD s e none none] (bD false)) : Runs Tryz.prog 3 [vD s e none none] (bD true) := by
  have f0 := shown_runs
  refine Runs.wp Go.Proofs.YtjldjhlccedkbaaGreatDoor.Am.hT Go.Proofs.YtjldjhlccedkbaaGreatDoor.Am.hm Tryz.func3 rfl (by decide) ⟨[], [0, 1, 2, 3, 4, 5, 6, 7, 8, 9, 10, 11, 12, 13, 14, 23, 91, 96, 120], 132⟩ ?_; ((conv => whnf); repeat ((first | refine Wo ?_ | refine Lt (by decide) ?_ | refine Lf (by decide) ?_ | refine Cl (by decide) ?_ | refine Cr (by decide) ?_ | refine ⟨_, rfl, ?_⟩ | refine Mi rfl ?_); (conv => whnf)))
  ((conv => whnf); (refine Hc.flat f0 ?_ rfl ?_; (focus ((repeat ((conv => arg 1; whnf); first | exact Tels.nil | apply Tels.cons | apply Tel.aggs | apply Tel.tups | exact Tel.refl _ | exact Tel.nil1 _ | exact Tel.cap _ _ _ _)); done))); ((conv => whnf); repeat ((first | refine Wo ?_ | refine Lt (by decide) ?_ | refine Lf (by decide) ?_ | refine Cl (by decide) ?_ | refine Cr (by decide) ?_ | refine ⟨_, rfl, ?_⟩ | refine Mi rfl ?_); (conv => whnf))))
  ((conv => whnf); (refine Hc.flat f1 ?_ rfl ?_; (focus ((repeat ((conv => arg 1; whnf); first | exact Tels.nil | apply Tels.cons | apply Tel.aggs | apply Tel.tups | exact Tel.refl _ | exact Tel.nil1 _ | exact Tel.cap _ _ _ _)); done))); ((conv => whnf); repeat ((first | refine Wo ?_ | refine Lt (by decide) ?_ | refine Lf (by decide) ?_ | refine Cl (by decide) ?_ | refine Cr (by decide) ?_ | refine ⟨_, rfl, ?_⟩ | refine Mi rfl ?_); (conv => whnf))))
  ((conv => whnf); ((repeat ((conv => arg 1; whnf); first | exact Tels.nil | apply Tels.cons | apply Tel.aggs | apply Tel.tups | exact Tel.refl _ | exact Tel.nil1 _ | exact Tel.cap _ _ _ _)); done))
theorem self_no2 (f1 : Runs Tryz.prog 14 [vD s e none none] (bD true)) (f2 : Runs Tryz.prog 15 [vD s e none none] (bD false)) : Runs Tryz.prog 3 [vD s e none none] (bD true) := by
  have f0 := shown_runs
  refine Runs.wp Go.Proofs.YtjldjhlccedkbaaGreatDoor.Am.hT Go.Proofs.YtjldjhlccedkbaaGreatDoor.Am.hm Tryz.func3 rfl (by decide) ⟨[], [0, 1, 2, 3, 4, 5, 6, 7, 8, 9, 10, 11, 12, 13, 14, 23, 91, 96, 120], 132⟩ ?_; ((conv => whnf); repeat ((first | refine Wo ?_ | refine Lt (by decide) ?_ | refine Lf (by decide) ?_ | refine Cl (by decide) ?_ | refine Cr (by decide) ?_ | refine ⟨_, rfl, ?_⟩ | refine Mi rfl ?_); (conv => whnf)))
  ((conv => whnf); (refine Hc.flat f0 ?_ rfl ?_; (focus ((repeat ((conv => arg 1; whnf); first | exact Tels.nil | apply Tels.cons | apply Tel.aggs | apply Tel.tups | exact Tel.refl _ | exact Tel.nil1 _ | exact Tel.cap _ _ _ _)); done))); ((conv => whnf); repeat ((first | refine Wo ?_ | refine Lt (by decide) ?_ | refine Lf (by decide) ?_ | refine Cl (by decide) ?_ | refine Cr (by decide) ?_ | refine ⟨_, rfl, ?_⟩ | refine Mi rfl ?_); (conv => whnf))))
  ((conv => whnf); (refine Hc.flat f1 ?_ rfl ?_; (focus ((repeat ((conv => arg 1; whnf); first | exact Tels.nil | apply Tels.cons | apply Tel.aggs | apply Tel.tups | exact Tel.refl _ | exact Tel.nil1 _ | exact Tel.cap _ _ _ _)); done))); ((conv => whnf); repeat ((first | refine Wo ?_ | refine Lt (by decide) ?_ | refine Lf (by decide) ?_ | refine Cl (by decide) ?_ | refine Cr (by decide) ?_ | refine ⟨_, rfl, ?_⟩ | refine Mi rfl ?_); (conv => whnf))))
  ((conv => whnf); (refine Hc.flat f2 ?_ rfl ?_; (focus ((repeat ((conv => arg 1; whnf); first | exact Tels.nil | apply Tels.cons | apply Tel.aggs | apply Tel.tups | exact Tel.refl _ | exact Tel.nil1 _ | exact Tel.cap _ _ _ _)); done))); ((conv => whnf); repeat ((first | refine Wo ?_ | refine Lt (by decide) ?_ | refine Lf (by decide) ?_ | refine Cl (by decide) ?_ | refine Cr (by decide) ?_ | refine ⟨_, rfl, ?_⟩ | refine Mi rfl ?_); (conv => whnf))))
  ((conv => whnf); ((repeat ((conv => arg 1; whnf); first | exact Tels.nil | apply Tels.cons | apply Tel.aggs | apply Tel.tups | exact Tel.refl _ | exact Tel.nil1 _ | exact Tel.cap _ _ _ _)); done))
abbrev kD (s : List Int) (e : List ByteArray) (b : ByteArray) : D := .agg [rI s none, .sl 1 (e.map fun _ => sD b) e.length none]
theorem kD_is (s : List Int) (e : List ByteArray) (b : ByteArray) : vD s (e.map fun _ => b) none none = kD s e b := by
  show D.agg _ = D.agg _
  simp [List.map_map, Function.comp_def]
theorem getK {e : List ByteArray} {b : ByteArray} {i : Nat} (h : i < e.length) : (e.map fun _ => sD b)[((i : Nat) : Int).toNat * 1]? = some (sD b) := by simp [h]
theorem self_yes (hl : e.length ≤ 4096) (f1 : Runs Tryz.prog 14 [vD s e none none] (bD true)) (f2 : Runs Tryz.prog 15 [vD s e none none] (bD true)) (z1 : Runs Tryz.prog 16 [sD ⟨#[45]⟩, vD s e none none, vD s e none none] (.tup [kD s e ⟨#[48]⟩, iD 0])) (z2 : Runs Tryz.prog 16 [sD ⟨#[61]⟩, vD s e none none, vD s e none none] (.tup [kD s e ⟨#[49]⟩, iD 0]))
    (z3 : Runs Tryz.prog 16 [sD ⟨#[126]⟩, vD s e none none, vD s e none none] (.tup [kD s e ⟨#[48]⟩, iD 0])) (z4 : Runs Tryz.prog 16 [sD ⟨#[38]⟩, vD s e none none, vD s e none none] (.tup [vD s e none none, iD 0])) (z5 : Runs Tryz.prog 16 [sD ⟨#[124]⟩, vD s e none none, vD s e none none] (.tup [vD s e none none, iD 0]))
    (vs : Runs Tryz.prog 17 [vD s e none none, vD s e none none] (bD true)) : Runs Tryz.prog 3 [vD s e none none] (bD true) := by
  have f0 := shown_runs
  have hne : (!(((e.length : Nat) : Int) == ((e.length : Nat) : Int))) = false := by rw [beq_self_eq_true]; rfl
  refine Runs.wp Go.Proofs.YtjldjhlccedkbaaGreatDoor.Am.hT Go.Proofs.YtjldjhlccedkbaaGreatDoor.Am.hm Tryz.func3 rfl (by decide) ⟨[], [0, 1, 2, 3, 4, 5, 6, 7, 8, 9, 10, 11, 12, 13, 14, 23, 91, 96, 120], 132⟩ ?_; ((conv => whnf); repeat ((first | refine Wo ?_ | refine Lt (by decide) ?_ | refine Lf (by decide) ?_ | refine Cl (by decide) ?_ | refine Cr (by decide) ?_ | refine ⟨_, rfl, ?_⟩ | refine Mi rfl ?_); (conv => whnf)))
  ((conv => whnf); (refine Hc.flat f0 ?_ rfl ?_; (focus ((repeat ((conv => arg 1; whnf); first | exact Tels.nil | apply Tels.cons | apply Tel.aggs | apply Tel.tups | exact Tel.refl _ | exact Tel.nil1 _ | exact Tel.cap _ _ _ _)); done))); ((conv => whnf); repeat ((first | refine Wo ?_ | refine Lt (by decide) ?_ | refine Lf (by decide) ?_ | refine Cl (by decide) ?_ | refine Cr (by decide) ?_ | refine ⟨_, rfl, ?_⟩ | refine Mi rfl ?_); (conv => whnf))))
  ((conv => whnf); (refine Hc.flat f1 ?_ rfl ?_; (focus ((repeat ((conv => arg 1; whnf); first | exact Tels.nil | apply Tels.cons | apply Tel.aggs | apply Tel.tups | exact Tel.refl _ | exact Tel.nil1 _ | exact Tel.cap _ _ _ _)); done))); ((conv => whnf); repeat ((first | refine Wo ?_ | refine Lt (by decide) ?_ | refine Lf (by decide) ?_ | refine Cl (by decide) ?_ | refine Cr (by decide) ?_ | refine ⟨_, rfl, ?_⟩ | refine Mi rfl ?_); (conv => whnf))))
  ((conv => whnf); (refine Hc.flat f2 ?_ rfl ?_; (focus ((repeat ((conv => arg 1; whnf); first | exact Tels.nil | apply Tels.cons | apply Tel.aggs | apply Tel.tups | exact Tel.refl _ | exact Tel.nil1 _ | exact Tel.cap _ _ _ _)); done))); ((conv => whnf); repeat ((first | refine Wo ?_ | refine Lt (by decide) ?_ | refine Lf (by decide) ?_ | refine Cl (by decide) ?_ | refine Cr (by decide) ?_ | refine ⟨_, rfl, ?_⟩ | refine Mi rfl ?_); (conv => whnf))))
  ((conv => whnf); (refine Hc.runs z1 ?_ ?_; (focus ((repeat ((conv => arg 1; whnf); first | exact Tels.nil | apply Tels.cons | apply Tel.aggs | apply Tel.tups | exact Tel.refl _ | exact Tel.nil1 _ | exact Tel.cap _ _ _ _)); done))); ((conv => whnf); repeat ((first | refine Wo ?_ | refine Lt (by decide) ?_ | refine Lf (by decide) ?_ | refine Cl (by decide) ?_ | refine Cr (by decide) ?_ | refine ⟨_, rfl, ?_⟩ | refine Mi rfl ?_); (conv => whnf))))
  ((conv => whnf); (refine Hc.runs z2 ?_ ?_; (focus ((repeat ((conv => arg 1; whnf); first | exact Tels.nil | apply Tels.cons | apply Tel.aggs | apply Tel.tups | exact Tel.refl _ | exact Tel.nil1 _ | exact Tel.cap _ _ _ _)); done))); ((conv => whnf); repeat ((first | refine Wo ?_ | refine Lt (by decide) ?_ | refine Lf (by decide) ?_ | refine Cl (by decide) ?_ | refine Cr (by decide) ?_ | refine ⟨_, rfl, ?_⟩ | refine Mi rfl ?_); (conv => whnf))))
  ((conv => whnf); (refine Hc.runs z3 ?_ ?_; (focus ((repeat ((conv => arg 1; whnf); first | exact Tels.nil | apply Tels.cons | apply Tel.aggs | apply Tel.tups | exact Tel.refl _ | exact Tel.nil1 _ | exact Tel.cap _ _ _ _)); done))); ((conv => whnf); repeat ((first | refine Wo ?_ | refine Lt (by decide) ?_ | refine Lf (by decide) ?_ | refine Cl (by decide) ?_ | refine Cr (by decide) ?_ | refine ⟨_, rfl, ?_⟩ | refine Mi rfl ?_); (conv => whnf))))
  ((conv => whnf); (refine Hc.runs z4 ?_ ?_; (focus ((repeat ((conv => arg 1; whnf); first | exact Tels.nil | apply Tels.cons | apply Tel.aggs | apply Tel.tups | exact Tel.refl _ | exact Tel.nil1 _ | exact Tel.cap _ _ _ _)); done))); ((conv => whnf); repeat ((first | refine Wo ?_ | refine Lt (by decide) ?_ | refine Lf (by decide) ?_ | refine Cl (by decide) ?_ | refine Cr (by decide) ?_ | refine ⟨_, rfl, ?_⟩ | refine Mi rfl ?_); (conv => whnf))))
  ((conv => whnf); (refine Hc.runs z5 ?_ ?_; (focus ((repeat ((conv => arg 1; whnf); first | exact Tels.nil | apply Tels.cons | apply Tel.aggs | apply Tel.tups | exact Tel.refl _ | exact Tel.nil1 _ | exact Tel.cap _ _ _ _)); done))); ((conv => whnf); repeat ((first | refine Wo ?_ | refine Lt (by decide) ?_ | refine Lf (by decide) ?_ | refine Cl (by decide) ?_ | refine Cr (by decide) ?_ | refine ⟨_, rfl, ?_⟩ | refine Mi rfl ?_); (conv => whnf))))
  refine litE hne ?_
  ((conv => whnf); repeat ((first | refine Wo ?_ | refine Lt (by decide) ?_ | refine Lf (by decide) ?_ | refine Cl (by decide) ?_ | refine Cr (by decide) ?_ | refine ⟨_, rfl, ?_⟩ | refine Mi rfl ?_); (conv => whnf)))
  refine litE hne ?_
  ((conv => whnf); repeat ((first | refine Wo ?_ | refine Lt (by decide) ?_ | refine Lf (by decide) ?_ | refine Cl (by decide) ?_ | refine Cr (by decide) ?_ | refine ⟨_, rfl, ?_⟩ | refine Mi rfl ?_); (conv => whnf)))
  refine litE hne ?_
  ((conv => whnf); repeat ((first | refine Wo ?_ | refine Lt (by decide) ?_ | refine Lf (by decide) ?_ | refine Cl (by decide) ?_ | refine Cr (by decide) ?_ | refine ⟨_, rfl, ?_⟩ | refine Mi rfl ?_); (conv => whnf)))
  refine loop_ind (fun k (i : Nat) => i + k = e.length + 1 ∧ i ≤ e.length) (fun i => { t := pin [(1, .pt 0 0), (2, .d (bD false)), (3, .d (bD true)), (4, .pt 1 0), (6, .pt 2 0), (8, .pt 3 0), (10, .pt 4 0), (12, .pt 5 0), (14, .d (iD i))], N := 132, h := hpin [some (.st 25 [.d (rI s none), .d (rS e none)]), some (.st 25 [.d (rI s none), .d (.sl 1 (e.map fun _ => sD ⟨#[48]⟩) e.length none)]), some (.st 25 [.d (rI s none), .d (.sl 1 (e.map fun _ => sD ⟨#[49]⟩) e.length none)]), some (.st 25 [.d (rI s none), .d (.sl 1 (e.map fun _ => sD ⟨#[48]⟩) e.length none)]), some (.st 25 [.d (rI s none), .d (rS e none)]), some (.st 25 [.d (rI s none), .d (rS e none)])], n := 6, lo := 0 }) (fun i h => by omega) ?_ (e.length + 1) 0 ⟨by omega, by omega⟩ _ ?_
  · rintro k i R ih ⟨hk, hi⟩
    by_cases hlt : i < e.length
    · have h0 := getK (b := ⟨#[48]⟩) hlt
      have h1 := getK (b := ⟨#[49]⟩) hlt
      have k0 : (!((⟨#[48]⟩ : ByteArray).toList == (⟨#[48]⟩ : ByteArray).toList)) = false := by rw [beq_self_eq_true]; rfl
      have k1 : (!((⟨#[49]⟩ : ByteArray).toList == (⟨#[49]⟩ : ByteArray).toList)) = false := by rw [beq_self_eq_true]; rfl
      ((conv => whnf); repeat ((first | refine Wo ?_ | refine Lt (by decide) ?_ | refine Lf (by decide) ?_ | refine Cl (by decide) ?_ | refine Cr (by decide) ?_ | refine ⟨_, rfl, ?_⟩ | refine Mi rfl ?_); (conv => whnf)))
      refine Lt (by simpa using hlt) ?_
      ((conv => whnf); repeat ((first | refine Wo ?_ | refine Lt (by decide) ?_ | refine Lf (by decide) ?_ | refine Cl (by decide) ?_ | refine Cr (by decide) ?_ | refine ⟨_, rfl, ?_⟩ | refine Mi rfl ?_ | (refine And.intro ?_ ?_; focus (first | decide | rfl | assumption | omega | (dsimp only; omega) | (unfold maxLen; omega) | ((try dsimp only [maxLen]); simp only [List.length_append, List.length_cons, List.length_nil, List.length_map, List.length_range, List.length_set, List.length_replicate]; omega) | ((try dsimp only [maxLen]); simp only [IntKind.wrap_i64, IntKind.wrap_u64, List.length_append, List.length_cons, List.length_nil, List.length_map, List.length_range, List.length_set, List.length_replicate]; omega) | ((try dsimp only [maxLen]); simp only [List.length_append, List.length_cons, List.length_nil, List.length_map, List.length_range, List.length_set, List.length_replicate] at *; omega)))); (conv => whnf)))
      ((conv => whnf); refine ⟨_, h0, ?_⟩; ((conv => whnf); repeat ((first | refine Wo ?_ | refine Lt (by decide) ?_ | refine Lf (by decide) ?_ | refine Cl (by decide) ?_ | refine Cr (by decide) ?_ | refine ⟨_, rfl, ?_⟩ | refine Mi rfl ?_); (conv => whnf))))
      refine litE k0 ?_
      ((conv => whnf); repeat ((first | refine Wo ?_ | refine Lt (by decide) ?_ | refine Lf (by decide) ?_ | refine Cl (by decide) ?_ | refine Cr (by decide) ?_ | refine ⟨_, rfl, ?_⟩ | refine Mi rfl ?_ | (refine And.intro ?_ ?_; focus (first | decide | rfl | assumption | omega | (dsimp only; omega) | (unfold maxLen; omega) | ((try dsimp only [maxLen]); simp only [List.length_append, List.length_cons, List.length_nil, List.length_map, List.length_range, List.length_set, List.length_replicate]; omega) | ((try dsimp only [maxLen]); simp only [IntKind.wrap_i64, IntKind.wrap_u64, List.length_append, List.length_cons, List.length_nil, List.length_map, List.length_range, List.length_set, List.length_replicate]; omega) | ((try dsimp only [maxLen]); simp only [List.length_append, List.length_cons, List.length_nil, List.length_map, List.length_range, List.length_set, List.length_replicate] at *; omega)))); (conv => whnf)))
      ((conv => whnf); refine ⟨_, h1, ?_⟩; ((conv => whnf); repeat ((first | refine Wo ?_ | refine Lt (by decide) ?_ | refine Lf (by decide) ?_ | refine Cl (by decide) ?_ | refine Cr (by decide) ?_ | refine ⟨_, rfl, ?_⟩ | refine Mi rfl ?_); (conv => whnf))))
      refine litE k1 ?_
      ((conv => whnf); repeat ((first | refine Wo ?_ | refine Lt (by decide) ?_ | refine Lf (by decide) ?_ | refine Cl (by decide) ?_ | refine Cr (by decide) ?_ | refine ⟨_, rfl, ?_⟩ | refine Mi rfl ?_ | (refine And.intro ?_ ?_; focus (first | decide | rfl | assumption | omega | (dsimp only; omega) | (unfold maxLen; omega) | ((try dsimp only [maxLen]); simp only [List.length_append, List.length_cons, List.length_nil, List.length_map, List.length_range, List.length_set, List.length_replicate]; omega) | ((try dsimp only [maxLen]); simp only [IntKind.wrap_i64, IntKind.wrap_u64, List.length_append, List.length_cons, List.length_nil, List.length_map, List.length_range, List.length_set, List.length_replicate]; omega) | ((try dsimp only [maxLen]); simp only [List.length_append, List.length_cons, List.length_nil, List.length_map, List.length_range, List.length_set, List.length_replicate] at *; omega)))); (conv => whnf)))
      ((conv => whnf); refine ⟨_, h0, ?_⟩; ((conv => whnf); repeat ((first | refine Wo ?_ | refine Lt (by decide) ?_ | refine Lf (by decide) ?_ | refine Cl (by decide) ?_ | refine Cr (by decide) ?_ | refine ⟨_, rfl, ?_⟩ | refine Mi rfl ?_); (conv => whnf))))
      refine litE k0 ?_
      ((conv => whnf); repeat ((first | refine Wo ?_ | refine Lt (by decide) ?_ | refine Lf (by decide) ?_ | refine Cl (by decide) ?_ | refine Cr (by decide) ?_ | refine ⟨_, rfl, ?_⟩ | refine Mi rfl ?_); (conv => whnf)))
      refine ih (i + 1) _ ⟨by omega, by omega⟩ ?_
      (refine Wk.to _ _ ?_ ?_ <;> (repeat' first | exact trivial | rfl | (refine And.intro ?_ ?_)))
      exact inE (i64n (by simp) (by omega))
    · ((conv => whnf); repeat ((first | refine Wo ?_ | refine Lt (by decide) ?_ | refine Lf (by decide) ?_ | refine Cl (by decide) ?_ | refine Cr (by decide) ?_ | refine ⟨_, rfl, ?_⟩ | refine Mi rfl ?_); (conv => whnf)))
      refine Lf (by simpa using hlt) ?_
      ((conv => whnf); repeat ((first | refine Wo ?_ | refine Lt (by decide) ?_ | refine Lf (by decide) ?_ | refine Cl (by decide) ?_ | refine Cr (by decide) ?_ | refine ⟨_, rfl, ?_⟩ | refine Mi rfl ?_); (conv => whnf)))
      ((conv => whnf); (refine Hc.flat vs ?_ rfl ?_; (focus ((repeat ((conv => arg 1; whnf); first | exact Tels.nil | apply Tels.cons | apply Tel.aggs | apply Tel.tups | exact Tel.refl _ | exact Tel.nil1 _ | exact Tel.cap _ _ _ _)); done))); ((conv => whnf); repeat ((first | refine Wo ?_ | refine Lt (by decide) ?_ | refine Lf (by decide) ?_ | refine Cl (by decide) ?_ | refine Cr (by decide) ?_ | refine ⟨_, rfl, ?_⟩ | refine Mi rfl ?_); (conv => whnf))))
      ((conv => whnf); (refine Hc.flat vs ?_ rfl ?_; (focus ((repeat ((conv => arg 1; whnf); first | exact Tels.nil | apply Tels.cons | apply Tel.aggs | apply Tel.tups | exact Tel.refl _ | exact Tel.nil1 _ | exact Tel.cap _ _ _ _)); done))); ((conv => whnf); repeat ((first | refine Wo ?_ | refine Lt (by decide) ?_ | refine Lf (by decide) ?_ | refine Cl (by decide) ?_ | refine Cr (by decide) ?_ | refine ⟨_, rfl, ?_⟩ | refine Mi rfl ?_); (conv => whnf))))
      ((conv => whnf); ((repeat ((conv => arg 1; whnf); first | exact Tels.nil | apply Tels.cons | apply Tel.aggs | apply Tel.tups | exact Tel.refl _ | exact Tel.nil1 _ | exact Tel.cap _ _ _ _)); done))
  · (refine Wk.to _ _ ?_ ?_ <;> (repeat' first | exact trivial | rfl | (refine And.intro ?_ ?_)))
theorem SpreadSelf_runs (s : List Int) (e : List ByteArray) (hs : s.length ≤ 9223372036854775807) (he : e.length ≤ 9223372036854775807) : Runs Tryz.prog 3 [vD s e none none] (bD true) := by
  have f1 := few_runs s e (by omega) he
  have f2 := vmay_runs s e (by omega) he
  cases hf : fewB s e with
  | false => rw [hf] at f1; exact self_no1 f1
  | true =>
    rw [hf] at f1
    cases hg : good s e with
    | false => rw [hg] at f2; exact self_no2 f1 f2
    | true =>
      rw [hg] at f2
      have z : ∀ op : ByteArray, _ := fun op => dyad_runs op s e s e hs hs he he
      have z1 := z ⟨#[45]⟩
      have z2 := z ⟨#[61]⟩
      have z3 := z ⟨#[126]⟩
      have z4 := z ⟨#[38]⟩
      have z5 := z ⟨#[124]⟩
      rw [self_sub hg, kD_is] at z1
      rw [self_eq hg, kD_is] at z2
      rw [self_ne hg, kD_is] at z3
      rw [self_min hg] at z4
      rw [self_max hg] at z5
      have vs := vsame_runs s s e e (by omega) (by omega) he he
      rw [decide_eq_true ⟨rfl, rfl⟩] at vs
      exact self_yes (good_few hg) f1 f2 z1 z2 z3 z4 z5 vs
end
end Go.Proofs.YtjldjhlccedkbaaGreatDoor.Am
end
