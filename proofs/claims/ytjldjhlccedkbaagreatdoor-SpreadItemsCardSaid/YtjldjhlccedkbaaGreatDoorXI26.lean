/- What the law leans on, part 27: declarations of several texts of ours, in their order. -/
import Derived.Test.YtjldjhlccedkbaaGreatDoorXI25
import Derived.Test.YtjldjhlccedkbaaGreatDoorXI23
section
/- What scalar.Dyad and Monad tell, of numbers. -/
namespace Go.Proofs.YtjldjhlccedkbaaGreatDoor.Am
open Go Go.Lib Go.RowKit Go.Proofs.YtjldjhlccedkbaaGreatDoor.Nm Go.Proofs.YtjldjhlccedkbaaGreatDoorW.PrintWords Go.Proofs.YtjldjhlccedkbaaGreatDoor
set_option linter.unusedVariables false
set_option linter.unusedSimpArgs false
set_option maxRecDepth 100000
set_option maxHeartbeats 8000000
/-- the number of a text -/
def zL : List UInt8 → Int
  | 45 :: r => -(Nm.val r : Int)
  | l => (Nm.val l : Int)
def zB (b : ByteArray) : Int := zL b.data.toList
theorem zL_pos {l : List UInt8} (h : ∀ r, l ≠ 45 :: r) : zL l = (Nm.val l : Int) := by
  unfold zL
  split
  · exact absurd rfl (h _)
  · rfl
theorem zB_num (z : Int) : zB (numS z) = z := by
  unfold zB numS
  rw [ba_data]
  by_cases h : z < 0
  · rw [itoa_neg' h]
    show -(Nm.val (decDigits z.natAbs) : Int) = z
    rw [val_decDigits]
    omega
  · rw [itoa_pos' h, zL_pos, val_decDigits]
    · omega
    · intro r e
      obtain ⟨c, r', h1, h2, h3⟩ := head_dec z.natAbs
      rw [e] at h1
      injection h1 with h1 _
      rw [← h1] at h2
      exact absurd h2 (by decide)
def b01 (p : Bool) : Int := if p = true then 1 else 0
theorem stold_num (p : Bool) : (if p = true then (⟨#[49]⟩ : ByteArray) else ⟨#[48]⟩) = numS (b01 p) := by
  cases p with
  | true => exact (litS 1 [49] (by decide) (by decide) (by decide) (by decide))
  | false =>
    show (BA [48]) = numS 0
    unfold numS
    rw [(itoa_zero_iff 0).2 rfl]
def dyZ (c : UInt8) (x y : Int) : ByteArray × Int :=
  if c = 43 then Nm.told (x + y) else if c = 45 then Nm.told (x - y) else if c = 42 then Nm.told (x * y)
  else if c = 37 then (if y = 0 then (BA [], 5) else Nm.told (fl x y)) else if c = 33 then (if y = 0 then (BA [], 5) else Nm.told (fm x y))
  else if c = 38 then (numS (if decide (x ≤ y) = true then x else y), 0) else if c = 124 then (numS (if decide (y ≤ x) = true then x else y), 0)
  else if c = 60 then (numS (b01 (decide (x < y))), 0) else if c = 62 then (numS (b01 (decide (y < x))), 0)
  else if c = 61 then (numS (b01 (decide (x = y))), 0) else (numS (b01 (!decide (x = y))), 0)
theorem cmp_le (x y : Int) : decide (cmpZ x y ≤ 0) = decide (x ≤ y) := by
  rw [decide_eq_decide]; unfold cmpZ; split <;> (try split) <;> omega
theorem cmp_ge (x y : Int) : decide (cmpZ x y ≥ 0) = decide (y ≤ x) := by
  rw [decide_eq_decide]; unfold cmpZ; split <;> (try split) <;> omega
theorem cmp_lt (x y : Int) : decide (cmpZ x y < 0) = decide (x < y) := by
  rw [decide_eq_decide]; unfold cmpZ; split <;> (try split) <;> omega
theorem cmp_gt (x y : Int) : decide (cmpZ x y > 0) = decide (y < x) := by
  rw [decide_eq_decide]; unfold cmpZ; split <;> (try split) <;> omega
theorem num_eqb (x y : Int) : ((numS x).toList == (numS y).toList) = decide (x = y) := by
  rw [numS_list, numS_list, Bool.eq_iff_iff, beq_iff_eq, decide_eq_true_iff]
  exact ⟨fun h => itoa_inj h, fun h => by rw [h]⟩
section
variable {x y : Int} (hx : Nm.Sm x) (hy : Nm.Sm y)
include hx hy
theorem min_runs : Runs Tryz.prog 78 [sD (numS x), sD (numS y)] (eD (numS (if decide (x ≤ y) = true then x else y), 0)) := by
  have h1 := cmp_yes hx hy
  have h2 := cmp_le x y
  have h3 := pick_runs (decide (x ≤ y)) (numS x) (numS y)
  rw [show (if decide (x ≤ y) = true then numS x else numS y) = numS (if decide (x ≤ y) = true then x else y) by split <;> rfl] at h3
  refine Runs.wp Go.Proofs.YtjldjhlccedkbaaGreatDoor.Am.hT Go.Proofs.YtjldjhlccedkbaaGreatDoor.Am.hm Tryz.func78 rfl (by decide) ⟨[], [0, 1, 4, 5], 15⟩ ?_; ((conv => whnf); repeat ((first | refine Wo ?_ | refine Lt (by decide) ?_ | refine Lf (by decide) ?_ | refine Cl (by decide) ?_ | refine Cr (by decide) ?_ | refine ⟨_, rfl, ?_⟩ | refine Mi rfl ?_); (conv => whnf)))
  ((conv => whnf); (refine Hc.flat h1 ?_ rfl ?_; (focus ((repeat ((conv => arg 1; whnf); first | exact Tels.nil | apply Tels.cons | apply Tel.aggs | apply Tel.tups | exact Tel.refl _ | exact Tel.nil1 _ | exact Tel.cap _ _ _ _)); done))); ((conv => whnf); repeat ((first | refine Wo ?_ | refine Lt (by decide) ?_ | refine Lf (by decide) ?_ | refine Cl (by decide) ?_ | refine Cr (by decide) ?_ | refine ⟨_, rfl, ?_⟩ | refine Mi rfl ?_); (conv => whnf))))
  refine litE h2 ?_
  ((conv => whnf); repeat ((first | refine Wo ?_ | refine Lt (by decide) ?_ | refine Lf (by decide) ?_ | refine Cl (by decide) ?_ | refine Cr (by decide) ?_ | refine ⟨_, rfl, ?_⟩ | refine Mi rfl ?_); (conv => whnf)))
  ((conv => whnf); (refine Hc.flat h3 ?_ rfl ?_; (focus ((repeat ((conv => arg 1; whnf); first | exact Tels.nil | apply Tels.cons | apply Tel.aggs | apply Tel.tups | exact Tel.refl _ | exact Tel.nil1 _ | exact Tel.cap _ _ _ _)); done))); ((conv => whnf); repeat ((first | refine Wo ?_ | refine Lt (by decide) ?_ | refine Lf (by decide) ?_ | refine Cl (by decide) ?_ | refine Cr (by decide) ?_ | refine ⟨_, rfl, ?_⟩ | refine Mi rfl ?_); (conv => whnf))))
  ((conv => whnf); ((repeat ((conv => arg 1; whnf); first | exact Tels.nil | apply Tels.cons | apply Tel.aggs | apply Tel.tups | exact Tel.refl _ | exact Tel.nil1 _ | exact Tel.cap _ _ _ _)); done))
theorem max_runs : Runs Tryz.prog 81 [sD (numS x), sD (numS y)] (eD (numS (if decide (y ≤ x) = true then x else y), 0)) := by
  have h1 := cmp_yes hx hy
  have h2 := cmp_ge x y
  have h3 := pick_runs (decide (y ≤ x)) (numS x) (numS y)
  rw [show (if decide (y ≤ x) = true then numS x else numS y) = numS (if decide (y ≤ x) = true then x else y) by split <;> rfl] at h3
  refine Runs.wp Go.Proofs.YtjldjhlccedkbaaGreatDoor.Am.hT Go.Proofs.YtjldjhlccedkbaaGreatDoor.Am.hm Tryz.func81 rfl (by decide) ⟨[], [0, 1, 4, 5], 15⟩ ?_; ((conv => whnf); repeat ((first | refine Wo ?_ | refine Lt (by decide) ?_ | refine Lf (by decide) ?_ | refine Cl (by decide) ?_ | refine Cr (by decide) ?_ | refine ⟨_, rfl, ?_⟩ | refine Mi rfl ?_); (conv => whnf)))
  ((conv => whnf); (refine Hc.flat h1 ?_ rfl ?_; (focus ((repeat ((conv => arg 1; whnf); first | exact Tels.nil | apply Tels.cons | apply Tel.aggs | apply Tel.tups | exact Tel.refl _ | exact Tel.nil1 _ | exact Tel.cap _ _ _ _)); done))); ((conv => whnf); repeat ((first | refine Wo ?_ | refine Lt (by decide) ?_ | refine Lf (by decide) ?_ | refine Cl (by decide) ?_ | refine Cr (by decide) ?_ | refine ⟨_, rfl, ?_⟩ | refine Mi rfl ?_); (conv => whnf))))
  refine litE h2 ?_
  ((conv => whnf); repeat ((first | refine Wo ?_ | refine Lt (by decide) ?_ | refine Lf (by decide) ?_ | refine Cl (by decide) ?_ | refine Cr (by decide) ?_ | refine ⟨_, rfl, ?_⟩ | refine Mi rfl ?_); (conv => whnf)))
  ((conv => whnf); (refine Hc.flat h3 ?_ rfl ?_; (focus ((repeat ((conv => arg 1; whnf); first | exact Tels.nil | apply Tels.cons | apply Tel.aggs | apply Tel.tups | exact Tel.refl _ | exact Tel.nil1 _ | exact Tel.cap _ _ _ _)); done))); ((conv => whnf); repeat ((first | refine Wo ?_ | refine Lt (by decide) ?_ | refine Lf (by decide) ?_ | refine Cl (by decide) ?_ | refine Cr (by decide) ?_ | refine ⟨_, rfl, ?_⟩ | refine Mi rfl ?_); (conv => whnf))))
  ((conv => whnf); ((repeat ((conv => arg 1; whnf); first | exact Tels.nil | apply Tels.cons | apply Tel.aggs | apply Tel.tups | exact Tel.refl _ | exact Tel.nil1 _ | exact Tel.cap _ _ _ _)); done))
theorem lt_runs : Runs Tryz.prog 82 [sD (numS x), sD (numS y)] (eD (numS (b01 (decide (x < y))), 0)) := by
  have h1 := cmp_yes hx hy
  have h2 := cmp_lt x y
  have h3 := stold_runs (decide (x < y))
  rw [stold_num] at h3
  refine Runs.wp Go.Proofs.YtjldjhlccedkbaaGreatDoor.Am.hT Go.Proofs.YtjldjhlccedkbaaGreatDoor.Am.hm Tryz.func82 rfl (by decide) ⟨[], [0, 1, 4, 5], 11⟩ ?_; ((conv => whnf); repeat ((first | refine Wo ?_ | refine Lt (by decide) ?_ | refine Lf (by decide) ?_ | refine Cl (by decide) ?_ | refine Cr (by decide) ?_ | refine ⟨_, rfl, ?_⟩ | refine Mi rfl ?_); (conv => whnf)))
  ((conv => whnf); (refine Hc.flat h1 ?_ rfl ?_; (focus ((repeat ((conv => arg 1; whnf); first | exact Tels.nil | apply Tels.cons | apply Tel.aggs | apply Tel.tups | exact Tel.refl _ | exact Tel.nil1 _ | exact Tel.cap _ _ _ _)); done))); ((conv => whnf); repeat ((first | refine Wo ?_ | refine Lt (by decide) ?_ | refine Lf (by decide) ?_ | refine Cl (by decide) ?_ | refine Cr (by decide) ?_ | refine ⟨_, rfl, ?_⟩ | refine Mi rfl ?_); (conv => whnf))))
  refine litE h2 ?_
  ((conv => whnf); repeat ((first | refine Wo ?_ | refine Lt (by decide) ?_ | refine Lf (by decide) ?_ | refine Cl (by decide) ?_ | refine Cr (by decide) ?_ | refine ⟨_, rfl, ?_⟩ | refine Mi rfl ?_); (conv => whnf)))
  ((conv => whnf); (refine Hc.flat h3 ?_ rfl ?_; (focus ((repeat ((conv => arg 1; whnf); first | exact Tels.nil | apply Tels.cons | apply Tel.aggs | apply Tel.tups | exact Tel.refl _ | exact Tel.nil1 _ | exact Tel.cap _ _ _ _)); done))); ((conv => whnf); repeat ((first | refine Wo ?_ | refine Lt (by decide) ?_ | refine Lf (by decide) ?_ | refine Cl (by decide) ?_ | refine Cr (by decide) ?_ | refine ⟨_, rfl, ?_⟩ | refine Mi rfl ?_); (conv => whnf))))
  ((conv => whnf); ((repeat ((conv => arg 1; whnf); first | exact Tels.nil | apply Tels.cons | apply Tel.aggs | apply Tel.tups | exact Tel.refl _ | exact Tel.nil1 _ | exact Tel.cap _ _ _ _)); done))
theorem gt_runs : Runs Tryz.prog 84 [sD (numS x), sD (numS y)] (eD (numS (b01 (decide (y < x))), 0)) := by
  have h1 := cmp_yes hx hy
  have h2 := cmp_gt x y
  have h3 := stold_runs (decide (y < x))
  rw [stold_num] at h3
  refine Runs.wp Go.Proofs.YtjldjhlccedkbaaGreatDoor.Am.hT Go.Proofs.YtjldjhlccedkbaaGreatDoor.Am.hm Tryz.func84 rfl (by decide) ⟨[], [0, 1, 4, 5], 11⟩ ?_; ((conv => whnf); repeat ((first | refine Wo ?_ | refine Lt (by decide) ?_ | refine Lf (by decide) ?_ | refine Cl (by decide) ?_ | refine Cr (by decide) ?_ | refine ⟨_, rfl, ?_⟩ | refine Mi rfl ?_); (conv => whnf)))
  ((conv => whnf); (refine Hc.flat h1 ?_ rfl ?_; (focus ((repeat ((conv => arg 1; whnf); first | exact Tels.nil | apply Tels.cons | apply Tel.aggs | apply Tel.tups | exact Tel.refl _ | exact Tel.nil1 _ | exact Tel.cap _ _ _ _)); done))); ((conv => whnf); repeat ((first | refine Wo ?_ | refine Lt (by decide) ?_ | refine Lf (by decide) ?_ | refine Cl (by decide) ?_ | refine Cr (by decide) ?_ | refine ⟨_, rfl, ?_⟩ | refine Mi rfl ?_); (conv => whnf))))
  refine litE h2 ?_
  ((conv => whnf); repeat ((first | refine Wo ?_ | refine Lt (by decide) ?_ | refine Lf (by decide) ?_ | refine Cl (by decide) ?_ | refine Cr (by decide) ?_ | refine ⟨_, rfl, ?_⟩ | refine Mi rfl ?_); (conv => whnf)))
  ((conv => whnf); (refine Hc.flat h3 ?_ rfl ?_; (focus ((repeat ((conv => arg 1; whnf); first | exact Tels.nil | apply Tels.cons | apply Tel.aggs | apply Tel.tups | exact Tel.refl _ | exact Tel.nil1 _ | exact Tel.cap _ _ _ _)); done))); ((conv => whnf); repeat ((first | refine Wo ?_ | refine Lt (by decide) ?_ | refine Lf (by decide) ?_ | refine Cl (by decide) ?_ | refine Cr (by decide) ?_ | refine ⟨_, rfl, ?_⟩ | refine Mi rfl ?_); (conv => whnf))))
  ((conv => whnf); ((repeat ((conv => arg 1; whnf); first | exact Tels.nil | apply Tels.cons | apply Tel.aggs | apply Tel.tups | exact Tel.refl _ | exact Tel.nil1 _ | exact Tel.cap _ _ _ _)); done))
omit hx hy in
theorem eq_runs : Runs Tryz.prog 85 [sD (numS x), sD (numS y)] (eD (numS (b01 (decide (x = y))), 0)) := by
  have h2 := num_eqb x y
  have h3 := stold_runs (decide (x = y))
  rw [stold_num] at h3
  refine Runs.wp Go.Proofs.YtjldjhlccedkbaaGreatDoor.Am.hT Go.Proofs.YtjldjhlccedkbaaGreatDoor.Am.hm Tryz.func85 rfl (by decide) ⟨[], [0, 1, 4, 5], 10⟩ ?_; ((conv => whnf); repeat ((first | refine Wo ?_ | refine Lt (by decide) ?_ | refine Lf (by decide) ?_ | refine Cl (by decide) ?_ | refine Cr (by decide) ?_ | refine ⟨_, rfl, ?_⟩ | refine Mi rfl ?_); (conv => whnf)))
  refine litE h2 ?_
  ((conv => whnf); repeat ((first | refine Wo ?_ | refine Lt (by decide) ?_ | refine Lf (by decide) ?_ | refine Cl (by decide) ?_ | refine Cr (by decide) ?_ | refine ⟨_, rfl, ?_⟩ | refine Mi rfl ?_); (conv => whnf)))
  ((conv => whnf); (refine Hc.flat h3 ?_ rfl ?_; (focus ((repeat ((conv => arg 1; whnf); first | exact Tels.nil | apply Tels.cons | apply Tel.aggs | apply Tel.tups | exact Tel.refl _ | exact Tel.nil1 _ | exact Tel.cap _ _ _ _)); done))); ((conv => whnf); repeat ((first | refine Wo ?_ | refine Lt (by decide) ?_ | refine Lf (by decide) ?_ | refine Cl (by decide) ?_ | refine Cr (by decide) ?_ | refine ⟨_, rfl, ?_⟩ | refine Mi rfl ?_); (conv => whnf))))
  ((conv => whnf); ((repeat ((conv => arg 1; whnf); first | exact Tels.nil | apply Tels.cons | apply Tel.aggs | apply Tel.tups | exact Tel.refl _ | exact Tel.nil1 _ | exact Tel.cap _ _ _ _)); done))
omit hx hy in
theorem ne_runs : Runs Tryz.prog 86 [sD (numS x), sD (numS y)] (eD (numS (b01 (!decide (x = y))), 0)) := by
  have h2 := show (!((numS x).toList == (numS y).toList)) = !decide (x = y) by rw [num_eqb]
  have h3 := stold_runs (!decide (x = y))
  rw [stold_num] at h3
  refine Runs.wp Go.Proofs.YtjldjhlccedkbaaGreatDoor.Am.hT Go.Proofs.YtjldjhlccedkbaaGreatDoor.Am.hm Tryz.func86 rfl (by decide) ⟨[], [0, 1, 4, 5], 10⟩ ?_; ((conv => whnf); repeat ((first | refine Wo ?_ | refine Lt (by decide) ?_ | refine Lf (by decide) ?_ | refine Cl (by decide) ?_ | refine Cr (by decide) ?_ | refine ⟨_, rfl, ?_⟩ | refine Mi rfl ?_); (conv => whnf)))
  refine litE h2 ?_
  ((conv => whnf); repeat ((first | refine Wo ?_ | refine Lt (by decide) ?_ | refine Lf (by decide) ?_ | refine Cl (by decide) ?_ | refine Cr (by decide) ?_ | refine ⟨_, rfl, ?_⟩ | refine Mi rfl ?_); (conv => whnf)))
  ((conv => whnf); (refine Hc.flat h3 ?_ rfl ?_; (focus ((repeat ((conv => arg 1; whnf); first | exact Tels.nil | apply Tels.cons | apply Tel.aggs | apply Tel.tups | exact Tel.refl _ | exact Tel.nil1 _ | exact Tel.cap _ _ _ _)); done))); ((conv => whnf); repeat ((first | refine Wo ?_ | refine Lt (by decide) ?_ | refine Lf (by decide) ?_ | refine Cl (by decide) ?_ | refine Cr (by decide) ?_ | refine ⟨_, rfl, ?_⟩ | refine Mi rfl ?_); (conv => whnf))))
  ((conv => whnf); ((repeat ((conv => arg 1; whnf); first | exact Tels.nil | apply Tels.cons | apply Tel.aggs | apply Tel.tups | exact Tel.refl _ | exact Tel.nil1 _ | exact Tel.cap _ _ _ _)); done))
omit hy
omit hx in
end
end Go.Proofs.YtjldjhlccedkbaaGreatDoor.Am
end
section
/- scalar.Dyad, at every sign. -/
namespace Go.Proofs.YtjldjhlccedkbaaGreatDoor.Am
open Go Go.Lib Go.RowKit Go.Proofs.YtjldjhlccedkbaaGreatDoor.Nm Go.Proofs.YtjldjhlccedkbaaGreatDoorW.PrintWords Go.Proofs.YtjldjhlccedkbaaGreatDoor
set_option linter.unusedVariables false
set_option linter.unusedSimpArgs false
set_option maxRecDepth 100000
set_option maxHeartbeats 8000000
theorem mayB_num {x : Int} (h : Nm.Sm x) : mayB (numS x) = true := by
  unfold mayB numS
  rw [ba_data]
  exact may_num x h
theorem num_mayB {b : ByteArray} (h : mayB b = true) : ∃ x, b = numS x ∧ Nm.Sm x := by
  obtain ⟨z, h1, h2⟩ := num_of_may _ h
  exact ⟨z, by unfold numS; rw [← h1], h2⟩
def sd (op a b : ByteArray) : ByteArray × Int := dyZ (op.data.toList.headD 0) (zB a) (zB b)
theorem sd_num (c : UInt8) (x y : Int) : sd ⟨#[c]⟩ (numS x) (numS y) = dyZ c x y := by
  unfold sd
  rw [zB_num, zB_num]
  rfl
theorem sg_dy {op : ByteArray} (h : sgB dyS op = true) : ∃ c, op = ⟨#[c]⟩ ∧ c ∈ ([43, 45, 42, 37, 33, 38, 124, 60, 62, 61, 126] : List UInt8) := by
  unfold sgB at h
  split at h
  · rename_i c hc
    exact ⟨c, by rw [ba_of op, hc], by simpa [dyS] using h⟩
  · cases h
theorem dyZ_runs {x y : Int} (hx : Nm.Sm x) (hy : Nm.Sm y) {c : UInt8} (hc : c ∈ ([43, 45, 42, 37, 33, 38, 124, 60, 62, 61, 126] : List UInt8)) : Runs Tryz.prog 31 [sD ⟨#[c]⟩, sD (numS x), sD (numS y)] (eD (dyZ c x y)) := by
  have m1 := mayZ hx
  have m2 := mayZ hy
  simp only [List.mem_cons, List.not_mem_nil, or_false] at hc
  rcases hc with rfl | rfl | rfl | rfl | rfl | rfl | rfl | rfl | rfl | rfl | rfl
  · exact sc_add m1 m2 (add_yes hx hy)
  · exact sc_sub m1 m2 (sub_yes hx hy)
  · exact sc_mul m1 m2 (mul_yes hx hy)
  · show Runs Tryz.prog 31 _ (eD (if y = 0 then (BA [], 5) else Nm.told (fl x y)))
    by_cases h0 : y = 0
    · subst h0
      rw [if_pos rfl]
      exact sc_div m1 m2 (div_zero hx)
    · rw [if_neg h0]
      exact sc_div m1 m2 (div_yes hx hy h0)
  · show Runs Tryz.prog 31 _ (eD (if y = 0 then (BA [], 5) else Nm.told (fm x y)))
    by_cases h0 : y = 0
    · subst h0
      rw [if_pos rfl]
      exact sc_mod m1 m2 (mod_zero hx)
    · rw [if_neg h0]
      exact sc_mod m1 m2 (mod_yes hx hy h0)
  · exact sc_min m1 m2 (min_runs hx hy)
  · exact sc_max m1 m2 (max_runs hx hy)
  · exact sc_lt m1 m2 (lt_runs hx hy)
  · exact sc_gt m1 m2 (gt_runs hx hy)
  · exact sc_eq m1 m2 eq_runs
  · exact sc_ne m1 m2 ne_runs
theorem sd_runs {op a b : ByteArray} (ho : sgB dyS op = true) (ha : mayB a = true) (hb : mayB b = true) : Runs Tryz.prog 31 [sD op, sD a, sD b] (eD (sd op a b)) := by
  obtain ⟨c, rfl, hc⟩ := sg_dy ho
  obtain ⟨x, rfl, hx⟩ := num_mayB ha
  obtain ⟨y, rfl, hy⟩ := num_mayB hb
  rw [sd_num]
  exact dyZ_runs hx hy hc
end Go.Proofs.YtjldjhlccedkbaaGreatDoor.Am
end
section
/- spread.Dyad, told whole. -/
namespace Go.Proofs.YtjldjhlccedkbaaGreatDoor.Am
open Go Go.RowKit Go.Proofs.YtjldjhlccedkbaaGreatDoor.Sh
set_option linter.unusedVariables false
set_option linter.unusedSimpArgs false
set_option maxRecDepth 100000
set_option maxHeartbeats 8000000
theorem good_iff {s : List Int} {e : List ByteArray} : good s e = true ↔ sizeS s = ((e.length : Int), 0) ∧ ∀ b ∈ e, mayB b = true := by
  unfold good
  generalize sizeS s = q
  obtain ⟨n, x⟩ := q
  simp only [Bool.and_eq_true, decide_eq_true_eq, List.all_eq_true, Prod.mk.injEq]
  constructor
  · rintro ⟨⟨h1, h2⟩, h3⟩
    exact ⟨⟨h2.symm, h1⟩, h3⟩
  · rintro ⟨⟨h1, h2⟩, h3⟩
    exact ⟨⟨h2, h1.symm⟩, h3⟩
theorem good_size {s : List Int} {e : List ByteArray} (h : good s e = true) : sizeS s = ((e.length : Int), 0) := (good_iff.1 h).1
theorem good_all {s : List Int} {e : List ByteArray} (h : good s e = true) : ∀ b ∈ e, mayB b = true := (good_iff.1 h).2
theorem good_rank {s : List Int} {e : List ByteArray} (h : good s e = true) : s.length ≤ 3 := (size_ok (good_size h)).1
theorem good_few {s : List Int} {e : List ByteArray} (h : good s e = true) : e.length ≤ 4096 := by
  rcases (size_ok (good_size h)).2.2 with ⟨_, h⟩ | ⟨_, _, _, h⟩ <;> omega
theorem atS_mem {s : List Int} {e : List ByteArray} {i : Nat} (h0 : s = [] → 0 < e.length) (h1 : s ≠ [] → i < e.length) : atS s e i ∈ e := by
  unfold atS
  by_cases h : s = []
  · rw [if_pos h, List.getD_eq_getElem?_getD, List.getElem?_eq_getElem (h0 h)]
    exact List.getElem_mem _
  · rw [if_neg h, List.getD_eq_getElem?_getD, List.getElem?_eq_getElem (h1 h)]
    exact List.getElem_mem _
/-- what two arrays are together -/
def dyR (op : ByteArray) (s1 : List Int) (e1 : List ByteArray) (s2 : List Int) (e2 : List ByteArray) (i : Nat) : ByteArray × Int := sd op (atS s1 e1 i) (atS s2 e2 i)
def dyN (s1 s2 : List Int) : Nat := (sizeS (meetS s1 s2).1).1.toNat
def dyO (op : ByteArray) (s1 : List Int) (e1 : List ByteArray) (s2 : List Int) (e2 : List ByteArray) : (List Int × List ByteArray) × Int :=
  if good s1 e1 = true ∧ good s2 e2 = true ∧ sgB dyS op = true then
    if (meetS s1 s2).2 = 0 then
      match (List.range (dyN s1 s2)).find? (fun i => decide ((dyR op s1 e1 s2 e2 i).2 ≠ 0)) with
      | some z => (([], []), (dyR op s1 e1 s2 e2 z).2)
      | none => (((meetS s1 s2).1, (List.range (dyN s1 s2)).map fun i => (dyR op s1 e1 s2 e2 i).1), 0)
    else (([], []), (meetS s1 s2).2)
  else (([], []), 1)
theorem meet_ok {s1 s2 : List Int} {e1 e2 : List ByteArray} (g1 : good s1 e1 = true) (g2 : good s2 e2 = true) (hm : (meetS s1 s2).2 = 0) :
    sizeS (meetS s1 s2).1 = ((dyN s1 s2 : Int), 0) ∧ dyN s1 s2 ≤ 4096 ∧ (∀ i, i < dyN s1 s2 → (s1 = [] → 0 < e1.length) ∧ (s1 ≠ [] → i < e1.length)) ∧ (∀ i, i < dyN s1 s2 → (s2 = [] → 0 < e2.length) ∧ (s2 ≠ [] → i < e2.length)) ∧ ((meetS s1 s2).1 = s1 ∧ dyN s1 s2 = e1.length ∨ (meetS s1 s2).1 = s2 ∧ dyN s1 s2 = e2.length) := by
  have z1 := good_size g1
  have z2 := good_size g2
  have f1 := good_few g1
  have f2 := good_few g2
  have hnil : ∀ {s : List Int} {e : List ByteArray}, sizeS s = ((e.length : Int), 0) → s = [] → 0 < e.length := fun {s e} h hs => by
    subst hs
    have h0 : sizeS [] = (1, 0) := by decide
    rw [h0] at h
    have := congrArg Prod.fst h
    simp only at this
    omega
  have n1 := hnil z1
  have n2 := hnil z2
  unfold dyN
  unfold meetS at hm ⊢
  split at hm
  · rename_i hc
    rw [if_pos hc]
    simp only [z1]
    refine ⟨by simp, by simpa using f1, fun i hi => ⟨n1, fun _ => by simpa using hi⟩, fun i hi => ⟨n2, fun hne => ?_⟩, .inl ⟨by simp, by simp⟩⟩
    rcases hc with rfl | hc
    · rw [z1] at z2
      have := congrArg Prod.fst z2
      simp only at this
      simp only [Int.toNat_natCast] at hi
      omega
    · exact absurd hc hne
  · rename_i hc
    split at hm
    · rename_i ha
      rw [if_neg hc, if_pos ha]
      simp only [z2]
      exact ⟨by simp, by simpa using f2, fun i hi => ⟨n1, fun hne => absurd ha hne⟩, fun i hi => ⟨n2, fun _ => by simpa using hi⟩, .inr ⟨by simp, by simp⟩⟩
    · simp at hm
theorem dyad_runs (op : ByteArray) (s1 : List Int) (e1 : List ByteArray) (s2 : List Int) (e2 : List ByteArray) (l1 : s1.length ≤ 9223372036854775807) (l2 : s2.length ≤ 9223372036854775807) (j1 : e1.length ≤ 9223372036854775807) (j2 : e2.length ≤ 9223372036854775807) :
    Runs Tryz.prog 16 [sD op, vD s1 e1 none none, vD s2 e2 none none] (.tup [vD (dyO op s1 e1 s2 e2).1.1 (dyO op s1 e1 s2 e2).1.2 none none, iD (dyO op s1 e1 s2 e2).2]) := by
  have m1 := vmay_runs s1 e1 (by omega) (by omega)
  have m2 := vmay_runs s2 e2 (by omega) (by omega)
  have o := ops_runs op
  unfold dyO
  cases g1 : good s1 e1 with
  | false => rw [g1] at m1; rw [if_neg (by simp)]; exact dyad_no1 m1
  | true =>
    cases g2 : good s2 e2 with
    | false => rw [g1] at m1; rw [g2] at m2; rw [if_neg (by simp)]; exact dyad_no2 m1 m2
    | true =>
      cases ho : sgB dyS op with
      | false => rw [g1] at m1; rw [g2] at m2; rw [ho] at o; rw [if_neg (by simp)]; exact dyad_no3 m1 m2 o
      | true =>
        rw [g1] at m1
        rw [g2] at m2
        rw [ho] at o
        rw [if_pos ⟨rfl, rfl, rfl⟩]
        have r1 := good_rank g1
        have r2 := good_rank g2
        have hme := meet_runs s1 s2 (by omega) (by omega)
        by_cases hm : (meetS s1 s2).2 = 0
        · rw [if_pos hm]
          obtain ⟨k1, k2, k3, k4, k5⟩ := meet_ok g1 g2 hm
          rw [hm] at hme
          have hsz := size_runs (meetS s1 s2).1 (by rcases k5 with ⟨h, _⟩ | ⟨h, _⟩ <;> rw [h] <;> omega)
          rw [k1] at hsz
          have run := fun {z : Nat} {res : D} => dyad_run (z := z) (res := res) (r := dyR op s1 e1 s2 e2) m1 m2 o hme hsz (fun i hi => elem_runs (k3 i hi).1 (k3 i hi).2) (fun i hi => elem_runs (k4 i hi).1 (k4 i hi).2) (fun i hi => sd_runs ho (good_all g1 _ (atS_mem (k3 i hi).1 (k3 i hi).2)) (good_all g2 _ (atS_mem (k4 i hi).1 (k4 i hi).2))) (by omega)
          split
          · rename_i z hz
            rw [List.find?_eq_some_iff_append] at hz
            obtain ⟨hzb, l0, l3, hz1, hz2⟩ := hz
            have hlen : l0.length = z := by
              have := congrArg (fun l => l[l0.length]?) hz1
              simp only [List.getElem?_append_right (Nat.le_refl _), Nat.sub_self, List.getElem?_cons_zero] at this
              have h2 := (List.getElem?_eq_some_iff.1 this).2
              simpa using h2
            have hzn : z < dyN s1 s2 := by
              have := congrArg List.length hz1
              simp only [List.length_range, List.length_append, List.length_cons] at this
              omega
            refine run (z := z) (fun i hi => ?_) (.inr ⟨hzn, by simpa using hzb, rfl⟩)
            have hmem : i ∈ l0 := by
              have h3 : (List.range (dyN s1 s2))[i]? = some i := by simp [show i < dyN s1 s2 by omega]
              rw [hz1, List.getElem?_append_left (by omega)] at h3
              exact List.mem_of_getElem? h3
            simpa using hz2 i hmem
          · rename_i hz
            rw [List.find?_eq_none] at hz
            refine (run (z := dyN s1 s2) (fun i hi => by simpa using hz i (List.mem_range.2 hi)) (.inl ⟨rfl, rfl⟩)).tel (Tels.refl _) ?_
            have : rS ((List.range (dyN s1 s2)).map fun i => (dyR op s1 e1 s2 e2 i).1) none = .sl 1 ((List.range (dyN s1 s2)).map fun j => sD (dyR op s1 e1 s2 e2 j).1) (dyN s1 s2) none := by simp [List.map_map, Function.comp_def]
            show Tel _ (.tup [.agg [rI (meetS s1 s2).1 none, rS ((List.range (dyN s1 s2)).map fun i => (dyR op s1 e1 s2 e2 i).1) none], iD 0])
            rw [this]
            exact .refl _
        · rw [if_neg hm]
          exact dyad_no4 hm m1 m2 o hme
end Go.Proofs.YtjldjhlccedkbaaGreatDoor.Am
end
section
/- The statements' head: the document's example; few. -/
namespace Go.Proofs.YtjldjhlccedkbaaGreatDoor.Am
open Go Go.RowKit Go.Proofs.YtjldjhlccedkbaaGreatDoor.Sh
set_option linter.unusedVariables false
set_option linter.unusedSimpArgs false
set_option maxRecDepth 100000
set_option maxHeartbeats 8000000
theorem shown_dy : dyO ⟨#[43]⟩ [3] [⟨#[49]⟩, ⟨#[50]⟩, ⟨#[51]⟩] [] [⟨#[49, 48]⟩] = (([3], [⟨#[49, 49]⟩, ⟨#[49, 50]⟩, ⟨#[49, 51]⟩]), 0) := by
  decide +kernel
theorem shown_runs : Runs Tryz.prog 13 [] (bD true) := by
  have v1 := vector_runs [⟨#[49]⟩, ⟨#[50]⟩, ⟨#[51]⟩] (by decide)
  have v2 := vector_runs [⟨#[49, 49]⟩, ⟨#[49, 50]⟩, ⟨#[49, 51]⟩] (by decide)
  have c1 := scalar_runs ⟨#[49, 48]⟩
  have d := dyad_runs ⟨#[43]⟩ [3] [⟨#[49]⟩, ⟨#[50]⟩, ⟨#[51]⟩] [] [⟨#[49, 48]⟩] (by decide) (by decide) (by decide) (by decide)
  rw [shown_dy] at d
  have sm := vsame_runs [3] [3] [⟨#[49, 49]⟩, ⟨#[49, 50]⟩, ⟨#[49, 51]⟩] [⟨#[49, 49]⟩, ⟨#[49, 50]⟩, ⟨#[49, 51]⟩] (by decide) (by decide) (by decide) (by decide)
  have o1 := ops_runs ⟨#[43]⟩
  have o2 := ops_runs ⟨#[35]⟩
  rw [show sgB dyS ⟨#[43]⟩ = true by decide +kernel] at o1
  rw [show sgB dyS ⟨#[35]⟩ = false by decide +kernel] at o2
  rw [decide_eq_true ⟨rfl, rfl⟩] at sm
  refine Runs.wp Go.Proofs.YtjldjhlccedkbaaGreatDoor.Am.hT Go.Proofs.YtjldjhlccedkbaaGreatDoor.Am.hm Tryz.func13 rfl (by decide) ⟨[(2, .first 0 (.first 1 (.first 2 (.alt 3 (.alt 4 (.alt 5 (.alt 6 (.first 7 (.first 8 (.alt 9 (.first 10 (.first 11 (.alt 12 (.first 13 (.first 14 (.first 15 .done))) .nil))) .nil))) .nil) .nil) .nil) (.alt 4 (.alt 3 (.alt 5 (.alt 6 (.first 7 (.first 8 (.alt 9 (.first 10 (.first 11 (.alt 12 (.first 13 (.first 14 (.first 15 .done))) .nil))) .nil))) .nil) .nil) (.alt 5 (.load 3 [6, 7, 8, 9, 10, 11, 12, 13, 14, 15] (.alt 6 (.first 7 (.first 8 (.alt 9 (.first 10 (.first 11 (.alt 12 (.first 13 (.first 14 (.first 15 .done))) .nil))) .nil))) .nil)) .nil)) .nil)))))], [0, 1, 2], 25⟩ ?_; ((conv => whnf); repeat ((first | refine Wo ?_ | refine Lt (by decide) ?_ | refine Lf (by decide) ?_ | refine Cl (by decide) ?_ | refine Cr (by decide) ?_ | refine ⟨_, rfl, ?_⟩ | refine Mi rfl ?_); (conv => whnf)))
  ((conv => whnf); (refine Hc.runs v1 ?_ ?_; (focus ((repeat ((conv => arg 1; whnf); first | exact Tels.nil | apply Tels.cons | apply Tel.aggs | apply Tel.tups | exact Tel.refl _ | exact Tel.nil1 _ | exact Tel.cap _ _ _ _)); done))); ((conv => whnf); repeat ((first | refine Wo ?_ | refine Lt (by decide) ?_ | refine Lf (by decide) ?_ | refine Cl (by decide) ?_ | refine Cr (by decide) ?_ | refine ⟨_, rfl, ?_⟩ | refine Mi rfl ?_); (conv => whnf))))
  ((conv => whnf); (refine Hc.runs c1 ?_ ?_; (focus ((repeat ((conv => arg 1; whnf); first | exact Tels.nil | apply Tels.cons | apply Tel.aggs | apply Tel.tups | exact Tel.refl _ | exact Tel.nil1 _ | exact Tel.cap _ _ _ _)); done))); ((conv => whnf); repeat ((first | refine Wo ?_ | refine Lt (by decide) ?_ | refine Lf (by decide) ?_ | refine Cl (by decide) ?_ | refine Cr (by decide) ?_ | refine ⟨_, rfl, ?_⟩ | refine Mi rfl ?_); (conv => whnf))))
  ((conv => whnf); (refine Hc.runs d ?_ ?_; (focus ((repeat ((conv => arg 1; whnf); first | exact Tels.nil | apply Tels.cons | apply Tel.aggs | apply Tel.tups | exact Tel.refl _ | exact Tel.nil1 _ | exact Tel.cap _ _ _ _)); done))); ((conv => whnf); repeat ((first | refine Wo ?_ | refine Lt (by decide) ?_ | refine Lf (by decide) ?_ | refine Cl (by decide) ?_ | refine Cr (by decide) ?_ | refine ⟨_, rfl, ?_⟩ | refine Mi rfl ?_); (conv => whnf))))
  (refine And.intro (by decide +kernel) ?_; apply Exists.intro; apply And.intro; focus ((repeat' ((conv => whnf); first | exact trivial | refine Wo ?_ | refine Lt (by decide) ?_ | refine Lf (by decide) ?_ | refine Cl (by decide) ?_ | refine Cr (by decide) ?_ | refine ⟨_, rfl, ?_⟩ | refine Mi rfl ?_ | (first | (refine Hc.runs v2 ?_ ?_; (focus ((repeat ((conv => arg 1; whnf); first | exact Tels.nil | apply Tels.cons | apply Tel.aggs | apply Tel.tups | exact Tel.refl _ | exact Tel.nil1 _ | exact Tel.cap _ _ _ _)); done))) | (refine Hc.flat sm ?_ rfl ?_; (focus ((repeat ((conv => arg 1; whnf); first | exact Tels.nil | apply Tels.cons | apply Tel.aggs | apply Tel.tups | exact Tel.refl _ | exact Tel.nil1 _ | exact Tel.cap _ _ _ _)); done))) | (refine Hc.flat o1 ?_ rfl ?_; (focus ((repeat ((conv => arg 1; whnf); first | exact Tels.nil | apply Tels.cons | apply Tel.aggs | apply Tel.tups | exact Tel.refl _ | exact Tel.nil1 _ | exact Tel.cap _ _ _ _)); done))) | (refine Hc.flat o2 ?_ rfl ?_; (focus ((repeat ((conv => arg 1; whnf); first | exact Tels.nil | apply Tels.cons | apply Tel.aggs | apply Tel.tups | exact Tel.refl _ | exact Tel.nil1 _ | exact Tel.cap _ _ _ _)); done)))) | (refine And.intro ?_ ?_))); all_goals (first | ((conv => whnf); exact Wk.frc (keep := [0, 1, 2]) (N := 25) (by (conv => whnf); first | done | exact rfl)) | (first | decide | rfl | assumption | omega | (dsimp only; omega) | (unfold maxLen; omega) | ((try dsimp only [maxLen]); simp only [List.length_append, List.length_cons, List.length_nil, List.length_map, List.length_range, List.length_set, List.length_replicate]; omega) | ((try dsimp only [maxLen]); simp only [IntKind.wrap_i64, IntKind.wrap_u64, List.length_append, List.length_cons, List.length_nil, List.length_map, List.length_range, List.length_set, List.length_replicate]; omega) | ((try dsimp only [maxLen]); simp only [List.length_append, List.length_cons, List.length_nil, List.length_map, List.length_range, List.length_set, List.length_replicate] at *; omega)))))
  ((conv => whnf); repeat ((first | refine Wo ?_ | refine Lt (by decide) ?_ | refine Lf (by decide) ?_ | refine Cl (by decide) ?_ | refine Cr (by decide) ?_ | refine ⟨_, rfl, ?_⟩ | refine Mi rfl ?_); (conv => whnf)))
  ((conv => whnf); ((repeat ((conv => arg 1; whnf); first | exact Tels.nil | apply Tels.cons | apply Tel.aggs | apply Tel.tups | exact Tel.refl _ | exact Tel.nil1 _ | exact Tel.cap _ _ _ _)); done))
/-- few enough -/
def fewB (s : List Int) (e : List ByteArray) : Bool := (e.take 301).all (fun x => decide (x.size ≤ 120)) && decide (e.length ≤ 300) && decide (s.length ≤ 20)
theorem few_runs (s : List Int) (e : List ByteArray) (hs : s.length ≤ 9223372036854775807) (he : e.length ≤ 9223372036854775807) : Runs Tryz.prog 14 [vD s e none none] (bD (fewB s e)) := by
  refine Runs.wp Go.Proofs.YtjldjhlccedkbaaGreatDoor.Am.hT Go.Proofs.YtjldjhlccedkbaaGreatDoor.Am.hm Tryz.func14 rfl (by decide) ⟨[], [0, 1, 2, 3, 12, 21], 32⟩ ?_; ((conv => whnf); repeat ((first | refine Wo ?_ | refine Lt (by decide) ?_ | refine Lf (by decide) ?_ | refine Cl (by decide) ?_ | refine Cr (by decide) ?_ | refine ⟨_, rfl, ?_⟩ | refine Mi rfl ?_); (conv => whnf)))
  refine loop_ind (fun k (i : Nat) => i + k = 302 ∧ i ≤ e.length ∧ i ≤ 301 ∧ fewB s e = ((((e.take 301).drop i).all (fun x => decide (x.size ≤ 120))) && decide (e.length ≤ 300) && decide (s.length ≤ 20))) (fun i => { t := pin [(1, .pt 0 0), (2, .d (bD false)), (3, .d (iD i))], N := 32, h := hpin [some (.st 25 [.d (rI s none), .d (rS e none)])], n := 1, lo := 0 }) (fun i h => by omega) ?_ 302 0 ⟨by omega, by omega, by omega, rfl⟩ _ ?_
  · rintro k i R ih ⟨hk, hi, hi2, hq⟩
    rw [hq]
    have hend : ¬ (i < e.length ∧ i < 301) → ((((e.take 301).drop i).all (fun x => decide (x.size ≤ 120))) && decide (e.length ≤ 300) && decide (s.length ≤ 20)) = (decide (e.length ≤ 300) && decide (s.length ≤ 20)) := fun h => by
      rw [List.drop_eq_nil_of_le (by rw [List.length_take]; omega)]
      simp
    have g1 : decide (((e.length : Nat) : Int) ≤ 300) = decide (e.length ≤ 300) := by rw [decide_eq_decide]; omega
    have g2 : decide (((s.length : Nat) : Int) ≤ 20) = decide (s.length ≤ 20) := by rw [decide_eq_decide]; omega
    by_cases hl1 : i < e.length
    · have t1 : decide ((i : Int) < (e.length : Int)) = true := by simpa using hl1
      by_cases hl2 : i < 301
      · have t2 : decide ((i : Int) < 301) = true := by rw [decide_eq_true_iff]; omega
        have hlt : i < (e.take 301).length := by rw [List.length_take]; omega
        have hd : (e.take 301).drop i = e[i] :: (e.take 301).drop (i + 1) := by
          rw [List.drop_eq_getElem_cons hlt, List.getElem_take]
        have hix : (e.map sD)[(i : Int).toNat * 1]? = some (sD e[i]) := ixm (j := i) (by simp [hl1]) (by simp)
        rw [hd, List.all_cons] at hq ⊢
        by_cases hb : e[i].size ≤ 120
        · have t3 : decide (((e[i].size : Nat) : Int) > 120) = false := by rw [decide_eq_false_iff_not]; omega
          rw [decide_eq_true hb, Bool.true_and] at hq ⊢
          rw [← hq]
          ((conv => whnf); repeat ((first | refine Wo ?_ | refine Lt (by decide) ?_ | refine Lf (by decide) ?_ | refine Cl (by decide) ?_ | refine Cr (by decide) ?_ | refine ⟨_, rfl, ?_⟩ | refine Mi rfl ?_); (conv => whnf)))
          refine litE t1 ?_
          ((conv => whnf); repeat ((first | refine Wo ?_ | refine Lt (by decide) ?_ | refine Lf (by decide) ?_ | refine Cl (by decide) ?_ | refine Cr (by decide) ?_ | refine ⟨_, rfl, ?_⟩ | refine Mi rfl ?_); (conv => whnf)))
          refine litE t2 ?_
          ((conv => whnf); repeat ((first | refine Wo ?_ | refine Lt (by decide) ?_ | refine Lf (by decide) ?_ | refine Cl (by decide) ?_ | refine Cr (by decide) ?_ | refine ⟨_, rfl, ?_⟩ | refine Mi rfl ?_ | (refine And.intro ?_ ?_; focus (first | decide | rfl | assumption | omega | (dsimp only; omega) | (unfold maxLen; omega) | ((try dsimp only [maxLen]); simp only [List.length_append, List.length_cons, List.length_nil, List.length_map, List.length_range, List.length_set, List.length_replicate]; omega) | ((try dsimp only [maxLen]); simp only [IntKind.wrap_i64, IntKind.wrap_u64, List.length_append, List.length_cons, List.length_nil, List.length_map, List.length_range, List.length_set, List.length_replicate]; omega) | ((try dsimp only [maxLen]); simp only [List.length_append, List.length_cons, List.length_nil, List.length_map, List.length_range, List.length_set, List.length_replicate] at *; omega)))); (conv => whnf)))
          ((conv => whnf); refine ⟨_, hix, ?_⟩; ((conv => whnf); repeat ((first | refine Wo ?_ | refine Lt (by decide) ?_ | refine Lf (by decide) ?_ | refine Cl (by decide) ?_ | refine Cr (by decide) ?_ | refine ⟨_, rfl, ?_⟩ | refine Mi rfl ?_); (conv => whnf))))
          refine litE t3 ?_
          ((conv => whnf); repeat ((first | refine Wo ?_ | refine Lt (by decide) ?_ | refine Lf (by decide) ?_ | refine Cl (by decide) ?_ | refine Cr (by decide) ?_ | refine ⟨_, rfl, ?_⟩ | refine Mi rfl ?_); (conv => whnf)))
          refine ih (i + 1) _ ⟨by omega, by omega, by omega, hq⟩ ?_
          (refine Wk.to _ _ ?_ ?_ <;> (repeat' first | exact trivial | rfl | (refine And.intro ?_ ?_)))
          exact inE (i64n (by simp) (by omega))
        · have t3 : decide (((e[i].size : Nat) : Int) > 120) = true := by rw [decide_eq_true_iff]; omega
          rw [decide_eq_false hb, Bool.false_and, Bool.false_and, Bool.false_and]
          ((conv => whnf); repeat ((first | refine Wo ?_ | refine Lt (by decide) ?_ | refine Lf (by decide) ?_ | refine Cl (by decide) ?_ | refine Cr (by decide) ?_ | refine ⟨_, rfl, ?_⟩ | refine Mi rfl ?_); (conv => whnf)))
          refine litE t1 ?_
          ((conv => whnf); repeat ((first | refine Wo ?_ | refine Lt (by decide) ?_ | refine Lf (by decide) ?_ | refine Cl (by decide) ?_ | refine Cr (by decide) ?_ | refine ⟨_, rfl, ?_⟩ | refine Mi rfl ?_); (conv => whnf)))
          refine litE t2 ?_
          ((conv => whnf); repeat ((first | refine Wo ?_ | refine Lt (by decide) ?_ | refine Lf (by decide) ?_ | refine Cl (by decide) ?_ | refine Cr (by decide) ?_ | refine ⟨_, rfl, ?_⟩ | refine Mi rfl ?_ | (refine And.intro ?_ ?_; focus (first | decide | rfl | assumption | omega | (dsimp only; omega) | (unfold maxLen; omega) | ((try dsimp only [maxLen]); simp only [List.length_append, List.length_cons, List.length_nil, List.length_map, List.length_range, List.length_set, List.length_replicate]; omega) | ((try dsimp only [maxLen]); simp only [IntKind.wrap_i64, IntKind.wrap_u64, List.length_append, List.length_cons, List.length_nil, List.length_map, List.length_range, List.length_set, List.length_replicate]; omega) | ((try dsimp only [maxLen]); simp only [List.length_append, List.length_cons, List.length_nil, List.length_map, List.length_range, List.length_set, List.length_replicate] at *; omega)))); (conv => whnf)))
          ((conv => whnf); refine ⟨_, hix, ?_⟩; ((conv => whnf); repeat ((first | refine Wo ?_ | refine Lt (by decide) ?_ | refine Lf (by decide) ?_ | refine Cl (by decide) ?_ | refine Cr (by decide) ?_ | refine ⟨_, rfl, ?_⟩ | refine Mi rfl ?_); (conv => whnf))))
          refine litE t3 ?_
          ((conv => whnf); repeat ((first | refine Wo ?_ | refine Lt (by decide) ?_ | refine Lf (by decide) ?_ | refine Cl (by decide) ?_ | refine Cr (by decide) ?_ | refine ⟨_, rfl, ?_⟩ | refine Mi rfl ?_); (conv => whnf)))
          ((conv => whnf); ((repeat ((conv => arg 1; whnf); first | exact Tels.nil | apply Tels.cons | apply Tel.aggs | apply Tel.tups | exact Tel.refl _ | exact Tel.nil1 _ | exact Tel.cap _ _ _ _)); done))
      · have t2 : decide ((i : Int) < 301) = false := by rw [decide_eq_false_iff_not]; omega
        rw [hend (by omega)]
        rw [decide_eq_false (show ¬ e.length ≤ 300 by omega)] at g1 ⊢
        ((conv => whnf); repeat ((first | refine Wo ?_ | refine Lt (by decide) ?_ | refine Lf (by decide) ?_ | refine Cl (by decide) ?_ | refine Cr (by decide) ?_ | refine ⟨_, rfl, ?_⟩ | refine Mi rfl ?_); (conv => whnf)))
        refine litE t1 ?_
        ((conv => whnf); repeat ((first | refine Wo ?_ | refine Lt (by decide) ?_ | refine Lf (by decide) ?_ | refine Cl (by decide) ?_ | refine Cr (by decide) ?_ | refine ⟨_, rfl, ?_⟩ | refine Mi rfl ?_); (conv => whnf)))
        refine litE t2 ?_
        ((conv => whnf); repeat ((first | refine Wo ?_ | refine Lt (by decide) ?_ | refine Lf (by decide) ?_ | refine Cl (by decide) ?_ | refine Cr (by decide) ?_ | refine ⟨_, rfl, ?_⟩ | refine Mi rfl ?_); (conv => whnf)))
        refine litE g1 ?_
        ((conv => whnf); repeat ((first | refine Wo ?_ | refine Lt (by decide) ?_ | refine Lf (by decide) ?_ | refine Cl (by decide) ?_ | refine Cr (by decide) ?_ | refine ⟨_, rfl, ?_⟩ | refine Mi rfl ?_); (conv => whnf)))
        ((conv => whnf); ((repeat ((conv => arg 1; whnf); first | exact Tels.nil | apply Tels.cons | apply Tel.aggs | apply Tel.tups | exact Tel.refl _ | exact Tel.nil1 _ | exact Tel.cap _ _ _ _)); done))
    · have t1 : decide ((i : Int) < (e.length : Int)) = false := by simpa using hl1
      rw [hend (by omega)]
      by_cases h3 : e.length ≤ 300
      · rw [decide_eq_true h3] at g1 ⊢
        rw [Bool.true_and]
        ((conv => whnf); repeat ((first | refine Wo ?_ | refine Lt (by decide) ?_ | refine Lf (by decide) ?_ | refine Cl (by decide) ?_ | refine Cr (by decide) ?_ | refine ⟨_, rfl, ?_⟩ | refine Mi rfl ?_); (conv => whnf)))
        refine litE t1 ?_
        ((conv => whnf); repeat ((first | refine Wo ?_ | refine Lt (by decide) ?_ | refine Lf (by decide) ?_ | refine Cl (by decide) ?_ | refine Cr (by decide) ?_ | refine ⟨_, rfl, ?_⟩ | refine Mi rfl ?_); (conv => whnf)))
        refine litE g1 ?_
        ((conv => whnf); repeat ((first | refine Wo ?_ | refine Lt (by decide) ?_ | refine Lf (by decide) ?_ | refine Cl (by decide) ?_ | refine Cr (by decide) ?_ | refine ⟨_, rfl, ?_⟩ | refine Mi rfl ?_); (conv => whnf)))
        refine litE g2 ?_
        ((conv => whnf); repeat ((first | refine Wo ?_ | refine Lt (by decide) ?_ | refine Lf (by decide) ?_ | refine Cl (by decide) ?_ | refine Cr (by decide) ?_ | refine ⟨_, rfl, ?_⟩ | refine Mi rfl ?_); (conv => whnf)))
        ((conv => whnf); ((repeat ((conv => arg 1; whnf); first | exact Tels.nil | apply Tels.cons | apply Tel.aggs | apply Tel.tups | exact Tel.refl _ | exact Tel.nil1 _ | exact Tel.cap _ _ _ _)); done))
      · rw [decide_eq_false h3] at g1 ⊢
        rw [Bool.false_and]
        ((conv => whnf); repeat ((first | refine Wo ?_ | refine Lt (by decide) ?_ | refine Lf (by decide) ?_ | refine Cl (by decide) ?_ | refine Cr (by decide) ?_ | refine ⟨_, rfl, ?_⟩ | refine Mi rfl ?_); (conv => whnf)))
        refine litE t1 ?_
        ((conv => whnf); repeat ((first | refine Wo ?_ | refine Lt (by decide) ?_ | refine Lf (by decide) ?_ | refine Cl (by decide) ?_ | refine Cr (by decide) ?_ | refine ⟨_, rfl, ?_⟩ | refine Mi rfl ?_); (conv => whnf)))
        refine litE g1 ?_
        ((conv => whnf); repeat ((first | refine Wo ?_ | refine Lt (by decide) ?_ | refine Lf (by decide) ?_ | refine Cl (by decide) ?_ | refine Cr (by decide) ?_ | refine ⟨_, rfl, ?_⟩ | refine Mi rfl ?_); (conv => whnf)))
        ((conv => whnf); ((repeat ((conv => arg 1; whnf); first | exact Tels.nil | apply Tels.cons | apply Tel.aggs | apply Tel.tups | exact Tel.refl _ | exact Tel.nil1 _ | exact Tel.cap _ _ _ _)); done))
  · (refine Wk.to _ _ ?_ ?_ <;> (repeat' first | exact trivial | rfl | (refine And.intro ?_ ?_)))
end Go.Proofs.YtjldjhlccedkbaaGreatDoor.Am
end
section
/- What spread.Dyad tells, plainly. -/
namespace Go.Proofs.YtjldjhlccedkbaaGreatDoor.Am
open Go Go.RowKit Go.Proofs.YtjldjhlccedkbaaGreatDoor.Sh
open Go.Proofs.YtjldjhlccedkbaaGreatDoor.Nm (numS)
set_option linter.unusedVariables false
set_option linter.unusedSimpArgs false
set_option maxRecDepth 100000
set_option maxHeartbeats 8000000
theorem told_sound (z : Int) : (Nm.told z).2 ≠ 4 ∧ ((Nm.told z).2 = 0 → ∃ y, Nm.Sm y ∧ (Nm.told z).1 = Nm.numS y) := by
  rcases Nm.told_or z with ⟨h, hs⟩ | ⟨h, _⟩
  · rw [h]; exact ⟨show (0 : Int) ≠ 4 by decide, fun _ => ⟨z, hs, rfl⟩⟩
  · rw [h]; exact ⟨by decide, fun h => absurd h (by decide)⟩
theorem sm_b01 (p : Bool) : Nm.Sm (b01 p) := Nm.sm_i64 (by cases p <;> simp [b01]) (by cases p <;> simp [b01])
def SdP (r : ByteArray × Int) : Prop := r.2 ≠ 4 ∧ (r.2 = 0 → ∃ z, Nm.Sm z ∧ r.1 = numS z)
theorem SdP.ite {c : Prop} [Decidable c] {a b : ByteArray × Int} (h1 : SdP a) (h2 : SdP b) : SdP (if c then a else b) := by split <;> assumption
theorem SdP.ok {z : Int} (h : Nm.Sm z) : SdP (numS z, 0) := ⟨show (0 : Int) ≠ 4 by decide, fun _ => ⟨z, h, rfl⟩⟩
theorem SdP.no {b : ByteArray} : SdP (b, 5) := ⟨show (5 : Int) ≠ 4 by decide, fun e => absurd (show (5 : Int) = 0 from e) (by decide)⟩
theorem dyZ_sound (c : UInt8) {x y : Int} (hx : Nm.Sm x) (hy : Nm.Sm y) : SdP (dyZ c x y) := by
  have t : ∀ z, SdP (Nm.told z) := told_sound
  unfold dyZ
  exact .ite (t _) (.ite (t _) (.ite (t _) (.ite (.ite .no (t _)) (.ite (.ite .no (t _)) (.ite (.ok (by split <;> assumption)) (.ite (.ok (by split <;> assumption)) (.ite (.ok (sm_b01 _)) (.ite (.ok (sm_b01 _)) (.ite (.ok (sm_b01 _)) (.ok (sm_b01 _)))))))))))
theorem sd_sound (op : ByteArray) {x y : Int} (hx : Nm.Sm x) (hy : Nm.Sm y) : (sd op (Nm.numS x) (Nm.numS y)).2 ≠ 4 ∧ ((sd op (Nm.numS x) (Nm.numS y)).2 = 0 → ∃ z, Nm.Sm z ∧ (sd op (Nm.numS x) (Nm.numS y)).1 = Nm.numS z) := by
  unfold sd
  rw [zB_num, zB_num]
  exact dyZ_sound _ hx hy
/-- each pair is a pair of numbers -/
theorem dyR_num (op : ByteArray) {s1 s2 : List Int} {e1 e2 : List ByteArray} (g1 : good s1 e1 = true) (g2 : good s2 e2 = true) (hm : (meetS s1 s2).2 = 0) {i : Nat} (hi : i < dyN s1 s2) :
    ∃ x y, Nm.Sm x ∧ Nm.Sm y ∧ atS s1 e1 i = numS x ∧ atS s2 e2 i = numS y ∧ dyR op s1 e1 s2 e2 i = sd op (numS x) (numS y) := by
  obtain ⟨_, _, k3, k4, _⟩ := meet_ok g1 g2 hm
  obtain ⟨x, ex, hx⟩ := num_mayB (good_all g1 _ (atS_mem (k3 i hi).1 (k3 i hi).2))
  obtain ⟨y, ey, hy⟩ := num_mayB (good_all g2 _ (atS_mem (k4 i hi).1 (k4 i hi).2))
  exact ⟨x, y, hx, hy, ex, ey, by unfold dyR; rw [ex, ey]⟩
/-- what it comes to -/
theorem dyO_ok {op : ByteArray} {s1 s2 : List Int} {e1 e2 : List ByteArray} (g1 : good s1 e1 = true) (g2 : good s2 e2 = true) (ho : sgB dyS op = true) (hm : (meetS s1 s2).2 = 0) (hz : ∀ i, i < dyN s1 s2 → (dyR op s1 e1 s2 e2 i).2 = 0) :
    dyO op s1 e1 s2 e2 = (((meetS s1 s2).1, (List.range (dyN s1 s2)).map fun i => (dyR op s1 e1 s2 e2 i).1), 0) := by
  unfold dyO
  rw [if_pos ⟨g1, g2, ho⟩, if_pos hm]
  rw [show (List.range (dyN s1 s2)).find? (fun i => decide ((dyR op s1 e1 s2 e2 i).2 ≠ 0)) = none from List.find?_eq_none.2 fun i hi => by simpa using hz i (List.mem_range.1 hi)]
end Go.Proofs.YtjldjhlccedkbaaGreatDoor.Am
end
section
/- SpreadItems: items of what comes out (pure part). -/
namespace Go.Proofs.YtjldjhlccedkbaaGreatDoor.Am
open Go Go.RowKit Go.Proofs.YtjldjhlccedkbaaGreatDoor.Sh
open Go.Proofs.YtjldjhlccedkbaaGreatDoor.Nm (numS)
set_option linter.unusedVariables false
set_option linter.unusedSimpArgs false
set_option maxRecDepth 100000
set_option maxHeartbeats 8000000
/-- an item -/
def itS (s : List Int) (e : List ByteArray) (i : Nat) : List Int × List ByteArray := (s.tail, (e.drop (i * (e.length / (manyZ s).toNat))).take (e.length / (manyZ s).toNat))
theorem size_if {l : List Int} (h3 : l.length ≤ 3) (hb : ∀ x ∈ l, 0 ≤ x ∧ x ≤ 1099511627776) : sizeS l = if l.any (fun x => x == 0) = true then (0, 0) else fin (pr l) := by
  unfold sizeS
  rw [if_neg (by omega), if_neg, if_neg]
  · intro h
    obtain ⟨x, hx, h⟩ := List.any_eq_true.1 h
    have := hb x hx
    simp at h
    omega
  · intro h
    obtain ⟨x, hx, h⟩ := List.any_eq_true.1 h
    have := hb x hx
    simp at h
    omega
theorem size_tail {a : Int} {l : List Int} {m : Nat} (h : sizeS (a :: l) = ((m : Int), 0)) (ha : 1 ≤ a) : sizeS l = (((m / a.toNat : Nat) : Int), 0) ∧ m = a.toNat * (m / a.toNat) := by
  obtain ⟨h3, hb, hz⟩ := size_ok h
  have hl3 : l.length ≤ 3 := by simp at h3; omega
  have hlb : ∀ x ∈ l, 0 ≤ x ∧ x ≤ 1099511627776 := fun x hx => hb x (by simp [hx])
  rw [size_if hl3 hlb]
  rcases hz with ⟨⟨x, hx, rfl⟩, hm⟩ | ⟨hp, hm, h1, h4⟩
  · have hm0 : m = 0 := by omega
    subst hm0
    have hmem : (0 : Int) ∈ l := by
      rcases List.mem_cons.1 hx with h | h
      · omega
      · exact h
    rw [if_pos (List.any_eq_true.2 ⟨0, hmem, by simp⟩)]
    simp
  · have hne : ¬ l.any (fun x => x == 0) = true := fun h => by
      obtain ⟨x, hx, h⟩ := List.any_eq_true.1 h
      have := hp x (by simp [hx])
      simp at h
      omega
    rw [if_neg hne]
    have hpl : 1 ≤ pr l := pr_pos fun x hx => hp x (by simp [hx])
    rw [pr_cons] at hm
    obtain ⟨q, rfl⟩ : ∃ q : Nat, a = (q : Int) := ⟨a.toNat, by omega⟩
    obtain ⟨p, hp'⟩ : ∃ p : Nat, pr l = (p : Int) := ⟨(pr l).toNat, by omega⟩
    rw [hp'] at hm hpl ⊢
    have hq : 0 < q := by omega
    have hmq : m = q * p := by exact_mod_cast hm
    rw [Int.toNat_natCast, hmq, Nat.mul_div_cancel_left _ hq]
    refine ⟨fin_le ?_, rfl⟩
    have : p ≤ q * p := Nat.le_mul_of_pos_left _ hq
    omega
theorem it_good {a : Int} {l : List Int} {e : List ByteArray} {i n : Nat} (g : good (a :: l) e = true) (hi : (i : Int) < a) (hn : n = e.length / a.toNat) :
    sizeS l = ((n : Int), 0) ∧ i * n + n ≤ e.length ∧ itS (a :: l) e i = (l, (e.drop (i * n)).take n) ∧ ((e.drop (i * n)).take n).length = n ∧ good l ((e.drop (i * n)).take n) = true := by
  have z := good_size g
  obtain ⟨h1, h2⟩ := size_tail z (by omega)
  rw [← hn] at h1 h2
  have hle : i * n + n ≤ e.length := by
    have : (i + 1) * n ≤ a.toNat * n := Nat.mul_le_mul_right _ (by omega)
    rw [Nat.add_mul, Nat.one_mul] at this
    omega
  have hlen : ((e.drop (i * n)).take n).length = n := by rw [List.length_take, List.length_drop]; omega
  refine ⟨h1, hle, ?_, hlen, good_iff.2 ⟨by rw [hlen]; exact h1, fun b hb => good_all g b (List.mem_of_mem_drop (List.mem_of_mem_take hb))⟩⟩
  unfold itS manyZ
  rw [hn]
  rfl
theorem getD_sub {e : List ByteArray} {o n j : Nat} (h : j < n) : ((e.drop o).take n).getD j ByteArray.empty = e.getD (o + j) ByteArray.empty := by
  rw [List.getD_eq_getElem?_getD, List.getD_eq_getElem?_getD, List.getElem?_take_of_lt h, List.getElem?_drop]
/-- one side of two: an item, or what has no axis -/
theorem it_side {a : Int} {l s : List Int} {e : List ByteArray} {i n N : Nat} (g : good s e = true) (hi : (i : Int) < a) (hs : (s = a :: l ∧ e.length = N) ∨ s = []) (hn : n = N / a.toNat) {v : List Int × List ByteArray} (hv : v = if s = [] then (s, e) else itS s e i) (hl : sizeS l = ((n : Int), 0)) :
    good v.1 v.2 = true ∧ (v.1 = l ∨ v.1 = []) ∧ (s ≠ [] → v.1 = l) ∧ ∀ j, j < n → atS v.1 v.2 j = atS s e (i * n + j) := by
  rcases hs with ⟨rfl, rfl⟩ | rfl
  · rw [if_neg (by simp)] at hv
    obtain ⟨h1, h2, h3, h4, h5⟩ := it_good g hi hn
    rw [h3] at hv
    subst hv
    refine ⟨h5, .inl rfl, fun _ => rfl, fun j hj => ?_⟩
    unfold atS
    rw [if_neg (show ¬ (a :: l) = [] by simp)]
    dsimp only
    split
    · rename_i hl0
      subst hl0
      have h0 : sizeS [] = (1, 0) := by decide
      rw [h0] at h1
      have := congrArg Prod.fst h1
      simp only at this
      have hj0 : j = 0 := by omega
      subst hj0
      exact getD_sub hj
    · exact getD_sub hj
  · rw [if_pos rfl] at hv
    subst hv
    refine ⟨g, .inr rfl, fun h => absurd rfl h, fun j hj => ?_⟩
    unfold atS
    rw [if_pos rfl, if_pos rfl]
theorem dy_inv {op : ByteArray} {s1 s2 : List Int} {e1 e2 : List ByteArray} (h : (dyO op s1 e1 s2 e2).2 = 0) : good s1 e1 = true ∧ good s2 e2 = true ∧ sgB dyS op = true ∧ (meetS s1 s2).2 = 0 ∧ (∀ i, i < dyN s1 s2 → (dyR op s1 e1 s2 e2 i).2 = 0) ∧
    dyO op s1 e1 s2 e2 = (((meetS s1 s2).1, (List.range (dyN s1 s2)).map fun i => (dyR op s1 e1 s2 e2 i).1), 0) := by
  have h' := h
  unfold dyO at h
  split at h
  · rename_i hg
    split at h
    · rename_i hm
      have hz : ∀ i, i < dyN s1 s2 → (dyR op s1 e1 s2 e2 i).2 = 0 := fun i hi => by
        split at h
        · rename_i z hz
          have := List.find?_some hz
          simp at this
          exact absurd h this
        · rename_i hz
          rw [List.find?_eq_none] at hz
          simpa using hz i (List.mem_range.2 hi)
      exact ⟨hg.1, hg.2.1, hg.2.2, hm, hz, dyO_ok hg.1 hg.2.1 hg.2.2 hm hz⟩
    · rename_i hm
      exact absurd h hm
  · exact absurd (show (1 : Int) = 0 from h) (by decide)
theorem meet_cases {s1 s2 : List Int} (h : (meetS s1 s2).2 = 0) : (s1 = (meetS s1 s2).1 ∨ s1 = []) ∧ (s2 = (meetS s1 s2).1 ∨ s2 = []) ∧ (s1 = (meetS s1 s2).1 ∨ s2 = (meetS s1 s2).1) := by
  unfold meetS at h ⊢
  split at h
  · rename_i hc
    rw [if_pos hc]
    exact ⟨.inl rfl, hc.imp (fun h => h.symm) id, .inl rfl⟩
  · rename_i hc
    split at h
    · rename_i ha
      rw [if_neg hc, if_pos ha]
      exact ⟨.inr ha, .inl rfl, .inr rfl⟩
    · exact absurd (show (4 : Int) = 0 from h) (by decide)
theorem meet_two {a b l : List Int} (ha : a = l ∨ a = []) (hb : b = l ∨ b = []) (h : a = l ∨ b = l) : meetS a b = (l, 0) := by
  unfold meetS
  rcases hb with rfl | rfl
  · rcases ha with rfl | rfl
    · rw [if_pos (.inl rfl)]
    · by_cases hb : b = []
      · subst hb; rw [if_pos (.inl rfl)]
      · rw [if_neg (by rintro (h | h); exact hb h.symm; exact hb h), if_pos rfl]
  · rw [if_pos (.inr rfl)]
    rcases h with rfl | rfl
    · rfl
    · rcases ha with rfl | rfl <;> rfl
theorem items_law {op : ByteArray} {s1 s2 : List Int} {e1 e2 : List ByteArray} {i : Nat} {S : List Int} {E : List ByteArray} (h : dyO op s1 e1 s2 e2 = ((S, E), 0)) (hne : S ≠ []) (hi : (i : Int) < manyZ S) {v w : List Int × List ByteArray} (hv : v = if s1 = [] then (s1, e1) else itS s1 e1 i) (hw : w = if s2 = [] then (s2, e2) else itS s2 e2 i) :
    dyO op v.1 v.2 w.1 w.2 = (itS S E i, 0) ∧ good S E = true ∧ (s1 ≠ [] → good s1 e1 = true ∧ (i : Int) < manyZ s1) ∧ (s2 ≠ [] → good s2 e2 = true ∧ (i : Int) < manyZ s2) := by
  obtain ⟨g1, g2, ho, hm, hz, he⟩ := dy_inv (show (dyO op s1 e1 s2 e2).2 = 0 by rw [h])
  rw [h] at he
  obtain ⟨k1, k2, k3, k4, k5⟩ := meet_ok g1 g2 hm
  obtain ⟨m1, m2, m3⟩ := meet_cases hm
  have hS : S = (meetS s1 s2).1 := congrArg (fun p => p.1.1) he
  have hE : E = (List.range (dyN s1 s2)).map fun i => (dyR op s1 e1 s2 e2 i).1 := congrArg (fun p => p.1.2) he
  rw [← hS] at k1 k5 m1 m2 m3
  have hEl : E.length = dyN s1 s2 := by rw [hE]; simp
  have gSE : good S E = true := good_iff.2 ⟨by rw [hEl]; exact k1, fun b hb => by
    rw [hE] at hb
    obtain ⟨j, hj, rfl⟩ := List.mem_map.1 hb
    obtain ⟨x, y, hx, hy, _, _, er⟩ := dyR_num op g1 g2 hm (List.mem_range.1 hj)
    have h0 := hz j (List.mem_range.1 hj)
    rw [er] at h0 ⊢
    obtain ⟨z, hzs, hz'⟩ := (sd_sound op hx hy).2 h0
    rw [hz']
    exact mayB_num hzs⟩
  generalize hNd : dyN s1 s2 = N at *
  cases S with
  | nil => exact absurd rfl hne
  | cons a l =>
    have hi' : (i : Int) < a := hi
    have hn : N / a.toNat = E.length / a.toNat := by rw [hEl]
    generalize hnn : N / a.toNat = n at *
    obtain ⟨q1, q2, q3, q4, q5⟩ := it_good gSE hi' hn
    have z1 := good_size g1
    have z2 := good_size g2
    have side : ∀ {s : List Int} {e : List ByteArray}, good s e = true → (s = a :: l ∨ s = []) → (s = a :: l ∧ e.length = N) ∨ s = [] := fun {s e} g h => by
      rcases h with rfl | h
      · have := good_size g
        rw [k1] at this
        have := congrArg Prod.fst this
        simp only at this
        exact .inl ⟨rfl, by omega⟩
      · exact .inr h
    obtain ⟨a1, a2, a3, a4⟩ := it_side g1 hi' (side g1 m1) hnn.symm hv q1
    obtain ⟨b1, b2, b3, b4⟩ := it_side g2 hi' (side g2 m2) hnn.symm hw q1
    have hm' : meetS v.1 w.1 = (l, 0) := meet_two a2 b2 (m3.imp (fun h => a3 (by rw [h]; simp)) (fun h => b3 (by rw [h]; simp)))
    have hN' : dyN v.1 w.1 = n := by unfold dyN; rw [hm']; dsimp only; rw [q1]; rfl
    have hr : ∀ j, j < n → dyR op v.1 v.2 w.1 w.2 j = dyR op s1 e1 s2 e2 (i * n + j) := fun j hj => by unfold dyR; rw [a4 j hj, b4 j hj]
    refine ⟨?_, gSE, fun h => ⟨g1, ?_⟩, fun h => ⟨g2, ?_⟩⟩
    · rw [dyO_ok a1 b1 ho (by rw [hm']) (fun j hj => by rw [hN'] at hj; rw [hr j hj]; exact hz _ (by omega)), hm', hN', q3]
      have : (List.range n).map (fun j => (dyR op v.1 v.2 w.1 w.2 j).1) = (E.drop (i * n)).take n := by
        apply List.ext_getElem
        · rw [q4]; simp
        · intro j h1 h2
          have hj : j < n := by simpa using h1
          simp only [List.getElem_map, List.getElem_range, hr j hj, List.getElem_take, List.getElem_drop, hE]
      rw [this]
    · rcases m1 with h1 | h1
      · rw [h1]; exact hi'
      · exact absurd h1 h
    · rcases m2 with h1 | h1
      · rw [h1]; exact hi'
      · exact absurd h1 h
end Go.Proofs.YtjldjhlccedkbaaGreatDoor.Am
end
section
/- SpreadOrder, walked. -/
namespace Go.Proofs.YtjldjhlccedkbaaGreatDoor.Am
open Go Go.RowKit Go.Proofs.YtjldjhlccedkbaaGreatDoor.Sh
open Go.Proofs.YtjldjhlccedkbaaGreatDoor.Nm (numS)
set_option linter.unusedVariables false
set_option linter.unusedSimpArgs false
set_option maxRecDepth 100000
set_option maxHeartbeats 8000000
theorem dyO_len (op : ByteArray) (s1 s2 : List Int) (e1 e2 : List ByteArray) : (dyO op s1 e1 s2 e2).1.1.length ≤ 9223372036854775807 ∧ (dyO op s1 e1 s2 e2).1.2.length ≤ 9223372036854775807 := by
  unfold dyO
  split
  · rename_i h
    split
    · rename_i hm
      obtain ⟨k1, k2, _⟩ := meet_ok h.1 h.2.1 hm
      split
      · simp
      · refine ⟨?_, by simp; omega⟩
        have := (size_ok k1).1
        dsimp only
        omega
    · simp
  · simp
end Go.Proofs.YtjldjhlccedkbaaGreatDoor.Am
end
