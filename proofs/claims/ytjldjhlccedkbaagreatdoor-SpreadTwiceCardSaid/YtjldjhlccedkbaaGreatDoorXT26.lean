/- What the law leans on, part 27: declarations of several texts of ours, in their order. -/
import Derived.Test.YtjldjhlccedkbaaGreatDoorXT25
import Derived.Test.YtjldjhlccedkbaaGreatDoorXT23
section
/- What scalar.Dyad and Monad tell, of numbers. -/
namespace Go.Proofs.YtjldjhlccedkbaaGreatDoor.Am
open Go Go.Lib Go.RowKit Go.Proofs.YtjldjhlccedkbaaGreatDoor.Nm Go.Proofs.YtjldjhlccedkbaaGreatDoorW.PrintWords Go.Proofs.YtjldjhlccedkbaaGreatDoor
set_option linter.unusedVariables false
set_option linter.unusedSimpArgs false
set_option maxRecDepth 100000
set_option maxHeartbeats 8000000
/-- the number of a text -/
def zL : List UInt8 → Int
  | 45 :: r => -(Nm.val r : Int)
  | l => (Nm.val l : Int)
def zB (b : ByteArray) : Int := zL b.data.toList
theorem zL_pos {l : List UInt8} (h : ∀ r, l ≠ 45 :: r) : zL l = (Nm.val l : Int) := by
  unfold zL
  split
  · exact absurd rfl (h _)
  · rfl
theorem zB_num (z : Int) : zB (numS z) = z := by
  unfold zB numS
  rw [ba_data]
  by_cases h : z < 0
  · rw [itoa_neg' h]
    show -(Nm.val (decDigits z.natAbs) : Int) = z
    rw [val_decDigits]
    omega
  · rw [itoa_pos' h, zL_pos, val_decDigits]
    · omega
    · intro r e
      obtain ⟨c, r', h1, h2, h3⟩ := head_dec z.natAbs
      rw [e] at h1
      injection h1 with h1 _
      rw [← h1] at h2
      exact absurd h2 (by decide)
def b01 (p : Bool) : Int := if p = true then 1 else 0
theorem stold_num (p : Bool) : (if p = true then (⟨#[49]⟩ : ByteArray) else ⟨#[48]⟩) = numS (b01 p) := by
  cases p with
  | true => exact (litS 1 [49] (by decide) (by decide) (by decide) (by decide))
  | false =>
    show (BA [48]) = numS 0
    unfold numS
    rw [(itoa_zero_iff 0).2 rfl]
def dyZ (c : UInt8) (x y : Int) : ByteArray × Int :=
  if c = 43 then Nm.told (x + y) else if c = 45 then Nm.told (x - y) else if c = 42 then Nm.told (x * y)
  else if c = 37 then (if y = 0 then (BA [], 5) else Nm.told (fl x y)) else if c = 33 then (if y = 0 then (BA [], 5) else Nm.told (fm x y))
  else if c = 38 then (numS (if decide (x ≤ y) = true then x else y), 0) else if c = 124 then (numS (if decide (y ≤ x) = true then x else y), 0)
  else if c = 60 then (numS (b01 (decide (x < y))), 0) else if c = 62 then (numS (b01 (decide (y < x))), 0)
  else if c = 61 then (numS (b01 (decide (x = y))), 0) else (numS (b01 (!decide (x = y))), 0)
theorem cmp_le (x y : Int) : decide (cmpZ x y ≤ 0) = decide (x ≤ y) := by
  rw [decide_eq_decide]; unfold cmpZ; split <;> (try split) <;> omega
theorem cmp_ge (x y : Int) : decide (cmpZ x y ≥ 0) = decide (y ≤ x) := by
  rw [decide_eq_decide]; unfold cmpZ; split <;> (try split) <;> omega
theorem cmp_lt (x y : Int) : decide (cmpZ x y < 0) = decide (x < y) := by
  rw [decide_eq_decide]; unfold cmpZ; split <;> (try split) <;> omega
theorem cmp_gt (x y : Int) : decide (cmpZ x y > 0) = decide (y < x) := by
  rw [decide_eq_decide]; unfold cmpZ; split <;> (try split) <;> omega
theorem num_eqb (x y : Int) : ((numS x).toList == (numS y).toList) = decide (x = y) := by
  rw [numS_list, numS_list, Bool.eq_iff_iff, beq_iff_eq, decide_eq_true_iff]
  exact ⟨fun h => itoa_inj h, fun h => by rw [h]⟩
section
variable {x y : Int} (hx : Nm.Sm x) (hy : Nm.Sm y)
include hx hy
theorem min_runs : Runs Tryz.prog 78 [sD (numS x), sD (numS y)] (eD (numS (if decide (x ≤ y) = true then x else y), 0)) := by
  have h1 := cmp_yes hx hy
  have h2 := cmp_le x y
  have h3 := pick_runs (decide (x ≤ y)) (numS x) (numS y)
  rw [show (if decide (x ≤ y) = true then numS x else numS y) = numS (if decide (x ≤ y) = true then x else y) by split <;> rfl] at h3
  refine Runs.wp Go.Proofs.YtjldjhlccedkbaaGreatDoor.Am.hT Go.Proofs.YtjldjhlccedkbaaGreatDoor.Am.hm Tryz.func78 rfl (by decide) ⟨[], [0, 1, 4, 5], 15⟩ ?_; ((conv => whnf); repeat ((first | refine Wo ?_ | refine Lt (by decide) ?_ | refine Lf (by decide) ?_ | refine Cl (by decide) ?_ | refine Cr (by decide) ?_ | refine ⟨_, rfl, ?_⟩ | refine Mi rfl ?_); (conv => whnf)))
  ((conv => whnf); (refine Hc.flat h1 ?_ rfl ?_; (focus ((repeat ((conv => arg 1; whnf); first | exact Tels.nil | apply Tels.cons | apply Tel.aggs | apply Tel.tups | exact Tel.refl _ | exact Tel.nil1 _ | exact Tel.cap _ _ _ _)); done))); ((conv => whnf); repeat ((first | refine Wo ?_ | refine Lt (by decide) ?_ | refine Lf (by decide) ?_ | refine Cl (by decide) ?_ | refine Cr (by decide) ?_ | refine ⟨_, rfl, ?_⟩ | refine Mi rfl ?_); (conv => whnf))))
  refine litE h2 ?_
  ((conv => whnf); repeat ((first | refine Wo ?_ | refine Lt (by decide) ?_ | refine Lf (by decide) ?_ | refine Cl (by decide) ?_ | refine Cr (by decide) ?_ | refine ⟨_, rfl, ?_⟩ | refine Mi rfl ?_); (conv => whnf)))
  ((conv => whnf); (refine Hc.flat h3 ?_ rfl ?_; (focus ((repeat ((conv => arg 1; whnf); first | exact Tels.nil | apply Tels.cons | apply Tel.aggs | apply Tel.tups | exact Tel.refl _ | exact Tel.nil1 _ | exact Tel.cap _ _ _ _)); done))); ((conv => whnf); repeat ((first | refine Wo ?_ | refine Lt (by decide) ?_ | refine Lf (by decide) ?_ | refine Cl (by decide) ?_ | refine Cr (by decide) ?_ | refine ⟨_, rfl, ?_⟩ | refine Mi rfl ?_); (conv => whnf))))
  ((conv => whnf); ((repeat ((conv => arg 1; whnf); first | exact Tels.nil | apply Tels.cons | apply Tel.aggs | apply Tel.tups | exact Tel.refl _ | exact Tel.nil1 _ | exact Tel.cap _ _ _ _)); done))
theorem max_runs : Runs Tryz.prog 81 [sD (numS x), sD (numS y)] (eD (numS (if decide (y ≤ x) = true then x else y), 0)) := by
  have h1 := cmp_yes hx hy
  have h2 := cmp_ge x y
  have h3 := pick_runs (decide (y ≤ x)) (numS x) (numS y)
  rw [show (if decide (y ≤ x) = true then numS x else numS y) = numS (if decide (y ≤ x) = true then x else y) by split <;> rfl] at h3
  refine Runs.wp Go.Proofs.YtjldjhlccedkbaaGreatDoor.Am.hT Go.Proofs.YtjldjhlccedkbaaGreatDoor.Am.hm Tryz.func81 rfl (by decide) ⟨[], [0, 1, 4, 5], 15⟩ ?_; ((conv => whnf); repeat ((first | refine Wo ?_ | refine Lt (by decide) ?_ | refine Lf (by decide) ?_ | refine Cl (by decide) ?_ | refine Cr (by decide) ?_ | refine ⟨_, rfl, ?_⟩ | refine Mi rfl ?_); (conv => whnf)))
  ((conv => whnf); (refine Hc.flat h1 ?_ rfl ?_; (focus ((repeat ((conv => arg 1; whnf); first | exact Tels.nil | apply Tels.cons | apply Tel.aggs | apply Tel.tups | exact Tel.refl _ | exact Tel.nil1 _ | exact Tel.cap _ _ _ _)); done))); ((conv => whnf); repeat ((first | refine Wo ?_ | refine Lt (by decide) ?_ | refine Lf (by decide) ?_ | refine Cl (by decide) ?_ | refine Cr (by decide) ?_ | refine ⟨_, rfl, ?_⟩ | refine Mi rfl ?_); (conv => whnf))))
  refine litE h2 ?_
  ((conv => whnf); repeat ((first | refine Wo ?_ | refine Lt (by decide) ?_ | refine Lf (by decide) ?_ | refine Cl (by decide) ?_ | refine Cr (by decide) ?_ | refine ⟨_, rfl, ?_⟩ | refine Mi rfl ?_); (conv => whnf)))
  ((conv => whnf); (refine Hc.flat h3 ?_ rfl ?_; (focus ((repeat ((conv => arg 1; whnf); first | exact Tels.nil | apply Tels.cons | apply Tel.aggs | apply Tel.tups | exact Tel.refl _ | exact Tel.nil1 _ | exact Tel.cap _ _ _ _)); done))); ((conv => whnf); repeat ((first | refine Wo ?_ | refine Lt (by decide) ?_ | refine Lf (by decide) ?_ | refine Cl (by decide) ?_ | refine Cr (by decide) ?_ | refine ⟨_, rfl, ?_⟩ | refine Mi rfl ?_); (conv => whnf))))
  ((conv => whnf); ((repeat ((conv => arg 1; whnf); first | exact Tels.nil | apply Tels.cons | apply Tel.aggs | apply Tel.tups | exact Tel.refl _ | exact Tel.nil1 _ | exact Tel.cap _ _ _ _)); done))
theorem lt_runs : Runs Tryz.prog 82 [sD (numS x), sD (numS y)] (eD (numS (b01 (decide (x < y))), 0)) := by
  have h1 := cmp_yes hx hy
  have h2 := cmp_lt x y
  have h3 := stold_runs (decide (x < y))
  rw [stold_num] at h3
  refine Runs.wp Go.Proofs.YtjldjhlccedkbaaGreatDoor.Am.hT Go.Proofs.YtjldjhlccedkbaaGreatDoor.Am.hm Tryz.func82 rfl (by decide) ⟨[], [0, 1, 4, 5], 11⟩ ?_; ((conv => whnf); repeat ((first | refine Wo ?_ | refine Lt (by decide) ?_ | refine Lf (by decide) ?_ | refine Cl (by decide) ?_ | refine Cr (by decide) ?_ | refine ⟨_, rfl, ?_⟩ | refine Mi rfl ?_); (conv => whnf)))
  ((conv => whnf); (refine Hc.flat h1 ?_ rfl ?_; (focus ((repeat ((conv => arg 1; whnf); first | exact Tels.nil | apply Tels.cons | apply Tel.aggs | apply Tel.tups | exact Tel.refl _ | exact Tel.nil1 _ | exact Tel.cap _ _ _ _)); done))); ((conv => whnf); repeat ((first | refine Wo ?_ | refine Lt (by decide) ?_ | refine Lf (by decide) ?_ | refine Cl (by decide) ?_ | refine Cr (by decide) ?_ | refine ⟨_, rfl, ?_⟩ | refine Mi rfl ?_); (conv => whnf))))
  refine litE h2 ?_
  ((conv => whnf); repeat ((first | refine Wo ?_ | refine Lt (by decide) ?_ | refine Lf (by decide) ?_ | refine Cl (by decide) ?_ | refine Cr (by decide) ?_ | refine ⟨_, rfl, ?_⟩ | refine Mi rfl ?_); (conv => whnf)))
  ((conv => whnf); (refine Hc.flat h3 ?_ rfl ?_; (focus ((repeat ((conv => arg 1; whnf); first | exact Tels.nil | apply Tels.cons | apply Tel.aggs | apply Tel.tups | exact Tel.refl _ | exact Tel.nil1 _ | exact Tel.cap _ _ _ _)); done))); ((conv => whnf); repeat ((first | refine Wo ?_ | refine Lt (by decide) ?_ | refine Lf (by decide) ?_ | refine Cl (by decide) ?_ | refine Cr (by decide) ?_ | refine ⟨_, rfl, ?_⟩ | refine Mi rfl ?_); (conv => whnf))))
  ((conv => whnf); ((repeat ((conv => arg 1; whnf); first | exact Tels.nil | apply Tels.cons | apply Tel.aggs | apply Tel.tups | exact Tel.refl _ | exact Tel.nil1 _ | exact Tel.cap _ _ _ _)); done))
theorem gt_runs : Runs Tryz.prog 84 [sD (numS x), sD (numS y)] (eD (numS (b01 (decide (y < x))), 0)) := by
  have h1 := cmp_yes hx hy
  have h2 := cmp_gt x y
  have h3 := stold_runs (decide (y < x))
  rw [stold_num] at h3
  refine Runs.wp Go.Proofs.YtjldjhlccedkbaaGreatDoor.Am.hT Go.Proofs.YtjldjhlccedkbaaGreatDoor.Am.hm Tryz.func84 rfl (by decide) ⟨[], [0, 1, 4, 5], 11⟩ ?_; ((conv => whnf); repeat ((first | refine Wo ?_ | refine Lt (by decide) ?_ | refine Lf (by decide) ?_ | refine Cl (by decide) ?_ | refine Cr (by decide) ?_ | refine ⟨_, rfl, ?_⟩ | refine Mi rfl ?_); (conv => whnf)))
  ((conv => whnf); (refine Hc.flat h1 ?_ rfl ?_; (focus ((repeat ((conv => arg 1; whnf); first | exact Tels.nil | apply Tels.cons | apply Tel.aggs | apply Tel.tups | exact Tel.refl _ | exact Tel.nil1 _ | exact Tel.cap _ _ _ _)); done))); ((conv => whnf); repeat ((first | refine Wo ?_ | refine Lt (by decide) ?_ | refine Lf (by decide) ?_ | refine Cl (by decide) ?_ | refine Cr (by decide) ?_ | refine ⟨_, rfl, ?_⟩ | refine Mi rfl ?_); (conv => whnf))))
  refine litE h2 ?_
  ((conv => whnf); repeat ((first | refine Wo ?_ | refine Lt (by decide) ?_ | refine Lf (by decide) ?_ | refine Cl (by decide) ?_ | refine Cr (by decide) ?_ | refine ⟨_, rfl, ?_⟩ | refine Mi rfl ?_); (conv => whnf)))
  ((conv => whnf); (refine Hc.flat h3 ?_ rfl ?_; (focus ((repeat ((conv => arg 1; whnf); first | exact Tels.nil | apply Tels.cons | apply Tel.aggs | apply Tel.tups | exact Tel.refl _ | exact Tel.nil1 _ | exact Tel.cap _ _ _ _)); done))); ((conv => whnf); repeat ((first | refine Wo ?_ | refine Lt (by decide) ?_ | refine Lf (by decide) ?_ | refine Cl (by decide) ?_ | refine Cr (by decide) ?_ | refine ⟨_, rfl, ?_⟩ | refine Mi rfl ?_); (conv => whnf))))
  ((conv => whnf); ((repeat ((conv => arg 1; whnf); first | exact Tels.nil | apply Tels.cons | apply Tel.aggs | apply Tel.tups | exact Tel.refl _ | exact Tel.nil1 _ | exact Tel.cap _ _ _ _)); done))
omit hx hy in
theorem eq_runs : Runs Tryz.prog 85 [sD (numS x), sD (numS y)] (eD (numS (b01 (decide (x = y))), 0)) := by
  have h2 := num_eqb x y
  have h3 := stold_runs (decide (x = y))
  rw [stold_num] at h3
  refine Runs.wp Go.Proofs.YtjldjhlccedkbaaGreatDoor.Am.hT Go.Proofs.YtjldjhlccedkbaaGreatDoor.Am.hm Tryz.func85 rfl (by decide) ⟨[], [0, 1, 4, 5], 10⟩ ?_; ((conv => whnf); repeat ((first | refine Wo ?_ | refine Lt (by decide) ?_ | refine Lf (by decide) ?_ | refine Cl (by decide) ?_ | refine Cr (by decide) ?_ | refine ⟨_, rfl, ?_⟩ | refine Mi rfl ?_); (conv => whnf)))
  refine litE h2 ?_
  ((conv => whnf); repeat ((first | refine Wo ?_ | refine Lt (by decide) ?_ | refine Lf (by decide) ?_ | refine Cl (by decide) ?_ | refine Cr (by decide) ?_ | refine ⟨_, rfl, ?_⟩ | refine Mi rfl ?_); (conv => whnf)))
  ((conv => whnf); (refine Hc.flat h3 ?_ rfl ?_; (focus ((repeat ((conv => arg 1; whnf); first | exact Tels.nil | apply Tels.cons | apply Tel.aggs | apply Tel.tups | exact Tel.refl _ | exact Tel.nil1 _ | exact Tel.cap _ _ _ _)); done))); ((conv => whnf); repeat ((first | refine Wo ?_ | refine Lt (by decide) ?_ | refine Lf (by decide) ?_ | refine Cl (by decide) ?_ | refine Cr (by decide) ?_ | refine ⟨_, rfl, ?_⟩ | refine Mi rfl ?_); (conv => whnf))))
  ((conv => whnf); ((repeat ((conv => arg 1; whnf); first | exact Tels.nil | apply Tels.cons | apply Tel.aggs | apply Tel.tups | exact Tel.refl _ | exact Tel.nil1 _ | exact Tel.cap _ _ _ _)); done))
omit hx hy in
theorem ne_runs : Runs Tryz.prog 86 [sD (numS x), sD (numS y)] (eD (numS (b01 (!decide (x = y))), 0)) := by
  have h2 := show (!((numS x).toList == (numS y).toList)) = !decide (x = y) by rw [num_eqb]
  have h3 := stold_runs (!decide (x = y))
  rw [stold_num] at h3
  refine Runs.wp Go.Proofs.YtjldjhlccedkbaaGreatDoor.Am.hT Go.Proofs.YtjldjhlccedkbaaGreatDoor.Am.hm Tryz.func86 rfl (by decide) ⟨[], [0, 1, 4, 5], 10⟩ ?_; ((conv => whnf); repeat ((first | refine Wo ?_ | refine Lt (by decide) ?_ | refine Lf (by decide) ?_ | refine Cl (by decide) ?_ | refine Cr (by decide) ?_ | refine ⟨_, rfl, ?_⟩ | refine Mi rfl ?_); (conv => whnf)))
  refine litE h2 ?_
  ((conv => whnf); repeat ((first | refine Wo ?_ | refine Lt (by decide) ?_ | refine Lf (by decide) ?_ | refine Cl (by decide) ?_ | refine Cr (by decide) ?_ | refine ⟨_, rfl, ?_⟩ | refine Mi rfl ?_); (conv => whnf)))
  ((conv => whnf); (refine Hc.flat h3 ?_ rfl ?_; (focus ((repeat ((conv => arg 1; whnf); first | exact Tels.nil | apply Tels.cons | apply Tel.aggs | apply Tel.tups | exact Tel.refl _ | exact Tel.nil1 _ | exact Tel.cap _ _ _ _)); done))); ((conv => whnf); repeat ((first | refine Wo ?_ | refine Lt (by decide) ?_ | refine Lf (by decide) ?_ | refine Cl (by decide) ?_ | refine Cr (by decide) ?_ | refine ⟨_, rfl, ?_⟩ | refine Mi rfl ?_); (conv => whnf))))
  ((conv => whnf); ((repeat ((conv => arg 1; whnf); first | exact Tels.nil | apply Tels.cons | apply Tel.aggs | apply Tel.tups | exact Tel.refl _ | exact Tel.nil1 _ | exact Tel.cap _ _ _ _)); done))
omit hy
theorem mneg_runs : Runs Tryz.prog 115 [sD (numS x)] (sD (numS (-x))) := neg_yes hx
omit hx in
theorem mnot_runs : Runs Tryz.prog 116 [sD (numS x)] (sD (numS (b01 (decide (x = 0))))) := by
  have h2 := zS_b x
  have h3 := stold_runs (decide (x = 0))
  rw [stold_num] at h3
  refine Runs.wp Go.Proofs.YtjldjhlccedkbaaGreatDoor.Am.hT Go.Proofs.YtjldjhlccedkbaaGreatDoor.Am.hm Tryz.func116 rfl (by decide) ⟨[], [0, 2], 6⟩ ?_; ((conv => whnf); repeat ((first | refine Wo ?_ | refine Lt (by decide) ?_ | refine Lf (by decide) ?_ | refine Cl (by decide) ?_ | refine Cr (by decide) ?_ | refine ⟨_, rfl, ?_⟩ | refine Mi rfl ?_); (conv => whnf)))
  refine litE h2 ?_
  ((conv => whnf); repeat ((first | refine Wo ?_ | refine Lt (by decide) ?_ | refine Lf (by decide) ?_ | refine Cl (by decide) ?_ | refine Cr (by decide) ?_ | refine ⟨_, rfl, ?_⟩ | refine Mi rfl ?_); (conv => whnf)))
  ((conv => whnf); (refine Hc.flat h3 ?_ rfl ?_; (focus ((repeat ((conv => arg 1; whnf); first | exact Tels.nil | apply Tels.cons | apply Tel.aggs | apply Tel.tups | exact Tel.refl _ | exact Tel.nil1 _ | exact Tel.cap _ _ _ _)); done))); ((conv => whnf); repeat ((first | refine Wo ?_ | refine Lt (by decide) ?_ | refine Lf (by decide) ?_ | refine Cl (by decide) ?_ | refine Cr (by decide) ?_ | refine ⟨_, rfl, ?_⟩ | refine Mi rfl ?_); (conv => whnf))))
  ((conv => whnf); ((repeat ((conv => arg 1; whnf); first | exact Tels.nil | apply Tels.cons | apply Tel.aggs | apply Tel.tups | exact Tel.refl _ | exact Tel.nil1 _ | exact Tel.cap _ _ _ _)); done))
theorem msgn_runs : Runs Tryz.prog 117 [sD (numS x)] (sD (numS (sgn x))) := by
  have h1 := sign_yes hx
  have hb : -1 ≤ sgn x ∧ sgn x ≤ 1 := by unfold sgn; split <;> (try split) <;> omega
  have h3 := of_runs (sgn x) (by omega) (by omega)
  have hw : IntKind.i64.wrap (sgn x) = sgn x := i64w (by omega) (by omega)
  refine Runs.wp Go.Proofs.YtjldjhlccedkbaaGreatDoor.Am.hT Go.Proofs.YtjldjhlccedkbaaGreatDoor.Am.hm Tryz.func117 rfl (by decide) ⟨[], [0, 2], 6⟩ ?_; ((conv => whnf); repeat ((first | refine Wo ?_ | refine Lt (by decide) ?_ | refine Lf (by decide) ?_ | refine Cl (by decide) ?_ | refine Cr (by decide) ?_ | refine ⟨_, rfl, ?_⟩ | refine Mi rfl ?_); (conv => whnf)))
  ((conv => whnf); (refine Hc.flat h1 ?_ rfl ?_; (focus ((repeat ((conv => arg 1; whnf); first | exact Tels.nil | apply Tels.cons | apply Tel.aggs | apply Tel.tups | exact Tel.refl _ | exact Tel.nil1 _ | exact Tel.cap _ _ _ _)); done))); ((conv => whnf); repeat ((first | refine Wo ?_ | refine Lt (by decide) ?_ | refine Lf (by decide) ?_ | refine Cl (by decide) ?_ | refine Cr (by decide) ?_ | refine ⟨_, rfl, ?_⟩ | refine Mi rfl ?_); (conv => whnf))))
  ((conv => whnf); (refine Hc.flat h3 ?_ rfl ?_; (focus ((repeat ((conv => arg 1; whnf); first | exact Tels.nil | apply Tels.cons | apply Tel.aggs | apply Tel.tups | exact Tel.refl _ | exact Tel.nil1 _ | exact Tel.cap _ _ _ _)); done))); ((conv => whnf); repeat ((first | refine Wo ?_ | refine Lt (by decide) ?_ | refine Lf (by decide) ?_ | refine Cl (by decide) ?_ | refine Cr (by decide) ?_ | refine ⟨_, rfl, ?_⟩ | refine Mi rfl ?_); (conv => whnf))))
  ((conv => whnf); ((repeat ((conv => arg 1; whnf); first | exact Tels.nil | apply Tels.cons | apply Tel.aggs | apply Tel.tups | exact Tel.refl _ | exact Tel.nil1 _ | exact Tel.cap _ _ _ _)); done))
end
end Go.Proofs.YtjldjhlccedkbaaGreatDoor.Am
end
section
/- scalar.Dyad, at every sign. -/
namespace Go.Proofs.YtjldjhlccedkbaaGreatDoor.Am
open Go Go.Lib Go.RowKit Go.Proofs.YtjldjhlccedkbaaGreatDoor.Nm Go.Proofs.YtjldjhlccedkbaaGreatDoorW.PrintWords Go.Proofs.YtjldjhlccedkbaaGreatDoor
set_option linter.unusedVariables false
set_option linter.unusedSimpArgs false
set_option maxRecDepth 100000
set_option maxHeartbeats 8000000
theorem mayB_num {x : Int} (h : Nm.Sm x) : mayB (numS x) = true := by
  unfold mayB numS
  rw [ba_data]
  exact may_num x h
theorem num_mayB {b : ByteArray} (h : mayB b = true) : ∃ x, b = numS x ∧ Nm.Sm x := by
  obtain ⟨z, h1, h2⟩ := num_of_may _ h
  exact ⟨z, by unfold numS; rw [← h1], h2⟩
def sd (op a b : ByteArray) : ByteArray × Int := dyZ (op.data.toList.headD 0) (zB a) (zB b)
theorem sd_num (c : UInt8) (x y : Int) : sd ⟨#[c]⟩ (numS x) (numS y) = dyZ c x y := by
  unfold sd
  rw [zB_num, zB_num]
  rfl
theorem sg_dy {op : ByteArray} (h : sgB dyS op = true) : ∃ c, op = ⟨#[c]⟩ ∧ c ∈ ([43, 45, 42, 37, 33, 38, 124, 60, 62, 61, 126] : List UInt8) := by
  unfold sgB at h
  split at h
  · rename_i c hc
    exact ⟨c, by rw [ba_of op, hc], by simpa [dyS] using h⟩
  · cases h
theorem dyZ_runs {x y : Int} (hx : Nm.Sm x) (hy : Nm.Sm y) {c : UInt8} (hc : c ∈ ([43, 45, 42, 37, 33, 38, 124, 60, 62, 61, 126] : List UInt8)) : Runs Tryz.prog 31 [sD ⟨#[c]⟩, sD (numS x), sD (numS y)] (eD (dyZ c x y)) := by
  have m1 := mayZ hx
  have m2 := mayZ hy
  simp only [List.mem_cons, List.not_mem_nil, or_false] at hc
  rcases hc with rfl | rfl | rfl | rfl | rfl | rfl | rfl | rfl | rfl | rfl | rfl
  · exact sc_add m1 m2 (add_yes hx hy)
  · exact sc_sub m1 m2 (sub_yes hx hy)
  · exact sc_mul m1 m2 (mul_yes hx hy)
  · show Runs Tryz.prog 31 _ (eD (if y = 0 then (BA [], 5) else Nm.told (fl x y)))
    by_cases h0 : y = 0
    · subst h0
      rw [if_pos rfl]
      exact sc_div m1 m2 (div_zero hx)
    · rw [if_neg h0]
      exact sc_div m1 m2 (div_yes hx hy h0)
  · show Runs Tryz.prog 31 _ (eD (if y = 0 then (BA [], 5) else Nm.told (fm x y)))
    by_cases h0 : y = 0
    · subst h0
      rw [if_pos rfl]
      exact sc_mod m1 m2 (mod_zero hx)
    · rw [if_neg h0]
      exact sc_mod m1 m2 (mod_yes hx hy h0)
  · exact sc_min m1 m2 (min_runs hx hy)
  · exact sc_max m1 m2 (max_runs hx hy)
  · exact sc_lt m1 m2 (lt_runs hx hy)
  · exact sc_gt m1 m2 (gt_runs hx hy)
  · exact sc_eq m1 m2 eq_runs
  · exact sc_ne m1 m2 ne_runs
theorem sd_runs {op a b : ByteArray} (ho : sgB dyS op = true) (ha : mayB a = true) (hb : mayB b = true) : Runs Tryz.prog 31 [sD op, sD a, sD b] (eD (sd op a b)) := by
  obtain ⟨c, rfl, hc⟩ := sg_dy ho
  obtain ⟨x, rfl, hx⟩ := num_mayB ha
  obtain ⟨y, rfl, hy⟩ := num_mayB hb
  rw [sd_num]
  exact dyZ_runs hx hy hc
/-! ### one number -/
def moS : ByteArray := ⟨#[45, 126, 42]⟩
def moZ (c : UInt8) (x : Int) : ByteArray := if c = 45 then numS (-x) else if c = 126 then numS (b01 (decide (x = 0))) else numS (sgn x)
def smo (op a : ByteArray) : ByteArray := moZ (op.data.toList.headD 0) (zB a)
theorem monads_runs : Runs Tryz.prog 60 [] (sD moS) := by
  refine Runs.wp Go.Proofs.YtjldjhlccedkbaaGreatDoor.Am.hT Go.Proofs.YtjldjhlccedkbaaGreatDoor.Am.hm Tryz.func60 rfl (by decide) ⟨[], [0], 1⟩ ?_; ((conv => whnf); repeat ((first | refine Wo ?_ | refine Lt (by decide) ?_ | refine Lf (by decide) ?_ | refine Cl (by decide) ?_ | refine Cr (by decide) ?_ | refine ⟨_, rfl, ?_⟩ | refine Mi rfl ?_); (conv => whnf)))
  ((conv => whnf); ((repeat ((conv => arg 1; whnf); first | exact Tels.nil | apply Tels.cons | apply Tel.aggs | apply Tel.tups | exact Tel.refl _ | exact Tel.nil1 _ | exact Tel.cap _ _ _ _)); done))
theorem smo_num (c : UInt8) (x : Int) : smo ⟨#[c]⟩ (numS x) = moZ c x := by
  unfold smo
  rw [zB_num]
  rfl
theorem smo_runs {op a : ByteArray} (ho : sgB moS op = true) (ha : mayB a = true) : Runs Tryz.prog 62 [sD op, sD a] (eD (smo op a, 0)) := by
  obtain ⟨x, rfl, hx⟩ := num_mayB ha
  have m1 := mayZ hx
  unfold sgB at ho
  split at ho
  · rename_i c hc
    have hc2 : c ∈ ([45, 126, 42] : List UInt8) := by simpa [moS] using ho
    rw [show op = ⟨#[c]⟩ by rw [ba_of op, hc], smo_num]
    simp only [List.mem_cons, List.not_mem_nil, or_false] at hc2
    rcases hc2 with rfl | rfl | rfl
    · exact sm_neg_runs m1 (mneg_runs hx)
    · exact sm_not_runs m1 mnot_runs
    · exact sm_sgn_runs m1 (msgn_runs hx)
  · cases ho
end Go.Proofs.YtjldjhlccedkbaaGreatDoor.Am
end
section
/- spread.Dyad, told whole. -/
namespace Go.Proofs.YtjldjhlccedkbaaGreatDoor.Am
open Go Go.RowKit Go.Proofs.YtjldjhlccedkbaaGreatDoor.Sh
set_option linter.unusedVariables false
set_option linter.unusedSimpArgs false
set_option maxRecDepth 100000
set_option maxHeartbeats 8000000
theorem good_iff {s : List Int} {e : List ByteArray} : good s e = true ↔ sizeS s = ((e.length : Int), 0) ∧ ∀ b ∈ e, mayB b = true := by
  unfold good
  generalize sizeS s = q
  obtain ⟨n, x⟩ := q
  simp only [Bool.and_eq_true, decide_eq_true_eq, List.all_eq_true, Prod.mk.injEq]
  constructor
  · rintro ⟨⟨h1, h2⟩, h3⟩
    exact ⟨⟨h2.symm, h1⟩, h3⟩
  · rintro ⟨⟨h1, h2⟩, h3⟩
    exact ⟨⟨h2, h1.symm⟩, h3⟩
theorem good_size {s : List Int} {e : List ByteArray} (h : good s e = true) : sizeS s = ((e.length : Int), 0) := (good_iff.1 h).1
theorem good_all {s : List Int} {e : List ByteArray} (h : good s e = true) : ∀ b ∈ e, mayB b = true := (good_iff.1 h).2
theorem good_rank {s : List Int} {e : List ByteArray} (h : good s e = true) : s.length ≤ 3 := (size_ok (good_size h)).1
theorem good_few {s : List Int} {e : List ByteArray} (h : good s e = true) : e.length ≤ 4096 := by
  rcases (size_ok (good_size h)).2.2 with ⟨_, h⟩ | ⟨_, _, _, h⟩ <;> omega
theorem atS_mem {s : List Int} {e : List ByteArray} {i : Nat} (h0 : s = [] → 0 < e.length) (h1 : s ≠ [] → i < e.length) : atS s e i ∈ e := by
  unfold atS
  by_cases h : s = []
  · rw [if_pos h, List.getD_eq_getElem?_getD, List.getElem?_eq_getElem (h0 h)]
    exact List.getElem_mem _
  · rw [if_neg h, List.getD_eq_getElem?_getD, List.getElem?_eq_getElem (h1 h)]
    exact List.getElem_mem _
/-- what two arrays are together -/
def dyR (op : ByteArray) (s1 : List Int) (e1 : List ByteArray) (s2 : List Int) (e2 : List ByteArray) (i : Nat) : ByteArray × Int := sd op (atS s1 e1 i) (atS s2 e2 i)
def dyN (s1 s2 : List Int) : Nat := (sizeS (meetS s1 s2).1).1.toNat
def dyO (op : ByteArray) (s1 : List Int) (e1 : List ByteArray) (s2 : List Int) (e2 : List ByteArray) : (List Int × List ByteArray) × Int :=
  if good s1 e1 = true ∧ good s2 e2 = true ∧ sgB dyS op = true then
    if (meetS s1 s2).2 = 0 then
      match (List.range (dyN s1 s2)).find? (fun i => decide ((dyR op s1 e1 s2 e2 i).2 ≠ 0)) with
      | some z => (([], []), (dyR op s1 e1 s2 e2 z).2)
      | none => (((meetS s1 s2).1, (List.range (dyN s1 s2)).map fun i => (dyR op s1 e1 s2 e2 i).1), 0)
    else (([], []), (meetS s1 s2).2)
  else (([], []), 1)
theorem meet_ok {s1 s2 : List Int} {e1 e2 : List ByteArray} (g1 : good s1 e1 = true) (g2 : good s2 e2 = true) (hm : (meetS s1 s2).2 = 0) :
    sizeS (meetS s1 s2).1 = ((dyN s1 s2 : Int), 0) ∧ dyN s1 s2 ≤ 4096 ∧ (∀ i, i < dyN s1 s2 → (s1 = [] → 0 < e1.length) ∧ (s1 ≠ [] → i < e1.length)) ∧ (∀ i, i < dyN s1 s2 → (s2 = [] → 0 < e2.length) ∧ (s2 ≠ [] → i < e2.length)) ∧ ((meetS s1 s2).1 = s1 ∧ dyN s1 s2 = e1.length ∨ (meetS s1 s2).1 = s2 ∧ dyN s1 s2 = e2.length) := by
  have z1 := good_size g1
  have z2 := good_size g2
  have f1 := good_few g1
  have f2 := good_few g2
  have hnil : ∀ {s : List Int} {e : List ByteArray}, sizeS s = ((e.length : Int), 0) → s = [] → 0 < e.length := fun {s e} h hs => by
    subst hs
    have h0 : sizeS [] = (1, 0) := by decide
    rw [h0] at h
    have := congrArg Prod.fst h
    simp only at this
    omega
  have n1 := hnil z1
  have n2 := hnil z2
  unfold dyN
  unfold meetS at hm ⊢
  split at hm
  · rename_i hc
    rw [if_pos hc]
    simp only [z1]
    refine ⟨by simp, by simpa using f1, fun i hi => ⟨n1, fun _ => by simpa using hi⟩, fun i hi => ⟨n2, fun hne => ?_⟩, .inl ⟨by simp, by simp⟩⟩
    rcases hc with rfl | hc
    · rw [z1] at z2
      have := congrArg Prod.fst z2
      simp only at this
      simp only [Int.toNat_natCast] at hi
      omega
    · exact absurd hc hne
  · rename_i hc
    split at hm
    · rename_i ha
      rw [if_neg hc, if_pos ha]
      simp only [z2]
      exact ⟨by simp, by simpa using f2, fun i hi => ⟨n1, fun hne => absurd ha hne⟩, fun i hi => ⟨n2, fun _ => by simpa using hi⟩, .inr ⟨by simp, by simp⟩⟩
    · simp at hm
theorem dyad_runs (op : ByteArray) (s1 : List Int) (e1 : List ByteArray) (s2 : List Int) (e2 : List ByteArray) (l1 : s1.length ≤ 9223372036854775807) (l2 : s2.length ≤ 9223372036854775807) (j1 : e1.length ≤ 9223372036854775807) (j2 : e2.length ≤ 9223372036854775807) :
    Runs Tryz.prog 16 [sD op, vD s1 e1 none none, vD s2 e2 none none] (.tup [vD (dyO op s1 e1 s2 e2).1.1 (dyO op s1 e1 s2 e2).1.2 none none, iD (dyO op s1 e1 s2 e2).2]) := by
  have m1 := vmay_runs s1 e1 (by omega) (by omega)
  have m2 := vmay_runs s2 e2 (by omega) (by omega)
  have o := ops_runs op
  unfold dyO
  cases g1 : good s1 e1 with
  | false => rw [g1] at m1; rw [if_neg (by simp)]; exact dyad_no1 m1
  | true =>
    cases g2 : good s2 e2 with
    | false => rw [g1] at m1; rw [g2] at m2; rw [if_neg (by simp)]; exact dyad_no2 m1 m2
    | true =>
      cases ho : sgB dyS op with
      | false => rw [g1] at m1; rw [g2] at m2; rw [ho] at o; rw [if_neg (by simp)]; exact dyad_no3 m1 m2 o
      | true =>
        rw [g1] at m1
        rw [g2] at m2
        rw [ho] at o
        rw [if_pos ⟨rfl, rfl, rfl⟩]
        have r1 := good_rank g1
        have r2 := good_rank g2
        have hme := meet_runs s1 s2 (by omega) (by omega)
        by_cases hm : (meetS s1 s2).2 = 0
        · rw [if_pos hm]
          obtain ⟨k1, k2, k3, k4, k5⟩ := meet_ok g1 g2 hm
          rw [hm] at hme
          have hsz := size_runs (meetS s1 s2).1 (by rcases k5 with ⟨h, _⟩ | ⟨h, _⟩ <;> rw [h] <;> omega)
          rw [k1] at hsz
          have run := fun {z : Nat} {res : D} => dyad_run (z := z) (res := res) (r := dyR op s1 e1 s2 e2) m1 m2 o hme hsz (fun i hi => elem_runs (k3 i hi).1 (k3 i hi).2) (fun i hi => elem_runs (k4 i hi).1 (k4 i hi).2) (fun i hi => sd_runs ho (good_all g1 _ (atS_mem (k3 i hi).1 (k3 i hi).2)) (good_all g2 _ (atS_mem (k4 i hi).1 (k4 i hi).2))) (by omega)
          split
          · rename_i z hz
            rw [List.find?_eq_some_iff_append] at hz
            obtain ⟨hzb, l0, l3, hz1, hz2⟩ := hz
            have hlen : l0.length = z := by
              have := congrArg (fun l => l[l0.length]?) hz1
              simp only [List.getElem?_append_right (Nat.le_refl _), Nat.sub_self, List.getElem?_cons_zero] at this
              have h2 := (List.getElem?_eq_some_iff.1 this).2
              simpa using h2
            have hzn : z < dyN s1 s2 := by
              have := congrArg List.length hz1
              simp only [List.length_range, List.length_append, List.length_cons] at this
              omega
            refine run (z := z) (fun i hi => ?_) (.inr ⟨hzn, by simpa using hzb, rfl⟩)
            have hmem : i ∈ l0 := by
              have h3 : (List.range (dyN s1 s2))[i]? = some i := by simp [show i < dyN s1 s2 by omega]
              rw [hz1, List.getElem?_append_left (by omega)] at h3
              exact List.mem_of_getElem? h3
            simpa using hz2 i hmem
          · rename_i hz
            rw [List.find?_eq_none] at hz
            refine (run (z := dyN s1 s2) (fun i hi => by simpa using hz i (List.mem_range.2 hi)) (.inl ⟨rfl, rfl⟩)).tel (Tels.refl _) ?_
            have : rS ((List.range (dyN s1 s2)).map fun i => (dyR op s1 e1 s2 e2 i).1) none = .sl 1 ((List.range (dyN s1 s2)).map fun j => sD (dyR op s1 e1 s2 e2 j).1) (dyN s1 s2) none := by simp [List.map_map, Function.comp_def]
            show Tel _ (.tup [.agg [rI (meetS s1 s2).1 none, rS ((List.range (dyN s1 s2)).map fun i => (dyR op s1 e1 s2 e2 i).1) none], iD 0])
            rw [this]
            exact .refl _
        · rw [if_neg hm]
          exact dyad_no4 hm m1 m2 o hme
end Go.Proofs.YtjldjhlccedkbaaGreatDoor.Am
end
section
/- spread.Monad. -/
namespace Go.Proofs.YtjldjhlccedkbaaGreatDoor.Am
open Go Go.RowKit Go.Proofs.YtjldjhlccedkbaaGreatDoor.Sh
set_option linter.unusedVariables false
set_option linter.unusedSimpArgs false
set_option maxRecDepth 100000
set_option maxHeartbeats 8000000
section
variable {op : ByteArray} {s : List Int} {e : List ByteArray}
theorem monad_no1 (h1 : Runs Tryz.prog 15 [vD s e none none] (bD false)) : Runs Tryz.prog 21 [sD op, vD s e none none] (.tup [vD [] [] none none, iD 1]) := by
  refine Runs.wp Go.Proofs.YtjldjhlccedkbaaGreatDoor.Am.hT Go.Proofs.YtjldjhlccedkbaaGreatDoor.Am.hm Tryz.func21 rfl (by decide) ⟨[], [0, 1, 3, 4, 5, 6, 8, 9, 19, 26, 27, 28, 29], 46⟩ ?_; ((conv => whnf); repeat ((first | refine Wo ?_ | refine Lt (by decide) ?_ | refine Lf (by decide) ?_ | refine Cl (by decide) ?_ | refine Cr (by decide) ?_ | refine ⟨_, rfl, ?_⟩ | refine Mi rfl ?_); (conv => whnf)))
  ((conv => whnf); (refine Hc.flat h1 ?_ rfl ?_; (focus ((repeat ((conv => arg 1; whnf); first | exact Tels.nil | apply Tels.cons | apply Tel.aggs | apply Tel.tups | exact Tel.refl _ | exact Tel.nil1 _ | exact Tel.cap _ _ _ _)); done))); ((conv => whnf); repeat ((first | refine Wo ?_ | refine Lt (by decide) ?_ | refine Lf (by decide) ?_ | refine Cl (by decide) ?_ | refine Cr (by decide) ?_ | refine ⟨_, rfl, ?_⟩ | refine Mi rfl ?_); (conv => whnf))))
  ((conv => whnf); ((repeat ((conv => arg 1; whnf); first | exact Tels.nil | apply Tels.cons | apply Tel.aggs | apply Tel.tups | exact Tel.refl _ | exact Tel.nil1 _ | exact Tel.cap _ _ _ _)); done))
theorem monad_no2 (h1 : Runs Tryz.prog 15 [vD s e none none] (bD true)) (h3 : Runs Tryz.prog 59 [sD op, sD moS] (bD false)) : Runs Tryz.prog 21 [sD op, vD s e none none] (.tup [vD [] [] none none, iD 1]) := by
  have h2 := monads_runs
  refine Runs.wp Go.Proofs.YtjldjhlccedkbaaGreatDoor.Am.hT Go.Proofs.YtjldjhlccedkbaaGreatDoor.Am.hm Tryz.func21 rfl (by decide) ⟨[], [0, 1, 3, 4, 5, 6, 8, 9, 19, 26, 27, 28, 29], 46⟩ ?_; ((conv => whnf); repeat ((first | refine Wo ?_ | refine Lt (by decide) ?_ | refine Lf (by decide) ?_ | refine Cl (by decide) ?_ | refine Cr (by decide) ?_ | refine ⟨_, rfl, ?_⟩ | refine Mi rfl ?_); (conv => whnf)))
  ((conv => whnf); (refine Hc.flat h1 ?_ rfl ?_; (focus ((repeat ((conv => arg 1; whnf); first | exact Tels.nil | apply Tels.cons | apply Tel.aggs | apply Tel.tups | exact Tel.refl _ | exact Tel.nil1 _ | exact Tel.cap _ _ _ _)); done))); ((conv => whnf); repeat ((first | refine Wo ?_ | refine Lt (by decide) ?_ | refine Lf (by decide) ?_ | refine Cl (by decide) ?_ | refine Cr (by decide) ?_ | refine ⟨_, rfl, ?_⟩ | refine Mi rfl ?_); (conv => whnf))))
  ((conv => whnf); (refine Hc.flat h2 ?_ rfl ?_; (focus ((repeat ((conv => arg 1; whnf); first | exact Tels.nil | apply Tels.cons | apply Tel.aggs | apply Tel.tups | exact Tel.refl _ | exact Tel.nil1 _ | exact Tel.cap _ _ _ _)); done))); ((conv => whnf); repeat ((first | refine Wo ?_ | refine Lt (by decide) ?_ | refine Lf (by decide) ?_ | refine Cl (by decide) ?_ | refine Cr (by decide) ?_ | refine ⟨_, rfl, ?_⟩ | refine Mi rfl ?_); (conv => whnf))))
  ((conv => whnf); (refine Hc.flat h3 ?_ rfl ?_; (focus ((repeat ((conv => arg 1; whnf); first | exact Tels.nil | apply Tels.cons | apply Tel.aggs | apply Tel.tups | exact Tel.refl _ | exact Tel.nil1 _ | exact Tel.cap _ _ _ _)); done))); ((conv => whnf); repeat ((first | refine Wo ?_ | refine Lt (by decide) ?_ | refine Lf (by decide) ?_ | refine Cl (by decide) ?_ | refine Cr (by decide) ?_ | refine ⟨_, rfl, ?_⟩ | refine Mi rfl ?_); (conv => whnf))))
  ((conv => whnf); ((repeat ((conv => arg 1; whnf); first | exact Tels.nil | apply Tels.cons | apply Tel.aggs | apply Tel.tups | exact Tel.refl _ | exact Tel.nil1 _ | exact Tel.cap _ _ _ _)); done))
theorem monad_run {r : ByteArray → ByteArray} (h1 : Runs Tryz.prog 15 [vD s e none none] (bD true)) (h3 : Runs Tryz.prog 59 [sD op, sD moS] (bD true)) (h4 : Runs Tryz.prog 61 [rI s none] (rI s none))
    (h5 : ∀ x ∈ e, Runs Tryz.prog 62 [sD op, sD x] (eD (r x, 0))) (hn : e.length ≤ 4096) : Runs Tryz.prog 21 [sD op, vD s e none none] (.tup [vD s (e.map r) none none, iD 0]) := by
  have h2 := monads_runs
  have hres : (D.tup [.agg [rI s none, .sl 1 ((e.take e.length).map fun x => sD (r x)) e.length none], iD 0]) = .tup [vD s (e.map r) none none, iD 0] := by
    rw [List.take_length]
    simp [vD, List.map_map, Function.comp_def]
  rw [← hres]
  refine Runs.wp Go.Proofs.YtjldjhlccedkbaaGreatDoor.Am.hT Go.Proofs.YtjldjhlccedkbaaGreatDoor.Am.hm Tryz.func21 rfl (by decide) ⟨[], [0, 1, 3, 4, 5, 6, 8, 9, 19, 26, 27, 28, 29], 46⟩ ?_; ((conv => whnf); repeat ((first | refine Wo ?_ | refine Lt (by decide) ?_ | refine Lf (by decide) ?_ | refine Cl (by decide) ?_ | refine Cr (by decide) ?_ | refine ⟨_, rfl, ?_⟩ | refine Mi rfl ?_); (conv => whnf)))
  ((conv => whnf); (refine Hc.flat h1 ?_ rfl ?_; (focus ((repeat ((conv => arg 1; whnf); first | exact Tels.nil | apply Tels.cons | apply Tel.aggs | apply Tel.tups | exact Tel.refl _ | exact Tel.nil1 _ | exact Tel.cap _ _ _ _)); done))); ((conv => whnf); repeat ((first | refine Wo ?_ | refine Lt (by decide) ?_ | refine Lf (by decide) ?_ | refine Cl (by decide) ?_ | refine Cr (by decide) ?_ | refine ⟨_, rfl, ?_⟩ | refine Mi rfl ?_); (conv => whnf))))
  ((conv => whnf); (refine Hc.flat h2 ?_ rfl ?_; (focus ((repeat ((conv => arg 1; whnf); first | exact Tels.nil | apply Tels.cons | apply Tel.aggs | apply Tel.tups | exact Tel.refl _ | exact Tel.nil1 _ | exact Tel.cap _ _ _ _)); done))); ((conv => whnf); repeat ((first | refine Wo ?_ | refine Lt (by decide) ?_ | refine Lf (by decide) ?_ | refine Cl (by decide) ?_ | refine Cr (by decide) ?_ | refine ⟨_, rfl, ?_⟩ | refine Mi rfl ?_); (conv => whnf))))
  ((conv => whnf); (refine Hc.flat h3 ?_ rfl ?_; (focus ((repeat ((conv => arg 1; whnf); first | exact Tels.nil | apply Tels.cons | apply Tel.aggs | apply Tel.tups | exact Tel.refl _ | exact Tel.nil1 _ | exact Tel.cap _ _ _ _)); done))); ((conv => whnf); repeat ((first | refine Wo ?_ | refine Lt (by decide) ?_ | refine Lf (by decide) ?_ | refine Cl (by decide) ?_ | refine Cr (by decide) ?_ | refine ⟨_, rfl, ?_⟩ | refine Mi rfl ?_); (conv => whnf))))
  ((conv => whnf); (refine Hc.runs h4 ?_ ?_; (focus ((repeat ((conv => arg 1; whnf); first | exact Tels.nil | apply Tels.cons | apply Tel.aggs | apply Tel.tups | exact Tel.refl _ | exact Tel.nil1 _ | exact Tel.cap _ _ _ _)); done))); ((conv => whnf); repeat ((first | refine Wo ?_ | refine Lt (by decide) ?_ | refine Lf (by decide) ?_ | refine Cl (by decide) ?_ | refine Cr (by decide) ?_ | refine ⟨_, rfl, ?_⟩ | refine Mi rfl ?_); (conv => whnf))))
  refine loop_ind (fun k (i : Nat) => i + k = e.length + 1 ∧ i ≤ e.length) (fun i => { t := pin [(0, .d (sD op)), (3, .pt 0 0), (4, .pt 1 0), (5, .d (iD 0)), (6, .pt 2 0), (26, .d (rS e none)), (27, .d (iD e.length)), (28, .d (iD i))], N := 46, h := hpin [some (.st 25 [.d (rI s none), .d (rS e none)]), some (.st 25 [.imm (.slice none 0 0), .imm (.slice none 0 0)]), some (.st 25 [.d (rI s none), .bs 3]), some (.ar 9 1 i ((e.take i).map fun x => sD (r x)))], n := 4, lo := 0 }) (fun i h => by omega) ?_ (e.length + 1) 0 ⟨by omega, by omega⟩ _ ?_
  · rintro k i R ih ⟨hk, hi⟩
    by_cases hlt : i < e.length
    · have hix : (e.map sD)[(i : Int).toNat * 1]? = some (sD e[i]) := ixm (j := i) (by simp [hlt]) (by simp)
      have hx := h5 e[i] (List.getElem_mem hlt)
      ((conv => whnf); repeat ((first | refine Wo ?_ | refine Lt (by decide) ?_ | refine Lf (by decide) ?_ | refine Cl (by decide) ?_ | refine Cr (by decide) ?_ | refine ⟨_, rfl, ?_⟩ | refine Mi rfl ?_); (conv => whnf)))
      refine Lt (by simpa using hlt) ?_
      ((conv => whnf); repeat ((first | refine Wo ?_ | refine Lt (by decide) ?_ | refine Lf (by decide) ?_ | refine Cl (by decide) ?_ | refine Cr (by decide) ?_ | refine ⟨_, rfl, ?_⟩ | refine Mi rfl ?_ | (refine And.intro ?_ ?_; focus (first | decide | rfl | assumption | omega | (dsimp only; omega) | (unfold maxLen; omega) | ((try dsimp only [maxLen]); simp only [List.length_append, List.length_cons, List.length_nil, List.length_map, List.length_range, List.length_set, List.length_replicate]; omega) | ((try dsimp only [maxLen]); simp only [IntKind.wrap_i64, IntKind.wrap_u64, List.length_append, List.length_cons, List.length_nil, List.length_map, List.length_range, List.length_set, List.length_replicate]; omega) | ((try dsimp only [maxLen]); simp only [List.length_append, List.length_cons, List.length_nil, List.length_map, List.length_range, List.length_set, List.length_replicate] at *; omega)))); (conv => whnf)))
      ((conv => whnf); refine ⟨_, hix, ?_⟩; ((conv => whnf); repeat ((first | refine Wo ?_ | refine Lt (by decide) ?_ | refine Lf (by decide) ?_ | refine Cl (by decide) ?_ | refine Cr (by decide) ?_ | refine ⟨_, rfl, ?_⟩ | refine Mi rfl ?_); (conv => whnf))))
      ((conv => whnf); (refine Hc.runs hx ?_ ?_; (focus ((repeat ((conv => arg 1; whnf); first | exact Tels.nil | apply Tels.cons | apply Tel.aggs | apply Tel.tups | exact Tel.refl _ | exact Tel.nil1 _ | exact Tel.cap _ _ _ _)); done))); ((conv => whnf); repeat ((first | refine Wo ?_ | refine Lt (by decide) ?_ | refine Lf (by decide) ?_ | refine Cl (by decide) ?_ | refine Cr (by decide) ?_ | refine ⟨_, rfl, ?_⟩ | refine Mi rfl ?_); (conv => whnf))))
      refine ⟨by unfold maxLen; omega, by dsimp only; omega, ?_⟩
      ((conv => whnf); repeat ((first | refine Wo ?_ | refine Lt (by decide) ?_ | refine Lf (by decide) ?_ | refine Cl (by decide) ?_ | refine Cr (by decide) ?_ | refine ⟨_, rfl, ?_⟩ | refine Mi rfl ?_); (conv => whnf)))
      refine ih (i + 1) _ ⟨by omega, by omega⟩ ?_
      (refine Wk.pin [0, 1, 2, 5] _ _ ?_ ?_ rfl rfl (by decide) rfl rfl <;> (repeat' first | exact trivial | rfl | (refine And.intro ?_ ?_)))
      · exact inE (i64n (by simp) (by omega))
      · exact arE (by rw [take_snoc hlt, List.map_append]; rfl) rfl
    · obtain rfl : i = e.length := by omega
      ((conv => whnf); repeat ((first | refine Wo ?_ | refine Lt (by decide) ?_ | refine Lf (by decide) ?_ | refine Cl (by decide) ?_ | refine Cr (by decide) ?_ | refine ⟨_, rfl, ?_⟩ | refine Mi rfl ?_); (conv => whnf)))
      refine Lf (by simp) ?_
      ((conv => whnf); repeat ((first | refine Wo ?_ | refine Lt (by decide) ?_ | refine Lf (by decide) ?_ | refine Cl (by decide) ?_ | refine Cr (by decide) ?_ | refine ⟨_, rfl, ?_⟩ | refine Mi rfl ?_); (conv => whnf)))
      ((conv => whnf); ((repeat ((conv => arg 1; whnf); first | exact Tels.nil | apply Tels.cons | apply Tel.aggs | apply Tel.tups | exact Tel.refl _ | exact Tel.nil1 _ | exact Tel.cap _ _ _ _)); done))
  · refine (Wk.virtB 2 1 9 1 25 _ rfl rfl).trans ?_
    (refine Wk.to _ _ ?_ ?_ <;> (repeat' first | exact trivial | rfl | (refine And.intro ?_ ?_)))
end
/-- what Monad tells -/
def moO (op : ByteArray) (s : List Int) (e : List ByteArray) : (List Int × List ByteArray) × Int :=
  if good s e = true ∧ sgB moS op = true then ((s, e.map (smo op)), 0) else (([], []), 1)
theorem monad_runs (op : ByteArray) (s : List Int) (e : List ByteArray) (l1 : s.length ≤ 9223372036854775807) (j1 : e.length ≤ 9223372036854775807) : Runs Tryz.prog 21 [sD op, vD s e none none] (.tup [vD (moO op s e).1.1 (moO op s e).1.2 none none, iD (moO op s e).2]) := by
  have m1 := vmay_runs s e (by omega) j1
  have o := sign_runs op moS
  unfold moO
  cases g1 : good s e with
  | false => rw [g1] at m1; rw [if_neg (by simp)]; exact monad_no1 m1
  | true =>
    rw [g1] at m1
    cases ho : sgB moS op with
    | false => rw [ho] at o; rw [if_neg (by simp)]; exact monad_no2 m1 o
    | true =>
      rw [ho] at o
      rw [if_pos ⟨rfl, rfl⟩]
      exact monad_run m1 o (cloneI_runs s (by have := good_rank g1; omega)) (fun x hx => smo_runs ho (good_all g1 x hx)) (good_few g1)
end Go.Proofs.YtjldjhlccedkbaaGreatDoor.Am
end
section
/- The statements' head: the document's example; few. -/
namespace Go.Proofs.YtjldjhlccedkbaaGreatDoor.Am
open Go Go.RowKit Go.Proofs.YtjldjhlccedkbaaGreatDoor.Sh
set_option linter.unusedVariables false
set_option linter.unusedSimpArgs false
set_option maxRecDepth 100000
set_option maxHeartbeats 8000000
theorem shown_dy : dyO ⟨#[43]⟩ [3] [⟨#[49]⟩, ⟨#[50]⟩, ⟨#[51]⟩] [] [⟨#[49, 48]⟩] = (([3], [⟨#[49, 49]⟩, ⟨#[49, 50]⟩, ⟨#[49, 51]⟩]), 0) := by
  decide +kernel
theorem shown_runs : Runs Tryz.prog 13 [] (bD true) := by
  have v1 := vector_runs [⟨#[49]⟩, ⟨#[50]⟩, ⟨#[51]⟩] (by decide)
  have v2 := vector_runs [⟨#[49, 49]⟩, ⟨#[49, 50]⟩, ⟨#[49, 51]⟩] (by decide)
  have c1 := scalar_runs ⟨#[49, 48]⟩
  have d := dyad_runs ⟨#[43]⟩ [3] [⟨#[49]⟩, ⟨#[50]⟩, ⟨#[51]⟩] [] [⟨#[49, 48]⟩] (by decide) (by decide) (by decide) (by decide)
  rw [shown_dy] at d
  have sm := vsame_runs [3] [3] [⟨#[49, 49]⟩, ⟨#[49, 50]⟩, ⟨#[49, 51]⟩] [⟨#[49, 49]⟩, ⟨#[49, 50]⟩, ⟨#[49, 51]⟩] (by decide) (by decide) (by decide) (by decide)
  have o1 := ops_runs ⟨#[43]⟩
  have o2 := ops_runs ⟨#[35]⟩
  rw [show sgB dyS ⟨#[43]⟩ = true by decide +kernel] at o1
  rw [show sgB dyS ⟨#[35]⟩ = false by decide +kernel] at o2
  rw [decide_eq_true ⟨rfl, rfl⟩] at sm
  refine Runs.wp Go.Proofs.YtjldjhlccedkbaaGreatDoor.Am.hT Go.Proofs.YtjldjhlccedkbaaGreatDoor.Am.hm Tryz.func13 rfl (by decide) ⟨[(2, .first 0 (.first 1 (.first 2 (.alt 3 (.alt 4 (.alt 5 (.alt 6 (.first 7 (.first 8 (.alt 9 (.first 10 (.first 11 (.alt 12 (.first 13 (.first 14 (.first 15 .done))) .nil))) .nil))) .nil) .nil) .nil) (.alt 4 (.alt 3 (.alt 5 (.alt 6 (.first 7 (.first 8 (.alt 9 (.first 10 (.first 11 (.alt 12 (.first 13 (.first 14 (.first 15 .done))) .nil))) .nil))) .nil) .nil) (.alt 5 (.load 3 [6, 7, 8, 9, 10, 11, 12, 13, 14, 15] (.alt 6 (.first 7 (.first 8 (.alt 9 (.first 10 (.first 11 (.alt 12 (.first 13 (.first 14 (.first 15 .done))) .nil))) .nil))) .nil)) .nil)) .nil)))))], [0, 1, 2], 25⟩ ?_; ((conv => whnf); repeat ((first | refine Wo ?_ | refine Lt (by decide) ?_ | refine Lf (by decide) ?_ | refine Cl (by decide) ?_ | refine Cr (by decide) ?_ | refine ⟨_, rfl, ?_⟩ | refine Mi rfl ?_); (conv => whnf)))
  ((conv => whnf); (refine Hc.runs v1 ?_ ?_; (focus ((repeat ((conv => arg 1; whnf); first | exact Tels.nil | apply Tels.cons | apply Tel.aggs | apply Tel.tups | exact Tel.refl _ | exact Tel.nil1 _ | exact Tel.cap _ _ _ _)); done))); ((conv => whnf); repeat ((first | refine Wo ?_ | refine Lt (by decide) ?_ | refine Lf (by decide) ?_ | refine Cl (by decide) ?_ | refine Cr (by decide) ?_ | refine ⟨_, rfl, ?_⟩ | refine Mi rfl ?_); (conv => whnf))))
  ((conv => whnf); (refine Hc.runs c1 ?_ ?_; (focus ((repeat ((conv => arg 1; whnf); first | exact Tels.nil | apply Tels.cons | apply Tel.aggs | apply Tel.tups | exact Tel.refl _ | exact Tel.nil1 _ | exact Tel.cap _ _ _ _)); done))); ((conv => whnf); repeat ((first | refine Wo ?_ | refine Lt (by decide) ?_ | refine Lf (by decide) ?_ | refine Cl (by decide) ?_ | refine Cr (by decide) ?_ | refine ⟨_, rfl, ?_⟩ | refine Mi rfl ?_); (conv => whnf))))
  ((conv => whnf); (refine Hc.runs d ?_ ?_; (focus ((repeat ((conv => arg 1; whnf); first | exact Tels.nil | apply Tels.cons | apply Tel.aggs | apply Tel.tups | exact Tel.refl _ | exact Tel.nil1 _ | exact Tel.cap _ _ _ _)); done))); ((conv => whnf); repeat ((first | refine Wo ?_ | refine Lt (by decide) ?_ | refine Lf (by decide) ?_ | refine Cl (by decide) ?_ | refine Cr (by decide) ?_ | refine ⟨_, rfl, ?_⟩ | refine Mi rfl ?_); (conv => whnf))))
  (refine And.intro (by decide +kernel) ?_; apply Exists.intro; apply And.intro; focus ((repeat' ((conv => whnf); first | exact trivial | refine Wo ?_ | refine Lt (by decide) ?_ | refine Lf (by decide) ?_ | refine Cl (by decide) ?_ | refine Cr (by decide) ?_ | refine ⟨_, rfl, ?_⟩ | refine Mi rfl ?_ | (first | (refine Hc.runs v2 ?_ ?_; (focus ((repeat ((conv => arg 1; whnf); first | exact Tels.nil | apply Tels.cons | apply Tel.aggs | apply Tel.tups | exact Tel.refl _ | exact Tel.nil1 _ | exact Tel.cap _ _ _ _)); done))) | (refine Hc.flat sm ?_ rfl ?_; (focus ((repeat ((conv => arg 1; whnf); first | exact Tels.nil | apply Tels.cons | apply Tel.aggs | apply Tel.tups | exact Tel.refl _ | exact Tel.nil1 _ | exact Tel.cap _ _ _ _)); done))) | (refine Hc.flat o1 ?_ rfl ?_; (focus ((repeat ((conv => arg 1; whnf); first | exact Tels.nil | apply Tels.cons | apply Tel.aggs | apply Tel.tups | exact Tel.refl _ | exact Tel.nil1 _ | exact Tel.cap _ _ _ _)); done))) | (refine Hc.flat o2 ?_ rfl ?_; (focus ((repeat ((conv => arg 1; whnf); first | exact Tels.nil | apply Tels.cons | apply Tel.aggs | apply Tel.tups | exact Tel.refl _ | exact Tel.nil1 _ | exact Tel.cap _ _ _ _)); done)))) | (refine And.intro ?_ ?_))); all_goals (first | ((conv => whnf); exact Wk.frc (keep := [0, 1, 2]) (N := 25) (by (conv => whnf); first | done | exact rfl)) | (first | decide | rfl | assumption | omega | (dsimp only; omega) | (unfold maxLen; omega) | ((try dsimp only [maxLen]); simp only [List.length_append, List.length_cons, List.length_nil, List.length_map, List.length_range, List.length_set, List.length_replicate]; omega) | ((try dsimp only [maxLen]); simp only [IntKind.wrap_i64, IntKind.wrap_u64, List.length_append, List.length_cons, List.length_nil, List.length_map, List.length_range, List.length_set, List.length_replicate]; omega) | ((try dsimp only [maxLen]); simp only [List.length_append, List.length_cons, List.length_nil, List.length_map, List.length_range, List.length_set, List.length_replicate] at *; omega)))))
  ((conv => whnf); repeat ((first | refine Wo ?_ | refine Lt (by decide) ?_ | refine Lf (by decide) ?_ | refine Cl (by decide) ?_ | refine Cr (by decide) ?_ | refine ⟨_, rfl, ?_⟩ | refine Mi rfl ?_); (conv => whnf)))
  ((conv => whnf); ((repeat ((conv => arg 1; whnf); first | exact Tels.nil | apply Tels.cons | apply Tel.aggs | apply Tel.tups | exact Tel.refl _ | exact Tel.nil1 _ | exact Tel.cap _ _ _ _)); done))
/-- few enough -/
def fewB (s : List Int) (e : List ByteArray) : Bool := (e.take 301).all (fun x => decide (x.size ≤ 120)) && decide (e.length ≤ 300) && decide (s.length ≤ 20)
theorem few_of {s : List Int} {e : List ByteArray} (h : fewB s e = true) : e.length ≤ 300 ∧ s.length ≤ 20 ∧ ∀ x ∈ e, x.size ≤ 120 := by
  unfold fewB at h
  simp only [Bool.and_eq_true, decide_eq_true_eq, List.all_eq_true] at h
  obtain ⟨⟨h1, h2⟩, h3⟩ := h
  rw [List.take_of_length_le (by omega)] at h1
  exact ⟨h2, h3, h1⟩
theorem few_runs (s : List Int) (e : List ByteArray) (hs : s.length ≤ 9223372036854775807) (he : e.length ≤ 9223372036854775807) : Runs Tryz.prog 14 [vD s e none none] (bD (fewB s e)) := by
  refine Runs.wp Go.Proofs.YtjldjhlccedkbaaGreatDoor.Am.hT Go.Proofs.YtjldjhlccedkbaaGreatDoor.Am.hm Tryz.func14 rfl (by decide) ⟨[], [0, 1, 2, 3, 12, 21], 32⟩ ?_; ((conv => whnf); repeat ((first | refine Wo ?_ | refine Lt (by decide) ?_ | refine Lf (by decide) ?_ | refine Cl (by decide) ?_ | refine Cr (by decide) ?_ | refine ⟨_, rfl, ?_⟩ | refine Mi rfl ?_); (conv => whnf)))
  refine loop_ind (fun k (i : Nat) => i + k = 302 ∧ i ≤ e.length ∧ i ≤ 301 ∧ fewB s e = ((((e.take 301).drop i).all (fun x => decide (x.size ≤ 120))) && decide (e.length ≤ 300) && decide (s.length ≤ 20))) (fun i => { t := pin [(1, .pt 0 0), (2, .d (bD false)), (3, .d (iD i))], N := 32, h := hpin [some (.st 25 [.d (rI s none), .d (rS e none)])], n := 1, lo := 0 }) (fun i h => by omega) ?_ 302 0 ⟨by omega, by omega, by omega, rfl⟩ _ ?_
  · rintro k i R ih ⟨hk, hi, hi2, hq⟩
    rw [hq]
    have hend : ¬ (i < e.length ∧ i < 301) → ((((e.take 301).drop i).all (fun x => decide (x.size ≤ 120))) && decide (e.length ≤ 300) && decide (s.length ≤ 20)) = (decide (e.length ≤ 300) && decide (s.length ≤ 20)) := fun h => by
      rw [List.drop_eq_nil_of_le (by rw [List.length_take]; omega)]
      simp
    have g1 : decide (((e.length : Nat) : Int) ≤ 300) = decide (e.length ≤ 300) := by rw [decide_eq_decide]; omega
    have g2 : decide (((s.length : Nat) : Int) ≤ 20) = decide (s.length ≤ 20) := by rw [decide_eq_decide]; omega
    by_cases hl1 : i < e.length
    · have t1 : decide ((i : Int) < (e.length : Int)) = true := by simpa using hl1
      by_cases hl2 : i < 301
      · have t2 : decide ((i : Int) < 301) = true := by rw [decide_eq_true_iff]; omega
        have hlt : i < (e.take 301).length := by rw [List.length_take]; omega
        have hd : (e.take 301).drop i = e[i] :: (e.take 301).drop (i + 1) := by
          rw [List.drop_eq_getElem_cons hlt, List.getElem_take]
        have hix : (e.map sD)[(i : Int).toNat * 1]? = some (sD e[i]) := ixm (j := i) (by simp [hl1]) (by simp)
        rw [hd, List.all_cons] at hq ⊢
        by_cases hb : e[i].size ≤ 120
        · have t3 : decide (((e[i].size : Nat) : Int) > 120) = false := by rw [decide_eq_false_iff_not]; omega
          rw [decide_eq_true hb, Bool.true_and] at hq ⊢
          rw [← hq]
          ((conv => whnf); repeat ((first | refine Wo ?_ | refine Lt (by decide) ?_ | refine Lf (by decide) ?_ | refine Cl (by decide) ?_ | refine Cr (by decide) ?_ | refine ⟨_, rfl, ?_⟩ | refine Mi rfl ?_); (conv => whnf)))
          refine litE t1 ?_
          ((conv => whnf); repeat ((first | refine Wo ?_ | refine Lt (by decide) ?_ | refine Lf (by decide) ?_ | refine Cl (by decide) ?_ | refine Cr (by decide) ?_ | refine ⟨_, rfl, ?_⟩ | refine Mi rfl ?_); (conv => whnf)))
          refine litE t2 ?_
          ((conv => whnf); repeat ((first | refine Wo ?_ | refine Lt (by decide) ?_ | refine Lf (by decide) ?_ | refine Cl (by decide) ?_ | refine Cr (by decide) ?_ | refine ⟨_, rfl, ?_⟩ | refine Mi rfl ?_ | (refine And.intro ?_ ?_; focus (first | decide | rfl | assumption | omega | (dsimp only; omega) | (unfold maxLen; omega) | ((try dsimp only [maxLen]); simp only [List.length_append, List.length_cons, List.length_nil, List.length_map, List.length_range, List.length_set, List.length_replicate]; omega) | ((try dsimp only [maxLen]); simp only [IntKind.wrap_i64, IntKind.wrap_u64, List.length_append, List.length_cons, List.length_nil, List.length_map, List.length_range, List.length_set, List.length_replicate]; omega) | ((try dsimp only [maxLen]); simp only [List.length_append, List.length_cons, List.length_nil, List.length_map, List.length_range, List.length_set, List.length_replicate] at *; omega)))); (conv => whnf)))
          ((conv => whnf); refine ⟨_, hix, ?_⟩; ((conv => whnf); repeat ((first | refine Wo ?_ | refine Lt (by decide) ?_ | refine Lf (by decide) ?_ | refine Cl (by decide) ?_ | refine Cr (by decide) ?_ | refine ⟨_, rfl, ?_⟩ | refine Mi rfl ?_); (conv => whnf))))
          refine litE t3 ?_
          ((conv => whnf); repeat ((first | refine Wo ?_ | refine Lt (by decide) ?_ | refine Lf (by decide) ?_ | refine Cl (by decide) ?_ | refine Cr (by decide) ?_ | refine ⟨_, rfl, ?_⟩ | refine Mi rfl ?_); (conv => whnf)))
          refine ih (i + 1) _ ⟨by omega, by omega, by omega, hq⟩ ?_
          (refine Wk.to _ _ ?_ ?_ <;> (repeat' first | exact trivial | rfl | (refine And.intro ?_ ?_)))
          exact inE (i64n (by simp) (by omega))
        · have t3 : decide (((e[i].size : Nat) : Int) > 120) = true := by rw [decide_eq_true_iff]; omega
          rw [decide_eq_false hb, Bool.false_and, Bool.false_and, Bool.false_and]
          ((conv => whnf); repeat ((first | refine Wo ?_ | refine Lt (by decide) ?_ | refine Lf (by decide) ?_ | refine Cl (by decide) ?_ | refine Cr (by decide) ?_ | refine ⟨_, rfl, ?_⟩ | refine Mi rfl ?_); (conv => whnf)))
          refine litE t1 ?_
          ((conv => whnf); repeat ((first | refine Wo ?_ | refine Lt (by decide) ?_ | refine Lf (by decide) ?_ | refine Cl (by decide) ?_ | refine Cr (by decide) ?_ | refine ⟨_, rfl, ?_⟩ | refine Mi rfl ?_); (conv => whnf)))
          refine litE t2 ?_
          ((conv => whnf); repeat ((first | refine Wo ?_ | refine Lt (by decide) ?_ | refine Lf (by decide) ?_ | refine Cl (by decide) ?_ | refine Cr (by decide) ?_ | refine ⟨_, rfl, ?_⟩ | refine Mi rfl ?_ | (refine And.intro ?_ ?_; focus (first | decide | rfl | assumption | omega | (dsimp only; omega) | (unfold maxLen; omega) | ((try dsimp only [maxLen]); simp only [List.length_append, List.length_cons, List.length_nil, List.length_map, List.length_range, List.length_set, List.length_replicate]; omega) | ((try dsimp only [maxLen]); simp only [IntKind.wrap_i64, IntKind.wrap_u64, List.length_append, List.length_cons, List.length_nil, List.length_map, List.length_range, List.length_set, List.length_replicate]; omega) | ((try dsimp only [maxLen]); simp only [List.length_append, List.length_cons, List.length_nil, List.length_map, List.length_range, List.length_set, List.length_replicate] at *; omega)))); (conv => whnf)))
          ((conv => whnf); refine ⟨_, hix, ?_⟩; ((conv => whnf); repeat ((first | refine Wo ?_ | refine Lt (by decide) ?_ | refine Lf (by decide) ?_ | refine Cl (by decide) ?_ | refine Cr (by decide) ?_ | refine ⟨_, rfl, ?_⟩ | refine Mi rfl ?_); (conv => whnf))))
          refine litE t3 ?_
          ((conv => whnf); repeat ((first | refine Wo ?_ | refine Lt (by decide) ?_ | refine Lf (by decide) ?_ | refine Cl (by decide) ?_ | refine Cr (by decide) ?_ | refine ⟨_, rfl, ?_⟩ | refine Mi rfl ?_); (conv => whnf)))
          ((conv => whnf); ((repeat ((conv => arg 1; whnf); first | exact Tels.nil | apply Tels.cons | apply Tel.aggs | apply Tel.tups | exact Tel.refl _ | exact Tel.nil1 _ | exact Tel.cap _ _ _ _)); done))
      · have t2 : decide ((i : Int) < 301) = false := by rw [decide_eq_false_iff_not]; omega
        rw [hend (by omega)]
        rw [decide_eq_false (show ¬ e.length ≤ 300 by omega)] at g1 ⊢
        ((conv => whnf); repeat ((first | refine Wo ?_ | refine Lt (by decide) ?_ | refine Lf (by decide) ?_ | refine Cl (by decide) ?_ | refine Cr (by decide) ?_ | refine ⟨_, rfl, ?_⟩ | refine Mi rfl ?_); (conv => whnf)))
        refine litE t1 ?_
        ((conv => whnf); repeat ((first | refine Wo ?_ | refine Lt (by decide) ?_ | refine Lf (by decide) ?_ | refine Cl (by decide) ?_ | refine Cr (by decide) ?_ | refine ⟨_, rfl, ?_⟩ | refine Mi rfl ?_); (conv => whnf)))
        refine litE t2 ?_
        ((conv => whnf); repeat ((first | refine Wo ?_ | refine Lt (by decide) ?_ | refine Lf (by decide) ?_ | refine Cl (by decide) ?_ | refine Cr (by decide) ?_ | refine ⟨_, rfl, ?_⟩ | refine Mi rfl ?_); (conv => whnf)))
        refine litE g1 ?_
        ((conv => whnf); repeat ((first | refine Wo ?_ | refine Lt (by decide) ?_ | refine Lf (by decide) ?_ | refine Cl (by decide) ?_ | refine Cr (by decide) ?_ | refine ⟨_, rfl, ?_⟩ | refine Mi rfl ?_); (conv => whnf)))
        ((conv => whnf); ((repeat ((conv => arg 1; whnf); first | exact Tels.nil | apply Tels.cons | apply Tel.aggs | apply Tel.tups | exact Tel.refl _ | exact Tel.nil1 _ | exact Tel.cap _ _ _ _)); done))
    · have t1 : decide ((i : Int) < (e.length : Int)) = false := by simpa using hl1
      rw [hend (by omega)]
      by_cases h3 : e.length ≤ 300
      · rw [decide_eq_true h3] at g1 ⊢
        rw [Bool.true_and]
        ((conv => whnf); repeat ((first | refine Wo ?_ | refine Lt (by decide) ?_ | refine Lf (by decide) ?_ | refine Cl (by decide) ?_ | refine Cr (by decide) ?_ | refine ⟨_, rfl, ?_⟩ | refine Mi rfl ?_); (conv => whnf)))
        refine litE t1 ?_
        ((conv => whnf); repeat ((first | refine Wo ?_ | refine Lt (by decide) ?_ | refine Lf (by decide) ?_ | refine Cl (by decide) ?_ | refine Cr (by decide) ?_ | refine ⟨_, rfl, ?_⟩ | refine Mi rfl ?_); (conv => whnf)))
        refine litE g1 ?_
        ((conv => whnf); repeat ((first | refine Wo ?_ | refine Lt (by decide) ?_ | refine Lf (by decide) ?_ | refine Cl (by decide) ?_ | refine Cr (by decide) ?_ | refine ⟨_, rfl, ?_⟩ | refine Mi rfl ?_); (conv => whnf)))
        refine litE g2 ?_
        ((conv => whnf); repeat ((first | refine Wo ?_ | refine Lt (by decide) ?_ | refine Lf (by decide) ?_ | refine Cl (by decide) ?_ | refine Cr (by decide) ?_ | refine ⟨_, rfl, ?_⟩ | refine Mi rfl ?_); (conv => whnf)))
        ((conv => whnf); ((repeat ((conv => arg 1; whnf); first | exact Tels.nil | apply Tels.cons | apply Tel.aggs | apply Tel.tups | exact Tel.refl _ | exact Tel.nil1 _ | exact Tel.cap _ _ _ _)); done))
      · rw [decide_eq_false h3] at g1 ⊢
        rw [Bool.false_and]
        ((conv => whnf); repeat ((first | refine Wo ?_ | refine Lt (by decide) ?_ | refine Lf (by decide) ?_ | refine Cl (by decide) ?_ | refine Cr (by decide) ?_ | refine ⟨_, rfl, ?_⟩ | refine Mi rfl ?_); (conv => whnf)))
        refine litE t1 ?_
        ((conv => whnf); repeat ((first | refine Wo ?_ | refine Lt (by decide) ?_ | refine Lf (by decide) ?_ | refine Cl (by decide) ?_ | refine Cr (by decide) ?_ | refine ⟨_, rfl, ?_⟩ | refine Mi rfl ?_); (conv => whnf)))
        refine litE g1 ?_
        ((conv => whnf); repeat ((first | refine Wo ?_ | refine Lt (by decide) ?_ | refine Lf (by decide) ?_ | refine Cl (by decide) ?_ | refine Cr (by decide) ?_ | refine ⟨_, rfl, ?_⟩ | refine Mi rfl ?_); (conv => whnf)))
        ((conv => whnf); ((repeat ((conv => arg 1; whnf); first | exact Tels.nil | apply Tels.cons | apply Tel.aggs | apply Tel.tups | exact Tel.refl _ | exact Tel.nil1 _ | exact Tel.cap _ _ _ _)); done))
  · (refine Wk.to _ _ ?_ ?_ <;> (repeat' first | exact trivial | rfl | (refine And.intro ?_ ?_)))
end Go.Proofs.YtjldjhlccedkbaaGreatDoor.Am
end
section
/- What spread.Dyad tells, plainly. -/
namespace Go.Proofs.YtjldjhlccedkbaaGreatDoor.Am
open Go Go.RowKit Go.Proofs.YtjldjhlccedkbaaGreatDoor.Sh
open Go.Proofs.YtjldjhlccedkbaaGreatDoor.Nm (numS)
set_option linter.unusedVariables false
set_option linter.unusedSimpArgs false
set_option maxRecDepth 100000
set_option maxHeartbeats 8000000
theorem sm_b01 (p : Bool) : Nm.Sm (b01 p) := Nm.sm_i64 (by cases p <;> simp [b01]) (by cases p <;> simp [b01])
/-- each pair is a pair of numbers -/
theorem dyR_num (op : ByteArray) {s1 s2 : List Int} {e1 e2 : List ByteArray} (g1 : good s1 e1 = true) (g2 : good s2 e2 = true) (hm : (meetS s1 s2).2 = 0) {i : Nat} (hi : i < dyN s1 s2) :
    ∃ x y, Nm.Sm x ∧ Nm.Sm y ∧ atS s1 e1 i = numS x ∧ atS s2 e2 i = numS y ∧ dyR op s1 e1 s2 e2 i = sd op (numS x) (numS y) := by
  obtain ⟨_, _, k3, k4, _⟩ := meet_ok g1 g2 hm
  obtain ⟨x, ex, hx⟩ := num_mayB (good_all g1 _ (atS_mem (k3 i hi).1 (k3 i hi).2))
  obtain ⟨y, ey, hy⟩ := num_mayB (good_all g2 _ (atS_mem (k4 i hi).1 (k4 i hi).2))
  exact ⟨x, y, hx, hy, ex, ey, by unfold dyR; rw [ex, ey]⟩
end Go.Proofs.YtjldjhlccedkbaaGreatDoor.Am
end
section
/- SpreadTwice, walked. -/
namespace Go.Proofs.YtjldjhlccedkbaaGreatDoor.Am
open Go Go.RowKit Go.Proofs.YtjldjhlccedkbaaGreatDoor.Sh
open Go.Proofs.YtjldjhlccedkbaaGreatDoor.Nm (numS sgn)
set_option linter.unusedVariables false
set_option linter.unusedSimpArgs false
set_option maxRecDepth 100000
set_option maxHeartbeats 8000000
theorem moZ_num (c : UInt8) {x : Int} (hx : Nm.Sm x) : ∃ z, Nm.Sm z ∧ moZ c x = numS z := by
  unfold moZ
  split
  · exact ⟨_, Nm.sm_neg hx, rfl⟩
  · split
    · exact ⟨_, sm_b01 _, rfl⟩
    · exact ⟨_, Nm.sm_i64 (by unfold sgn; split <;> (try split) <;> omega) (by unfold sgn; split <;> (try split) <;> omega), rfl⟩
theorem smo_may (op : ByteArray) {b : ByteArray} (h : mayB b = true) : mayB (smo op b) = true := by
  obtain ⟨x, rfl, hx⟩ := num_mayB h
  unfold smo
  rw [zB_num]
  obtain ⟨z, hz, e⟩ := moZ_num (op.data.toList.headD 0) hx
  rw [e]
  exact mayB_num hz
theorem good_map {s : List Int} {e : List ByteArray} {f : ByteArray → ByteArray} (g : good s e = true) (hf : ∀ b, mayB b = true → mayB (f b) = true) : good s (e.map f) = true := by
  rw [good_iff, List.length_map]
  refine ⟨good_size g, fun b hb => ?_⟩
  obtain ⟨a, ha, rfl⟩ := List.mem_map.1 hb
  exact hf a (good_all g a ha)
theorem moO_ok {op : ByteArray} {s : List Int} {e : List ByteArray} (g : good s e = true) (ho : sgB moS op = true) : moO op s e = ((s, e.map (smo op)), 0) := by
  unfold moO
  rw [if_pos ⟨g, ho⟩]
theorem smo_neg (x : Int) : smo ⟨#[45]⟩ (numS x) = numS (-x) := by rw [smo_num]; unfold moZ; rw [if_pos rfl]
theorem smo_not (x : Int) : smo ⟨#[126]⟩ (numS x) = numS (b01 (decide (x = 0))) := by rw [smo_num]; unfold moZ; rw [if_neg (by decide), if_pos rfl]
theorem smo_sgn (x : Int) : smo ⟨#[42]⟩ (numS x) = numS (sgn x) := by rw [smo_num]; unfold moZ; rw [if_neg (by decide), if_neg (by decide)]
theorem sgn_sgn (x : Int) : sgn (sgn x) = sgn x := by
  unfold sgn
  by_cases h : x < 0
  · rw [if_pos h]; rfl
  · rw [if_neg h]
    by_cases h0 : x = 0
    · rw [if_pos h0]; rfl
    · rw [if_neg h0]; rfl
theorem b01_not (x : Int) : b01 (decide (b01 (decide (b01 (decide (x = 0)) = 0)) = 0)) = b01 (decide (x = 0)) := by
  generalize decide (x = 0) = p
  cases p <;> rfl
section
variable {s : List Int} {e A B C E : List ByteArray}
theorem twice_no1 (f1 : Runs Tryz.prog 14 [vD s e none none] (bD false)) : Runs Tryz.prog 7 [vD s e none none] (bD true) := by
  have f0 := shown_runs
  refine Runs.wp Go.Proofs.YtjldjhlccedkbaaGreatDoor.Am.hT Go.Proofs.YtjldjhlccedkbaaGreatDoor.Am.hm Tryz.func7 rfl (by decide) ⟨[], [0, 1, 2, 3, 4, 5, 6, 7, 8, 9, 10, 11, 12, 13, 14, 15, 16, 17, 26], 104⟩ ?_; ((conv => whnf); repeat ((first | refine Wo ?_ | refine Lt (by decide) ?_ | refine Lf (by decide) ?_ | refine Cl (by decide) ?_ | refine Cr (by decide) ?_ | refine ⟨_, rfl, ?_⟩ | refine Mi rfl ?_); (conv => whnf)))
  ((conv => whnf); (refine Hc.flat f0 ?_ rfl ?_; (focus ((repeat ((conv => arg 1; whnf); first | exact Tels.nil | apply Tels.cons | apply Tel.aggs | apply Tel.tups | exact Tel.refl _ | exact Tel.nil1 _ | exact Tel.cap _ _ _ _)); done))); ((conv => whnf); repeat ((first | refine Wo ?_ | refine Lt (by decide) ?_ | refine Lf (by decide) ?_ | refine Cl (by decide) ?_ | refine Cr (by decide) ?_ | refine ⟨_, rfl, ?_⟩ | refine Mi rfl ?_); (conv => whnf))))
  ((conv => whnf); (refine Hc.flat f1 ?_ rfl ?_; (focus ((repeat ((conv => arg 1; whnf); first | exact Tels.nil | apply Tels.cons | apply Tel.aggs | apply Tel.tups | exact Tel.refl _ | exact Tel.nil1 _ | exact Tel.cap _ _ _ _)); done))); ((conv => whnf); repeat ((first | refine Wo ?_ | refine Lt (by decide) ?_ | refine Lf (by decide) ?_ | refine Cl (by decide) ?_ | refine Cr (by decide) ?_ | refine ⟨_, rfl, ?_⟩ | refine Mi rfl ?_); (conv => whnf))))
  ((conv => whnf); ((repeat ((conv => arg 1; whnf); first | exact Tels.nil | apply Tels.cons | apply Tel.aggs | apply Tel.tups | exact Tel.refl _ | exact Tel.nil1 _ | exact Tel.cap _ _ _ _)); done))
theorem twice_no2 (f1 : Runs Tryz.prog 14 [vD s e none none] (bD true)) (f2 : Runs Tryz.prog 15 [vD s e none none] (bD false)) : Runs Tryz.prog 7 [vD s e none none] (bD true) := by
  have f0 := shown_runs
  refine Runs.wp Go.Proofs.YtjldjhlccedkbaaGreatDoor.Am.hT Go.Proofs.YtjldjhlccedkbaaGreatDoor.Am.hm Tryz.func7 rfl (by decide) ⟨[], [0, 1, 2, 3, 4, 5, 6, 7, 8, 9, 10, 11, 12, 13, 14, 15, 16, 17, 26], 104⟩ ?_; ((conv => whnf); repeat ((first | refine Wo ?_ | refine Lt (by decide) ?_ | refine Lf (by decide) ?_ | refine Cl (by decide) ?_ | refine Cr (by decide) ?_ | refine ⟨_, rfl, ?_⟩ | refine Mi rfl ?_); (conv => whnf)))
  ((conv => whnf); (refine Hc.flat f0 ?_ rfl ?_; (focus ((repeat ((conv => arg 1; whnf); first | exact Tels.nil | apply Tels.cons | apply Tel.aggs | apply Tel.tups | exact Tel.refl _ | exact Tel.nil1 _ | exact Tel.cap _ _ _ _)); done))); ((conv => whnf); repeat ((first | refine Wo ?_ | refine Lt (by decide) ?_ | refine Lf (by decide) ?_ | refine Cl (by decide) ?_ | refine Cr (by decide) ?_ | refine ⟨_, rfl, ?_⟩ | refine Mi rfl ?_); (conv => whnf))))
  ((conv => whnf); (refine Hc.flat f1 ?_ rfl ?_; (focus ((repeat ((conv => arg 1; whnf); first | exact Tels.nil | apply Tels.cons | apply Tel.aggs | apply Tel.tups | exact Tel.refl _ | exact Tel.nil1 _ | exact Tel.cap _ _ _ _)); done))); ((conv => whnf); repeat ((first | refine Wo ?_ | refine Lt (by decide) ?_ | refine Lf (by decide) ?_ | refine Cl (by decide) ?_ | refine Cr (by decide) ?_ | refine ⟨_, rfl, ?_⟩ | refine Mi rfl ?_); (conv => whnf))))
  ((conv => whnf); (refine Hc.flat f2 ?_ rfl ?_; (focus ((repeat ((conv => arg 1; whnf); first | exact Tels.nil | apply Tels.cons | apply Tel.aggs | apply Tel.tups | exact Tel.refl _ | exact Tel.nil1 _ | exact Tel.cap _ _ _ _)); done))); ((conv => whnf); repeat ((first | refine Wo ?_ | refine Lt (by decide) ?_ | refine Lf (by decide) ?_ | refine Cl (by decide) ?_ | refine Cr (by decide) ?_ | refine ⟨_, rfl, ?_⟩ | refine Mi rfl ?_); (conv => whnf))))
  ((conv => whnf); ((repeat ((conv => arg 1; whnf); first | exact Tels.nil | apply Tels.cons | apply Tel.aggs | apply Tel.tups | exact Tel.refl _ | exact Tel.nil1 _ | exact Tel.cap _ _ _ _)); done))
theorem twice_yes (f1 : Runs Tryz.prog 14 [vD s e none none] (bD true)) (f2 : Runs Tryz.prog 15 [vD s e none none] (bD true)) (m1 : Runs Tryz.prog 21 [sD ⟨#[45]⟩, vD s e none none] (.tup [vD s A none none, iD 0])) (m2 : Runs Tryz.prog 21 [sD ⟨#[45]⟩, vD s A none none] (.tup [vD s e none none, iD 0]))
    (m3 : Runs Tryz.prog 21 [sD ⟨#[42]⟩, vD s e none none] (.tup [vD s B none none, iD 0])) (m4 : Runs Tryz.prog 21 [sD ⟨#[42]⟩, vD s B none none] (.tup [vD s B none none, iD 0]))
    (m5 : Runs Tryz.prog 21 [sD ⟨#[126]⟩, vD s e none none] (.tup [vD s C none none, iD 0])) (m6 : Runs Tryz.prog 21 [sD ⟨#[126]⟩, vD s C none none] (.tup [vD s E none none, iD 0])) (m7 : Runs Tryz.prog 21 [sD ⟨#[126]⟩, vD s E none none] (.tup [vD s C none none, iD 0]))
    (v1 : Runs Tryz.prog 17 [vD s e none none, vD s e none none] (bD true)) (v2 : Runs Tryz.prog 17 [vD s B none none, vD s B none none] (bD true)) (v3 : Runs Tryz.prog 17 [vD s C none none, vD s C none none] (bD true)) (hE : (((E.length : Nat) : Int) == ((e.length : Nat) : Int)) = true) : Runs Tryz.prog 7 [vD s e none none] (bD true) := by
  as_aux_lemma =>
  have f0 := shown_runs
  refine Runs.wp Go.Proofs.YtjldjhlccedkbaaGreatDoor.Am.hT Go.Proofs.YtjldjhlccedkbaaGreatDoor.Am.hm Tryz.func7 rfl (by decide) ⟨[], [0, 1, 2, 3, 4, 5, 6, 7, 8, 9, 10, 11, 12, 13, 14, 15, 16, 17, 26], 104⟩ ?_; ((conv => whnf); repeat ((first | refine Wo ?_ | refine Lt (by decide) ?_ | refine Lf (by decide) ?_ | refine Cl (by decide) ?_ | refine Cr (by decide) ?_ | refine ⟨_, rfl, ?_⟩ | refine Mi rfl ?_); (conv => whnf)))
  ((conv => whnf); (refine Hc.flat f0 ?_ rfl ?_; (focus ((repeat ((conv => arg 1; whnf); first | exact Tels.nil | apply Tels.cons | apply Tel.aggs | apply Tel.tups | exact Tel.refl _ | exact Tel.nil1 _ | exact Tel.cap _ _ _ _)); done))); ((conv => whnf); repeat ((first | refine Wo ?_ | refine Lt (by decide) ?_ | refine Lf (by decide) ?_ | refine Cl (by decide) ?_ | refine Cr (by decide) ?_ | refine ⟨_, rfl, ?_⟩ | refine Mi rfl ?_); (conv => whnf))))
  ((conv => whnf); (refine Hc.flat f1 ?_ rfl ?_; (focus ((repeat ((conv => arg 1; whnf); first | exact Tels.nil | apply Tels.cons | apply Tel.aggs | apply Tel.tups | exact Tel.refl _ | exact Tel.nil1 _ | exact Tel.cap _ _ _ _)); done))); ((conv => whnf); repeat ((first | refine Wo ?_ | refine Lt (by decide) ?_ | refine Lf (by decide) ?_ | refine Cl (by decide) ?_ | refine Cr (by decide) ?_ | refine ⟨_, rfl, ?_⟩ | refine Mi rfl ?_); (conv => whnf))))
  ((conv => whnf); (refine Hc.flat f2 ?_ rfl ?_; (focus ((repeat ((conv => arg 1; whnf); first | exact Tels.nil | apply Tels.cons | apply Tel.aggs | apply Tel.tups | exact Tel.refl _ | exact Tel.nil1 _ | exact Tel.cap _ _ _ _)); done))); ((conv => whnf); repeat ((first | refine Wo ?_ | refine Lt (by decide) ?_ | refine Lf (by decide) ?_ | refine Cl (by decide) ?_ | refine Cr (by decide) ?_ | refine ⟨_, rfl, ?_⟩ | refine Mi rfl ?_); (conv => whnf))))
  ((conv => whnf); (refine Hc.runs m1 ?_ ?_; (focus ((repeat ((conv => arg 1; whnf); first | exact Tels.nil | apply Tels.cons | apply Tel.aggs | apply Tel.tups | exact Tel.refl _ | exact Tel.nil1 _ | exact Tel.cap _ _ _ _)); done))); ((conv => whnf); repeat ((first | refine Wo ?_ | refine Lt (by decide) ?_ | refine Lf (by decide) ?_ | refine Cl (by decide) ?_ | refine Cr (by decide) ?_ | refine ⟨_, rfl, ?_⟩ | refine Mi rfl ?_); (conv => whnf))))
  ((conv => whnf); (refine Hc.runs m2 ?_ ?_; (focus ((repeat ((conv => arg 1; whnf); first | exact Tels.nil | apply Tels.cons | apply Tel.aggs | apply Tel.tups | exact Tel.refl _ | exact Tel.nil1 _ | exact Tel.cap _ _ _ _)); done))); ((conv => whnf); repeat ((first | refine Wo ?_ | refine Lt (by decide) ?_ | refine Lf (by decide) ?_ | refine Cl (by decide) ?_ | refine Cr (by decide) ?_ | refine ⟨_, rfl, ?_⟩ | refine Mi rfl ?_); (conv => whnf))))
  ((conv => whnf); (refine Hc.runs m3 ?_ ?_; (focus ((repeat ((conv => arg 1; whnf); first | exact Tels.nil | apply Tels.cons | apply Tel.aggs | apply Tel.tups | exact Tel.refl _ | exact Tel.nil1 _ | exact Tel.cap _ _ _ _)); done))); ((conv => whnf); repeat ((first | refine Wo ?_ | refine Lt (by decide) ?_ | refine Lf (by decide) ?_ | refine Cl (by decide) ?_ | refine Cr (by decide) ?_ | refine ⟨_, rfl, ?_⟩ | refine Mi rfl ?_); (conv => whnf))))
  ((conv => whnf); (refine Hc.runs m4 ?_ ?_; (focus ((repeat ((conv => arg 1; whnf); first | exact Tels.nil | apply Tels.cons | apply Tel.aggs | apply Tel.tups | exact Tel.refl _ | exact Tel.nil1 _ | exact Tel.cap _ _ _ _)); done))); ((conv => whnf); repeat ((first | refine Wo ?_ | refine Lt (by decide) ?_ | refine Lf (by decide) ?_ | refine Cl (by decide) ?_ | refine Cr (by decide) ?_ | refine ⟨_, rfl, ?_⟩ | refine Mi rfl ?_); (conv => whnf))))
  ((conv => whnf); (refine Hc.runs m5 ?_ ?_; (focus ((repeat ((conv => arg 1; whnf); first | exact Tels.nil | apply Tels.cons | apply Tel.aggs | apply Tel.tups | exact Tel.refl _ | exact Tel.nil1 _ | exact Tel.cap _ _ _ _)); done))); ((conv => whnf); repeat ((first | refine Wo ?_ | refine Lt (by decide) ?_ | refine Lf (by decide) ?_ | refine Cl (by decide) ?_ | refine Cr (by decide) ?_ | refine ⟨_, rfl, ?_⟩ | refine Mi rfl ?_); (conv => whnf))))
  ((conv => whnf); (refine Hc.runs m6 ?_ ?_; (focus ((repeat ((conv => arg 1; whnf); first | exact Tels.nil | apply Tels.cons | apply Tel.aggs | apply Tel.tups | exact Tel.refl _ | exact Tel.nil1 _ | exact Tel.cap _ _ _ _)); done))); ((conv => whnf); repeat ((first | refine Wo ?_ | refine Lt (by decide) ?_ | refine Lf (by decide) ?_ | refine Cl (by decide) ?_ | refine Cr (by decide) ?_ | refine ⟨_, rfl, ?_⟩ | refine Mi rfl ?_); (conv => whnf))))
  ((conv => whnf); (refine Hc.runs m7 ?_ ?_; (focus ((repeat ((conv => arg 1; whnf); first | exact Tels.nil | apply Tels.cons | apply Tel.aggs | apply Tel.tups | exact Tel.refl _ | exact Tel.nil1 _ | exact Tel.cap _ _ _ _)); done))); ((conv => whnf); repeat ((first | refine Wo ?_ | refine Lt (by decide) ?_ | refine Lf (by decide) ?_ | refine Cl (by decide) ?_ | refine Cr (by decide) ?_ | refine ⟨_, rfl, ?_⟩ | refine Mi rfl ?_); (conv => whnf))))
  ((conv => whnf); (refine Hc.flat v1 ?_ rfl ?_; (focus ((repeat ((conv => arg 1; whnf); first | exact Tels.nil | apply Tels.cons | apply Tel.aggs | apply Tel.tups | exact Tel.refl _ | exact Tel.nil1 _ | exact Tel.cap _ _ _ _)); done))); ((conv => whnf); repeat ((first | refine Wo ?_ | refine Lt (by decide) ?_ | refine Lf (by decide) ?_ | refine Cl (by decide) ?_ | refine Cr (by decide) ?_ | refine ⟨_, rfl, ?_⟩ | refine Mi rfl ?_); (conv => whnf))))
  ((conv => whnf); (refine Hc.flat v2 ?_ rfl ?_; (focus ((repeat ((conv => arg 1; whnf); first | exact Tels.nil | apply Tels.cons | apply Tel.aggs | apply Tel.tups | exact Tel.refl _ | exact Tel.nil1 _ | exact Tel.cap _ _ _ _)); done))); ((conv => whnf); repeat ((first | refine Wo ?_ | refine Lt (by decide) ?_ | refine Lf (by decide) ?_ | refine Cl (by decide) ?_ | refine Cr (by decide) ?_ | refine ⟨_, rfl, ?_⟩ | refine Mi rfl ?_); (conv => whnf))))
  ((conv => whnf); (refine Hc.flat v3 ?_ rfl ?_; (focus ((repeat ((conv => arg 1; whnf); first | exact Tels.nil | apply Tels.cons | apply Tel.aggs | apply Tel.tups | exact Tel.refl _ | exact Tel.nil1 _ | exact Tel.cap _ _ _ _)); done))); ((conv => whnf); repeat ((first | refine Wo ?_ | refine Lt (by decide) ?_ | refine Lf (by decide) ?_ | refine Cl (by decide) ?_ | refine Cr (by decide) ?_ | refine ⟨_, rfl, ?_⟩ | refine Mi rfl ?_); (conv => whnf))))
  refine litE hE ?_
  ((conv => whnf); repeat ((first | refine Wo ?_ | refine Lt (by decide) ?_ | refine Lf (by decide) ?_ | refine Cl (by decide) ?_ | refine Cr (by decide) ?_ | refine ⟨_, rfl, ?_⟩ | refine Mi rfl ?_); (conv => whnf)))
  ((conv => whnf); ((repeat ((conv => arg 1; whnf); first | exact Tels.nil | apply Tels.cons | apply Tel.aggs | apply Tel.tups | exact Tel.refl _ | exact Tel.nil1 _ | exact Tel.cap _ _ _ _)); done))
end
theorem map_neg2 {e : List ByteArray} (a : ∀ b ∈ e, mayB b = true) : (e.map (smo ⟨#[45]⟩)).map (smo ⟨#[45]⟩) = e := by
  rw [List.map_map]
  refine (List.map_congr_left (g := fun b => b) fun b hb => ?_).trans (List.map_id' e)
  obtain ⟨x, rfl, _⟩ := num_mayB (a b hb)
  rw [Function.comp_apply, smo_neg, smo_neg, Int.neg_neg]
theorem map_sgn2 {e : List ByteArray} (a : ∀ b ∈ e, mayB b = true) : (e.map (smo ⟨#[42]⟩)).map (smo ⟨#[42]⟩) = e.map (smo ⟨#[42]⟩) := by
  rw [List.map_map]
  refine List.map_congr_left fun b hb => ?_
  obtain ⟨x, rfl, _⟩ := num_mayB (a b hb)
  rw [Function.comp_apply, smo_sgn, smo_sgn, sgn_sgn]
theorem map_not3 {e : List ByteArray} (a : ∀ b ∈ e, mayB b = true) : ((e.map (smo ⟨#[126]⟩)).map (smo ⟨#[126]⟩)).map (smo ⟨#[126]⟩) = e.map (smo ⟨#[126]⟩) := by
  rw [List.map_map, List.map_map]
  refine List.map_congr_left fun b hb => ?_
  obtain ⟨x, rfl, _⟩ := num_mayB (a b hb)
  rw [Function.comp_apply, Function.comp_apply, smo_not, smo_not, smo_not, b01_not]
theorem SpreadTwice_runs (s : List Int) (e : List ByteArray) (hs : s.length ≤ 9223372036854775807) (he : e.length ≤ 9223372036854775807) : Runs Tryz.prog 7 [vD s e none none] (bD true) := by
  have f1 := few_runs s e (by omega) he
  have f2 := vmay_runs s e (by omega) he
  cases hf : fewB s e with
  | false => rw [hf] at f1; exact twice_no1 f1
  | true =>
    rw [hf] at f1
    cases hg : good s e with
    | false => rw [hg] at f2; exact twice_no2 f1 f2
    | true =>
      rw [hg] at f2
      have mo : ∀ (op : ByteArray) (l : List ByteArray), sgB moS op = true → good s l = true → Runs Tryz.prog 21 [sD op, vD s l none none] (.tup [vD s (l.map (smo op)) none none, iD 0]) := fun op l ho hl => by
        have := monad_runs op s l hs (by have := good_few hl; omega)
        rwa [moO_ok hl ho] at this
      have gm : ∀ (op : ByteArray) {l : List ByteArray}, good s l = true → good s (l.map (smo op)) = true := fun op l hl => good_map hl fun b hb => smo_may op hb
      have vs : ∀ (l : List ByteArray), good s l = true → Runs Tryz.prog 17 [vD s l none none, vD s l none none] (bD true) := fun l hl => by
        have := vsame_runs s s l l hs hs (by have := good_few hl; omega) (by have := good_few hl; omega)
        rwa [decide_eq_true ⟨rfl, rfl⟩] at this
      have a := good_all hg
      have o1 : sgB moS ⟨#[45]⟩ = true := by decide +kernel
      have o2 : sgB moS ⟨#[42]⟩ = true := by decide +kernel
      have o3 : sgB moS ⟨#[126]⟩ = true := by decide +kernel
      have m2 := mo ⟨#[45]⟩ _ o1 (gm ⟨#[45]⟩ hg)
      rw [map_neg2 a] at m2
      have m4 := mo ⟨#[42]⟩ _ o2 (gm ⟨#[42]⟩ hg)
      rw [map_sgn2 a] at m4
      have m7 := mo ⟨#[126]⟩ _ o3 (gm ⟨#[126]⟩ (gm ⟨#[126]⟩ hg))
      rw [map_not3 a] at m7
      exact twice_yes f1 f2 (mo _ _ o1 hg) m2 (mo _ _ o2 hg) m4 (mo _ _ o3 hg) (mo _ _ o3 (gm _ hg)) m7 (vs _ hg) (vs _ (gm _ hg)) (vs _ (gm _ hg)) (by simp)
end Go.Proofs.YtjldjhlccedkbaaGreatDoor.Am
end
