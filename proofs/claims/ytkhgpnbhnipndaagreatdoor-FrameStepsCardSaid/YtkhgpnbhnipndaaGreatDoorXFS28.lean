/- What the law leans on, part 29: declarations of several texts of ours, in their order. -/
import Derived.Test.YtkhgpnbhnipndaaGreatDoorXFS27
import Derived.Test.YtkhgpnbhnipndaaGreatDoorXFS2
import Derived.Lib.IndexAny
import Derived.Test.YtkhgpnbhnipndaaGreatDoorXFS24
section
/- The signs, and an array's elements. -/
namespace Go.Proofs.YtkhgpnbhnipndaaGreatDoor.Am
open Go Go.RowKit Go.Proofs.YtkhgpnbhnipndaaGreatDoor.Sh
set_option linter.unusedVariables false
set_option linter.unusedSimpArgs false
set_option maxRecDepth 100000
set_option maxHeartbeats 8000000
theorem contains1_runs (s : ByteArray) (c : UInt8) : Runs Tryz.prog 88 [sD s, sD ⟨#[c]⟩] (bD (s.data.toList.contains c)) := by
  refine ⟨⟨_, Tryz.func88, rfl, by decide⟩, fun w S vs hG hS hl hv => ?_⟩
  obtain ⟨v0, v1, rfl⟩ := two hl
  have d0 := Dr.v_inv (hv 0 _ _ rfl rfl)
  have d1 := Dr.v_inv (hv 1 _ _ rfl rfl)
  subst d0 d1
  refine (Tryz.strings_Contains_one s c w).mono ?_
  rintro e w' ⟨rfl, rfl⟩
  rw [Go.Lib.contains_iff_indexByte]
  exact ⟨_, rfl, Below.refl _ _, .v _⟩
/-- one of some signs -/
def sgB (S op : ByteArray) : Bool := match op.data.toList with | [c] => S.data.toList.contains c | _ => false
def dyS : ByteArray := ⟨#[43, 45, 42, 37, 33, 38, 124, 60, 62, 61, 126]⟩
end Go.Proofs.YtkhgpnbhnipndaaGreatDoor.Am
end
section
/- What scalar.Dyad and Monad tell, of numbers. -/
namespace Go.Proofs.YtkhgpnbhnipndaaGreatDoor.Am
open Go Go.Lib Go.RowKit Go.Proofs.YtkhgpnbhnipndaaGreatDoor.Nm Go.Proofs.YtkhgpnbhnipndaaGreatDoorW.PrintWords Go.Proofs.YtkhgpnbhnipndaaGreatDoor
set_option linter.unusedVariables false
set_option linter.unusedSimpArgs false
set_option maxRecDepth 100000
set_option maxHeartbeats 8000000
/-- the number of a text -/
def zL : List UInt8 → Int
  | 45 :: r => -(Nm.val r : Int)
  | l => (Nm.val l : Int)
def zB (b : ByteArray) : Int := zL b.data.toList
theorem zL_pos {l : List UInt8} (h : ∀ r, l ≠ 45 :: r) : zL l = (Nm.val l : Int) := by
  unfold zL
  split
  · exact absurd rfl (h _)
  · rfl
theorem zB_num (z : Int) : zB (numS z) = z := by
  unfold zB numS
  rw [ba_data]
  by_cases h : z < 0
  · rw [itoa_neg' h]
    show -(Nm.val (decDigits z.natAbs) : Int) = z
    rw [val_decDigits]
    omega
  · rw [itoa_pos' h, zL_pos, val_decDigits]
    · omega
    · intro r e
      obtain ⟨c, r', h1, h2, h3⟩ := head_dec z.natAbs
      rw [e] at h1
      injection h1 with h1 _
      rw [← h1] at h2
      exact absurd h2 (by decide)
def b01 (p : Bool) : Int := if p = true then 1 else 0
theorem stold_num (p : Bool) : (if p = true then (⟨#[49]⟩ : ByteArray) else ⟨#[48]⟩) = numS (b01 p) := by
  cases p with
  | true => exact (litS 1 [49] (by decide) (by decide) (by decide) (by decide))
  | false =>
    show (BA [48]) = numS 0
    unfold numS
    rw [(itoa_zero_iff 0).2 rfl]
def dyZ (c : UInt8) (x y : Int) : ByteArray × Int :=
  if c = 43 then Nm.told (x + y) else if c = 45 then Nm.told (x - y) else if c = 42 then Nm.told (x * y)
  else if c = 37 then (if y = 0 then (BA [], 5) else Nm.told (fl x y)) else if c = 33 then (if y = 0 then (BA [], 5) else Nm.told (fm x y))
  else if c = 38 then (numS (if decide (x ≤ y) = true then x else y), 0) else if c = 124 then (numS (if decide (y ≤ x) = true then x else y), 0)
  else if c = 60 then (numS (b01 (decide (x < y))), 0) else if c = 62 then (numS (b01 (decide (y < x))), 0)
  else if c = 61 then (numS (b01 (decide (x = y))), 0) else (numS (b01 (!decide (x = y))), 0)
theorem cmp_le (x y : Int) : decide (cmpZ x y ≤ 0) = decide (x ≤ y) := by
  rw [decide_eq_decide]; unfold cmpZ; split <;> (try split) <;> omega
theorem cmp_ge (x y : Int) : decide (cmpZ x y ≥ 0) = decide (y ≤ x) := by
  rw [decide_eq_decide]; unfold cmpZ; split <;> (try split) <;> omega
theorem cmp_lt (x y : Int) : decide (cmpZ x y < 0) = decide (x < y) := by
  rw [decide_eq_decide]; unfold cmpZ; split <;> (try split) <;> omega
theorem cmp_gt (x y : Int) : decide (cmpZ x y > 0) = decide (y < x) := by
  rw [decide_eq_decide]; unfold cmpZ; split <;> (try split) <;> omega
theorem num_eqb (x y : Int) : ((numS x).toList == (numS y).toList) = decide (x = y) := by
  rw [numS_list, numS_list, Bool.eq_iff_iff, beq_iff_eq, decide_eq_true_iff]
  exact ⟨fun h => itoa_inj h, fun h => by rw [h]⟩
section
variable {x y : Int} (hx : Nm.Sm x) (hy : Nm.Sm y)
include hx hy
theorem min_runs : Runs Tryz.prog 102 [sD (numS x), sD (numS y)] (eD (numS (if decide (x ≤ y) = true then x else y), 0)) := by
  have h1 := cmp_yes hx hy
  have h2 := cmp_le x y
  have h3 := pick_runs (decide (x ≤ y)) (numS x) (numS y)
  rw [show (if decide (x ≤ y) = true then numS x else numS y) = numS (if decide (x ≤ y) = true then x else y) by split <;> rfl] at h3
  refine Runs.wp Am.hT Am.hm Tryz.func102 rfl (by decide) ⟨[], [0, 1, 4, 5], 15⟩ ?_; ((conv => whnf); repeat (refine Gq ?_; (conv => whnf)))
  ((conv => whnf); (refine HfA h1 ?_); ((conv => whnf); repeat (refine Gq ?_; (conv => whnf))))
  refine litE h2 ?_
  ((conv => whnf); repeat (refine Gq ?_; (conv => whnf)))
  ((conv => whnf); (refine HfA h3 ?_); ((conv => whnf); repeat (refine Gq ?_; (conv => whnf))))
  exact TeA
theorem max_runs : Runs Tryz.prog 105 [sD (numS x), sD (numS y)] (eD (numS (if decide (y ≤ x) = true then x else y), 0)) := by
  have h1 := cmp_yes hx hy
  have h2 := cmp_ge x y
  have h3 := pick_runs (decide (y ≤ x)) (numS x) (numS y)
  rw [show (if decide (y ≤ x) = true then numS x else numS y) = numS (if decide (y ≤ x) = true then x else y) by split <;> rfl] at h3
  refine Runs.wp Am.hT Am.hm Tryz.func105 rfl (by decide) ⟨[], [0, 1, 4, 5], 15⟩ ?_; ((conv => whnf); repeat (refine Gq ?_; (conv => whnf)))
  ((conv => whnf); (refine HfA h1 ?_); ((conv => whnf); repeat (refine Gq ?_; (conv => whnf))))
  refine litE h2 ?_
  ((conv => whnf); repeat (refine Gq ?_; (conv => whnf)))
  ((conv => whnf); (refine HfA h3 ?_); ((conv => whnf); repeat (refine Gq ?_; (conv => whnf))))
  exact TeA
theorem lt_runs : Runs Tryz.prog 106 [sD (numS x), sD (numS y)] (eD (numS (b01 (decide (x < y))), 0)) := by
  have h1 := cmp_yes hx hy
  have h2 := cmp_lt x y
  have h3 := stold_runs (decide (x < y))
  rw [stold_num] at h3
  refine Runs.wp Am.hT Am.hm Tryz.func106 rfl (by decide) ⟨[], [0, 1, 4, 5], 11⟩ ?_; ((conv => whnf); repeat (refine Gq ?_; (conv => whnf)))
  ((conv => whnf); (refine HfA h1 ?_); ((conv => whnf); repeat (refine Gq ?_; (conv => whnf))))
  refine litE h2 ?_
  ((conv => whnf); repeat (refine Gq ?_; (conv => whnf)))
  ((conv => whnf); (refine HfA h3 ?_); ((conv => whnf); repeat (refine Gq ?_; (conv => whnf))))
  exact TeA
theorem gt_runs : Runs Tryz.prog 108 [sD (numS x), sD (numS y)] (eD (numS (b01 (decide (y < x))), 0)) := by
  have h1 := cmp_yes hx hy
  have h2 := cmp_gt x y
  have h3 := stold_runs (decide (y < x))
  rw [stold_num] at h3
  refine Runs.wp Am.hT Am.hm Tryz.func108 rfl (by decide) ⟨[], [0, 1, 4, 5], 11⟩ ?_; ((conv => whnf); repeat (refine Gq ?_; (conv => whnf)))
  ((conv => whnf); (refine HfA h1 ?_); ((conv => whnf); repeat (refine Gq ?_; (conv => whnf))))
  refine litE h2 ?_
  ((conv => whnf); repeat (refine Gq ?_; (conv => whnf)))
  ((conv => whnf); (refine HfA h3 ?_); ((conv => whnf); repeat (refine Gq ?_; (conv => whnf))))
  exact TeA
omit hx hy in
theorem eq_runs : Runs Tryz.prog 109 [sD (numS x), sD (numS y)] (eD (numS (b01 (decide (x = y))), 0)) := by
  have h2 := num_eqb x y
  have h3 := stold_runs (decide (x = y))
  rw [stold_num] at h3
  refine Runs.wp Am.hT Am.hm Tryz.func109 rfl (by decide) ⟨[], [0, 1, 4, 5], 10⟩ ?_; ((conv => whnf); repeat (refine Gq ?_; (conv => whnf)))
  refine litE h2 ?_
  ((conv => whnf); repeat (refine Gq ?_; (conv => whnf)))
  ((conv => whnf); (refine HfA h3 ?_); ((conv => whnf); repeat (refine Gq ?_; (conv => whnf))))
  exact TeA
omit hx hy in
theorem ne_runs : Runs Tryz.prog 110 [sD (numS x), sD (numS y)] (eD (numS (b01 (!decide (x = y))), 0)) := by
  have h2 := show (!((numS x).toList == (numS y).toList)) = !decide (x = y) by rw [num_eqb]
  have h3 := stold_runs (!decide (x = y))
  rw [stold_num] at h3
  refine Runs.wp Am.hT Am.hm Tryz.func110 rfl (by decide) ⟨[], [0, 1, 4, 5], 10⟩ ?_; ((conv => whnf); repeat (refine Gq ?_; (conv => whnf)))
  refine litE h2 ?_
  ((conv => whnf); repeat (refine Gq ?_; (conv => whnf)))
  ((conv => whnf); (refine HfA h3 ?_); ((conv => whnf); repeat (refine Gq ?_; (conv => whnf))))
  exact TeA
omit hy
theorem mneg_runs : Runs Tryz.prog 147 [sD (numS x)] (sD (numS (-x))) := neg_yes hx
omit hx in
theorem mnot_runs : Runs Tryz.prog 148 [sD (numS x)] (sD (numS (b01 (decide (x = 0))))) := by
  have h2 := zS_b x
  have h3 := stold_runs (decide (x = 0))
  rw [stold_num] at h3
  refine Runs.wp Am.hT Am.hm Tryz.func148 rfl (by decide) ⟨[], [0, 2], 6⟩ ?_; ((conv => whnf); repeat (refine Gq ?_; (conv => whnf)))
  refine litE h2 ?_
  ((conv => whnf); repeat (refine Gq ?_; (conv => whnf)))
  ((conv => whnf); (refine HfA h3 ?_); ((conv => whnf); repeat (refine Gq ?_; (conv => whnf))))
  exact TeA
theorem msgn_runs : Runs Tryz.prog 149 [sD (numS x)] (sD (numS (sgn x))) := by
  have h1 := sign_yes hx
  have hb : -1 ≤ sgn x ∧ sgn x ≤ 1 := by unfold sgn; split <;> (try split) <;> omega
  have h3 := of_runs (sgn x) (by omega) (by omega)
  have hw : IntKind.i64.wrap (sgn x) = sgn x := i64w (by omega) (by omega)
  refine Runs.wp Am.hT Am.hm Tryz.func149 rfl (by decide) ⟨[], [0, 2], 6⟩ ?_; ((conv => whnf); repeat (refine Gq ?_; (conv => whnf)))
  ((conv => whnf); (refine HfA h1 ?_); ((conv => whnf); repeat (refine Gq ?_; (conv => whnf))))
  ((conv => whnf); (refine HfA h3 ?_); ((conv => whnf); repeat (refine Gq ?_; (conv => whnf))))
  exact TeA
end
end Go.Proofs.YtkhgpnbhnipndaaGreatDoor.Am
end
section
/- scalar.Dyad, at every sign. -/
namespace Go.Proofs.YtkhgpnbhnipndaaGreatDoor.Am
open Go Go.Lib Go.RowKit Go.Proofs.YtkhgpnbhnipndaaGreatDoor.Nm Go.Proofs.YtkhgpnbhnipndaaGreatDoorW.PrintWords Go.Proofs.YtkhgpnbhnipndaaGreatDoor
set_option linter.unusedVariables false
set_option linter.unusedSimpArgs false
set_option maxRecDepth 100000
set_option maxHeartbeats 8000000
theorem mayB_num {x : Int} (h : Nm.Sm x) : mayB (numS x) = true := by
  unfold mayB numS
  rw [ba_data]
  exact may_num x h
theorem num_mayB {b : ByteArray} (h : mayB b = true) : ∃ x, b = numS x ∧ Nm.Sm x := by
  obtain ⟨z, h1, h2⟩ := num_of_may _ h
  exact ⟨z, by unfold numS; rw [← h1], h2⟩
def sd (op a b : ByteArray) : ByteArray × Int := dyZ (op.data.toList.headD 0) (zB a) (zB b)
theorem sd_num (c : UInt8) (x y : Int) : sd ⟨#[c]⟩ (numS x) (numS y) = dyZ c x y := by
  unfold sd
  rw [zB_num, zB_num]
  rfl
theorem sg_dy {op : ByteArray} (h : sgB dyS op = true) : ∃ c, op = ⟨#[c]⟩ ∧ c ∈ ([43, 45, 42, 37, 33, 38, 124, 60, 62, 61, 126] : List UInt8) := by
  unfold sgB at h
  split at h
  · rename_i c hc
    exact ⟨c, by rw [ba_of op, hc], by simpa [dyS] using h⟩
  · cases h
theorem dyZ_runs {x y : Int} (hx : Nm.Sm x) (hy : Nm.Sm y) {c : UInt8} (hc : c ∈ ([43, 45, 42, 37, 33, 38, 124, 60, 62, 61, 126] : List UInt8)) : Runs Tryz.prog 57 [sD ⟨#[c]⟩, sD (numS x), sD (numS y)] (eD (dyZ c x y)) := by
  have m1 := mayZ hx
  have m2 := mayZ hy
  simp only [List.mem_cons, List.not_mem_nil, or_false] at hc
  rcases hc with rfl | rfl | rfl | rfl | rfl | rfl | rfl | rfl | rfl | rfl | rfl
  · exact sc_add m1 m2 (add_yes hx hy)
  · exact sc_sub m1 m2 (sub_yes hx hy)
  · exact sc_mul m1 m2 (mul_yes hx hy)
  · show Runs Tryz.prog 57 _ (eD (if y = 0 then (BA [], 5) else Nm.told (fl x y)))
    by_cases h0 : y = 0
    · subst h0
      rw [if_pos rfl]
      exact sc_div m1 m2 (div_zero hx)
    · rw [if_neg h0]
      exact sc_div m1 m2 (div_yes hx hy h0)
  · show Runs Tryz.prog 57 _ (eD (if y = 0 then (BA [], 5) else Nm.told (fm x y)))
    by_cases h0 : y = 0
    · subst h0
      rw [if_pos rfl]
      exact sc_mod m1 m2 (mod_zero hx)
    · rw [if_neg h0]
      exact sc_mod m1 m2 (mod_yes hx hy h0)
  · exact sc_min m1 m2 (min_runs hx hy)
  · exact sc_max m1 m2 (max_runs hx hy)
  · exact sc_lt m1 m2 (lt_runs hx hy)
  · exact sc_gt m1 m2 (gt_runs hx hy)
  · exact sc_eq m1 m2 eq_runs
  · exact sc_ne m1 m2 ne_runs
theorem sd_runs {op a b : ByteArray} (ho : sgB dyS op = true) (ha : mayB a = true) (hb : mayB b = true) : Runs Tryz.prog 57 [sD op, sD a, sD b] (eD (sd op a b)) := by
  obtain ⟨c, rfl, hc⟩ := sg_dy ho
  obtain ⟨x, rfl, hx⟩ := num_mayB ha
  obtain ⟨y, rfl, hy⟩ := num_mayB hb
  rw [sd_num]
  exact dyZ_runs hx hy hc
/-! ### one number -/
def moS : ByteArray := ⟨#[45, 126, 42]⟩
def moZ (c : UInt8) (x : Int) : ByteArray := if c = 45 then numS (-x) else if c = 126 then numS (b01 (decide (x = 0))) else numS (sgn x)
def smo (op a : ByteArray) : ByteArray := moZ (op.data.toList.headD 0) (zB a)
theorem monads_runs : Runs Tryz.prog 90 [] (sD moS) := by
  refine Runs.wp Am.hT Am.hm Tryz.func90 rfl (by decide) ⟨[], [0], 1⟩ ?_; ((conv => whnf); repeat (refine Gq ?_; (conv => whnf)))
  exact TeA
theorem smo_num (c : UInt8) (x : Int) : smo ⟨#[c]⟩ (numS x) = moZ c x := by
  unfold smo
  rw [zB_num]
  rfl
theorem smo_runs {op a : ByteArray} (ho : sgB moS op = true) (ha : mayB a = true) : Runs Tryz.prog 95 [sD op, sD a] (eD (smo op a, 0)) := by
  obtain ⟨x, rfl, hx⟩ := num_mayB ha
  have m1 := mayZ hx
  unfold sgB at ho
  split at ho
  · rename_i c hc
    have hc2 : c ∈ ([45, 126, 42] : List UInt8) := by simpa [moS] using ho
    rw [show op = ⟨#[c]⟩ by rw [ba_of op, hc], smo_num]
    simp only [List.mem_cons, List.not_mem_nil, or_false] at hc2
    rcases hc2 with rfl | rfl | rfl
    · exact sm_neg_runs m1 (mneg_runs hx)
    · exact sm_not_runs m1 mnot_runs
    · exact sm_sgn_runs m1 (msgn_runs hx)
  · cases ho
end Go.Proofs.YtkhgpnbhnipndaaGreatDoor.Am
end
section
/- The document's signs, each: what the program's do. -/
namespace Go.Proofs.YtkhgpnbhnipndaaGreatDoor.Am
open Go Go.Lib Go.RowKit Go.Proofs.YtkhgpnbhnipndaaGreatDoor.Nm Go.Proofs.YtkhgpnbhnipndaaGreatDoorW.PrintWords Go.Proofs.YtkhgpnbhnipndaaGreatDoor
set_option linter.unusedVariables false
set_option linter.unusedSimpArgs false
set_option maxRecDepth 100000
set_option maxHeartbeats 8000000
theorem rbit_runs (p : Bool) : Runs Tryz.prog 118 [bD p] (sD (numS (b01 p))) := by
  rw [← stold_num]
  cases p with
  | true =>
    refine Runs.wp Am.hT Am.hm Tryz.func118 rfl (by decide) ⟨[], [0, 2, 3], 4⟩ ?_; ((conv => whnf); repeat (refine Gq ?_; (conv => whnf)))
    exact TeA
  | false =>
    refine Runs.wp Am.hT Am.hm Tryz.func118 rfl (by decide) ⟨[], [0, 2, 3], 4⟩ ?_; ((conv => whnf); repeat (refine Gq ?_; (conv => whnf)))
    exact TeA
theorem cq {c d : UInt8} {b : Bool} (h : (c == d) = b) : ((⟨#[c]⟩ : ByteArray).toList == ByteArray.toList ⟨#[d]⟩) = b := by
  rw [← h, show (⟨#[c]⟩ : ByteArray).toList = [c] from ba_list [c], show ByteArray.toList ⟨#[d]⟩ = [d] from ba_list [d]]
  simp
theorem sgn_lt {z : Int} : sgn z < 0 ↔ z < 0 := by unfold sgn; split <;> (try split) <;> omega
theorem sgn_gt {z : Int} : sgn z > 0 ↔ 0 < z := by unfold sgn; split <;> (try split) <;> omega
theorem sgn_0 {z : Int} : sgn z = 0 ↔ z = 0 := by unfold sgn; split <;> (try split) <;> omega
section
variable {x y : Int} (hx : Nm.Sm x) (hy : Nm.Sm y)
include hx hy
theorem rd_43 : Runs Tryz.prog 60 [sD ⟨#[43]⟩, sD (numS x), sD (numS y)] (eD (dyZ 43 x y)) := by
  have m1 := nmay_runs hx
  have m2 := nmay_runs hy
  have cm := ncmp_runs hx hy
  have r := nadd_runs hx hy
  show Runs Tryz.prog 60 _ (eD (Nm.told (x + y)))
  refine Runs.wp Am.hT Am.hm Tryz.func60 rfl (by decide) ⟨[], [0, 1, 2, 6, 7, 8, 16, 20, 21, 28, 35, 42, 49, 56, 61, 66, 71, 89, 96], 98⟩ ?_; ((conv => whnf); repeat (refine Gq ?_; (conv => whnf)))
  ((conv => whnf); (refine HfA m1 ?_); ((conv => whnf); repeat (refine Gq ?_; (conv => whnf))))
  ((conv => whnf); (refine HfA m2 ?_); ((conv => whnf); repeat (refine Gq ?_; (conv => whnf))))
  ((conv => whnf); (refine HfA cm ?_); ((conv => whnf); repeat (refine Gq ?_; (conv => whnf))))
  refine litE (cq (c := 43) (d := 43) (b := true) (by decide)) ?_
  ((conv => whnf); repeat (refine Gq ?_; (conv => whnf)))
  ((conv => whnf); (refine HrA r ?_); ((conv => whnf); repeat (refine Gq ?_; (conv => whnf))))
  exact TeA
theorem rd_45 : Runs Tryz.prog 60 [sD ⟨#[45]⟩, sD (numS x), sD (numS y)] (eD (dyZ 45 x y)) := by
  have m1 := nmay_runs hx
  have m2 := nmay_runs hy
  have cm := ncmp_runs hx hy
  have r := nsub_runs hx hy
  show Runs Tryz.prog 60 _ (eD (Nm.told (x - y)))
  refine Runs.wp Am.hT Am.hm Tryz.func60 rfl (by decide) ⟨[], [0, 1, 2, 6, 7, 8, 16, 20, 21, 28, 35, 42, 49, 56, 61, 66, 71, 89, 96], 98⟩ ?_; ((conv => whnf); repeat (refine Gq ?_; (conv => whnf)))
  ((conv => whnf); (refine HfA m1 ?_); ((conv => whnf); repeat (refine Gq ?_; (conv => whnf))))
  ((conv => whnf); (refine HfA m2 ?_); ((conv => whnf); repeat (refine Gq ?_; (conv => whnf))))
  ((conv => whnf); (refine HfA cm ?_); ((conv => whnf); repeat (refine Gq ?_; (conv => whnf))))
  refine litE (cq (c := 45) (d := 43) (b := false) (by decide)) ?_
  ((conv => whnf); repeat (refine Gq ?_; (conv => whnf)))
  refine litE (cq (c := 45) (d := 45) (b := true) (by decide)) ?_
  ((conv => whnf); repeat (refine Gq ?_; (conv => whnf)))
  ((conv => whnf); (refine HrA r ?_); ((conv => whnf); repeat (refine Gq ?_; (conv => whnf))))
  exact TeA
theorem rd_42 : Runs Tryz.prog 60 [sD ⟨#[42]⟩, sD (numS x), sD (numS y)] (eD (dyZ 42 x y)) := by
  have m1 := nmay_runs hx
  have m2 := nmay_runs hy
  have cm := ncmp_runs hx hy
  have r := nmul_runs hx hy
  show Runs Tryz.prog 60 _ (eD (Nm.told (x * y)))
  refine Runs.wp Am.hT Am.hm Tryz.func60 rfl (by decide) ⟨[], [0, 1, 2, 6, 7, 8, 16, 20, 21, 28, 35, 42, 49, 56, 61, 66, 71, 89, 96], 98⟩ ?_; ((conv => whnf); repeat (refine Gq ?_; (conv => whnf)))
  ((conv => whnf); (refine HfA m1 ?_); ((conv => whnf); repeat (refine Gq ?_; (conv => whnf))))
  ((conv => whnf); (refine HfA m2 ?_); ((conv => whnf); repeat (refine Gq ?_; (conv => whnf))))
  ((conv => whnf); (refine HfA cm ?_); ((conv => whnf); repeat (refine Gq ?_; (conv => whnf))))
  refine litE (cq (c := 42) (d := 43) (b := false) (by decide)) ?_
  ((conv => whnf); repeat (refine Gq ?_; (conv => whnf)))
  refine litE (cq (c := 42) (d := 45) (b := false) (by decide)) ?_
  ((conv => whnf); repeat (refine Gq ?_; (conv => whnf)))
  refine litE (cq (c := 42) (d := 42) (b := true) (by decide)) ?_
  ((conv => whnf); repeat (refine Gq ?_; (conv => whnf)))
  ((conv => whnf); (refine HrA r ?_); ((conv => whnf); repeat (refine Gq ?_; (conv => whnf))))
  exact TeA
theorem rd_37 : Runs Tryz.prog 60 [sD ⟨#[37]⟩, sD (numS x), sD (numS y)] (eD (dyZ 37 x y)) := by
  have m1 := nmay_runs hx
  have m2 := nmay_runs hy
  have cm := ncmp_runs hx hy
  show Runs Tryz.prog 60 _ (eD (if y = 0 then (BA [], 5) else Nm.told (fl x y)))
  by_cases h0 : y = 0
  · subst h0
    rw [if_pos rfl]
    have r := ndiv0_runs hx
    refine Runs.wp Am.hT Am.hm Tryz.func60 rfl (by decide) ⟨[], [0, 1, 2, 6, 7, 8, 16, 20, 21, 28, 35, 42, 49, 56, 61, 66, 71, 89, 96], 98⟩ ?_; ((conv => whnf); repeat (refine Gq ?_; (conv => whnf)))
    ((conv => whnf); (refine HfA m1 ?_); ((conv => whnf); repeat (refine Gq ?_; (conv => whnf))))
    ((conv => whnf); (refine HfA m2 ?_); ((conv => whnf); repeat (refine Gq ?_; (conv => whnf))))
    ((conv => whnf); (refine HfA cm ?_); ((conv => whnf); repeat (refine Gq ?_; (conv => whnf))))
    refine litE (cq (c := 37) (d := 43) (b := false) (by decide)) ?_
    ((conv => whnf); repeat (refine Gq ?_; (conv => whnf)))
    refine litE (cq (c := 37) (d := 45) (b := false) (by decide)) ?_
    ((conv => whnf); repeat (refine Gq ?_; (conv => whnf)))
    refine litE (cq (c := 37) (d := 42) (b := false) (by decide)) ?_
    ((conv => whnf); repeat (refine Gq ?_; (conv => whnf)))
    refine litE (cq (c := 37) (d := 37) (b := true) (by decide)) ?_
    ((conv => whnf); repeat (refine Gq ?_; (conv => whnf)))
    ((conv => whnf); (refine HrA r ?_); ((conv => whnf); repeat (refine Gq ?_; (conv => whnf))))
    exact TeA
  · rw [if_neg h0]
    have r := ndiv_runs hx hy h0
    refine Runs.wp Am.hT Am.hm Tryz.func60 rfl (by decide) ⟨[], [0, 1, 2, 6, 7, 8, 16, 20, 21, 28, 35, 42, 49, 56, 61, 66, 71, 89, 96], 98⟩ ?_; ((conv => whnf); repeat (refine Gq ?_; (conv => whnf)))
    ((conv => whnf); (refine HfA m1 ?_); ((conv => whnf); repeat (refine Gq ?_; (conv => whnf))))
    ((conv => whnf); (refine HfA m2 ?_); ((conv => whnf); repeat (refine Gq ?_; (conv => whnf))))
    ((conv => whnf); (refine HfA cm ?_); ((conv => whnf); repeat (refine Gq ?_; (conv => whnf))))
    refine litE (cq (c := 37) (d := 43) (b := false) (by decide)) ?_
    ((conv => whnf); repeat (refine Gq ?_; (conv => whnf)))
    refine litE (cq (c := 37) (d := 45) (b := false) (by decide)) ?_
    ((conv => whnf); repeat (refine Gq ?_; (conv => whnf)))
    refine litE (cq (c := 37) (d := 42) (b := false) (by decide)) ?_
    ((conv => whnf); repeat (refine Gq ?_; (conv => whnf)))
    refine litE (cq (c := 37) (d := 37) (b := true) (by decide)) ?_
    ((conv => whnf); repeat (refine Gq ?_; (conv => whnf)))
    ((conv => whnf); (refine HrA r ?_); ((conv => whnf); repeat (refine Gq ?_; (conv => whnf))))
    exact TeA
theorem rd_33 : Runs Tryz.prog 60 [sD ⟨#[33]⟩, sD (numS x), sD (numS y)] (eD (dyZ 33 x y)) := by
  have m1 := nmay_runs hx
  have m2 := nmay_runs hy
  have cm := ncmp_runs hx hy
  show Runs Tryz.prog 60 _ (eD (if y = 0 then (BA [], 5) else Nm.told (fm x y)))
  by_cases h0 : y = 0
  · subst h0
    rw [if_pos rfl]
    have r := nmod0_runs hx
    refine Runs.wp Am.hT Am.hm Tryz.func60 rfl (by decide) ⟨[], [0, 1, 2, 6, 7, 8, 16, 20, 21, 28, 35, 42, 49, 56, 61, 66, 71, 89, 96], 98⟩ ?_; ((conv => whnf); repeat (refine Gq ?_; (conv => whnf)))
    ((conv => whnf); (refine HfA m1 ?_); ((conv => whnf); repeat (refine Gq ?_; (conv => whnf))))
    ((conv => whnf); (refine HfA m2 ?_); ((conv => whnf); repeat (refine Gq ?_; (conv => whnf))))
    ((conv => whnf); (refine HfA cm ?_); ((conv => whnf); repeat (refine Gq ?_; (conv => whnf))))
    refine litE (cq (c := 33) (d := 43) (b := false) (by decide)) ?_
    ((conv => whnf); repeat (refine Gq ?_; (conv => whnf)))
    refine litE (cq (c := 33) (d := 45) (b := false) (by decide)) ?_
    ((conv => whnf); repeat (refine Gq ?_; (conv => whnf)))
    refine litE (cq (c := 33) (d := 42) (b := false) (by decide)) ?_
    ((conv => whnf); repeat (refine Gq ?_; (conv => whnf)))
    refine litE (cq (c := 33) (d := 37) (b := false) (by decide)) ?_
    ((conv => whnf); repeat (refine Gq ?_; (conv => whnf)))
    refine litE (cq (c := 33) (d := 33) (b := true) (by decide)) ?_
    ((conv => whnf); repeat (refine Gq ?_; (conv => whnf)))
    ((conv => whnf); (refine HrA r ?_); ((conv => whnf); repeat (refine Gq ?_; (conv => whnf))))
    exact TeA
  · rw [if_neg h0]
    have r := nmod_runs hx hy h0
    refine Runs.wp Am.hT Am.hm Tryz.func60 rfl (by decide) ⟨[], [0, 1, 2, 6, 7, 8, 16, 20, 21, 28, 35, 42, 49, 56, 61, 66, 71, 89, 96], 98⟩ ?_; ((conv => whnf); repeat (refine Gq ?_; (conv => whnf)))
    ((conv => whnf); (refine HfA m1 ?_); ((conv => whnf); repeat (refine Gq ?_; (conv => whnf))))
    ((conv => whnf); (refine HfA m2 ?_); ((conv => whnf); repeat (refine Gq ?_; (conv => whnf))))
    ((conv => whnf); (refine HfA cm ?_); ((conv => whnf); repeat (refine Gq ?_; (conv => whnf))))
    refine litE (cq (c := 33) (d := 43) (b := false) (by decide)) ?_
    ((conv => whnf); repeat (refine Gq ?_; (conv => whnf)))
    refine litE (cq (c := 33) (d := 45) (b := false) (by decide)) ?_
    ((conv => whnf); repeat (refine Gq ?_; (conv => whnf)))
    refine litE (cq (c := 33) (d := 42) (b := false) (by decide)) ?_
    ((conv => whnf); repeat (refine Gq ?_; (conv => whnf)))
    refine litE (cq (c := 33) (d := 37) (b := false) (by decide)) ?_
    ((conv => whnf); repeat (refine Gq ?_; (conv => whnf)))
    refine litE (cq (c := 33) (d := 33) (b := true) (by decide)) ?_
    ((conv => whnf); repeat (refine Gq ?_; (conv => whnf)))
    ((conv => whnf); (refine HrA r ?_); ((conv => whnf); repeat (refine Gq ?_; (conv => whnf))))
    exact TeA
theorem rd_60 : Runs Tryz.prog 60 [sD ⟨#[60]⟩, sD (numS x), sD (numS y)] (eD (dyZ 60 x y)) := by
  have m1 := nmay_runs hx
  have m2 := nmay_runs hy
  have cm := ncmp_runs hx hy
  have t : decide (sgn (x - y) < 0) = decide (x < y) := decide_eq_decide.2 (by rw [sgn_lt]; omega)
  have r := rbit_runs (decide (x < y))
  show Runs Tryz.prog 60 _ (eD (numS (b01 (decide (x < y))), 0))
  refine Runs.wp Am.hT Am.hm Tryz.func60 rfl (by decide) ⟨[], [0, 1, 2, 6, 7, 8, 16, 20, 21, 28, 35, 42, 49, 56, 61, 66, 71, 89, 96], 98⟩ ?_; ((conv => whnf); repeat (refine Gq ?_; (conv => whnf)))
  ((conv => whnf); (refine HfA m1 ?_); ((conv => whnf); repeat (refine Gq ?_; (conv => whnf))))
  ((conv => whnf); (refine HfA m2 ?_); ((conv => whnf); repeat (refine Gq ?_; (conv => whnf))))
  ((conv => whnf); (refine HfA cm ?_); ((conv => whnf); repeat (refine Gq ?_; (conv => whnf))))
  refine litE (cq (c := 60) (d := 43) (b := false) (by decide)) ?_
  ((conv => whnf); repeat (refine Gq ?_; (conv => whnf)))
  refine litE (cq (c := 60) (d := 45) (b := false) (by decide)) ?_
  ((conv => whnf); repeat (refine Gq ?_; (conv => whnf)))
  refine litE (cq (c := 60) (d := 42) (b := false) (by decide)) ?_
  ((conv => whnf); repeat (refine Gq ?_; (conv => whnf)))
  refine litE (cq (c := 60) (d := 37) (b := false) (by decide)) ?_
  ((conv => whnf); repeat (refine Gq ?_; (conv => whnf)))
  refine litE (cq (c := 60) (d := 33) (b := false) (by decide)) ?_
  ((conv => whnf); repeat (refine Gq ?_; (conv => whnf)))
  refine litE (cq (c := 60) (d := 60) (b := true) (by decide)) ?_
  ((conv => whnf); repeat (refine Gq ?_; (conv => whnf)))
  refine litE t ?_
  ((conv => whnf); repeat (refine Gq ?_; (conv => whnf)))
  ((conv => whnf); (refine HfA r ?_); ((conv => whnf); repeat (refine Gq ?_; (conv => whnf))))
  exact TeA
theorem rd_62 : Runs Tryz.prog 60 [sD ⟨#[62]⟩, sD (numS x), sD (numS y)] (eD (dyZ 62 x y)) := by
  have m1 := nmay_runs hx
  have m2 := nmay_runs hy
  have cm := ncmp_runs hx hy
  have t : decide (sgn (x - y) > 0) = decide (y < x) := decide_eq_decide.2 (by rw [sgn_gt]; omega)
  have r := rbit_runs (decide (y < x))
  show Runs Tryz.prog 60 _ (eD (numS (b01 (decide (y < x))), 0))
  refine Runs.wp Am.hT Am.hm Tryz.func60 rfl (by decide) ⟨[], [0, 1, 2, 6, 7, 8, 16, 20, 21, 28, 35, 42, 49, 56, 61, 66, 71, 89, 96], 98⟩ ?_; ((conv => whnf); repeat (refine Gq ?_; (conv => whnf)))
  ((conv => whnf); (refine HfA m1 ?_); ((conv => whnf); repeat (refine Gq ?_; (conv => whnf))))
  ((conv => whnf); (refine HfA m2 ?_); ((conv => whnf); repeat (refine Gq ?_; (conv => whnf))))
  ((conv => whnf); (refine HfA cm ?_); ((conv => whnf); repeat (refine Gq ?_; (conv => whnf))))
  refine litE (cq (c := 62) (d := 43) (b := false) (by decide)) ?_
  ((conv => whnf); repeat (refine Gq ?_; (conv => whnf)))
  refine litE (cq (c := 62) (d := 45) (b := false) (by decide)) ?_
  ((conv => whnf); repeat (refine Gq ?_; (conv => whnf)))
  refine litE (cq (c := 62) (d := 42) (b := false) (by decide)) ?_
  ((conv => whnf); repeat (refine Gq ?_; (conv => whnf)))
  refine litE (cq (c := 62) (d := 37) (b := false) (by decide)) ?_
  ((conv => whnf); repeat (refine Gq ?_; (conv => whnf)))
  refine litE (cq (c := 62) (d := 33) (b := false) (by decide)) ?_
  ((conv => whnf); repeat (refine Gq ?_; (conv => whnf)))
  refine litE (cq (c := 62) (d := 60) (b := false) (by decide)) ?_
  ((conv => whnf); repeat (refine Gq ?_; (conv => whnf)))
  refine litE (cq (c := 62) (d := 62) (b := true) (by decide)) ?_
  ((conv => whnf); repeat (refine Gq ?_; (conv => whnf)))
  refine litE t ?_
  ((conv => whnf); repeat (refine Gq ?_; (conv => whnf)))
  ((conv => whnf); (refine HfA r ?_); ((conv => whnf); repeat (refine Gq ?_; (conv => whnf))))
  exact TeA
theorem rd_61 : Runs Tryz.prog 60 [sD ⟨#[61]⟩, sD (numS x), sD (numS y)] (eD (dyZ 61 x y)) := by
  have m1 := nmay_runs hx
  have m2 := nmay_runs hy
  have cm := ncmp_runs hx hy
  have t : (sgn (x - y) == 0) = decide (x = y) := by rw [Bool.eq_iff_iff, beq_iff_eq, decide_eq_true_iff, sgn_0]; omega
  have r := rbit_runs (decide (x = y))
  show Runs Tryz.prog 60 _ (eD (numS (b01 (decide (x = y))), 0))
  refine Runs.wp Am.hT Am.hm Tryz.func60 rfl (by decide) ⟨[], [0, 1, 2, 6, 7, 8, 16, 20, 21, 28, 35, 42, 49, 56, 61, 66, 71, 89, 96], 98⟩ ?_; ((conv => whnf); repeat (refine Gq ?_; (conv => whnf)))
  ((conv => whnf); (refine HfA m1 ?_); ((conv => whnf); repeat (refine Gq ?_; (conv => whnf))))
  ((conv => whnf); (refine HfA m2 ?_); ((conv => whnf); repeat (refine Gq ?_; (conv => whnf))))
  ((conv => whnf); (refine HfA cm ?_); ((conv => whnf); repeat (refine Gq ?_; (conv => whnf))))
  refine litE (cq (c := 61) (d := 43) (b := false) (by decide)) ?_
  ((conv => whnf); repeat (refine Gq ?_; (conv => whnf)))
  refine litE (cq (c := 61) (d := 45) (b := false) (by decide)) ?_
  ((conv => whnf); repeat (refine Gq ?_; (conv => whnf)))
  refine litE (cq (c := 61) (d := 42) (b := false) (by decide)) ?_
  ((conv => whnf); repeat (refine Gq ?_; (conv => whnf)))
  refine litE (cq (c := 61) (d := 37) (b := false) (by decide)) ?_
  ((conv => whnf); repeat (refine Gq ?_; (conv => whnf)))
  refine litE (cq (c := 61) (d := 33) (b := false) (by decide)) ?_
  ((conv => whnf); repeat (refine Gq ?_; (conv => whnf)))
  refine litE (cq (c := 61) (d := 60) (b := false) (by decide)) ?_
  ((conv => whnf); repeat (refine Gq ?_; (conv => whnf)))
  refine litE (cq (c := 61) (d := 62) (b := false) (by decide)) ?_
  ((conv => whnf); repeat (refine Gq ?_; (conv => whnf)))
  refine litE (cq (c := 61) (d := 61) (b := true) (by decide)) ?_
  ((conv => whnf); repeat (refine Gq ?_; (conv => whnf)))
  refine litE t ?_
  ((conv => whnf); repeat (refine Gq ?_; (conv => whnf)))
  ((conv => whnf); (refine HfA r ?_); ((conv => whnf); repeat (refine Gq ?_; (conv => whnf))))
  exact TeA
theorem rd_126 : Runs Tryz.prog 60 [sD ⟨#[126]⟩, sD (numS x), sD (numS y)] (eD (dyZ 126 x y)) := by
  have m1 := nmay_runs hx
  have m2 := nmay_runs hy
  have cm := ncmp_runs hx hy
  have t : (!(sgn (x - y) == 0)) = (!decide (x = y)) := by rw [show (sgn (x - y) == 0) = decide (x = y) by rw [Bool.eq_iff_iff, beq_iff_eq, decide_eq_true_iff, sgn_0]; omega]
  have r := rbit_runs ((!decide (x = y)))
  show Runs Tryz.prog 60 _ (eD (numS (b01 ((!decide (x = y)))), 0))
  refine Runs.wp Am.hT Am.hm Tryz.func60 rfl (by decide) ⟨[], [0, 1, 2, 6, 7, 8, 16, 20, 21, 28, 35, 42, 49, 56, 61, 66, 71, 89, 96], 98⟩ ?_; ((conv => whnf); repeat (refine Gq ?_; (conv => whnf)))
  ((conv => whnf); (refine HfA m1 ?_); ((conv => whnf); repeat (refine Gq ?_; (conv => whnf))))
  ((conv => whnf); (refine HfA m2 ?_); ((conv => whnf); repeat (refine Gq ?_; (conv => whnf))))
  ((conv => whnf); (refine HfA cm ?_); ((conv => whnf); repeat (refine Gq ?_; (conv => whnf))))
  refine litE (cq (c := 126) (d := 43) (b := false) (by decide)) ?_
  ((conv => whnf); repeat (refine Gq ?_; (conv => whnf)))
  refine litE (cq (c := 126) (d := 45) (b := false) (by decide)) ?_
  ((conv => whnf); repeat (refine Gq ?_; (conv => whnf)))
  refine litE (cq (c := 126) (d := 42) (b := false) (by decide)) ?_
  ((conv => whnf); repeat (refine Gq ?_; (conv => whnf)))
  refine litE (cq (c := 126) (d := 37) (b := false) (by decide)) ?_
  ((conv => whnf); repeat (refine Gq ?_; (conv => whnf)))
  refine litE (cq (c := 126) (d := 33) (b := false) (by decide)) ?_
  ((conv => whnf); repeat (refine Gq ?_; (conv => whnf)))
  refine litE (cq (c := 126) (d := 60) (b := false) (by decide)) ?_
  ((conv => whnf); repeat (refine Gq ?_; (conv => whnf)))
  refine litE (cq (c := 126) (d := 62) (b := false) (by decide)) ?_
  ((conv => whnf); repeat (refine Gq ?_; (conv => whnf)))
  refine litE (cq (c := 126) (d := 61) (b := false) (by decide)) ?_
  ((conv => whnf); repeat (refine Gq ?_; (conv => whnf)))
  refine litE (cq (c := 126) (d := 126) (b := true) (by decide)) ?_
  ((conv => whnf); repeat (refine Gq ?_; (conv => whnf)))
  refine litE t ?_
  ((conv => whnf); repeat (refine Gq ?_; (conv => whnf)))
  ((conv => whnf); (refine HfA r ?_); ((conv => whnf); repeat (refine Gq ?_; (conv => whnf))))
  exact TeA
theorem rd_38 : Runs Tryz.prog 60 [sD ⟨#[38]⟩, sD (numS x), sD (numS y)] (eD (dyZ 38 x y)) := by
  have m1 := nmay_runs hx
  have m2 := nmay_runs hy
  have cm := ncmp_runs hx hy
  show Runs Tryz.prog 60 _ (eD (numS (if decide (x ≤ y) = true then x else y), 0))
  by_cases h : x < y
  · have t : decide (sgn (x - y) < 0) = true := by rw [decide_eq_true_iff, sgn_lt]; omega
    rw [if_pos (by rw [decide_eq_true_iff]; omega)]
    refine Runs.wp Am.hT Am.hm Tryz.func60 rfl (by decide) ⟨[], [0, 1, 2, 6, 7, 8, 16, 20, 21, 28, 35, 42, 49, 56, 61, 66, 71, 89, 96], 98⟩ ?_; ((conv => whnf); repeat (refine Gq ?_; (conv => whnf)))
    ((conv => whnf); (refine HfA m1 ?_); ((conv => whnf); repeat (refine Gq ?_; (conv => whnf))))
    ((conv => whnf); (refine HfA m2 ?_); ((conv => whnf); repeat (refine Gq ?_; (conv => whnf))))
    ((conv => whnf); (refine HfA cm ?_); ((conv => whnf); repeat (refine Gq ?_; (conv => whnf))))
    refine litE (cq (c := 38) (d := 43) (b := false) (by decide)) ?_
    ((conv => whnf); repeat (refine Gq ?_; (conv => whnf)))
    refine litE (cq (c := 38) (d := 45) (b := false) (by decide)) ?_
    ((conv => whnf); repeat (refine Gq ?_; (conv => whnf)))
    refine litE (cq (c := 38) (d := 42) (b := false) (by decide)) ?_
    ((conv => whnf); repeat (refine Gq ?_; (conv => whnf)))
    refine litE (cq (c := 38) (d := 37) (b := false) (by decide)) ?_
    ((conv => whnf); repeat (refine Gq ?_; (conv => whnf)))
    refine litE (cq (c := 38) (d := 33) (b := false) (by decide)) ?_
    ((conv => whnf); repeat (refine Gq ?_; (conv => whnf)))
    refine litE (cq (c := 38) (d := 60) (b := false) (by decide)) ?_
    ((conv => whnf); repeat (refine Gq ?_; (conv => whnf)))
    refine litE (cq (c := 38) (d := 62) (b := false) (by decide)) ?_
    ((conv => whnf); repeat (refine Gq ?_; (conv => whnf)))
    refine litE (cq (c := 38) (d := 61) (b := false) (by decide)) ?_
    ((conv => whnf); repeat (refine Gq ?_; (conv => whnf)))
    refine litE (cq (c := 38) (d := 126) (b := false) (by decide)) ?_
    ((conv => whnf); repeat (refine Gq ?_; (conv => whnf)))
    refine litE (cq (c := 38) (d := 38) (b := true) (by decide)) ?_
    ((conv => whnf); repeat (refine Gq ?_; (conv => whnf)))
    refine litE t ?_
    ((conv => whnf); repeat (refine Gq ?_; (conv => whnf)))
    exact TeA
  · have t : decide (sgn (x - y) < 0) = false := by rw [decide_eq_false_iff_not, sgn_lt]; omega
    rw [show (if decide (x ≤ y) = true then x else y) = y by
      split
      · rename_i h2
        rw [decide_eq_true_iff] at h2
        omega
      · rfl]
    refine Runs.wp Am.hT Am.hm Tryz.func60 rfl (by decide) ⟨[], [0, 1, 2, 6, 7, 8, 16, 20, 21, 28, 35, 42, 49, 56, 61, 66, 71, 89, 96], 98⟩ ?_; ((conv => whnf); repeat (refine Gq ?_; (conv => whnf)))
    ((conv => whnf); (refine HfA m1 ?_); ((conv => whnf); repeat (refine Gq ?_; (conv => whnf))))
    ((conv => whnf); (refine HfA m2 ?_); ((conv => whnf); repeat (refine Gq ?_; (conv => whnf))))
    ((conv => whnf); (refine HfA cm ?_); ((conv => whnf); repeat (refine Gq ?_; (conv => whnf))))
    refine litE (cq (c := 38) (d := 43) (b := false) (by decide)) ?_
    ((conv => whnf); repeat (refine Gq ?_; (conv => whnf)))
    refine litE (cq (c := 38) (d := 45) (b := false) (by decide)) ?_
    ((conv => whnf); repeat (refine Gq ?_; (conv => whnf)))
    refine litE (cq (c := 38) (d := 42) (b := false) (by decide)) ?_
    ((conv => whnf); repeat (refine Gq ?_; (conv => whnf)))
    refine litE (cq (c := 38) (d := 37) (b := false) (by decide)) ?_
    ((conv => whnf); repeat (refine Gq ?_; (conv => whnf)))
    refine litE (cq (c := 38) (d := 33) (b := false) (by decide)) ?_
    ((conv => whnf); repeat (refine Gq ?_; (conv => whnf)))
    refine litE (cq (c := 38) (d := 60) (b := false) (by decide)) ?_
    ((conv => whnf); repeat (refine Gq ?_; (conv => whnf)))
    refine litE (cq (c := 38) (d := 62) (b := false) (by decide)) ?_
    ((conv => whnf); repeat (refine Gq ?_; (conv => whnf)))
    refine litE (cq (c := 38) (d := 61) (b := false) (by decide)) ?_
    ((conv => whnf); repeat (refine Gq ?_; (conv => whnf)))
    refine litE (cq (c := 38) (d := 126) (b := false) (by decide)) ?_
    ((conv => whnf); repeat (refine Gq ?_; (conv => whnf)))
    refine litE (cq (c := 38) (d := 38) (b := true) (by decide)) ?_
    ((conv => whnf); repeat (refine Gq ?_; (conv => whnf)))
    refine litE t ?_
    ((conv => whnf); repeat (refine Gq ?_; (conv => whnf)))
    refine litE (cq (c := 38) (d := 124) (b := false) (by decide)) ?_
    ((conv => whnf); repeat (refine Gq ?_; (conv => whnf)))
    refine litE (cq (c := 38) (d := 38) (b := true) (by decide)) ?_
    ((conv => whnf); repeat (refine Gq ?_; (conv => whnf)))
    exact TeA
theorem rd_124 : Runs Tryz.prog 60 [sD ⟨#[124]⟩, sD (numS x), sD (numS y)] (eD (dyZ 124 x y)) := by
  have m1 := nmay_runs hx
  have m2 := nmay_runs hy
  have cm := ncmp_runs hx hy
  show Runs Tryz.prog 60 _ (eD (numS (if decide (y ≤ x) = true then x else y), 0))
  by_cases h : y < x
  · have t : decide (sgn (x - y) > 0) = true := by rw [decide_eq_true_iff, sgn_gt]; omega
    rw [if_pos (by rw [decide_eq_true_iff]; omega)]
    refine Runs.wp Am.hT Am.hm Tryz.func60 rfl (by decide) ⟨[], [0, 1, 2, 6, 7, 8, 16, 20, 21, 28, 35, 42, 49, 56, 61, 66, 71, 89, 96], 98⟩ ?_; ((conv => whnf); repeat (refine Gq ?_; (conv => whnf)))
    ((conv => whnf); (refine HfA m1 ?_); ((conv => whnf); repeat (refine Gq ?_; (conv => whnf))))
    ((conv => whnf); (refine HfA m2 ?_); ((conv => whnf); repeat (refine Gq ?_; (conv => whnf))))
    ((conv => whnf); (refine HfA cm ?_); ((conv => whnf); repeat (refine Gq ?_; (conv => whnf))))
    refine litE (cq (c := 124) (d := 43) (b := false) (by decide)) ?_
    ((conv => whnf); repeat (refine Gq ?_; (conv => whnf)))
    refine litE (cq (c := 124) (d := 45) (b := false) (by decide)) ?_
    ((conv => whnf); repeat (refine Gq ?_; (conv => whnf)))
    refine litE (cq (c := 124) (d := 42) (b := false) (by decide)) ?_
    ((conv => whnf); repeat (refine Gq ?_; (conv => whnf)))
    refine litE (cq (c := 124) (d := 37) (b := false) (by decide)) ?_
    ((conv => whnf); repeat (refine Gq ?_; (conv => whnf)))
    refine litE (cq (c := 124) (d := 33) (b := false) (by decide)) ?_
    ((conv => whnf); repeat (refine Gq ?_; (conv => whnf)))
    refine litE (cq (c := 124) (d := 60) (b := false) (by decide)) ?_
    ((conv => whnf); repeat (refine Gq ?_; (conv => whnf)))
    refine litE (cq (c := 124) (d := 62) (b := false) (by decide)) ?_
    ((conv => whnf); repeat (refine Gq ?_; (conv => whnf)))
    refine litE (cq (c := 124) (d := 61) (b := false) (by decide)) ?_
    ((conv => whnf); repeat (refine Gq ?_; (conv => whnf)))
    refine litE (cq (c := 124) (d := 126) (b := false) (by decide)) ?_
    ((conv => whnf); repeat (refine Gq ?_; (conv => whnf)))
    refine litE (cq (c := 124) (d := 38) (b := false) (by decide)) ?_
    ((conv => whnf); repeat (refine Gq ?_; (conv => whnf)))
    refine litE (cq (c := 124) (d := 124) (b := true) (by decide)) ?_
    ((conv => whnf); repeat (refine Gq ?_; (conv => whnf)))
    refine litE t ?_
    ((conv => whnf); repeat (refine Gq ?_; (conv => whnf)))
    exact TeA
  · have t : decide (sgn (x - y) > 0) = false := by rw [decide_eq_false_iff_not, sgn_gt]; omega
    rw [show (if decide (y ≤ x) = true then x else y) = y by
      split
      · rename_i h2
        rw [decide_eq_true_iff] at h2
        omega
      · rfl]
    refine Runs.wp Am.hT Am.hm Tryz.func60 rfl (by decide) ⟨[], [0, 1, 2, 6, 7, 8, 16, 20, 21, 28, 35, 42, 49, 56, 61, 66, 71, 89, 96], 98⟩ ?_; ((conv => whnf); repeat (refine Gq ?_; (conv => whnf)))
    ((conv => whnf); (refine HfA m1 ?_); ((conv => whnf); repeat (refine Gq ?_; (conv => whnf))))
    ((conv => whnf); (refine HfA m2 ?_); ((conv => whnf); repeat (refine Gq ?_; (conv => whnf))))
    ((conv => whnf); (refine HfA cm ?_); ((conv => whnf); repeat (refine Gq ?_; (conv => whnf))))
    refine litE (cq (c := 124) (d := 43) (b := false) (by decide)) ?_
    ((conv => whnf); repeat (refine Gq ?_; (conv => whnf)))
    refine litE (cq (c := 124) (d := 45) (b := false) (by decide)) ?_
    ((conv => whnf); repeat (refine Gq ?_; (conv => whnf)))
    refine litE (cq (c := 124) (d := 42) (b := false) (by decide)) ?_
    ((conv => whnf); repeat (refine Gq ?_; (conv => whnf)))
    refine litE (cq (c := 124) (d := 37) (b := false) (by decide)) ?_
    ((conv => whnf); repeat (refine Gq ?_; (conv => whnf)))
    refine litE (cq (c := 124) (d := 33) (b := false) (by decide)) ?_
    ((conv => whnf); repeat (refine Gq ?_; (conv => whnf)))
    refine litE (cq (c := 124) (d := 60) (b := false) (by decide)) ?_
    ((conv => whnf); repeat (refine Gq ?_; (conv => whnf)))
    refine litE (cq (c := 124) (d := 62) (b := false) (by decide)) ?_
    ((conv => whnf); repeat (refine Gq ?_; (conv => whnf)))
    refine litE (cq (c := 124) (d := 61) (b := false) (by decide)) ?_
    ((conv => whnf); repeat (refine Gq ?_; (conv => whnf)))
    refine litE (cq (c := 124) (d := 126) (b := false) (by decide)) ?_
    ((conv => whnf); repeat (refine Gq ?_; (conv => whnf)))
    refine litE (cq (c := 124) (d := 38) (b := false) (by decide)) ?_
    ((conv => whnf); repeat (refine Gq ?_; (conv => whnf)))
    refine litE (cq (c := 124) (d := 124) (b := true) (by decide)) ?_
    ((conv => whnf); repeat (refine Gq ?_; (conv => whnf)))
    refine litE t ?_
    ((conv => whnf); repeat (refine Gq ?_; (conv => whnf)))
    refine litE (cq (c := 124) (d := 38) (b := false) (by decide)) ?_
    ((conv => whnf); repeat (refine Gq ?_; (conv => whnf)))
    refine litE (cq (c := 124) (d := 124) (b := true) (by decide)) ?_
    ((conv => whnf); repeat (refine Gq ?_; (conv => whnf)))
    exact TeA
theorem rdyZ_runs {c : UInt8} (hc : c ∈ ([43, 45, 42, 37, 33, 38, 124, 60, 62, 61, 126] : List UInt8)) : Runs Tryz.prog 60 [sD ⟨#[c]⟩, sD (numS x), sD (numS y)] (eD (dyZ c x y)) := by
  simp only [List.mem_cons, List.not_mem_nil, or_false] at hc
  rcases hc with rfl | rfl | rfl | rfl | rfl | rfl | rfl | rfl | rfl | rfl | rfl
  · exact rd_43 hx hy
  · exact rd_45 hx hy
  · exact rd_42 hx hy
  · exact rd_37 hx hy
  · exact rd_33 hx hy
  · exact rd_38 hx hy
  · exact rd_124 hx hy
  · exact rd_60 hx hy
  · exact rd_62 hx hy
  · exact rd_61 hx hy
  · exact rd_126 hx hy
end
theorem rsd_runs {op a b : ByteArray} (ho : sgB dyS op = true) (ha : mayB a = true) (hb : mayB b = true) : Runs Tryz.prog 60 [sD op, sD a, sD b] (eD (sd op a b)) := by
  obtain ⟨c, rfl, hc⟩ := sg_dy ho
  obtain ⟨x, rfl, hx⟩ := num_mayB ha
  obtain ⟨y, rfl, hy⟩ := num_mayB hb
  rw [sd_num]
  exact rdyZ_runs hx hy hc
theorem rmo_45 {x : Int} (hx : Nm.Sm x) : Runs Tryz.prog 111 [sD ⟨#[45]⟩, sD (numS x)] (eD (moZ 45 x, 0)) := by
  have m1 := nmay_runs hx
  have r := nneg_runs hx
  show Runs Tryz.prog 111 _ (eD (numS (-x), 0))
  refine Runs.wp Am.hT Am.hm Tryz.func111 rfl (by decide) ⟨[], [0, 1, 4, 5, 8, 9, 10, 14, 19], 24⟩ ?_; ((conv => whnf); repeat (refine Gq ?_; (conv => whnf)))
  ((conv => whnf); (refine HfA m1 ?_); ((conv => whnf); repeat (refine Gq ?_; (conv => whnf))))
  refine litE (cq (c := 45) (d := 45) (b := true) (by decide)) ?_
  ((conv => whnf); repeat (refine Gq ?_; (conv => whnf)))
  ((conv => whnf); (refine HfA r ?_); ((conv => whnf); repeat (refine Gq ?_; (conv => whnf))))
  exact TeA
theorem rmo_126 {x : Int} (hx : Nm.Sm x) : Runs Tryz.prog 111 [sD ⟨#[126]⟩, sD (numS x)] (eD (moZ 126 x, 0)) := by
  have m1 := nmay_runs hx
  have t := eqz x
  have r := rbit_runs (decide (x = 0))
  show Runs Tryz.prog 111 _ (eD (numS (b01 (decide (x = 0))), 0))
  refine Runs.wp Am.hT Am.hm Tryz.func111 rfl (by decide) ⟨[], [0, 1, 4, 5, 8, 9, 10, 14, 19], 24⟩ ?_; ((conv => whnf); repeat (refine Gq ?_; (conv => whnf)))
  ((conv => whnf); (refine HfA m1 ?_); ((conv => whnf); repeat (refine Gq ?_; (conv => whnf))))
  refine litE (cq (c := 126) (d := 45) (b := false) (by decide)) ?_
  ((conv => whnf); repeat (refine Gq ?_; (conv => whnf)))
  refine litE (cq (c := 126) (d := 126) (b := true) (by decide)) ?_
  ((conv => whnf); repeat (refine Gq ?_; (conv => whnf)))
  refine litE t ?_
  ((conv => whnf); repeat (refine Gq ?_; (conv => whnf)))
  ((conv => whnf); (refine HfA r ?_); ((conv => whnf); repeat (refine Gq ?_; (conv => whnf))))
  exact TeA
theorem rmo_42 {x : Int} (hx : Nm.Sm x) : Runs Tryz.prog 111 [sD ⟨#[42]⟩, sD (numS x)] (eD (moZ 42 x, 0)) := by
  have m1 := nmay_runs hx
  have r := nsign_runs hx
  have r2 := nof_runs (x := sgn x) (by unfold sgn; split; exact .inl rfl; split; exact .inr (.inl rfl); exact .inr (.inr rfl))
  show Runs Tryz.prog 111 _ (eD (numS (sgn x), 0))
  refine Runs.wp Am.hT Am.hm Tryz.func111 rfl (by decide) ⟨[], [0, 1, 4, 5, 8, 9, 10, 14, 19], 24⟩ ?_; ((conv => whnf); repeat (refine Gq ?_; (conv => whnf)))
  ((conv => whnf); (refine HfA m1 ?_); ((conv => whnf); repeat (refine Gq ?_; (conv => whnf))))
  refine litE (cq (c := 42) (d := 45) (b := false) (by decide)) ?_
  ((conv => whnf); repeat (refine Gq ?_; (conv => whnf)))
  refine litE (cq (c := 42) (d := 126) (b := false) (by decide)) ?_
  ((conv => whnf); repeat (refine Gq ?_; (conv => whnf)))
  refine litE (cq (c := 42) (d := 42) (b := true) (by decide)) ?_
  ((conv => whnf); repeat (refine Gq ?_; (conv => whnf)))
  ((conv => whnf); (refine HfA r ?_); ((conv => whnf); repeat (refine Gq ?_; (conv => whnf))))
  ((conv => whnf); (refine HfA r2 ?_); ((conv => whnf); repeat (refine Gq ?_; (conv => whnf))))
  exact TeA
theorem rsmo_runs {op a : ByteArray} (ho : sgB moS op = true) (ha : mayB a = true) : Runs Tryz.prog 111 [sD op, sD a] (eD (smo op a, 0)) := by
  obtain ⟨x, rfl, hx⟩ := num_mayB ha
  unfold sgB at ho
  split at ho
  · rename_i c hc
    rw [ba_of op, hc]
    have hm : c ∈ ([45, 126, 42] : List UInt8) := by simpa [moS] using ho
    show Runs Tryz.prog 111 [sD ⟨#[c]⟩, sD (numS x)] (eD (smo ⟨#[c]⟩ (numS x), 0))
    rw [smo_num]
    simp only [List.mem_cons, List.not_mem_nil, or_false] at hm
    rcases hm with rfl | rfl | rfl
    · exact rmo_45 hx
    · exact rmo_126 hx
    · exact rmo_42 hx
  · cases ho
end Go.Proofs.YtkhgpnbhnipndaaGreatDoor.Am
end
section
/- spread.Dyad, told whole. -/
namespace Go.Proofs.YtkhgpnbhnipndaaGreatDoor.Am
open Go Go.RowKit Go.Proofs.YtkhgpnbhnipndaaGreatDoor.Sh
set_option linter.unusedVariables false
set_option linter.unusedSimpArgs false
set_option maxRecDepth 100000
set_option maxHeartbeats 8000000
theorem good_iff {s : List Int} {e : List ByteArray} : good s e = true ↔ sizeS s = ((e.length : Int), 0) ∧ ∀ b ∈ e, mayB b = true := by
  unfold good
  generalize sizeS s = q
  obtain ⟨n, x⟩ := q
  simp only [Bool.and_eq_true, decide_eq_true_eq, List.all_eq_true, Prod.mk.injEq]
  constructor
  · rintro ⟨⟨h1, h2⟩, h3⟩
    exact ⟨⟨h2.symm, h1⟩, h3⟩
  · rintro ⟨⟨h1, h2⟩, h3⟩
    exact ⟨⟨h2, h1.symm⟩, h3⟩
theorem good_size {s : List Int} {e : List ByteArray} (h : good s e = true) : sizeS s = ((e.length : Int), 0) := (good_iff.1 h).1
theorem good_all {s : List Int} {e : List ByteArray} (h : good s e = true) : ∀ b ∈ e, mayB b = true := (good_iff.1 h).2
theorem good_few {s : List Int} {e : List ByteArray} (h : good s e = true) : e.length ≤ 4096 := by
  rcases (size_ok (good_size h)).2.2 with ⟨_, h⟩ | ⟨_, _, _, h⟩ <;> omega
end Go.Proofs.YtkhgpnbhnipndaaGreatDoor.Am
end
section
/- The statements' head: the document's example; few. -/
namespace Go.Proofs.YtkhgpnbhnipndaaGreatDoor.Am
open Go Go.RowKit Go.Proofs.YtkhgpnbhnipndaaGreatDoor.Sh
set_option linter.unusedVariables false
set_option linter.unusedSimpArgs false
set_option maxRecDepth 100000
set_option maxHeartbeats 8000000
/-- few enough -/
def fewB (s : List Int) (e : List ByteArray) : Bool := (e.take 301).all (fun x => decide (x.size ≤ 120)) && decide (e.length ≤ 300) && decide (s.length ≤ 20)
theorem few_of {s : List Int} {e : List ByteArray} (h : fewB s e = true) : e.length ≤ 300 ∧ s.length ≤ 20 ∧ ∀ x ∈ e, x.size ≤ 120 := by
  unfold fewB at h
  simp only [Bool.and_eq_true, decide_eq_true_eq, List.all_eq_true] at h
  obtain ⟨⟨h1, h2⟩, h3⟩ := h
  rw [List.take_of_length_le (by omega)] at h1
  exact ⟨h2, h3, h1⟩
theorem few_runs (s : List Int) (e : List ByteArray) (hs : s.length ≤ 9223372036854775807) (he : e.length ≤ 9223372036854775807) : Runs Tryz.prog 37 [vD s e none none] (bD (fewB s e)) := by
  refine Runs.wp Am.hT Am.hm Tryz.func37 rfl (by decide) ⟨[], [0, 1, 2, 3, 12, 21], 32⟩ ?_; ((conv => whnf); repeat (refine Gq ?_; (conv => whnf)))
  refine loop_ind (fun k (i : Nat) => i + k = 302 ∧ i ≤ e.length ∧ i ≤ 301 ∧ fewB s e = ((((e.take 301).drop i).all (fun x => decide (x.size ≤ 120))) && decide (e.length ≤ 300) && decide (s.length ≤ 20))) (fun i => { t := pin [(1, .pt 0 0), (2, .d (bD false)), (3, .d (iD i))], N := 32, h := hpin [some (.st 47 [.d (rI s none), .d (rS e none)])], n := 1, lo := 0 }) (fun i h => by omega) ?_ 302 0 ⟨by omega, by omega, by omega, rfl⟩ _ ?_
  · rintro k i R ih ⟨hk, hi, hi2, hq⟩
    rw [hq]
    have hend : ¬ (i < e.length ∧ i < 301) → ((((e.take 301).drop i).all (fun x => decide (x.size ≤ 120))) && decide (e.length ≤ 300) && decide (s.length ≤ 20)) = (decide (e.length ≤ 300) && decide (s.length ≤ 20)) := fun h => by
      rw [List.drop_eq_nil_of_le (by rw [List.length_take]; omega)]
      simp
    have g1 : decide (((e.length : Nat) : Int) ≤ 300) = decide (e.length ≤ 300) := by rw [decide_eq_decide]; omega
    have g2 : decide (((s.length : Nat) : Int) ≤ 20) = decide (s.length ≤ 20) := by rw [decide_eq_decide]; omega
    by_cases hl1 : i < e.length
    · have t1 : decide ((i : Int) < (e.length : Int)) = true := by simpa using hl1
      by_cases hl2 : i < 301
      · have t2 : decide ((i : Int) < 301) = true := by rw [decide_eq_true_iff]; omega
        have hlt : i < (e.take 301).length := by rw [List.length_take]; omega
        have hd : (e.take 301).drop i = e[i] :: (e.take 301).drop (i + 1) := by
          rw [List.drop_eq_getElem_cons hlt, List.getElem_take]
        have hix : (e.map sD)[(i : Int).toNat * 1]? = some (sD e[i]) := ixm (j := i) (by simp [hl1]) (by simp)
        rw [hd, List.all_cons] at hq ⊢
        by_cases hb : e[i].size ≤ 120
        · have t3 : decide (((e[i].size : Nat) : Int) > 120) = false := by rw [decide_eq_false_iff_not]; omega
          rw [decide_eq_true hb, Bool.true_and] at hq ⊢
          rw [← hq]
          ((conv => whnf); repeat (refine Gq ?_; (conv => whnf)))
          refine litE t1 ?_
          ((conv => whnf); repeat (refine Gq ?_; (conv => whnf)))
          refine litE t2 ?_
          ((conv => whnf); repeat ((first | refine Wo ?_ | refine Lt (by decide) ?_ | refine Lf (by decide) ?_ | refine Cl (by decide) ?_ | refine Cr (by decide) ?_ | refine ⟨_, rfl, ?_⟩ | refine Mi rfl ?_ | (refine And.intro ArA ?_)); (conv => whnf)))
          ((conv => whnf); refine ⟨_, hix, ?_⟩; ((conv => whnf); repeat (refine Gq ?_; (conv => whnf))))
          refine litE t3 ?_
          ((conv => whnf); repeat (refine Gq ?_; (conv => whnf)))
          refine ih (i + 1) _ ⟨by omega, by omega, by omega, hq⟩ ?_
          (refine Wk.to _ _ ?_ ?_ <;> (repeat' first | exact trivial | rfl | (refine And.intro ?_ ?_)))
          exact inE (i64n (by simp) (by omega))
        · have t3 : decide (((e[i].size : Nat) : Int) > 120) = true := by rw [decide_eq_true_iff]; omega
          rw [decide_eq_false hb, Bool.false_and, Bool.false_and, Bool.false_and]
          ((conv => whnf); repeat (refine Gq ?_; (conv => whnf)))
          refine litE t1 ?_
          ((conv => whnf); repeat (refine Gq ?_; (conv => whnf)))
          refine litE t2 ?_
          ((conv => whnf); repeat ((first | refine Wo ?_ | refine Lt (by decide) ?_ | refine Lf (by decide) ?_ | refine Cl (by decide) ?_ | refine Cr (by decide) ?_ | refine ⟨_, rfl, ?_⟩ | refine Mi rfl ?_ | (refine And.intro ArA ?_)); (conv => whnf)))
          ((conv => whnf); refine ⟨_, hix, ?_⟩; ((conv => whnf); repeat (refine Gq ?_; (conv => whnf))))
          refine litE t3 ?_
          ((conv => whnf); repeat (refine Gq ?_; (conv => whnf)))
          exact TeA
      · have t2 : decide ((i : Int) < 301) = false := by rw [decide_eq_false_iff_not]; omega
        rw [hend (by omega)]
        rw [decide_eq_false (show ¬ e.length ≤ 300 by omega)] at g1 ⊢
        ((conv => whnf); repeat (refine Gq ?_; (conv => whnf)))
        refine litE t1 ?_
        ((conv => whnf); repeat (refine Gq ?_; (conv => whnf)))
        refine litE t2 ?_
        ((conv => whnf); repeat (refine Gq ?_; (conv => whnf)))
        refine litE g1 ?_
        ((conv => whnf); repeat (refine Gq ?_; (conv => whnf)))
        exact TeA
    · have t1 : decide ((i : Int) < (e.length : Int)) = false := by simpa using hl1
      rw [hend (by omega)]
      by_cases h3 : e.length ≤ 300
      · rw [decide_eq_true h3] at g1 ⊢
        rw [Bool.true_and]
        ((conv => whnf); repeat (refine Gq ?_; (conv => whnf)))
        refine litE t1 ?_
        ((conv => whnf); repeat (refine Gq ?_; (conv => whnf)))
        refine litE g1 ?_
        ((conv => whnf); repeat (refine Gq ?_; (conv => whnf)))
        refine litE g2 ?_
        ((conv => whnf); repeat (refine Gq ?_; (conv => whnf)))
        exact TeA
      · rw [decide_eq_false h3] at g1 ⊢
        rw [Bool.false_and]
        ((conv => whnf); repeat (refine Gq ?_; (conv => whnf)))
        refine litE t1 ?_
        ((conv => whnf); repeat (refine Gq ?_; (conv => whnf)))
        refine litE g1 ?_
        ((conv => whnf); repeat (refine Gq ?_; (conv => whnf)))
        exact TeA
  · (refine Wk.to _ _ ?_ ?_ <;> (repeat' first | exact trivial | rfl | (refine And.intro ?_ ?_)))
end Go.Proofs.YtkhgpnbhnipndaaGreatDoor.Am
end
section
/- What spread.Dyad tells, plainly. -/
namespace Go.Proofs.YtkhgpnbhnipndaaGreatDoor.Am
open Go Go.RowKit Go.Proofs.YtkhgpnbhnipndaaGreatDoor.Sh
open Go.Proofs.YtkhgpnbhnipndaaGreatDoor.Nm (numS)
set_option linter.unusedVariables false
set_option linter.unusedSimpArgs false
set_option maxRecDepth 100000
set_option maxHeartbeats 8000000
theorem told_sound (z : Int) : (Nm.told z).2 ≠ 4 ∧ ((Nm.told z).2 = 0 → ∃ y, Nm.Sm y ∧ (Nm.told z).1 = Nm.numS y) := by
  rcases Nm.told_or z with ⟨h, hs⟩ | ⟨h, _⟩
  · rw [h]; exact ⟨show (0 : Int) ≠ 4 by decide, fun _ => ⟨z, hs, rfl⟩⟩
  · rw [h]; exact ⟨by decide, fun h => absurd h (by decide)⟩
theorem sm_b01 (p : Bool) : Nm.Sm (b01 p) := Nm.sm_i64 (by cases p <;> simp [b01]) (by cases p <;> simp [b01])
def SdP (r : ByteArray × Int) : Prop := r.2 ≠ 4 ∧ (r.2 = 0 → ∃ z, Nm.Sm z ∧ r.1 = numS z)
theorem SdP.ite {c : Prop} [Decidable c] {a b : ByteArray × Int} (h1 : SdP a) (h2 : SdP b) : SdP (if c then a else b) := by split <;> assumption
theorem SdP.ok {z : Int} (h : Nm.Sm z) : SdP (numS z, 0) := ⟨show (0 : Int) ≠ 4 by decide, fun _ => ⟨z, h, rfl⟩⟩
theorem SdP.no {b : ByteArray} : SdP (b, 5) := ⟨show (5 : Int) ≠ 4 by decide, fun e => absurd (show (5 : Int) = 0 from e) (by decide)⟩
theorem dyZ_sound (c : UInt8) {x y : Int} (hx : Nm.Sm x) (hy : Nm.Sm y) : SdP (dyZ c x y) := by
  have t : ∀ z, SdP (Nm.told z) := told_sound
  unfold dyZ
  exact .ite (t _) (.ite (t _) (.ite (t _) (.ite (.ite .no (t _)) (.ite (.ite .no (t _)) (.ite (.ok (by split <;> assumption)) (.ite (.ok (by split <;> assumption)) (.ite (.ok (sm_b01 _)) (.ite (.ok (sm_b01 _)) (.ite (.ok (sm_b01 _)) (.ok (sm_b01 _)))))))))))
theorem sd_sound (op : ByteArray) {x y : Int} (hx : Nm.Sm x) (hy : Nm.Sm y) : (sd op (Nm.numS x) (Nm.numS y)).2 ≠ 4 ∧ ((sd op (Nm.numS x) (Nm.numS y)).2 = 0 → ∃ z, Nm.Sm z ∧ (sd op (Nm.numS x) (Nm.numS y)).1 = Nm.numS z) := by
  unfold sd
  rw [zB_num, zB_num]
  exact dyZ_sound _ hx hy
end Go.Proofs.YtkhgpnbhnipndaaGreatDoor.Am
end
section
/- Frames, as data; rows of structs. -/
namespace Go.Proofs.YtkhgpnbhnipndaaGreatDoor.Am
open Go Go.RowKit Go.Proofs.YtkhgpnbhnipndaaGreatDoor.Sh
open Go.Proofs.YtkhgpnbhnipndaaGreatDoor.Nm (numS)
set_option linter.unusedVariables false
set_option linter.unusedSimpArgs false
set_option maxRecDepth 100000
set_option maxHeartbeats 8000000
/-! ### rows whose elements have several cells -/
theorem fm_len {α : Type} {c : α → List D} {z : Nat} (hc : ∀ x, (c x).length = z) : ∀ l : List α, (l.flatMap c).length = l.length * z
  | [] => by simp
  | a :: l => by rw [List.flatMap_cons, List.length_append, hc, fm_len hc l, List.length_cons, Nat.add_mul, Nat.one_mul, Nat.add_comm]
theorem fm_drop {α : Type} {c : α → List D} {z : Nat} (hc : ∀ x, (c x).length = z) : ∀ (l : List α) (i : Nat), (l.flatMap c).drop (i * z) = (l.drop i).flatMap c
  | l, 0 => by simp
  | [], i + 1 => by simp
  | a :: l, i + 1 => by
    rw [List.flatMap_cons, Nat.add_mul, Nat.one_mul, Nat.add_comm, ← List.drop_drop, show (c a ++ l.flatMap c).drop z = l.flatMap c from by rw [← hc a, List.drop_left]]
    exact fm_drop hc l i
theorem fm_at {α : Type} {c : α → List D} {z : Nat} (hc : ∀ x, (c x).length = z) {l : List α} {i : Nat} {x : α} (h : l[i]? = some x) : ((l.flatMap c).drop (i * z)).take z = c x := by
  obtain ⟨hi, rfl⟩ := List.getElem?_eq_some_iff.1 h
  rw [fm_drop hc, List.drop_eq_getElem_cons hi, List.flatMap_cons]
  have := hc l[i]
  rw [← this, List.take_left]
theorem fm_get {α : Type} {c : α → List D} {z : Nat} (hc : ∀ x, (c x).length = z) {l : List α} {i j : Nat} {x : α} (h : l[i]? = some x) (hj : j < z) : (l.flatMap c)[i * z + j]? = (c x)[j]? := by
  have h1 := fm_at hc h
  rw [← h1, List.getElem?_take_of_lt hj, List.getElem?_drop]
theorem fm_bd {α : Type} {c : α → List D} {z : Nat} (hc : ∀ x, (c x).length = z) {l : List α} {i : Nat} (h : i < l.length) : i * z + z ≤ (l.flatMap c).length := by
  rw [fm_len hc]
  have : (i + 1) * z ≤ l.length * z := Nat.mul_le_mul_right _ h
  rwa [Nat.add_mul, Nat.one_mul] at this
theorem fm_ld {α : Type} {c : α → List D} {z : Nat} (hc : ∀ x, (c x).length = z) {l : List α} {i : Nat} {x : α} (h : l[i]? = some x) {K : List D → Prop} (k : K (c x)) {o : Nat} (ho : o = i := by exact Int.toNat_natCast _) : o * z + z ≤ (l.flatMap c).length ∧ ∃ q, ((l.flatMap c).drop (o * z)).take z = q ∧ K q := by
  subst ho
  exact ⟨fm_bd hc (List.getElem?_eq_some_iff.1 h).1, _, fm_at hc h, k⟩
/-! ### arrays in a row -/
abbrev ValL := List Int × List ByteArray
def valC (v : ValL) : List D := [rI v.1 none, rS v.2 none]
def rV (l : List ValL) : D := .sl 2 (l.flatMap valC) l.length none
theorem valC_len (v : ValL) : (valC v).length = 2 := rfl
abbrev vD2 (v : ValL) : D := vD v.1 v.2 none none
theorem indexFV_runs {l : List ValL} {p : ValL → Bool} {F : Nat} (hl : l.length ≤ 4611686018427387903) (hF : ∀ x ∈ l, Runs Tryz.prog F [vD2 x] (bD (p x))) : Runs Tryz.prog 85 [rV l, .fn F []] (iD (idxI p l 0)) := by
  refine Runs.wp Am.hT Am.hm Tryz.func85 rfl (by decide) ⟨[], [0, 1, 4, 5, 7, 8, 9, 16], 19⟩ ?_; ((conv => whnf); repeat (refine Gq ?_; (conv => whnf)))
  refine loop_ind (fun k (i : Nat) => i + k = l.length + 1 ∧ i ≤ l.length ∧ idxI p l 0 = idxI p (l.drop i) i) (fun i => { t := pin [(0, .d (rV l)), (1, .d (.fn F [])), (7, .d (iD l.length)), (8, .d (iD i))], N := 19, h := hpin [], n := 0, lo := 0 }) (fun i h => by omega) ?_ (l.length + 1) 0 ⟨by omega, by omega, rfl⟩ _ ?_
  · rintro k i R ih ⟨hk, hi, he⟩
    rw [he]
    by_cases hlt : i < l.length
    · have t1 : decide ((i : Int) < (l.length : Int)) = true := by simpa using hlt
      have hx : l[i]? = some l[i] := List.getElem?_eq_getElem hlt
      have hF' := hF l[i] (List.getElem_mem hlt)
      have h3 : idxI p (l.drop i) i = if p l[i] then (i : Int) else idxI p (l.drop (i + 1)) (i + 1) := by rw [List.drop_eq_getElem_cons hlt]; rfl
      rw [h3] at he ⊢
      ((conv => whnf); repeat (refine Gq ?_; (conv => whnf)))
      refine Lt t1 ?_
      ((conv => whnf); repeat (refine Gq ?_; (conv => whnf)))
      refine ⟨by omega, by simpa using hlt, ?_⟩
      ((conv => whnf); repeat (refine Gq ?_; (conv => whnf)))
      refine fm_ld valC_len hx ?_
      ((conv => whnf); repeat (refine Gq ?_; (conv => whnf)))
      cases hp : p l[i] with
      | true =>
        rw [hp] at hF'
        rw [if_pos rfl]
        ((conv => whnf); (refine HfA hF' ?_); ((conv => whnf); repeat (refine Gq ?_; (conv => whnf))))
        exact TeA
      | false =>
        rw [hp] at hF' he
        rw [if_neg (by simp)] at he ⊢
        ((conv => whnf); (refine HfA hF' ?_); ((conv => whnf); repeat (refine Gq ?_; (conv => whnf))))
        refine ih (i + 1) _ ⟨by omega, by omega, he⟩ ?_
        (refine Wk.to _ _ ?_ ?_ <;> (repeat' first | exact trivial | rfl | (refine And.intro ?_ ?_)))
        exact inE (i64n (by simp) (by omega))
    · have t1 : decide ((i : Int) < (l.length : Int)) = false := by simpa using hlt
      rw [List.drop_eq_nil_of_le (by omega)]
      ((conv => whnf); repeat (refine Gq ?_; (conv => whnf)))
      refine Lf t1 ?_
      ((conv => whnf); repeat (refine Gq ?_; (conv => whnf)))
      exact TeA
  · (refine Wk.to _ _ ?_ ?_ <;> (repeat' first | exact trivial | rfl | (refine And.intro ?_ ?_)))
theorem contFV_runs {l : List ValL} {p : ValL → Bool} {F : Nat} (hl : l.length ≤ 4611686018427387903) (hF : ∀ x ∈ l, Runs Tryz.prog F [vD2 x] (bD (p x))) : Runs Tryz.prog 45 [rV l, .fn F []] (bD (l.any p)) := by
  have h := indexFV_runs hl hF
  have e := idxI_any p l 0
  refine Runs.wp Am.hT Am.hm Tryz.func45 rfl (by decide) ⟨[], [0, 1, 4], 9⟩ ?_; ((conv => whnf); repeat (refine Gq ?_; (conv => whnf)))
  ((conv => whnf); (refine HfA h ?_); ((conv => whnf); repeat (refine Gq ?_; (conv => whnf))))
  refine litE e ?_
  ((conv => whnf); repeat (refine Gq ?_; (conv => whnf)))
  exact TeA
end Go.Proofs.YtkhgpnbhnipndaaGreatDoor.Am
end
section
/- Frames: ops, codes. -/
namespace Go.Proofs.YtkhgpnbhnipndaaGreatDoor.Am
open Go Go.RowKit Go.Proofs.YtkhgpnbhnipndaaGreatDoor.Sh
open Go.Proofs.YtkhgpnbhnipndaaGreatDoor.Nm (numS)
set_option linter.unusedVariables false
set_option linter.unusedSimpArgs false
set_option maxRecDepth 100000
set_option maxHeartbeats 8000000
theorem cloneV_runs (l : List ValL) (hl : l.length ≤ 100000000) : Runs Tryz.prog 47 [rV l] (rV l) := by
  have hz := fm_len valC_len l
  refine Runs.wp Am.hT Am.hm Tryz.func47 rfl (by decide) ⟨[], [0, 2, 4], 8⟩ ?_; ((conv => whnf); repeat (refine Gq ?_; (conv => whnf)))
  intro b hb
  cases b with
  | true =>
    have h0 : l = [] := by
      cases l with
      | nil => rfl
      | cons a l => cases hb (by simp)
    subst h0
    ((conv => whnf); repeat (refine Gq ?_; (conv => whnf)))
    exact TeA
  | false =>
    clear hb
    ((conv => whnf); repeat (refine Gq ?_; (conv => whnf)))
    refine ⟨by unfold maxLen; omega, by dsimp only; omega, ?_⟩
    ((conv => whnf); repeat (refine Gq ?_; (conv => whnf)))
    (conv => arg 1; whnf)
    exact Tel.eq (dslE rfl (by simp))
/-! ### ops -/
abbrev OpL := (Int × Int) × ByteArray
def opC (o : OpL) : List D := [iD o.1.1, iD o.1.2, sD o.2]
theorem opC_len (o : OpL) : (opC o).length = 3 := rfl
def rO (l : List OpL) : D := .sl 3 (l.flatMap opC) l.length none
abbrev oD (o : OpL) : D := .agg [iD o.1.1, iD o.1.2, sD o.2]
abbrev cD (l : List OpL) (fold : ByteArray) : D := .agg [rO l, sD fold]
theorem beqB (a b : ByteArray) : (a.toList == b.toList) = decide (a = b) := by
  by_cases h : a = b
  · rw [h, decide_eq_true rfl]; simp
  · rw [decide_eq_false h, bne_of h]
end Go.Proofs.YtkhgpnbhnipndaaGreatDoor.Am
end
section
/- Frames: whether a code may be. -/
namespace Go.Proofs.YtkhgpnbhnipndaaGreatDoor.Am
open Go Go.RowKit Go.Proofs.YtkhgpnbhnipndaaGreatDoor.Sh
open Go.Proofs.YtkhgpnbhnipndaaGreatDoor.Nm (numS)
set_option linter.unusedVariables false
set_option linter.unusedSimpArgs false
set_option maxRecDepth 100000
set_option maxHeartbeats 8000000
theorem sgB_no {S op : ByteArray} (h : op.data.toList.length ≠ 1) : sgB S op = false := by
  unfold sgB
  split
  · rename_i c hc; rw [hc] at h; exact absurd rfl h
  · rfl
theorem fsign_runs (op S : ByteArray) : Runs Tryz.prog 49 [sD op, sD S] (bD (sgB S op)) := by
  have hs : op.size = op.data.toList.length := by show op.data.size = _; exact Array.length_toList.symm
  by_cases h : op.data.toList.length = 1
  · obtain ⟨c, hc⟩ := List.length_eq_one_iff.1 h
    have ho : op = ⟨#[c]⟩ := by rw [Nm.ba_of op, hc]
    have e1 : (((op.size : Nat) : Int) == 1) = true := by rw [hs, h]; rfl
    have h1 := contains1_runs S c
    rw [← ho, show S.data.toList.contains c = sgB S op by rw [ho]; rfl] at h1
    refine Runs.wp Am.hT Am.hm Tryz.func49 rfl (by decide) ⟨[], [0, 1, 4], 13⟩ ?_; ((conv => whnf); repeat (refine Gq ?_; (conv => whnf)))
    refine litE e1 ?_
    ((conv => whnf); repeat (refine Gq ?_; (conv => whnf)))
    ((conv => whnf); (refine HfA h1 ?_); ((conv => whnf); repeat (refine Gq ?_; (conv => whnf))))
    exact TeA
  · have e1 : (((op.size : Nat) : Int) == 1) = false := by rw [hs, beq_eq_false_iff_ne]; omega
    rw [sgB_no h]
    refine Runs.wp Am.hT Am.hm Tryz.func49 rfl (by decide) ⟨[], [0, 1, 4], 13⟩ ?_; ((conv => whnf); repeat (refine Gq ?_; (conv => whnf)))
    refine litE e1 ?_
    ((conv => whnf); repeat (refine Gq ?_; (conv => whnf)))
    exact TeA
/-- the signs of any two numbers -/
def whS : ByteArray := ⟨#[43, 45, 42, 38, 124, 60, 62, 61, 126]⟩
theorem wh_dy {op : ByteArray} (h : sgB whS op = true) : sgB dyS op = true := by
  unfold sgB at h ⊢
  split at h
  · rename_i c hc
    have : c ∈ ([43, 45, 42, 38, 124, 60, 62, 61, 126] : List UInt8) := by simpa [whS] using h
    simp only [List.mem_cons, List.not_mem_nil, or_false] at this
    rcases this with rfl | rfl | rfl | rfl | rfl | rfl | rfl | rfl | rfl <;> decide
  · cases h
theorem one_bne (c d : UInt8) : (!((⟨#[c]⟩ : ByteArray).toList == (⟨#[d]⟩ : ByteArray).toList)) = !decide (c = d) := by
  rw [beqB]
  congr 1
  rw [decide_eq_decide]
  exact ⟨fun h => by have := congrArg (fun b : ByteArray => b.data.toList) h; simpa using this, fun h => by rw [h]⟩
theorem whole_runs (op : ByteArray) : Runs Tryz.prog 89 [sD op] (bD (sgB whS op)) := by
  have hs : op.size = op.data.toList.length := by show op.data.size = _; exact Array.length_toList.symm
  by_cases h : op.data.toList.length = 1
  · obtain ⟨c, hc⟩ := List.length_eq_one_iff.1 h
    have ho : op = ⟨#[c]⟩ := by rw [Nm.ba_of op, hc]
    subst ho
    have h1 := contains1_runs dyS c
    have e : sgB whS ⟨#[c]⟩ = (dyS.data.toList.contains c && ((!decide (c = 37)) && (!decide (c = 33)))) := by
      show whS.data.toList.contains c = _
      rw [Bool.eq_iff_iff]
      simp only [Bool.and_eq_true, List.contains_iff_mem, Bool.not_eq_true', decide_eq_false_iff_not]
      show c ∈ ([43, 45, 42, 38, 124, 60, 62, 61, 126] : List UInt8) ↔ c ∈ ([43, 45, 42, 37, 33, 38, 124, 60, 62, 61, 126] : List UInt8) ∧ _
      simp only [List.mem_cons, List.not_mem_nil, or_false]
      constructor
      · rintro (rfl | rfl | rfl | rfl | rfl | rfl | rfl | rfl | rfl) <;> decide
      · rintro ⟨rfl | rfl | rfl | rfl | rfl | rfl | rfl | rfl | rfl | rfl | rfl, h2, h3⟩ <;> first | decide | exact absurd rfl h2 | exact absurd rfl h3
    rw [e]
    have e0 : ((((⟨#[c]⟩ : ByteArray).size : Nat) : Int) == 1) = true := rfl
    have n1 := one_bne c 37
    have n2 := one_bne c 33
    cases hcon : dyS.data.toList.contains c with
    | false =>
      rw [hcon] at h1
      rw [Bool.false_and]
      refine Runs.wp Am.hT Am.hm Tryz.func89 rfl (by decide) ⟨[], [0, 2], 18⟩ ?_; ((conv => whnf); repeat (refine Gq ?_; (conv => whnf)))
      refine litE e0 ?_
      ((conv => whnf); repeat (refine Gq ?_; (conv => whnf)))
      ((conv => whnf); (refine HfA h1 ?_); ((conv => whnf); repeat (refine Gq ?_; (conv => whnf))))
      exact TeA
    | true =>
      rw [hcon] at h1
      rw [Bool.true_and]
      cases h37 : decide (c = 37) with
      | true =>
        rw [h37] at n1
        refine Runs.wp Am.hT Am.hm Tryz.func89 rfl (by decide) ⟨[], [0, 2], 18⟩ ?_; ((conv => whnf); repeat (refine Gq ?_; (conv => whnf)))
        refine litE e0 ?_
        ((conv => whnf); repeat (refine Gq ?_; (conv => whnf)))
        ((conv => whnf); (refine HfA h1 ?_); ((conv => whnf); repeat (refine Gq ?_; (conv => whnf))))
        refine litE n1 ?_
        ((conv => whnf); repeat (refine Gq ?_; (conv => whnf)))
        exact TeA
      | false =>
        rw [h37] at n1
        cases h33 : decide (c = 33) with
        | true =>
          rw [h33] at n2
          refine Runs.wp Am.hT Am.hm Tryz.func89 rfl (by decide) ⟨[], [0, 2], 18⟩ ?_; ((conv => whnf); repeat (refine Gq ?_; (conv => whnf)))
          refine litE e0 ?_
          ((conv => whnf); repeat (refine Gq ?_; (conv => whnf)))
          ((conv => whnf); (refine HfA h1 ?_); ((conv => whnf); repeat (refine Gq ?_; (conv => whnf))))
          refine litE n1 ?_
          ((conv => whnf); repeat (refine Gq ?_; (conv => whnf)))
          refine litE n2 ?_
          ((conv => whnf); repeat (refine Gq ?_; (conv => whnf)))
          exact TeA
        | false =>
          rw [h33] at n2
          refine Runs.wp Am.hT Am.hm Tryz.func89 rfl (by decide) ⟨[], [0, 2], 18⟩ ?_; ((conv => whnf); repeat (refine Gq ?_; (conv => whnf)))
          refine litE e0 ?_
          ((conv => whnf); repeat (refine Gq ?_; (conv => whnf)))
          ((conv => whnf); (refine HfA h1 ?_); ((conv => whnf); repeat (refine Gq ?_; (conv => whnf))))
          refine litE n1 ?_
          ((conv => whnf); repeat (refine Gq ?_; (conv => whnf)))
          refine litE n2 ?_
          ((conv => whnf); repeat (refine Gq ?_; (conv => whnf)))
          exact TeA
  · have e1 : (((op.size : Nat) : Int) == 1) = false := by rw [hs, beq_eq_false_iff_ne]; omega
    have e2 : sgB whS op = false := sgB_no h
    rw [e2]
    refine Runs.wp Am.hT Am.hm Tryz.func89 rfl (by decide) ⟨[], [0, 2], 18⟩ ?_; ((conv => whnf); repeat (refine Gq ?_; (conv => whnf)))
    refine litE e1 ?_
    ((conv => whnf); repeat (refine Gq ?_; (conv => whnf)))
    exact TeA
/-- how many an op takes away -/
def needsZ (slots : Int) (o : OpL) : Int :=
  if o.1.1 = 1 ∧ 0 ≤ o.1.2 ∧ o.1.2 < slots ∨ o.1.1 = 2 ∧ mayB o.2 = true then 0 else if o.1.1 = 3 ∧ sgB whS o.2 = true then 2 else if o.1.1 = 4 ∧ sgB moS o.2 = true then 1 else -1
theorem needs_runs' (slots k s : Int) (t : ByteArray) : Runs Tryz.prog 50 [.agg [iD k, iD s, sD t], iD slots] (iD (needsZ slots ((k, s), t))) := by
  have m1 := mayB_runs t
  have m2 := whole_runs t
  have m3 := monads_runs
  have m4 := fsign_runs t moS
  unfold needsZ
  dsimp only
  by_cases h1 : k = 1
  · subst h1
    by_cases h2 : 0 ≤ s
    · have t2 : decide (s ≥ 0) = true := decide_eq_true h2
      by_cases h3 : s < slots
      · have t3 : decide (s < slots) = true := decide_eq_true h3
        rw [if_pos (.inl ⟨rfl, h2, h3⟩)]
        refine Runs.wp Am.hT Am.hm Tryz.func50 rfl (by decide) ⟨[(6, .first 0 (.load 1 [2, 3, 4, 5, 6, 7, 8, 9] (.first 2 (.first 3 (.first 4 (.alt 5 (.alt 6 (.alt 7 (.first 8 (.first 9 .done)) .nil) .nil) (.alt 6 (.load 5 [7, 8, 9] (.alt 7 (.first 8 (.first 9 .done)) .nil)) .nil)))))))], [0, 1, 2, 4, 5, 28, 37], 47⟩ ?_; ((conv => whnf); repeat (refine Gq ?_; (conv => whnf)))
        refine litE t2 ?_
        ((conv => whnf); repeat (refine Gq ?_; (conv => whnf)))
        refine litE t3 ?_
        ((conv => whnf); repeat (refine Gq ?_; (conv => whnf)))
        exact TeA
      · have t3 : decide (s < slots) = false := decide_eq_false h3
        rw [if_neg (by rintro (⟨_, _, h⟩ | ⟨h, _⟩); exact h3 h; cases h), if_neg (by rintro ⟨h, _⟩; cases h), if_neg (by rintro ⟨h, _⟩; cases h)]
        refine Runs.wp Am.hT Am.hm Tryz.func50 rfl (by decide) ⟨[(6, .first 0 (.load 1 [2, 3, 4, 5, 6, 7, 8, 9] (.first 2 (.first 3 (.first 4 (.alt 5 (.alt 6 (.alt 7 (.first 8 (.first 9 .done)) .nil) .nil) (.alt 6 (.load 5 [7, 8, 9] (.alt 7 (.first 8 (.first 9 .done)) .nil)) .nil)))))))], [0, 1, 2, 4, 5, 28, 37], 47⟩ ?_; ((conv => whnf); repeat (refine Gq ?_; (conv => whnf)))
        refine litE t2 ?_
        ((conv => whnf); repeat (refine Gq ?_; (conv => whnf)))
        refine litE t3 ?_
        ((conv => whnf); repeat (refine Gq ?_; (conv => whnf)))
        (refine And.intro (by decide +kernel) ?_; apply Exists.intro; apply And.intro; focus ((repeat' ((conv => whnf); first | exact trivial | refine Wo ?_ | refine Lt (by decide) ?_ | refine Lf (by decide) ?_ | refine Cl (by decide) ?_ | refine Cr (by decide) ?_ | refine Both.mk ?_ ?_ | (first | exact Wk.frc (keep := [0, 1, 2, 4, 5, 28, 37]) (N := 47) (by (conv => whnf); first | done | exact rfl) | (refine HfA m3 ?_) | (refine HfA m4 ?_)) | refine ⟨_, rfl, ?_⟩ | refine Mi rfl ?_ | (refine And.intro ?_ ?_))); all_goals (first | decide | rfl | assumption | omega | (dsimp only; omega) | (unfold maxLen; omega) | ((try dsimp only [maxLen]); simp only [List.length_append, List.length_cons, List.length_nil, List.length_map, List.length_range, List.length_set, List.length_replicate]; omega) | ((try dsimp only [maxLen]); simp only [IntKind.wrap_i64, IntKind.wrap_u64, List.length_append, List.length_cons, List.length_nil, List.length_map, List.length_range, List.length_set, List.length_replicate]; omega) | ((try dsimp only [maxLen]); simp only [List.length_append, List.length_cons, List.length_nil, List.length_map, List.length_range, List.length_set, List.length_replicate] at *; omega))))
        ((conv => whnf); repeat (refine Gq ?_; (conv => whnf)))
        exact TeA
    · have t2 : decide (s ≥ 0) = false := decide_eq_false h2
      rw [if_neg (by rintro (⟨_, h, _⟩ | ⟨h, _⟩); exact h2 h; cases h), if_neg (by rintro ⟨h, _⟩; cases h), if_neg (by rintro ⟨h, _⟩; cases h)]
      refine Runs.wp Am.hT Am.hm Tryz.func50 rfl (by decide) ⟨[(6, .first 0 (.load 1 [2, 3, 4, 5, 6, 7, 8, 9] (.first 2 (.first 3 (.first 4 (.alt 5 (.alt 6 (.alt 7 (.first 8 (.first 9 .done)) .nil) .nil) (.alt 6 (.load 5 [7, 8, 9] (.alt 7 (.first 8 (.first 9 .done)) .nil)) .nil)))))))], [0, 1, 2, 4, 5, 28, 37], 47⟩ ?_; ((conv => whnf); repeat (refine Gq ?_; (conv => whnf)))
      refine litE t2 ?_
      ((conv => whnf); repeat (refine Gq ?_; (conv => whnf)))
      (refine And.intro (by decide +kernel) ?_; apply Exists.intro; apply And.intro; focus ((repeat' ((conv => whnf); first | exact trivial | refine Wo ?_ | refine Lt (by decide) ?_ | refine Lf (by decide) ?_ | refine Cl (by decide) ?_ | refine Cr (by decide) ?_ | refine Both.mk ?_ ?_ | (first | exact Wk.frc (keep := [0, 1, 2, 4, 5, 28, 37]) (N := 47) (by (conv => whnf); first | done | exact rfl) | (refine HfA m3 ?_) | (refine HfA m4 ?_)) | refine ⟨_, rfl, ?_⟩ | refine Mi rfl ?_ | (refine And.intro ?_ ?_))); all_goals (first | decide | rfl | assumption | omega | (dsimp only; omega) | (unfold maxLen; omega) | ((try dsimp only [maxLen]); simp only [List.length_append, List.length_cons, List.length_nil, List.length_map, List.length_range, List.length_set, List.length_replicate]; omega) | ((try dsimp only [maxLen]); simp only [IntKind.wrap_i64, IntKind.wrap_u64, List.length_append, List.length_cons, List.length_nil, List.length_map, List.length_range, List.length_set, List.length_replicate]; omega) | ((try dsimp only [maxLen]); simp only [List.length_append, List.length_cons, List.length_nil, List.length_map, List.length_range, List.length_set, List.length_replicate] at *; omega))))
      ((conv => whnf); repeat (refine Gq ?_; (conv => whnf)))
      exact TeA
  have e1 : (k == 1) = false := by simpa using h1
  by_cases h2 : k = 2
  · subst h2
    cases hm : mayB t with
    | true =>
      rw [hm] at m1
      rw [if_pos (.inr ⟨rfl, rfl⟩)]
      refine Runs.wp Am.hT Am.hm Tryz.func50 rfl (by decide) ⟨[(6, .first 0 (.load 1 [2, 3, 4, 5, 6, 7, 8, 9] (.first 2 (.first 3 (.first 4 (.alt 5 (.alt 6 (.alt 7 (.first 8 (.first 9 .done)) .nil) .nil) (.alt 6 (.load 5 [7, 8, 9] (.alt 7 (.first 8 (.first 9 .done)) .nil)) .nil)))))))], [0, 1, 2, 4, 5, 28, 37], 47⟩ ?_; ((conv => whnf); repeat (refine Gq ?_; (conv => whnf)))
      ((conv => whnf); (refine HfA m1 ?_); ((conv => whnf); repeat (refine Gq ?_; (conv => whnf))))
      exact TeA
    | false =>
      rw [hm] at m1
      rw [if_neg (by rintro (⟨h, _⟩ | ⟨_, h⟩) <;> cases h), if_neg (by rintro ⟨h, _⟩; cases h), if_neg (by rintro ⟨h, _⟩; cases h)]
      refine Runs.wp Am.hT Am.hm Tryz.func50 rfl (by decide) ⟨[(6, .first 0 (.load 1 [2, 3, 4, 5, 6, 7, 8, 9] (.first 2 (.first 3 (.first 4 (.alt 5 (.alt 6 (.alt 7 (.first 8 (.first 9 .done)) .nil) .nil) (.alt 6 (.load 5 [7, 8, 9] (.alt 7 (.first 8 (.first 9 .done)) .nil)) .nil)))))))], [0, 1, 2, 4, 5, 28, 37], 47⟩ ?_; ((conv => whnf); repeat (refine Gq ?_; (conv => whnf)))
      ((conv => whnf); (refine HfA m1 ?_); ((conv => whnf); repeat (refine Gq ?_; (conv => whnf))))
      (refine And.intro (by decide +kernel) ?_; apply Exists.intro; apply And.intro; focus ((repeat' ((conv => whnf); first | exact trivial | refine Wo ?_ | refine Lt (by decide) ?_ | refine Lf (by decide) ?_ | refine Cl (by decide) ?_ | refine Cr (by decide) ?_ | refine Both.mk ?_ ?_ | (first | exact Wk.frc (keep := [0, 1, 2, 4, 5, 28, 37]) (N := 47) (by (conv => whnf); first | done | exact rfl) | (refine HfA m3 ?_) | (refine HfA m4 ?_)) | refine ⟨_, rfl, ?_⟩ | refine Mi rfl ?_ | (refine And.intro ?_ ?_))); all_goals (first | decide | rfl | assumption | omega | (dsimp only; omega) | (unfold maxLen; omega) | ((try dsimp only [maxLen]); simp only [List.length_append, List.length_cons, List.length_nil, List.length_map, List.length_range, List.length_set, List.length_replicate]; omega) | ((try dsimp only [maxLen]); simp only [IntKind.wrap_i64, IntKind.wrap_u64, List.length_append, List.length_cons, List.length_nil, List.length_map, List.length_range, List.length_set, List.length_replicate]; omega) | ((try dsimp only [maxLen]); simp only [List.length_append, List.length_cons, List.length_nil, List.length_map, List.length_range, List.length_set, List.length_replicate] at *; omega))))
      ((conv => whnf); repeat (refine Gq ?_; (conv => whnf)))
      exact TeA
  have e2 : (k == 2) = false := by simpa using h2
  rw [if_neg (by rintro (⟨h, _⟩ | ⟨h, _⟩); exact h1 h; exact h2 h)]
  by_cases h3 : k = 3
  · subst h3
    cases hm : sgB whS t with
    | true =>
      rw [hm] at m2
      rw [if_pos ⟨rfl, rfl⟩]
      refine Runs.wp Am.hT Am.hm Tryz.func50 rfl (by decide) ⟨[(6, .first 0 (.load 1 [2, 3, 4, 5, 6, 7, 8, 9] (.first 2 (.first 3 (.first 4 (.alt 5 (.alt 6 (.alt 7 (.first 8 (.first 9 .done)) .nil) .nil) (.alt 6 (.load 5 [7, 8, 9] (.alt 7 (.first 8 (.first 9 .done)) .nil)) .nil)))))))], [0, 1, 2, 4, 5, 28, 37], 47⟩ ?_; ((conv => whnf); repeat (refine Gq ?_; (conv => whnf)))
      ((conv => whnf); (refine HfA m2 ?_); ((conv => whnf); repeat (refine Gq ?_; (conv => whnf))))
      exact TeA
    | false =>
      rw [hm] at m2
      rw [if_neg (by rintro ⟨_, h⟩; cases h), if_neg (by rintro ⟨h, _⟩; cases h)]
      refine Runs.wp Am.hT Am.hm Tryz.func50 rfl (by decide) ⟨[(6, .first 0 (.load 1 [2, 3, 4, 5, 6, 7, 8, 9] (.first 2 (.first 3 (.first 4 (.alt 5 (.alt 6 (.alt 7 (.first 8 (.first 9 .done)) .nil) .nil) (.alt 6 (.load 5 [7, 8, 9] (.alt 7 (.first 8 (.first 9 .done)) .nil)) .nil)))))))], [0, 1, 2, 4, 5, 28, 37], 47⟩ ?_; ((conv => whnf); repeat (refine Gq ?_; (conv => whnf)))
      ((conv => whnf); (refine HfA m2 ?_); ((conv => whnf); repeat (refine Gq ?_; (conv => whnf))))
      (refine And.intro (by decide +kernel) ?_; apply Exists.intro; apply And.intro; focus ((repeat' ((conv => whnf); first | exact trivial | refine Wo ?_ | refine Lt (by decide) ?_ | refine Lf (by decide) ?_ | refine Cl (by decide) ?_ | refine Cr (by decide) ?_ | refine Both.mk ?_ ?_ | (first | exact Wk.frc (keep := [0, 1, 2, 4, 5, 28, 37]) (N := 47) (by (conv => whnf); first | done | exact rfl) | (refine HfA m3 ?_) | (refine HfA m4 ?_)) | refine ⟨_, rfl, ?_⟩ | refine Mi rfl ?_ | (refine And.intro ?_ ?_))); all_goals (first | decide | rfl | assumption | omega | (dsimp only; omega) | (unfold maxLen; omega) | ((try dsimp only [maxLen]); simp only [List.length_append, List.length_cons, List.length_nil, List.length_map, List.length_range, List.length_set, List.length_replicate]; omega) | ((try dsimp only [maxLen]); simp only [IntKind.wrap_i64, IntKind.wrap_u64, List.length_append, List.length_cons, List.length_nil, List.length_map, List.length_range, List.length_set, List.length_replicate]; omega) | ((try dsimp only [maxLen]); simp only [List.length_append, List.length_cons, List.length_nil, List.length_map, List.length_range, List.length_set, List.length_replicate] at *; omega))))
      ((conv => whnf); repeat (refine Gq ?_; (conv => whnf)))
      exact TeA
  have e3 : (k == 3) = false := by simpa using h3
  rw [if_neg (by rintro ⟨h, _⟩; exact h3 h)]
  by_cases h4 : k = 4
  · subst h4
    cases hm : sgB moS t with
    | true =>
      rw [hm] at m4
      rw [if_pos ⟨rfl, rfl⟩]
      refine Runs.wp Am.hT Am.hm Tryz.func50 rfl (by decide) ⟨[(6, .first 0 (.load 1 [2, 3, 4, 5, 6, 7, 8, 9] (.first 2 (.first 3 (.first 4 (.alt 5 (.alt 6 (.alt 7 (.first 8 (.first 9 .done)) .nil) .nil) (.alt 6 (.load 5 [7, 8, 9] (.alt 7 (.first 8 (.first 9 .done)) .nil)) .nil)))))))], [0, 1, 2, 4, 5, 28, 37], 47⟩ ?_; ((conv => whnf); repeat (refine Gq ?_; (conv => whnf)))
      (refine And.intro (by decide +kernel) ?_; apply Exists.intro; apply And.intro; focus ((repeat' ((conv => whnf); first | exact trivial | refine Wo ?_ | refine Lt (by decide) ?_ | refine Lf (by decide) ?_ | refine Cl (by decide) ?_ | refine Cr (by decide) ?_ | refine Both.mk ?_ ?_ | (first | exact Wk.frc (keep := [0, 1, 2, 4, 5, 28, 37]) (N := 47) (by (conv => whnf); first | done | exact rfl) | (refine HfA m3 ?_) | (refine HfA m4 ?_)) | refine ⟨_, rfl, ?_⟩ | refine Mi rfl ?_ | (refine And.intro ?_ ?_))); all_goals (first | decide | rfl | assumption | omega | (dsimp only; omega) | (unfold maxLen; omega) | ((try dsimp only [maxLen]); simp only [List.length_append, List.length_cons, List.length_nil, List.length_map, List.length_range, List.length_set, List.length_replicate]; omega) | ((try dsimp only [maxLen]); simp only [IntKind.wrap_i64, IntKind.wrap_u64, List.length_append, List.length_cons, List.length_nil, List.length_map, List.length_range, List.length_set, List.length_replicate]; omega) | ((try dsimp only [maxLen]); simp only [List.length_append, List.length_cons, List.length_nil, List.length_map, List.length_range, List.length_set, List.length_replicate] at *; omega))))
      ((conv => whnf); repeat (refine Gq ?_; (conv => whnf)))
      exact TeA
    | false =>
      rw [hm] at m4
      rw [if_neg (by rintro ⟨_, h⟩; cases h)]
      refine Runs.wp Am.hT Am.hm Tryz.func50 rfl (by decide) ⟨[(6, .first 0 (.load 1 [2, 3, 4, 5, 6, 7, 8, 9] (.first 2 (.first 3 (.first 4 (.alt 5 (.alt 6 (.alt 7 (.first 8 (.first 9 .done)) .nil) .nil) (.alt 6 (.load 5 [7, 8, 9] (.alt 7 (.first 8 (.first 9 .done)) .nil)) .nil)))))))], [0, 1, 2, 4, 5, 28, 37], 47⟩ ?_; ((conv => whnf); repeat (refine Gq ?_; (conv => whnf)))
      (refine And.intro (by decide +kernel) ?_; apply Exists.intro; apply And.intro; focus ((repeat' ((conv => whnf); first | exact trivial | refine Wo ?_ | refine Lt (by decide) ?_ | refine Lf (by decide) ?_ | refine Cl (by decide) ?_ | refine Cr (by decide) ?_ | refine Both.mk ?_ ?_ | (first | exact Wk.frc (keep := [0, 1, 2, 4, 5, 28, 37]) (N := 47) (by (conv => whnf); first | done | exact rfl) | (refine HfA m3 ?_) | (refine HfA m4 ?_)) | refine ⟨_, rfl, ?_⟩ | refine Mi rfl ?_ | (refine And.intro ?_ ?_))); all_goals (first | decide | rfl | assumption | omega | (dsimp only; omega) | (unfold maxLen; omega) | ((try dsimp only [maxLen]); simp only [List.length_append, List.length_cons, List.length_nil, List.length_map, List.length_range, List.length_set, List.length_replicate]; omega) | ((try dsimp only [maxLen]); simp only [IntKind.wrap_i64, IntKind.wrap_u64, List.length_append, List.length_cons, List.length_nil, List.length_map, List.length_range, List.length_set, List.length_replicate]; omega) | ((try dsimp only [maxLen]); simp only [List.length_append, List.length_cons, List.length_nil, List.length_map, List.length_range, List.length_set, List.length_replicate] at *; omega))))
      ((conv => whnf); repeat (refine Gq ?_; (conv => whnf)))
      exact TeA
  · have e4 : (k == 4) = false := by simpa using h4
    rw [if_neg (by rintro ⟨h, _⟩; exact h4 h)]
    refine Runs.wp Am.hT Am.hm Tryz.func50 rfl (by decide) ⟨[(6, .first 0 (.load 1 [2, 3, 4, 5, 6, 7, 8, 9] (.first 2 (.first 3 (.first 4 (.alt 5 (.alt 6 (.alt 7 (.first 8 (.first 9 .done)) .nil) .nil) (.alt 6 (.load 5 [7, 8, 9] (.alt 7 (.first 8 (.first 9 .done)) .nil)) .nil)))))))], [0, 1, 2, 4, 5, 28, 37], 47⟩ ?_; ((conv => whnf); repeat (refine Gq ?_; (conv => whnf)))
    refine litE e1 ?_
    ((conv => whnf); repeat (refine Gq ?_; (conv => whnf)))
    refine litE e2 ?_
    ((conv => whnf); repeat (refine Gq ?_; (conv => whnf)))
    refine litE e3 ?_
    ((conv => whnf); repeat (refine Gq ?_; (conv => whnf)))
    (refine And.intro (by decide +kernel) ?_; apply Exists.intro; apply And.intro; focus ((repeat' ((conv => whnf); first | exact trivial | refine Wo ?_ | refine Lt (by decide) ?_ | refine Lf (by decide) ?_ | refine Cl (by decide) ?_ | refine Cr (by decide) ?_ | refine Both.mk ?_ ?_ | (first | exact Wk.frc (keep := [0, 1, 2, 4, 5, 28, 37]) (N := 47) (by (conv => whnf); first | done | exact rfl) | (refine HfA m3 ?_) | (refine HfA m4 ?_) | refine litE e4 ?_) | refine ⟨_, rfl, ?_⟩ | refine Mi rfl ?_ | (refine And.intro ?_ ?_))); all_goals (first | decide | rfl | assumption | omega | (dsimp only; omega) | (unfold maxLen; omega) | ((try dsimp only [maxLen]); simp only [List.length_append, List.length_cons, List.length_nil, List.length_map, List.length_range, List.length_set, List.length_replicate]; omega) | ((try dsimp only [maxLen]); simp only [IntKind.wrap_i64, IntKind.wrap_u64, List.length_append, List.length_cons, List.length_nil, List.length_map, List.length_range, List.length_set, List.length_replicate]; omega) | ((try dsimp only [maxLen]); simp only [List.length_append, List.length_cons, List.length_nil, List.length_map, List.length_range, List.length_set, List.length_replicate] at *; omega))))
    ((conv => whnf); repeat (refine Gq ?_; (conv => whnf)))
    exact TeA
theorem needs_runs (slots : Int) (o : OpL) : Runs Tryz.prog 50 [oD o, iD slots] (iD (needsZ slots o)) := needs_runs' slots o.1.1 o.1.2 o.2
end Go.Proofs.YtkhgpnbhnipndaaGreatDoor.Am
end
