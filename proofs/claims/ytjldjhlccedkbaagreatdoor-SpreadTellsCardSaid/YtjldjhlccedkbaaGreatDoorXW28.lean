/- What the law leans on, part 29: declarations of several texts of ours, in their order. -/
import Derived.Test.YtjldjhlccedkbaaGreatDoorXW27
import Derived.Test.YtjldjhlccedkbaaGreatDoorXW2
import Derived.Lib.IndexAny
import Derived.Test.YtjldjhlccedkbaaGreatDoorXW24
section
/- The signs, and an array's elements. -/
namespace Go.Proofs.YtjldjhlccedkbaaGreatDoor.Am
open Go Go.RowKit Go.Proofs.YtjldjhlccedkbaaGreatDoor.Sh
set_option linter.unusedVariables false
set_option linter.unusedSimpArgs false
set_option maxRecDepth 100000
set_option maxHeartbeats 8000000
theorem contains1_runs (s : ByteArray) (c : UInt8) : Runs Tryz.prog 114 [sD s, sD ⟨#[c]⟩] (bD (s.data.toList.contains c)) := by
  refine ⟨⟨_, Tryz.func114, rfl, by decide⟩, fun w S vs hG hS hl hv => ?_⟩
  obtain ⟨v0, v1, rfl⟩ := two hl
  have d0 := Dr.v_inv (hv 0 _ _ rfl rfl)
  have d1 := Dr.v_inv (hv 1 _ _ rfl rfl)
  subst d0 d1
  refine (Tryz.strings_Contains_one s c w).mono ?_
  rintro e w' ⟨rfl, rfl⟩
  rw [Go.Lib.contains_iff_indexByte]
  exact ⟨_, rfl, Below.refl _ _, .v _⟩
/-- one of some signs -/
def sgB (S op : ByteArray) : Bool := match op.data.toList with | [c] => S.data.toList.contains c | _ => false
theorem sign_runs (op S : ByteArray) : Runs Tryz.prog 59 [sD op, sD S] (bD (sgB S op)) := by
  have hs : op.size = op.data.toList.length := by show op.data.size = _; exact Array.length_toList.symm
  unfold sgB
  by_cases h : op.data.toList.length = 1
  · obtain ⟨c, hc⟩ := List.length_eq_one_iff.1 h
    have ho : op = ⟨#[c]⟩ := by rw [Nm.ba_of op, hc]
    have e1 : (((op.size : Nat) : Int) == 1) = true := by rw [hs, h]; rfl
    have h1 := contains1_runs S c
    rw [hc]
    dsimp only
    rw [← ho] at h1
    refine Runs.wp Go.Proofs.YtjldjhlccedkbaaGreatDoor.Am.hT Go.Proofs.YtjldjhlccedkbaaGreatDoor.Am.hm Tryz.func59 rfl (by decide) ⟨[], [0, 1, 4], 13⟩ ?_; ((conv => whnf); repeat ((first | refine Wo ?_ | refine Go1 ?_ | refine Go2 ?_ | refine Go3 ?_ | refine Go4 ?_ | refine ⟨_, rfl, ?_⟩ | refine Mi rfl ?_); (conv => whnf)))
    refine litE e1 ?_
    ((conv => whnf); repeat ((first | refine Wo ?_ | refine Go1 ?_ | refine Go2 ?_ | refine Go3 ?_ | refine Go4 ?_ | refine ⟨_, rfl, ?_⟩ | refine Mi rfl ?_); (conv => whnf)))
    ((conv => whnf); (refine HfA h1 ?_); ((conv => whnf); repeat ((first | refine Wo ?_ | refine Go1 ?_ | refine Go2 ?_ | refine Go3 ?_ | refine Go4 ?_ | refine ⟨_, rfl, ?_⟩ | refine Mi rfl ?_); (conv => whnf))))
    exact TeA
  · have e1 : (((op.size : Nat) : Int) == 1) = false := by rw [hs, beq_eq_false_iff_ne]; omega
    have e2 : (match op.data.toList with | [c] => S.data.toList.contains c | _ => false) = false := by
      split
      · rename_i c hc; rw [hc] at h; exact absurd rfl h
      · rfl
    rw [e2]
    refine Runs.wp Go.Proofs.YtjldjhlccedkbaaGreatDoor.Am.hT Go.Proofs.YtjldjhlccedkbaaGreatDoor.Am.hm Tryz.func59 rfl (by decide) ⟨[], [0, 1, 4], 13⟩ ?_; ((conv => whnf); repeat ((first | refine Wo ?_ | refine Go1 ?_ | refine Go2 ?_ | refine Go3 ?_ | refine Go4 ?_ | refine ⟨_, rfl, ?_⟩ | refine Mi rfl ?_); (conv => whnf)))
    refine litE e1 ?_
    ((conv => whnf); repeat ((first | refine Wo ?_ | refine Go1 ?_ | refine Go2 ?_ | refine Go3 ?_ | refine Go4 ?_ | refine ⟨_, rfl, ?_⟩ | refine Mi rfl ?_); (conv => whnf)))
    exact TeA
def dyS : ByteArray := ⟨#[43, 45, 42, 37, 33, 38, 124, 60, 62, 61, 126]⟩
theorem dyads_runs : Runs Tryz.prog 65 [] (sD dyS) := by
  refine Runs.wp Go.Proofs.YtjldjhlccedkbaaGreatDoor.Am.hT Go.Proofs.YtjldjhlccedkbaaGreatDoor.Am.hm Tryz.func65 rfl (by decide) ⟨[], [0], 1⟩ ?_; ((conv => whnf); repeat ((first | refine Wo ?_ | refine Go1 ?_ | refine Go2 ?_ | refine Go3 ?_ | refine Go4 ?_ | refine ⟨_, rfl, ?_⟩ | refine Mi rfl ?_); (conv => whnf)))
  exact TeA
theorem ops_runs (op : ByteArray) : Runs Tryz.prog 24 [sD op] (bD (sgB dyS op)) := by
  have h1 := dyads_runs
  have h2 := sign_runs op dyS
  refine Runs.wp Go.Proofs.YtjldjhlccedkbaaGreatDoor.Am.hT Go.Proofs.YtjldjhlccedkbaaGreatDoor.Am.hm Tryz.func24 rfl (by decide) ⟨[], [0, 2], 6⟩ ?_; ((conv => whnf); repeat ((first | refine Wo ?_ | refine Go1 ?_ | refine Go2 ?_ | refine Go3 ?_ | refine Go4 ?_ | refine ⟨_, rfl, ?_⟩ | refine Mi rfl ?_); (conv => whnf)))
  ((conv => whnf); (refine HfA h1 ?_); ((conv => whnf); repeat ((first | refine Wo ?_ | refine Go1 ?_ | refine Go2 ?_ | refine Go3 ?_ | refine Go4 ?_ | refine ⟨_, rfl, ?_⟩ | refine Mi rfl ?_); (conv => whnf))))
  ((conv => whnf); (refine HfA h2 ?_); ((conv => whnf); repeat ((first | refine Wo ?_ | refine Go1 ?_ | refine Go2 ?_ | refine Go3 ?_ | refine Go4 ?_ | refine ⟨_, rfl, ?_⟩ | refine Mi rfl ?_); (conv => whnf))))
  exact TeA
def atS (s : List Int) (e : List ByteArray) (i : Nat) : ByteArray := if s = [] then e.getD 0 ByteArray.empty else e.getD i ByteArray.empty
theorem elem_runs {s : List Int} {e : List ByteArray} {i : Nat} (h0 : s = [] → 0 < e.length) (h1 : s ≠ [] → i < e.length) : Runs Tryz.prog 104 [vD s e none none, iD i] (sD (atS s e i)) := by
  have e1 := emp_b s
  unfold atS
  by_cases h : s = []
  · have h0 := h0 h
    have hix : (e.map sD)[(0 : Int).toNat * 1]? = some (sD (e.getD 0 ByteArray.empty)) := ixm (j := 0) (by simp [h0]) (by simp)
    rw [decide_eq_true h] at e1
    rw [if_pos h]
    refine Runs.wp Go.Proofs.YtjldjhlccedkbaaGreatDoor.Am.hT Go.Proofs.YtjldjhlccedkbaaGreatDoor.Am.hm Tryz.func104 rfl (by decide) ⟨[], [0, 1, 2, 4, 8], 18⟩ ?_; ((conv => whnf); repeat ((first | refine Wo ?_ | refine Go1 ?_ | refine Go2 ?_ | refine Go3 ?_ | refine Go4 ?_ | refine ⟨_, rfl, ?_⟩ | refine Mi rfl ?_); (conv => whnf)))
    refine litE e1 ?_
    ((conv => whnf); repeat ((first | refine Wo ?_ | refine Lt (by decide) ?_ | refine Lf (by decide) ?_ | refine Cl (by decide) ?_ | refine Cr (by decide) ?_ | refine ⟨_, rfl, ?_⟩ | refine Mi rfl ?_ | (refine And.intro ArA ?_)); (conv => whnf)))
    ((conv => whnf); refine ⟨_, hix, ?_⟩; ((conv => whnf); repeat ((first | refine Wo ?_ | refine Go1 ?_ | refine Go2 ?_ | refine Go3 ?_ | refine Go4 ?_ | refine ⟨_, rfl, ?_⟩ | refine Mi rfl ?_); (conv => whnf))))
    exact TeA
  · have h1 := h1 h
    have hix : (e.map sD)[(i : Int).toNat * 1]? = some (sD (e.getD i ByteArray.empty)) := ixm (j := i) (by simp [h1]) (by simp)
    rw [decide_eq_false h] at e1
    rw [if_neg h]
    refine Runs.wp Go.Proofs.YtjldjhlccedkbaaGreatDoor.Am.hT Go.Proofs.YtjldjhlccedkbaaGreatDoor.Am.hm Tryz.func104 rfl (by decide) ⟨[], [0, 1, 2, 4, 8], 18⟩ ?_; ((conv => whnf); repeat ((first | refine Wo ?_ | refine Go1 ?_ | refine Go2 ?_ | refine Go3 ?_ | refine Go4 ?_ | refine ⟨_, rfl, ?_⟩ | refine Mi rfl ?_); (conv => whnf)))
    refine litE e1 ?_
    ((conv => whnf); repeat ((first | refine Wo ?_ | refine Lt (by decide) ?_ | refine Lf (by decide) ?_ | refine Cl (by decide) ?_ | refine Cr (by decide) ?_ | refine ⟨_, rfl, ?_⟩ | refine Mi rfl ?_ | (refine And.intro ArA ?_)); (conv => whnf)))
    ((conv => whnf); refine ⟨_, hix, ?_⟩; ((conv => whnf); repeat ((first | refine Wo ?_ | refine Go1 ?_ | refine Go2 ?_ | refine Go3 ?_ | refine Go4 ?_ | refine ⟨_, rfl, ?_⟩ | refine Mi rfl ?_); (conv => whnf))))
    exact TeA
end Go.Proofs.YtjldjhlccedkbaaGreatDoor.Am
end
section
/- What scalar.Dyad and Monad tell, of numbers. -/
namespace Go.Proofs.YtjldjhlccedkbaaGreatDoor.Am
open Go Go.Lib Go.RowKit Go.Proofs.YtjldjhlccedkbaaGreatDoor.Nm Go.Proofs.YtjldjhlccedkbaaGreatDoorW.PrintWords Go.Proofs.YtjldjhlccedkbaaGreatDoor
set_option linter.unusedVariables false
set_option linter.unusedSimpArgs false
set_option maxRecDepth 100000
set_option maxHeartbeats 8000000
/-- the number of a text -/
def zL : List UInt8 → Int
  | 45 :: r => -(Nm.val r : Int)
  | l => (Nm.val l : Int)
def zB (b : ByteArray) : Int := zL b.data.toList
theorem zL_pos {l : List UInt8} (h : ∀ r, l ≠ 45 :: r) : zL l = (Nm.val l : Int) := by
  unfold zL
  split
  · exact absurd rfl (h _)
  · rfl
theorem zB_num (z : Int) : zB (numS z) = z := by
  unfold zB numS
  rw [ba_data]
  by_cases h : z < 0
  · rw [itoa_neg' h]
    show -(Nm.val (decDigits z.natAbs) : Int) = z
    rw [val_decDigits]
    omega
  · rw [itoa_pos' h, zL_pos, val_decDigits]
    · omega
    · intro r e
      obtain ⟨c, r', h1, h2, h3⟩ := head_dec z.natAbs
      rw [e] at h1
      injection h1 with h1 _
      rw [← h1] at h2
      exact absurd h2 (by decide)
def b01 (p : Bool) : Int := if p = true then 1 else 0
theorem stold_num (p : Bool) : (if p = true then (⟨#[49]⟩ : ByteArray) else ⟨#[48]⟩) = numS (b01 p) := by
  cases p with
  | true => exact (litS 1 [49] (by decide) (by decide) (by decide) (by decide))
  | false =>
    show (BA [48]) = numS 0
    unfold numS
    rw [(itoa_zero_iff 0).2 rfl]
def dyZ (c : UInt8) (x y : Int) : ByteArray × Int :=
  if c = 43 then Nm.told (x + y) else if c = 45 then Nm.told (x - y) else if c = 42 then Nm.told (x * y)
  else if c = 37 then (if y = 0 then (BA [], 5) else Nm.told (fl x y)) else if c = 33 then (if y = 0 then (BA [], 5) else Nm.told (fm x y))
  else if c = 38 then (numS (if decide (x ≤ y) = true then x else y), 0) else if c = 124 then (numS (if decide (y ≤ x) = true then x else y), 0)
  else if c = 60 then (numS (b01 (decide (x < y))), 0) else if c = 62 then (numS (b01 (decide (y < x))), 0)
  else if c = 61 then (numS (b01 (decide (x = y))), 0) else (numS (b01 (!decide (x = y))), 0)
theorem cmp_le (x y : Int) : decide (cmpZ x y ≤ 0) = decide (x ≤ y) := by
  rw [decide_eq_decide]; unfold cmpZ; split <;> (try split) <;> omega
theorem cmp_ge (x y : Int) : decide (cmpZ x y ≥ 0) = decide (y ≤ x) := by
  rw [decide_eq_decide]; unfold cmpZ; split <;> (try split) <;> omega
theorem cmp_lt (x y : Int) : decide (cmpZ x y < 0) = decide (x < y) := by
  rw [decide_eq_decide]; unfold cmpZ; split <;> (try split) <;> omega
theorem cmp_gt (x y : Int) : decide (cmpZ x y > 0) = decide (y < x) := by
  rw [decide_eq_decide]; unfold cmpZ; split <;> (try split) <;> omega
theorem num_eqb (x y : Int) : ((numS x).toList == (numS y).toList) = decide (x = y) := by
  rw [numS_list, numS_list, Bool.eq_iff_iff, beq_iff_eq, decide_eq_true_iff]
  exact ⟨fun h => itoa_inj h, fun h => by rw [h]⟩
section
variable {x y : Int} (hx : Nm.Sm x) (hy : Nm.Sm y)
include hx hy
theorem min_runs : Runs Tryz.prog 78 [sD (numS x), sD (numS y)] (eD (numS (if decide (x ≤ y) = true then x else y), 0)) := by
  have h1 := cmp_yes hx hy
  have h2 := cmp_le x y
  have h3 := pick_runs (decide (x ≤ y)) (numS x) (numS y)
  rw [show (if decide (x ≤ y) = true then numS x else numS y) = numS (if decide (x ≤ y) = true then x else y) by split <;> rfl] at h3
  refine Runs.wp Go.Proofs.YtjldjhlccedkbaaGreatDoor.Am.hT Go.Proofs.YtjldjhlccedkbaaGreatDoor.Am.hm Tryz.func78 rfl (by decide) ⟨[], [0, 1, 4, 5], 15⟩ ?_; ((conv => whnf); repeat ((first | refine Wo ?_ | refine Go1 ?_ | refine Go2 ?_ | refine Go3 ?_ | refine Go4 ?_ | refine ⟨_, rfl, ?_⟩ | refine Mi rfl ?_); (conv => whnf)))
  ((conv => whnf); (refine HfA h1 ?_); ((conv => whnf); repeat ((first | refine Wo ?_ | refine Go1 ?_ | refine Go2 ?_ | refine Go3 ?_ | refine Go4 ?_ | refine ⟨_, rfl, ?_⟩ | refine Mi rfl ?_); (conv => whnf))))
  refine litE h2 ?_
  ((conv => whnf); repeat ((first | refine Wo ?_ | refine Go1 ?_ | refine Go2 ?_ | refine Go3 ?_ | refine Go4 ?_ | refine ⟨_, rfl, ?_⟩ | refine Mi rfl ?_); (conv => whnf)))
  ((conv => whnf); (refine HfA h3 ?_); ((conv => whnf); repeat ((first | refine Wo ?_ | refine Go1 ?_ | refine Go2 ?_ | refine Go3 ?_ | refine Go4 ?_ | refine ⟨_, rfl, ?_⟩ | refine Mi rfl ?_); (conv => whnf))))
  exact TeA
theorem max_runs : Runs Tryz.prog 81 [sD (numS x), sD (numS y)] (eD (numS (if decide (y ≤ x) = true then x else y), 0)) := by
  have h1 := cmp_yes hx hy
  have h2 := cmp_ge x y
  have h3 := pick_runs (decide (y ≤ x)) (numS x) (numS y)
  rw [show (if decide (y ≤ x) = true then numS x else numS y) = numS (if decide (y ≤ x) = true then x else y) by split <;> rfl] at h3
  refine Runs.wp Go.Proofs.YtjldjhlccedkbaaGreatDoor.Am.hT Go.Proofs.YtjldjhlccedkbaaGreatDoor.Am.hm Tryz.func81 rfl (by decide) ⟨[], [0, 1, 4, 5], 15⟩ ?_; ((conv => whnf); repeat ((first | refine Wo ?_ | refine Go1 ?_ | refine Go2 ?_ | refine Go3 ?_ | refine Go4 ?_ | refine ⟨_, rfl, ?_⟩ | refine Mi rfl ?_); (conv => whnf)))
  ((conv => whnf); (refine HfA h1 ?_); ((conv => whnf); repeat ((first | refine Wo ?_ | refine Go1 ?_ | refine Go2 ?_ | refine Go3 ?_ | refine Go4 ?_ | refine ⟨_, rfl, ?_⟩ | refine Mi rfl ?_); (conv => whnf))))
  refine litE h2 ?_
  ((conv => whnf); repeat ((first | refine Wo ?_ | refine Go1 ?_ | refine Go2 ?_ | refine Go3 ?_ | refine Go4 ?_ | refine ⟨_, rfl, ?_⟩ | refine Mi rfl ?_); (conv => whnf)))
  ((conv => whnf); (refine HfA h3 ?_); ((conv => whnf); repeat ((first | refine Wo ?_ | refine Go1 ?_ | refine Go2 ?_ | refine Go3 ?_ | refine Go4 ?_ | refine ⟨_, rfl, ?_⟩ | refine Mi rfl ?_); (conv => whnf))))
  exact TeA
theorem lt_runs : Runs Tryz.prog 82 [sD (numS x), sD (numS y)] (eD (numS (b01 (decide (x < y))), 0)) := by
  have h1 := cmp_yes hx hy
  have h2 := cmp_lt x y
  have h3 := stold_runs (decide (x < y))
  rw [stold_num] at h3
  refine Runs.wp Go.Proofs.YtjldjhlccedkbaaGreatDoor.Am.hT Go.Proofs.YtjldjhlccedkbaaGreatDoor.Am.hm Tryz.func82 rfl (by decide) ⟨[], [0, 1, 4, 5], 11⟩ ?_; ((conv => whnf); repeat ((first | refine Wo ?_ | refine Go1 ?_ | refine Go2 ?_ | refine Go3 ?_ | refine Go4 ?_ | refine ⟨_, rfl, ?_⟩ | refine Mi rfl ?_); (conv => whnf)))
  ((conv => whnf); (refine HfA h1 ?_); ((conv => whnf); repeat ((first | refine Wo ?_ | refine Go1 ?_ | refine Go2 ?_ | refine Go3 ?_ | refine Go4 ?_ | refine ⟨_, rfl, ?_⟩ | refine Mi rfl ?_); (conv => whnf))))
  refine litE h2 ?_
  ((conv => whnf); repeat ((first | refine Wo ?_ | refine Go1 ?_ | refine Go2 ?_ | refine Go3 ?_ | refine Go4 ?_ | refine ⟨_, rfl, ?_⟩ | refine Mi rfl ?_); (conv => whnf)))
  ((conv => whnf); (refine HfA h3 ?_); ((conv => whnf); repeat ((first | refine Wo ?_ | refine Go1 ?_ | refine Go2 ?_ | refine Go3 ?_ | refine Go4 ?_ | refine ⟨_, rfl, ?_⟩ | refine Mi rfl ?_); (conv => whnf))))
  exact TeA
theorem gt_runs : Runs Tryz.prog 84 [sD (numS x), sD (numS y)] (eD (numS (b01 (decide (y < x))), 0)) := by
  have h1 := cmp_yes hx hy
  have h2 := cmp_gt x y
  have h3 := stold_runs (decide (y < x))
  rw [stold_num] at h3
  refine Runs.wp Go.Proofs.YtjldjhlccedkbaaGreatDoor.Am.hT Go.Proofs.YtjldjhlccedkbaaGreatDoor.Am.hm Tryz.func84 rfl (by decide) ⟨[], [0, 1, 4, 5], 11⟩ ?_; ((conv => whnf); repeat ((first | refine Wo ?_ | refine Go1 ?_ | refine Go2 ?_ | refine Go3 ?_ | refine Go4 ?_ | refine ⟨_, rfl, ?_⟩ | refine Mi rfl ?_); (conv => whnf)))
  ((conv => whnf); (refine HfA h1 ?_); ((conv => whnf); repeat ((first | refine Wo ?_ | refine Go1 ?_ | refine Go2 ?_ | refine Go3 ?_ | refine Go4 ?_ | refine ⟨_, rfl, ?_⟩ | refine Mi rfl ?_); (conv => whnf))))
  refine litE h2 ?_
  ((conv => whnf); repeat ((first | refine Wo ?_ | refine Go1 ?_ | refine Go2 ?_ | refine Go3 ?_ | refine Go4 ?_ | refine ⟨_, rfl, ?_⟩ | refine Mi rfl ?_); (conv => whnf)))
  ((conv => whnf); (refine HfA h3 ?_); ((conv => whnf); repeat ((first | refine Wo ?_ | refine Go1 ?_ | refine Go2 ?_ | refine Go3 ?_ | refine Go4 ?_ | refine ⟨_, rfl, ?_⟩ | refine Mi rfl ?_); (conv => whnf))))
  exact TeA
omit hx hy in
theorem eq_runs : Runs Tryz.prog 85 [sD (numS x), sD (numS y)] (eD (numS (b01 (decide (x = y))), 0)) := by
  have h2 := num_eqb x y
  have h3 := stold_runs (decide (x = y))
  rw [stold_num] at h3
  refine Runs.wp Go.Proofs.YtjldjhlccedkbaaGreatDoor.Am.hT Go.Proofs.YtjldjhlccedkbaaGreatDoor.Am.hm Tryz.func85 rfl (by decide) ⟨[], [0, 1, 4, 5], 10⟩ ?_; ((conv => whnf); repeat ((first | refine Wo ?_ | refine Go1 ?_ | refine Go2 ?_ | refine Go3 ?_ | refine Go4 ?_ | refine ⟨_, rfl, ?_⟩ | refine Mi rfl ?_); (conv => whnf)))
  refine litE h2 ?_
  ((conv => whnf); repeat ((first | refine Wo ?_ | refine Go1 ?_ | refine Go2 ?_ | refine Go3 ?_ | refine Go4 ?_ | refine ⟨_, rfl, ?_⟩ | refine Mi rfl ?_); (conv => whnf)))
  ((conv => whnf); (refine HfA h3 ?_); ((conv => whnf); repeat ((first | refine Wo ?_ | refine Go1 ?_ | refine Go2 ?_ | refine Go3 ?_ | refine Go4 ?_ | refine ⟨_, rfl, ?_⟩ | refine Mi rfl ?_); (conv => whnf))))
  exact TeA
omit hx hy in
theorem ne_runs : Runs Tryz.prog 86 [sD (numS x), sD (numS y)] (eD (numS (b01 (!decide (x = y))), 0)) := by
  have h2 := show (!((numS x).toList == (numS y).toList)) = !decide (x = y) by rw [num_eqb]
  have h3 := stold_runs (!decide (x = y))
  rw [stold_num] at h3
  refine Runs.wp Go.Proofs.YtjldjhlccedkbaaGreatDoor.Am.hT Go.Proofs.YtjldjhlccedkbaaGreatDoor.Am.hm Tryz.func86 rfl (by decide) ⟨[], [0, 1, 4, 5], 10⟩ ?_; ((conv => whnf); repeat ((first | refine Wo ?_ | refine Go1 ?_ | refine Go2 ?_ | refine Go3 ?_ | refine Go4 ?_ | refine ⟨_, rfl, ?_⟩ | refine Mi rfl ?_); (conv => whnf)))
  refine litE h2 ?_
  ((conv => whnf); repeat ((first | refine Wo ?_ | refine Go1 ?_ | refine Go2 ?_ | refine Go3 ?_ | refine Go4 ?_ | refine ⟨_, rfl, ?_⟩ | refine Mi rfl ?_); (conv => whnf)))
  ((conv => whnf); (refine HfA h3 ?_); ((conv => whnf); repeat ((first | refine Wo ?_ | refine Go1 ?_ | refine Go2 ?_ | refine Go3 ?_ | refine Go4 ?_ | refine ⟨_, rfl, ?_⟩ | refine Mi rfl ?_); (conv => whnf))))
  exact TeA
omit hy
theorem mneg_runs : Runs Tryz.prog 115 [sD (numS x)] (sD (numS (-x))) := neg_yes hx
omit hx in
theorem mnot_runs : Runs Tryz.prog 116 [sD (numS x)] (sD (numS (b01 (decide (x = 0))))) := by
  have h2 := zS_b x
  have h3 := stold_runs (decide (x = 0))
  rw [stold_num] at h3
  refine Runs.wp Go.Proofs.YtjldjhlccedkbaaGreatDoor.Am.hT Go.Proofs.YtjldjhlccedkbaaGreatDoor.Am.hm Tryz.func116 rfl (by decide) ⟨[], [0, 2], 6⟩ ?_; ((conv => whnf); repeat ((first | refine Wo ?_ | refine Go1 ?_ | refine Go2 ?_ | refine Go3 ?_ | refine Go4 ?_ | refine ⟨_, rfl, ?_⟩ | refine Mi rfl ?_); (conv => whnf)))
  refine litE h2 ?_
  ((conv => whnf); repeat ((first | refine Wo ?_ | refine Go1 ?_ | refine Go2 ?_ | refine Go3 ?_ | refine Go4 ?_ | refine ⟨_, rfl, ?_⟩ | refine Mi rfl ?_); (conv => whnf)))
  ((conv => whnf); (refine HfA h3 ?_); ((conv => whnf); repeat ((first | refine Wo ?_ | refine Go1 ?_ | refine Go2 ?_ | refine Go3 ?_ | refine Go4 ?_ | refine ⟨_, rfl, ?_⟩ | refine Mi rfl ?_); (conv => whnf))))
  exact TeA
theorem msgn_runs : Runs Tryz.prog 117 [sD (numS x)] (sD (numS (sgn x))) := by
  have h1 := sign_yes hx
  have hb : -1 ≤ sgn x ∧ sgn x ≤ 1 := by unfold sgn; split <;> (try split) <;> omega
  have h3 := of_runs (sgn x) (by omega) (by omega)
  have hw : IntKind.i64.wrap (sgn x) = sgn x := i64w (by omega) (by omega)
  refine Runs.wp Go.Proofs.YtjldjhlccedkbaaGreatDoor.Am.hT Go.Proofs.YtjldjhlccedkbaaGreatDoor.Am.hm Tryz.func117 rfl (by decide) ⟨[], [0, 2], 6⟩ ?_; ((conv => whnf); repeat ((first | refine Wo ?_ | refine Go1 ?_ | refine Go2 ?_ | refine Go3 ?_ | refine Go4 ?_ | refine ⟨_, rfl, ?_⟩ | refine Mi rfl ?_); (conv => whnf)))
  ((conv => whnf); (refine HfA h1 ?_); ((conv => whnf); repeat ((first | refine Wo ?_ | refine Go1 ?_ | refine Go2 ?_ | refine Go3 ?_ | refine Go4 ?_ | refine ⟨_, rfl, ?_⟩ | refine Mi rfl ?_); (conv => whnf))))
  ((conv => whnf); (refine HfA h3 ?_); ((conv => whnf); repeat ((first | refine Wo ?_ | refine Go1 ?_ | refine Go2 ?_ | refine Go3 ?_ | refine Go4 ?_ | refine ⟨_, rfl, ?_⟩ | refine Mi rfl ?_); (conv => whnf))))
  exact TeA
end
end Go.Proofs.YtjldjhlccedkbaaGreatDoor.Am
end
section
/- scalar.Dyad, at every sign. -/
namespace Go.Proofs.YtjldjhlccedkbaaGreatDoor.Am
open Go Go.Lib Go.RowKit Go.Proofs.YtjldjhlccedkbaaGreatDoor.Nm Go.Proofs.YtjldjhlccedkbaaGreatDoorW.PrintWords Go.Proofs.YtjldjhlccedkbaaGreatDoor
set_option linter.unusedVariables false
set_option linter.unusedSimpArgs false
set_option maxRecDepth 100000
set_option maxHeartbeats 8000000
theorem num_mayB {b : ByteArray} (h : mayB b = true) : ∃ x, b = numS x ∧ Nm.Sm x := by
  obtain ⟨z, h1, h2⟩ := num_of_may _ h
  exact ⟨z, by unfold numS; rw [← h1], h2⟩
def sd (op a b : ByteArray) : ByteArray × Int := dyZ (op.data.toList.headD 0) (zB a) (zB b)
theorem sd_num (c : UInt8) (x y : Int) : sd ⟨#[c]⟩ (numS x) (numS y) = dyZ c x y := by
  unfold sd
  rw [zB_num, zB_num]
  rfl
theorem sg_dy {op : ByteArray} (h : sgB dyS op = true) : ∃ c, op = ⟨#[c]⟩ ∧ c ∈ ([43, 45, 42, 37, 33, 38, 124, 60, 62, 61, 126] : List UInt8) := by
  unfold sgB at h
  split at h
  · rename_i c hc
    exact ⟨c, by rw [ba_of op, hc], by simpa [dyS] using h⟩
  · cases h
theorem dyZ_runs {x y : Int} (hx : Nm.Sm x) (hy : Nm.Sm y) {c : UInt8} (hc : c ∈ ([43, 45, 42, 37, 33, 38, 124, 60, 62, 61, 126] : List UInt8)) : Runs Tryz.prog 31 [sD ⟨#[c]⟩, sD (numS x), sD (numS y)] (eD (dyZ c x y)) := by
  have m1 := mayZ hx
  have m2 := mayZ hy
  simp only [List.mem_cons, List.not_mem_nil, or_false] at hc
  rcases hc with rfl | rfl | rfl | rfl | rfl | rfl | rfl | rfl | rfl | rfl | rfl
  · exact sc_add m1 m2 (add_yes hx hy)
  · exact sc_sub m1 m2 (sub_yes hx hy)
  · exact sc_mul m1 m2 (mul_yes hx hy)
  · show Runs Tryz.prog 31 _ (eD (if y = 0 then (BA [], 5) else Nm.told (fl x y)))
    by_cases h0 : y = 0
    · subst h0
      rw [if_pos rfl]
      exact sc_div m1 m2 (div_zero hx)
    · rw [if_neg h0]
      exact sc_div m1 m2 (div_yes hx hy h0)
  · show Runs Tryz.prog 31 _ (eD (if y = 0 then (BA [], 5) else Nm.told (fm x y)))
    by_cases h0 : y = 0
    · subst h0
      rw [if_pos rfl]
      exact sc_mod m1 m2 (mod_zero hx)
    · rw [if_neg h0]
      exact sc_mod m1 m2 (mod_yes hx hy h0)
  · exact sc_min m1 m2 (min_runs hx hy)
  · exact sc_max m1 m2 (max_runs hx hy)
  · exact sc_lt m1 m2 (lt_runs hx hy)
  · exact sc_gt m1 m2 (gt_runs hx hy)
  · exact sc_eq m1 m2 eq_runs
  · exact sc_ne m1 m2 ne_runs
theorem sd_runs {op a b : ByteArray} (ho : sgB dyS op = true) (ha : mayB a = true) (hb : mayB b = true) : Runs Tryz.prog 31 [sD op, sD a, sD b] (eD (sd op a b)) := by
  obtain ⟨c, rfl, hc⟩ := sg_dy ho
  obtain ⟨x, rfl, hx⟩ := num_mayB ha
  obtain ⟨y, rfl, hy⟩ := num_mayB hb
  rw [sd_num]
  exact dyZ_runs hx hy hc
/-! ### one number -/
def moS : ByteArray := ⟨#[45, 126, 42]⟩
def moZ (c : UInt8) (x : Int) : ByteArray := if c = 45 then numS (-x) else if c = 126 then numS (b01 (decide (x = 0))) else numS (sgn x)
def smo (op a : ByteArray) : ByteArray := moZ (op.data.toList.headD 0) (zB a)
theorem monads_runs : Runs Tryz.prog 60 [] (sD moS) := by
  refine Runs.wp Go.Proofs.YtjldjhlccedkbaaGreatDoor.Am.hT Go.Proofs.YtjldjhlccedkbaaGreatDoor.Am.hm Tryz.func60 rfl (by decide) ⟨[], [0], 1⟩ ?_; ((conv => whnf); repeat ((first | refine Wo ?_ | refine Go1 ?_ | refine Go2 ?_ | refine Go3 ?_ | refine Go4 ?_ | refine ⟨_, rfl, ?_⟩ | refine Mi rfl ?_); (conv => whnf)))
  exact TeA
theorem smo_num (c : UInt8) (x : Int) : smo ⟨#[c]⟩ (numS x) = moZ c x := by
  unfold smo
  rw [zB_num]
  rfl
theorem smo_runs {op a : ByteArray} (ho : sgB moS op = true) (ha : mayB a = true) : Runs Tryz.prog 62 [sD op, sD a] (eD (smo op a, 0)) := by
  obtain ⟨x, rfl, hx⟩ := num_mayB ha
  have m1 := mayZ hx
  unfold sgB at ho
  split at ho
  · rename_i c hc
    have hc2 : c ∈ ([45, 126, 42] : List UInt8) := by simpa [moS] using ho
    rw [show op = ⟨#[c]⟩ by rw [ba_of op, hc], smo_num]
    simp only [List.mem_cons, List.not_mem_nil, or_false] at hc2
    rcases hc2 with rfl | rfl | rfl
    · exact sm_neg_runs m1 (mneg_runs hx)
    · exact sm_not_runs m1 mnot_runs
    · exact sm_sgn_runs m1 (msgn_runs hx)
  · cases ho
end Go.Proofs.YtjldjhlccedkbaaGreatDoor.Am
end
section
/- The document's signs, each: what the program's do. -/
namespace Go.Proofs.YtjldjhlccedkbaaGreatDoor.Am
open Go Go.Lib Go.RowKit Go.Proofs.YtjldjhlccedkbaaGreatDoor.Nm Go.Proofs.YtjldjhlccedkbaaGreatDoorW.PrintWords Go.Proofs.YtjldjhlccedkbaaGreatDoor
set_option linter.unusedVariables false
set_option linter.unusedSimpArgs false
set_option maxRecDepth 100000
set_option maxHeartbeats 8000000
theorem rbit_runs (p : Bool) : Runs Tryz.prog 113 [bD p] (sD (numS (b01 p))) := by
  rw [← stold_num]
  cases p with
  | true =>
    refine Runs.wp Go.Proofs.YtjldjhlccedkbaaGreatDoor.Am.hT Go.Proofs.YtjldjhlccedkbaaGreatDoor.Am.hm Tryz.func113 rfl (by decide) ⟨[], [0, 2, 3], 4⟩ ?_; ((conv => whnf); repeat ((first | refine Wo ?_ | refine Go1 ?_ | refine Go2 ?_ | refine Go3 ?_ | refine Go4 ?_ | refine ⟨_, rfl, ?_⟩ | refine Mi rfl ?_); (conv => whnf)))
    exact TeA
  | false =>
    refine Runs.wp Go.Proofs.YtjldjhlccedkbaaGreatDoor.Am.hT Go.Proofs.YtjldjhlccedkbaaGreatDoor.Am.hm Tryz.func113 rfl (by decide) ⟨[], [0, 2, 3], 4⟩ ?_; ((conv => whnf); repeat ((first | refine Wo ?_ | refine Go1 ?_ | refine Go2 ?_ | refine Go3 ?_ | refine Go4 ?_ | refine ⟨_, rfl, ?_⟩ | refine Mi rfl ?_); (conv => whnf)))
    exact TeA
theorem cq {c d : UInt8} {b : Bool} (h : (c == d) = b) : ((⟨#[c]⟩ : ByteArray).toList == ByteArray.toList ⟨#[d]⟩) = b := by
  rw [← h, show (⟨#[c]⟩ : ByteArray).toList = [c] from ba_list [c], show ByteArray.toList ⟨#[d]⟩ = [d] from ba_list [d]]
  simp
theorem sgn_lt {z : Int} : sgn z < 0 ↔ z < 0 := by unfold sgn; split <;> (try split) <;> omega
theorem sgn_gt {z : Int} : sgn z > 0 ↔ 0 < z := by unfold sgn; split <;> (try split) <;> omega
theorem sgn_0 {z : Int} : sgn z = 0 ↔ z = 0 := by unfold sgn; split <;> (try split) <;> omega
section
variable {x y : Int} (hx : Nm.Sm x) (hy : Nm.Sm y)
include hx hy
theorem rd_43 : Runs Tryz.prog 57 [sD ⟨#[43]⟩, sD (numS x), sD (numS y)] (eD (dyZ 43 x y)) := by
  have m1 := nmay_runs hx
  have m2 := nmay_runs hy
  have cm := ncmp_runs hx hy
  have r := nadd_runs hx hy
  show Runs Tryz.prog 57 _ (eD (Nm.told (x + y)))
  refine Runs.wp Go.Proofs.YtjldjhlccedkbaaGreatDoor.Am.hT Go.Proofs.YtjldjhlccedkbaaGreatDoor.Am.hm Tryz.func57 rfl (by decide) ⟨[], [0, 1, 2, 6, 7, 8, 16, 20, 21, 28, 35, 42, 49, 56, 61, 66, 71, 89, 96], 98⟩ ?_; ((conv => whnf); repeat ((first | refine Wo ?_ | refine Go1 ?_ | refine Go2 ?_ | refine Go3 ?_ | refine Go4 ?_ | refine ⟨_, rfl, ?_⟩ | refine Mi rfl ?_); (conv => whnf)))
  ((conv => whnf); (refine HfA m1 ?_); ((conv => whnf); repeat ((first | refine Wo ?_ | refine Go1 ?_ | refine Go2 ?_ | refine Go3 ?_ | refine Go4 ?_ | refine ⟨_, rfl, ?_⟩ | refine Mi rfl ?_); (conv => whnf))))
  ((conv => whnf); (refine HfA m2 ?_); ((conv => whnf); repeat ((first | refine Wo ?_ | refine Go1 ?_ | refine Go2 ?_ | refine Go3 ?_ | refine Go4 ?_ | refine ⟨_, rfl, ?_⟩ | refine Mi rfl ?_); (conv => whnf))))
  ((conv => whnf); (refine HfA cm ?_); ((conv => whnf); repeat ((first | refine Wo ?_ | refine Go1 ?_ | refine Go2 ?_ | refine Go3 ?_ | refine Go4 ?_ | refine ⟨_, rfl, ?_⟩ | refine Mi rfl ?_); (conv => whnf))))
  refine litE (cq (c := 43) (d := 43) (b := true) (by decide)) ?_
  ((conv => whnf); repeat ((first | refine Wo ?_ | refine Go1 ?_ | refine Go2 ?_ | refine Go3 ?_ | refine Go4 ?_ | refine ⟨_, rfl, ?_⟩ | refine Mi rfl ?_); (conv => whnf)))
  ((conv => whnf); (refine HrA r ?_); ((conv => whnf); repeat ((first | refine Wo ?_ | refine Go1 ?_ | refine Go2 ?_ | refine Go3 ?_ | refine Go4 ?_ | refine ⟨_, rfl, ?_⟩ | refine Mi rfl ?_); (conv => whnf))))
  exact TeA
theorem rd_45 : Runs Tryz.prog 57 [sD ⟨#[45]⟩, sD (numS x), sD (numS y)] (eD (dyZ 45 x y)) := by
  have m1 := nmay_runs hx
  have m2 := nmay_runs hy
  have cm := ncmp_runs hx hy
  have r := nsub_runs hx hy
  show Runs Tryz.prog 57 _ (eD (Nm.told (x - y)))
  refine Runs.wp Go.Proofs.YtjldjhlccedkbaaGreatDoor.Am.hT Go.Proofs.YtjldjhlccedkbaaGreatDoor.Am.hm Tryz.func57 rfl (by decide) ⟨[], [0, 1, 2, 6, 7, 8, 16, 20, 21, 28, 35, 42, 49, 56, 61, 66, 71, 89, 96], 98⟩ ?_; ((conv => whnf); repeat ((first | refine Wo ?_ | refine Go1 ?_ | refine Go2 ?_ | refine Go3 ?_ | refine Go4 ?_ | refine ⟨_, rfl, ?_⟩ | refine Mi rfl ?_); (conv => whnf)))
  ((conv => whnf); (refine HfA m1 ?_); ((conv => whnf); repeat ((first | refine Wo ?_ | refine Go1 ?_ | refine Go2 ?_ | refine Go3 ?_ | refine Go4 ?_ | refine ⟨_, rfl, ?_⟩ | refine Mi rfl ?_); (conv => whnf))))
  ((conv => whnf); (refine HfA m2 ?_); ((conv => whnf); repeat ((first | refine Wo ?_ | refine Go1 ?_ | refine Go2 ?_ | refine Go3 ?_ | refine Go4 ?_ | refine ⟨_, rfl, ?_⟩ | refine Mi rfl ?_); (conv => whnf))))
  ((conv => whnf); (refine HfA cm ?_); ((conv => whnf); repeat ((first | refine Wo ?_ | refine Go1 ?_ | refine Go2 ?_ | refine Go3 ?_ | refine Go4 ?_ | refine ⟨_, rfl, ?_⟩ | refine Mi rfl ?_); (conv => whnf))))
  refine litE (cq (c := 45) (d := 43) (b := false) (by decide)) ?_
  ((conv => whnf); repeat ((first | refine Wo ?_ | refine Go1 ?_ | refine Go2 ?_ | refine Go3 ?_ | refine Go4 ?_ | refine ⟨_, rfl, ?_⟩ | refine Mi rfl ?_); (conv => whnf)))
  refine litE (cq (c := 45) (d := 45) (b := true) (by decide)) ?_
  ((conv => whnf); repeat ((first | refine Wo ?_ | refine Go1 ?_ | refine Go2 ?_ | refine Go3 ?_ | refine Go4 ?_ | refine ⟨_, rfl, ?_⟩ | refine Mi rfl ?_); (conv => whnf)))
  ((conv => whnf); (refine HrA r ?_); ((conv => whnf); repeat ((first | refine Wo ?_ | refine Go1 ?_ | refine Go2 ?_ | refine Go3 ?_ | refine Go4 ?_ | refine ⟨_, rfl, ?_⟩ | refine Mi rfl ?_); (conv => whnf))))
  exact TeA
theorem rd_42 : Runs Tryz.prog 57 [sD ⟨#[42]⟩, sD (numS x), sD (numS y)] (eD (dyZ 42 x y)) := by
  have m1 := nmay_runs hx
  have m2 := nmay_runs hy
  have cm := ncmp_runs hx hy
  have r := nmul_runs hx hy
  show Runs Tryz.prog 57 _ (eD (Nm.told (x * y)))
  refine Runs.wp Go.Proofs.YtjldjhlccedkbaaGreatDoor.Am.hT Go.Proofs.YtjldjhlccedkbaaGreatDoor.Am.hm Tryz.func57 rfl (by decide) ⟨[], [0, 1, 2, 6, 7, 8, 16, 20, 21, 28, 35, 42, 49, 56, 61, 66, 71, 89, 96], 98⟩ ?_; ((conv => whnf); repeat ((first | refine Wo ?_ | refine Go1 ?_ | refine Go2 ?_ | refine Go3 ?_ | refine Go4 ?_ | refine ⟨_, rfl, ?_⟩ | refine Mi rfl ?_); (conv => whnf)))
  ((conv => whnf); (refine HfA m1 ?_); ((conv => whnf); repeat ((first | refine Wo ?_ | refine Go1 ?_ | refine Go2 ?_ | refine Go3 ?_ | refine Go4 ?_ | refine ⟨_, rfl, ?_⟩ | refine Mi rfl ?_); (conv => whnf))))
  ((conv => whnf); (refine HfA m2 ?_); ((conv => whnf); repeat ((first | refine Wo ?_ | refine Go1 ?_ | refine Go2 ?_ | refine Go3 ?_ | refine Go4 ?_ | refine ⟨_, rfl, ?_⟩ | refine Mi rfl ?_); (conv => whnf))))
  ((conv => whnf); (refine HfA cm ?_); ((conv => whnf); repeat ((first | refine Wo ?_ | refine Go1 ?_ | refine Go2 ?_ | refine Go3 ?_ | refine Go4 ?_ | refine ⟨_, rfl, ?_⟩ | refine Mi rfl ?_); (conv => whnf))))
  refine litE (cq (c := 42) (d := 43) (b := false) (by decide)) ?_
  ((conv => whnf); repeat ((first | refine Wo ?_ | refine Go1 ?_ | refine Go2 ?_ | refine Go3 ?_ | refine Go4 ?_ | refine ⟨_, rfl, ?_⟩ | refine Mi rfl ?_); (conv => whnf)))
  refine litE (cq (c := 42) (d := 45) (b := false) (by decide)) ?_
  ((conv => whnf); repeat ((first | refine Wo ?_ | refine Go1 ?_ | refine Go2 ?_ | refine Go3 ?_ | refine Go4 ?_ | refine ⟨_, rfl, ?_⟩ | refine Mi rfl ?_); (conv => whnf)))
  refine litE (cq (c := 42) (d := 42) (b := true) (by decide)) ?_
  ((conv => whnf); repeat ((first | refine Wo ?_ | refine Go1 ?_ | refine Go2 ?_ | refine Go3 ?_ | refine Go4 ?_ | refine ⟨_, rfl, ?_⟩ | refine Mi rfl ?_); (conv => whnf)))
  ((conv => whnf); (refine HrA r ?_); ((conv => whnf); repeat ((first | refine Wo ?_ | refine Go1 ?_ | refine Go2 ?_ | refine Go3 ?_ | refine Go4 ?_ | refine ⟨_, rfl, ?_⟩ | refine Mi rfl ?_); (conv => whnf))))
  exact TeA
theorem rd_37 : Runs Tryz.prog 57 [sD ⟨#[37]⟩, sD (numS x), sD (numS y)] (eD (dyZ 37 x y)) := by
  have m1 := nmay_runs hx
  have m2 := nmay_runs hy
  have cm := ncmp_runs hx hy
  show Runs Tryz.prog 57 _ (eD (if y = 0 then (BA [], 5) else Nm.told (fl x y)))
  by_cases h0 : y = 0
  · subst h0
    rw [if_pos rfl]
    have r := ndiv0_runs hx
    refine Runs.wp Go.Proofs.YtjldjhlccedkbaaGreatDoor.Am.hT Go.Proofs.YtjldjhlccedkbaaGreatDoor.Am.hm Tryz.func57 rfl (by decide) ⟨[], [0, 1, 2, 6, 7, 8, 16, 20, 21, 28, 35, 42, 49, 56, 61, 66, 71, 89, 96], 98⟩ ?_; ((conv => whnf); repeat ((first | refine Wo ?_ | refine Go1 ?_ | refine Go2 ?_ | refine Go3 ?_ | refine Go4 ?_ | refine ⟨_, rfl, ?_⟩ | refine Mi rfl ?_); (conv => whnf)))
    ((conv => whnf); (refine HfA m1 ?_); ((conv => whnf); repeat ((first | refine Wo ?_ | refine Go1 ?_ | refine Go2 ?_ | refine Go3 ?_ | refine Go4 ?_ | refine ⟨_, rfl, ?_⟩ | refine Mi rfl ?_); (conv => whnf))))
    ((conv => whnf); (refine HfA m2 ?_); ((conv => whnf); repeat ((first | refine Wo ?_ | refine Go1 ?_ | refine Go2 ?_ | refine Go3 ?_ | refine Go4 ?_ | refine ⟨_, rfl, ?_⟩ | refine Mi rfl ?_); (conv => whnf))))
    ((conv => whnf); (refine HfA cm ?_); ((conv => whnf); repeat ((first | refine Wo ?_ | refine Go1 ?_ | refine Go2 ?_ | refine Go3 ?_ | refine Go4 ?_ | refine ⟨_, rfl, ?_⟩ | refine Mi rfl ?_); (conv => whnf))))
    refine litE (cq (c := 37) (d := 43) (b := false) (by decide)) ?_
    ((conv => whnf); repeat ((first | refine Wo ?_ | refine Go1 ?_ | refine Go2 ?_ | refine Go3 ?_ | refine Go4 ?_ | refine ⟨_, rfl, ?_⟩ | refine Mi rfl ?_); (conv => whnf)))
    refine litE (cq (c := 37) (d := 45) (b := false) (by decide)) ?_
    ((conv => whnf); repeat ((first | refine Wo ?_ | refine Go1 ?_ | refine Go2 ?_ | refine Go3 ?_ | refine Go4 ?_ | refine ⟨_, rfl, ?_⟩ | refine Mi rfl ?_); (conv => whnf)))
    refine litE (cq (c := 37) (d := 42) (b := false) (by decide)) ?_
    ((conv => whnf); repeat ((first | refine Wo ?_ | refine Go1 ?_ | refine Go2 ?_ | refine Go3 ?_ | refine Go4 ?_ | refine ⟨_, rfl, ?_⟩ | refine Mi rfl ?_); (conv => whnf)))
    refine litE (cq (c := 37) (d := 37) (b := true) (by decide)) ?_
    ((conv => whnf); repeat ((first | refine Wo ?_ | refine Go1 ?_ | refine Go2 ?_ | refine Go3 ?_ | refine Go4 ?_ | refine ⟨_, rfl, ?_⟩ | refine Mi rfl ?_); (conv => whnf)))
    ((conv => whnf); (refine HrA r ?_); ((conv => whnf); repeat ((first | refine Wo ?_ | refine Go1 ?_ | refine Go2 ?_ | refine Go3 ?_ | refine Go4 ?_ | refine ⟨_, rfl, ?_⟩ | refine Mi rfl ?_); (conv => whnf))))
    exact TeA
  · rw [if_neg h0]
    have r := ndiv_runs hx hy h0
    refine Runs.wp Go.Proofs.YtjldjhlccedkbaaGreatDoor.Am.hT Go.Proofs.YtjldjhlccedkbaaGreatDoor.Am.hm Tryz.func57 rfl (by decide) ⟨[], [0, 1, 2, 6, 7, 8, 16, 20, 21, 28, 35, 42, 49, 56, 61, 66, 71, 89, 96], 98⟩ ?_; ((conv => whnf); repeat ((first | refine Wo ?_ | refine Go1 ?_ | refine Go2 ?_ | refine Go3 ?_ | refine Go4 ?_ | refine ⟨_, rfl, ?_⟩ | refine Mi rfl ?_); (conv => whnf)))
    ((conv => whnf); (refine HfA m1 ?_); ((conv => whnf); repeat ((first | refine Wo ?_ | refine Go1 ?_ | refine Go2 ?_ | refine Go3 ?_ | refine Go4 ?_ | refine ⟨_, rfl, ?_⟩ | refine Mi rfl ?_); (conv => whnf))))
    ((conv => whnf); (refine HfA m2 ?_); ((conv => whnf); repeat ((first | refine Wo ?_ | refine Go1 ?_ | refine Go2 ?_ | refine Go3 ?_ | refine Go4 ?_ | refine ⟨_, rfl, ?_⟩ | refine Mi rfl ?_); (conv => whnf))))
    ((conv => whnf); (refine HfA cm ?_); ((conv => whnf); repeat ((first | refine Wo ?_ | refine Go1 ?_ | refine Go2 ?_ | refine Go3 ?_ | refine Go4 ?_ | refine ⟨_, rfl, ?_⟩ | refine Mi rfl ?_); (conv => whnf))))
    refine litE (cq (c := 37) (d := 43) (b := false) (by decide)) ?_
    ((conv => whnf); repeat ((first | refine Wo ?_ | refine Go1 ?_ | refine Go2 ?_ | refine Go3 ?_ | refine Go4 ?_ | refine ⟨_, rfl, ?_⟩ | refine Mi rfl ?_); (conv => whnf)))
    refine litE (cq (c := 37) (d := 45) (b := false) (by decide)) ?_
    ((conv => whnf); repeat ((first | refine Wo ?_ | refine Go1 ?_ | refine Go2 ?_ | refine Go3 ?_ | refine Go4 ?_ | refine ⟨_, rfl, ?_⟩ | refine Mi rfl ?_); (conv => whnf)))
    refine litE (cq (c := 37) (d := 42) (b := false) (by decide)) ?_
    ((conv => whnf); repeat ((first | refine Wo ?_ | refine Go1 ?_ | refine Go2 ?_ | refine Go3 ?_ | refine Go4 ?_ | refine ⟨_, rfl, ?_⟩ | refine Mi rfl ?_); (conv => whnf)))
    refine litE (cq (c := 37) (d := 37) (b := true) (by decide)) ?_
    ((conv => whnf); repeat ((first | refine Wo ?_ | refine Go1 ?_ | refine Go2 ?_ | refine Go3 ?_ | refine Go4 ?_ | refine ⟨_, rfl, ?_⟩ | refine Mi rfl ?_); (conv => whnf)))
    ((conv => whnf); (refine HrA r ?_); ((conv => whnf); repeat ((first | refine Wo ?_ | refine Go1 ?_ | refine Go2 ?_ | refine Go3 ?_ | refine Go4 ?_ | refine ⟨_, rfl, ?_⟩ | refine Mi rfl ?_); (conv => whnf))))
    exact TeA
theorem rd_33 : Runs Tryz.prog 57 [sD ⟨#[33]⟩, sD (numS x), sD (numS y)] (eD (dyZ 33 x y)) := by
  have m1 := nmay_runs hx
  have m2 := nmay_runs hy
  have cm := ncmp_runs hx hy
  show Runs Tryz.prog 57 _ (eD (if y = 0 then (BA [], 5) else Nm.told (fm x y)))
  by_cases h0 : y = 0
  · subst h0
    rw [if_pos rfl]
    have r := nmod0_runs hx
    refine Runs.wp Go.Proofs.YtjldjhlccedkbaaGreatDoor.Am.hT Go.Proofs.YtjldjhlccedkbaaGreatDoor.Am.hm Tryz.func57 rfl (by decide) ⟨[], [0, 1, 2, 6, 7, 8, 16, 20, 21, 28, 35, 42, 49, 56, 61, 66, 71, 89, 96], 98⟩ ?_; ((conv => whnf); repeat ((first | refine Wo ?_ | refine Go1 ?_ | refine Go2 ?_ | refine Go3 ?_ | refine Go4 ?_ | refine ⟨_, rfl, ?_⟩ | refine Mi rfl ?_); (conv => whnf)))
    ((conv => whnf); (refine HfA m1 ?_); ((conv => whnf); repeat ((first | refine Wo ?_ | refine Go1 ?_ | refine Go2 ?_ | refine Go3 ?_ | refine Go4 ?_ | refine ⟨_, rfl, ?_⟩ | refine Mi rfl ?_); (conv => whnf))))
    ((conv => whnf); (refine HfA m2 ?_); ((conv => whnf); repeat ((first | refine Wo ?_ | refine Go1 ?_ | refine Go2 ?_ | refine Go3 ?_ | refine Go4 ?_ | refine ⟨_, rfl, ?_⟩ | refine Mi rfl ?_); (conv => whnf))))
    ((conv => whnf); (refine HfA cm ?_); ((conv => whnf); repeat ((first | refine Wo ?_ | refine Go1 ?_ | refine Go2 ?_ | refine Go3 ?_ | refine Go4 ?_ | refine ⟨_, rfl, ?_⟩ | refine Mi rfl ?_); (conv => whnf))))
    refine litE (cq (c := 33) (d := 43) (b := false) (by decide)) ?_
    ((conv => whnf); repeat ((first | refine Wo ?_ | refine Go1 ?_ | refine Go2 ?_ | refine Go3 ?_ | refine Go4 ?_ | refine ⟨_, rfl, ?_⟩ | refine Mi rfl ?_); (conv => whnf)))
    refine litE (cq (c := 33) (d := 45) (b := false) (by decide)) ?_
    ((conv => whnf); repeat ((first | refine Wo ?_ | refine Go1 ?_ | refine Go2 ?_ | refine Go3 ?_ | refine Go4 ?_ | refine ⟨_, rfl, ?_⟩ | refine Mi rfl ?_); (conv => whnf)))
    refine litE (cq (c := 33) (d := 42) (b := false) (by decide)) ?_
    ((conv => whnf); repeat ((first | refine Wo ?_ | refine Go1 ?_ | refine Go2 ?_ | refine Go3 ?_ | refine Go4 ?_ | refine ⟨_, rfl, ?_⟩ | refine Mi rfl ?_); (conv => whnf)))
    refine litE (cq (c := 33) (d := 37) (b := false) (by decide)) ?_
    ((conv => whnf); repeat ((first | refine Wo ?_ | refine Go1 ?_ | refine Go2 ?_ | refine Go3 ?_ | refine Go4 ?_ | refine ⟨_, rfl, ?_⟩ | refine Mi rfl ?_); (conv => whnf)))
    refine litE (cq (c := 33) (d := 33) (b := true) (by decide)) ?_
    ((conv => whnf); repeat ((first | refine Wo ?_ | refine Go1 ?_ | refine Go2 ?_ | refine Go3 ?_ | refine Go4 ?_ | refine ⟨_, rfl, ?_⟩ | refine Mi rfl ?_); (conv => whnf)))
    ((conv => whnf); (refine HrA r ?_); ((conv => whnf); repeat ((first | refine Wo ?_ | refine Go1 ?_ | refine Go2 ?_ | refine Go3 ?_ | refine Go4 ?_ | refine ⟨_, rfl, ?_⟩ | refine Mi rfl ?_); (conv => whnf))))
    exact TeA
  · rw [if_neg h0]
    have r := nmod_runs hx hy h0
    refine Runs.wp Go.Proofs.YtjldjhlccedkbaaGreatDoor.Am.hT Go.Proofs.YtjldjhlccedkbaaGreatDoor.Am.hm Tryz.func57 rfl (by decide) ⟨[], [0, 1, 2, 6, 7, 8, 16, 20, 21, 28, 35, 42, 49, 56, 61, 66, 71, 89, 96], 98⟩ ?_; ((conv => whnf); repeat ((first | refine Wo ?_ | refine Go1 ?_ | refine Go2 ?_ | refine Go3 ?_ | refine Go4 ?_ | refine ⟨_, rfl, ?_⟩ | refine Mi rfl ?_); (conv => whnf)))
    ((conv => whnf); (refine HfA m1 ?_); ((conv => whnf); repeat ((first | refine Wo ?_ | refine Go1 ?_ | refine Go2 ?_ | refine Go3 ?_ | refine Go4 ?_ | refine ⟨_, rfl, ?_⟩ | refine Mi rfl ?_); (conv => whnf))))
    ((conv => whnf); (refine HfA m2 ?_); ((conv => whnf); repeat ((first | refine Wo ?_ | refine Go1 ?_ | refine Go2 ?_ | refine Go3 ?_ | refine Go4 ?_ | refine ⟨_, rfl, ?_⟩ | refine Mi rfl ?_); (conv => whnf))))
    ((conv => whnf); (refine HfA cm ?_); ((conv => whnf); repeat ((first | refine Wo ?_ | refine Go1 ?_ | refine Go2 ?_ | refine Go3 ?_ | refine Go4 ?_ | refine ⟨_, rfl, ?_⟩ | refine Mi rfl ?_); (conv => whnf))))
    refine litE (cq (c := 33) (d := 43) (b := false) (by decide)) ?_
    ((conv => whnf); repeat ((first | refine Wo ?_ | refine Go1 ?_ | refine Go2 ?_ | refine Go3 ?_ | refine Go4 ?_ | refine ⟨_, rfl, ?_⟩ | refine Mi rfl ?_); (conv => whnf)))
    refine litE (cq (c := 33) (d := 45) (b := false) (by decide)) ?_
    ((conv => whnf); repeat ((first | refine Wo ?_ | refine Go1 ?_ | refine Go2 ?_ | refine Go3 ?_ | refine Go4 ?_ | refine ⟨_, rfl, ?_⟩ | refine Mi rfl ?_); (conv => whnf)))
    refine litE (cq (c := 33) (d := 42) (b := false) (by decide)) ?_
    ((conv => whnf); repeat ((first | refine Wo ?_ | refine Go1 ?_ | refine Go2 ?_ | refine Go3 ?_ | refine Go4 ?_ | refine ⟨_, rfl, ?_⟩ | refine Mi rfl ?_); (conv => whnf)))
    refine litE (cq (c := 33) (d := 37) (b := false) (by decide)) ?_
    ((conv => whnf); repeat ((first | refine Wo ?_ | refine Go1 ?_ | refine Go2 ?_ | refine Go3 ?_ | refine Go4 ?_ | refine ⟨_, rfl, ?_⟩ | refine Mi rfl ?_); (conv => whnf)))
    refine litE (cq (c := 33) (d := 33) (b := true) (by decide)) ?_
    ((conv => whnf); repeat ((first | refine Wo ?_ | refine Go1 ?_ | refine Go2 ?_ | refine Go3 ?_ | refine Go4 ?_ | refine ⟨_, rfl, ?_⟩ | refine Mi rfl ?_); (conv => whnf)))
    ((conv => whnf); (refine HrA r ?_); ((conv => whnf); repeat ((first | refine Wo ?_ | refine Go1 ?_ | refine Go2 ?_ | refine Go3 ?_ | refine Go4 ?_ | refine ⟨_, rfl, ?_⟩ | refine Mi rfl ?_); (conv => whnf))))
    exact TeA
theorem rd_60 : Runs Tryz.prog 57 [sD ⟨#[60]⟩, sD (numS x), sD (numS y)] (eD (dyZ 60 x y)) := by
  have m1 := nmay_runs hx
  have m2 := nmay_runs hy
  have cm := ncmp_runs hx hy
  have t : decide (sgn (x - y) < 0) = decide (x < y) := decide_eq_decide.2 (by rw [sgn_lt]; omega)
  have r := rbit_runs (decide (x < y))
  show Runs Tryz.prog 57 _ (eD (numS (b01 (decide (x < y))), 0))
  refine Runs.wp Go.Proofs.YtjldjhlccedkbaaGreatDoor.Am.hT Go.Proofs.YtjldjhlccedkbaaGreatDoor.Am.hm Tryz.func57 rfl (by decide) ⟨[], [0, 1, 2, 6, 7, 8, 16, 20, 21, 28, 35, 42, 49, 56, 61, 66, 71, 89, 96], 98⟩ ?_; ((conv => whnf); repeat ((first | refine Wo ?_ | refine Go1 ?_ | refine Go2 ?_ | refine Go3 ?_ | refine Go4 ?_ | refine ⟨_, rfl, ?_⟩ | refine Mi rfl ?_); (conv => whnf)))
  ((conv => whnf); (refine HfA m1 ?_); ((conv => whnf); repeat ((first | refine Wo ?_ | refine Go1 ?_ | refine Go2 ?_ | refine Go3 ?_ | refine Go4 ?_ | refine ⟨_, rfl, ?_⟩ | refine Mi rfl ?_); (conv => whnf))))
  ((conv => whnf); (refine HfA m2 ?_); ((conv => whnf); repeat ((first | refine Wo ?_ | refine Go1 ?_ | refine Go2 ?_ | refine Go3 ?_ | refine Go4 ?_ | refine ⟨_, rfl, ?_⟩ | refine Mi rfl ?_); (conv => whnf))))
  ((conv => whnf); (refine HfA cm ?_); ((conv => whnf); repeat ((first | refine Wo ?_ | refine Go1 ?_ | refine Go2 ?_ | refine Go3 ?_ | refine Go4 ?_ | refine ⟨_, rfl, ?_⟩ | refine Mi rfl ?_); (conv => whnf))))
  refine litE (cq (c := 60) (d := 43) (b := false) (by decide)) ?_
  ((conv => whnf); repeat ((first | refine Wo ?_ | refine Go1 ?_ | refine Go2 ?_ | refine Go3 ?_ | refine Go4 ?_ | refine ⟨_, rfl, ?_⟩ | refine Mi rfl ?_); (conv => whnf)))
  refine litE (cq (c := 60) (d := 45) (b := false) (by decide)) ?_
  ((conv => whnf); repeat ((first | refine Wo ?_ | refine Go1 ?_ | refine Go2 ?_ | refine Go3 ?_ | refine Go4 ?_ | refine ⟨_, rfl, ?_⟩ | refine Mi rfl ?_); (conv => whnf)))
  refine litE (cq (c := 60) (d := 42) (b := false) (by decide)) ?_
  ((conv => whnf); repeat ((first | refine Wo ?_ | refine Go1 ?_ | refine Go2 ?_ | refine Go3 ?_ | refine Go4 ?_ | refine ⟨_, rfl, ?_⟩ | refine Mi rfl ?_); (conv => whnf)))
  refine litE (cq (c := 60) (d := 37) (b := false) (by decide)) ?_
  ((conv => whnf); repeat ((first | refine Wo ?_ | refine Go1 ?_ | refine Go2 ?_ | refine Go3 ?_ | refine Go4 ?_ | refine ⟨_, rfl, ?_⟩ | refine Mi rfl ?_); (conv => whnf)))
  refine litE (cq (c := 60) (d := 33) (b := false) (by decide)) ?_
  ((conv => whnf); repeat ((first | refine Wo ?_ | refine Go1 ?_ | refine Go2 ?_ | refine Go3 ?_ | refine Go4 ?_ | refine ⟨_, rfl, ?_⟩ | refine Mi rfl ?_); (conv => whnf)))
  refine litE (cq (c := 60) (d := 60) (b := true) (by decide)) ?_
  ((conv => whnf); repeat ((first | refine Wo ?_ | refine Go1 ?_ | refine Go2 ?_ | refine Go3 ?_ | refine Go4 ?_ | refine ⟨_, rfl, ?_⟩ | refine Mi rfl ?_); (conv => whnf)))
  refine litE t ?_
  ((conv => whnf); repeat ((first | refine Wo ?_ | refine Go1 ?_ | refine Go2 ?_ | refine Go3 ?_ | refine Go4 ?_ | refine ⟨_, rfl, ?_⟩ | refine Mi rfl ?_); (conv => whnf)))
  ((conv => whnf); (refine HfA r ?_); ((conv => whnf); repeat ((first | refine Wo ?_ | refine Go1 ?_ | refine Go2 ?_ | refine Go3 ?_ | refine Go4 ?_ | refine ⟨_, rfl, ?_⟩ | refine Mi rfl ?_); (conv => whnf))))
  exact TeA
theorem rd_62 : Runs Tryz.prog 57 [sD ⟨#[62]⟩, sD (numS x), sD (numS y)] (eD (dyZ 62 x y)) := by
  have m1 := nmay_runs hx
  have m2 := nmay_runs hy
  have cm := ncmp_runs hx hy
  have t : decide (sgn (x - y) > 0) = decide (y < x) := decide_eq_decide.2 (by rw [sgn_gt]; omega)
  have r := rbit_runs (decide (y < x))
  show Runs Tryz.prog 57 _ (eD (numS (b01 (decide (y < x))), 0))
  refine Runs.wp Go.Proofs.YtjldjhlccedkbaaGreatDoor.Am.hT Go.Proofs.YtjldjhlccedkbaaGreatDoor.Am.hm Tryz.func57 rfl (by decide) ⟨[], [0, 1, 2, 6, 7, 8, 16, 20, 21, 28, 35, 42, 49, 56, 61, 66, 71, 89, 96], 98⟩ ?_; ((conv => whnf); repeat ((first | refine Wo ?_ | refine Go1 ?_ | refine Go2 ?_ | refine Go3 ?_ | refine Go4 ?_ | refine ⟨_, rfl, ?_⟩ | refine Mi rfl ?_); (conv => whnf)))
  ((conv => whnf); (refine HfA m1 ?_); ((conv => whnf); repeat ((first | refine Wo ?_ | refine Go1 ?_ | refine Go2 ?_ | refine Go3 ?_ | refine Go4 ?_ | refine ⟨_, rfl, ?_⟩ | refine Mi rfl ?_); (conv => whnf))))
  ((conv => whnf); (refine HfA m2 ?_); ((conv => whnf); repeat ((first | refine Wo ?_ | refine Go1 ?_ | refine Go2 ?_ | refine Go3 ?_ | refine Go4 ?_ | refine ⟨_, rfl, ?_⟩ | refine Mi rfl ?_); (conv => whnf))))
  ((conv => whnf); (refine HfA cm ?_); ((conv => whnf); repeat ((first | refine Wo ?_ | refine Go1 ?_ | refine Go2 ?_ | refine Go3 ?_ | refine Go4 ?_ | refine ⟨_, rfl, ?_⟩ | refine Mi rfl ?_); (conv => whnf))))
  refine litE (cq (c := 62) (d := 43) (b := false) (by decide)) ?_
  ((conv => whnf); repeat ((first | refine Wo ?_ | refine Go1 ?_ | refine Go2 ?_ | refine Go3 ?_ | refine Go4 ?_ | refine ⟨_, rfl, ?_⟩ | refine Mi rfl ?_); (conv => whnf)))
  refine litE (cq (c := 62) (d := 45) (b := false) (by decide)) ?_
  ((conv => whnf); repeat ((first | refine Wo ?_ | refine Go1 ?_ | refine Go2 ?_ | refine Go3 ?_ | refine Go4 ?_ | refine ⟨_, rfl, ?_⟩ | refine Mi rfl ?_); (conv => whnf)))
  refine litE (cq (c := 62) (d := 42) (b := false) (by decide)) ?_
  ((conv => whnf); repeat ((first | refine Wo ?_ | refine Go1 ?_ | refine Go2 ?_ | refine Go3 ?_ | refine Go4 ?_ | refine ⟨_, rfl, ?_⟩ | refine Mi rfl ?_); (conv => whnf)))
  refine litE (cq (c := 62) (d := 37) (b := false) (by decide)) ?_
  ((conv => whnf); repeat ((first | refine Wo ?_ | refine Go1 ?_ | refine Go2 ?_ | refine Go3 ?_ | refine Go4 ?_ | refine ⟨_, rfl, ?_⟩ | refine Mi rfl ?_); (conv => whnf)))
  refine litE (cq (c := 62) (d := 33) (b := false) (by decide)) ?_
  ((conv => whnf); repeat ((first | refine Wo ?_ | refine Go1 ?_ | refine Go2 ?_ | refine Go3 ?_ | refine Go4 ?_ | refine ⟨_, rfl, ?_⟩ | refine Mi rfl ?_); (conv => whnf)))
  refine litE (cq (c := 62) (d := 60) (b := false) (by decide)) ?_
  ((conv => whnf); repeat ((first | refine Wo ?_ | refine Go1 ?_ | refine Go2 ?_ | refine Go3 ?_ | refine Go4 ?_ | refine ⟨_, rfl, ?_⟩ | refine Mi rfl ?_); (conv => whnf)))
  refine litE (cq (c := 62) (d := 62) (b := true) (by decide)) ?_
  ((conv => whnf); repeat ((first | refine Wo ?_ | refine Go1 ?_ | refine Go2 ?_ | refine Go3 ?_ | refine Go4 ?_ | refine ⟨_, rfl, ?_⟩ | refine Mi rfl ?_); (conv => whnf)))
  refine litE t ?_
  ((conv => whnf); repeat ((first | refine Wo ?_ | refine Go1 ?_ | refine Go2 ?_ | refine Go3 ?_ | refine Go4 ?_ | refine ⟨_, rfl, ?_⟩ | refine Mi rfl ?_); (conv => whnf)))
  ((conv => whnf); (refine HfA r ?_); ((conv => whnf); repeat ((first | refine Wo ?_ | refine Go1 ?_ | refine Go2 ?_ | refine Go3 ?_ | refine Go4 ?_ | refine ⟨_, rfl, ?_⟩ | refine Mi rfl ?_); (conv => whnf))))
  exact TeA
theorem rd_61 : Runs Tryz.prog 57 [sD ⟨#[61]⟩, sD (numS x), sD (numS y)] (eD (dyZ 61 x y)) := by
  have m1 := nmay_runs hx
  have m2 := nmay_runs hy
  have cm := ncmp_runs hx hy
  have t : (sgn (x - y) == 0) = decide (x = y) := by rw [Bool.eq_iff_iff, beq_iff_eq, decide_eq_true_iff, sgn_0]; omega
  have r := rbit_runs (decide (x = y))
  show Runs Tryz.prog 57 _ (eD (numS (b01 (decide (x = y))), 0))
  refine Runs.wp Go.Proofs.YtjldjhlccedkbaaGreatDoor.Am.hT Go.Proofs.YtjldjhlccedkbaaGreatDoor.Am.hm Tryz.func57 rfl (by decide) ⟨[], [0, 1, 2, 6, 7, 8, 16, 20, 21, 28, 35, 42, 49, 56, 61, 66, 71, 89, 96], 98⟩ ?_; ((conv => whnf); repeat ((first | refine Wo ?_ | refine Go1 ?_ | refine Go2 ?_ | refine Go3 ?_ | refine Go4 ?_ | refine ⟨_, rfl, ?_⟩ | refine Mi rfl ?_); (conv => whnf)))
  ((conv => whnf); (refine HfA m1 ?_); ((conv => whnf); repeat ((first | refine Wo ?_ | refine Go1 ?_ | refine Go2 ?_ | refine Go3 ?_ | refine Go4 ?_ | refine ⟨_, rfl, ?_⟩ | refine Mi rfl ?_); (conv => whnf))))
  ((conv => whnf); (refine HfA m2 ?_); ((conv => whnf); repeat ((first | refine Wo ?_ | refine Go1 ?_ | refine Go2 ?_ | refine Go3 ?_ | refine Go4 ?_ | refine ⟨_, rfl, ?_⟩ | refine Mi rfl ?_); (conv => whnf))))
  ((conv => whnf); (refine HfA cm ?_); ((conv => whnf); repeat ((first | refine Wo ?_ | refine Go1 ?_ | refine Go2 ?_ | refine Go3 ?_ | refine Go4 ?_ | refine ⟨_, rfl, ?_⟩ | refine Mi rfl ?_); (conv => whnf))))
  refine litE (cq (c := 61) (d := 43) (b := false) (by decide)) ?_
  ((conv => whnf); repeat ((first | refine Wo ?_ | refine Go1 ?_ | refine Go2 ?_ | refine Go3 ?_ | refine Go4 ?_ | refine ⟨_, rfl, ?_⟩ | refine Mi rfl ?_); (conv => whnf)))
  refine litE (cq (c := 61) (d := 45) (b := false) (by decide)) ?_
  ((conv => whnf); repeat ((first | refine Wo ?_ | refine Go1 ?_ | refine Go2 ?_ | refine Go3 ?_ | refine Go4 ?_ | refine ⟨_, rfl, ?_⟩ | refine Mi rfl ?_); (conv => whnf)))
  refine litE (cq (c := 61) (d := 42) (b := false) (by decide)) ?_
  ((conv => whnf); repeat ((first | refine Wo ?_ | refine Go1 ?_ | refine Go2 ?_ | refine Go3 ?_ | refine Go4 ?_ | refine ⟨_, rfl, ?_⟩ | refine Mi rfl ?_); (conv => whnf)))
  refine litE (cq (c := 61) (d := 37) (b := false) (by decide)) ?_
  ((conv => whnf); repeat ((first | refine Wo ?_ | refine Go1 ?_ | refine Go2 ?_ | refine Go3 ?_ | refine Go4 ?_ | refine ⟨_, rfl, ?_⟩ | refine Mi rfl ?_); (conv => whnf)))
  refine litE (cq (c := 61) (d := 33) (b := false) (by decide)) ?_
  ((conv => whnf); repeat ((first | refine Wo ?_ | refine Go1 ?_ | refine Go2 ?_ | refine Go3 ?_ | refine Go4 ?_ | refine ⟨_, rfl, ?_⟩ | refine Mi rfl ?_); (conv => whnf)))
  refine litE (cq (c := 61) (d := 60) (b := false) (by decide)) ?_
  ((conv => whnf); repeat ((first | refine Wo ?_ | refine Go1 ?_ | refine Go2 ?_ | refine Go3 ?_ | refine Go4 ?_ | refine ⟨_, rfl, ?_⟩ | refine Mi rfl ?_); (conv => whnf)))
  refine litE (cq (c := 61) (d := 62) (b := false) (by decide)) ?_
  ((conv => whnf); repeat ((first | refine Wo ?_ | refine Go1 ?_ | refine Go2 ?_ | refine Go3 ?_ | refine Go4 ?_ | refine ⟨_, rfl, ?_⟩ | refine Mi rfl ?_); (conv => whnf)))
  refine litE (cq (c := 61) (d := 61) (b := true) (by decide)) ?_
  ((conv => whnf); repeat ((first | refine Wo ?_ | refine Go1 ?_ | refine Go2 ?_ | refine Go3 ?_ | refine Go4 ?_ | refine ⟨_, rfl, ?_⟩ | refine Mi rfl ?_); (conv => whnf)))
  refine litE t ?_
  ((conv => whnf); repeat ((first | refine Wo ?_ | refine Go1 ?_ | refine Go2 ?_ | refine Go3 ?_ | refine Go4 ?_ | refine ⟨_, rfl, ?_⟩ | refine Mi rfl ?_); (conv => whnf)))
  ((conv => whnf); (refine HfA r ?_); ((conv => whnf); repeat ((first | refine Wo ?_ | refine Go1 ?_ | refine Go2 ?_ | refine Go3 ?_ | refine Go4 ?_ | refine ⟨_, rfl, ?_⟩ | refine Mi rfl ?_); (conv => whnf))))
  exact TeA
theorem rd_126 : Runs Tryz.prog 57 [sD ⟨#[126]⟩, sD (numS x), sD (numS y)] (eD (dyZ 126 x y)) := by
  have m1 := nmay_runs hx
  have m2 := nmay_runs hy
  have cm := ncmp_runs hx hy
  have t : (!(sgn (x - y) == 0)) = (!decide (x = y)) := by rw [show (sgn (x - y) == 0) = decide (x = y) by rw [Bool.eq_iff_iff, beq_iff_eq, decide_eq_true_iff, sgn_0]; omega]
  have r := rbit_runs ((!decide (x = y)))
  show Runs Tryz.prog 57 _ (eD (numS (b01 ((!decide (x = y)))), 0))
  refine Runs.wp Go.Proofs.YtjldjhlccedkbaaGreatDoor.Am.hT Go.Proofs.YtjldjhlccedkbaaGreatDoor.Am.hm Tryz.func57 rfl (by decide) ⟨[], [0, 1, 2, 6, 7, 8, 16, 20, 21, 28, 35, 42, 49, 56, 61, 66, 71, 89, 96], 98⟩ ?_; ((conv => whnf); repeat ((first | refine Wo ?_ | refine Go1 ?_ | refine Go2 ?_ | refine Go3 ?_ | refine Go4 ?_ | refine ⟨_, rfl, ?_⟩ | refine Mi rfl ?_); (conv => whnf)))
  ((conv => whnf); (refine HfA m1 ?_); ((conv => whnf); repeat ((first | refine Wo ?_ | refine Go1 ?_ | refine Go2 ?_ | refine Go3 ?_ | refine Go4 ?_ | refine ⟨_, rfl, ?_⟩ | refine Mi rfl ?_); (conv => whnf))))
  ((conv => whnf); (refine HfA m2 ?_); ((conv => whnf); repeat ((first | refine Wo ?_ | refine Go1 ?_ | refine Go2 ?_ | refine Go3 ?_ | refine Go4 ?_ | refine ⟨_, rfl, ?_⟩ | refine Mi rfl ?_); (conv => whnf))))
  ((conv => whnf); (refine HfA cm ?_); ((conv => whnf); repeat ((first | refine Wo ?_ | refine Go1 ?_ | refine Go2 ?_ | refine Go3 ?_ | refine Go4 ?_ | refine ⟨_, rfl, ?_⟩ | refine Mi rfl ?_); (conv => whnf))))
  refine litE (cq (c := 126) (d := 43) (b := false) (by decide)) ?_
  ((conv => whnf); repeat ((first | refine Wo ?_ | refine Go1 ?_ | refine Go2 ?_ | refine Go3 ?_ | refine Go4 ?_ | refine ⟨_, rfl, ?_⟩ | refine Mi rfl ?_); (conv => whnf)))
  refine litE (cq (c := 126) (d := 45) (b := false) (by decide)) ?_
  ((conv => whnf); repeat ((first | refine Wo ?_ | refine Go1 ?_ | refine Go2 ?_ | refine Go3 ?_ | refine Go4 ?_ | refine ⟨_, rfl, ?_⟩ | refine Mi rfl ?_); (conv => whnf)))
  refine litE (cq (c := 126) (d := 42) (b := false) (by decide)) ?_
  ((conv => whnf); repeat ((first | refine Wo ?_ | refine Go1 ?_ | refine Go2 ?_ | refine Go3 ?_ | refine Go4 ?_ | refine ⟨_, rfl, ?_⟩ | refine Mi rfl ?_); (conv => whnf)))
  refine litE (cq (c := 126) (d := 37) (b := false) (by decide)) ?_
  ((conv => whnf); repeat ((first | refine Wo ?_ | refine Go1 ?_ | refine Go2 ?_ | refine Go3 ?_ | refine Go4 ?_ | refine ⟨_, rfl, ?_⟩ | refine Mi rfl ?_); (conv => whnf)))
  refine litE (cq (c := 126) (d := 33) (b := false) (by decide)) ?_
  ((conv => whnf); repeat ((first | refine Wo ?_ | refine Go1 ?_ | refine Go2 ?_ | refine Go3 ?_ | refine Go4 ?_ | refine ⟨_, rfl, ?_⟩ | refine Mi rfl ?_); (conv => whnf)))
  refine litE (cq (c := 126) (d := 60) (b := false) (by decide)) ?_
  ((conv => whnf); repeat ((first | refine Wo ?_ | refine Go1 ?_ | refine Go2 ?_ | refine Go3 ?_ | refine Go4 ?_ | refine ⟨_, rfl, ?_⟩ | refine Mi rfl ?_); (conv => whnf)))
  refine litE (cq (c := 126) (d := 62) (b := false) (by decide)) ?_
  ((conv => whnf); repeat ((first | refine Wo ?_ | refine Go1 ?_ | refine Go2 ?_ | refine Go3 ?_ | refine Go4 ?_ | refine ⟨_, rfl, ?_⟩ | refine Mi rfl ?_); (conv => whnf)))
  refine litE (cq (c := 126) (d := 61) (b := false) (by decide)) ?_
  ((conv => whnf); repeat ((first | refine Wo ?_ | refine Go1 ?_ | refine Go2 ?_ | refine Go3 ?_ | refine Go4 ?_ | refine ⟨_, rfl, ?_⟩ | refine Mi rfl ?_); (conv => whnf)))
  refine litE (cq (c := 126) (d := 126) (b := true) (by decide)) ?_
  ((conv => whnf); repeat ((first | refine Wo ?_ | refine Go1 ?_ | refine Go2 ?_ | refine Go3 ?_ | refine Go4 ?_ | refine ⟨_, rfl, ?_⟩ | refine Mi rfl ?_); (conv => whnf)))
  refine litE t ?_
  ((conv => whnf); repeat ((first | refine Wo ?_ | refine Go1 ?_ | refine Go2 ?_ | refine Go3 ?_ | refine Go4 ?_ | refine ⟨_, rfl, ?_⟩ | refine Mi rfl ?_); (conv => whnf)))
  ((conv => whnf); (refine HfA r ?_); ((conv => whnf); repeat ((first | refine Wo ?_ | refine Go1 ?_ | refine Go2 ?_ | refine Go3 ?_ | refine Go4 ?_ | refine ⟨_, rfl, ?_⟩ | refine Mi rfl ?_); (conv => whnf))))
  exact TeA
theorem rd_38 : Runs Tryz.prog 57 [sD ⟨#[38]⟩, sD (numS x), sD (numS y)] (eD (dyZ 38 x y)) := by
  have m1 := nmay_runs hx
  have m2 := nmay_runs hy
  have cm := ncmp_runs hx hy
  show Runs Tryz.prog 57 _ (eD (numS (if decide (x ≤ y) = true then x else y), 0))
  by_cases h : x < y
  · have t : decide (sgn (x - y) < 0) = true := by rw [decide_eq_true_iff, sgn_lt]; omega
    rw [if_pos (by rw [decide_eq_true_iff]; omega)]
    refine Runs.wp Go.Proofs.YtjldjhlccedkbaaGreatDoor.Am.hT Go.Proofs.YtjldjhlccedkbaaGreatDoor.Am.hm Tryz.func57 rfl (by decide) ⟨[], [0, 1, 2, 6, 7, 8, 16, 20, 21, 28, 35, 42, 49, 56, 61, 66, 71, 89, 96], 98⟩ ?_; ((conv => whnf); repeat ((first | refine Wo ?_ | refine Go1 ?_ | refine Go2 ?_ | refine Go3 ?_ | refine Go4 ?_ | refine ⟨_, rfl, ?_⟩ | refine Mi rfl ?_); (conv => whnf)))
    ((conv => whnf); (refine HfA m1 ?_); ((conv => whnf); repeat ((first | refine Wo ?_ | refine Go1 ?_ | refine Go2 ?_ | refine Go3 ?_ | refine Go4 ?_ | refine ⟨_, rfl, ?_⟩ | refine Mi rfl ?_); (conv => whnf))))
    ((conv => whnf); (refine HfA m2 ?_); ((conv => whnf); repeat ((first | refine Wo ?_ | refine Go1 ?_ | refine Go2 ?_ | refine Go3 ?_ | refine Go4 ?_ | refine ⟨_, rfl, ?_⟩ | refine Mi rfl ?_); (conv => whnf))))
    ((conv => whnf); (refine HfA cm ?_); ((conv => whnf); repeat ((first | refine Wo ?_ | refine Go1 ?_ | refine Go2 ?_ | refine Go3 ?_ | refine Go4 ?_ | refine ⟨_, rfl, ?_⟩ | refine Mi rfl ?_); (conv => whnf))))
    refine litE (cq (c := 38) (d := 43) (b := false) (by decide)) ?_
    ((conv => whnf); repeat ((first | refine Wo ?_ | refine Go1 ?_ | refine Go2 ?_ | refine Go3 ?_ | refine Go4 ?_ | refine ⟨_, rfl, ?_⟩ | refine Mi rfl ?_); (conv => whnf)))
    refine litE (cq (c := 38) (d := 45) (b := false) (by decide)) ?_
    ((conv => whnf); repeat ((first | refine Wo ?_ | refine Go1 ?_ | refine Go2 ?_ | refine Go3 ?_ | refine Go4 ?_ | refine ⟨_, rfl, ?_⟩ | refine Mi rfl ?_); (conv => whnf)))
    refine litE (cq (c := 38) (d := 42) (b := false) (by decide)) ?_
    ((conv => whnf); repeat ((first | refine Wo ?_ | refine Go1 ?_ | refine Go2 ?_ | refine Go3 ?_ | refine Go4 ?_ | refine ⟨_, rfl, ?_⟩ | refine Mi rfl ?_); (conv => whnf)))
    refine litE (cq (c := 38) (d := 37) (b := false) (by decide)) ?_
    ((conv => whnf); repeat ((first | refine Wo ?_ | refine Go1 ?_ | refine Go2 ?_ | refine Go3 ?_ | refine Go4 ?_ | refine ⟨_, rfl, ?_⟩ | refine Mi rfl ?_); (conv => whnf)))
    refine litE (cq (c := 38) (d := 33) (b := false) (by decide)) ?_
    ((conv => whnf); repeat ((first | refine Wo ?_ | refine Go1 ?_ | refine Go2 ?_ | refine Go3 ?_ | refine Go4 ?_ | refine ⟨_, rfl, ?_⟩ | refine Mi rfl ?_); (conv => whnf)))
    refine litE (cq (c := 38) (d := 60) (b := false) (by decide)) ?_
    ((conv => whnf); repeat ((first | refine Wo ?_ | refine Go1 ?_ | refine Go2 ?_ | refine Go3 ?_ | refine Go4 ?_ | refine ⟨_, rfl, ?_⟩ | refine Mi rfl ?_); (conv => whnf)))
    refine litE (cq (c := 38) (d := 62) (b := false) (by decide)) ?_
    ((conv => whnf); repeat ((first | refine Wo ?_ | refine Go1 ?_ | refine Go2 ?_ | refine Go3 ?_ | refine Go4 ?_ | refine ⟨_, rfl, ?_⟩ | refine Mi rfl ?_); (conv => whnf)))
    refine litE (cq (c := 38) (d := 61) (b := false) (by decide)) ?_
    ((conv => whnf); repeat ((first | refine Wo ?_ | refine Go1 ?_ | refine Go2 ?_ | refine Go3 ?_ | refine Go4 ?_ | refine ⟨_, rfl, ?_⟩ | refine Mi rfl ?_); (conv => whnf)))
    refine litE (cq (c := 38) (d := 126) (b := false) (by decide)) ?_
    ((conv => whnf); repeat ((first | refine Wo ?_ | refine Go1 ?_ | refine Go2 ?_ | refine Go3 ?_ | refine Go4 ?_ | refine ⟨_, rfl, ?_⟩ | refine Mi rfl ?_); (conv => whnf)))
    refine litE (cq (c := 38) (d := 38) (b := true) (by decide)) ?_
    ((conv => whnf); repeat ((first | refine Wo ?_ | refine Go1 ?_ | refine Go2 ?_ | refine Go3 ?_ | refine Go4 ?_ | refine ⟨_, rfl, ?_⟩ | refine Mi rfl ?_); (conv => whnf)))
    refine litE t ?_
    ((conv => whnf); repeat ((first | refine Wo ?_ | refine Go1 ?_ | refine Go2 ?_ | refine Go3 ?_ | refine Go4 ?_ | refine ⟨_, rfl, ?_⟩ | refine Mi rfl ?_); (conv => whnf)))
    exact TeA
  · have t : decide (sgn (x - y) < 0) = false := by rw [decide_eq_false_iff_not, sgn_lt]; omega
    rw [show (if decide (x ≤ y) = true then x else y) = y by
      split
      · rename_i h2
        rw [decide_eq_true_iff] at h2
        omega
      · rfl]
    refine Runs.wp Go.Proofs.YtjldjhlccedkbaaGreatDoor.Am.hT Go.Proofs.YtjldjhlccedkbaaGreatDoor.Am.hm Tryz.func57 rfl (by decide) ⟨[], [0, 1, 2, 6, 7, 8, 16, 20, 21, 28, 35, 42, 49, 56, 61, 66, 71, 89, 96], 98⟩ ?_; ((conv => whnf); repeat ((first | refine Wo ?_ | refine Go1 ?_ | refine Go2 ?_ | refine Go3 ?_ | refine Go4 ?_ | refine ⟨_, rfl, ?_⟩ | refine Mi rfl ?_); (conv => whnf)))
    ((conv => whnf); (refine HfA m1 ?_); ((conv => whnf); repeat ((first | refine Wo ?_ | refine Go1 ?_ | refine Go2 ?_ | refine Go3 ?_ | refine Go4 ?_ | refine ⟨_, rfl, ?_⟩ | refine Mi rfl ?_); (conv => whnf))))
    ((conv => whnf); (refine HfA m2 ?_); ((conv => whnf); repeat ((first | refine Wo ?_ | refine Go1 ?_ | refine Go2 ?_ | refine Go3 ?_ | refine Go4 ?_ | refine ⟨_, rfl, ?_⟩ | refine Mi rfl ?_); (conv => whnf))))
    ((conv => whnf); (refine HfA cm ?_); ((conv => whnf); repeat ((first | refine Wo ?_ | refine Go1 ?_ | refine Go2 ?_ | refine Go3 ?_ | refine Go4 ?_ | refine ⟨_, rfl, ?_⟩ | refine Mi rfl ?_); (conv => whnf))))
    refine litE (cq (c := 38) (d := 43) (b := false) (by decide)) ?_
    ((conv => whnf); repeat ((first | refine Wo ?_ | refine Go1 ?_ | refine Go2 ?_ | refine Go3 ?_ | refine Go4 ?_ | refine ⟨_, rfl, ?_⟩ | refine Mi rfl ?_); (conv => whnf)))
    refine litE (cq (c := 38) (d := 45) (b := false) (by decide)) ?_
    ((conv => whnf); repeat ((first | refine Wo ?_ | refine Go1 ?_ | refine Go2 ?_ | refine Go3 ?_ | refine Go4 ?_ | refine ⟨_, rfl, ?_⟩ | refine Mi rfl ?_); (conv => whnf)))
    refine litE (cq (c := 38) (d := 42) (b := false) (by decide)) ?_
    ((conv => whnf); repeat ((first | refine Wo ?_ | refine Go1 ?_ | refine Go2 ?_ | refine Go3 ?_ | refine Go4 ?_ | refine ⟨_, rfl, ?_⟩ | refine Mi rfl ?_); (conv => whnf)))
    refine litE (cq (c := 38) (d := 37) (b := false) (by decide)) ?_
    ((conv => whnf); repeat ((first | refine Wo ?_ | refine Go1 ?_ | refine Go2 ?_ | refine Go3 ?_ | refine Go4 ?_ | refine ⟨_, rfl, ?_⟩ | refine Mi rfl ?_); (conv => whnf)))
    refine litE (cq (c := 38) (d := 33) (b := false) (by decide)) ?_
    ((conv => whnf); repeat ((first | refine Wo ?_ | refine Go1 ?_ | refine Go2 ?_ | refine Go3 ?_ | refine Go4 ?_ | refine ⟨_, rfl, ?_⟩ | refine Mi rfl ?_); (conv => whnf)))
    refine litE (cq (c := 38) (d := 60) (b := false) (by decide)) ?_
    ((conv => whnf); repeat ((first | refine Wo ?_ | refine Go1 ?_ | refine Go2 ?_ | refine Go3 ?_ | refine Go4 ?_ | refine ⟨_, rfl, ?_⟩ | refine Mi rfl ?_); (conv => whnf)))
    refine litE (cq (c := 38) (d := 62) (b := false) (by decide)) ?_
    ((conv => whnf); repeat ((first | refine Wo ?_ | refine Go1 ?_ | refine Go2 ?_ | refine Go3 ?_ | refine Go4 ?_ | refine ⟨_, rfl, ?_⟩ | refine Mi rfl ?_); (conv => whnf)))
    refine litE (cq (c := 38) (d := 61) (b := false) (by decide)) ?_
    ((conv => whnf); repeat ((first | refine Wo ?_ | refine Go1 ?_ | refine Go2 ?_ | refine Go3 ?_ | refine Go4 ?_ | refine ⟨_, rfl, ?_⟩ | refine Mi rfl ?_); (conv => whnf)))
    refine litE (cq (c := 38) (d := 126) (b := false) (by decide)) ?_
    ((conv => whnf); repeat ((first | refine Wo ?_ | refine Go1 ?_ | refine Go2 ?_ | refine Go3 ?_ | refine Go4 ?_ | refine ⟨_, rfl, ?_⟩ | refine Mi rfl ?_); (conv => whnf)))
    refine litE (cq (c := 38) (d := 38) (b := true) (by decide)) ?_
    ((conv => whnf); repeat ((first | refine Wo ?_ | refine Go1 ?_ | refine Go2 ?_ | refine Go3 ?_ | refine Go4 ?_ | refine ⟨_, rfl, ?_⟩ | refine Mi rfl ?_); (conv => whnf)))
    refine litE t ?_
    ((conv => whnf); repeat ((first | refine Wo ?_ | refine Go1 ?_ | refine Go2 ?_ | refine Go3 ?_ | refine Go4 ?_ | refine ⟨_, rfl, ?_⟩ | refine Mi rfl ?_); (conv => whnf)))
    refine litE (cq (c := 38) (d := 124) (b := false) (by decide)) ?_
    ((conv => whnf); repeat ((first | refine Wo ?_ | refine Go1 ?_ | refine Go2 ?_ | refine Go3 ?_ | refine Go4 ?_ | refine ⟨_, rfl, ?_⟩ | refine Mi rfl ?_); (conv => whnf)))
    refine litE (cq (c := 38) (d := 38) (b := true) (by decide)) ?_
    ((conv => whnf); repeat ((first | refine Wo ?_ | refine Go1 ?_ | refine Go2 ?_ | refine Go3 ?_ | refine Go4 ?_ | refine ⟨_, rfl, ?_⟩ | refine Mi rfl ?_); (conv => whnf)))
    exact TeA
theorem rd_124 : Runs Tryz.prog 57 [sD ⟨#[124]⟩, sD (numS x), sD (numS y)] (eD (dyZ 124 x y)) := by
  have m1 := nmay_runs hx
  have m2 := nmay_runs hy
  have cm := ncmp_runs hx hy
  show Runs Tryz.prog 57 _ (eD (numS (if decide (y ≤ x) = true then x else y), 0))
  by_cases h : y < x
  · have t : decide (sgn (x - y) > 0) = true := by rw [decide_eq_true_iff, sgn_gt]; omega
    rw [if_pos (by rw [decide_eq_true_iff]; omega)]
    refine Runs.wp Go.Proofs.YtjldjhlccedkbaaGreatDoor.Am.hT Go.Proofs.YtjldjhlccedkbaaGreatDoor.Am.hm Tryz.func57 rfl (by decide) ⟨[], [0, 1, 2, 6, 7, 8, 16, 20, 21, 28, 35, 42, 49, 56, 61, 66, 71, 89, 96], 98⟩ ?_; ((conv => whnf); repeat ((first | refine Wo ?_ | refine Go1 ?_ | refine Go2 ?_ | refine Go3 ?_ | refine Go4 ?_ | refine ⟨_, rfl, ?_⟩ | refine Mi rfl ?_); (conv => whnf)))
    ((conv => whnf); (refine HfA m1 ?_); ((conv => whnf); repeat ((first | refine Wo ?_ | refine Go1 ?_ | refine Go2 ?_ | refine Go3 ?_ | refine Go4 ?_ | refine ⟨_, rfl, ?_⟩ | refine Mi rfl ?_); (conv => whnf))))
    ((conv => whnf); (refine HfA m2 ?_); ((conv => whnf); repeat ((first | refine Wo ?_ | refine Go1 ?_ | refine Go2 ?_ | refine Go3 ?_ | refine Go4 ?_ | refine ⟨_, rfl, ?_⟩ | refine Mi rfl ?_); (conv => whnf))))
    ((conv => whnf); (refine HfA cm ?_); ((conv => whnf); repeat ((first | refine Wo ?_ | refine Go1 ?_ | refine Go2 ?_ | refine Go3 ?_ | refine Go4 ?_ | refine ⟨_, rfl, ?_⟩ | refine Mi rfl ?_); (conv => whnf))))
    refine litE (cq (c := 124) (d := 43) (b := false) (by decide)) ?_
    ((conv => whnf); repeat ((first | refine Wo ?_ | refine Go1 ?_ | refine Go2 ?_ | refine Go3 ?_ | refine Go4 ?_ | refine ⟨_, rfl, ?_⟩ | refine Mi rfl ?_); (conv => whnf)))
    refine litE (cq (c := 124) (d := 45) (b := false) (by decide)) ?_
    ((conv => whnf); repeat ((first | refine Wo ?_ | refine Go1 ?_ | refine Go2 ?_ | refine Go3 ?_ | refine Go4 ?_ | refine ⟨_, rfl, ?_⟩ | refine Mi rfl ?_); (conv => whnf)))
    refine litE (cq (c := 124) (d := 42) (b := false) (by decide)) ?_
    ((conv => whnf); repeat ((first | refine Wo ?_ | refine Go1 ?_ | refine Go2 ?_ | refine Go3 ?_ | refine Go4 ?_ | refine ⟨_, rfl, ?_⟩ | refine Mi rfl ?_); (conv => whnf)))
    refine litE (cq (c := 124) (d := 37) (b := false) (by decide)) ?_
    ((conv => whnf); repeat ((first | refine Wo ?_ | refine Go1 ?_ | refine Go2 ?_ | refine Go3 ?_ | refine Go4 ?_ | refine ⟨_, rfl, ?_⟩ | refine Mi rfl ?_); (conv => whnf)))
    refine litE (cq (c := 124) (d := 33) (b := false) (by decide)) ?_
    ((conv => whnf); repeat ((first | refine Wo ?_ | refine Go1 ?_ | refine Go2 ?_ | refine Go3 ?_ | refine Go4 ?_ | refine ⟨_, rfl, ?_⟩ | refine Mi rfl ?_); (conv => whnf)))
    refine litE (cq (c := 124) (d := 60) (b := false) (by decide)) ?_
    ((conv => whnf); repeat ((first | refine Wo ?_ | refine Go1 ?_ | refine Go2 ?_ | refine Go3 ?_ | refine Go4 ?_ | refine ⟨_, rfl, ?_⟩ | refine Mi rfl ?_); (conv => whnf)))
    refine litE (cq (c := 124) (d := 62) (b := false) (by decide)) ?_
    ((conv => whnf); repeat ((first | refine Wo ?_ | refine Go1 ?_ | refine Go2 ?_ | refine Go3 ?_ | refine Go4 ?_ | refine ⟨_, rfl, ?_⟩ | refine Mi rfl ?_); (conv => whnf)))
    refine litE (cq (c := 124) (d := 61) (b := false) (by decide)) ?_
    ((conv => whnf); repeat ((first | refine Wo ?_ | refine Go1 ?_ | refine Go2 ?_ | refine Go3 ?_ | refine Go4 ?_ | refine ⟨_, rfl, ?_⟩ | refine Mi rfl ?_); (conv => whnf)))
    refine litE (cq (c := 124) (d := 126) (b := false) (by decide)) ?_
    ((conv => whnf); repeat ((first | refine Wo ?_ | refine Go1 ?_ | refine Go2 ?_ | refine Go3 ?_ | refine Go4 ?_ | refine ⟨_, rfl, ?_⟩ | refine Mi rfl ?_); (conv => whnf)))
    refine litE (cq (c := 124) (d := 38) (b := false) (by decide)) ?_
    ((conv => whnf); repeat ((first | refine Wo ?_ | refine Go1 ?_ | refine Go2 ?_ | refine Go3 ?_ | refine Go4 ?_ | refine ⟨_, rfl, ?_⟩ | refine Mi rfl ?_); (conv => whnf)))
    refine litE (cq (c := 124) (d := 124) (b := true) (by decide)) ?_
    ((conv => whnf); repeat ((first | refine Wo ?_ | refine Go1 ?_ | refine Go2 ?_ | refine Go3 ?_ | refine Go4 ?_ | refine ⟨_, rfl, ?_⟩ | refine Mi rfl ?_); (conv => whnf)))
    refine litE t ?_
    ((conv => whnf); repeat ((first | refine Wo ?_ | refine Go1 ?_ | refine Go2 ?_ | refine Go3 ?_ | refine Go4 ?_ | refine ⟨_, rfl, ?_⟩ | refine Mi rfl ?_); (conv => whnf)))
    exact TeA
  · have t : decide (sgn (x - y) > 0) = false := by rw [decide_eq_false_iff_not, sgn_gt]; omega
    rw [show (if decide (y ≤ x) = true then x else y) = y by
      split
      · rename_i h2
        rw [decide_eq_true_iff] at h2
        omega
      · rfl]
    refine Runs.wp Go.Proofs.YtjldjhlccedkbaaGreatDoor.Am.hT Go.Proofs.YtjldjhlccedkbaaGreatDoor.Am.hm Tryz.func57 rfl (by decide) ⟨[], [0, 1, 2, 6, 7, 8, 16, 20, 21, 28, 35, 42, 49, 56, 61, 66, 71, 89, 96], 98⟩ ?_; ((conv => whnf); repeat ((first | refine Wo ?_ | refine Go1 ?_ | refine Go2 ?_ | refine Go3 ?_ | refine Go4 ?_ | refine ⟨_, rfl, ?_⟩ | refine Mi rfl ?_); (conv => whnf)))
    ((conv => whnf); (refine HfA m1 ?_); ((conv => whnf); repeat ((first | refine Wo ?_ | refine Go1 ?_ | refine Go2 ?_ | refine Go3 ?_ | refine Go4 ?_ | refine ⟨_, rfl, ?_⟩ | refine Mi rfl ?_); (conv => whnf))))
    ((conv => whnf); (refine HfA m2 ?_); ((conv => whnf); repeat ((first | refine Wo ?_ | refine Go1 ?_ | refine Go2 ?_ | refine Go3 ?_ | refine Go4 ?_ | refine ⟨_, rfl, ?_⟩ | refine Mi rfl ?_); (conv => whnf))))
    ((conv => whnf); (refine HfA cm ?_); ((conv => whnf); repeat ((first | refine Wo ?_ | refine Go1 ?_ | refine Go2 ?_ | refine Go3 ?_ | refine Go4 ?_ | refine ⟨_, rfl, ?_⟩ | refine Mi rfl ?_); (conv => whnf))))
    refine litE (cq (c := 124) (d := 43) (b := false) (by decide)) ?_
    ((conv => whnf); repeat ((first | refine Wo ?_ | refine Go1 ?_ | refine Go2 ?_ | refine Go3 ?_ | refine Go4 ?_ | refine ⟨_, rfl, ?_⟩ | refine Mi rfl ?_); (conv => whnf)))
    refine litE (cq (c := 124) (d := 45) (b := false) (by decide)) ?_
    ((conv => whnf); repeat ((first | refine Wo ?_ | refine Go1 ?_ | refine Go2 ?_ | refine Go3 ?_ | refine Go4 ?_ | refine ⟨_, rfl, ?_⟩ | refine Mi rfl ?_); (conv => whnf)))
    refine litE (cq (c := 124) (d := 42) (b := false) (by decide)) ?_
    ((conv => whnf); repeat ((first | refine Wo ?_ | refine Go1 ?_ | refine Go2 ?_ | refine Go3 ?_ | refine Go4 ?_ | refine ⟨_, rfl, ?_⟩ | refine Mi rfl ?_); (conv => whnf)))
    refine litE (cq (c := 124) (d := 37) (b := false) (by decide)) ?_
    ((conv => whnf); repeat ((first | refine Wo ?_ | refine Go1 ?_ | refine Go2 ?_ | refine Go3 ?_ | refine Go4 ?_ | refine ⟨_, rfl, ?_⟩ | refine Mi rfl ?_); (conv => whnf)))
    refine litE (cq (c := 124) (d := 33) (b := false) (by decide)) ?_
    ((conv => whnf); repeat ((first | refine Wo ?_ | refine Go1 ?_ | refine Go2 ?_ | refine Go3 ?_ | refine Go4 ?_ | refine ⟨_, rfl, ?_⟩ | refine Mi rfl ?_); (conv => whnf)))
    refine litE (cq (c := 124) (d := 60) (b := false) (by decide)) ?_
    ((conv => whnf); repeat ((first | refine Wo ?_ | refine Go1 ?_ | refine Go2 ?_ | refine Go3 ?_ | refine Go4 ?_ | refine ⟨_, rfl, ?_⟩ | refine Mi rfl ?_); (conv => whnf)))
    refine litE (cq (c := 124) (d := 62) (b := false) (by decide)) ?_
    ((conv => whnf); repeat ((first | refine Wo ?_ | refine Go1 ?_ | refine Go2 ?_ | refine Go3 ?_ | refine Go4 ?_ | refine ⟨_, rfl, ?_⟩ | refine Mi rfl ?_); (conv => whnf)))
    refine litE (cq (c := 124) (d := 61) (b := false) (by decide)) ?_
    ((conv => whnf); repeat ((first | refine Wo ?_ | refine Go1 ?_ | refine Go2 ?_ | refine Go3 ?_ | refine Go4 ?_ | refine ⟨_, rfl, ?_⟩ | refine Mi rfl ?_); (conv => whnf)))
    refine litE (cq (c := 124) (d := 126) (b := false) (by decide)) ?_
    ((conv => whnf); repeat ((first | refine Wo ?_ | refine Go1 ?_ | refine Go2 ?_ | refine Go3 ?_ | refine Go4 ?_ | refine ⟨_, rfl, ?_⟩ | refine Mi rfl ?_); (conv => whnf)))
    refine litE (cq (c := 124) (d := 38) (b := false) (by decide)) ?_
    ((conv => whnf); repeat ((first | refine Wo ?_ | refine Go1 ?_ | refine Go2 ?_ | refine Go3 ?_ | refine Go4 ?_ | refine ⟨_, rfl, ?_⟩ | refine Mi rfl ?_); (conv => whnf)))
    refine litE (cq (c := 124) (d := 124) (b := true) (by decide)) ?_
    ((conv => whnf); repeat ((first | refine Wo ?_ | refine Go1 ?_ | refine Go2 ?_ | refine Go3 ?_ | refine Go4 ?_ | refine ⟨_, rfl, ?_⟩ | refine Mi rfl ?_); (conv => whnf)))
    refine litE t ?_
    ((conv => whnf); repeat ((first | refine Wo ?_ | refine Go1 ?_ | refine Go2 ?_ | refine Go3 ?_ | refine Go4 ?_ | refine ⟨_, rfl, ?_⟩ | refine Mi rfl ?_); (conv => whnf)))
    refine litE (cq (c := 124) (d := 38) (b := false) (by decide)) ?_
    ((conv => whnf); repeat ((first | refine Wo ?_ | refine Go1 ?_ | refine Go2 ?_ | refine Go3 ?_ | refine Go4 ?_ | refine ⟨_, rfl, ?_⟩ | refine Mi rfl ?_); (conv => whnf)))
    refine litE (cq (c := 124) (d := 124) (b := true) (by decide)) ?_
    ((conv => whnf); repeat ((first | refine Wo ?_ | refine Go1 ?_ | refine Go2 ?_ | refine Go3 ?_ | refine Go4 ?_ | refine ⟨_, rfl, ?_⟩ | refine Mi rfl ?_); (conv => whnf)))
    exact TeA
theorem rdyZ_runs {c : UInt8} (hc : c ∈ ([43, 45, 42, 37, 33, 38, 124, 60, 62, 61, 126] : List UInt8)) : Runs Tryz.prog 57 [sD ⟨#[c]⟩, sD (numS x), sD (numS y)] (eD (dyZ c x y)) := by
  simp only [List.mem_cons, List.not_mem_nil, or_false] at hc
  rcases hc with rfl | rfl | rfl | rfl | rfl | rfl | rfl | rfl | rfl | rfl | rfl
  · exact rd_43 hx hy
  · exact rd_45 hx hy
  · exact rd_42 hx hy
  · exact rd_37 hx hy
  · exact rd_33 hx hy
  · exact rd_38 hx hy
  · exact rd_124 hx hy
  · exact rd_60 hx hy
  · exact rd_62 hx hy
  · exact rd_61 hx hy
  · exact rd_126 hx hy
end
theorem rsd_runs {op a b : ByteArray} (ho : sgB dyS op = true) (ha : mayB a = true) (hb : mayB b = true) : Runs Tryz.prog 57 [sD op, sD a, sD b] (eD (sd op a b)) := by
  obtain ⟨c, rfl, hc⟩ := sg_dy ho
  obtain ⟨x, rfl, hx⟩ := num_mayB ha
  obtain ⟨y, rfl, hy⟩ := num_mayB hb
  rw [sd_num]
  exact rdyZ_runs hx hy hc
theorem rmo_45 {x : Int} (hx : Nm.Sm x) : Runs Tryz.prog 63 [sD ⟨#[45]⟩, sD (numS x)] (eD (moZ 45 x, 0)) := by
  have m1 := nmay_runs hx
  have r := nneg_runs hx
  show Runs Tryz.prog 63 _ (eD (numS (-x), 0))
  refine Runs.wp Go.Proofs.YtjldjhlccedkbaaGreatDoor.Am.hT Go.Proofs.YtjldjhlccedkbaaGreatDoor.Am.hm Tryz.func63 rfl (by decide) ⟨[], [0, 1, 4, 5, 8, 9, 10, 14, 19], 24⟩ ?_; ((conv => whnf); repeat ((first | refine Wo ?_ | refine Go1 ?_ | refine Go2 ?_ | refine Go3 ?_ | refine Go4 ?_ | refine ⟨_, rfl, ?_⟩ | refine Mi rfl ?_); (conv => whnf)))
  ((conv => whnf); (refine HfA m1 ?_); ((conv => whnf); repeat ((first | refine Wo ?_ | refine Go1 ?_ | refine Go2 ?_ | refine Go3 ?_ | refine Go4 ?_ | refine ⟨_, rfl, ?_⟩ | refine Mi rfl ?_); (conv => whnf))))
  refine litE (cq (c := 45) (d := 45) (b := true) (by decide)) ?_
  ((conv => whnf); repeat ((first | refine Wo ?_ | refine Go1 ?_ | refine Go2 ?_ | refine Go3 ?_ | refine Go4 ?_ | refine ⟨_, rfl, ?_⟩ | refine Mi rfl ?_); (conv => whnf)))
  ((conv => whnf); (refine HfA r ?_); ((conv => whnf); repeat ((first | refine Wo ?_ | refine Go1 ?_ | refine Go2 ?_ | refine Go3 ?_ | refine Go4 ?_ | refine ⟨_, rfl, ?_⟩ | refine Mi rfl ?_); (conv => whnf))))
  exact TeA
theorem rmo_126 {x : Int} (hx : Nm.Sm x) : Runs Tryz.prog 63 [sD ⟨#[126]⟩, sD (numS x)] (eD (moZ 126 x, 0)) := by
  have m1 := nmay_runs hx
  have t := eqz x
  have r := rbit_runs (decide (x = 0))
  show Runs Tryz.prog 63 _ (eD (numS (b01 (decide (x = 0))), 0))
  refine Runs.wp Go.Proofs.YtjldjhlccedkbaaGreatDoor.Am.hT Go.Proofs.YtjldjhlccedkbaaGreatDoor.Am.hm Tryz.func63 rfl (by decide) ⟨[], [0, 1, 4, 5, 8, 9, 10, 14, 19], 24⟩ ?_; ((conv => whnf); repeat ((first | refine Wo ?_ | refine Go1 ?_ | refine Go2 ?_ | refine Go3 ?_ | refine Go4 ?_ | refine ⟨_, rfl, ?_⟩ | refine Mi rfl ?_); (conv => whnf)))
  ((conv => whnf); (refine HfA m1 ?_); ((conv => whnf); repeat ((first | refine Wo ?_ | refine Go1 ?_ | refine Go2 ?_ | refine Go3 ?_ | refine Go4 ?_ | refine ⟨_, rfl, ?_⟩ | refine Mi rfl ?_); (conv => whnf))))
  refine litE (cq (c := 126) (d := 45) (b := false) (by decide)) ?_
  ((conv => whnf); repeat ((first | refine Wo ?_ | refine Go1 ?_ | refine Go2 ?_ | refine Go3 ?_ | refine Go4 ?_ | refine ⟨_, rfl, ?_⟩ | refine Mi rfl ?_); (conv => whnf)))
  refine litE (cq (c := 126) (d := 126) (b := true) (by decide)) ?_
  ((conv => whnf); repeat ((first | refine Wo ?_ | refine Go1 ?_ | refine Go2 ?_ | refine Go3 ?_ | refine Go4 ?_ | refine ⟨_, rfl, ?_⟩ | refine Mi rfl ?_); (conv => whnf)))
  refine litE t ?_
  ((conv => whnf); repeat ((first | refine Wo ?_ | refine Go1 ?_ | refine Go2 ?_ | refine Go3 ?_ | refine Go4 ?_ | refine ⟨_, rfl, ?_⟩ | refine Mi rfl ?_); (conv => whnf)))
  ((conv => whnf); (refine HfA r ?_); ((conv => whnf); repeat ((first | refine Wo ?_ | refine Go1 ?_ | refine Go2 ?_ | refine Go3 ?_ | refine Go4 ?_ | refine ⟨_, rfl, ?_⟩ | refine Mi rfl ?_); (conv => whnf))))
  exact TeA
theorem rmo_42 {x : Int} (hx : Nm.Sm x) : Runs Tryz.prog 63 [sD ⟨#[42]⟩, sD (numS x)] (eD (moZ 42 x, 0)) := by
  have m1 := nmay_runs hx
  have r := nsign_runs hx
  have r2 := nof_runs (x := sgn x) (by unfold sgn; split; exact .inl rfl; split; exact .inr (.inl rfl); exact .inr (.inr rfl))
  show Runs Tryz.prog 63 _ (eD (numS (sgn x), 0))
  refine Runs.wp Go.Proofs.YtjldjhlccedkbaaGreatDoor.Am.hT Go.Proofs.YtjldjhlccedkbaaGreatDoor.Am.hm Tryz.func63 rfl (by decide) ⟨[], [0, 1, 4, 5, 8, 9, 10, 14, 19], 24⟩ ?_; ((conv => whnf); repeat ((first | refine Wo ?_ | refine Go1 ?_ | refine Go2 ?_ | refine Go3 ?_ | refine Go4 ?_ | refine ⟨_, rfl, ?_⟩ | refine Mi rfl ?_); (conv => whnf)))
  ((conv => whnf); (refine HfA m1 ?_); ((conv => whnf); repeat ((first | refine Wo ?_ | refine Go1 ?_ | refine Go2 ?_ | refine Go3 ?_ | refine Go4 ?_ | refine ⟨_, rfl, ?_⟩ | refine Mi rfl ?_); (conv => whnf))))
  refine litE (cq (c := 42) (d := 45) (b := false) (by decide)) ?_
  ((conv => whnf); repeat ((first | refine Wo ?_ | refine Go1 ?_ | refine Go2 ?_ | refine Go3 ?_ | refine Go4 ?_ | refine ⟨_, rfl, ?_⟩ | refine Mi rfl ?_); (conv => whnf)))
  refine litE (cq (c := 42) (d := 126) (b := false) (by decide)) ?_
  ((conv => whnf); repeat ((first | refine Wo ?_ | refine Go1 ?_ | refine Go2 ?_ | refine Go3 ?_ | refine Go4 ?_ | refine ⟨_, rfl, ?_⟩ | refine Mi rfl ?_); (conv => whnf)))
  refine litE (cq (c := 42) (d := 42) (b := true) (by decide)) ?_
  ((conv => whnf); repeat ((first | refine Wo ?_ | refine Go1 ?_ | refine Go2 ?_ | refine Go3 ?_ | refine Go4 ?_ | refine ⟨_, rfl, ?_⟩ | refine Mi rfl ?_); (conv => whnf)))
  ((conv => whnf); (refine HfA r ?_); ((conv => whnf); repeat ((first | refine Wo ?_ | refine Go1 ?_ | refine Go2 ?_ | refine Go3 ?_ | refine Go4 ?_ | refine ⟨_, rfl, ?_⟩ | refine Mi rfl ?_); (conv => whnf))))
  ((conv => whnf); (refine HfA r2 ?_); ((conv => whnf); repeat ((first | refine Wo ?_ | refine Go1 ?_ | refine Go2 ?_ | refine Go3 ?_ | refine Go4 ?_ | refine ⟨_, rfl, ?_⟩ | refine Mi rfl ?_); (conv => whnf))))
  exact TeA
theorem rsmo_runs {op a : ByteArray} (ho : sgB moS op = true) (ha : mayB a = true) : Runs Tryz.prog 63 [sD op, sD a] (eD (smo op a, 0)) := by
  obtain ⟨x, rfl, hx⟩ := num_mayB ha
  unfold sgB at ho
  split at ho
  · rename_i c hc
    rw [ba_of op, hc]
    have hm : c ∈ ([45, 126, 42] : List UInt8) := by simpa [moS] using ho
    show Runs Tryz.prog 63 [sD ⟨#[c]⟩, sD (numS x)] (eD (smo ⟨#[c]⟩ (numS x), 0))
    rw [smo_num]
    simp only [List.mem_cons, List.not_mem_nil, or_false] at hm
    rcases hm with rfl | rfl | rfl
    · exact rmo_45 hx
    · exact rmo_126 hx
    · exact rmo_42 hx
  · cases ho
end Go.Proofs.YtjldjhlccedkbaaGreatDoor.Am
end
