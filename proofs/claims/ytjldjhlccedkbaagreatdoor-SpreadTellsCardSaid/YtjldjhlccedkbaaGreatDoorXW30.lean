/- What the law leans on, part 31: declarations of several texts of ours, in their order. -/
import Derived.Test.YtjldjhlccedkbaaGreatDoorXW29
section
/- The document's arrays with signs. -/
namespace Go.Proofs.YtjldjhlccedkbaaGreatDoor.Am
open Go Go.Lib Go.RowKit Go.Proofs.YtjldjhlccedkbaaGreatDoor.Nm Go.Proofs.YtjldjhlccedkbaaGreatDoorW.PrintWords Go.Proofs.YtjldjhlccedkbaaGreatDoor Go.Proofs.YtjldjhlccedkbaaGreatDoor.Sh
set_option linter.unusedVariables false
set_option linter.unusedSimpArgs false
set_option maxRecDepth 100000
set_option maxHeartbeats 8000000
theorem rmayB_runs (b : ByteArray) (hb : b.size ≤ 1000000) : Runs Tryz.prog 106 [sD b] (bD (mayB b)) := by
  have h := rmay_runs b.data.toList (by rw [Array.length_toList]; exact hb)
  rwa [← ba_of b] at h
theorem rmayV_runs (s : List Int) (e : List ByteArray) (hs : s.length ≤ 1000000) (hl : e.length ≤ 1000000) (hb : ∀ b ∈ e, b.size ≤ 1000000) : Runs Tryz.prog 54 [vD s e none none] (bD (good s e)) := by
  have z := rsz_runs s hs
  unfold good
  generalize sizeS s = q at *
  obtain ⟨n, bad⟩ := q
  dsimp only at *
  by_cases h0 : bad = 0
  · have t1 : (!(bad == 0)) = false := by rw [h0]; rfl
    rw [decide_eq_true h0, Bool.true_and]
    by_cases h1 : (e.length : Int) = n
    · have t2 : (!(n == (e.length : Int))) = false := by rw [h1]; simp
      rw [decide_eq_true h1, Bool.true_and]
      refine Runs.wp Go.Proofs.YtjldjhlccedkbaaGreatDoor.Am.hT Go.Proofs.YtjldjhlccedkbaaGreatDoor.Am.hm Tryz.func54 rfl (by decide) ⟨[], [0, 1, 2, 3, 4, 5, 20, 25, 34], 35⟩ ?_; ((conv => whnf); repeat ((first | refine Wo ?_ | refine Go1 ?_ | refine Go2 ?_ | refine Go3 ?_ | refine Go4 ?_ | refine ⟨_, rfl, ?_⟩ | refine Mi rfl ?_); (conv => whnf)))
      ((conv => whnf); (refine HrA z ?_); ((conv => whnf); repeat ((first | refine Wo ?_ | refine Go1 ?_ | refine Go2 ?_ | refine Go3 ?_ | refine Go4 ?_ | refine ⟨_, rfl, ?_⟩ | refine Mi rfl ?_); (conv => whnf))))
      refine litE t1 ?_
      ((conv => whnf); repeat ((first | refine Wo ?_ | refine Go1 ?_ | refine Go2 ?_ | refine Go3 ?_ | refine Go4 ?_ | refine ⟨_, rfl, ?_⟩ | refine Mi rfl ?_); (conv => whnf)))
      refine litE t2 ?_
      ((conv => whnf); repeat ((first | refine Wo ?_ | refine Go1 ?_ | refine Go2 ?_ | refine Go3 ?_ | refine Go4 ?_ | refine ⟨_, rfl, ?_⟩ | refine Mi rfl ?_); (conv => whnf)))
      refine loop_ind (fun k (i : Nat) => i + k = e.length + 1 ∧ i ≤ e.length ∧ e.all mayB = (e.drop i).all mayB) (fun i => { t := pin [(1, .pt 0 0), (5, .d (iD i))], N := 35, h := hpin [some (.st 25 [.d (rI s none), .d (rS e none)])], n := 1, lo := 0 }) (fun i h => by omega) ?_ (e.length + 1) 0 ⟨by omega, by omega, rfl⟩ _ ?_
      · rintro k i R ih ⟨hk, hi, ha⟩
        by_cases hlt : i < e.length
        · have t3 : decide ((i : Int) < (e.length : Int)) = true := by rw [decide_eq_true_iff]; omega
          have gi : (e.map sD)[(i : Int).toNat * 1]? = some (sD e[i]) := ixm (j := i) (List.getElem?_eq_getElem hlt) (by simp)
          have m := rmayB_runs e[i] (hb _ (List.getElem_mem hlt))
          rw [List.drop_eq_getElem_cons hlt, List.all_cons] at ha
          cases hm : mayB e[i] with
          | true =>
            rw [hm] at m ha
            rw [Bool.true_and] at ha
            ((conv => whnf); repeat ((first | refine Wo ?_ | refine Go1 ?_ | refine Go2 ?_ | refine Go3 ?_ | refine Go4 ?_ | refine ⟨_, rfl, ?_⟩ | refine Mi rfl ?_); (conv => whnf)))
            refine litE t3 ?_
            ((conv => whnf); repeat ((first | refine Wo ?_ | refine Go1 ?_ | refine Go2 ?_ | refine Go3 ?_ | refine Go4 ?_ | refine ⟨_, rfl, ?_⟩ | refine Mi rfl ?_); (conv => whnf)))
            refine ⟨by omega, by omega, ?_⟩
            ((conv => whnf); repeat ((first | refine Wo ?_ | refine Go1 ?_ | refine Go2 ?_ | refine Go3 ?_ | refine Go4 ?_ | refine ⟨_, rfl, ?_⟩ | refine Mi rfl ?_); (conv => whnf)))
            refine ⟨_, gi, ?_⟩
            ((conv => whnf); repeat ((first | refine Wo ?_ | refine Go1 ?_ | refine Go2 ?_ | refine Go3 ?_ | refine Go4 ?_ | refine ⟨_, rfl, ?_⟩ | refine Mi rfl ?_); (conv => whnf)))
            ((conv => whnf); (refine HfA m ?_); ((conv => whnf); repeat ((first | refine Wo ?_ | refine Go1 ?_ | refine Go2 ?_ | refine Go3 ?_ | refine Go4 ?_ | refine ⟨_, rfl, ?_⟩ | refine Mi rfl ?_); (conv => whnf))))
            refine ih (i + 1) _ ⟨by omega, by omega, ha⟩ ?_
            (refine Wk.to _ _ ?_ ?_ <;> (repeat' first | exact trivial | rfl | (refine And.intro ?_ ?_)))
            exact inE (i64n (n := i + 1) (by omega) (by omega))
          | false =>
            rw [hm] at m ha
            rw [ha, Bool.false_and]
            ((conv => whnf); repeat ((first | refine Wo ?_ | refine Go1 ?_ | refine Go2 ?_ | refine Go3 ?_ | refine Go4 ?_ | refine ⟨_, rfl, ?_⟩ | refine Mi rfl ?_); (conv => whnf)))
            refine litE t3 ?_
            ((conv => whnf); repeat ((first | refine Wo ?_ | refine Go1 ?_ | refine Go2 ?_ | refine Go3 ?_ | refine Go4 ?_ | refine ⟨_, rfl, ?_⟩ | refine Mi rfl ?_); (conv => whnf)))
            refine ⟨by omega, by omega, ?_⟩
            ((conv => whnf); repeat ((first | refine Wo ?_ | refine Go1 ?_ | refine Go2 ?_ | refine Go3 ?_ | refine Go4 ?_ | refine ⟨_, rfl, ?_⟩ | refine Mi rfl ?_); (conv => whnf)))
            refine ⟨_, gi, ?_⟩
            ((conv => whnf); repeat ((first | refine Wo ?_ | refine Go1 ?_ | refine Go2 ?_ | refine Go3 ?_ | refine Go4 ?_ | refine ⟨_, rfl, ?_⟩ | refine Mi rfl ?_); (conv => whnf)))
            ((conv => whnf); (refine HfA m ?_); ((conv => whnf); repeat ((first | refine Wo ?_ | refine Go1 ?_ | refine Go2 ?_ | refine Go3 ?_ | refine Go4 ?_ | refine ⟨_, rfl, ?_⟩ | refine Mi rfl ?_); (conv => whnf))))
            exact TeA
        · have t3 : decide ((i : Int) < (e.length : Int)) = false := by rw [decide_eq_false_iff_not]; omega
          rw [ha, List.drop_eq_nil_of_le (by omega)]
          ((conv => whnf); repeat ((first | refine Wo ?_ | refine Go1 ?_ | refine Go2 ?_ | refine Go3 ?_ | refine Go4 ?_ | refine ⟨_, rfl, ?_⟩ | refine Mi rfl ?_); (conv => whnf)))
          refine litE t3 ?_
          ((conv => whnf); repeat ((first | refine Wo ?_ | refine Go1 ?_ | refine Go2 ?_ | refine Go3 ?_ | refine Go4 ?_ | refine ⟨_, rfl, ?_⟩ | refine Mi rfl ?_); (conv => whnf)))
          exact TeA
      · (refine Wk.to _ _ ?_ ?_ <;> (repeat' first | exact trivial | rfl | (refine And.intro ?_ ?_)))
    · have t2 : (!(n == (e.length : Int))) = true := by simp; omega
      rw [decide_eq_false h1, Bool.false_and]
      refine Runs.wp Go.Proofs.YtjldjhlccedkbaaGreatDoor.Am.hT Go.Proofs.YtjldjhlccedkbaaGreatDoor.Am.hm Tryz.func54 rfl (by decide) ⟨[], [0, 1, 2, 3, 4, 5, 20, 25, 34], 35⟩ ?_; ((conv => whnf); repeat ((first | refine Wo ?_ | refine Go1 ?_ | refine Go2 ?_ | refine Go3 ?_ | refine Go4 ?_ | refine ⟨_, rfl, ?_⟩ | refine Mi rfl ?_); (conv => whnf)))
      ((conv => whnf); (refine HrA z ?_); ((conv => whnf); repeat ((first | refine Wo ?_ | refine Go1 ?_ | refine Go2 ?_ | refine Go3 ?_ | refine Go4 ?_ | refine ⟨_, rfl, ?_⟩ | refine Mi rfl ?_); (conv => whnf))))
      refine litE t1 ?_
      ((conv => whnf); repeat ((first | refine Wo ?_ | refine Go1 ?_ | refine Go2 ?_ | refine Go3 ?_ | refine Go4 ?_ | refine ⟨_, rfl, ?_⟩ | refine Mi rfl ?_); (conv => whnf)))
      refine litE t2 ?_
      ((conv => whnf); repeat ((first | refine Wo ?_ | refine Go1 ?_ | refine Go2 ?_ | refine Go3 ?_ | refine Go4 ?_ | refine ⟨_, rfl, ?_⟩ | refine Mi rfl ?_); (conv => whnf)))
      exact TeA
  · have t1 : (!(bad == 0)) = true := by simpa using h0
    rw [decide_eq_false h0, Bool.false_and, Bool.false_and]
    refine Runs.wp Go.Proofs.YtjldjhlccedkbaaGreatDoor.Am.hT Go.Proofs.YtjldjhlccedkbaaGreatDoor.Am.hm Tryz.func54 rfl (by decide) ⟨[], [0, 1, 2, 3, 4, 5, 20, 25, 34], 35⟩ ?_; ((conv => whnf); repeat ((first | refine Wo ?_ | refine Go1 ?_ | refine Go2 ?_ | refine Go3 ?_ | refine Go4 ?_ | refine ⟨_, rfl, ?_⟩ | refine Mi rfl ?_); (conv => whnf)))
    ((conv => whnf); (refine HrA z ?_); ((conv => whnf); repeat ((first | refine Wo ?_ | refine Go1 ?_ | refine Go2 ?_ | refine Go3 ?_ | refine Go4 ?_ | refine ⟨_, rfl, ?_⟩ | refine Mi rfl ?_); (conv => whnf))))
    refine litE t1 ?_
    ((conv => whnf); repeat ((first | refine Wo ?_ | refine Go1 ?_ | refine Go2 ?_ | refine Go3 ?_ | refine Go4 ?_ | refine ⟨_, rfl, ?_⟩ | refine Mi rfl ?_); (conv => whnf)))
    exact TeA
theorem rmeet_runs (a b : List Int) (ha : a.length ≤ 1000000) (hb : b.length ≤ 1000000) : Runs Tryz.prog 55 [rI a none, rI b none] (.tup [rI (meetS a b).1 none, iD (meetS a b).2]) := by
  have sm := rsameI_runs (a := a) (b := b) (by omega)
  have e1 := emp_b b
  have e2 := emp_b a
  unfold meetS
  by_cases h1 : b = []
  · rw [decide_eq_true h1] at e1
    rw [if_pos (.inr h1)]
    refine Runs.wp Go.Proofs.YtjldjhlccedkbaaGreatDoor.Am.hT Go.Proofs.YtjldjhlccedkbaaGreatDoor.Am.hm Tryz.func55 rfl (by decide) ⟨[], [0, 1, 4, 5, 13, 17], 19⟩ ?_; ((conv => whnf); repeat ((first | refine Wo ?_ | refine Go1 ?_ | refine Go2 ?_ | refine Go3 ?_ | refine Go4 ?_ | refine ⟨_, rfl, ?_⟩ | refine Mi rfl ?_); (conv => whnf)))
    refine litE e1 ?_
    ((conv => whnf); repeat ((first | refine Wo ?_ | refine Go1 ?_ | refine Go2 ?_ | refine Go3 ?_ | refine Go4 ?_ | refine ⟨_, rfl, ?_⟩ | refine Mi rfl ?_); (conv => whnf)))
    exact TeA
  · rw [decide_eq_false h1] at e1
    by_cases h2 : a = b
    · rw [decide_eq_true h2] at sm
      rw [if_pos (.inl h2)]
      refine Runs.wp Go.Proofs.YtjldjhlccedkbaaGreatDoor.Am.hT Go.Proofs.YtjldjhlccedkbaaGreatDoor.Am.hm Tryz.func55 rfl (by decide) ⟨[], [0, 1, 4, 5, 13, 17], 19⟩ ?_; ((conv => whnf); repeat ((first | refine Wo ?_ | refine Go1 ?_ | refine Go2 ?_ | refine Go3 ?_ | refine Go4 ?_ | refine ⟨_, rfl, ?_⟩ | refine Mi rfl ?_); (conv => whnf)))
      refine litE e1 ?_
      ((conv => whnf); repeat ((first | refine Wo ?_ | refine Go1 ?_ | refine Go2 ?_ | refine Go3 ?_ | refine Go4 ?_ | refine ⟨_, rfl, ?_⟩ | refine Mi rfl ?_); (conv => whnf)))
      ((conv => whnf); (refine HfA sm ?_); ((conv => whnf); repeat ((first | refine Wo ?_ | refine Go1 ?_ | refine Go2 ?_ | refine Go3 ?_ | refine Go4 ?_ | refine ⟨_, rfl, ?_⟩ | refine Mi rfl ?_); (conv => whnf))))
      exact TeA
    · rw [decide_eq_false h2] at sm
      rw [if_neg (by rintro (h | h); exact h2 h; exact h1 h)]
      by_cases h3 : a = []
      · rw [decide_eq_true h3] at e2
        rw [if_pos h3]
        refine Runs.wp Go.Proofs.YtjldjhlccedkbaaGreatDoor.Am.hT Go.Proofs.YtjldjhlccedkbaaGreatDoor.Am.hm Tryz.func55 rfl (by decide) ⟨[], [0, 1, 4, 5, 13, 17], 19⟩ ?_; ((conv => whnf); repeat ((first | refine Wo ?_ | refine Go1 ?_ | refine Go2 ?_ | refine Go3 ?_ | refine Go4 ?_ | refine ⟨_, rfl, ?_⟩ | refine Mi rfl ?_); (conv => whnf)))
        refine litE e1 ?_
        ((conv => whnf); repeat ((first | refine Wo ?_ | refine Go1 ?_ | refine Go2 ?_ | refine Go3 ?_ | refine Go4 ?_ | refine ⟨_, rfl, ?_⟩ | refine Mi rfl ?_); (conv => whnf)))
        ((conv => whnf); (refine HfA sm ?_); ((conv => whnf); repeat ((first | refine Wo ?_ | refine Go1 ?_ | refine Go2 ?_ | refine Go3 ?_ | refine Go4 ?_ | refine ⟨_, rfl, ?_⟩ | refine Mi rfl ?_); (conv => whnf))))
        refine litE e2 ?_
        ((conv => whnf); repeat ((first | refine Wo ?_ | refine Go1 ?_ | refine Go2 ?_ | refine Go3 ?_ | refine Go4 ?_ | refine ⟨_, rfl, ?_⟩ | refine Mi rfl ?_); (conv => whnf)))
        exact TeA
      · rw [decide_eq_false h3] at e2
        rw [if_neg h3]
        refine Runs.wp Go.Proofs.YtjldjhlccedkbaaGreatDoor.Am.hT Go.Proofs.YtjldjhlccedkbaaGreatDoor.Am.hm Tryz.func55 rfl (by decide) ⟨[], [0, 1, 4, 5, 13, 17], 19⟩ ?_; ((conv => whnf); repeat ((first | refine Wo ?_ | refine Go1 ?_ | refine Go2 ?_ | refine Go3 ?_ | refine Go4 ?_ | refine ⟨_, rfl, ?_⟩ | refine Mi rfl ?_); (conv => whnf)))
        refine litE e1 ?_
        ((conv => whnf); repeat ((first | refine Wo ?_ | refine Go1 ?_ | refine Go2 ?_ | refine Go3 ?_ | refine Go4 ?_ | refine ⟨_, rfl, ?_⟩ | refine Mi rfl ?_); (conv => whnf)))
        ((conv => whnf); (refine HfA sm ?_); ((conv => whnf); repeat ((first | refine Wo ?_ | refine Go1 ?_ | refine Go2 ?_ | refine Go3 ?_ | refine Go4 ?_ | refine ⟨_, rfl, ?_⟩ | refine Mi rfl ?_); (conv => whnf))))
        refine litE e2 ?_
        ((conv => whnf); repeat ((first | refine Wo ?_ | refine Go1 ?_ | refine Go2 ?_ | refine Go3 ?_ | refine Go4 ?_ | refine ⟨_, rfl, ?_⟩ | refine Mi rfl ?_); (conv => whnf)))
        exact TeA
theorem relem_runs {s : List Int} {e : List ByteArray} {i : Nat} (h0 : s = [] → 0 < e.length) (h1 : s ≠ [] → i < e.length) : Runs Tryz.prog 58 [vD s e none none, iD i] (sD (atS s e i)) := by
  have e1 := emp_b s
  unfold atS
  by_cases h : s = []
  · have h0 := h0 h
    have hix : (e.map sD)[(0 : Int).toNat * 1]? = some (sD (e.getD 0 ByteArray.empty)) := ixm (j := 0) (by simp [h0]) (by simp)
    rw [decide_eq_true h] at e1
    rw [if_pos h]
    refine Runs.wp Go.Proofs.YtjldjhlccedkbaaGreatDoor.Am.hT Go.Proofs.YtjldjhlccedkbaaGreatDoor.Am.hm Tryz.func58 rfl (by decide) ⟨[], [0, 1, 2, 4, 8], 18⟩ ?_; ((conv => whnf); repeat ((first | refine Wo ?_ | refine Go1 ?_ | refine Go2 ?_ | refine Go3 ?_ | refine Go4 ?_ | refine ⟨_, rfl, ?_⟩ | refine Mi rfl ?_); (conv => whnf)))
    refine litE e1 ?_
    ((conv => whnf); repeat ((first | refine Wo ?_ | refine Lt (by decide) ?_ | refine Lf (by decide) ?_ | refine Cl (by decide) ?_ | refine Cr (by decide) ?_ | refine ⟨_, rfl, ?_⟩ | refine Mi rfl ?_ | (refine And.intro ArA ?_)); (conv => whnf)))
    ((conv => whnf); refine ⟨_, hix, ?_⟩; ((conv => whnf); repeat ((first | refine Wo ?_ | refine Go1 ?_ | refine Go2 ?_ | refine Go3 ?_ | refine Go4 ?_ | refine ⟨_, rfl, ?_⟩ | refine Mi rfl ?_); (conv => whnf))))
    exact TeA
  · have h1 := h1 h
    have hix : (e.map sD)[(i : Int).toNat * 1]? = some (sD (e.getD i ByteArray.empty)) := ixm (j := i) (by simp [h1]) (by simp)
    rw [decide_eq_false h] at e1
    rw [if_neg h]
    refine Runs.wp Go.Proofs.YtjldjhlccedkbaaGreatDoor.Am.hT Go.Proofs.YtjldjhlccedkbaaGreatDoor.Am.hm Tryz.func58 rfl (by decide) ⟨[], [0, 1, 2, 4, 8], 18⟩ ?_; ((conv => whnf); repeat ((first | refine Wo ?_ | refine Go1 ?_ | refine Go2 ?_ | refine Go3 ?_ | refine Go4 ?_ | refine ⟨_, rfl, ?_⟩ | refine Mi rfl ?_); (conv => whnf)))
    refine litE e1 ?_
    ((conv => whnf); repeat ((first | refine Wo ?_ | refine Lt (by decide) ?_ | refine Lf (by decide) ?_ | refine Cl (by decide) ?_ | refine Cr (by decide) ?_ | refine ⟨_, rfl, ?_⟩ | refine Mi rfl ?_ | (refine And.intro ArA ?_)); (conv => whnf)))
    ((conv => whnf); refine ⟨_, hix, ?_⟩; ((conv => whnf); repeat ((first | refine Wo ?_ | refine Go1 ?_ | refine Go2 ?_ | refine Go3 ?_ | refine Go4 ?_ | refine ⟨_, rfl, ?_⟩ | refine Mi rfl ?_); (conv => whnf))))
    exact TeA
def L11 : List UInt8 := [43, 45, 42, 37, 33, 38, 124, 60, 62, 61, 126]
theorem sg_eq (op : ByteArray) : sgB dyS op = L11.any fun c => op.toList == [c] := by
  have e : op.toList = op.data.toList := by rw [ba_of op, ba_list, ba_data]
  rw [e]
  unfold sgB
  generalize op.data.toList = l
  split
  · rename_i c
    show L11.contains c = _
    rw [Bool.eq_iff_iff, List.any_eq_true]
    simp
  · rename_i h
    symm
    rw [List.any_eq_false]
    intro c hc he
    exact h c (by simpa using he)
theorem rops_runs (op : ByteArray) : Runs Tryz.prog 25 [sD op] (bD (sgB dyS op)) := by
  rw [sg_eq]
  refine Runs.wp Go.Proofs.YtjldjhlccedkbaaGreatDoor.Am.hT Go.Proofs.YtjldjhlccedkbaaGreatDoor.Am.hm Tryz.func25 rfl (by decide) ⟨[], [0, 2, 3, 4, 8, 17], 18⟩ ?_; ((conv => whnf); repeat ((first | refine Wo ?_ | refine Go1 ?_ | refine Go2 ?_ | refine Go3 ?_ | refine Go4 ?_ | refine ⟨_, rfl, ?_⟩ | refine Mi rfl ?_); (conv => whnf)))
  refine loop_ind (fun k (i : Nat) => i + k = 12 ∧ i ≤ 11 ∧ (L11.any fun c => op.toList == [c]) = (L11.drop i).any fun c => op.toList == [c]) (fun i => { t := pin [(0, .d (sD op)), (3, .d (sD (BA L11))), (4, .d (iD i))], N := 18, h := hpin [], n := 0, lo := 0 }) (fun i h => by omega) ?_ 12 0 ⟨by omega, by omega, rfl⟩ _ ?_
  · rintro k i R ih ⟨hk, hi, ha⟩
    rw [ha]
    have hz : ((BA L11).size : Int) = 11 := rfl
    by_cases hlt : i < 11
    · have t1 : decide ((i : Int) < ((BA L11).size : Int)) = true := by rw [decide_eq_true_iff, hz]; omega
      have hl : i < L11.length := hlt
      have ew : IntKind.i64.wrap ((i : Int) + 1) = ((i + 1 : Nat) : Int) := i64n (n := i + 1) (by omega) (by omega)
      have hx : (BA L11).extract (i : Int).toNat (IntKind.i64.wrap ((i : Int) + 1)).toNat = BA [L11[i]] := by
        rw [ew, Int.toNat_natCast, Int.toNat_natCast, ba_one L11 i hl, List.getD_eq_getElem?_getD, List.getElem?_eq_getElem hl]
        rfl
      have t2 : (op.toList == ((BA L11).extract (i : Int).toNat (IntKind.i64.wrap ((i : Int) + 1)).toNat).toList) = (op.toList == [L11[i]]) := by rw [hx, show (BA [L11[i]]).toList = [L11[i]] from ba_list _]
      rw [List.drop_eq_getElem_cons hl, List.any_cons] at ha ⊢
      cases hb : op.toList == [L11[i]] with
      | true =>
        rw [hb] at t2
        rw [Bool.true_or]
        ((conv => whnf); repeat ((first | refine Wo ?_ | refine Go1 ?_ | refine Go2 ?_ | refine Go3 ?_ | refine Go4 ?_ | refine ⟨_, rfl, ?_⟩ | refine Mi rfl ?_); (conv => whnf)))
        refine litE t1 ?_
        ((conv => whnf); repeat ((first | refine Wo ?_ | refine Go1 ?_ | refine Go2 ?_ | refine Go3 ?_ | refine Go4 ?_ | refine ⟨_, rfl, ?_⟩ | refine Mi rfl ?_); (conv => whnf)))
        refine ⟨by omega, by rw [ew]; omega, by rw [ew, hz]; omega, ?_⟩
        ((conv => whnf); repeat ((first | refine Wo ?_ | refine Go1 ?_ | refine Go2 ?_ | refine Go3 ?_ | refine Go4 ?_ | refine ⟨_, rfl, ?_⟩ | refine Mi rfl ?_); (conv => whnf)))
        refine litE t2 ?_
        ((conv => whnf); repeat ((first | refine Wo ?_ | refine Go1 ?_ | refine Go2 ?_ | refine Go3 ?_ | refine Go4 ?_ | refine ⟨_, rfl, ?_⟩ | refine Mi rfl ?_); (conv => whnf)))
        exact TeA
      | false =>
        rw [hb] at t2 ha
        rw [Bool.false_or] at ha ⊢
        ((conv => whnf); repeat ((first | refine Wo ?_ | refine Go1 ?_ | refine Go2 ?_ | refine Go3 ?_ | refine Go4 ?_ | refine ⟨_, rfl, ?_⟩ | refine Mi rfl ?_); (conv => whnf)))
        refine litE t1 ?_
        ((conv => whnf); repeat ((first | refine Wo ?_ | refine Go1 ?_ | refine Go2 ?_ | refine Go3 ?_ | refine Go4 ?_ | refine ⟨_, rfl, ?_⟩ | refine Mi rfl ?_); (conv => whnf)))
        refine ⟨by omega, by rw [ew]; omega, by rw [ew, hz]; omega, ?_⟩
        ((conv => whnf); repeat ((first | refine Wo ?_ | refine Go1 ?_ | refine Go2 ?_ | refine Go3 ?_ | refine Go4 ?_ | refine ⟨_, rfl, ?_⟩ | refine Mi rfl ?_); (conv => whnf)))
        refine litE t2 ?_
        ((conv => whnf); repeat ((first | refine Wo ?_ | refine Go1 ?_ | refine Go2 ?_ | refine Go3 ?_ | refine Go4 ?_ | refine ⟨_, rfl, ?_⟩ | refine Mi rfl ?_); (conv => whnf)))
        refine ih (i + 1) _ ⟨by omega, by omega, ha⟩ ?_
        (refine Wk.to _ _ ?_ ?_ <;> (repeat' first | exact trivial | rfl | (refine And.intro ?_ ?_)))
        exact inE ew
    · have t1 : decide ((i : Int) < ((BA L11).size : Int)) = false := by rw [decide_eq_false_iff_not, hz]; omega
      rw [List.drop_eq_nil_of_le (show L11.length ≤ i from by show 11 ≤ i; omega)]
      ((conv => whnf); repeat ((first | refine Wo ?_ | refine Go1 ?_ | refine Go2 ?_ | refine Go3 ?_ | refine Go4 ?_ | refine ⟨_, rfl, ?_⟩ | refine Mi rfl ?_); (conv => whnf)))
      refine litE t1 ?_
      ((conv => whnf); repeat ((first | refine Wo ?_ | refine Go1 ?_ | refine Go2 ?_ | refine Go3 ?_ | refine Go4 ?_ | refine ⟨_, rfl, ?_⟩ | refine Mi rfl ?_); (conv => whnf)))
      exact TeA
  · (refine Wk.to _ _ ?_ ?_ <;> (repeat' first | exact trivial | rfl | (refine And.intro ?_ ?_)))
section
variable {op : ByteArray} {s s1 s2 : List Int} {e e1 e2 : List ByteArray}
theorem nq {d : UInt8} {b : Bool} (h : (op.toList == ByteArray.toList ⟨#[d]⟩) = b) : (!(op.toList == ByteArray.toList ⟨#[d]⟩)) = !b := by rw [h]
theorem rmon_no1 (h1 : Runs Tryz.prog 54 [vD s e none none] (bD false)) : Runs Tryz.prog 22 [sD op, vD s e none none] (.tup [vD [] [] none none, iD 1]) := by
  refine Runs.wp Go.Proofs.YtjldjhlccedkbaaGreatDoor.Am.hT Go.Proofs.YtjldjhlccedkbaaGreatDoor.Am.hm Tryz.func22 rfl (by decide) ⟨[], [0, 1, 3, 4, 5, 6, 7, 8, 24, 33], 53⟩ ?_; ((conv => whnf); repeat ((first | refine Wo ?_ | refine Go1 ?_ | refine Go2 ?_ | refine Go3 ?_ | refine Go4 ?_ | refine ⟨_, rfl, ?_⟩ | refine Mi rfl ?_); (conv => whnf)))
  ((conv => whnf); (refine HfA h1 ?_); ((conv => whnf); repeat ((first | refine Wo ?_ | refine Go1 ?_ | refine Go2 ?_ | refine Go3 ?_ | refine Go4 ?_ | refine ⟨_, rfl, ?_⟩ | refine Mi rfl ?_); (conv => whnf))))
  exact TeA
theorem rmon_no2 (h1 : Runs Tryz.prog 54 [vD s e none none] (bD true)) (h : ∀ c ∈ ([45, 126, 42] : List UInt8), (op.toList == ByteArray.toList ⟨#[c]⟩) = false) : Runs Tryz.prog 22 [sD op, vD s e none none] (.tup [vD [] [] none none, iD 1]) := by
  refine Runs.wp Go.Proofs.YtjldjhlccedkbaaGreatDoor.Am.hT Go.Proofs.YtjldjhlccedkbaaGreatDoor.Am.hm Tryz.func22 rfl (by decide) ⟨[], [0, 1, 3, 4, 5, 6, 7, 8, 24, 33], 53⟩ ?_; ((conv => whnf); repeat ((first | refine Wo ?_ | refine Go1 ?_ | refine Go2 ?_ | refine Go3 ?_ | refine Go4 ?_ | refine ⟨_, rfl, ?_⟩ | refine Mi rfl ?_); (conv => whnf)))
  ((conv => whnf); (refine HfA h1 ?_); ((conv => whnf); repeat ((first | refine Wo ?_ | refine Go1 ?_ | refine Go2 ?_ | refine Go3 ?_ | refine Go4 ?_ | refine ⟨_, rfl, ?_⟩ | refine Mi rfl ?_); (conv => whnf))))
  refine litE (nq (h 45 (by decide))) ?_
  ((conv => whnf); repeat ((first | refine Wo ?_ | refine Go1 ?_ | refine Go2 ?_ | refine Go3 ?_ | refine Go4 ?_ | refine ⟨_, rfl, ?_⟩ | refine Mi rfl ?_); (conv => whnf)))
  refine litE (nq (h 126 (by decide))) ?_
  ((conv => whnf); repeat ((first | refine Wo ?_ | refine Go1 ?_ | refine Go2 ?_ | refine Go3 ?_ | refine Go4 ?_ | refine ⟨_, rfl, ?_⟩ | refine Mi rfl ?_); (conv => whnf)))
  refine litE (nq (h 42 (by decide))) ?_
  ((conv => whnf); repeat ((first | refine Wo ?_ | refine Go1 ?_ | refine Go2 ?_ | refine Go3 ?_ | refine Go4 ?_ | refine ⟨_, rfl, ?_⟩ | refine Mi rfl ?_); (conv => whnf)))
  exact TeA
theorem rmon_45 {r : ByteArray → ByteArray} (h1 : Runs Tryz.prog 54 [vD s e none none] (bD true)) (hop : op = ⟨#[45]⟩) (h5 : ∀ x ∈ e, Runs Tryz.prog 63 [sD op, sD x] (eD (r x, 0))) (hn : e.length ≤ 4096) : Runs Tryz.prog 22 [sD op, vD s e none none] (.tup [vD s (e.map r) none none, iD 0]) := by
  have hres : (D.tup [.agg [rI s none, .sl 1 ((e.take e.length).map fun x => sD (r x)) e.length none], iD 0]) = .tup [vD s (e.map r) none none, iD 0] := by
    rw [List.take_length]
    simp [vD, List.map_map, Function.comp_def]
  rw [← hres]
  refine Runs.wp Go.Proofs.YtjldjhlccedkbaaGreatDoor.Am.hT Go.Proofs.YtjldjhlccedkbaaGreatDoor.Am.hm Tryz.func22 rfl (by decide) ⟨[], [0, 1, 3, 4, 5, 6, 7, 8, 24, 33], 53⟩ ?_; ((conv => whnf); repeat ((first | refine Wo ?_ | refine Go1 ?_ | refine Go2 ?_ | refine Go3 ?_ | refine Go4 ?_ | refine ⟨_, rfl, ?_⟩ | refine Mi rfl ?_); (conv => whnf)))
  ((conv => whnf); (refine HfA h1 ?_); ((conv => whnf); repeat ((first | refine Wo ?_ | refine Go1 ?_ | refine Go2 ?_ | refine Go3 ?_ | refine Go4 ?_ | refine ⟨_, rfl, ?_⟩ | refine Mi rfl ?_); (conv => whnf))))
  refine litE (nq (op := op) (d := 45) (b := true) (hop ▸ cq (by decide))) ?_
  ((conv => whnf); repeat ((first | refine Wo ?_ | refine Go1 ?_ | refine Go2 ?_ | refine Go3 ?_ | refine Go4 ?_ | refine ⟨_, rfl, ?_⟩ | refine Mi rfl ?_); (conv => whnf)))
  refine loop_ind (fun k (i : Nat) => i + k = e.length + 1 ∧ i ≤ e.length) (fun i => { t := pin [(0, .d (sD op)), (3, .pt 0 0), (4, .pt 1 0), (5, .d (iD 0)), (6, .pt 2 0), (7, .d (iD i))], N := 53, h := hpin [some (.st 25 [.d (rI s none), .d (rS e none)]), some (.st 25 [.imm (.slice none 0 0), .imm (.slice none 0 0)]), some (.st 25 [.d (rI s none), .bs 3]), some (.ar 9 1 i ((e.take i).map fun x => sD (r x)))], n := 4, lo := 0 }) (fun i h => by omega) ?_ (e.length + 1) 0 ⟨by omega, by omega⟩ _ ?_
  · rintro k i R ih ⟨hk, hi⟩
    by_cases hlt : i < e.length
    · have t9 : decide ((i : Int) < (e.length : Int)) = true := by rw [decide_eq_true_iff]; omega
      have hix : (e.map sD)[(i : Int).toNat * 1]? = some (sD e[i]) := ixm (j := i) (List.getElem?_eq_getElem hlt) (by simp)
      have hx := h5 e[i] (List.getElem_mem hlt)
      ((conv => whnf); repeat ((first | refine Wo ?_ | refine Go1 ?_ | refine Go2 ?_ | refine Go3 ?_ | refine Go4 ?_ | refine ⟨_, rfl, ?_⟩ | refine Mi rfl ?_); (conv => whnf)))
      refine litE t9 ?_
      ((conv => whnf); repeat ((first | refine Wo ?_ | refine Go1 ?_ | refine Go2 ?_ | refine Go3 ?_ | refine Go4 ?_ | refine ⟨_, rfl, ?_⟩ | refine Mi rfl ?_); (conv => whnf)))
      refine ⟨by omega, by omega, ?_⟩
      ((conv => whnf); repeat ((first | refine Wo ?_ | refine Go1 ?_ | refine Go2 ?_ | refine Go3 ?_ | refine Go4 ?_ | refine ⟨_, rfl, ?_⟩ | refine Mi rfl ?_); (conv => whnf)))
      ((conv => whnf); refine ⟨_, hix, ?_⟩; ((conv => whnf); repeat ((first | refine Wo ?_ | refine Go1 ?_ | refine Go2 ?_ | refine Go3 ?_ | refine Go4 ?_ | refine ⟨_, rfl, ?_⟩ | refine Mi rfl ?_); (conv => whnf))))
      ((conv => whnf); (refine HrA hx ?_); ((conv => whnf); repeat ((first | refine Wo ?_ | refine Go1 ?_ | refine Go2 ?_ | refine Go3 ?_ | refine Go4 ?_ | refine ⟨_, rfl, ?_⟩ | refine Mi rfl ?_); (conv => whnf))))
      refine ⟨by unfold maxLen; omega, by dsimp only; omega, ?_⟩
      ((conv => whnf); repeat ((first | refine Wo ?_ | refine Go1 ?_ | refine Go2 ?_ | refine Go3 ?_ | refine Go4 ?_ | refine ⟨_, rfl, ?_⟩ | refine Mi rfl ?_); (conv => whnf)))
      refine ih (i + 1) _ ⟨by omega, by omega⟩ ?_
      (refine Wk.pin [0, 1, 2, 5] _ _ ?_ ?_ rfl rfl (by decide) rfl rfl <;> (repeat' first | exact trivial | rfl | (refine And.intro ?_ ?_)))
      · exact inE (i64n (n := i + 1) (by omega) (by omega))
      · exact arE (by rw [List.take_add_one, List.getElem?_eq_getElem hlt, List.map_append]; rfl) rfl
    · obtain rfl : i = e.length := by omega
      have t9 : decide ((e.length : Int) < (e.length : Int)) = false := by simp
      ((conv => whnf); repeat ((first | refine Wo ?_ | refine Go1 ?_ | refine Go2 ?_ | refine Go3 ?_ | refine Go4 ?_ | refine ⟨_, rfl, ?_⟩ | refine Mi rfl ?_); (conv => whnf)))
      refine litE t9 ?_
      ((conv => whnf); repeat ((first | refine Wo ?_ | refine Go1 ?_ | refine Go2 ?_ | refine Go3 ?_ | refine Go4 ?_ | refine ⟨_, rfl, ?_⟩ | refine Mi rfl ?_); (conv => whnf)))
      exact TeA
  · refine (Wk.virtB 2 1 9 1 25 _ rfl rfl).trans ?_
    (refine Wk.to _ _ ?_ ?_ <;> (repeat' first | exact trivial | rfl | (refine And.intro ?_ ?_)))
theorem rmon_126 {r : ByteArray → ByteArray} (h1 : Runs Tryz.prog 54 [vD s e none none] (bD true)) (hop : op = ⟨#[126]⟩) (h5 : ∀ x ∈ e, Runs Tryz.prog 63 [sD op, sD x] (eD (r x, 0))) (hn : e.length ≤ 4096) : Runs Tryz.prog 22 [sD op, vD s e none none] (.tup [vD s (e.map r) none none, iD 0]) := by
  have hres : (D.tup [.agg [rI s none, .sl 1 ((e.take e.length).map fun x => sD (r x)) e.length none], iD 0]) = .tup [vD s (e.map r) none none, iD 0] := by
    rw [List.take_length]
    simp [vD, List.map_map, Function.comp_def]
  rw [← hres]
  refine Runs.wp Go.Proofs.YtjldjhlccedkbaaGreatDoor.Am.hT Go.Proofs.YtjldjhlccedkbaaGreatDoor.Am.hm Tryz.func22 rfl (by decide) ⟨[], [0, 1, 3, 4, 5, 6, 7, 8, 24, 33], 53⟩ ?_; ((conv => whnf); repeat ((first | refine Wo ?_ | refine Go1 ?_ | refine Go2 ?_ | refine Go3 ?_ | refine Go4 ?_ | refine ⟨_, rfl, ?_⟩ | refine Mi rfl ?_); (conv => whnf)))
  ((conv => whnf); (refine HfA h1 ?_); ((conv => whnf); repeat ((first | refine Wo ?_ | refine Go1 ?_ | refine Go2 ?_ | refine Go3 ?_ | refine Go4 ?_ | refine ⟨_, rfl, ?_⟩ | refine Mi rfl ?_); (conv => whnf))))
  refine litE (nq (op := op) (d := 45) (b := false) (hop ▸ cq (by decide))) ?_
  ((conv => whnf); repeat ((first | refine Wo ?_ | refine Go1 ?_ | refine Go2 ?_ | refine Go3 ?_ | refine Go4 ?_ | refine ⟨_, rfl, ?_⟩ | refine Mi rfl ?_); (conv => whnf)))
  refine litE (nq (op := op) (d := 126) (b := true) (hop ▸ cq (by decide))) ?_
  ((conv => whnf); repeat ((first | refine Wo ?_ | refine Go1 ?_ | refine Go2 ?_ | refine Go3 ?_ | refine Go4 ?_ | refine ⟨_, rfl, ?_⟩ | refine Mi rfl ?_); (conv => whnf)))
  refine loop_ind (fun k (i : Nat) => i + k = e.length + 1 ∧ i ≤ e.length) (fun i => { t := pin [(0, .d (sD op)), (3, .pt 0 0), (4, .pt 1 0), (5, .d (iD 0)), (6, .pt 2 0), (7, .d (iD i))], N := 53, h := hpin [some (.st 25 [.d (rI s none), .d (rS e none)]), some (.st 25 [.imm (.slice none 0 0), .imm (.slice none 0 0)]), some (.st 25 [.d (rI s none), .bs 3]), some (.ar 9 1 i ((e.take i).map fun x => sD (r x)))], n := 4, lo := 0 }) (fun i h => by omega) ?_ (e.length + 1) 0 ⟨by omega, by omega⟩ _ ?_
  · rintro k i R ih ⟨hk, hi⟩
    by_cases hlt : i < e.length
    · have t9 : decide ((i : Int) < (e.length : Int)) = true := by rw [decide_eq_true_iff]; omega
      have hix : (e.map sD)[(i : Int).toNat * 1]? = some (sD e[i]) := ixm (j := i) (List.getElem?_eq_getElem hlt) (by simp)
      have hx := h5 e[i] (List.getElem_mem hlt)
      ((conv => whnf); repeat ((first | refine Wo ?_ | refine Go1 ?_ | refine Go2 ?_ | refine Go3 ?_ | refine Go4 ?_ | refine ⟨_, rfl, ?_⟩ | refine Mi rfl ?_); (conv => whnf)))
      refine litE t9 ?_
      ((conv => whnf); repeat ((first | refine Wo ?_ | refine Go1 ?_ | refine Go2 ?_ | refine Go3 ?_ | refine Go4 ?_ | refine ⟨_, rfl, ?_⟩ | refine Mi rfl ?_); (conv => whnf)))
      refine ⟨by omega, by omega, ?_⟩
      ((conv => whnf); repeat ((first | refine Wo ?_ | refine Go1 ?_ | refine Go2 ?_ | refine Go3 ?_ | refine Go4 ?_ | refine ⟨_, rfl, ?_⟩ | refine Mi rfl ?_); (conv => whnf)))
      ((conv => whnf); refine ⟨_, hix, ?_⟩; ((conv => whnf); repeat ((first | refine Wo ?_ | refine Go1 ?_ | refine Go2 ?_ | refine Go3 ?_ | refine Go4 ?_ | refine ⟨_, rfl, ?_⟩ | refine Mi rfl ?_); (conv => whnf))))
      ((conv => whnf); (refine HrA hx ?_); ((conv => whnf); repeat ((first | refine Wo ?_ | refine Go1 ?_ | refine Go2 ?_ | refine Go3 ?_ | refine Go4 ?_ | refine ⟨_, rfl, ?_⟩ | refine Mi rfl ?_); (conv => whnf))))
      refine ⟨by unfold maxLen; omega, by dsimp only; omega, ?_⟩
      ((conv => whnf); repeat ((first | refine Wo ?_ | refine Go1 ?_ | refine Go2 ?_ | refine Go3 ?_ | refine Go4 ?_ | refine ⟨_, rfl, ?_⟩ | refine Mi rfl ?_); (conv => whnf)))
      refine ih (i + 1) _ ⟨by omega, by omega⟩ ?_
      (refine Wk.pin [0, 1, 2, 5] _ _ ?_ ?_ rfl rfl (by decide) rfl rfl <;> (repeat' first | exact trivial | rfl | (refine And.intro ?_ ?_)))
      · exact inE (i64n (n := i + 1) (by omega) (by omega))
      · exact arE (by rw [List.take_add_one, List.getElem?_eq_getElem hlt, List.map_append]; rfl) rfl
    · obtain rfl : i = e.length := by omega
      have t9 : decide ((e.length : Int) < (e.length : Int)) = false := by simp
      ((conv => whnf); repeat ((first | refine Wo ?_ | refine Go1 ?_ | refine Go2 ?_ | refine Go3 ?_ | refine Go4 ?_ | refine ⟨_, rfl, ?_⟩ | refine Mi rfl ?_); (conv => whnf)))
      refine litE t9 ?_
      ((conv => whnf); repeat ((first | refine Wo ?_ | refine Go1 ?_ | refine Go2 ?_ | refine Go3 ?_ | refine Go4 ?_ | refine ⟨_, rfl, ?_⟩ | refine Mi rfl ?_); (conv => whnf)))
      exact TeA
  · refine (Wk.virtB 2 1 9 1 25 _ rfl rfl).trans ?_
    (refine Wk.to _ _ ?_ ?_ <;> (repeat' first | exact trivial | rfl | (refine And.intro ?_ ?_)))
theorem rmon_42 {r : ByteArray → ByteArray} (h1 : Runs Tryz.prog 54 [vD s e none none] (bD true)) (hop : op = ⟨#[42]⟩) (h5 : ∀ x ∈ e, Runs Tryz.prog 63 [sD op, sD x] (eD (r x, 0))) (hn : e.length ≤ 4096) : Runs Tryz.prog 22 [sD op, vD s e none none] (.tup [vD s (e.map r) none none, iD 0]) := by
  have hres : (D.tup [.agg [rI s none, .sl 1 ((e.take e.length).map fun x => sD (r x)) e.length none], iD 0]) = .tup [vD s (e.map r) none none, iD 0] := by
    rw [List.take_length]
    simp [vD, List.map_map, Function.comp_def]
  rw [← hres]
  refine Runs.wp Go.Proofs.YtjldjhlccedkbaaGreatDoor.Am.hT Go.Proofs.YtjldjhlccedkbaaGreatDoor.Am.hm Tryz.func22 rfl (by decide) ⟨[], [0, 1, 3, 4, 5, 6, 7, 8, 24, 33], 53⟩ ?_; ((conv => whnf); repeat ((first | refine Wo ?_ | refine Go1 ?_ | refine Go2 ?_ | refine Go3 ?_ | refine Go4 ?_ | refine ⟨_, rfl, ?_⟩ | refine Mi rfl ?_); (conv => whnf)))
  ((conv => whnf); (refine HfA h1 ?_); ((conv => whnf); repeat ((first | refine Wo ?_ | refine Go1 ?_ | refine Go2 ?_ | refine Go3 ?_ | refine Go4 ?_ | refine ⟨_, rfl, ?_⟩ | refine Mi rfl ?_); (conv => whnf))))
  refine litE (nq (op := op) (d := 45) (b := false) (hop ▸ cq (by decide))) ?_
  ((conv => whnf); repeat ((first | refine Wo ?_ | refine Go1 ?_ | refine Go2 ?_ | refine Go3 ?_ | refine Go4 ?_ | refine ⟨_, rfl, ?_⟩ | refine Mi rfl ?_); (conv => whnf)))
  refine litE (nq (op := op) (d := 126) (b := false) (hop ▸ cq (by decide))) ?_
  ((conv => whnf); repeat ((first | refine Wo ?_ | refine Go1 ?_ | refine Go2 ?_ | refine Go3 ?_ | refine Go4 ?_ | refine ⟨_, rfl, ?_⟩ | refine Mi rfl ?_); (conv => whnf)))
  refine litE (nq (op := op) (d := 42) (b := true) (hop ▸ cq (by decide))) ?_
  ((conv => whnf); repeat ((first | refine Wo ?_ | refine Go1 ?_ | refine Go2 ?_ | refine Go3 ?_ | refine Go4 ?_ | refine ⟨_, rfl, ?_⟩ | refine Mi rfl ?_); (conv => whnf)))
  refine loop_ind (fun k (i : Nat) => i + k = e.length + 1 ∧ i ≤ e.length) (fun i => { t := pin [(0, .d (sD op)), (3, .pt 0 0), (4, .pt 1 0), (5, .d (iD 0)), (6, .pt 2 0), (7, .d (iD i))], N := 53, h := hpin [some (.st 25 [.d (rI s none), .d (rS e none)]), some (.st 25 [.imm (.slice none 0 0), .imm (.slice none 0 0)]), some (.st 25 [.d (rI s none), .bs 3]), some (.ar 9 1 i ((e.take i).map fun x => sD (r x)))], n := 4, lo := 0 }) (fun i h => by omega) ?_ (e.length + 1) 0 ⟨by omega, by omega⟩ _ ?_
  · rintro k i R ih ⟨hk, hi⟩
    by_cases hlt : i < e.length
    · have t9 : decide ((i : Int) < (e.length : Int)) = true := by rw [decide_eq_true_iff]; omega
      have hix : (e.map sD)[(i : Int).toNat * 1]? = some (sD e[i]) := ixm (j := i) (List.getElem?_eq_getElem hlt) (by simp)
      have hx := h5 e[i] (List.getElem_mem hlt)
      ((conv => whnf); repeat ((first | refine Wo ?_ | refine Go1 ?_ | refine Go2 ?_ | refine Go3 ?_ | refine Go4 ?_ | refine ⟨_, rfl, ?_⟩ | refine Mi rfl ?_); (conv => whnf)))
      refine litE t9 ?_
      ((conv => whnf); repeat ((first | refine Wo ?_ | refine Go1 ?_ | refine Go2 ?_ | refine Go3 ?_ | refine Go4 ?_ | refine ⟨_, rfl, ?_⟩ | refine Mi rfl ?_); (conv => whnf)))
      refine ⟨by omega, by omega, ?_⟩
      ((conv => whnf); repeat ((first | refine Wo ?_ | refine Go1 ?_ | refine Go2 ?_ | refine Go3 ?_ | refine Go4 ?_ | refine ⟨_, rfl, ?_⟩ | refine Mi rfl ?_); (conv => whnf)))
      ((conv => whnf); refine ⟨_, hix, ?_⟩; ((conv => whnf); repeat ((first | refine Wo ?_ | refine Go1 ?_ | refine Go2 ?_ | refine Go3 ?_ | refine Go4 ?_ | refine ⟨_, rfl, ?_⟩ | refine Mi rfl ?_); (conv => whnf))))
      ((conv => whnf); (refine HrA hx ?_); ((conv => whnf); repeat ((first | refine Wo ?_ | refine Go1 ?_ | refine Go2 ?_ | refine Go3 ?_ | refine Go4 ?_ | refine ⟨_, rfl, ?_⟩ | refine Mi rfl ?_); (conv => whnf))))
      refine ⟨by unfold maxLen; omega, by dsimp only; omega, ?_⟩
      ((conv => whnf); repeat ((first | refine Wo ?_ | refine Go1 ?_ | refine Go2 ?_ | refine Go3 ?_ | refine Go4 ?_ | refine ⟨_, rfl, ?_⟩ | refine Mi rfl ?_); (conv => whnf)))
      refine ih (i + 1) _ ⟨by omega, by omega⟩ ?_
      (refine Wk.pin [0, 1, 2, 5] _ _ ?_ ?_ rfl rfl (by decide) rfl rfl <;> (repeat' first | exact trivial | rfl | (refine And.intro ?_ ?_)))
      · exact inE (i64n (n := i + 1) (by omega) (by omega))
      · exact arE (by rw [List.take_add_one, List.getElem?_eq_getElem hlt, List.map_append]; rfl) rfl
    · obtain rfl : i = e.length := by omega
      have t9 : decide ((e.length : Int) < (e.length : Int)) = false := by simp
      ((conv => whnf); repeat ((first | refine Wo ?_ | refine Go1 ?_ | refine Go2 ?_ | refine Go3 ?_ | refine Go4 ?_ | refine ⟨_, rfl, ?_⟩ | refine Mi rfl ?_); (conv => whnf)))
      refine litE t9 ?_
      ((conv => whnf); repeat ((first | refine Wo ?_ | refine Go1 ?_ | refine Go2 ?_ | refine Go3 ?_ | refine Go4 ?_ | refine ⟨_, rfl, ?_⟩ | refine Mi rfl ?_); (conv => whnf)))
      exact TeA
  · refine (Wk.virtB 2 1 9 1 25 _ rfl rfl).trans ?_
    (refine Wk.to _ _ ?_ ?_ <;> (repeat' first | exact trivial | rfl | (refine And.intro ?_ ?_)))
end
end Go.Proofs.YtjldjhlccedkbaaGreatDoor.Am
end
section
/- The document's dyads over arrays; SpreadTells. -/
namespace Go.Proofs.YtjldjhlccedkbaaGreatDoor.Am
open Go Go.RowKit Go.Proofs.YtjldjhlccedkbaaGreatDoor.Sh
set_option linter.unusedVariables false
set_option linter.unusedSimpArgs false
set_option maxRecDepth 100000
set_option maxHeartbeats 8000000
section
variable {op : ByteArray} {s1 s2 : List Int} {e1 e2 : List ByteArray}
theorem rdyad_no1 (h1 : Runs Tryz.prog 54 [vD s1 e1 none none] (bD false)) : Runs Tryz.prog 20 [sD op, vD s1 e1 none none, vD s2 e2 none none] (.tup [vD [] [] none none, iD 1]) := by
  refine Runs.wp Go.Proofs.YtjldjhlccedkbaaGreatDoor.Am.hT Go.Proofs.YtjldjhlccedkbaaGreatDoor.Am.hm Tryz.func20 rfl (by decide) ⟨[(11, .first 0 (.first 2 (.first 5 (.load 1 [3, 6, 7, 8, 9, 10, 11, 12] (.alt 3 (.load 4 [6, 7, 8, 9, 10, 11, 12] (.alt 6 (.alt 7 (.first 8 (.first 9 (.first 10 (.first 11 (.first 12 .done))))) .nil) .nil)) (.alt 4 (.alt 3 (.alt 6 (.alt 7 (.first 8 (.first 9 (.first 10 (.first 11 (.first 12 .done))))) .nil) .nil) .nil) .nil))))))], [0, 1, 2, 4, 5, 6, 7, 8, 9, 10, 12, 13, 14, 15, 28, 39, 51, 66], 76⟩ ?_; ((conv => whnf); repeat ((first | refine Wo ?_ | refine Go1 ?_ | refine Go2 ?_ | refine Go3 ?_ | refine Go4 ?_ | refine ⟨_, rfl, ?_⟩ | refine Mi rfl ?_); (conv => whnf)))
  ((conv => whnf); (refine HfA h1 ?_); ((conv => whnf); repeat ((first | refine Wo ?_ | refine Go1 ?_ | refine Go2 ?_ | refine Go3 ?_ | refine Go4 ?_ | refine ⟨_, rfl, ?_⟩ | refine Mi rfl ?_); (conv => whnf))))
  exact TeA
theorem rdyad_no2 (h1 : Runs Tryz.prog 54 [vD s1 e1 none none] (bD true)) (h2 : Runs Tryz.prog 54 [vD s2 e2 none none] (bD false)) : Runs Tryz.prog 20 [sD op, vD s1 e1 none none, vD s2 e2 none none] (.tup [vD [] [] none none, iD 1]) := by
  refine Runs.wp Go.Proofs.YtjldjhlccedkbaaGreatDoor.Am.hT Go.Proofs.YtjldjhlccedkbaaGreatDoor.Am.hm Tryz.func20 rfl (by decide) ⟨[(11, .first 0 (.first 2 (.first 5 (.load 1 [3, 6, 7, 8, 9, 10, 11, 12] (.alt 3 (.load 4 [6, 7, 8, 9, 10, 11, 12] (.alt 6 (.alt 7 (.first 8 (.first 9 (.first 10 (.first 11 (.first 12 .done))))) .nil) .nil)) (.alt 4 (.alt 3 (.alt 6 (.alt 7 (.first 8 (.first 9 (.first 10 (.first 11 (.first 12 .done))))) .nil) .nil) .nil) .nil))))))], [0, 1, 2, 4, 5, 6, 7, 8, 9, 10, 12, 13, 14, 15, 28, 39, 51, 66], 76⟩ ?_; ((conv => whnf); repeat ((first | refine Wo ?_ | refine Go1 ?_ | refine Go2 ?_ | refine Go3 ?_ | refine Go4 ?_ | refine ⟨_, rfl, ?_⟩ | refine Mi rfl ?_); (conv => whnf)))
  ((conv => whnf); (refine HfA h1 ?_); ((conv => whnf); repeat ((first | refine Wo ?_ | refine Go1 ?_ | refine Go2 ?_ | refine Go3 ?_ | refine Go4 ?_ | refine ⟨_, rfl, ?_⟩ | refine Mi rfl ?_); (conv => whnf))))
  ((conv => whnf); (refine HfA h2 ?_); ((conv => whnf); repeat ((first | refine Wo ?_ | refine Go1 ?_ | refine Go2 ?_ | refine Go3 ?_ | refine Go4 ?_ | refine ⟨_, rfl, ?_⟩ | refine Mi rfl ?_); (conv => whnf))))
  exact TeA
theorem rdyad_no3 (h1 : Runs Tryz.prog 54 [vD s1 e1 none none] (bD true)) (h2 : Runs Tryz.prog 54 [vD s2 e2 none none] (bD true)) (h3 : Runs Tryz.prog 25 [sD op] (bD false)) : Runs Tryz.prog 20 [sD op, vD s1 e1 none none, vD s2 e2 none none] (.tup [vD [] [] none none, iD 1]) := by
  refine Runs.wp Go.Proofs.YtjldjhlccedkbaaGreatDoor.Am.hT Go.Proofs.YtjldjhlccedkbaaGreatDoor.Am.hm Tryz.func20 rfl (by decide) ⟨[(11, .first 0 (.first 2 (.first 5 (.load 1 [3, 6, 7, 8, 9, 10, 11, 12] (.alt 3 (.load 4 [6, 7, 8, 9, 10, 11, 12] (.alt 6 (.alt 7 (.first 8 (.first 9 (.first 10 (.first 11 (.first 12 .done))))) .nil) .nil)) (.alt 4 (.alt 3 (.alt 6 (.alt 7 (.first 8 (.first 9 (.first 10 (.first 11 (.first 12 .done))))) .nil) .nil) .nil) .nil))))))], [0, 1, 2, 4, 5, 6, 7, 8, 9, 10, 12, 13, 14, 15, 28, 39, 51, 66], 76⟩ ?_; ((conv => whnf); repeat ((first | refine Wo ?_ | refine Go1 ?_ | refine Go2 ?_ | refine Go3 ?_ | refine Go4 ?_ | refine ⟨_, rfl, ?_⟩ | refine Mi rfl ?_); (conv => whnf)))
  ((conv => whnf); (refine HfA h1 ?_); ((conv => whnf); repeat ((first | refine Wo ?_ | refine Go1 ?_ | refine Go2 ?_ | refine Go3 ?_ | refine Go4 ?_ | refine ⟨_, rfl, ?_⟩ | refine Mi rfl ?_); (conv => whnf))))
  ((conv => whnf); (refine HfA h2 ?_); ((conv => whnf); repeat ((first | refine Wo ?_ | refine Go1 ?_ | refine Go2 ?_ | refine Go3 ?_ | refine Go4 ?_ | refine ⟨_, rfl, ?_⟩ | refine Mi rfl ?_); (conv => whnf))))
  ((conv => whnf); (refine HfA h3 ?_); ((conv => whnf); repeat ((first | refine Wo ?_ | refine Go1 ?_ | refine Go2 ?_ | refine Go3 ?_ | refine Go4 ?_ | refine ⟨_, rfl, ?_⟩ | refine Mi rfl ?_); (conv => whnf))))
  exact TeA
theorem rdyad_no4 {m : List Int} {bad : Int} (hbad : bad ≠ 0) (h1 : Runs Tryz.prog 54 [vD s1 e1 none none] (bD true)) (h2 : Runs Tryz.prog 54 [vD s2 e2 none none] (bD true)) (h3 : Runs Tryz.prog 25 [sD op] (bD true)) (h4 : Runs Tryz.prog 55 [rI s1 none, rI s2 none] (.tup [rI m none, iD bad])) :
    Runs Tryz.prog 20 [sD op, vD s1 e1 none none, vD s2 e2 none none] (.tup [vD [] [] none none, iD bad]) := by
  have hb : (!(bad == 0)) = true := by simp [hbad]
  refine Runs.wp Go.Proofs.YtjldjhlccedkbaaGreatDoor.Am.hT Go.Proofs.YtjldjhlccedkbaaGreatDoor.Am.hm Tryz.func20 rfl (by decide) ⟨[(11, .first 0 (.first 2 (.first 5 (.load 1 [3, 6, 7, 8, 9, 10, 11, 12] (.alt 3 (.load 4 [6, 7, 8, 9, 10, 11, 12] (.alt 6 (.alt 7 (.first 8 (.first 9 (.first 10 (.first 11 (.first 12 .done))))) .nil) .nil)) (.alt 4 (.alt 3 (.alt 6 (.alt 7 (.first 8 (.first 9 (.first 10 (.first 11 (.first 12 .done))))) .nil) .nil) .nil) .nil))))))], [0, 1, 2, 4, 5, 6, 7, 8, 9, 10, 12, 13, 14, 15, 28, 39, 51, 66], 76⟩ ?_; ((conv => whnf); repeat ((first | refine Wo ?_ | refine Go1 ?_ | refine Go2 ?_ | refine Go3 ?_ | refine Go4 ?_ | refine ⟨_, rfl, ?_⟩ | refine Mi rfl ?_); (conv => whnf)))
  ((conv => whnf); (refine HfA h1 ?_); ((conv => whnf); repeat ((first | refine Wo ?_ | refine Go1 ?_ | refine Go2 ?_ | refine Go3 ?_ | refine Go4 ?_ | refine ⟨_, rfl, ?_⟩ | refine Mi rfl ?_); (conv => whnf))))
  ((conv => whnf); (refine HfA h2 ?_); ((conv => whnf); repeat ((first | refine Wo ?_ | refine Go1 ?_ | refine Go2 ?_ | refine Go3 ?_ | refine Go4 ?_ | refine ⟨_, rfl, ?_⟩ | refine Mi rfl ?_); (conv => whnf))))
  ((conv => whnf); (refine HfA h3 ?_); ((conv => whnf); repeat ((first | refine Wo ?_ | refine Go1 ?_ | refine Go2 ?_ | refine Go3 ?_ | refine Go4 ?_ | refine ⟨_, rfl, ?_⟩ | refine Mi rfl ?_); (conv => whnf))))
  ((conv => whnf); (refine HrA h4 ?_); ((conv => whnf); repeat ((first | refine Wo ?_ | refine Go1 ?_ | refine Go2 ?_ | refine Go3 ?_ | refine Go4 ?_ | refine ⟨_, rfl, ?_⟩ | refine Mi rfl ?_); (conv => whnf))))
  refine litE hb ?_
  ((conv => whnf); repeat ((first | refine Wo ?_ | refine Go1 ?_ | refine Go2 ?_ | refine Go3 ?_ | refine Go4 ?_ | refine ⟨_, rfl, ?_⟩ | refine Mi rfl ?_); (conv => whnf)))
  exact TeA
noncomputable def rdQ (op : ByteArray) (s1 s2 : List Int) (e1 e2 : List ByteArray) (m : List Int) (n : Nat) (r : Nat → ByteArray × Int) (i : Nat) : St :=
  { t := pin [(0, .d (sD op)), (4, .pt 0 0), (5, .pt 1 0), (6, .pt 2 0), (7, .d (iD 0)), (10, .d (iD n)), (12, .pt 3 0), (13, .d (iD i))], N := 76,
    h := hpin [some (.st 25 [.d (rI s1 none), .d (rS e1 none)]), some (.st 25 [.d (rI s2 none), .d (rS e2 none)]), some (.st 25 [.imm (.slice none 0 0), .imm (.slice none 0 0)]), some (.st 25 [.d (rI m none), .bs 4]), some (.ar 9 1 i ((List.range i).map fun j => sD (r j).1))], n := 5, lo := 0 }
theorem rdyad_run {m : List Int} {n z : Nat} {x y : Nat → ByteArray} {r : Nat → ByteArray × Int} {res : D} (h1 : Runs Tryz.prog 54 [vD s1 e1 none none] (bD true)) (h2 : Runs Tryz.prog 54 [vD s2 e2 none none] (bD true)) (h3 : Runs Tryz.prog 25 [sD op] (bD true)) (h4 : Runs Tryz.prog 55 [rI s1 none, rI s2 none] (.tup [rI m none, iD 0]))
    (h5 : Runs Tryz.prog 56 [rI m none] (.tup [iD n, iD 0])) (h6 : ∀ i, i < n → Runs Tryz.prog 58 [vD s1 e1 none none, iD i] (sD (x i))) (h7 : ∀ i, i < n → Runs Tryz.prog 58 [vD s2 e2 none none, iD i] (sD (y i)))
    (h8 : ∀ i, i < n → Runs Tryz.prog 57 [sD op, sD (x i), sD (y i)] (.tup [sD (r i).1, iD (r i).2])) (hn : n ≤ 8796093022208) (h9 : ∀ i, i < z → (r i).2 = 0)
    (hz : (z = n ∧ res = .tup [.agg [rI m none, .sl 1 ((List.range n).map fun j => sD (r j).1) n none], iD 0]) ∨ (z < n ∧ (r z).2 ≠ 0 ∧ res = .tup [vD [] [] none none, iD (r z).2])) : Runs Tryz.prog 20 [sD op, vD s1 e1 none none, vD s2 e2 none none] res := by
  refine Runs.wp Go.Proofs.YtjldjhlccedkbaaGreatDoor.Am.hT Go.Proofs.YtjldjhlccedkbaaGreatDoor.Am.hm Tryz.func20 rfl (by decide) ⟨[(11, .first 0 (.first 2 (.first 5 (.load 1 [3, 6, 7, 8, 9, 10, 11, 12] (.alt 3 (.load 4 [6, 7, 8, 9, 10, 11, 12] (.alt 6 (.alt 7 (.first 8 (.first 9 (.first 10 (.first 11 (.first 12 .done))))) .nil) .nil)) (.alt 4 (.alt 3 (.alt 6 (.alt 7 (.first 8 (.first 9 (.first 10 (.first 11 (.first 12 .done))))) .nil) .nil) .nil) .nil))))))], [0, 1, 2, 4, 5, 6, 7, 8, 9, 10, 12, 13, 14, 15, 28, 39, 51, 66], 76⟩ ?_; ((conv => whnf); repeat ((first | refine Wo ?_ | refine Go1 ?_ | refine Go2 ?_ | refine Go3 ?_ | refine Go4 ?_ | refine ⟨_, rfl, ?_⟩ | refine Mi rfl ?_); (conv => whnf)))
  ((conv => whnf); (refine HfA h1 ?_); ((conv => whnf); repeat ((first | refine Wo ?_ | refine Go1 ?_ | refine Go2 ?_ | refine Go3 ?_ | refine Go4 ?_ | refine ⟨_, rfl, ?_⟩ | refine Mi rfl ?_); (conv => whnf))))
  ((conv => whnf); (refine HfA h2 ?_); ((conv => whnf); repeat ((first | refine Wo ?_ | refine Go1 ?_ | refine Go2 ?_ | refine Go3 ?_ | refine Go4 ?_ | refine ⟨_, rfl, ?_⟩ | refine Mi rfl ?_); (conv => whnf))))
  ((conv => whnf); (refine HfA h3 ?_); ((conv => whnf); repeat ((first | refine Wo ?_ | refine Go1 ?_ | refine Go2 ?_ | refine Go3 ?_ | refine Go4 ?_ | refine ⟨_, rfl, ?_⟩ | refine Mi rfl ?_); (conv => whnf))))
  ((conv => whnf); (refine HrA h4 ?_); ((conv => whnf); repeat ((first | refine Wo ?_ | refine Go1 ?_ | refine Go2 ?_ | refine Go3 ?_ | refine Go4 ?_ | refine ⟨_, rfl, ?_⟩ | refine Mi rfl ?_); (conv => whnf))))
  ((conv => whnf); (refine HrA h5 ?_); ((conv => whnf); repeat ((first | refine Wo ?_ | refine Go1 ?_ | refine Go2 ?_ | refine Go3 ?_ | refine Go4 ?_ | refine ⟨_, rfl, ?_⟩ | refine Mi rfl ?_); (conv => whnf))))
  refine loop_ind (f := fun k i => i ≤ z ∧ k + i = z + 1) (fun i => rdQ op s1 s2 e1 e2 m n r i) (fun i h => by omega) ?_ (z + 1) 0 ⟨by omega, rfl⟩ _ ?_
  · rintro k i R ih ⟨hi, hk⟩
    have hzn : z ≤ n := by omega
    unfold rdQ
    by_cases hin : i < n
    · have hlt : decide ((i : Int) < (n : Int)) = true := by simpa using hin
      have h6' := h6 i hin
      have h7' := h7 i hin
      have h8' := h8 i hin
      by_cases hiz : i < z
      · rw [h9 i hiz] at h8'
        ((conv => whnf); repeat ((first | refine Wo ?_ | refine Go1 ?_ | refine Go2 ?_ | refine Go3 ?_ | refine Go4 ?_ | refine ⟨_, rfl, ?_⟩ | refine Mi rfl ?_); (conv => whnf)))
        refine Lt hlt ?_
        ((conv => whnf); repeat ((first | refine Wo ?_ | refine Go1 ?_ | refine Go2 ?_ | refine Go3 ?_ | refine Go4 ?_ | refine ⟨_, rfl, ?_⟩ | refine Mi rfl ?_); (conv => whnf)))
        (refine And.intro (by decide +kernel) ?_; apply Exists.intro; apply And.intro; focus ((repeat' ((conv => whnf); first | exact trivial | refine Wo ?_ | refine Lt (by decide) ?_ | refine Lf (by decide) ?_ | refine Cl (by decide) ?_ | refine Cr (by decide) ?_ | refine ⟨_, rfl, ?_⟩ | refine Mi rfl ?_ | (first | (refine HfA h6' ?_) | (refine HfA h7' ?_) | (refine HfA h8' ?_)) | (refine And.intro ?_ ?_))); all_goals (first | ((conv => whnf); exact Wk.frc (keep := [0, 1, 2, 4, 5, 6, 7, 8, 9, 10, 12, 13, 14, 15, 28, 39, 51, 66]) (N := 76) (by (conv => whnf); first | done | exact rfl)) | (first | decide | rfl | assumption | omega | (dsimp only; omega) | (unfold maxLen; omega) | ((try dsimp only [maxLen]); simp only [List.length_append, List.length_cons, List.length_nil, List.length_map, List.length_range, List.length_set, List.length_replicate]; omega) | ((try dsimp only [maxLen]); simp only [IntKind.wrap_i64, IntKind.wrap_u64, List.length_append, List.length_cons, List.length_nil, List.length_map, List.length_range, List.length_set, List.length_replicate]; omega) | ((try dsimp only [maxLen]); simp only [List.length_append, List.length_cons, List.length_nil, List.length_map, List.length_range, List.length_set, List.length_replicate] at *; omega)))))
        ((conv => whnf); repeat ((first | refine Wo ?_ | refine Go1 ?_ | refine Go2 ?_ | refine Go3 ?_ | refine Go4 ?_ | refine ⟨_, rfl, ?_⟩ | refine Mi rfl ?_); (conv => whnf)))
        refine ⟨by unfold maxLen; omega, by dsimp only; omega, ?_⟩
        ((conv => whnf); repeat ((first | refine Wo ?_ | refine Go1 ?_ | refine Go2 ?_ | refine Go3 ?_ | refine Go4 ?_ | refine ⟨_, rfl, ?_⟩ | refine Mi rfl ?_); (conv => whnf)))
        refine ih (i + 1) _ ⟨by omega, by omega⟩ ?_
        unfold rdQ
        (refine Wk.pin [0, 1, 2, 3, 6] _ _ ?_ ?_ rfl rfl (by decide) rfl rfl <;> (repeat' first | exact trivial | rfl | (refine And.intro ?_ ?_)))
        · exact inE (i64n (n := i + 1) (by omega) (by omega))
        · exact arE (by rw [List.range_succ, List.map_append]; rfl) rfl
      · have hi' : i = z := by omega
        subst hi'
        rcases hz with ⟨hz, _⟩ | ⟨_, hne, rfl⟩
        · omega
        have hnb : (!((r i).2 == 0)) = true := by simpa using hne
        ((conv => whnf); repeat ((first | refine Wo ?_ | refine Go1 ?_ | refine Go2 ?_ | refine Go3 ?_ | refine Go4 ?_ | refine ⟨_, rfl, ?_⟩ | refine Mi rfl ?_); (conv => whnf)))
        refine Lt hlt ?_
        ((conv => whnf); repeat ((first | refine Wo ?_ | refine Go1 ?_ | refine Go2 ?_ | refine Go3 ?_ | refine Go4 ?_ | refine ⟨_, rfl, ?_⟩ | refine Mi rfl ?_); (conv => whnf)))
        (refine And.intro (by decide +kernel) ?_; apply Exists.intro; apply And.intro; focus ((repeat' ((conv => whnf); first | exact trivial | refine Wo ?_ | refine Lt (by decide) ?_ | refine Lf (by decide) ?_ | refine Cl (by decide) ?_ | refine Cr (by decide) ?_ | refine ⟨_, rfl, ?_⟩ | refine Mi rfl ?_ | (first | (refine HfA h6' ?_) | (refine HfA h7' ?_) | (refine HfA h8' ?_)) | (refine And.intro ?_ ?_))); all_goals (first | ((conv => whnf); exact Wk.frc (keep := [0, 1, 2, 4, 5, 6, 7, 8, 9, 10, 12, 13, 14, 15, 28, 39, 51, 66]) (N := 76) (by (conv => whnf); first | done | exact rfl)) | (first | decide | rfl | assumption | omega | (dsimp only; omega) | (unfold maxLen; omega) | ((try dsimp only [maxLen]); simp only [List.length_append, List.length_cons, List.length_nil, List.length_map, List.length_range, List.length_set, List.length_replicate]; omega) | ((try dsimp only [maxLen]); simp only [IntKind.wrap_i64, IntKind.wrap_u64, List.length_append, List.length_cons, List.length_nil, List.length_map, List.length_range, List.length_set, List.length_replicate]; omega) | ((try dsimp only [maxLen]); simp only [List.length_append, List.length_cons, List.length_nil, List.length_map, List.length_range, List.length_set, List.length_replicate] at *; omega)))))
        ((conv => whnf); repeat ((first | refine Wo ?_ | refine Go1 ?_ | refine Go2 ?_ | refine Go3 ?_ | refine Go4 ?_ | refine ⟨_, rfl, ?_⟩ | refine Mi rfl ?_); (conv => whnf)))
        refine litE hnb ?_
        ((conv => whnf); repeat ((first | refine Wo ?_ | refine Go1 ?_ | refine Go2 ?_ | refine Go3 ?_ | refine Go4 ?_ | refine ⟨_, rfl, ?_⟩ | refine Mi rfl ?_); (conv => whnf)))
        exact TeA
    · have hlt : decide ((i : Int) < (n : Int)) = false := by simpa using hin
      rcases hz with ⟨hz, rfl⟩ | ⟨hz, _⟩
      · obtain rfl : i = n := by omega
        ((conv => whnf); repeat ((first | refine Wo ?_ | refine Go1 ?_ | refine Go2 ?_ | refine Go3 ?_ | refine Go4 ?_ | refine ⟨_, rfl, ?_⟩ | refine Mi rfl ?_); (conv => whnf)))
        refine Lf hlt ?_
        ((conv => whnf); repeat ((first | refine Wo ?_ | refine Go1 ?_ | refine Go2 ?_ | refine Go3 ?_ | refine Go4 ?_ | refine ⟨_, rfl, ?_⟩ | refine Mi rfl ?_); (conv => whnf)))
        exact TeA
      · omega
  · refine (Wk.virtB 3 1 9 1 25 _ rfl rfl).trans ?_
    unfold rdQ
    (refine Wk.to _ _ ?_ ?_ <;> (repeat' first | exact trivial | rfl | (refine And.intro ?_ ?_)))
end
theorem rdyad_runs (op : ByteArray) (s1 : List Int) (e1 : List ByteArray) (s2 : List Int) (e2 : List ByteArray) (l1 : s1.length ≤ 1000000) (l2 : s2.length ≤ 1000000) (j1 : e1.length ≤ 1000000) (j2 : e2.length ≤ 1000000) (q1 : ∀ b ∈ e1, b.size ≤ 1000000) (q2 : ∀ b ∈ e2, b.size ≤ 1000000) :
    Runs Tryz.prog 20 [sD op, vD s1 e1 none none, vD s2 e2 none none] (.tup [vD (dyO op s1 e1 s2 e2).1.1 (dyO op s1 e1 s2 e2).1.2 none none, iD (dyO op s1 e1 s2 e2).2]) := by
  have m1 := rmayV_runs s1 e1 l1 j1 q1
  have m2 := rmayV_runs s2 e2 l2 j2 q2
  have o := rops_runs op
  unfold dyO
  cases g1 : good s1 e1 with
  | false => rw [g1] at m1; rw [if_neg (by simp)]; exact rdyad_no1 m1
  | true =>
    cases g2 : good s2 e2 with
    | false => rw [g1] at m1; rw [g2] at m2; rw [if_neg (by simp)]; exact rdyad_no2 m1 m2
    | true =>
      cases ho : sgB dyS op with
      | false => rw [g1] at m1; rw [g2] at m2; rw [ho] at o; rw [if_neg (by simp)]; exact rdyad_no3 m1 m2 o
      | true =>
        rw [g1] at m1
        rw [g2] at m2
        rw [ho] at o
        rw [if_pos ⟨rfl, rfl, rfl⟩]
        have r1 := good_rank g1
        have r2 := good_rank g2
        have hme := rmeet_runs s1 s2 (by omega) (by omega)
        by_cases hm : (meetS s1 s2).2 = 0
        · rw [if_pos hm]
          obtain ⟨k1, k2, k3, k4, k5⟩ := meet_ok g1 g2 hm
          rw [hm] at hme
          have hsz := rsz_runs (meetS s1 s2).1 (by rcases k5 with ⟨h, _⟩ | ⟨h, _⟩ <;> rw [h] <;> omega)
          rw [k1] at hsz
          have run := fun {z : Nat} {res : D} => rdyad_run (z := z) (res := res) (r := dyR op s1 e1 s2 e2) m1 m2 o hme hsz (fun i hi => relem_runs (k3 i hi).1 (k3 i hi).2) (fun i hi => relem_runs (k4 i hi).1 (k4 i hi).2) (fun i hi => rsd_runs ho (good_all g1 _ (atS_mem (k3 i hi).1 (k3 i hi).2)) (good_all g2 _ (atS_mem (k4 i hi).1 (k4 i hi).2))) (by omega)
          split
          · rename_i z hz
            rw [List.find?_eq_some_iff_append] at hz
            obtain ⟨hzb, l0, l3, hz1, hz2⟩ := hz
            have hlen : l0.length = z := by
              have := congrArg (fun l => l[l0.length]?) hz1
              simp only [List.getElem?_append_right (Nat.le_refl _), Nat.sub_self, List.getElem?_cons_zero] at this
              have h2 := (List.getElem?_eq_some_iff.1 this).2
              simpa using h2
            have hzn : z < dyN s1 s2 := by
              have := congrArg List.length hz1
              simp only [List.length_range, List.length_append, List.length_cons] at this
              omega
            refine run (z := z) (fun i hi => ?_) (.inr ⟨hzn, by simpa using hzb, rfl⟩)
            have hmem : i ∈ l0 := by
              have h3 : (List.range (dyN s1 s2))[i]? = some i := by simp [show i < dyN s1 s2 by omega]
              rw [hz1, List.getElem?_append_left (by omega)] at h3
              exact List.mem_of_getElem? h3
            simpa using hz2 i hmem
          · rename_i hz
            rw [List.find?_eq_none] at hz
            refine (run (z := dyN s1 s2) (fun i hi => by simpa using hz i (List.mem_range.2 hi)) (.inl ⟨rfl, rfl⟩)).tel (Tels.refl _) ?_
            have : rS ((List.range (dyN s1 s2)).map fun i => (dyR op s1 e1 s2 e2 i).1) none = .sl 1 ((List.range (dyN s1 s2)).map fun j => sD (dyR op s1 e1 s2 e2 j).1) (dyN s1 s2) none := by simp [List.map_map, Function.comp_def]
            show Tel _ (.tup [.agg [rI (meetS s1 s2).1 none, rS ((List.range (dyN s1 s2)).map fun i => (dyR op s1 e1 s2 e2 i).1) none], iD 0])
            rw [this]
            exact .refl _
        · rw [if_neg hm]
          exact rdyad_no4 hm m1 m2 o hme
theorem rmonad_runs (op : ByteArray) (s : List Int) (e : List ByteArray) (l1 : s.length ≤ 1000000) (j1 : e.length ≤ 1000000) (q1 : ∀ b ∈ e, b.size ≤ 1000000) : Runs Tryz.prog 22 [sD op, vD s e none none] (.tup [vD (moO op s e).1.1 (moO op s e).1.2 none none, iD (moO op s e).2]) := by
  have m1 := rmayV_runs s e l1 j1 q1
  unfold moO
  cases g1 : good s e with
  | false => rw [g1] at m1; rw [if_neg (by simp)]; exact rmon_no1 m1
  | true =>
    rw [g1] at m1
    have he : op.toList = op.data.toList := by
      have := Nm.ba_list op.data.toList
      rwa [← Nm.ba_of op] at this
    cases ho : sgB moS op with
    | false =>
      rw [if_neg (by simp)]
      refine rmon_no2 m1 fun c hc => ?_
      rw [beq_eq_false_iff_ne, show ByteArray.toList ⟨#[c]⟩ = [c] from Nm.ba_list [c], he]
      intro h
      unfold sgB at ho
      rw [h] at ho
      dsimp only at ho
      have : moS.data.toList.contains c = true := by simpa [moS] using hc
      rw [this] at ho
      cases ho
    | true =>
      rw [if_pos ⟨rfl, rfl⟩]
      have h5 : ∀ x ∈ e, Runs Tryz.prog 63 [sD op, sD x] (eD (smo op x, 0)) := fun x hx => rsmo_runs ho (good_all g1 x hx)
      have hn := good_few g1
      unfold sgB at ho
      split at ho
      · rename_i c hc
        have hop : op = ⟨#[c]⟩ := by rw [Nm.ba_of op, hc]
        have hm : c ∈ ([45, 126, 42] : List UInt8) := by simpa [moS] using ho
        simp only [List.mem_cons, List.not_mem_nil, or_false] at hm
        rcases hm with rfl | rfl | rfl
        · exact rmon_45 m1 hop h5 hn
        · exact rmon_126 m1 hop h5 hn
        · exact rmon_42 m1 hop h5 hn
      · cases ho
theorem tells_no1 {op : ByteArray} {s t : List Int} {e u : List ByteArray} (f1 : Runs Tryz.prog 14 [vD s e none none] (bD false)) : Runs Tryz.prog 5 [sD op, vD s e none none, vD t u none none] (bD true) := by
  have f0 := shown_runs
  refine Runs.wp Go.Proofs.YtjldjhlccedkbaaGreatDoor.Am.hT Go.Proofs.YtjldjhlccedkbaaGreatDoor.Am.hm Tryz.func5 rfl (by decide) ⟨[], [0, 1, 2, 4, 5, 6, 7, 8, 9, 10, 11, 12, 13, 14, 15, 24], 80⟩ ?_; ((conv => whnf); repeat ((first | refine Wo ?_ | refine Go1 ?_ | refine Go2 ?_ | refine Go3 ?_ | refine Go4 ?_ | refine ⟨_, rfl, ?_⟩ | refine Mi rfl ?_); (conv => whnf)))
  ((conv => whnf); (refine HfA f0 ?_); ((conv => whnf); repeat ((first | refine Wo ?_ | refine Go1 ?_ | refine Go2 ?_ | refine Go3 ?_ | refine Go4 ?_ | refine ⟨_, rfl, ?_⟩ | refine Mi rfl ?_); (conv => whnf))))
  ((conv => whnf); (refine HfA f1 ?_); ((conv => whnf); repeat ((first | refine Wo ?_ | refine Go1 ?_ | refine Go2 ?_ | refine Go3 ?_ | refine Go4 ?_ | refine ⟨_, rfl, ?_⟩ | refine Mi rfl ?_); (conv => whnf))))
  exact TeA
theorem tells_no2 {op : ByteArray} {s t : List Int} {e u : List ByteArray} (f1 : Runs Tryz.prog 14 [vD s e none none] (bD true)) (f2 : Runs Tryz.prog 14 [vD t u none none] (bD false)) : Runs Tryz.prog 5 [sD op, vD s e none none, vD t u none none] (bD true) := by
  have f0 := shown_runs
  refine Runs.wp Go.Proofs.YtjldjhlccedkbaaGreatDoor.Am.hT Go.Proofs.YtjldjhlccedkbaaGreatDoor.Am.hm Tryz.func5 rfl (by decide) ⟨[], [0, 1, 2, 4, 5, 6, 7, 8, 9, 10, 11, 12, 13, 14, 15, 24], 80⟩ ?_; ((conv => whnf); repeat ((first | refine Wo ?_ | refine Go1 ?_ | refine Go2 ?_ | refine Go3 ?_ | refine Go4 ?_ | refine ⟨_, rfl, ?_⟩ | refine Mi rfl ?_); (conv => whnf)))
  ((conv => whnf); (refine HfA f0 ?_); ((conv => whnf); repeat ((first | refine Wo ?_ | refine Go1 ?_ | refine Go2 ?_ | refine Go3 ?_ | refine Go4 ?_ | refine ⟨_, rfl, ?_⟩ | refine Mi rfl ?_); (conv => whnf))))
  ((conv => whnf); (refine HfA f1 ?_); ((conv => whnf); repeat ((first | refine Wo ?_ | refine Go1 ?_ | refine Go2 ?_ | refine Go3 ?_ | refine Go4 ?_ | refine ⟨_, rfl, ?_⟩ | refine Mi rfl ?_); (conv => whnf))))
  ((conv => whnf); (refine HfA f2 ?_); ((conv => whnf); repeat ((first | refine Wo ?_ | refine Go1 ?_ | refine Go2 ?_ | refine Go3 ?_ | refine Go4 ?_ | refine ⟨_, rfl, ?_⟩ | refine Mi rfl ?_); (conv => whnf))))
  exact TeA
theorem tells_yes {op : ByteArray} {s t : List Int} {e u : List ByteArray} {a b : (List Int × List ByteArray) × Int} {o : Bool} (f1 : Runs Tryz.prog 14 [vD s e none none] (bD true)) (f2 : Runs Tryz.prog 14 [vD t u none none] (bD true))
    (d1 : Runs Tryz.prog 16 [sD op, vD s e none none, vD t u none none] (.tup [vD a.1.1 a.1.2 none none, iD a.2])) (d2 : Runs Tryz.prog 20 [sD op, vD s e none none, vD t u none none] (.tup [vD a.1.1 a.1.2 none none, iD a.2]))
    (m1 : Runs Tryz.prog 21 [sD op, vD s e none none] (.tup [vD b.1.1 b.1.2 none none, iD b.2])) (m2 : Runs Tryz.prog 22 [sD op, vD s e none none] (.tup [vD b.1.1 b.1.2 none none, iD b.2]))
    (s1 : Runs Tryz.prog 23 [vD a.1.1 a.1.2 none none, vD a.1.1 a.1.2 none none] (bD true)) (s2 : Runs Tryz.prog 23 [vD b.1.1 b.1.2 none none, vD b.1.1 b.1.2 none none] (bD true))
    (o1 : Runs Tryz.prog 24 [sD op] (bD o)) (o2 : Runs Tryz.prog 25 [sD op] (bD o)) : Runs Tryz.prog 5 [sD op, vD s e none none, vD t u none none] (bD true) := by
  have f0 := shown_runs
  have t1 : (a.2 == a.2) = true := by simp
  have t2 : (b.2 == b.2) = true := by simp
  have t3 : (o == o) = true := by simp
  refine Runs.wp Go.Proofs.YtjldjhlccedkbaaGreatDoor.Am.hT Go.Proofs.YtjldjhlccedkbaaGreatDoor.Am.hm Tryz.func5 rfl (by decide) ⟨[], [0, 1, 2, 4, 5, 6, 7, 8, 9, 10, 11, 12, 13, 14, 15, 24], 80⟩ ?_; ((conv => whnf); repeat ((first | refine Wo ?_ | refine Go1 ?_ | refine Go2 ?_ | refine Go3 ?_ | refine Go4 ?_ | refine ⟨_, rfl, ?_⟩ | refine Mi rfl ?_); (conv => whnf)))
  ((conv => whnf); (refine HfA f0 ?_); ((conv => whnf); repeat ((first | refine Wo ?_ | refine Go1 ?_ | refine Go2 ?_ | refine Go3 ?_ | refine Go4 ?_ | refine ⟨_, rfl, ?_⟩ | refine Mi rfl ?_); (conv => whnf))))
  ((conv => whnf); (refine HfA f1 ?_); ((conv => whnf); repeat ((first | refine Wo ?_ | refine Go1 ?_ | refine Go2 ?_ | refine Go3 ?_ | refine Go4 ?_ | refine ⟨_, rfl, ?_⟩ | refine Mi rfl ?_); (conv => whnf))))
  ((conv => whnf); (refine HfA f2 ?_); ((conv => whnf); repeat ((first | refine Wo ?_ | refine Go1 ?_ | refine Go2 ?_ | refine Go3 ?_ | refine Go4 ?_ | refine ⟨_, rfl, ?_⟩ | refine Mi rfl ?_); (conv => whnf))))
  ((conv => whnf); (refine HrA d1 ?_); ((conv => whnf); repeat ((first | refine Wo ?_ | refine Go1 ?_ | refine Go2 ?_ | refine Go3 ?_ | refine Go4 ?_ | refine ⟨_, rfl, ?_⟩ | refine Mi rfl ?_); (conv => whnf))))
  ((conv => whnf); (refine HrA d2 ?_); ((conv => whnf); repeat ((first | refine Wo ?_ | refine Go1 ?_ | refine Go2 ?_ | refine Go3 ?_ | refine Go4 ?_ | refine ⟨_, rfl, ?_⟩ | refine Mi rfl ?_); (conv => whnf))))
  ((conv => whnf); (refine HrA m1 ?_); ((conv => whnf); repeat ((first | refine Wo ?_ | refine Go1 ?_ | refine Go2 ?_ | refine Go3 ?_ | refine Go4 ?_ | refine ⟨_, rfl, ?_⟩ | refine Mi rfl ?_); (conv => whnf))))
  ((conv => whnf); (refine HrA m2 ?_); ((conv => whnf); repeat ((first | refine Wo ?_ | refine Go1 ?_ | refine Go2 ?_ | refine Go3 ?_ | refine Go4 ?_ | refine ⟨_, rfl, ?_⟩ | refine Mi rfl ?_); (conv => whnf))))
  ((conv => whnf); (refine HfA s1 ?_); ((conv => whnf); repeat ((first | refine Wo ?_ | refine Go1 ?_ | refine Go2 ?_ | refine Go3 ?_ | refine Go4 ?_ | refine ⟨_, rfl, ?_⟩ | refine Mi rfl ?_); (conv => whnf))))
  refine litE t1 ?_
  ((conv => whnf); repeat ((first | refine Wo ?_ | refine Go1 ?_ | refine Go2 ?_ | refine Go3 ?_ | refine Go4 ?_ | refine ⟨_, rfl, ?_⟩ | refine Mi rfl ?_); (conv => whnf)))
  ((conv => whnf); (refine HfA s2 ?_); ((conv => whnf); repeat ((first | refine Wo ?_ | refine Go1 ?_ | refine Go2 ?_ | refine Go3 ?_ | refine Go4 ?_ | refine ⟨_, rfl, ?_⟩ | refine Mi rfl ?_); (conv => whnf))))
  refine litE t2 ?_
  ((conv => whnf); repeat ((first | refine Wo ?_ | refine Go1 ?_ | refine Go2 ?_ | refine Go3 ?_ | refine Go4 ?_ | refine ⟨_, rfl, ?_⟩ | refine Mi rfl ?_); (conv => whnf)))
  ((conv => whnf); (refine HfA o1 ?_); ((conv => whnf); repeat ((first | refine Wo ?_ | refine Go1 ?_ | refine Go2 ?_ | refine Go3 ?_ | refine Go4 ?_ | refine ⟨_, rfl, ?_⟩ | refine Mi rfl ?_); (conv => whnf))))
  ((conv => whnf); (refine HfA o2 ?_); ((conv => whnf); repeat ((first | refine Wo ?_ | refine Go1 ?_ | refine Go2 ?_ | refine Go3 ?_ | refine Go4 ?_ | refine ⟨_, rfl, ?_⟩ | refine Mi rfl ?_); (conv => whnf))))
  ((conv => whnf); (conv => arg 1; whnf); refine Tel.bool ?_; show (o == o) = _)
  exact t3
theorem SpreadTells_runs (op : ByteArray) (s1 : List Int) (e1 : List ByteArray) (s2 : List Int) (e2 : List ByteArray) (l1 : s1.length ≤ 9223372036854775807) (j1 : e1.length ≤ 9223372036854775807) (l2 : s2.length ≤ 9223372036854775807) (j2 : e2.length ≤ 9223372036854775807) : Runs Tryz.prog 5 [sD op, vD s1 e1 none none, vD s2 e2 none none] (bD true) := by
  have f1 := few_runs s1 e1 l1 j1
  have f2 := few_runs s2 e2 l2 j2
  cases hf1 : fewB s1 e1 with
  | false => rw [hf1] at f1; exact tells_no1 f1
  | true =>
    rw [hf1] at f1
    cases hf2 : fewB s2 e2 with
    | false => rw [hf2] at f2; exact tells_no2 f1 f2
    | true =>
      rw [hf2] at f2
      obtain ⟨a1, a2, a3⟩ := few_of hf1
      obtain ⟨b1, b2, b3⟩ := few_of hf2
      have q1 : ∀ b ∈ e1, b.size ≤ 1000000 := fun b hb => by have := a3 b hb; omega
      have q2 : ∀ b ∈ e2, b.size ≤ 1000000 := fun b hb => by have := b3 b hb; omega
      have d1 := dyad_runs op s1 e1 s2 e2 l1 l2 j1 j2
      have d2 := rdyad_runs op s1 e1 s2 e2 (by omega) (by omega) (by omega) (by omega) q1 q2
      have m1 := monad_runs op s1 e1 l1 j1
      have m2 := rmonad_runs op s1 e1 (by omega) (by omega) q1
      have hlen : (dyO op s1 e1 s2 e2).1.1.length ≤ 9223372036854775806 ∧ (dyO op s1 e1 s2 e2).1.2.length ≤ 9223372036854775806 := by
        unfold dyO
        split
        · rename_i hg
          split
          · rename_i hm
            obtain ⟨k1, k2, k3, k4, k5⟩ := meet_ok hg.1 hg.2.1 hm
            split
            · exact ⟨by simp, by simp⟩
            · refine ⟨?_, by dsimp only; rw [List.length_map, List.length_range]; omega⟩
              dsimp only
              rcases k5 with ⟨h, _⟩ | ⟨h, _⟩ <;> rw [h] <;> omega
          · exact ⟨by simp, by simp⟩
        · exact ⟨by simp, by simp⟩
      have hlen2 : (moO op s1 e1).1.1.length ≤ 9223372036854775806 ∧ (moO op s1 e1).1.2.length ≤ 9223372036854775806 := by
        unfold moO
        split
        · exact ⟨by dsimp only; omega, by dsimp only; rw [List.length_map]; omega⟩
        · exact ⟨by simp, by simp⟩
      have g1 := rsameV_runs (dyO op s1 e1 s2 e2).1.1 (dyO op s1 e1 s2 e2).1.1 (dyO op s1 e1 s2 e2).1.2 (dyO op s1 e1 s2 e2).1.2 hlen.1 hlen.2
      have g2 := rsameV_runs (moO op s1 e1).1.1 (moO op s1 e1).1.1 (moO op s1 e1).1.2 (moO op s1 e1).1.2 hlen2.1 hlen2.2
      rw [decide_eq_true ⟨rfl, rfl⟩] at g1 g2
      exact tells_yes f1 f2 d1 d2 m1 m2 g1 g2 (ops_runs op) (rops_runs op)
end Go.Proofs.YtjldjhlccedkbaaGreatDoor.Am
end
