/- What the law leans on, part 24: declarations of several texts of ours, in their order. -/
import Derived.Test.YtjldjhlccedkbaaGreatDoorXW22
section
/- The document's numbers: which texts are numbers. -/
namespace Go.Proofs.YtjldjhlccedkbaaGreatDoor.Am
open Go Go.Lib Go.RowKit Go.Proofs.YtjldjhlccedkbaaGreatDoor.Nm Go.Proofs.YtjldjhlccedkbaaGreatDoorW.PrintWords Go.Proofs.YtjldjhlccedkbaaGreatDoor
set_option linter.unusedVariables false
set_option linter.unusedSimpArgs false
set_option maxRecDepth 100000
set_option maxHeartbeats 8000000
theorem eq_0 (l : List UInt8) : ((BA l).toList == ByteArray.toList ⟨#[48]⟩) = (l == [48]) := by
  rw [ba_list, show ByteArray.toList ⟨#[48]⟩ = ([48] : List UInt8) from ba_list [48]]
theorem mayL_cons {l : List UInt8} (h : (l == [48]) = false) : mayL l = (decide (1 ≤ (body l).length) && decide ((body l).length ≤ 100) && (((body l).headD 0).toNat != 48) && (body l).all digB) := by
  unfold mayL
  rw [h, Bool.false_or]
theorem rmay_pos (c : UInt8) (r : List UInt8) (h0 : ((c :: r) == [48]) = false) (h45 : (c == 45) = false) (hl : (c :: r).length ≤ 1000000) : Runs Tryz.prog 106 [sD (BA (c :: r))] (bD (mayL (c :: r))) := by
  have hb : body (c :: r) = (c :: r).drop 0 := by rw [body_cons, if_neg (fun e => by rw [show c = 45 from UInt8.toNat_inj.mp e] at h45; cases h45)]; rfl
  rw [mayL_cons h0, hb]
  have t0 := (eq_0 (c :: r)).trans h0
  have t1 : (!((BA (c :: r)).toList == ByteArray.toList ⟨#[]⟩)) = true := by rw [emp_l]; rfl
  have t2 : (((c.toNat : Nat) : Int) == 45) = false := (u8b c 45).trans h45
  have g0 : (BA (c :: r))[(0 : Int).toNat]? = some c := ba_ix (l := c :: r) (i := 0) (j := (0 : Int)) (by simp) rfl
  have hlp : 1 ≤ (c :: r).length := by simp
  clear hb h0
  generalize c :: r = l at *
  have hz : ((BA l).size : Int) = (l.length : Int) := by rw [ba_size]
  have hw : IntKind.i64.wrap (((BA l).size : Int) - 0) = (l.length : Int) - 0 := by rw [hz, i64w (by omega) (by omega)]
  have hdl : (l.drop 0).length = l.length - 0 := List.length_drop
  by_cases c1 : l.length - 0 < 1
  · have t3 : decide (IntKind.i64.wrap (((BA l).size : Int) - 0) < 1) = true := by rw [decide_eq_true_iff, hw]; omega
    rw [decide_eq_false (show ¬ 1 ≤ (l.drop 0).length by omega), Bool.false_and, Bool.false_and, Bool.false_and]
    refine Runs.wp Go.Proofs.YtjldjhlccedkbaaGreatDoor.Am.hT Go.Proofs.YtjldjhlccedkbaaGreatDoor.Am.hm Tryz.func106 rfl (by decide) ⟨[], [0, 2, 3, 4, 6, 13, 31, 36, 48], 49⟩ ?_; ((conv => whnf); repeat ((first | refine Wo ?_ | refine Go1 ?_ | refine Go2 ?_ | refine Go3 ?_ | refine Go4 ?_ | refine ⟨_, rfl, ?_⟩ | refine Mi rfl ?_); (conv => whnf)))
    refine litE t0 ?_
    ((conv => whnf); repeat ((first | refine Wo ?_ | refine Go1 ?_ | refine Go2 ?_ | refine Go3 ?_ | refine Go4 ?_ | refine ⟨_, rfl, ?_⟩ | refine Mi rfl ?_); (conv => whnf)))
    refine litE t1 ?_
    ((conv => whnf); repeat ((first | refine Wo ?_ | refine Go1 ?_ | refine Go2 ?_ | refine Go3 ?_ | refine Go4 ?_ | refine ⟨_, rfl, ?_⟩ | refine Mi rfl ?_); (conv => whnf)))
    refine ⟨by decide, by rw [hz]; omega, _, g0, ?_⟩
    ((conv => whnf); repeat ((first | refine Wo ?_ | refine Go1 ?_ | refine Go2 ?_ | refine Go3 ?_ | refine Go4 ?_ | refine ⟨_, rfl, ?_⟩ | refine Mi rfl ?_); (conv => whnf)))
    refine litE t2 ?_
    ((conv => whnf); repeat ((first | refine Wo ?_ | refine Go1 ?_ | refine Go2 ?_ | refine Go3 ?_ | refine Go4 ?_ | refine ⟨_, rfl, ?_⟩ | refine Mi rfl ?_); (conv => whnf)))
    refine litE t3 ?_
    ((conv => whnf); repeat ((first | refine Wo ?_ | refine Go1 ?_ | refine Go2 ?_ | refine Go3 ?_ | refine Go4 ?_ | refine ⟨_, rfl, ?_⟩ | refine Mi rfl ?_); (conv => whnf)))
    exact TeA
  · have t3 : decide (IntKind.i64.wrap (((BA l).size : Int) - 0) < 1) = false := by rw [decide_eq_false_iff_not, hw]; omega
    rw [decide_eq_true (show 1 ≤ (l.drop 0).length by omega), Bool.true_and]
    by_cases c2 : l.length - 0 ≤ 100
    · have t4 : decide (IntKind.i64.wrap (((BA l).size : Int) - 0) > 100) = false := by rw [decide_eq_false_iff_not, hw]; omega
      rw [decide_eq_true (show (l.drop 0).length ≤ 100 by omega), Bool.true_and]
      have ga := ba_ix (l := l) (i := 0) (j := (0 : Int)) (by omega) rfl
      have hh : (l.drop 0).headD 0 = l[0]'(by omega) := by rw [List.drop_eq_getElem_cons (show 0 < l.length by omega)]; rfl
      rw [hh]
      by_cases c3 : (l[0]'(by omega)).toNat = 48
      · have t5 : ((((l[0]'(by omega)).toNat : Nat) : Int) == 48) = true := by rw [c3]; rfl
        rw [c3, show ((48 : Nat) != 48) = false from rfl, Bool.false_and]
        refine Runs.wp Go.Proofs.YtjldjhlccedkbaaGreatDoor.Am.hT Go.Proofs.YtjldjhlccedkbaaGreatDoor.Am.hm Tryz.func106 rfl (by decide) ⟨[], [0, 2, 3, 4, 6, 13, 31, 36, 48], 49⟩ ?_; ((conv => whnf); repeat ((first | refine Wo ?_ | refine Go1 ?_ | refine Go2 ?_ | refine Go3 ?_ | refine Go4 ?_ | refine ⟨_, rfl, ?_⟩ | refine Mi rfl ?_); (conv => whnf)))
        refine litE t0 ?_
        ((conv => whnf); repeat ((first | refine Wo ?_ | refine Go1 ?_ | refine Go2 ?_ | refine Go3 ?_ | refine Go4 ?_ | refine ⟨_, rfl, ?_⟩ | refine Mi rfl ?_); (conv => whnf)))
        refine litE t1 ?_
        ((conv => whnf); repeat ((first | refine Wo ?_ | refine Go1 ?_ | refine Go2 ?_ | refine Go3 ?_ | refine Go4 ?_ | refine ⟨_, rfl, ?_⟩ | refine Mi rfl ?_); (conv => whnf)))
        refine ⟨by decide, by rw [hz]; omega, _, g0, ?_⟩
        ((conv => whnf); repeat ((first | refine Wo ?_ | refine Go1 ?_ | refine Go2 ?_ | refine Go3 ?_ | refine Go4 ?_ | refine ⟨_, rfl, ?_⟩ | refine Mi rfl ?_); (conv => whnf)))
        refine litE t2 ?_
        ((conv => whnf); repeat ((first | refine Wo ?_ | refine Go1 ?_ | refine Go2 ?_ | refine Go3 ?_ | refine Go4 ?_ | refine ⟨_, rfl, ?_⟩ | refine Mi rfl ?_); (conv => whnf)))
        refine litE t3 ?_
        ((conv => whnf); repeat ((first | refine Wo ?_ | refine Go1 ?_ | refine Go2 ?_ | refine Go3 ?_ | refine Go4 ?_ | refine ⟨_, rfl, ?_⟩ | refine Mi rfl ?_); (conv => whnf)))
        refine litE t4 ?_
        ((conv => whnf); repeat ((first | refine Wo ?_ | refine Go1 ?_ | refine Go2 ?_ | refine Go3 ?_ | refine Go4 ?_ | refine ⟨_, rfl, ?_⟩ | refine Mi rfl ?_); (conv => whnf)))
        refine ⟨by decide, by rw [hz]; omega, _, ga, ?_⟩
        ((conv => whnf); repeat ((first | refine Wo ?_ | refine Go1 ?_ | refine Go2 ?_ | refine Go3 ?_ | refine Go4 ?_ | refine ⟨_, rfl, ?_⟩ | refine Mi rfl ?_); (conv => whnf)))
        refine litE t5 ?_
        ((conv => whnf); repeat ((first | refine Wo ?_ | refine Go1 ?_ | refine Go2 ?_ | refine Go3 ?_ | refine Go4 ?_ | refine ⟨_, rfl, ?_⟩ | refine Mi rfl ?_); (conv => whnf)))
        exact TeA
      · have t5 : ((((l[0]'(by omega)).toNat : Nat) : Int) == 48) = false := beq_eq_false_iff_ne.mpr (by omega)
        rw [show ((l[0]'(by omega)).toNat != 48) = true by simpa using c3, Bool.true_and]
        refine Runs.wp Go.Proofs.YtjldjhlccedkbaaGreatDoor.Am.hT Go.Proofs.YtjldjhlccedkbaaGreatDoor.Am.hm Tryz.func106 rfl (by decide) ⟨[], [0, 2, 3, 4, 6, 13, 31, 36, 48], 49⟩ ?_; ((conv => whnf); repeat ((first | refine Wo ?_ | refine Go1 ?_ | refine Go2 ?_ | refine Go3 ?_ | refine Go4 ?_ | refine ⟨_, rfl, ?_⟩ | refine Mi rfl ?_); (conv => whnf)))
        refine litE t0 ?_
        ((conv => whnf); repeat ((first | refine Wo ?_ | refine Go1 ?_ | refine Go2 ?_ | refine Go3 ?_ | refine Go4 ?_ | refine ⟨_, rfl, ?_⟩ | refine Mi rfl ?_); (conv => whnf)))
        refine litE t1 ?_
        ((conv => whnf); repeat ((first | refine Wo ?_ | refine Go1 ?_ | refine Go2 ?_ | refine Go3 ?_ | refine Go4 ?_ | refine ⟨_, rfl, ?_⟩ | refine Mi rfl ?_); (conv => whnf)))
        refine ⟨by decide, by rw [hz]; omega, _, g0, ?_⟩
        ((conv => whnf); repeat ((first | refine Wo ?_ | refine Go1 ?_ | refine Go2 ?_ | refine Go3 ?_ | refine Go4 ?_ | refine ⟨_, rfl, ?_⟩ | refine Mi rfl ?_); (conv => whnf)))
        refine litE t2 ?_
        ((conv => whnf); repeat ((first | refine Wo ?_ | refine Go1 ?_ | refine Go2 ?_ | refine Go3 ?_ | refine Go4 ?_ | refine ⟨_, rfl, ?_⟩ | refine Mi rfl ?_); (conv => whnf)))
        refine litE t3 ?_
        ((conv => whnf); repeat ((first | refine Wo ?_ | refine Go1 ?_ | refine Go2 ?_ | refine Go3 ?_ | refine Go4 ?_ | refine ⟨_, rfl, ?_⟩ | refine Mi rfl ?_); (conv => whnf)))
        refine litE t4 ?_
        ((conv => whnf); repeat ((first | refine Wo ?_ | refine Go1 ?_ | refine Go2 ?_ | refine Go3 ?_ | refine Go4 ?_ | refine ⟨_, rfl, ?_⟩ | refine Mi rfl ?_); (conv => whnf)))
        refine ⟨by decide, by rw [hz]; omega, _, ga, ?_⟩
        ((conv => whnf); repeat ((first | refine Wo ?_ | refine Go1 ?_ | refine Go2 ?_ | refine Go3 ?_ | refine Go4 ?_ | refine ⟨_, rfl, ?_⟩ | refine Mi rfl ?_); (conv => whnf)))
        refine litE t5 ?_
        ((conv => whnf); repeat ((first | refine Wo ?_ | refine Go1 ?_ | refine Go2 ?_ | refine Go3 ?_ | refine Go4 ?_ | refine ⟨_, rfl, ?_⟩ | refine Mi rfl ?_); (conv => whnf)))
        refine loop_ind (fun k (i : Nat) => i + k = l.length + 1 ∧ i ≤ l.length ∧ (l.drop 0).all digB = (l.drop i).all digB) (fun i => { t := pin [(0, .d (sD (BA l))), (4, .d (iD i))], N := 49, h := hpin [], n := 0, lo := 0 }) (fun i h => by omega) ?_ (l.length + 1 - 0) 0 ⟨by omega, by omega, rfl⟩ _ ?_
        · rintro k i R ih ⟨hk, hi, he⟩
          rw [he]
          by_cases hlt : i < l.length
          · have t6 : decide ((i : Int) < ((BA l).size : Int)) = true := by rw [decide_eq_true_iff, hz]; omega
            have gi := ba_ix (l := l) (i := i) (j := (i : Int)) hlt (by simp)
            rw [List.drop_eq_getElem_cons hlt, List.all_cons] at he ⊢
            unfold digB at he ⊢
            by_cases d1 : 48 ≤ l[i].toNat
            · have t7 : decide (((l[i].toNat : Nat) : Int) < 48) = false := by rw [decide_eq_false_iff_not]; omega
              rw [decide_eq_true d1, Bool.true_and] at he ⊢
              by_cases d2 : l[i].toNat ≤ 57
              · have t8 : decide (((l[i].toNat : Nat) : Int) > 57) = false := by rw [decide_eq_false_iff_not]; omega
                rw [decide_eq_true d2, Bool.true_and] at he ⊢
                ((conv => whnf); repeat ((first | refine Wo ?_ | refine Go1 ?_ | refine Go2 ?_ | refine Go3 ?_ | refine Go4 ?_ | refine ⟨_, rfl, ?_⟩ | refine Mi rfl ?_); (conv => whnf)))
                refine litE t6 ?_
                ((conv => whnf); repeat ((first | refine Wo ?_ | refine Go1 ?_ | refine Go2 ?_ | refine Go3 ?_ | refine Go4 ?_ | refine ⟨_, rfl, ?_⟩ | refine Mi rfl ?_); (conv => whnf)))
                refine ⟨by omega, by rw [hz]; omega, _, gi, ?_⟩
                ((conv => whnf); repeat ((first | refine Wo ?_ | refine Go1 ?_ | refine Go2 ?_ | refine Go3 ?_ | refine Go4 ?_ | refine ⟨_, rfl, ?_⟩ | refine Mi rfl ?_); (conv => whnf)))
                refine litE t7 ?_
                ((conv => whnf); repeat ((first | refine Wo ?_ | refine Go1 ?_ | refine Go2 ?_ | refine Go3 ?_ | refine Go4 ?_ | refine ⟨_, rfl, ?_⟩ | refine Mi rfl ?_); (conv => whnf)))
                refine ⟨by omega, by rw [hz]; omega, _, gi, ?_⟩
                ((conv => whnf); repeat ((first | refine Wo ?_ | refine Go1 ?_ | refine Go2 ?_ | refine Go3 ?_ | refine Go4 ?_ | refine ⟨_, rfl, ?_⟩ | refine Mi rfl ?_); (conv => whnf)))
                refine litE t8 ?_
                ((conv => whnf); repeat ((first | refine Wo ?_ | refine Go1 ?_ | refine Go2 ?_ | refine Go3 ?_ | refine Go4 ?_ | refine ⟨_, rfl, ?_⟩ | refine Mi rfl ?_); (conv => whnf)))
                refine ih (i + 1) _ ⟨by omega, by omega, he⟩ ?_
                (refine Wk.to _ _ ?_ ?_ <;> (repeat' first | exact trivial | rfl | (refine And.intro ?_ ?_)))
                exact inE (i64n (n := i + 1) (by omega) (by omega))
              · have t8 : decide (((l[i].toNat : Nat) : Int) > 57) = true := by rw [decide_eq_true_iff]; omega
                rw [decide_eq_false d2, Bool.false_and]
                ((conv => whnf); repeat ((first | refine Wo ?_ | refine Go1 ?_ | refine Go2 ?_ | refine Go3 ?_ | refine Go4 ?_ | refine ⟨_, rfl, ?_⟩ | refine Mi rfl ?_); (conv => whnf)))
                refine litE t6 ?_
                ((conv => whnf); repeat ((first | refine Wo ?_ | refine Go1 ?_ | refine Go2 ?_ | refine Go3 ?_ | refine Go4 ?_ | refine ⟨_, rfl, ?_⟩ | refine Mi rfl ?_); (conv => whnf)))
                refine ⟨by omega, by rw [hz]; omega, _, gi, ?_⟩
                ((conv => whnf); repeat ((first | refine Wo ?_ | refine Go1 ?_ | refine Go2 ?_ | refine Go3 ?_ | refine Go4 ?_ | refine ⟨_, rfl, ?_⟩ | refine Mi rfl ?_); (conv => whnf)))
                refine litE t7 ?_
                ((conv => whnf); repeat ((first | refine Wo ?_ | refine Go1 ?_ | refine Go2 ?_ | refine Go3 ?_ | refine Go4 ?_ | refine ⟨_, rfl, ?_⟩ | refine Mi rfl ?_); (conv => whnf)))
                refine ⟨by omega, by rw [hz]; omega, _, gi, ?_⟩
                ((conv => whnf); repeat ((first | refine Wo ?_ | refine Go1 ?_ | refine Go2 ?_ | refine Go3 ?_ | refine Go4 ?_ | refine ⟨_, rfl, ?_⟩ | refine Mi rfl ?_); (conv => whnf)))
                refine litE t8 ?_
                ((conv => whnf); repeat ((first | refine Wo ?_ | refine Go1 ?_ | refine Go2 ?_ | refine Go3 ?_ | refine Go4 ?_ | refine ⟨_, rfl, ?_⟩ | refine Mi rfl ?_); (conv => whnf)))
                exact TeA
            · have t7 : decide (((l[i].toNat : Nat) : Int) < 48) = true := by rw [decide_eq_true_iff]; omega
              rw [decide_eq_false d1, Bool.false_and, Bool.false_and]
              ((conv => whnf); repeat ((first | refine Wo ?_ | refine Go1 ?_ | refine Go2 ?_ | refine Go3 ?_ | refine Go4 ?_ | refine ⟨_, rfl, ?_⟩ | refine Mi rfl ?_); (conv => whnf)))
              refine litE t6 ?_
              ((conv => whnf); repeat ((first | refine Wo ?_ | refine Go1 ?_ | refine Go2 ?_ | refine Go3 ?_ | refine Go4 ?_ | refine ⟨_, rfl, ?_⟩ | refine Mi rfl ?_); (conv => whnf)))
              refine ⟨by omega, by rw [hz]; omega, _, gi, ?_⟩
              ((conv => whnf); repeat ((first | refine Wo ?_ | refine Go1 ?_ | refine Go2 ?_ | refine Go3 ?_ | refine Go4 ?_ | refine ⟨_, rfl, ?_⟩ | refine Mi rfl ?_); (conv => whnf)))
              refine litE t7 ?_
              ((conv => whnf); repeat ((first | refine Wo ?_ | refine Go1 ?_ | refine Go2 ?_ | refine Go3 ?_ | refine Go4 ?_ | refine ⟨_, rfl, ?_⟩ | refine Mi rfl ?_); (conv => whnf)))
              exact TeA
          · have t6 : decide ((i : Int) < ((BA l).size : Int)) = false := by rw [decide_eq_false_iff_not, hz]; omega
            rw [List.drop_eq_nil_of_le (by omega)]
            ((conv => whnf); repeat ((first | refine Wo ?_ | refine Go1 ?_ | refine Go2 ?_ | refine Go3 ?_ | refine Go4 ?_ | refine ⟨_, rfl, ?_⟩ | refine Mi rfl ?_); (conv => whnf)))
            refine litE t6 ?_
            ((conv => whnf); repeat ((first | refine Wo ?_ | refine Go1 ?_ | refine Go2 ?_ | refine Go3 ?_ | refine Go4 ?_ | refine ⟨_, rfl, ?_⟩ | refine Mi rfl ?_); (conv => whnf)))
            exact TeA
        · (refine Wk.to _ _ ?_ ?_ <;> (repeat' first | exact trivial | rfl | (refine And.intro ?_ ?_)))
    · have t4 : decide (IntKind.i64.wrap (((BA l).size : Int) - 0) > 100) = true := by rw [decide_eq_true_iff, hw]; omega
      rw [decide_eq_false (show ¬ (l.drop 0).length ≤ 100 by omega), Bool.false_and, Bool.false_and]
      refine Runs.wp Go.Proofs.YtjldjhlccedkbaaGreatDoor.Am.hT Go.Proofs.YtjldjhlccedkbaaGreatDoor.Am.hm Tryz.func106 rfl (by decide) ⟨[], [0, 2, 3, 4, 6, 13, 31, 36, 48], 49⟩ ?_; ((conv => whnf); repeat ((first | refine Wo ?_ | refine Go1 ?_ | refine Go2 ?_ | refine Go3 ?_ | refine Go4 ?_ | refine ⟨_, rfl, ?_⟩ | refine Mi rfl ?_); (conv => whnf)))
      refine litE t0 ?_
      ((conv => whnf); repeat ((first | refine Wo ?_ | refine Go1 ?_ | refine Go2 ?_ | refine Go3 ?_ | refine Go4 ?_ | refine ⟨_, rfl, ?_⟩ | refine Mi rfl ?_); (conv => whnf)))
      refine litE t1 ?_
      ((conv => whnf); repeat ((first | refine Wo ?_ | refine Go1 ?_ | refine Go2 ?_ | refine Go3 ?_ | refine Go4 ?_ | refine ⟨_, rfl, ?_⟩ | refine Mi rfl ?_); (conv => whnf)))
      refine ⟨by decide, by rw [hz]; omega, _, g0, ?_⟩
      ((conv => whnf); repeat ((first | refine Wo ?_ | refine Go1 ?_ | refine Go2 ?_ | refine Go3 ?_ | refine Go4 ?_ | refine ⟨_, rfl, ?_⟩ | refine Mi rfl ?_); (conv => whnf)))
      refine litE t2 ?_
      ((conv => whnf); repeat ((first | refine Wo ?_ | refine Go1 ?_ | refine Go2 ?_ | refine Go3 ?_ | refine Go4 ?_ | refine ⟨_, rfl, ?_⟩ | refine Mi rfl ?_); (conv => whnf)))
      refine litE t3 ?_
      ((conv => whnf); repeat ((first | refine Wo ?_ | refine Go1 ?_ | refine Go2 ?_ | refine Go3 ?_ | refine Go4 ?_ | refine ⟨_, rfl, ?_⟩ | refine Mi rfl ?_); (conv => whnf)))
      refine litE t4 ?_
      ((conv => whnf); repeat ((first | refine Wo ?_ | refine Go1 ?_ | refine Go2 ?_ | refine Go3 ?_ | refine Go4 ?_ | refine ⟨_, rfl, ?_⟩ | refine Mi rfl ?_); (conv => whnf)))
      exact TeA
theorem rmay_neg (c : UInt8) (r : List UInt8) (h0 : ((c :: r) == [48]) = false) (h45 : (c == 45) = true) (hl : (c :: r).length ≤ 1000000) : Runs Tryz.prog 106 [sD (BA (c :: r))] (bD (mayL (c :: r))) := by
  have hb : body (c :: r) = (c :: r).drop 1 := by rw [body_cons, if_pos (by rw [show c = 45 by simpa using h45]; rfl)]; rfl
  rw [mayL_cons h0, hb]
  have t0 := (eq_0 (c :: r)).trans h0
  have t1 : (!((BA (c :: r)).toList == ByteArray.toList ⟨#[]⟩)) = true := by rw [emp_l]; rfl
  have t2 : (((c.toNat : Nat) : Int) == 45) = true := (u8b c 45).trans h45
  have g0 : (BA (c :: r))[(0 : Int).toNat]? = some c := ba_ix (l := c :: r) (i := 0) (j := (0 : Int)) (by simp) rfl
  have hlp : 1 ≤ (c :: r).length := by simp
  clear hb h0
  generalize c :: r = l at *
  have hz : ((BA l).size : Int) = (l.length : Int) := by rw [ba_size]
  have hw : IntKind.i64.wrap (((BA l).size : Int) - 1) = (l.length : Int) - 1 := by rw [hz, i64w (by omega) (by omega)]
  have hdl : (l.drop 1).length = l.length - 1 := List.length_drop
  by_cases c1 : l.length - 1 < 1
  · have t3 : decide (IntKind.i64.wrap (((BA l).size : Int) - 1) < 1) = true := by rw [decide_eq_true_iff, hw]; omega
    rw [decide_eq_false (show ¬ 1 ≤ (l.drop 1).length by omega), Bool.false_and, Bool.false_and, Bool.false_and]
    refine Runs.wp Go.Proofs.YtjldjhlccedkbaaGreatDoor.Am.hT Go.Proofs.YtjldjhlccedkbaaGreatDoor.Am.hm Tryz.func106 rfl (by decide) ⟨[], [0, 2, 3, 4, 6, 13, 31, 36, 48], 49⟩ ?_; ((conv => whnf); repeat ((first | refine Wo ?_ | refine Go1 ?_ | refine Go2 ?_ | refine Go3 ?_ | refine Go4 ?_ | refine ⟨_, rfl, ?_⟩ | refine Mi rfl ?_); (conv => whnf)))
    refine litE t0 ?_
    ((conv => whnf); repeat ((first | refine Wo ?_ | refine Go1 ?_ | refine Go2 ?_ | refine Go3 ?_ | refine Go4 ?_ | refine ⟨_, rfl, ?_⟩ | refine Mi rfl ?_); (conv => whnf)))
    refine litE t1 ?_
    ((conv => whnf); repeat ((first | refine Wo ?_ | refine Go1 ?_ | refine Go2 ?_ | refine Go3 ?_ | refine Go4 ?_ | refine ⟨_, rfl, ?_⟩ | refine Mi rfl ?_); (conv => whnf)))
    refine ⟨by decide, by rw [hz]; omega, _, g0, ?_⟩
    ((conv => whnf); repeat ((first | refine Wo ?_ | refine Go1 ?_ | refine Go2 ?_ | refine Go3 ?_ | refine Go4 ?_ | refine ⟨_, rfl, ?_⟩ | refine Mi rfl ?_); (conv => whnf)))
    refine litE t2 ?_
    ((conv => whnf); repeat ((first | refine Wo ?_ | refine Go1 ?_ | refine Go2 ?_ | refine Go3 ?_ | refine Go4 ?_ | refine ⟨_, rfl, ?_⟩ | refine Mi rfl ?_); (conv => whnf)))
    refine litE t3 ?_
    ((conv => whnf); repeat ((first | refine Wo ?_ | refine Go1 ?_ | refine Go2 ?_ | refine Go3 ?_ | refine Go4 ?_ | refine ⟨_, rfl, ?_⟩ | refine Mi rfl ?_); (conv => whnf)))
    exact TeA
  · have t3 : decide (IntKind.i64.wrap (((BA l).size : Int) - 1) < 1) = false := by rw [decide_eq_false_iff_not, hw]; omega
    rw [decide_eq_true (show 1 ≤ (l.drop 1).length by omega), Bool.true_and]
    by_cases c2 : l.length - 1 ≤ 100
    · have t4 : decide (IntKind.i64.wrap (((BA l).size : Int) - 1) > 100) = false := by rw [decide_eq_false_iff_not, hw]; omega
      rw [decide_eq_true (show (l.drop 1).length ≤ 100 by omega), Bool.true_and]
      have ga := ba_ix (l := l) (i := 1) (j := (1 : Int)) (by omega) rfl
      have hh : (l.drop 1).headD 0 = l[1]'(by omega) := by rw [List.drop_eq_getElem_cons (show 1 < l.length by omega)]; rfl
      rw [hh]
      by_cases c3 : (l[1]'(by omega)).toNat = 48
      · have t5 : ((((l[1]'(by omega)).toNat : Nat) : Int) == 48) = true := by rw [c3]; rfl
        rw [c3, show ((48 : Nat) != 48) = false from rfl, Bool.false_and]
        refine Runs.wp Go.Proofs.YtjldjhlccedkbaaGreatDoor.Am.hT Go.Proofs.YtjldjhlccedkbaaGreatDoor.Am.hm Tryz.func106 rfl (by decide) ⟨[], [0, 2, 3, 4, 6, 13, 31, 36, 48], 49⟩ ?_; ((conv => whnf); repeat ((first | refine Wo ?_ | refine Go1 ?_ | refine Go2 ?_ | refine Go3 ?_ | refine Go4 ?_ | refine ⟨_, rfl, ?_⟩ | refine Mi rfl ?_); (conv => whnf)))
        refine litE t0 ?_
        ((conv => whnf); repeat ((first | refine Wo ?_ | refine Go1 ?_ | refine Go2 ?_ | refine Go3 ?_ | refine Go4 ?_ | refine ⟨_, rfl, ?_⟩ | refine Mi rfl ?_); (conv => whnf)))
        refine litE t1 ?_
        ((conv => whnf); repeat ((first | refine Wo ?_ | refine Go1 ?_ | refine Go2 ?_ | refine Go3 ?_ | refine Go4 ?_ | refine ⟨_, rfl, ?_⟩ | refine Mi rfl ?_); (conv => whnf)))
        refine ⟨by decide, by rw [hz]; omega, _, g0, ?_⟩
        ((conv => whnf); repeat ((first | refine Wo ?_ | refine Go1 ?_ | refine Go2 ?_ | refine Go3 ?_ | refine Go4 ?_ | refine ⟨_, rfl, ?_⟩ | refine Mi rfl ?_); (conv => whnf)))
        refine litE t2 ?_
        ((conv => whnf); repeat ((first | refine Wo ?_ | refine Go1 ?_ | refine Go2 ?_ | refine Go3 ?_ | refine Go4 ?_ | refine ⟨_, rfl, ?_⟩ | refine Mi rfl ?_); (conv => whnf)))
        refine litE t3 ?_
        ((conv => whnf); repeat ((first | refine Wo ?_ | refine Go1 ?_ | refine Go2 ?_ | refine Go3 ?_ | refine Go4 ?_ | refine ⟨_, rfl, ?_⟩ | refine Mi rfl ?_); (conv => whnf)))
        refine litE t4 ?_
        ((conv => whnf); repeat ((first | refine Wo ?_ | refine Go1 ?_ | refine Go2 ?_ | refine Go3 ?_ | refine Go4 ?_ | refine ⟨_, rfl, ?_⟩ | refine Mi rfl ?_); (conv => whnf)))
        refine ⟨by decide, by rw [hz]; omega, _, ga, ?_⟩
        ((conv => whnf); repeat ((first | refine Wo ?_ | refine Go1 ?_ | refine Go2 ?_ | refine Go3 ?_ | refine Go4 ?_ | refine ⟨_, rfl, ?_⟩ | refine Mi rfl ?_); (conv => whnf)))
        refine litE t5 ?_
        ((conv => whnf); repeat ((first | refine Wo ?_ | refine Go1 ?_ | refine Go2 ?_ | refine Go3 ?_ | refine Go4 ?_ | refine ⟨_, rfl, ?_⟩ | refine Mi rfl ?_); (conv => whnf)))
        exact TeA
      · have t5 : ((((l[1]'(by omega)).toNat : Nat) : Int) == 48) = false := beq_eq_false_iff_ne.mpr (by omega)
        rw [show ((l[1]'(by omega)).toNat != 48) = true by simpa using c3, Bool.true_and]
        refine Runs.wp Go.Proofs.YtjldjhlccedkbaaGreatDoor.Am.hT Go.Proofs.YtjldjhlccedkbaaGreatDoor.Am.hm Tryz.func106 rfl (by decide) ⟨[], [0, 2, 3, 4, 6, 13, 31, 36, 48], 49⟩ ?_; ((conv => whnf); repeat ((first | refine Wo ?_ | refine Go1 ?_ | refine Go2 ?_ | refine Go3 ?_ | refine Go4 ?_ | refine ⟨_, rfl, ?_⟩ | refine Mi rfl ?_); (conv => whnf)))
        refine litE t0 ?_
        ((conv => whnf); repeat ((first | refine Wo ?_ | refine Go1 ?_ | refine Go2 ?_ | refine Go3 ?_ | refine Go4 ?_ | refine ⟨_, rfl, ?_⟩ | refine Mi rfl ?_); (conv => whnf)))
        refine litE t1 ?_
        ((conv => whnf); repeat ((first | refine Wo ?_ | refine Go1 ?_ | refine Go2 ?_ | refine Go3 ?_ | refine Go4 ?_ | refine ⟨_, rfl, ?_⟩ | refine Mi rfl ?_); (conv => whnf)))
        refine ⟨by decide, by rw [hz]; omega, _, g0, ?_⟩
        ((conv => whnf); repeat ((first | refine Wo ?_ | refine Go1 ?_ | refine Go2 ?_ | refine Go3 ?_ | refine Go4 ?_ | refine ⟨_, rfl, ?_⟩ | refine Mi rfl ?_); (conv => whnf)))
        refine litE t2 ?_
        ((conv => whnf); repeat ((first | refine Wo ?_ | refine Go1 ?_ | refine Go2 ?_ | refine Go3 ?_ | refine Go4 ?_ | refine ⟨_, rfl, ?_⟩ | refine Mi rfl ?_); (conv => whnf)))
        refine litE t3 ?_
        ((conv => whnf); repeat ((first | refine Wo ?_ | refine Go1 ?_ | refine Go2 ?_ | refine Go3 ?_ | refine Go4 ?_ | refine ⟨_, rfl, ?_⟩ | refine Mi rfl ?_); (conv => whnf)))
        refine litE t4 ?_
        ((conv => whnf); repeat ((first | refine Wo ?_ | refine Go1 ?_ | refine Go2 ?_ | refine Go3 ?_ | refine Go4 ?_ | refine ⟨_, rfl, ?_⟩ | refine Mi rfl ?_); (conv => whnf)))
        refine ⟨by decide, by rw [hz]; omega, _, ga, ?_⟩
        ((conv => whnf); repeat ((first | refine Wo ?_ | refine Go1 ?_ | refine Go2 ?_ | refine Go3 ?_ | refine Go4 ?_ | refine ⟨_, rfl, ?_⟩ | refine Mi rfl ?_); (conv => whnf)))
        refine litE t5 ?_
        ((conv => whnf); repeat ((first | refine Wo ?_ | refine Go1 ?_ | refine Go2 ?_ | refine Go3 ?_ | refine Go4 ?_ | refine ⟨_, rfl, ?_⟩ | refine Mi rfl ?_); (conv => whnf)))
        refine loop_ind (fun k (i : Nat) => i + k = l.length + 1 ∧ i ≤ l.length ∧ (l.drop 1).all digB = (l.drop i).all digB) (fun i => { t := pin [(0, .d (sD (BA l))), (4, .d (iD i))], N := 49, h := hpin [], n := 0, lo := 0 }) (fun i h => by omega) ?_ (l.length + 1 - 1) 1 ⟨by omega, by omega, rfl⟩ _ ?_
        · rintro k i R ih ⟨hk, hi, he⟩
          rw [he]
          by_cases hlt : i < l.length
          · have t6 : decide ((i : Int) < ((BA l).size : Int)) = true := by rw [decide_eq_true_iff, hz]; omega
            have gi := ba_ix (l := l) (i := i) (j := (i : Int)) hlt (by simp)
            rw [List.drop_eq_getElem_cons hlt, List.all_cons] at he ⊢
            unfold digB at he ⊢
            by_cases d1 : 48 ≤ l[i].toNat
            · have t7 : decide (((l[i].toNat : Nat) : Int) < 48) = false := by rw [decide_eq_false_iff_not]; omega
              rw [decide_eq_true d1, Bool.true_and] at he ⊢
              by_cases d2 : l[i].toNat ≤ 57
              · have t8 : decide (((l[i].toNat : Nat) : Int) > 57) = false := by rw [decide_eq_false_iff_not]; omega
                rw [decide_eq_true d2, Bool.true_and] at he ⊢
                ((conv => whnf); repeat ((first | refine Wo ?_ | refine Go1 ?_ | refine Go2 ?_ | refine Go3 ?_ | refine Go4 ?_ | refine ⟨_, rfl, ?_⟩ | refine Mi rfl ?_); (conv => whnf)))
                refine litE t6 ?_
                ((conv => whnf); repeat ((first | refine Wo ?_ | refine Go1 ?_ | refine Go2 ?_ | refine Go3 ?_ | refine Go4 ?_ | refine ⟨_, rfl, ?_⟩ | refine Mi rfl ?_); (conv => whnf)))
                refine ⟨by omega, by rw [hz]; omega, _, gi, ?_⟩
                ((conv => whnf); repeat ((first | refine Wo ?_ | refine Go1 ?_ | refine Go2 ?_ | refine Go3 ?_ | refine Go4 ?_ | refine ⟨_, rfl, ?_⟩ | refine Mi rfl ?_); (conv => whnf)))
                refine litE t7 ?_
                ((conv => whnf); repeat ((first | refine Wo ?_ | refine Go1 ?_ | refine Go2 ?_ | refine Go3 ?_ | refine Go4 ?_ | refine ⟨_, rfl, ?_⟩ | refine Mi rfl ?_); (conv => whnf)))
                refine ⟨by omega, by rw [hz]; omega, _, gi, ?_⟩
                ((conv => whnf); repeat ((first | refine Wo ?_ | refine Go1 ?_ | refine Go2 ?_ | refine Go3 ?_ | refine Go4 ?_ | refine ⟨_, rfl, ?_⟩ | refine Mi rfl ?_); (conv => whnf)))
                refine litE t8 ?_
                ((conv => whnf); repeat ((first | refine Wo ?_ | refine Go1 ?_ | refine Go2 ?_ | refine Go3 ?_ | refine Go4 ?_ | refine ⟨_, rfl, ?_⟩ | refine Mi rfl ?_); (conv => whnf)))
                refine ih (i + 1) _ ⟨by omega, by omega, he⟩ ?_
                (refine Wk.to _ _ ?_ ?_ <;> (repeat' first | exact trivial | rfl | (refine And.intro ?_ ?_)))
                exact inE (i64n (n := i + 1) (by omega) (by omega))
              · have t8 : decide (((l[i].toNat : Nat) : Int) > 57) = true := by rw [decide_eq_true_iff]; omega
                rw [decide_eq_false d2, Bool.false_and]
                ((conv => whnf); repeat ((first | refine Wo ?_ | refine Go1 ?_ | refine Go2 ?_ | refine Go3 ?_ | refine Go4 ?_ | refine ⟨_, rfl, ?_⟩ | refine Mi rfl ?_); (conv => whnf)))
                refine litE t6 ?_
                ((conv => whnf); repeat ((first | refine Wo ?_ | refine Go1 ?_ | refine Go2 ?_ | refine Go3 ?_ | refine Go4 ?_ | refine ⟨_, rfl, ?_⟩ | refine Mi rfl ?_); (conv => whnf)))
                refine ⟨by omega, by rw [hz]; omega, _, gi, ?_⟩
                ((conv => whnf); repeat ((first | refine Wo ?_ | refine Go1 ?_ | refine Go2 ?_ | refine Go3 ?_ | refine Go4 ?_ | refine ⟨_, rfl, ?_⟩ | refine Mi rfl ?_); (conv => whnf)))
                refine litE t7 ?_
                ((conv => whnf); repeat ((first | refine Wo ?_ | refine Go1 ?_ | refine Go2 ?_ | refine Go3 ?_ | refine Go4 ?_ | refine ⟨_, rfl, ?_⟩ | refine Mi rfl ?_); (conv => whnf)))
                refine ⟨by omega, by rw [hz]; omega, _, gi, ?_⟩
                ((conv => whnf); repeat ((first | refine Wo ?_ | refine Go1 ?_ | refine Go2 ?_ | refine Go3 ?_ | refine Go4 ?_ | refine ⟨_, rfl, ?_⟩ | refine Mi rfl ?_); (conv => whnf)))
                refine litE t8 ?_
                ((conv => whnf); repeat ((first | refine Wo ?_ | refine Go1 ?_ | refine Go2 ?_ | refine Go3 ?_ | refine Go4 ?_ | refine ⟨_, rfl, ?_⟩ | refine Mi rfl ?_); (conv => whnf)))
                exact TeA
            · have t7 : decide (((l[i].toNat : Nat) : Int) < 48) = true := by rw [decide_eq_true_iff]; omega
              rw [decide_eq_false d1, Bool.false_and, Bool.false_and]
              ((conv => whnf); repeat ((first | refine Wo ?_ | refine Go1 ?_ | refine Go2 ?_ | refine Go3 ?_ | refine Go4 ?_ | refine ⟨_, rfl, ?_⟩ | refine Mi rfl ?_); (conv => whnf)))
              refine litE t6 ?_
              ((conv => whnf); repeat ((first | refine Wo ?_ | refine Go1 ?_ | refine Go2 ?_ | refine Go3 ?_ | refine Go4 ?_ | refine ⟨_, rfl, ?_⟩ | refine Mi rfl ?_); (conv => whnf)))
              refine ⟨by omega, by rw [hz]; omega, _, gi, ?_⟩
              ((conv => whnf); repeat ((first | refine Wo ?_ | refine Go1 ?_ | refine Go2 ?_ | refine Go3 ?_ | refine Go4 ?_ | refine ⟨_, rfl, ?_⟩ | refine Mi rfl ?_); (conv => whnf)))
              refine litE t7 ?_
              ((conv => whnf); repeat ((first | refine Wo ?_ | refine Go1 ?_ | refine Go2 ?_ | refine Go3 ?_ | refine Go4 ?_ | refine ⟨_, rfl, ?_⟩ | refine Mi rfl ?_); (conv => whnf)))
              exact TeA
          · have t6 : decide ((i : Int) < ((BA l).size : Int)) = false := by rw [decide_eq_false_iff_not, hz]; omega
            rw [List.drop_eq_nil_of_le (by omega)]
            ((conv => whnf); repeat ((first | refine Wo ?_ | refine Go1 ?_ | refine Go2 ?_ | refine Go3 ?_ | refine Go4 ?_ | refine ⟨_, rfl, ?_⟩ | refine Mi rfl ?_); (conv => whnf)))
            refine litE t6 ?_
            ((conv => whnf); repeat ((first | refine Wo ?_ | refine Go1 ?_ | refine Go2 ?_ | refine Go3 ?_ | refine Go4 ?_ | refine ⟨_, rfl, ?_⟩ | refine Mi rfl ?_); (conv => whnf)))
            exact TeA
        · (refine Wk.to _ _ ?_ ?_ <;> (repeat' first | exact trivial | rfl | (refine And.intro ?_ ?_)))
    · have t4 : decide (IntKind.i64.wrap (((BA l).size : Int) - 1) > 100) = true := by rw [decide_eq_true_iff, hw]; omega
      rw [decide_eq_false (show ¬ (l.drop 1).length ≤ 100 by omega), Bool.false_and, Bool.false_and]
      refine Runs.wp Go.Proofs.YtjldjhlccedkbaaGreatDoor.Am.hT Go.Proofs.YtjldjhlccedkbaaGreatDoor.Am.hm Tryz.func106 rfl (by decide) ⟨[], [0, 2, 3, 4, 6, 13, 31, 36, 48], 49⟩ ?_; ((conv => whnf); repeat ((first | refine Wo ?_ | refine Go1 ?_ | refine Go2 ?_ | refine Go3 ?_ | refine Go4 ?_ | refine ⟨_, rfl, ?_⟩ | refine Mi rfl ?_); (conv => whnf)))
      refine litE t0 ?_
      ((conv => whnf); repeat ((first | refine Wo ?_ | refine Go1 ?_ | refine Go2 ?_ | refine Go3 ?_ | refine Go4 ?_ | refine ⟨_, rfl, ?_⟩ | refine Mi rfl ?_); (conv => whnf)))
      refine litE t1 ?_
      ((conv => whnf); repeat ((first | refine Wo ?_ | refine Go1 ?_ | refine Go2 ?_ | refine Go3 ?_ | refine Go4 ?_ | refine ⟨_, rfl, ?_⟩ | refine Mi rfl ?_); (conv => whnf)))
      refine ⟨by decide, by rw [hz]; omega, _, g0, ?_⟩
      ((conv => whnf); repeat ((first | refine Wo ?_ | refine Go1 ?_ | refine Go2 ?_ | refine Go3 ?_ | refine Go4 ?_ | refine ⟨_, rfl, ?_⟩ | refine Mi rfl ?_); (conv => whnf)))
      refine litE t2 ?_
      ((conv => whnf); repeat ((first | refine Wo ?_ | refine Go1 ?_ | refine Go2 ?_ | refine Go3 ?_ | refine Go4 ?_ | refine ⟨_, rfl, ?_⟩ | refine Mi rfl ?_); (conv => whnf)))
      refine litE t3 ?_
      ((conv => whnf); repeat ((first | refine Wo ?_ | refine Go1 ?_ | refine Go2 ?_ | refine Go3 ?_ | refine Go4 ?_ | refine ⟨_, rfl, ?_⟩ | refine Mi rfl ?_); (conv => whnf)))
      refine litE t4 ?_
      ((conv => whnf); repeat ((first | refine Wo ?_ | refine Go1 ?_ | refine Go2 ?_ | refine Go3 ?_ | refine Go4 ?_ | refine ⟨_, rfl, ?_⟩ | refine Mi rfl ?_); (conv => whnf)))
      exact TeA
theorem rmay_runs (l : List UInt8) (hl : l.length ≤ 1000000) : Runs Tryz.prog 106 [sD (BA l)] (bD (mayL l)) := by
  cases h0 : l == [48] with
  | true =>
    have t0 := (eq_0 l).trans h0
    rw [show mayL l = true by unfold mayL; rw [h0, Bool.true_or]]
    refine Runs.wp Go.Proofs.YtjldjhlccedkbaaGreatDoor.Am.hT Go.Proofs.YtjldjhlccedkbaaGreatDoor.Am.hm Tryz.func106 rfl (by decide) ⟨[], [0, 2, 3, 4, 6, 13, 31, 36, 48], 49⟩ ?_; ((conv => whnf); repeat ((first | refine Wo ?_ | refine Go1 ?_ | refine Go2 ?_ | refine Go3 ?_ | refine Go4 ?_ | refine ⟨_, rfl, ?_⟩ | refine Mi rfl ?_); (conv => whnf)))
    refine litE t0 ?_
    ((conv => whnf); repeat ((first | refine Wo ?_ | refine Go1 ?_ | refine Go2 ?_ | refine Go3 ?_ | refine Go4 ?_ | refine ⟨_, rfl, ?_⟩ | refine Mi rfl ?_); (conv => whnf)))
    exact TeA
  | false =>
    cases l with
    | nil =>
      have t0 := (eq_0 []).trans h0
      have t1 : (!((BA []).toList == ByteArray.toList ⟨#[]⟩)) = false := by rw [emp_l]; rfl
      rw [show mayL [] = false from rfl]
      refine Runs.wp Go.Proofs.YtjldjhlccedkbaaGreatDoor.Am.hT Go.Proofs.YtjldjhlccedkbaaGreatDoor.Am.hm Tryz.func106 rfl (by decide) ⟨[], [0, 2, 3, 4, 6, 13, 31, 36, 48], 49⟩ ?_; ((conv => whnf); repeat ((first | refine Wo ?_ | refine Go1 ?_ | refine Go2 ?_ | refine Go3 ?_ | refine Go4 ?_ | refine ⟨_, rfl, ?_⟩ | refine Mi rfl ?_); (conv => whnf)))
      refine litE t0 ?_
      ((conv => whnf); repeat ((first | refine Wo ?_ | refine Go1 ?_ | refine Go2 ?_ | refine Go3 ?_ | refine Go4 ?_ | refine ⟨_, rfl, ?_⟩ | refine Mi rfl ?_); (conv => whnf)))
      refine litE t1 ?_
      ((conv => whnf); repeat ((first | refine Wo ?_ | refine Go1 ?_ | refine Go2 ?_ | refine Go3 ?_ | refine Go4 ?_ | refine ⟨_, rfl, ?_⟩ | refine Mi rfl ?_); (conv => whnf)))
      exact TeA
    | cons c r =>
      cases h45 : c == 45 with
      | true => exact rmay_neg c r h0 h45 hl
      | false => exact rmay_pos c r h0 h45 hl
theorem nmay_runs {z : Int} (h : Nm.Sm z) : Runs Tryz.prog 106 [sD (numS z)] (bD true) := by
  have := rmay_runs (itoa z) (by have := itoa_len z; have := sm_nl h; omega)
  rwa [may_num z h] at this
theorem nsign_runs {z : Int} (h : Nm.Sm z) : Runs Tryz.prog 122 [sD (numS z)] (iD (sgn z)) := by
  have m := nmay_runs h
  have lo := nlow_runs z
  have t0 : ((numS z).toList == ByteArray.toList ⟨#[48]⟩) = decide (z = 0) := by
    rw [numS_list, show ByteArray.toList ⟨#[48]⟩ = ([48] : List UInt8) from ba_list [48], Bool.eq_iff_iff, beq_iff_eq, decide_eq_true_iff]
    exact itoa_zero_iff z
  unfold sgn
  by_cases hn : z < 0
  · rw [if_pos hn]
    rw [decide_eq_true hn] at lo
    rw [decide_eq_false (show ¬ z = 0 by omega)] at t0
    refine Runs.wp Go.Proofs.YtjldjhlccedkbaaGreatDoor.Am.hT Go.Proofs.YtjldjhlccedkbaaGreatDoor.Am.hm Tryz.func122 rfl (by decide) ⟨[], [0, 2, 9, 11], 12⟩ ?_; ((conv => whnf); repeat ((first | refine Wo ?_ | refine Go1 ?_ | refine Go2 ?_ | refine Go3 ?_ | refine Go4 ?_ | refine ⟨_, rfl, ?_⟩ | refine Mi rfl ?_); (conv => whnf)))
    ((conv => whnf); (refine HfA m ?_); ((conv => whnf); repeat ((first | refine Wo ?_ | refine Go1 ?_ | refine Go2 ?_ | refine Go3 ?_ | refine Go4 ?_ | refine ⟨_, rfl, ?_⟩ | refine Mi rfl ?_); (conv => whnf))))
    refine litE t0 ?_
    ((conv => whnf); repeat ((first | refine Wo ?_ | refine Go1 ?_ | refine Go2 ?_ | refine Go3 ?_ | refine Go4 ?_ | refine ⟨_, rfl, ?_⟩ | refine Mi rfl ?_); (conv => whnf)))
    ((conv => whnf); (refine HfA lo ?_); ((conv => whnf); repeat ((first | refine Wo ?_ | refine Go1 ?_ | refine Go2 ?_ | refine Go3 ?_ | refine Go4 ?_ | refine ⟨_, rfl, ?_⟩ | refine Mi rfl ?_); (conv => whnf))))
    exact TeA
  · rw [if_neg hn]
    rw [decide_eq_false hn] at lo
    by_cases h0 : z = 0
    · rw [if_pos h0]
      rw [decide_eq_true h0] at t0
      refine Runs.wp Go.Proofs.YtjldjhlccedkbaaGreatDoor.Am.hT Go.Proofs.YtjldjhlccedkbaaGreatDoor.Am.hm Tryz.func122 rfl (by decide) ⟨[], [0, 2, 9, 11], 12⟩ ?_; ((conv => whnf); repeat ((first | refine Wo ?_ | refine Go1 ?_ | refine Go2 ?_ | refine Go3 ?_ | refine Go4 ?_ | refine ⟨_, rfl, ?_⟩ | refine Mi rfl ?_); (conv => whnf)))
      ((conv => whnf); (refine HfA m ?_); ((conv => whnf); repeat ((first | refine Wo ?_ | refine Go1 ?_ | refine Go2 ?_ | refine Go3 ?_ | refine Go4 ?_ | refine ⟨_, rfl, ?_⟩ | refine Mi rfl ?_); (conv => whnf))))
      refine litE t0 ?_
      ((conv => whnf); repeat ((first | refine Wo ?_ | refine Go1 ?_ | refine Go2 ?_ | refine Go3 ?_ | refine Go4 ?_ | refine ⟨_, rfl, ?_⟩ | refine Mi rfl ?_); (conv => whnf)))
      exact TeA
    · rw [if_neg h0]
      rw [decide_eq_false h0] at t0
      refine Runs.wp Go.Proofs.YtjldjhlccedkbaaGreatDoor.Am.hT Go.Proofs.YtjldjhlccedkbaaGreatDoor.Am.hm Tryz.func122 rfl (by decide) ⟨[], [0, 2, 9, 11], 12⟩ ?_; ((conv => whnf); repeat ((first | refine Wo ?_ | refine Go1 ?_ | refine Go2 ?_ | refine Go3 ?_ | refine Go4 ?_ | refine ⟨_, rfl, ?_⟩ | refine Mi rfl ?_); (conv => whnf)))
      ((conv => whnf); (refine HfA m ?_); ((conv => whnf); repeat ((first | refine Wo ?_ | refine Go1 ?_ | refine Go2 ?_ | refine Go3 ?_ | refine Go4 ?_ | refine ⟨_, rfl, ?_⟩ | refine Mi rfl ?_); (conv => whnf))))
      refine litE t0 ?_
      ((conv => whnf); repeat ((first | refine Wo ?_ | refine Go1 ?_ | refine Go2 ?_ | refine Go3 ?_ | refine Go4 ?_ | refine ⟨_, rfl, ?_⟩ | refine Mi rfl ?_); (conv => whnf)))
      ((conv => whnf); (refine HfA lo ?_); ((conv => whnf); repeat ((first | refine Wo ?_ | refine Go1 ?_ | refine Go2 ?_ | refine Go3 ?_ | refine Go4 ?_ | refine ⟨_, rfl, ?_⟩ | refine Mi rfl ?_); (conv => whnf))))
      exact TeA
theorem nbnd_runs (x : Int) : Runs Tryz.prog 144 [sD (numS x)] (sD (numS (Nm.bnd x))) := by
  have sx := nsize_runs x
  have lo := nlow_runs x
  have hz : ((BA (decDigits x.natAbs)).size : Int) = ((decDigits x.natAbs).length : Int) := by rw [ba_size]
  unfold Nm.bnd
  by_cases h : x.natAbs < 10 ^ 100
  · have := len_le _ _ (by decide) h
    have t1 : decide (((BA (decDigits x.natAbs)).size : Int) > 100) = false := by rw [decide_eq_false_iff_not, hz]; omega
    rw [if_pos h]
    refine Runs.wp Go.Proofs.YtjldjhlccedkbaaGreatDoor.Am.hT Go.Proofs.YtjldjhlccedkbaaGreatDoor.Am.hm Tryz.func144 rfl (by decide) ⟨[], [0, 2, 6], 11⟩ ?_; ((conv => whnf); repeat ((first | refine Wo ?_ | refine Go1 ?_ | refine Go2 ?_ | refine Go3 ?_ | refine Go4 ?_ | refine ⟨_, rfl, ?_⟩ | refine Mi rfl ?_); (conv => whnf)))
    ((conv => whnf); (refine HfA sx ?_); ((conv => whnf); repeat ((first | refine Wo ?_ | refine Go1 ?_ | refine Go2 ?_ | refine Go3 ?_ | refine Go4 ?_ | refine ⟨_, rfl, ?_⟩ | refine Mi rfl ?_); (conv => whnf))))
    refine litE t1 ?_
    ((conv => whnf); repeat ((first | refine Wo ?_ | refine Go1 ?_ | refine Go2 ?_ | refine Go3 ?_ | refine Go4 ?_ | refine ⟨_, rfl, ?_⟩ | refine Mi rfl ?_); (conv => whnf)))
    exact TeA
  · have : ¬ (decDigits x.natAbs).length ≤ 100 := fun e => h (lt_of_len _ _ e)
    have t1 : decide (((BA (decDigits x.natAbs)).size : Int) > 100) = true := by rw [decide_eq_true_iff, hz]; omega
    have g := nsigned_runs 1 (decide (x < 0)) (by rw [decDigits_one (by decide)]; decide)
    rw [show BA (decDigits 1) = ⟨#[49]⟩ by rw [decDigits_one (by decide)]; rfl, show sv 1 (decide (x < 0)) = (if x < 0 then -1 else 1) by
      unfold sv
      by_cases h : x < 0
      · rw [decide_eq_true h, if_pos rfl, if_pos h]; rfl
      · rw [decide_eq_false h, if_neg (by decide), if_neg h]; rfl] at g
    rw [if_neg h]
    refine Runs.wp Go.Proofs.YtjldjhlccedkbaaGreatDoor.Am.hT Go.Proofs.YtjldjhlccedkbaaGreatDoor.Am.hm Tryz.func144 rfl (by decide) ⟨[], [0, 2, 6], 11⟩ ?_; ((conv => whnf); repeat ((first | refine Wo ?_ | refine Go1 ?_ | refine Go2 ?_ | refine Go3 ?_ | refine Go4 ?_ | refine ⟨_, rfl, ?_⟩ | refine Mi rfl ?_); (conv => whnf)))
    ((conv => whnf); (refine HfA sx ?_); ((conv => whnf); repeat ((first | refine Wo ?_ | refine Go1 ?_ | refine Go2 ?_ | refine Go3 ?_ | refine Go4 ?_ | refine ⟨_, rfl, ?_⟩ | refine Mi rfl ?_); (conv => whnf))))
    refine litE t1 ?_
    ((conv => whnf); repeat ((first | refine Wo ?_ | refine Go1 ?_ | refine Go2 ?_ | refine Go3 ?_ | refine Go4 ?_ | refine ⟨_, rfl, ?_⟩ | refine Mi rfl ?_); (conv => whnf)))
    ((conv => whnf); (refine HfA lo ?_); ((conv => whnf); repeat ((first | refine Wo ?_ | refine Go1 ?_ | refine Go2 ?_ | refine Go3 ?_ | refine Go4 ?_ | refine ⟨_, rfl, ?_⟩ | refine Mi rfl ?_); (conv => whnf))))
    ((conv => whnf); (refine HfA g ?_); ((conv => whnf); repeat ((first | refine Wo ?_ | refine Go1 ?_ | refine Go2 ?_ | refine Go3 ?_ | refine Go4 ?_ | refine ⟨_, rfl, ?_⟩ | refine Mi rfl ?_); (conv => whnf))))
    exact TeA
theorem ncmp_runs {x y : Int} (hx : Nm.Sm x) (hy : Nm.Sm y) : Runs Tryz.prog 107 [sD (numS x), sD (numS y)] (iD (sgn (x - y))) := by
  have m1 := nmay_runs hx
  have m2 := nmay_runs hy
  have l1 := sm_nl hx
  have l2 := sm_nl hy
  have tu := nturned_runs y (by omega)
  have su := nsum_runs x (-y) (by omega) (by rw [nl_neg]; omega)
  have bo := nbnd_runs (x + -y)
  have sg := nsign_runs (bnd_sm (x + -y))
  rw [bnd_sgn, show x + -y = x - y by omega] at sg
  rw [show x + -y = x - y by omega] at su bo
  refine Runs.wp Go.Proofs.YtjldjhlccedkbaaGreatDoor.Am.hT Go.Proofs.YtjldjhlccedkbaaGreatDoor.Am.hm Tryz.func107 rfl (by decide) ⟨[], [0, 1, 4, 12], 19⟩ ?_; ((conv => whnf); repeat ((first | refine Wo ?_ | refine Go1 ?_ | refine Go2 ?_ | refine Go3 ?_ | refine Go4 ?_ | refine ⟨_, rfl, ?_⟩ | refine Mi rfl ?_); (conv => whnf)))
  ((conv => whnf); (refine HfA m1 ?_); ((conv => whnf); repeat ((first | refine Wo ?_ | refine Go1 ?_ | refine Go2 ?_ | refine Go3 ?_ | refine Go4 ?_ | refine ⟨_, rfl, ?_⟩ | refine Mi rfl ?_); (conv => whnf))))
  ((conv => whnf); (refine HfA m2 ?_); ((conv => whnf); repeat ((first | refine Wo ?_ | refine Go1 ?_ | refine Go2 ?_ | refine Go3 ?_ | refine Go4 ?_ | refine ⟨_, rfl, ?_⟩ | refine Mi rfl ?_); (conv => whnf))))
  ((conv => whnf); (refine HfA tu ?_); ((conv => whnf); repeat ((first | refine Wo ?_ | refine Go1 ?_ | refine Go2 ?_ | refine Go3 ?_ | refine Go4 ?_ | refine ⟨_, rfl, ?_⟩ | refine Mi rfl ?_); (conv => whnf))))
  ((conv => whnf); (refine HfA su ?_); ((conv => whnf); repeat ((first | refine Wo ?_ | refine Go1 ?_ | refine Go2 ?_ | refine Go3 ?_ | refine Go4 ?_ | refine ⟨_, rfl, ?_⟩ | refine Mi rfl ?_); (conv => whnf))))
  ((conv => whnf); (refine HfA bo ?_); ((conv => whnf); repeat ((first | refine Wo ?_ | refine Go1 ?_ | refine Go2 ?_ | refine Go3 ?_ | refine Go4 ?_ | refine ⟨_, rfl, ?_⟩ | refine Mi rfl ?_); (conv => whnf))))
  ((conv => whnf); (refine HfA sg ?_); ((conv => whnf); repeat ((first | refine Wo ?_ | refine Go1 ?_ | refine Go2 ?_ | refine Go3 ?_ | refine Go4 ?_ | refine ⟨_, rfl, ?_⟩ | refine Mi rfl ?_); (conv => whnf))))
  exact TeA
theorem nadd_runs {x y : Int} (hx : Nm.Sm x) (hy : Nm.Sm y) : Runs Tryz.prog 108 [sD (numS x), sD (numS y)] (eD (Nm.told (x + y))) := by
  have m1 := nmay_runs hx
  have m2 := nmay_runs hy
  have l1 := sm_nl hx
  have l2 := sm_nl hy
  have su := nsum_runs x y (by omega) (by omega)
  have tl := ntold_runs (x + y)
  refine Runs.wp Go.Proofs.YtjldjhlccedkbaaGreatDoor.Am.hT Go.Proofs.YtjldjhlccedkbaaGreatDoor.Am.hm Tryz.func108 rfl (by decide) ⟨[], [0, 1, 4, 5, 13], 20⟩ ?_; ((conv => whnf); repeat ((first | refine Wo ?_ | refine Go1 ?_ | refine Go2 ?_ | refine Go3 ?_ | refine Go4 ?_ | refine ⟨_, rfl, ?_⟩ | refine Mi rfl ?_); (conv => whnf)))
  ((conv => whnf); (refine HfA m1 ?_); ((conv => whnf); repeat ((first | refine Wo ?_ | refine Go1 ?_ | refine Go2 ?_ | refine Go3 ?_ | refine Go4 ?_ | refine ⟨_, rfl, ?_⟩ | refine Mi rfl ?_); (conv => whnf))))
  ((conv => whnf); (refine HfA m2 ?_); ((conv => whnf); repeat ((first | refine Wo ?_ | refine Go1 ?_ | refine Go2 ?_ | refine Go3 ?_ | refine Go4 ?_ | refine ⟨_, rfl, ?_⟩ | refine Mi rfl ?_); (conv => whnf))))
  ((conv => whnf); (refine HfA su ?_); ((conv => whnf); repeat ((first | refine Wo ?_ | refine Go1 ?_ | refine Go2 ?_ | refine Go3 ?_ | refine Go4 ?_ | refine ⟨_, rfl, ?_⟩ | refine Mi rfl ?_); (conv => whnf))))
  ((conv => whnf); (refine HrA tl ?_); ((conv => whnf); repeat ((first | refine Wo ?_ | refine Go1 ?_ | refine Go2 ?_ | refine Go3 ?_ | refine Go4 ?_ | refine ⟨_, rfl, ?_⟩ | refine Mi rfl ?_); (conv => whnf))))
  exact TeA
theorem nsub_runs {x y : Int} (hx : Nm.Sm x) (hy : Nm.Sm y) : Runs Tryz.prog 109 [sD (numS x), sD (numS y)] (eD (Nm.told (x - y))) := by
  have m1 := nmay_runs hx
  have m2 := nmay_runs hy
  have l1 := sm_nl hx
  have l2 := sm_nl hy
  have tu := nturned_runs y (by omega)
  have su := nsum_runs x (-y) (by omega) (by rw [nl_neg]; omega)
  have tl := ntold_runs (x - y)
  rw [show x + -y = x - y by omega] at su
  refine Runs.wp Go.Proofs.YtjldjhlccedkbaaGreatDoor.Am.hT Go.Proofs.YtjldjhlccedkbaaGreatDoor.Am.hm Tryz.func109 rfl (by decide) ⟨[], [0, 1, 4, 5, 13], 21⟩ ?_; ((conv => whnf); repeat ((first | refine Wo ?_ | refine Go1 ?_ | refine Go2 ?_ | refine Go3 ?_ | refine Go4 ?_ | refine ⟨_, rfl, ?_⟩ | refine Mi rfl ?_); (conv => whnf)))
  ((conv => whnf); (refine HfA m1 ?_); ((conv => whnf); repeat ((first | refine Wo ?_ | refine Go1 ?_ | refine Go2 ?_ | refine Go3 ?_ | refine Go4 ?_ | refine ⟨_, rfl, ?_⟩ | refine Mi rfl ?_); (conv => whnf))))
  ((conv => whnf); (refine HfA m2 ?_); ((conv => whnf); repeat ((first | refine Wo ?_ | refine Go1 ?_ | refine Go2 ?_ | refine Go3 ?_ | refine Go4 ?_ | refine ⟨_, rfl, ?_⟩ | refine Mi rfl ?_); (conv => whnf))))
  ((conv => whnf); (refine HfA tu ?_); ((conv => whnf); repeat ((first | refine Wo ?_ | refine Go1 ?_ | refine Go2 ?_ | refine Go3 ?_ | refine Go4 ?_ | refine ⟨_, rfl, ?_⟩ | refine Mi rfl ?_); (conv => whnf))))
  ((conv => whnf); (refine HfA su ?_); ((conv => whnf); repeat ((first | refine Wo ?_ | refine Go1 ?_ | refine Go2 ?_ | refine Go3 ?_ | refine Go4 ?_ | refine ⟨_, rfl, ?_⟩ | refine Mi rfl ?_); (conv => whnf))))
  ((conv => whnf); (refine HrA tl ?_); ((conv => whnf); repeat ((first | refine Wo ?_ | refine Go1 ?_ | refine Go2 ?_ | refine Go3 ?_ | refine Go4 ?_ | refine ⟨_, rfl, ?_⟩ | refine Mi rfl ?_); (conv => whnf))))
  exact TeA
theorem nneg_runs {x : Int} (hx : Nm.Sm x) : Runs Tryz.prog 120 [sD (numS x)] (sD (numS (-x))) := by
  have m1 := nmay_runs hx
  have l1 := sm_nl hx
  have tu := nturned_runs x (by omega)
  refine Runs.wp Go.Proofs.YtjldjhlccedkbaaGreatDoor.Am.hT Go.Proofs.YtjldjhlccedkbaaGreatDoor.Am.hm Tryz.func120 rfl (by decide) ⟨[], [0, 2, 5], 8⟩ ?_; ((conv => whnf); repeat ((first | refine Wo ?_ | refine Go1 ?_ | refine Go2 ?_ | refine Go3 ?_ | refine Go4 ?_ | refine ⟨_, rfl, ?_⟩ | refine Mi rfl ?_); (conv => whnf)))
  ((conv => whnf); (refine HfA m1 ?_); ((conv => whnf); repeat ((first | refine Wo ?_ | refine Go1 ?_ | refine Go2 ?_ | refine Go3 ?_ | refine Go4 ?_ | refine ⟨_, rfl, ?_⟩ | refine Mi rfl ?_); (conv => whnf))))
  ((conv => whnf); (refine HfA tu ?_); ((conv => whnf); repeat ((first | refine Wo ?_ | refine Go1 ?_ | refine Go2 ?_ | refine Go3 ?_ | refine Go4 ?_ | refine ⟨_, rfl, ?_⟩ | refine Mi rfl ?_); (conv => whnf))))
  exact TeA
end Go.Proofs.YtjldjhlccedkbaaGreatDoor.Am
end
section
/- The document's numbers: products. -/
namespace Go.Proofs.YtjldjhlccedkbaaGreatDoor.Am
open Go Go.Lib Go.RowKit Go.Proofs.YtjldjhlccedkbaaGreatDoor.Nm Go.Proofs.YtjldjhlccedkbaaGreatDoorW.PrintWords Go.Proofs.YtjldjhlccedkbaaGreatDoor
set_option linter.unusedVariables false
set_option linter.unusedSimpArgs false
set_option maxRecDepth 100000
set_option maxHeartbeats 8000000
theorem rsv_mul (X Y : Nat) (a b : Bool) : sv X a * sv Y b = sv (X * Y) (a != b) := by
  cases a <;> cases b <;> simp [sv, Int.neg_mul, Int.mul_neg, Int.neg_neg]
theorem nprod_runs (x y : Int) (hx : nl x ≤ 10000) (hy : nl y ≤ 10000) : Runs Tryz.prog 148 [sD (numS x), sD (numS y)] (sD (numS (x * y))) := by
  have lx := nlow_runs x
  have ly := nlow_runs y
  have sx := nsize_runs x
  have sy := nsize_runs y
  have e : x * y = sv (x.natAbs * y.natAbs) (decide (x < 0) != decide (y < 0)) := by
    have := rsv_mul x.natAbs y.natAbs (decide (x < 0)) (decide (y < 0))
    rwa [sv_abs, sv_abs] at this
  rw [e]
  unfold nl at hx hy
  have hm : (decDigits (x.natAbs * y.natAbs)).length ≤ 20000 := by
    have h0 := List.length_pos_iff.mpr (decDigits_ne x.natAbs)
    have := dec_mul (x := x.natAbs) (y := y.natAbs) (k := (decDigits x.natAbs).length) (l := (decDigits y.natAbs).length) (by omega) (lt_of_len _ _ (Nat.le_refl _)) (lt_of_len _ _ (Nat.le_refl _))
    omega
  have hL := dig_decDigits y.natAbs
  have hv := val_decDigits y.natAbs
  have g := nsigned_runs (x.natAbs * y.natAbs) (decide (x < 0) != decide (y < 0)) (by omega)
  generalize decide (x < 0) = a at *
  generalize decide (y < 0) = b at *
  generalize x.natAbs = X at *
  generalize hYY : y.natAbs = Y at *
  generalize decDigits Y = L at *
  have hz : ((BA L).size : Int) = (L.length : Int) := by rw [ba_size]
  have hmono : ∀ P : Nat, P ≤ X * Y → (decDigits P).length ≤ 20000 := fun P hP => by have := dec_mono hP; omega
  refine Runs.wp Go.Proofs.YtjldjhlccedkbaaGreatDoor.Am.hT Go.Proofs.YtjldjhlccedkbaaGreatDoor.Am.hm Tryz.func148 rfl (by decide) ⟨[], [0, 1, 4, 5, 6, 7, 8, 14, 26], 40⟩ ?_; ((conv => whnf); repeat ((first | refine Wo ?_ | refine Go1 ?_ | refine Go2 ?_ | refine Go3 ?_ | refine Go4 ?_ | refine ⟨_, rfl, ?_⟩ | refine Mi rfl ?_); (conv => whnf)))
  ((conv => whnf); (refine HfA sy ?_); ((conv => whnf); repeat ((first | refine Wo ?_ | refine Go1 ?_ | refine Go2 ?_ | refine Go3 ?_ | refine Go4 ?_ | refine ⟨_, rfl, ?_⟩ | refine Mi rfl ?_); (conv => whnf))))
  refine loop_ind (fun k (i : Nat) => i + k = L.length + 1 ∧ i ≤ L.length) (fun i => { t := pin [(0, .d (sD (numS x))), (1, .d (sD (numS y))), (5, .d (sD (BA (decDigits (X * val (L.take i)))))), (6, .d (sD (BA L))), (7, .d (iD i))], N := 40, h := hpin [], n := 0, lo := 0 }) (fun i h => by omega) ?_ (L.length + 1) 0 ⟨by omega, by omega⟩ _ ?_
  · rintro k i R ih ⟨hk, hi⟩
    by_cases hlt : i < L.length
    · have t1 : decide ((i : Int) < ((BA L).size : Int)) = true := by rw [decide_eq_true_iff, hz]; omega
      have gi := ba_ix (l := L) (i := i) (j := (i : Int)) hlt (by simp)
      have hc := hL _ (List.getElem_mem hlt)
      have hd := fig_i _ hc
      have htv := take_val L i hlt
      rw [List.getD_eq_getElem?_getD, List.getElem?_eq_getElem hlt, Option.getD_some] at htv
      have hle := val_take_le L hL (i + 1) hlt
      rw [hv] at hle
      have hle2 : X * val (L.take (i + 1)) ≤ X * Y := Nat.mul_le_mul_left _ hle
      generalize hP : X * val (L.take i) = P at *
      generalize hD : L[i].toNat - 48 = D at *
      have hfin : X * val (L.take (i + 1)) = 10 * P + X * D := by rw [htv, Nat.mul_add, ← hP, Nat.mul_left_comm]
      rw [hfin] at hle2
      have hb := rbare_runs (decDigits P ++ [48]) (dig_app (dig_decDigits P) (fun c hc => by rw [List.mem_singleton.1 hc]; decide)) (by have := hmono P (by omega); simp; omega)
      rw [val_snoc, val_decDigits, show (48 : UInt8).toNat - 48 = 0 from rfl, Nat.add_zero] at hb
      have hp : ∀ n, n < D → Runs Tryz.prog 166 [sD (BA (decDigits (10 * P + X * n))), sD (BA (decDigits X))] (sD (BA (decDigits (10 * P + X * (n + 1))))) := fun n hn => by
        have h1 : X * n + X ≤ X * D := by rw [← Nat.mul_succ]; exact Nat.mul_le_mul_left _ hn
        have := nplus_runs (10 * P + X * n) X (by have := hmono (10 * P + X * n) (by omega); omega) (by have := hmono X (by omega); omega)
        rwa [Nat.add_assoc, ← Nat.mul_succ] at this
      ((conv => whnf); repeat ((first | refine Wo ?_ | refine Go1 ?_ | refine Go2 ?_ | refine Go3 ?_ | refine Go4 ?_ | refine ⟨_, rfl, ?_⟩ | refine Mi rfl ?_); (conv => whnf)))
      refine litE t1 ?_
      ((conv => whnf); repeat ((first | refine Wo ?_ | refine Go1 ?_ | refine Go2 ?_ | refine Go3 ?_ | refine Go4 ?_ | refine ⟨_, rfl, ?_⟩ | refine Mi rfl ?_); (conv => whnf)))
      refine ⟨cat_ok (decDigits P) [48] (by have := hmono P (by omega); simp; omega), ?_⟩
      ((conv => whnf); repeat ((first | refine Wo ?_ | refine Go1 ?_ | refine Go2 ?_ | refine Go3 ?_ | refine Go4 ?_ | refine ⟨_, rfl, ?_⟩ | refine Mi rfl ?_); (conv => whnf)))
      (refine Hc.flat hb ?_ rfl ?_; (focus ((repeat ((conv => arg 1; whnf); first | exact Tels.nil | apply Tels.cons | apply Tel.aggs | apply Tel.tups | exact Tel.refl _ | exact Tel.nil1 _ | exact Tel.cap _ _ _ _ | exact telS (ba_append (decDigits P) [48]))); done)))
      ((conv => whnf); repeat ((first | refine Wo ?_ | refine Go1 ?_ | refine Go2 ?_ | refine Go3 ?_ | refine Go4 ?_ | refine ⟨_, rfl, ?_⟩ | refine Mi rfl ?_); (conv => whnf)))
      refine loop_ind (fun k (n : Nat) => n + k = D + 1 ∧ n ≤ D) (fun n => { t := pin [(0, .d (sD (numS x))), (1, .d (sD (numS y))), (5, .d (sD (BA (decDigits (10 * P + X * n))))), (6, .d (sD (BA L))), (7, .d (iD i)), (8, .d (iD n))], N := 40, h := hpin [], n := 0, lo := 0 }) (fun i h => by omega) ?_ (D + 1) 0 ⟨by omega, by omega⟩ _ ?_
      · rintro k2 n R2 ih2 ⟨hk2, hn⟩
        by_cases hlt2 : n < D
        · have t2 : decide ((n : Int) < IntKind.i64.wrap (IntKind.u8.wrap (((L[i].toNat : Nat) : Int) - 48))) = true := by rw [hd, decide_eq_true_iff]; omega
          have hp2 := hp n hlt2
          ((conv => whnf); repeat ((first | refine Wo ?_ | refine Go1 ?_ | refine Go2 ?_ | refine Go3 ?_ | refine Go4 ?_ | refine ⟨_, rfl, ?_⟩ | refine Mi rfl ?_); (conv => whnf)))
          refine ⟨by omega, by rw [hz]; omega, _, gi, ?_⟩
          ((conv => whnf); repeat ((first | refine Wo ?_ | refine Go1 ?_ | refine Go2 ?_ | refine Go3 ?_ | refine Go4 ?_ | refine ⟨_, rfl, ?_⟩ | refine Mi rfl ?_); (conv => whnf)))
          refine litE t2 ?_
          ((conv => whnf); repeat ((first | refine Wo ?_ | refine Go1 ?_ | refine Go2 ?_ | refine Go3 ?_ | refine Go4 ?_ | refine ⟨_, rfl, ?_⟩ | refine Mi rfl ?_); (conv => whnf)))
          ((conv => whnf); (refine HfA sx ?_); ((conv => whnf); repeat ((first | refine Wo ?_ | refine Go1 ?_ | refine Go2 ?_ | refine Go3 ?_ | refine Go4 ?_ | refine ⟨_, rfl, ?_⟩ | refine Mi rfl ?_); (conv => whnf))))
          ((conv => whnf); (refine HfA hp2 ?_); ((conv => whnf); repeat ((first | refine Wo ?_ | refine Go1 ?_ | refine Go2 ?_ | refine Go3 ?_ | refine Go4 ?_ | refine ⟨_, rfl, ?_⟩ | refine Mi rfl ?_); (conv => whnf))))
          refine ih2 (n + 1) _ ⟨by omega, by omega⟩ ?_
          (refine Wk.to _ _ ?_ ?_ <;> (repeat' first | exact trivial | rfl | (refine And.intro ?_ ?_)))
          exact inE (i64n (n := n + 1) (by omega) (by omega))
        · have t2 : decide ((n : Int) < IntKind.i64.wrap (IntKind.u8.wrap (((L[i].toNat : Nat) : Int) - 48))) = false := by rw [hd, decide_eq_false_iff_not]; omega
          ((conv => whnf); repeat ((first | refine Wo ?_ | refine Go1 ?_ | refine Go2 ?_ | refine Go3 ?_ | refine Go4 ?_ | refine ⟨_, rfl, ?_⟩ | refine Mi rfl ?_); (conv => whnf)))
          refine ⟨by omega, by rw [hz]; omega, _, gi, ?_⟩
          ((conv => whnf); repeat ((first | refine Wo ?_ | refine Go1 ?_ | refine Go2 ?_ | refine Go3 ?_ | refine Go4 ?_ | refine ⟨_, rfl, ?_⟩ | refine Mi rfl ?_); (conv => whnf)))
          refine litE t2 ?_
          ((conv => whnf); repeat ((first | refine Wo ?_ | refine Go1 ?_ | refine Go2 ?_ | refine Go3 ?_ | refine Go4 ?_ | refine ⟨_, rfl, ?_⟩ | refine Mi rfl ?_); (conv => whnf)))
          refine ih (i + 1) _ ⟨by omega, by omega⟩ ?_
          (refine Wk.to _ _ ?_ ?_ <;> (repeat' first | exact trivial | rfl | (refine And.intro ?_ ?_)))
          · exact stE (by rw [hfin, show n = D by omega])
          · exact inE (i64n (n := i + 1) (by omega) (by omega))
      · (refine Wk.to _ _ ?_ ?_ <;> (repeat' first | exact trivial | rfl | (refine And.intro ?_ ?_)))
    · have t1 : decide ((i : Int) < ((BA L).size : Int)) = false := by rw [decide_eq_false_iff_not, hz]; omega
      rw [List.take_of_length_le (by omega), hv]
      ((conv => whnf); repeat ((first | refine Wo ?_ | refine Go1 ?_ | refine Go2 ?_ | refine Go3 ?_ | refine Go4 ?_ | refine ⟨_, rfl, ?_⟩ | refine Mi rfl ?_); (conv => whnf)))
      refine litE t1 ?_
      ((conv => whnf); repeat ((first | refine Wo ?_ | refine Go1 ?_ | refine Go2 ?_ | refine Go3 ?_ | refine Go4 ?_ | refine ⟨_, rfl, ?_⟩ | refine Mi rfl ?_); (conv => whnf)))
      ((conv => whnf); (refine HfA lx ?_); ((conv => whnf); repeat ((first | refine Wo ?_ | refine Go1 ?_ | refine Go2 ?_ | refine Go3 ?_ | refine Go4 ?_ | refine ⟨_, rfl, ?_⟩ | refine Mi rfl ?_); (conv => whnf))))
      ((conv => whnf); (refine HfA ly ?_); ((conv => whnf); repeat ((first | refine Wo ?_ | refine Go1 ?_ | refine Go2 ?_ | refine Go3 ?_ | refine Go4 ?_ | refine ⟨_, rfl, ?_⟩ | refine Mi rfl ?_); (conv => whnf))))
      ((conv => whnf); (refine HfA g ?_); ((conv => whnf); repeat ((first | refine Wo ?_ | refine Go1 ?_ | refine Go2 ?_ | refine Go3 ?_ | refine Go4 ?_ | refine ⟨_, rfl, ?_⟩ | refine Mi rfl ?_); (conv => whnf))))
      exact TeA
  · (refine Wk.to _ _ ?_ ?_ <;> (repeat' first | exact trivial | rfl | (refine And.intro ?_ ?_)))
    exact stE (by rw [List.take_zero, val_nil, Nat.mul_zero, decDigits_zero])
theorem nmul_runs {x y : Int} (hx : Nm.Sm x) (hy : Nm.Sm y) : Runs Tryz.prog 110 [sD (numS x), sD (numS y)] (eD (Nm.told (x * y))) := by
  have m1 := nmay_runs hx
  have m2 := nmay_runs hy
  have l1 := sm_nl hx
  have l2 := sm_nl hy
  have su := nprod_runs x y (by omega) (by omega)
  have tl := ntold_runs (x * y)
  refine Runs.wp Go.Proofs.YtjldjhlccedkbaaGreatDoor.Am.hT Go.Proofs.YtjldjhlccedkbaaGreatDoor.Am.hm Tryz.func110 rfl (by decide) ⟨[], [0, 1, 4, 5, 13], 20⟩ ?_; ((conv => whnf); repeat ((first | refine Wo ?_ | refine Go1 ?_ | refine Go2 ?_ | refine Go3 ?_ | refine Go4 ?_ | refine ⟨_, rfl, ?_⟩ | refine Mi rfl ?_); (conv => whnf)))
  ((conv => whnf); (refine HfA m1 ?_); ((conv => whnf); repeat ((first | refine Wo ?_ | refine Go1 ?_ | refine Go2 ?_ | refine Go3 ?_ | refine Go4 ?_ | refine ⟨_, rfl, ?_⟩ | refine Mi rfl ?_); (conv => whnf))))
  ((conv => whnf); (refine HfA m2 ?_); ((conv => whnf); repeat ((first | refine Wo ?_ | refine Go1 ?_ | refine Go2 ?_ | refine Go3 ?_ | refine Go4 ?_ | refine ⟨_, rfl, ?_⟩ | refine Mi rfl ?_); (conv => whnf))))
  ((conv => whnf); (refine HfA su ?_); ((conv => whnf); repeat ((first | refine Wo ?_ | refine Go1 ?_ | refine Go2 ?_ | refine Go3 ?_ | refine Go4 ?_ | refine ⟨_, rfl, ?_⟩ | refine Mi rfl ?_); (conv => whnf))))
  ((conv => whnf); (refine HrA tl ?_); ((conv => whnf); repeat ((first | refine Wo ?_ | refine Go1 ?_ | refine Go2 ?_ | refine Go3 ?_ | refine Go4 ?_ | refine ⟨_, rfl, ?_⟩ | refine Mi rfl ?_); (conv => whnf))))
  exact TeA
theorem nof_runs {x : Int} (hx : x = -1 ∨ x = 0 ∨ x = 1) : Runs Tryz.prog 121 [iD x] (sD (numS x)) := by
  rcases hx with rfl | rfl | rfl
  · rw [show numS (-1) = BA [45, 49] by rw [numS_neg (by decide)]; rw [show (-1 : Int).natAbs = 1 from rfl, decDigits_one (by decide)]; rfl]
    refine Runs.wp Go.Proofs.YtjldjhlccedkbaaGreatDoor.Am.hT Go.Proofs.YtjldjhlccedkbaaGreatDoor.Am.hm Tryz.func121 rfl (by decide) ⟨[(4, .first 0 (.first 1 (.first 3 (.first 4 (.first 5 (.alt 2 (.load 6 [7, 8, 9, 10] (.alt 7 (.load 8 [9, 10] (.first 9 (.first 10 .done))) .nil)) (.alt 6 (.alt 2 (.alt 7 (.load 8 [9, 10] (.first 9 (.first 10 .done))) .nil) (.alt 7 (.alt 2 (.load 8 [9, 10] (.first 9 (.first 10 .done))) (.alt 8 (.alt 2 (.first 9 (.first 10 .done)) .nil) .nil)) .nil)) .nil))))))), (7, .first 0 (.first 1 (.first 3 (.first 4 (.first 5 (.alt 2 (.load 6 [7, 8, 9, 10] (.alt 7 (.load 8 [9, 10] (.first 9 (.first 10 .done))) .nil)) (.alt 6 (.alt 2 (.alt 7 (.load 8 [9, 10] (.first 9 (.first 10 .done))) .nil) (.alt 7 (.alt 2 (.load 8 [9, 10] (.first 9 (.first 10 .done))) (.alt 8 (.alt 2 (.first 9 (.first 10 .done)) .nil) .nil)) .nil)) .nil)))))))], [0, 2, 4, 6, 24], 40⟩ ?_; ((conv => whnf); repeat ((first | refine Wo ?_ | refine Go1 ?_ | refine Go2 ?_ | refine Go3 ?_ | refine Go4 ?_ | refine ⟨_, rfl, ?_⟩ | refine Mi rfl ?_); (conv => whnf)))
    refine ⟨[49] , congrArg (fun z : Int => [D.v (.int .u8 z)]) (show IntKind.u8.wrap (IntKind.i64.wrap (48 - -1)) = 49 by decide), ?_⟩
    ((conv => whnf); repeat ((first | refine Wo ?_ | refine Go1 ?_ | refine Go2 ?_ | refine Go3 ?_ | refine Go4 ?_ | refine ⟨_, rfl, ?_⟩ | refine Mi rfl ?_); (conv => whnf)))
    refine ⟨by decide, ?_⟩
    ((conv => whnf); repeat ((first | refine Wo ?_ | refine Go1 ?_ | refine Go2 ?_ | refine Go3 ?_ | refine Go4 ?_ | refine ⟨_, rfl, ?_⟩ | refine Mi rfl ?_); (conv => whnf)))
    exact TeA
  · rw [show numS 0 = BA [48] by rw [numS_pos (by decide)]; rw [show (0 : Int).natAbs = 0 from rfl, decDigits_zero]]
    refine Runs.wp Go.Proofs.YtjldjhlccedkbaaGreatDoor.Am.hT Go.Proofs.YtjldjhlccedkbaaGreatDoor.Am.hm Tryz.func121 rfl (by decide) ⟨[(4, .first 0 (.first 1 (.first 3 (.first 4 (.first 5 (.alt 2 (.load 6 [7, 8, 9, 10] (.alt 7 (.load 8 [9, 10] (.first 9 (.first 10 .done))) .nil)) (.alt 6 (.alt 2 (.alt 7 (.load 8 [9, 10] (.first 9 (.first 10 .done))) .nil) (.alt 7 (.alt 2 (.load 8 [9, 10] (.first 9 (.first 10 .done))) (.alt 8 (.alt 2 (.first 9 (.first 10 .done)) .nil) .nil)) .nil)) .nil))))))), (7, .first 0 (.first 1 (.first 3 (.first 4 (.first 5 (.alt 2 (.load 6 [7, 8, 9, 10] (.alt 7 (.load 8 [9, 10] (.first 9 (.first 10 .done))) .nil)) (.alt 6 (.alt 2 (.alt 7 (.load 8 [9, 10] (.first 9 (.first 10 .done))) .nil) (.alt 7 (.alt 2 (.load 8 [9, 10] (.first 9 (.first 10 .done))) (.alt 8 (.alt 2 (.first 9 (.first 10 .done)) .nil) .nil)) .nil)) .nil)))))))], [0, 2, 4, 6, 24], 40⟩ ?_; ((conv => whnf); repeat ((first | refine Wo ?_ | refine Go1 ?_ | refine Go2 ?_ | refine Go3 ?_ | refine Go4 ?_ | refine ⟨_, rfl, ?_⟩ | refine Mi rfl ?_); (conv => whnf)))
    refine ⟨[48] , congrArg (fun z : Int => [D.v (.int .u8 z)]) (show IntKind.u8.wrap (IntKind.i64.wrap (48 + 0)) = 48 by decide), ?_⟩
    ((conv => whnf); repeat ((first | refine Wo ?_ | refine Go1 ?_ | refine Go2 ?_ | refine Go3 ?_ | refine Go4 ?_ | refine ⟨_, rfl, ?_⟩ | refine Mi rfl ?_); (conv => whnf)))
    exact TeA
  · rw [show numS 1 = BA [49] by rw [numS_pos (by decide)]; rw [show (1 : Int).natAbs = 1 from rfl, decDigits_one (by decide)]; rfl]
    refine Runs.wp Go.Proofs.YtjldjhlccedkbaaGreatDoor.Am.hT Go.Proofs.YtjldjhlccedkbaaGreatDoor.Am.hm Tryz.func121 rfl (by decide) ⟨[(4, .first 0 (.first 1 (.first 3 (.first 4 (.first 5 (.alt 2 (.load 6 [7, 8, 9, 10] (.alt 7 (.load 8 [9, 10] (.first 9 (.first 10 .done))) .nil)) (.alt 6 (.alt 2 (.alt 7 (.load 8 [9, 10] (.first 9 (.first 10 .done))) .nil) (.alt 7 (.alt 2 (.load 8 [9, 10] (.first 9 (.first 10 .done))) (.alt 8 (.alt 2 (.first 9 (.first 10 .done)) .nil) .nil)) .nil)) .nil))))))), (7, .first 0 (.first 1 (.first 3 (.first 4 (.first 5 (.alt 2 (.load 6 [7, 8, 9, 10] (.alt 7 (.load 8 [9, 10] (.first 9 (.first 10 .done))) .nil)) (.alt 6 (.alt 2 (.alt 7 (.load 8 [9, 10] (.first 9 (.first 10 .done))) .nil) (.alt 7 (.alt 2 (.load 8 [9, 10] (.first 9 (.first 10 .done))) (.alt 8 (.alt 2 (.first 9 (.first 10 .done)) .nil) .nil)) .nil)) .nil)))))))], [0, 2, 4, 6, 24], 40⟩ ?_; ((conv => whnf); repeat ((first | refine Wo ?_ | refine Go1 ?_ | refine Go2 ?_ | refine Go3 ?_ | refine Go4 ?_ | refine ⟨_, rfl, ?_⟩ | refine Mi rfl ?_); (conv => whnf)))
    refine ⟨[49] , congrArg (fun z : Int => [D.v (.int .u8 z)]) (show IntKind.u8.wrap (IntKind.i64.wrap (48 + 1)) = 49 by decide), ?_⟩
    ((conv => whnf); repeat ((first | refine Wo ?_ | refine Go1 ?_ | refine Go2 ?_ | refine Go3 ?_ | refine Go4 ?_ | refine ⟨_, rfl, ?_⟩ | refine Mi rfl ?_); (conv => whnf)))
    exact TeA
theorem nparts_runs (A B : Nat) (hB : 0 < B) (hA1 : (decDigits A).length ≤ 10000) (hB1 : (decDigits B).length ≤ 10000) : Runs Tryz.prog 170 [sD (BA (decDigits A)), sD (BA (decDigits B))] (.tup [sD (BA (decDigits (A / B))), sD (BA (decDigits (A % B)))]) := by
  have hL := dig_decDigits A
  have hv := val_decDigits A
  generalize decDigits A = L at *
  have hz : ((BA L).size : Int) = (L.length : Int) := by rw [ba_size]
  have hmono : ∀ P : Nat, P ≤ 10 * B + 10 → (decDigits P).length ≤ 20000 := fun P hP => by
    have h1 : (decDigits (B + 1)).length ≤ 10001 := dec_add hB1 (by rw [decDigits_one (by decide)]; decide)
    have h2 := dec_add h1 h1
    have h3 := dec_add h2 h2
    have h4 := dec_add h3 h3
    have h5 := dec_add h4 h4
    have h6 := dec_mono (show P ≤ B + 1 + (B + 1) + (B + 1 + (B + 1)) + (B + 1 + (B + 1) + (B + 1 + (B + 1))) + (B + 1 + (B + 1) + (B + 1 + (B + 1)) + (B + 1 + (B + 1) + (B + 1 + (B + 1)))) by omega)
    omega
  refine Runs.wp Go.Proofs.YtjldjhlccedkbaaGreatDoor.Am.hT Go.Proofs.YtjldjhlccedkbaaGreatDoor.Am.hm Tryz.func170 rfl (by decide) ⟨[], [0, 1, 4, 5, 6, 7, 8, 9, 13, 27], 43⟩ ?_; ((conv => whnf); repeat ((first | refine Wo ?_ | refine Go1 ?_ | refine Go2 ?_ | refine Go3 ?_ | refine Go4 ?_ | refine ⟨_, rfl, ?_⟩ | refine Mi rfl ?_); (conv => whnf)))
  refine loop_ind (fun k (x : List UInt8) => x.length + k = L.length + 1 ∧ x.length ≤ L.length ∧ Dig x ∧ val x = val (L.take x.length) / B) (fun x => { t := pin [(0, .d (sD (BA L))), (1, .d (sD (BA (decDigits B)))), (6, .d (sD (BA x))), (7, .d (sD (BA (decDigits (val (L.take x.length) % B))))), (8, .d (iD x.length))], N := 43, h := hpin [], n := 0, lo := 0 }) (fun i h => by omega) ?_ (L.length + 1) [] ⟨by simp, by simp, fun c h => (by cases h), by simp [val]⟩ _ ?_
  · rintro k x R ih ⟨hk, hi, hxd, hxv⟩
    by_cases hlt : x.length < L.length
    · have t1 : decide ((x.length : Int) < ((BA L).size : Int)) = true := by rw [decide_eq_true_iff, hz]; omega
      have hc := hL _ (List.getElem_mem hlt)
      have htv := take_val L x.length hlt
      have hone := ba_one L x.length hlt
      rw [List.getD_eq_getElem?_getD, List.getElem?_eq_getElem hlt, Option.getD_some] at htv hone
      generalize L[x.length] = c at *
      have hps := parts_step (val (L.take x.length)) (c.toNat - 48) B hB (by omega)
      have hmod : val (L.take x.length) % B < B := Nat.mod_lt _ hB
      rw [← htv] at hps
      generalize hT : val (L.take x.length) % B = T at *
      generalize hV : 10 * T + (c.toNat - 48) = V at *
      have hVB : V ≤ 10 * B + 10 := by omega
      have hb := rbare_runs (decDigits T ++ [c]) (dig_app (dig_decDigits T) (fun d hd => by rw [List.mem_singleton.1 hd]; exact hc)) (by have := hmono T (by omega); simp; omega)
      rw [val_snoc, val_decDigits, hV] at hb
      have ew : IntKind.i64.wrap ((x.length : Int) + 1) = ((x.length + 1 : Nat) : Int) := i64n (n := x.length + 1) (by omega) (by omega)
      have hx2 : (BA L).extract (x.length : Int).toNat (IntKind.i64.wrap ((x.length : Int) + 1)).toNat = BA [c] := by rw [ew, Int.toNat_natCast, Int.toNat_natCast]; exact hone
      have hdm := Nat.div_add_mod V B
      have hml : V % B < B := Nat.mod_lt _ hB
      obtain ⟨hq9, hp2, hp3⟩ := hps
      generalize V / B = Q at *
      generalize V % B = W at *
      have hm : ∀ n, n < Q → Runs Tryz.prog 168 [sD (BA (decDigits (V - B * n))), sD (BA (decDigits B))] (sD (BA (decDigits (V - B * (n + 1))))) := fun n hn => by
        have h1 : B * n + B ≤ V := by
          have := Nat.mul_le_mul_left B hn
          rw [Nat.mul_succ] at this
          omega
        have := nminus_runs (V - B * n) B (by have := hmono (V - B * n) (by omega); omega) (by omega) (by omega)
        rwa [Nat.sub_sub, ← Nat.mul_succ] at this
      have hmo : ∀ n, n ≤ Q → Runs Tryz.prog 167 [sD (BA (decDigits (V - B * n))), sD (BA (decDigits B))] (iD (cmpN (V - B * n) B)) := fun n hn => rmore_runs _ _ (by have := hmono (V - B * n) (by omega); omega)
      ((conv => whnf); repeat ((first | refine Wo ?_ | refine Go1 ?_ | refine Go2 ?_ | refine Go3 ?_ | refine Go4 ?_ | refine ⟨_, rfl, ?_⟩ | refine Mi rfl ?_); (conv => whnf)))
      refine litE t1 ?_
      ((conv => whnf); repeat ((first | refine Wo ?_ | refine Go1 ?_ | refine Go2 ?_ | refine Go3 ?_ | refine Go4 ?_ | refine ⟨_, rfl, ?_⟩ | refine Mi rfl ?_); (conv => whnf)))
      refine ⟨by omega, by rw [ew]; omega, by rw [ew, hz]; omega, ?_⟩
      ((conv => whnf); repeat ((first | refine Wo ?_ | refine Go1 ?_ | refine Go2 ?_ | refine Go3 ?_ | refine Go4 ?_ | refine ⟨_, rfl, ?_⟩ | refine Mi rfl ?_); (conv => whnf)))
      refine ⟨by rw [hx2]; exact cat_ok (decDigits T) [c] (by have := hmono T (by omega); simp; omega), ?_⟩
      ((conv => whnf); repeat ((first | refine Wo ?_ | refine Go1 ?_ | refine Go2 ?_ | refine Go3 ?_ | refine Go4 ?_ | refine ⟨_, rfl, ?_⟩ | refine Mi rfl ?_); (conv => whnf)))
      (refine Hc.flat hb ?_ rfl ?_; (focus ((repeat ((conv => arg 1; whnf); first | exact Tels.nil | apply Tels.cons | apply Tel.aggs | apply Tel.tups | exact Tel.refl _ | exact Tel.nil1 _ | exact Tel.cap _ _ _ _ | exact telS (by rw [hx2]; exact ba_append (decDigits T) [c]))); done)))
      ((conv => whnf); repeat ((first | refine Wo ?_ | refine Go1 ?_ | refine Go2 ?_ | refine Go3 ?_ | refine Go4 ?_ | refine ⟨_, rfl, ?_⟩ | refine Mi rfl ?_); (conv => whnf)))
      refine loop_ind (fun k (n : Nat) => n + k = Q + 1 ∧ n ≤ Q) (fun n => { t := pin [(0, .d (sD (BA L))), (1, .d (sD (BA (decDigits B)))), (6, .d (sD (BA x))), (7, .d (sD (BA (decDigits (V - B * n))))), (8, .d (iD x.length)), (9, .d (iD n))], N := 43, h := hpin [], n := 0, lo := 0 }) (fun i h => by omega) ?_ (Q + 1) 0 ⟨by omega, by omega⟩ _ ?_
      · rintro k2 n R2 ih2 ⟨hk2, hn⟩
        have hmo2 := hmo n hn
        have ge := cmpN_ge (V - B * n) B
        by_cases hlt2 : n < Q
        · have h1 : B * n + B ≤ V := by
            have := Nat.mul_le_mul_left B hlt2
            rw [Nat.mul_succ] at this
            omega
          rw [decide_eq_true (show B ≤ V - B * n by omega)] at ge
          have hm2 := hm n hlt2
          ((conv => whnf); repeat ((first | refine Wo ?_ | refine Go1 ?_ | refine Go2 ?_ | refine Go3 ?_ | refine Go4 ?_ | refine ⟨_, rfl, ?_⟩ | refine Mi rfl ?_); (conv => whnf)))
          ((conv => whnf); (refine HfA hmo2 ?_); ((conv => whnf); repeat ((first | refine Wo ?_ | refine Go1 ?_ | refine Go2 ?_ | refine Go3 ?_ | refine Go4 ?_ | refine ⟨_, rfl, ?_⟩ | refine Mi rfl ?_); (conv => whnf))))
          refine litE ge ?_
          ((conv => whnf); repeat ((first | refine Wo ?_ | refine Go1 ?_ | refine Go2 ?_ | refine Go3 ?_ | refine Go4 ?_ | refine ⟨_, rfl, ?_⟩ | refine Mi rfl ?_); (conv => whnf)))
          ((conv => whnf); (refine HfA hm2 ?_); ((conv => whnf); repeat ((first | refine Wo ?_ | refine Go1 ?_ | refine Go2 ?_ | refine Go3 ?_ | refine Go4 ?_ | refine ⟨_, rfl, ?_⟩ | refine Mi rfl ?_); (conv => whnf))))
          refine ih2 (n + 1) _ ⟨by omega, by omega⟩ ?_
          (refine Wk.to _ _ ?_ ?_ <;> (repeat' first | exact trivial | rfl | (refine And.intro ?_ ?_)))
          exact inE (i64n (n := n + 1) (by omega) (by omega))
        · have hnq : n = Q := by omega
          have h1 : V - B * n = W := by rw [hnq]; omega
          rw [decide_eq_false (show ¬ B ≤ V - B * n by omega)] at ge
          have ef : [D.v (.int .u8 (IntKind.u8.wrap (IntKind.i64.wrap (48 + (n : Int)))))] = [UInt8.ofNat (48 + n)].map (fun c : UInt8 => D.v (.int .u8 c.toNat)) := by
            rw [List.map_singleton, i64n (n := 48 + n) (by omega) (by omega), u8w (by omega) (by omega), dig_ofNat _ (by omega)]
          ((conv => whnf); repeat ((first | refine Wo ?_ | refine Go1 ?_ | refine Go2 ?_ | refine Go3 ?_ | refine Go4 ?_ | refine ⟨_, rfl, ?_⟩ | refine Mi rfl ?_); (conv => whnf)))
          ((conv => whnf); (refine HfA hmo2 ?_); ((conv => whnf); repeat ((first | refine Wo ?_ | refine Go1 ?_ | refine Go2 ?_ | refine Go3 ?_ | refine Go4 ?_ | refine ⟨_, rfl, ?_⟩ | refine Mi rfl ?_); (conv => whnf))))
          refine litE ge ?_
          ((conv => whnf); repeat ((first | refine Wo ?_ | refine Go1 ?_ | refine Go2 ?_ | refine Go3 ?_ | refine Go4 ?_ | refine ⟨_, rfl, ?_⟩ | refine Mi rfl ?_); (conv => whnf)))
          refine ⟨_, ef, ?_⟩
          ((conv => whnf); repeat ((first | refine Wo ?_ | refine Go1 ?_ | refine Go2 ?_ | refine Go3 ?_ | refine Go4 ?_ | refine ⟨_, rfl, ?_⟩ | refine Mi rfl ?_); (conv => whnf)))
          refine ⟨cat_ok x [UInt8.ofNat (48 + n)] (by simp; omega), ?_⟩
          ((conv => whnf); repeat ((first | refine Wo ?_ | refine Go1 ?_ | refine Go2 ?_ | refine Go3 ?_ | refine Go4 ?_ | refine ⟨_, rfl, ?_⟩ | refine Mi rfl ?_); (conv => whnf)))
          refine ih (x ++ [UInt8.ofNat (48 + n)]) _ ⟨by simp; omega, by simp; omega, dig_app hxd (fun d hd => by rw [List.mem_singleton.1 hd, dig_ofNat _ (by omega)]; omega), ?_⟩ ?_
          · rw [List.length_append, List.length_singleton, val_snoc, dig_ofNat _ (by omega), hxv, hp2, hnq]
            omega
          · rw [List.length_append, List.length_singleton, hp3, ← h1]
            (refine Wk.pin [] _ _ ?_ ?_ rfl rfl (by decide) rfl rfl <;> (repeat' first | exact trivial | rfl | (refine And.intro ?_ ?_)))
            exact inE ew
      · (refine Wk.to _ _ ?_ ?_ <;> (repeat' first | exact trivial | rfl | (refine And.intro ?_ ?_)))
    · have t1 : decide ((x.length : Int) < ((BA L).size : Int)) = false := by rw [decide_eq_false_iff_not, hz]; omega
      have hr := rbare_runs x hxd (by omega)
      rw [List.take_of_length_le (by omega), hv] at hxv
      rw [hxv] at hr
      rw [List.take_of_length_le (by omega), hv]
      ((conv => whnf); repeat ((first | refine Wo ?_ | refine Go1 ?_ | refine Go2 ?_ | refine Go3 ?_ | refine Go4 ?_ | refine ⟨_, rfl, ?_⟩ | refine Mi rfl ?_); (conv => whnf)))
      refine litE t1 ?_
      ((conv => whnf); repeat ((first | refine Wo ?_ | refine Go1 ?_ | refine Go2 ?_ | refine Go3 ?_ | refine Go4 ?_ | refine ⟨_, rfl, ?_⟩ | refine Mi rfl ?_); (conv => whnf)))
      ((conv => whnf); (refine HfA hr ?_); ((conv => whnf); repeat ((first | refine Wo ?_ | refine Go1 ?_ | refine Go2 ?_ | refine Go3 ?_ | refine Go4 ?_ | refine ⟨_, rfl, ?_⟩ | refine Mi rfl ?_); (conv => whnf))))
      exact TeA
  · (refine Wk.to _ _ ?_ ?_ <;> (repeat' first | exact trivial | rfl | (refine And.intro ?_ ?_)))
    exact stE (by rw [List.length_nil, List.take_zero, val_nil, Nat.zero_mod, decDigits_zero])
end Go.Proofs.YtjldjhlccedkbaaGreatDoor.Am
end
