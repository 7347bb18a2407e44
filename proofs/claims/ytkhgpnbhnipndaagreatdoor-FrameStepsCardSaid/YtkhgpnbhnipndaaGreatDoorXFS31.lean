/- What the law leans on, part 32: declarations of several texts of ours, in their order. -/
import Derived.Test.YtkhgpnbhnipndaaGreatDoorXFS30
import Derived.Test.YtkhgpnbhnipndaaGreatDoorXFS28
import Derived.Test.YtkhgpnbhnipndaaGreatDoorXFS29
section
/- The document's arrays with signs. -/
namespace Go.Proofs.YtkhgpnbhnipndaaGreatDoor.Am
open Go Go.Lib Go.RowKit Go.Proofs.YtkhgpnbhnipndaaGreatDoor.Nm Go.Proofs.YtkhgpnbhnipndaaGreatDoorW.PrintWords Go.Proofs.YtkhgpnbhnipndaaGreatDoor Go.Proofs.YtkhgpnbhnipndaaGreatDoor.Sh
set_option linter.unusedVariables false
set_option linter.unusedSimpArgs false
set_option maxRecDepth 100000
set_option maxHeartbeats 8000000
theorem rmayB_runs (b : ByteArray) (hb : b.size ≤ 1000000) : Runs Tryz.prog 87 [sD b] (bD (mayB b)) := by
  have h := rmay_runs b.data.toList (by rw [Array.length_toList]; exact hb)
  rwa [← ba_of b] at h
theorem rmayV_runs (s : List Int) (e : List ByteArray) (hs : s.length ≤ 1000000) (hl : e.length ≤ 1000000) (hb : ∀ b ∈ e, b.size ≤ 1000000) : Runs Tryz.prog 48 [vD s e none none] (bD (good s e)) := by
  have z := rsz_runs s hs
  unfold good
  generalize sizeS s = q at *
  obtain ⟨n, bad⟩ := q
  dsimp only at *
  by_cases h0 : bad = 0
  · have t1 : (!(bad == 0)) = false := by rw [h0]; rfl
    rw [decide_eq_true h0, Bool.true_and]
    by_cases h1 : (e.length : Int) = n
    · have t2 : (!(n == (e.length : Int))) = false := by rw [h1]; simp
      rw [decide_eq_true h1, Bool.true_and]
      refine Runs.wp Am.hT Am.hm Tryz.func48 rfl (by decide) ⟨[], [0, 1, 2, 3, 4, 5, 20, 25, 34], 35⟩ ?_; ((conv => whnf); repeat (refine Gq ?_; (conv => whnf)))
      ((conv => whnf); (refine HrA z ?_); ((conv => whnf); repeat (refine Gq ?_; (conv => whnf))))
      refine litE t1 ?_
      ((conv => whnf); repeat (refine Gq ?_; (conv => whnf)))
      refine litE t2 ?_
      ((conv => whnf); repeat (refine Gq ?_; (conv => whnf)))
      refine loop_ind (fun k (i : Nat) => i + k = e.length + 1 ∧ i ≤ e.length ∧ e.all mayB = (e.drop i).all mayB) (fun i => { t := pin [(1, .pt 0 0), (5, .d (iD i))], N := 35, h := hpin [some (.st 47 [.d (rI s none), .d (rS e none)])], n := 1, lo := 0 }) (fun i h => by omega) ?_ (e.length + 1) 0 ⟨by omega, by omega, rfl⟩ _ ?_
      · rintro k i R ih ⟨hk, hi, ha⟩
        by_cases hlt : i < e.length
        · have t3 : decide ((i : Int) < (e.length : Int)) = true := by rw [decide_eq_true_iff]; omega
          have gi : (e.map sD)[(i : Int).toNat * 1]? = some (sD e[i]) := ixm (j := i) (List.getElem?_eq_getElem hlt) (by simp)
          have m := rmayB_runs e[i] (hb _ (List.getElem_mem hlt))
          rw [List.drop_eq_getElem_cons hlt, List.all_cons] at ha
          cases hm : mayB e[i] with
          | true =>
            rw [hm] at m ha
            rw [Bool.true_and] at ha
            ((conv => whnf); repeat (refine Gq ?_; (conv => whnf)))
            refine litE t3 ?_
            ((conv => whnf); repeat (refine Gq ?_; (conv => whnf)))
            refine ⟨by omega, by omega, ?_⟩
            ((conv => whnf); repeat (refine Gq ?_; (conv => whnf)))
            refine ⟨_, gi, ?_⟩
            ((conv => whnf); repeat (refine Gq ?_; (conv => whnf)))
            ((conv => whnf); (refine HfA m ?_); ((conv => whnf); repeat (refine Gq ?_; (conv => whnf))))
            refine ih (i + 1) _ ⟨by omega, by omega, ha⟩ ?_
            (refine Wk.to _ _ ?_ ?_ <;> (repeat' first | exact trivial | rfl | (refine And.intro ?_ ?_)))
            exact inE (i64n (n := i + 1) (by omega) (by omega))
          | false =>
            rw [hm] at m ha
            rw [ha, Bool.false_and]
            ((conv => whnf); repeat (refine Gq ?_; (conv => whnf)))
            refine litE t3 ?_
            ((conv => whnf); repeat (refine Gq ?_; (conv => whnf)))
            refine ⟨by omega, by omega, ?_⟩
            ((conv => whnf); repeat (refine Gq ?_; (conv => whnf)))
            refine ⟨_, gi, ?_⟩
            ((conv => whnf); repeat (refine Gq ?_; (conv => whnf)))
            ((conv => whnf); (refine HfA m ?_); ((conv => whnf); repeat (refine Gq ?_; (conv => whnf))))
            exact TeA
        · have t3 : decide ((i : Int) < (e.length : Int)) = false := by rw [decide_eq_false_iff_not]; omega
          rw [ha, List.drop_eq_nil_of_le (by omega)]
          ((conv => whnf); repeat (refine Gq ?_; (conv => whnf)))
          refine litE t3 ?_
          ((conv => whnf); repeat (refine Gq ?_; (conv => whnf)))
          exact TeA
      · (refine Wk.to _ _ ?_ ?_ <;> (repeat' first | exact trivial | rfl | (refine And.intro ?_ ?_)))
    · have t2 : (!(n == (e.length : Int))) = true := by simp; omega
      rw [decide_eq_false h1, Bool.false_and]
      refine Runs.wp Am.hT Am.hm Tryz.func48 rfl (by decide) ⟨[], [0, 1, 2, 3, 4, 5, 20, 25, 34], 35⟩ ?_; ((conv => whnf); repeat (refine Gq ?_; (conv => whnf)))
      ((conv => whnf); (refine HrA z ?_); ((conv => whnf); repeat (refine Gq ?_; (conv => whnf))))
      refine litE t1 ?_
      ((conv => whnf); repeat (refine Gq ?_; (conv => whnf)))
      refine litE t2 ?_
      ((conv => whnf); repeat (refine Gq ?_; (conv => whnf)))
      exact TeA
  · have t1 : (!(bad == 0)) = true := by simpa using h0
    rw [decide_eq_false h0, Bool.false_and, Bool.false_and]
    refine Runs.wp Am.hT Am.hm Tryz.func48 rfl (by decide) ⟨[], [0, 1, 2, 3, 4, 5, 20, 25, 34], 35⟩ ?_; ((conv => whnf); repeat (refine Gq ?_; (conv => whnf)))
    ((conv => whnf); (refine HrA z ?_); ((conv => whnf); repeat (refine Gq ?_; (conv => whnf))))
    refine litE t1 ?_
    ((conv => whnf); repeat (refine Gq ?_; (conv => whnf)))
    exact TeA
section
variable {op : ByteArray} {s s1 s2 : List Int} {e e1 e2 : List ByteArray}
theorem nq {d : UInt8} {b : Bool} (h : (op.toList == ByteArray.toList ⟨#[d]⟩) = b) : (!(op.toList == ByteArray.toList ⟨#[d]⟩)) = !b := by rw [h]
end
end Go.Proofs.YtkhgpnbhnipndaaGreatDoor.Am
end
section
/- The document's codes: whether one may be. -/
namespace Go.Proofs.YtkhgpnbhnipndaaGreatDoor.Am
open Go Go.Lib Go.RowKit Go.Proofs.YtkhgpnbhnipndaaGreatDoor.Nm Go.Proofs.YtkhgpnbhnipndaaGreatDoorW.PrintWords Go.Proofs.YtkhgpnbhnipndaaGreatDoor Go.Proofs.YtkhgpnbhnipndaaGreatDoor.Sh
set_option linter.unusedVariables false
set_option linter.unusedSimpArgs false
set_option maxRecDepth 100000
set_option maxHeartbeats 8000000
theorem op_ne {S op : ByteArray} (h : sgB S op = false) {c : UInt8} (hc : S.data.toList.contains c = true) : (op.toList == ByteArray.toList ⟨#[c]⟩) = false := by
  rw [beq_eq_false_iff_ne, show ByteArray.toList ⟨#[c]⟩ = [c] from ba_list [c]]
  intro e
  have he : op.toList = op.data.toList := by
    have := ba_list op.data.toList
    rwa [← ba_of op] at this
  unfold sgB at h
  rw [← he, e] at h
  dsimp only at h
  rw [hc] at h
  cases h
theorem rwh_43 : Runs Tryz.prog 91 [sD ⟨#[43]⟩] (bD true) := by
  refine Runs.wp Am.hT Am.hm Tryz.func91 rfl (by decide) ⟨[], [0, 2, 3, 4], 14⟩ ?_; ((conv => whnf); repeat (refine Gq ?_; (conv => whnf)))
  refine litE (cq (c := 43) (d := 43) (b := true) (by decide)) ?_
  ((conv => whnf); repeat (refine Gq ?_; (conv => whnf)))
  exact TeA
theorem rwh_45 : Runs Tryz.prog 91 [sD ⟨#[45]⟩] (bD true) := by
  refine Runs.wp Am.hT Am.hm Tryz.func91 rfl (by decide) ⟨[], [0, 2, 3, 4], 14⟩ ?_; ((conv => whnf); repeat (refine Gq ?_; (conv => whnf)))
  refine litE (cq (c := 45) (d := 43) (b := false) (by decide)) ?_
  ((conv => whnf); repeat (refine Gq ?_; (conv => whnf)))
  refine litE (cq (c := 45) (d := 45) (b := true) (by decide)) ?_
  ((conv => whnf); repeat (refine Gq ?_; (conv => whnf)))
  exact TeA
theorem rwh_42 : Runs Tryz.prog 91 [sD ⟨#[42]⟩] (bD true) := by
  refine Runs.wp Am.hT Am.hm Tryz.func91 rfl (by decide) ⟨[], [0, 2, 3, 4], 14⟩ ?_; ((conv => whnf); repeat (refine Gq ?_; (conv => whnf)))
  refine litE (cq (c := 42) (d := 43) (b := false) (by decide)) ?_
  ((conv => whnf); repeat (refine Gq ?_; (conv => whnf)))
  refine litE (cq (c := 42) (d := 45) (b := false) (by decide)) ?_
  ((conv => whnf); repeat (refine Gq ?_; (conv => whnf)))
  refine litE (cq (c := 42) (d := 42) (b := true) (by decide)) ?_
  ((conv => whnf); repeat (refine Gq ?_; (conv => whnf)))
  exact TeA
theorem rwh_38 : Runs Tryz.prog 91 [sD ⟨#[38]⟩] (bD true) := by
  refine Runs.wp Am.hT Am.hm Tryz.func91 rfl (by decide) ⟨[], [0, 2, 3, 4], 14⟩ ?_; ((conv => whnf); repeat (refine Gq ?_; (conv => whnf)))
  refine litE (cq (c := 38) (d := 43) (b := false) (by decide)) ?_
  ((conv => whnf); repeat (refine Gq ?_; (conv => whnf)))
  refine litE (cq (c := 38) (d := 45) (b := false) (by decide)) ?_
  ((conv => whnf); repeat (refine Gq ?_; (conv => whnf)))
  refine litE (cq (c := 38) (d := 42) (b := false) (by decide)) ?_
  ((conv => whnf); repeat (refine Gq ?_; (conv => whnf)))
  refine litE (cq (c := 38) (d := 38) (b := true) (by decide)) ?_
  ((conv => whnf); repeat (refine Gq ?_; (conv => whnf)))
  exact TeA
theorem rwh_124 : Runs Tryz.prog 91 [sD ⟨#[124]⟩] (bD true) := by
  refine Runs.wp Am.hT Am.hm Tryz.func91 rfl (by decide) ⟨[], [0, 2, 3, 4], 14⟩ ?_; ((conv => whnf); repeat (refine Gq ?_; (conv => whnf)))
  refine litE (cq (c := 124) (d := 43) (b := false) (by decide)) ?_
  ((conv => whnf); repeat (refine Gq ?_; (conv => whnf)))
  refine litE (cq (c := 124) (d := 45) (b := false) (by decide)) ?_
  ((conv => whnf); repeat (refine Gq ?_; (conv => whnf)))
  refine litE (cq (c := 124) (d := 42) (b := false) (by decide)) ?_
  ((conv => whnf); repeat (refine Gq ?_; (conv => whnf)))
  refine litE (cq (c := 124) (d := 38) (b := false) (by decide)) ?_
  ((conv => whnf); repeat (refine Gq ?_; (conv => whnf)))
  refine litE (cq (c := 124) (d := 124) (b := true) (by decide)) ?_
  ((conv => whnf); repeat (refine Gq ?_; (conv => whnf)))
  exact TeA
theorem rwh_60 : Runs Tryz.prog 91 [sD ⟨#[60]⟩] (bD true) := by
  refine Runs.wp Am.hT Am.hm Tryz.func91 rfl (by decide) ⟨[], [0, 2, 3, 4], 14⟩ ?_; ((conv => whnf); repeat (refine Gq ?_; (conv => whnf)))
  refine litE (cq (c := 60) (d := 43) (b := false) (by decide)) ?_
  ((conv => whnf); repeat (refine Gq ?_; (conv => whnf)))
  refine litE (cq (c := 60) (d := 45) (b := false) (by decide)) ?_
  ((conv => whnf); repeat (refine Gq ?_; (conv => whnf)))
  refine litE (cq (c := 60) (d := 42) (b := false) (by decide)) ?_
  ((conv => whnf); repeat (refine Gq ?_; (conv => whnf)))
  refine litE (cq (c := 60) (d := 38) (b := false) (by decide)) ?_
  ((conv => whnf); repeat (refine Gq ?_; (conv => whnf)))
  refine litE (cq (c := 60) (d := 124) (b := false) (by decide)) ?_
  ((conv => whnf); repeat (refine Gq ?_; (conv => whnf)))
  refine litE (cq (c := 60) (d := 60) (b := true) (by decide)) ?_
  ((conv => whnf); repeat (refine Gq ?_; (conv => whnf)))
  exact TeA
theorem rwh_62 : Runs Tryz.prog 91 [sD ⟨#[62]⟩] (bD true) := by
  refine Runs.wp Am.hT Am.hm Tryz.func91 rfl (by decide) ⟨[], [0, 2, 3, 4], 14⟩ ?_; ((conv => whnf); repeat (refine Gq ?_; (conv => whnf)))
  refine litE (cq (c := 62) (d := 43) (b := false) (by decide)) ?_
  ((conv => whnf); repeat (refine Gq ?_; (conv => whnf)))
  refine litE (cq (c := 62) (d := 45) (b := false) (by decide)) ?_
  ((conv => whnf); repeat (refine Gq ?_; (conv => whnf)))
  refine litE (cq (c := 62) (d := 42) (b := false) (by decide)) ?_
  ((conv => whnf); repeat (refine Gq ?_; (conv => whnf)))
  refine litE (cq (c := 62) (d := 38) (b := false) (by decide)) ?_
  ((conv => whnf); repeat (refine Gq ?_; (conv => whnf)))
  refine litE (cq (c := 62) (d := 124) (b := false) (by decide)) ?_
  ((conv => whnf); repeat (refine Gq ?_; (conv => whnf)))
  refine litE (cq (c := 62) (d := 60) (b := false) (by decide)) ?_
  ((conv => whnf); repeat (refine Gq ?_; (conv => whnf)))
  refine litE (cq (c := 62) (d := 62) (b := true) (by decide)) ?_
  ((conv => whnf); repeat (refine Gq ?_; (conv => whnf)))
  exact TeA
theorem rwh_61 : Runs Tryz.prog 91 [sD ⟨#[61]⟩] (bD true) := by
  refine Runs.wp Am.hT Am.hm Tryz.func91 rfl (by decide) ⟨[], [0, 2, 3, 4], 14⟩ ?_; ((conv => whnf); repeat (refine Gq ?_; (conv => whnf)))
  refine litE (cq (c := 61) (d := 43) (b := false) (by decide)) ?_
  ((conv => whnf); repeat (refine Gq ?_; (conv => whnf)))
  refine litE (cq (c := 61) (d := 45) (b := false) (by decide)) ?_
  ((conv => whnf); repeat (refine Gq ?_; (conv => whnf)))
  refine litE (cq (c := 61) (d := 42) (b := false) (by decide)) ?_
  ((conv => whnf); repeat (refine Gq ?_; (conv => whnf)))
  refine litE (cq (c := 61) (d := 38) (b := false) (by decide)) ?_
  ((conv => whnf); repeat (refine Gq ?_; (conv => whnf)))
  refine litE (cq (c := 61) (d := 124) (b := false) (by decide)) ?_
  ((conv => whnf); repeat (refine Gq ?_; (conv => whnf)))
  refine litE (cq (c := 61) (d := 60) (b := false) (by decide)) ?_
  ((conv => whnf); repeat (refine Gq ?_; (conv => whnf)))
  refine litE (cq (c := 61) (d := 62) (b := false) (by decide)) ?_
  ((conv => whnf); repeat (refine Gq ?_; (conv => whnf)))
  refine litE (cq (c := 61) (d := 61) (b := true) (by decide)) ?_
  ((conv => whnf); repeat (refine Gq ?_; (conv => whnf)))
  exact TeA
theorem rwh_126 : Runs Tryz.prog 91 [sD ⟨#[126]⟩] (bD true) := by
  refine Runs.wp Am.hT Am.hm Tryz.func91 rfl (by decide) ⟨[], [0, 2, 3, 4], 14⟩ ?_; ((conv => whnf); repeat (refine Gq ?_; (conv => whnf)))
  refine litE (cq (c := 126) (d := 43) (b := false) (by decide)) ?_
  ((conv => whnf); repeat (refine Gq ?_; (conv => whnf)))
  refine litE (cq (c := 126) (d := 45) (b := false) (by decide)) ?_
  ((conv => whnf); repeat (refine Gq ?_; (conv => whnf)))
  refine litE (cq (c := 126) (d := 42) (b := false) (by decide)) ?_
  ((conv => whnf); repeat (refine Gq ?_; (conv => whnf)))
  refine litE (cq (c := 126) (d := 38) (b := false) (by decide)) ?_
  ((conv => whnf); repeat (refine Gq ?_; (conv => whnf)))
  refine litE (cq (c := 126) (d := 124) (b := false) (by decide)) ?_
  ((conv => whnf); repeat (refine Gq ?_; (conv => whnf)))
  refine litE (cq (c := 126) (d := 60) (b := false) (by decide)) ?_
  ((conv => whnf); repeat (refine Gq ?_; (conv => whnf)))
  refine litE (cq (c := 126) (d := 62) (b := false) (by decide)) ?_
  ((conv => whnf); repeat (refine Gq ?_; (conv => whnf)))
  refine litE (cq (c := 126) (d := 61) (b := false) (by decide)) ?_
  ((conv => whnf); repeat (refine Gq ?_; (conv => whnf)))
  refine litE (cq (c := 126) (d := 126) (b := true) (by decide)) ?_
  ((conv => whnf); repeat (refine Gq ?_; (conv => whnf)))
  exact TeA
theorem rwhole_runs (op : ByteArray) : Runs Tryz.prog 91 [sD op] (bD (sgB whS op)) := by
  cases h : sgB whS op with
  | true =>
    unfold sgB at h
    split at h
    · rename_i c hc
      have ho : op = ⟨#[c]⟩ := by rw [ba_of op, hc]
      have hm : c ∈ ([43, 45, 42, 38, 124, 60, 62, 61, 126] : List UInt8) := by simpa [whS] using h
      simp only [List.mem_cons, List.not_mem_nil, or_false] at hm
      rw [ho]
      rcases hm with rfl | rfl | rfl | rfl | rfl | rfl | rfl | rfl | rfl
      · exact rwh_43
      · exact rwh_45
      · exact rwh_42
      · exact rwh_38
      · exact rwh_124
      · exact rwh_60
      · exact rwh_62
      · exact rwh_61
      · exact rwh_126
    · cases h
  | false =>
    refine Runs.wp Am.hT Am.hm Tryz.func91 rfl (by decide) ⟨[], [0, 2, 3, 4], 14⟩ ?_; ((conv => whnf); repeat (refine Gq ?_; (conv => whnf)))
    refine litE (op_ne h (c := 43) (by decide +kernel)) ?_
    ((conv => whnf); repeat (refine Gq ?_; (conv => whnf)))
    refine litE (op_ne h (c := 45) (by decide +kernel)) ?_
    ((conv => whnf); repeat (refine Gq ?_; (conv => whnf)))
    refine litE (op_ne h (c := 42) (by decide +kernel)) ?_
    ((conv => whnf); repeat (refine Gq ?_; (conv => whnf)))
    refine litE (op_ne h (c := 38) (by decide +kernel)) ?_
    ((conv => whnf); repeat (refine Gq ?_; (conv => whnf)))
    refine litE (op_ne h (c := 124) (by decide +kernel)) ?_
    ((conv => whnf); repeat (refine Gq ?_; (conv => whnf)))
    refine litE (op_ne h (c := 60) (by decide +kernel)) ?_
    ((conv => whnf); repeat (refine Gq ?_; (conv => whnf)))
    refine litE (op_ne h (c := 62) (by decide +kernel)) ?_
    ((conv => whnf); repeat (refine Gq ?_; (conv => whnf)))
    refine litE (op_ne h (c := 61) (by decide +kernel)) ?_
    ((conv => whnf); repeat (refine Gq ?_; (conv => whnf)))
    refine litE (op_ne h (c := 126) (by decide +kernel)) ?_
    ((conv => whnf); repeat (refine Gq ?_; (conv => whnf)))
    exact TeA
def mayD (slots d : Int) (o : OpL) : Int := if needsZ slots o < 0 ∨ d < needsZ slots o then -1 else d + (1 - needsZ slots o)
theorem rmay20_runs' (slots d k s : Int) (t : ByteArray) (hd : 0 ≤ d ∧ d ≤ 1000000) (ht : t.size ≤ 1000000) : Runs Tryz.prog 51 [.agg [iD k, iD s, sD t], iD slots, iD d] (iD (mayD slots d ((k, s), t))) := by
  have mb := rmayB_runs t ht
  have wh := rwhole_runs t
  have Z : ∀ v, needsZ slots ((k, s), t) = v → mayD slots d ((k, s), t) = if v < 0 ∨ d < v then -1 else d + (1 - v) := fun v e => by unfold mayD; rw [e]
  by_cases h1 : k = 1
  · subst h1
    by_cases h2 : 0 ≤ s
    · have t2 : decide (s ≥ 0) = true := decide_eq_true h2
      by_cases h3 : s < slots
      · have t3 : decide (s < slots) = true := decide_eq_true h3
        rw [Z 0 (by unfold needsZ; exact if_pos (.inl ⟨rfl, h2, h3⟩)), if_neg (by omega)]
        refine Runs.wp Am.hT Am.hm Tryz.func51 rfl (by decide) ⟨[], [0, 1, 2, 3, 6, 30, 44, 68], 70⟩ ?_; ((conv => whnf); repeat (refine Gq ?_; (conv => whnf)))
        refine litE t2 ?_
        ((conv => whnf); repeat (refine Gq ?_; (conv => whnf)))
        refine litE t3 ?_
        ((conv => whnf); repeat (refine Gq ?_; (conv => whnf)))
        ((conv => whnf); ((repeat ((conv => arg 1; whnf); first | exact Tels.nil | apply Tels.cons | apply Tel.aggs | apply Tel.tups | exact Tel.refl _ | exact Tel.nil1 _ | exact Tel.cap _ _ _ _ | exact telZ (i64w (by omega) (by omega)))); done))
      · have t3 : decide (s < slots) = false := decide_eq_false h3
        rw [Z (-1) (by unfold needsZ; dsimp only; rw [if_neg (by omega), if_neg (by omega), if_neg (by omega)]), if_pos (.inl (by decide))]
        refine Runs.wp Am.hT Am.hm Tryz.func51 rfl (by decide) ⟨[], [0, 1, 2, 3, 6, 30, 44, 68], 70⟩ ?_; ((conv => whnf); repeat (refine Gq ?_; (conv => whnf)))
        refine litE t2 ?_
        ((conv => whnf); repeat (refine Gq ?_; (conv => whnf)))
        refine litE t3 ?_
        ((conv => whnf); repeat (refine Gq ?_; (conv => whnf)))
        exact TeA
    · have t2 : decide (s ≥ 0) = false := decide_eq_false h2
      rw [Z (-1) (by unfold needsZ; dsimp only; rw [if_neg (by omega), if_neg (by omega), if_neg (by omega)]), if_pos (.inl (by decide))]
      refine Runs.wp Am.hT Am.hm Tryz.func51 rfl (by decide) ⟨[], [0, 1, 2, 3, 6, 30, 44, 68], 70⟩ ?_; ((conv => whnf); repeat (refine Gq ?_; (conv => whnf)))
      refine litE t2 ?_
      ((conv => whnf); repeat (refine Gq ?_; (conv => whnf)))
      exact TeA
  · have u1 : (k == 1) = false := by simpa using h1
    by_cases h2 : k = 2
    · subst h2
      cases hm : mayB t with
      | true =>
        rw [hm] at mb
        rw [Z 0 (by unfold needsZ; exact if_pos (.inr ⟨rfl, hm⟩)), if_neg (by omega)]
        refine Runs.wp Am.hT Am.hm Tryz.func51 rfl (by decide) ⟨[], [0, 1, 2, 3, 6, 30, 44, 68], 70⟩ ?_; ((conv => whnf); repeat (refine Gq ?_; (conv => whnf)))
        ((conv => whnf); (refine HfA mb ?_); ((conv => whnf); repeat (refine Gq ?_; (conv => whnf))))
        ((conv => whnf); ((repeat ((conv => arg 1; whnf); first | exact Tels.nil | apply Tels.cons | apply Tel.aggs | apply Tel.tups | exact Tel.refl _ | exact Tel.nil1 _ | exact Tel.cap _ _ _ _ | exact telZ (i64w (by omega) (by omega)))); done))
      | false =>
        rw [hm] at mb
        rw [Z (-1) (by unfold needsZ; dsimp only; rw [hm, if_neg (by simp), if_neg (by omega), if_neg (by omega)]), if_pos (.inl (by decide))]
        refine Runs.wp Am.hT Am.hm Tryz.func51 rfl (by decide) ⟨[], [0, 1, 2, 3, 6, 30, 44, 68], 70⟩ ?_; ((conv => whnf); repeat (refine Gq ?_; (conv => whnf)))
        ((conv => whnf); (refine HfA mb ?_); ((conv => whnf); repeat (refine Gq ?_; (conv => whnf))))
        exact TeA
    · have u2 : (k == 2) = false := by simpa using h2
      by_cases h3 : k = 3
      · subst h3
        cases hw : sgB whS t with
        | true =>
          rw [hw] at wh
          rw [Z 2 (by unfold needsZ; dsimp only; rw [if_neg (by omega), if_pos ⟨rfl, hw⟩])]
          by_cases hd2 : 2 ≤ d
          · have t3 : decide (d ≥ 2) = true := decide_eq_true hd2
            rw [if_neg (by omega)]
            refine Runs.wp Am.hT Am.hm Tryz.func51 rfl (by decide) ⟨[], [0, 1, 2, 3, 6, 30, 44, 68], 70⟩ ?_; ((conv => whnf); repeat (refine Gq ?_; (conv => whnf)))
            ((conv => whnf); (refine HfA wh ?_); ((conv => whnf); repeat (refine Gq ?_; (conv => whnf))))
            refine litE t3 ?_
            ((conv => whnf); repeat (refine Gq ?_; (conv => whnf)))
            ((conv => whnf); ((repeat ((conv => arg 1; whnf); first | exact Tels.nil | apply Tels.cons | apply Tel.aggs | apply Tel.tups | exact Tel.refl _ | exact Tel.nil1 _ | exact Tel.cap _ _ _ _ | exact telZ ((i64w (by omega) (by omega)).trans (by omega)))); done))
          · have t3 : decide (d ≥ 2) = false := decide_eq_false hd2
            rw [if_pos (.inr (by omega))]
            refine Runs.wp Am.hT Am.hm Tryz.func51 rfl (by decide) ⟨[], [0, 1, 2, 3, 6, 30, 44, 68], 70⟩ ?_; ((conv => whnf); repeat (refine Gq ?_; (conv => whnf)))
            ((conv => whnf); (refine HfA wh ?_); ((conv => whnf); repeat (refine Gq ?_; (conv => whnf))))
            refine litE t3 ?_
            ((conv => whnf); repeat (refine Gq ?_; (conv => whnf)))
            exact TeA
        | false =>
          rw [hw] at wh
          rw [Z (-1) (by unfold needsZ; dsimp only; rw [if_neg (by omega), if_neg (by simp [hw]), if_neg (by omega)]), if_pos (.inl (by decide))]
          refine Runs.wp Am.hT Am.hm Tryz.func51 rfl (by decide) ⟨[], [0, 1, 2, 3, 6, 30, 44, 68], 70⟩ ?_; ((conv => whnf); repeat (refine Gq ?_; (conv => whnf)))
          ((conv => whnf); (refine HfA wh ?_); ((conv => whnf); repeat (refine Gq ?_; (conv => whnf))))
          exact TeA
      · have u3 : (k == 3) = false := by simpa using h3
        by_cases h4 : k = 4
        · subst h4
          cases hw : sgB moS t with
          | true =>
            rw [Z 1 (by unfold needsZ; dsimp only; rw [if_neg (by omega), if_neg (by omega), if_pos ⟨rfl, hw⟩])]
            unfold sgB at hw
            split at hw
            · rename_i c hc
              have ho : t = ⟨#[c]⟩ := by rw [ba_of t, hc]
              have hm : c ∈ ([45, 126, 42] : List UInt8) := by simpa [moS] using hw
              simp only [List.mem_cons, List.not_mem_nil, or_false] at hm
              rw [ho]
              by_cases hd2 : 1 ≤ d
              · have t3 : decide (d ≥ 1) = true := decide_eq_true hd2
                rw [if_neg (by omega)]
                rcases hm with rfl | rfl | rfl
                · refine Runs.wp Am.hT Am.hm Tryz.func51 rfl (by decide) ⟨[], [0, 1, 2, 3, 6, 30, 44, 68], 70⟩ ?_; ((conv => whnf); repeat (refine Gq ?_; (conv => whnf)))
                  refine litE (cq (c := 45) (d := 45) (b := true) (by decide)) ?_
                  ((conv => whnf); repeat (refine Gq ?_; (conv => whnf)))
                  refine litE t3 ?_
                  ((conv => whnf); repeat (refine Gq ?_; (conv => whnf)))
                  ((conv => whnf); ((repeat ((conv => arg 1; whnf); first | exact Tels.nil | apply Tels.cons | apply Tel.aggs | apply Tel.tups | exact Tel.refl _ | exact Tel.nil1 _ | exact Tel.cap _ _ _ _ | exact telZ (by omega))); done))
                · refine Runs.wp Am.hT Am.hm Tryz.func51 rfl (by decide) ⟨[], [0, 1, 2, 3, 6, 30, 44, 68], 70⟩ ?_; ((conv => whnf); repeat (refine Gq ?_; (conv => whnf)))
                  refine litE (cq (c := 126) (d := 45) (b := false) (by decide)) ?_
                  ((conv => whnf); repeat (refine Gq ?_; (conv => whnf)))
                  refine litE (cq (c := 126) (d := 126) (b := true) (by decide)) ?_
                  ((conv => whnf); repeat (refine Gq ?_; (conv => whnf)))
                  refine litE t3 ?_
                  ((conv => whnf); repeat (refine Gq ?_; (conv => whnf)))
                  ((conv => whnf); ((repeat ((conv => arg 1; whnf); first | exact Tels.nil | apply Tels.cons | apply Tel.aggs | apply Tel.tups | exact Tel.refl _ | exact Tel.nil1 _ | exact Tel.cap _ _ _ _ | exact telZ (by omega))); done))
                · refine Runs.wp Am.hT Am.hm Tryz.func51 rfl (by decide) ⟨[], [0, 1, 2, 3, 6, 30, 44, 68], 70⟩ ?_; ((conv => whnf); repeat (refine Gq ?_; (conv => whnf)))
                  refine litE (cq (c := 42) (d := 45) (b := false) (by decide)) ?_
                  ((conv => whnf); repeat (refine Gq ?_; (conv => whnf)))
                  refine litE (cq (c := 42) (d := 126) (b := false) (by decide)) ?_
                  ((conv => whnf); repeat (refine Gq ?_; (conv => whnf)))
                  refine litE (cq (c := 42) (d := 42) (b := true) (by decide)) ?_
                  ((conv => whnf); repeat (refine Gq ?_; (conv => whnf)))
                  refine litE t3 ?_
                  ((conv => whnf); repeat (refine Gq ?_; (conv => whnf)))
                  ((conv => whnf); ((repeat ((conv => arg 1; whnf); first | exact Tels.nil | apply Tels.cons | apply Tel.aggs | apply Tel.tups | exact Tel.refl _ | exact Tel.nil1 _ | exact Tel.cap _ _ _ _ | exact telZ (by omega))); done))
              · have t3 : decide (d ≥ 1) = false := decide_eq_false hd2
                rw [if_pos (.inr (by omega))]
                rcases hm with rfl | rfl | rfl
                · refine Runs.wp Am.hT Am.hm Tryz.func51 rfl (by decide) ⟨[], [0, 1, 2, 3, 6, 30, 44, 68], 70⟩ ?_; ((conv => whnf); repeat (refine Gq ?_; (conv => whnf)))
                  refine litE (cq (c := 45) (d := 45) (b := true) (by decide)) ?_
                  ((conv => whnf); repeat (refine Gq ?_; (conv => whnf)))
                  refine litE t3 ?_
                  ((conv => whnf); repeat (refine Gq ?_; (conv => whnf)))
                  exact TeA
                · refine Runs.wp Am.hT Am.hm Tryz.func51 rfl (by decide) ⟨[], [0, 1, 2, 3, 6, 30, 44, 68], 70⟩ ?_; ((conv => whnf); repeat (refine Gq ?_; (conv => whnf)))
                  refine litE (cq (c := 126) (d := 45) (b := false) (by decide)) ?_
                  ((conv => whnf); repeat (refine Gq ?_; (conv => whnf)))
                  refine litE (cq (c := 126) (d := 126) (b := true) (by decide)) ?_
                  ((conv => whnf); repeat (refine Gq ?_; (conv => whnf)))
                  refine litE t3 ?_
                  ((conv => whnf); repeat (refine Gq ?_; (conv => whnf)))
                  exact TeA
                · refine Runs.wp Am.hT Am.hm Tryz.func51 rfl (by decide) ⟨[], [0, 1, 2, 3, 6, 30, 44, 68], 70⟩ ?_; ((conv => whnf); repeat (refine Gq ?_; (conv => whnf)))
                  refine litE (cq (c := 42) (d := 45) (b := false) (by decide)) ?_
                  ((conv => whnf); repeat (refine Gq ?_; (conv => whnf)))
                  refine litE (cq (c := 42) (d := 126) (b := false) (by decide)) ?_
                  ((conv => whnf); repeat (refine Gq ?_; (conv => whnf)))
                  refine litE (cq (c := 42) (d := 42) (b := true) (by decide)) ?_
                  ((conv => whnf); repeat (refine Gq ?_; (conv => whnf)))
                  refine litE t3 ?_
                  ((conv => whnf); repeat (refine Gq ?_; (conv => whnf)))
                  exact TeA
            · cases hw
          | false =>
            rw [Z (-1) (by unfold needsZ; dsimp only; rw [if_neg (by omega), if_neg (by omega), if_neg (by simp [hw])]), if_pos (.inl (by decide))]
            refine Runs.wp Am.hT Am.hm Tryz.func51 rfl (by decide) ⟨[], [0, 1, 2, 3, 6, 30, 44, 68], 70⟩ ?_; ((conv => whnf); repeat (refine Gq ?_; (conv => whnf)))
            refine litE (op_ne hw (c := 45) (by decide +kernel)) ?_
            ((conv => whnf); repeat (refine Gq ?_; (conv => whnf)))
            refine litE (op_ne hw (c := 126) (by decide +kernel)) ?_
            ((conv => whnf); repeat (refine Gq ?_; (conv => whnf)))
            refine litE (op_ne hw (c := 42) (by decide +kernel)) ?_
            ((conv => whnf); repeat (refine Gq ?_; (conv => whnf)))
            exact TeA
        · have u4 : (k == 4) = false := by simpa using h4
          rw [Z (-1) (by unfold needsZ; dsimp only; rw [if_neg (by omega), if_neg (by omega), if_neg (by omega)]), if_pos (.inl (by decide))]
          refine Runs.wp Am.hT Am.hm Tryz.func51 rfl (by decide) ⟨[], [0, 1, 2, 3, 6, 30, 44, 68], 70⟩ ?_; ((conv => whnf); repeat (refine Gq ?_; (conv => whnf)))
          refine litE u1 ?_
          ((conv => whnf); repeat (refine Gq ?_; (conv => whnf)))
          refine litE u2 ?_
          ((conv => whnf); repeat (refine Gq ?_; (conv => whnf)))
          refine litE u3 ?_
          ((conv => whnf); repeat (refine Gq ?_; (conv => whnf)))
          refine litE u4 ?_
          ((conv => whnf); repeat (refine Gq ?_; (conv => whnf)))
          exact TeA
end Go.Proofs.YtkhgpnbhnipndaaGreatDoor.Am
end
section
/- The document's codes: May. -/
namespace Go.Proofs.YtkhgpnbhnipndaaGreatDoor.Am
open Go Go.Lib Go.RowKit Go.Proofs.YtkhgpnbhnipndaaGreatDoor.Nm Go.Proofs.YtkhgpnbhnipndaaGreatDoorW.PrintWords Go.Proofs.YtkhgpnbhnipndaaGreatDoor Go.Proofs.YtkhgpnbhnipndaaGreatDoor.Sh
set_option linter.unusedVariables false
set_option linter.unusedSimpArgs false
set_option maxRecDepth 100000
set_option maxHeartbeats 8000000
theorem rmay20_runs (slots d : Int) (o : OpL) (hd : 0 ≤ d ∧ d ≤ 1000000) (ht : o.2.size ≤ 1000000) : Runs Tryz.prog 51 [oD o, iD slots, iD d] (iD (mayD slots d o)) := rmay20_runs' slots d o.1.1 o.1.2 o.2 hd ht
section
variable {l : List OpL} {f : ByteArray} {slots : Int}
theorem rmay_len (h : l.length < 1 ∨ 200 < l.length) : Runs Tryz.prog 17 [cD l f, iD slots] (bD false) := by
  rcases h with h | h
  · have t1 : decide (((l.length : Nat) : Int) < 1) = true := by rw [decide_eq_true_iff]; omega
    refine Runs.wp Am.hT Am.hm Tryz.func17 rfl (by decide) ⟨[], [0, 1, 2, 4, 5, 6, 16, 39, 48], 61⟩ ?_; ((conv => whnf); repeat (refine Gq ?_; (conv => whnf)))
    refine litE t1 ?_
    ((conv => whnf); repeat (refine Gq ?_; (conv => whnf)))
    exact TeA
  · have t1 : decide (((l.length : Nat) : Int) < 1) = false := by rw [decide_eq_false_iff_not]; omega
    have t2 : decide (((l.length : Nat) : Int) > 200) = true := by rw [decide_eq_true_iff]; omega
    refine Runs.wp Am.hT Am.hm Tryz.func17 rfl (by decide) ⟨[], [0, 1, 2, 4, 5, 6, 16, 39, 48], 61⟩ ?_; ((conv => whnf); repeat (refine Gq ?_; (conv => whnf)))
    refine litE t1 ?_
    ((conv => whnf); repeat (refine Gq ?_; (conv => whnf)))
    refine litE t2 ?_
    ((conv => whnf); repeat (refine Gq ?_; (conv => whnf)))
    exact TeA
theorem rmay_fold (h1 : 1 ≤ l.length) (h2 : l.length ≤ 200) (hf : f ≠ ByteArray.empty) (hs : sgB foS f = false) : Runs Tryz.prog 17 [cD l f, iD slots] (bD false) := by
  have t1 : decide (((l.length : Nat) : Int) < 1) = false := by rw [decide_eq_false_iff_not]; omega
  have t2 : decide (((l.length : Nat) : Int) > 200) = false := by rw [decide_eq_false_iff_not]; omega
  have t3 := emp_s f
  rw [decide_eq_false hf] at t3
  refine Runs.wp Am.hT Am.hm Tryz.func17 rfl (by decide) ⟨[], [0, 1, 2, 4, 5, 6, 16, 39, 48], 61⟩ ?_; ((conv => whnf); repeat (refine Gq ?_; (conv => whnf)))
  refine litE t1 ?_
  ((conv => whnf); repeat (refine Gq ?_; (conv => whnf)))
  refine litE t2 ?_
  ((conv => whnf); repeat (refine Gq ?_; (conv => whnf)))
  refine litE t3 ?_
  ((conv => whnf); repeat (refine Gq ?_; (conv => whnf)))
  refine litE (nq (op_ne hs (c := 43) (by decide +kernel))) ?_
  ((conv => whnf); repeat (refine Gq ?_; (conv => whnf)))
  refine litE (nq (op_ne hs (c := 42) (by decide +kernel))) ?_
  ((conv => whnf); repeat (refine Gq ?_; (conv => whnf)))
  refine litE (nq (op_ne hs (c := 38) (by decide +kernel))) ?_
  ((conv => whnf); repeat (refine Gq ?_; (conv => whnf)))
  refine litE (nq (op_ne hs (c := 124) (by decide +kernel))) ?_
  ((conv => whnf); repeat (refine Gq ?_; (conv => whnf)))
  exact TeA
theorem rmay_e (h1 : 1 ≤ l.length) (h2 : l.length ≤ 200) (hf : f = ByteArray.empty) (hb : ∀ o ∈ l, o.2.size ≤ 1000000) : Runs Tryz.prog 17 [cD l f, iD slots] (bD (decide (deepC slots l 0 = some 1))) := by
  have t1 : decide (((l.length : Nat) : Int) < 1) = false := by rw [decide_eq_false_iff_not]; omega
  have t2 : decide (((l.length : Nat) : Int) > 200) = false := by rw [decide_eq_false_iff_not]; omega
  have t3 := emp_s f
  rw [decide_eq_true hf] at t3
  refine Runs.wp Am.hT Am.hm Tryz.func17 rfl (by decide) ⟨[], [0, 1, 2, 4, 5, 6, 16, 39, 48], 61⟩ ?_; ((conv => whnf); repeat (refine Gq ?_; (conv => whnf)))
  refine litE t1 ?_
  ((conv => whnf); repeat (refine Gq ?_; (conv => whnf)))
  refine litE t2 ?_
  ((conv => whnf); repeat (refine Gq ?_; (conv => whnf)))
  refine litE t3 ?_
  ((conv => whnf); repeat (refine Gq ?_; (conv => whnf)))
  refine loop_ind (fun k (x : Nat × Int) => x.1 + k = l.length + 1 ∧ x.1 ≤ l.length ∧ (x.2 = -1 ∧ deepC slots l 0 = none ∨ 0 ≤ x.2 ∧ x.2 ≤ x.1 ∧ deepC slots l 0 = deepC slots (l.drop x.1) x.2)) (fun x => { t := pin [(1, .d (iD slots)), (2, .pt 0 0), (5, .d (iD x.2)), (6, .d (iD x.1))], N := 61, h := hpin [some (.st 24 [.d (rO l), .d (sD f)])], n := 1, lo := 0 }) (fun x h => by omega) ?_ (l.length + 1) (0, 0) ⟨by simp, by simp, .inr ⟨by simp, by simp, rfl⟩⟩ _ ?_
  · rintro k ⟨i, d⟩ R ih ⟨hk, hi, hc⟩
    dsimp only at *
    by_cases hlt : i < l.length
    · have t8 : decide ((i : Int) < (l.length : Int)) = true := by rw [decide_eq_true_iff]; omega
      rcases hc with ⟨rfl, hn⟩ | ⟨hd, hd2, hn⟩
      · rw [show decide (deepC slots l 0 = some 1) = false by rw [hn]; rfl]
        ((conv => whnf); repeat (refine Gq ?_; (conv => whnf)))
        refine litE t8 ?_
        ((conv => whnf); repeat (refine Gq ?_; (conv => whnf)))
        exact TeA
      · have t9 : decide (d ≥ 0) = true := decide_eq_true hd
        have m := rmay20_runs slots d l[i] ⟨hd, by omega⟩ (hb _ (List.getElem_mem hlt))
        have hx : l[i]? = some l[i] := List.getElem?_eq_getElem hlt
        rw [List.drop_eq_getElem_cons hlt, deepC] at hn
        ((conv => whnf); repeat (refine Gq ?_; (conv => whnf)))
        refine litE t8 ?_
        ((conv => whnf); repeat (refine Gq ?_; (conv => whnf)))
        refine litE t9 ?_
        ((conv => whnf); repeat (refine Gq ?_; (conv => whnf)))
        refine ⟨by omega, by omega, ?_⟩
        ((conv => whnf); repeat (refine Gq ?_; (conv => whnf)))
        refine fm_ld opC_len hx ?_
        ((conv => whnf); repeat (refine Gq ?_; (conv => whnf)))
        ((conv => whnf); (refine HfA m ?_); ((conv => whnf); repeat (refine Gq ?_; (conv => whnf))))
        refine ih (i + 1, mayD slots d l[i]) _ ⟨by dsimp only; omega, by dsimp only; omega, ?_⟩ ?_
        · dsimp only
          unfold mayD
          have hle := needs_le slots l[i]
          by_cases hz : needsZ slots l[i] < 0 ∨ d < needsZ slots l[i]
          · rw [if_pos hz] at hn ⊢
            exact .inl ⟨rfl, hn⟩
          · rw [if_neg hz] at hn ⊢
            exact .inr ⟨by omega, by omega, hn⟩
        · (refine Wk.to _ _ ?_ ?_ <;> (repeat' first | exact trivial | rfl | (refine And.intro ?_ ?_)))
          exact inE (i64n (n := i + 1) (by omega) (by omega))
    · have t8 : decide ((i : Int) < (l.length : Int)) = false := by rw [decide_eq_false_iff_not]; omega
      have te : (d == 1) = decide (deepC slots l 0 = some 1) := by
        rcases hc with ⟨rfl, hn⟩ | ⟨hd, hd2, hn⟩
        · rw [hn]; rfl
        · rw [hn, List.drop_eq_nil_of_le (by omega), deepC, Bool.eq_iff_iff, beq_iff_eq, decide_eq_true_iff]
          exact ⟨fun h => by rw [h], fun h => by injection h⟩
      ((conv => whnf); repeat (refine Gq ?_; (conv => whnf)))
      refine litE t8 ?_
      ((conv => whnf); repeat (refine Gq ?_; (conv => whnf)))
      refine litE te ?_
      ((conv => whnf); repeat (refine Gq ?_; (conv => whnf)))
      exact TeA
  · (refine Wk.to _ _ ?_ ?_ <;> (repeat' first | exact trivial | rfl | (refine And.intro ?_ ?_)))
theorem rmay_43 (h1 : 1 ≤ l.length) (h2 : l.length ≤ 200) (hf : f = ⟨#[43]⟩) (hb : ∀ o ∈ l, o.2.size ≤ 1000000) : Runs Tryz.prog 17 [cD l f, iD slots] (bD (decide (deepC slots l 0 = some 1))) := by
  have t1 : decide (((l.length : Nat) : Int) < 1) = false := by rw [decide_eq_false_iff_not]; omega
  have t2 : decide (((l.length : Nat) : Int) > 200) = false := by rw [decide_eq_false_iff_not]; omega
  have t3 := emp_s f
  rw [decide_eq_false (show ¬ f = ByteArray.empty by rw [hf]; intro h; have := congrArg ByteArray.size h; exact absurd this (by decide))] at t3
  refine Runs.wp Am.hT Am.hm Tryz.func17 rfl (by decide) ⟨[], [0, 1, 2, 4, 5, 6, 16, 39, 48], 61⟩ ?_; ((conv => whnf); repeat (refine Gq ?_; (conv => whnf)))
  refine litE t1 ?_
  ((conv => whnf); repeat (refine Gq ?_; (conv => whnf)))
  refine litE t2 ?_
  ((conv => whnf); repeat (refine Gq ?_; (conv => whnf)))
  refine litE t3 ?_
  ((conv => whnf); repeat (refine Gq ?_; (conv => whnf)))
  refine litE (nq (op := f) (d := 43) (b := true) (hf ▸ cq (by decide))) ?_
  ((conv => whnf); repeat (refine Gq ?_; (conv => whnf)))
  refine loop_ind (fun k (x : Nat × Int) => x.1 + k = l.length + 1 ∧ x.1 ≤ l.length ∧ (x.2 = -1 ∧ deepC slots l 0 = none ∨ 0 ≤ x.2 ∧ x.2 ≤ x.1 ∧ deepC slots l 0 = deepC slots (l.drop x.1) x.2)) (fun x => { t := pin [(1, .d (iD slots)), (2, .pt 0 0), (5, .d (iD x.2)), (6, .d (iD x.1))], N := 61, h := hpin [some (.st 24 [.d (rO l), .d (sD f)])], n := 1, lo := 0 }) (fun x h => by omega) ?_ (l.length + 1) (0, 0) ⟨by simp, by simp, .inr ⟨by simp, by simp, rfl⟩⟩ _ ?_
  · rintro k ⟨i, d⟩ R ih ⟨hk, hi, hc⟩
    dsimp only at *
    by_cases hlt : i < l.length
    · have t8 : decide ((i : Int) < (l.length : Int)) = true := by rw [decide_eq_true_iff]; omega
      rcases hc with ⟨rfl, hn⟩ | ⟨hd, hd2, hn⟩
      · rw [show decide (deepC slots l 0 = some 1) = false by rw [hn]; rfl]
        ((conv => whnf); repeat (refine Gq ?_; (conv => whnf)))
        refine litE t8 ?_
        ((conv => whnf); repeat (refine Gq ?_; (conv => whnf)))
        exact TeA
      · have t9 : decide (d ≥ 0) = true := decide_eq_true hd
        have m := rmay20_runs slots d l[i] ⟨hd, by omega⟩ (hb _ (List.getElem_mem hlt))
        have hx : l[i]? = some l[i] := List.getElem?_eq_getElem hlt
        rw [List.drop_eq_getElem_cons hlt, deepC] at hn
        ((conv => whnf); repeat (refine Gq ?_; (conv => whnf)))
        refine litE t8 ?_
        ((conv => whnf); repeat (refine Gq ?_; (conv => whnf)))
        refine litE t9 ?_
        ((conv => whnf); repeat (refine Gq ?_; (conv => whnf)))
        refine ⟨by omega, by omega, ?_⟩
        ((conv => whnf); repeat (refine Gq ?_; (conv => whnf)))
        refine fm_ld opC_len hx ?_
        ((conv => whnf); repeat (refine Gq ?_; (conv => whnf)))
        ((conv => whnf); (refine HfA m ?_); ((conv => whnf); repeat (refine Gq ?_; (conv => whnf))))
        refine ih (i + 1, mayD slots d l[i]) _ ⟨by dsimp only; omega, by dsimp only; omega, ?_⟩ ?_
        · dsimp only
          unfold mayD
          have hle := needs_le slots l[i]
          by_cases hz : needsZ slots l[i] < 0 ∨ d < needsZ slots l[i]
          · rw [if_pos hz] at hn ⊢
            exact .inl ⟨rfl, hn⟩
          · rw [if_neg hz] at hn ⊢
            exact .inr ⟨by omega, by omega, hn⟩
        · (refine Wk.to _ _ ?_ ?_ <;> (repeat' first | exact trivial | rfl | (refine And.intro ?_ ?_)))
          exact inE (i64n (n := i + 1) (by omega) (by omega))
    · have t8 : decide ((i : Int) < (l.length : Int)) = false := by rw [decide_eq_false_iff_not]; omega
      have te : (d == 1) = decide (deepC slots l 0 = some 1) := by
        rcases hc with ⟨rfl, hn⟩ | ⟨hd, hd2, hn⟩
        · rw [hn]; rfl
        · rw [hn, List.drop_eq_nil_of_le (by omega), deepC, Bool.eq_iff_iff, beq_iff_eq, decide_eq_true_iff]
          exact ⟨fun h => by rw [h], fun h => by injection h⟩
      ((conv => whnf); repeat (refine Gq ?_; (conv => whnf)))
      refine litE t8 ?_
      ((conv => whnf); repeat (refine Gq ?_; (conv => whnf)))
      refine litE te ?_
      ((conv => whnf); repeat (refine Gq ?_; (conv => whnf)))
      exact TeA
  · (refine Wk.to _ _ ?_ ?_ <;> (repeat' first | exact trivial | rfl | (refine And.intro ?_ ?_)))
theorem rmay_42 (h1 : 1 ≤ l.length) (h2 : l.length ≤ 200) (hf : f = ⟨#[42]⟩) (hb : ∀ o ∈ l, o.2.size ≤ 1000000) : Runs Tryz.prog 17 [cD l f, iD slots] (bD (decide (deepC slots l 0 = some 1))) := by
  have t1 : decide (((l.length : Nat) : Int) < 1) = false := by rw [decide_eq_false_iff_not]; omega
  have t2 : decide (((l.length : Nat) : Int) > 200) = false := by rw [decide_eq_false_iff_not]; omega
  have t3 := emp_s f
  rw [decide_eq_false (show ¬ f = ByteArray.empty by rw [hf]; intro h; have := congrArg ByteArray.size h; exact absurd this (by decide))] at t3
  refine Runs.wp Am.hT Am.hm Tryz.func17 rfl (by decide) ⟨[], [0, 1, 2, 4, 5, 6, 16, 39, 48], 61⟩ ?_; ((conv => whnf); repeat (refine Gq ?_; (conv => whnf)))
  refine litE t1 ?_
  ((conv => whnf); repeat (refine Gq ?_; (conv => whnf)))
  refine litE t2 ?_
  ((conv => whnf); repeat (refine Gq ?_; (conv => whnf)))
  refine litE t3 ?_
  ((conv => whnf); repeat (refine Gq ?_; (conv => whnf)))
  refine litE (nq (op := f) (d := 43) (b := false) (hf ▸ cq (by decide))) ?_
  ((conv => whnf); repeat (refine Gq ?_; (conv => whnf)))
  refine litE (nq (op := f) (d := 42) (b := true) (hf ▸ cq (by decide))) ?_
  ((conv => whnf); repeat (refine Gq ?_; (conv => whnf)))
  refine loop_ind (fun k (x : Nat × Int) => x.1 + k = l.length + 1 ∧ x.1 ≤ l.length ∧ (x.2 = -1 ∧ deepC slots l 0 = none ∨ 0 ≤ x.2 ∧ x.2 ≤ x.1 ∧ deepC slots l 0 = deepC slots (l.drop x.1) x.2)) (fun x => { t := pin [(1, .d (iD slots)), (2, .pt 0 0), (5, .d (iD x.2)), (6, .d (iD x.1))], N := 61, h := hpin [some (.st 24 [.d (rO l), .d (sD f)])], n := 1, lo := 0 }) (fun x h => by omega) ?_ (l.length + 1) (0, 0) ⟨by simp, by simp, .inr ⟨by simp, by simp, rfl⟩⟩ _ ?_
  · rintro k ⟨i, d⟩ R ih ⟨hk, hi, hc⟩
    dsimp only at *
    by_cases hlt : i < l.length
    · have t8 : decide ((i : Int) < (l.length : Int)) = true := by rw [decide_eq_true_iff]; omega
      rcases hc with ⟨rfl, hn⟩ | ⟨hd, hd2, hn⟩
      · rw [show decide (deepC slots l 0 = some 1) = false by rw [hn]; rfl]
        ((conv => whnf); repeat (refine Gq ?_; (conv => whnf)))
        refine litE t8 ?_
        ((conv => whnf); repeat (refine Gq ?_; (conv => whnf)))
        exact TeA
      · have t9 : decide (d ≥ 0) = true := decide_eq_true hd
        have m := rmay20_runs slots d l[i] ⟨hd, by omega⟩ (hb _ (List.getElem_mem hlt))
        have hx : l[i]? = some l[i] := List.getElem?_eq_getElem hlt
        rw [List.drop_eq_getElem_cons hlt, deepC] at hn
        ((conv => whnf); repeat (refine Gq ?_; (conv => whnf)))
        refine litE t8 ?_
        ((conv => whnf); repeat (refine Gq ?_; (conv => whnf)))
        refine litE t9 ?_
        ((conv => whnf); repeat (refine Gq ?_; (conv => whnf)))
        refine ⟨by omega, by omega, ?_⟩
        ((conv => whnf); repeat (refine Gq ?_; (conv => whnf)))
        refine fm_ld opC_len hx ?_
        ((conv => whnf); repeat (refine Gq ?_; (conv => whnf)))
        ((conv => whnf); (refine HfA m ?_); ((conv => whnf); repeat (refine Gq ?_; (conv => whnf))))
        refine ih (i + 1, mayD slots d l[i]) _ ⟨by dsimp only; omega, by dsimp only; omega, ?_⟩ ?_
        · dsimp only
          unfold mayD
          have hle := needs_le slots l[i]
          by_cases hz : needsZ slots l[i] < 0 ∨ d < needsZ slots l[i]
          · rw [if_pos hz] at hn ⊢
            exact .inl ⟨rfl, hn⟩
          · rw [if_neg hz] at hn ⊢
            exact .inr ⟨by omega, by omega, hn⟩
        · (refine Wk.to _ _ ?_ ?_ <;> (repeat' first | exact trivial | rfl | (refine And.intro ?_ ?_)))
          exact inE (i64n (n := i + 1) (by omega) (by omega))
    · have t8 : decide ((i : Int) < (l.length : Int)) = false := by rw [decide_eq_false_iff_not]; omega
      have te : (d == 1) = decide (deepC slots l 0 = some 1) := by
        rcases hc with ⟨rfl, hn⟩ | ⟨hd, hd2, hn⟩
        · rw [hn]; rfl
        · rw [hn, List.drop_eq_nil_of_le (by omega), deepC, Bool.eq_iff_iff, beq_iff_eq, decide_eq_true_iff]
          exact ⟨fun h => by rw [h], fun h => by injection h⟩
      ((conv => whnf); repeat (refine Gq ?_; (conv => whnf)))
      refine litE t8 ?_
      ((conv => whnf); repeat (refine Gq ?_; (conv => whnf)))
      refine litE te ?_
      ((conv => whnf); repeat (refine Gq ?_; (conv => whnf)))
      exact TeA
  · (refine Wk.to _ _ ?_ ?_ <;> (repeat' first | exact trivial | rfl | (refine And.intro ?_ ?_)))
theorem rmay_38 (h1 : 1 ≤ l.length) (h2 : l.length ≤ 200) (hf : f = ⟨#[38]⟩) (hb : ∀ o ∈ l, o.2.size ≤ 1000000) : Runs Tryz.prog 17 [cD l f, iD slots] (bD (decide (deepC slots l 0 = some 1))) := by
  have t1 : decide (((l.length : Nat) : Int) < 1) = false := by rw [decide_eq_false_iff_not]; omega
  have t2 : decide (((l.length : Nat) : Int) > 200) = false := by rw [decide_eq_false_iff_not]; omega
  have t3 := emp_s f
  rw [decide_eq_false (show ¬ f = ByteArray.empty by rw [hf]; intro h; have := congrArg ByteArray.size h; exact absurd this (by decide))] at t3
  refine Runs.wp Am.hT Am.hm Tryz.func17 rfl (by decide) ⟨[], [0, 1, 2, 4, 5, 6, 16, 39, 48], 61⟩ ?_; ((conv => whnf); repeat (refine Gq ?_; (conv => whnf)))
  refine litE t1 ?_
  ((conv => whnf); repeat (refine Gq ?_; (conv => whnf)))
  refine litE t2 ?_
  ((conv => whnf); repeat (refine Gq ?_; (conv => whnf)))
  refine litE t3 ?_
  ((conv => whnf); repeat (refine Gq ?_; (conv => whnf)))
  refine litE (nq (op := f) (d := 43) (b := false) (hf ▸ cq (by decide))) ?_
  ((conv => whnf); repeat (refine Gq ?_; (conv => whnf)))
  refine litE (nq (op := f) (d := 42) (b := false) (hf ▸ cq (by decide))) ?_
  ((conv => whnf); repeat (refine Gq ?_; (conv => whnf)))
  refine litE (nq (op := f) (d := 38) (b := true) (hf ▸ cq (by decide))) ?_
  ((conv => whnf); repeat (refine Gq ?_; (conv => whnf)))
  refine loop_ind (fun k (x : Nat × Int) => x.1 + k = l.length + 1 ∧ x.1 ≤ l.length ∧ (x.2 = -1 ∧ deepC slots l 0 = none ∨ 0 ≤ x.2 ∧ x.2 ≤ x.1 ∧ deepC slots l 0 = deepC slots (l.drop x.1) x.2)) (fun x => { t := pin [(1, .d (iD slots)), (2, .pt 0 0), (5, .d (iD x.2)), (6, .d (iD x.1))], N := 61, h := hpin [some (.st 24 [.d (rO l), .d (sD f)])], n := 1, lo := 0 }) (fun x h => by omega) ?_ (l.length + 1) (0, 0) ⟨by simp, by simp, .inr ⟨by simp, by simp, rfl⟩⟩ _ ?_
  · rintro k ⟨i, d⟩ R ih ⟨hk, hi, hc⟩
    dsimp only at *
    by_cases hlt : i < l.length
    · have t8 : decide ((i : Int) < (l.length : Int)) = true := by rw [decide_eq_true_iff]; omega
      rcases hc with ⟨rfl, hn⟩ | ⟨hd, hd2, hn⟩
      · rw [show decide (deepC slots l 0 = some 1) = false by rw [hn]; rfl]
        ((conv => whnf); repeat (refine Gq ?_; (conv => whnf)))
        refine litE t8 ?_
        ((conv => whnf); repeat (refine Gq ?_; (conv => whnf)))
        exact TeA
      · have t9 : decide (d ≥ 0) = true := decide_eq_true hd
        have m := rmay20_runs slots d l[i] ⟨hd, by omega⟩ (hb _ (List.getElem_mem hlt))
        have hx : l[i]? = some l[i] := List.getElem?_eq_getElem hlt
        rw [List.drop_eq_getElem_cons hlt, deepC] at hn
        ((conv => whnf); repeat (refine Gq ?_; (conv => whnf)))
        refine litE t8 ?_
        ((conv => whnf); repeat (refine Gq ?_; (conv => whnf)))
        refine litE t9 ?_
        ((conv => whnf); repeat (refine Gq ?_; (conv => whnf)))
        refine ⟨by omega, by omega, ?_⟩
        ((conv => whnf); repeat (refine Gq ?_; (conv => whnf)))
        refine fm_ld opC_len hx ?_
        ((conv => whnf); repeat (refine Gq ?_; (conv => whnf)))
        ((conv => whnf); (refine HfA m ?_); ((conv => whnf); repeat (refine Gq ?_; (conv => whnf))))
        refine ih (i + 1, mayD slots d l[i]) _ ⟨by dsimp only; omega, by dsimp only; omega, ?_⟩ ?_
        · dsimp only
          unfold mayD
          have hle := needs_le slots l[i]
          by_cases hz : needsZ slots l[i] < 0 ∨ d < needsZ slots l[i]
          · rw [if_pos hz] at hn ⊢
            exact .inl ⟨rfl, hn⟩
          · rw [if_neg hz] at hn ⊢
            exact .inr ⟨by omega, by omega, hn⟩
        · (refine Wk.to _ _ ?_ ?_ <;> (repeat' first | exact trivial | rfl | (refine And.intro ?_ ?_)))
          exact inE (i64n (n := i + 1) (by omega) (by omega))
    · have t8 : decide ((i : Int) < (l.length : Int)) = false := by rw [decide_eq_false_iff_not]; omega
      have te : (d == 1) = decide (deepC slots l 0 = some 1) := by
        rcases hc with ⟨rfl, hn⟩ | ⟨hd, hd2, hn⟩
        · rw [hn]; rfl
        · rw [hn, List.drop_eq_nil_of_le (by omega), deepC, Bool.eq_iff_iff, beq_iff_eq, decide_eq_true_iff]
          exact ⟨fun h => by rw [h], fun h => by injection h⟩
      ((conv => whnf); repeat (refine Gq ?_; (conv => whnf)))
      refine litE t8 ?_
      ((conv => whnf); repeat (refine Gq ?_; (conv => whnf)))
      refine litE te ?_
      ((conv => whnf); repeat (refine Gq ?_; (conv => whnf)))
      exact TeA
  · (refine Wk.to _ _ ?_ ?_ <;> (repeat' first | exact trivial | rfl | (refine And.intro ?_ ?_)))
theorem rmay_124 (h1 : 1 ≤ l.length) (h2 : l.length ≤ 200) (hf : f = ⟨#[124]⟩) (hb : ∀ o ∈ l, o.2.size ≤ 1000000) : Runs Tryz.prog 17 [cD l f, iD slots] (bD (decide (deepC slots l 0 = some 1))) := by
  have t1 : decide (((l.length : Nat) : Int) < 1) = false := by rw [decide_eq_false_iff_not]; omega
  have t2 : decide (((l.length : Nat) : Int) > 200) = false := by rw [decide_eq_false_iff_not]; omega
  have t3 := emp_s f
  rw [decide_eq_false (show ¬ f = ByteArray.empty by rw [hf]; intro h; have := congrArg ByteArray.size h; exact absurd this (by decide))] at t3
  refine Runs.wp Am.hT Am.hm Tryz.func17 rfl (by decide) ⟨[], [0, 1, 2, 4, 5, 6, 16, 39, 48], 61⟩ ?_; ((conv => whnf); repeat (refine Gq ?_; (conv => whnf)))
  refine litE t1 ?_
  ((conv => whnf); repeat (refine Gq ?_; (conv => whnf)))
  refine litE t2 ?_
  ((conv => whnf); repeat (refine Gq ?_; (conv => whnf)))
  refine litE t3 ?_
  ((conv => whnf); repeat (refine Gq ?_; (conv => whnf)))
  refine litE (nq (op := f) (d := 43) (b := false) (hf ▸ cq (by decide))) ?_
  ((conv => whnf); repeat (refine Gq ?_; (conv => whnf)))
  refine litE (nq (op := f) (d := 42) (b := false) (hf ▸ cq (by decide))) ?_
  ((conv => whnf); repeat (refine Gq ?_; (conv => whnf)))
  refine litE (nq (op := f) (d := 38) (b := false) (hf ▸ cq (by decide))) ?_
  ((conv => whnf); repeat (refine Gq ?_; (conv => whnf)))
  refine litE (nq (op := f) (d := 124) (b := true) (hf ▸ cq (by decide))) ?_
  ((conv => whnf); repeat (refine Gq ?_; (conv => whnf)))
  refine loop_ind (fun k (x : Nat × Int) => x.1 + k = l.length + 1 ∧ x.1 ≤ l.length ∧ (x.2 = -1 ∧ deepC slots l 0 = none ∨ 0 ≤ x.2 ∧ x.2 ≤ x.1 ∧ deepC slots l 0 = deepC slots (l.drop x.1) x.2)) (fun x => { t := pin [(1, .d (iD slots)), (2, .pt 0 0), (5, .d (iD x.2)), (6, .d (iD x.1))], N := 61, h := hpin [some (.st 24 [.d (rO l), .d (sD f)])], n := 1, lo := 0 }) (fun x h => by omega) ?_ (l.length + 1) (0, 0) ⟨by simp, by simp, .inr ⟨by simp, by simp, rfl⟩⟩ _ ?_
  · rintro k ⟨i, d⟩ R ih ⟨hk, hi, hc⟩
    dsimp only at *
    by_cases hlt : i < l.length
    · have t8 : decide ((i : Int) < (l.length : Int)) = true := by rw [decide_eq_true_iff]; omega
      rcases hc with ⟨rfl, hn⟩ | ⟨hd, hd2, hn⟩
      · rw [show decide (deepC slots l 0 = some 1) = false by rw [hn]; rfl]
        ((conv => whnf); repeat (refine Gq ?_; (conv => whnf)))
        refine litE t8 ?_
        ((conv => whnf); repeat (refine Gq ?_; (conv => whnf)))
        exact TeA
      · have t9 : decide (d ≥ 0) = true := decide_eq_true hd
        have m := rmay20_runs slots d l[i] ⟨hd, by omega⟩ (hb _ (List.getElem_mem hlt))
        have hx : l[i]? = some l[i] := List.getElem?_eq_getElem hlt
        rw [List.drop_eq_getElem_cons hlt, deepC] at hn
        ((conv => whnf); repeat (refine Gq ?_; (conv => whnf)))
        refine litE t8 ?_
        ((conv => whnf); repeat (refine Gq ?_; (conv => whnf)))
        refine litE t9 ?_
        ((conv => whnf); repeat (refine Gq ?_; (conv => whnf)))
        refine ⟨by omega, by omega, ?_⟩
        ((conv => whnf); repeat (refine Gq ?_; (conv => whnf)))
        refine fm_ld opC_len hx ?_
        ((conv => whnf); repeat (refine Gq ?_; (conv => whnf)))
        ((conv => whnf); (refine HfA m ?_); ((conv => whnf); repeat (refine Gq ?_; (conv => whnf))))
        refine ih (i + 1, mayD slots d l[i]) _ ⟨by dsimp only; omega, by dsimp only; omega, ?_⟩ ?_
        · dsimp only
          unfold mayD
          have hle := needs_le slots l[i]
          by_cases hz : needsZ slots l[i] < 0 ∨ d < needsZ slots l[i]
          · rw [if_pos hz] at hn ⊢
            exact .inl ⟨rfl, hn⟩
          · rw [if_neg hz] at hn ⊢
            exact .inr ⟨by omega, by omega, hn⟩
        · (refine Wk.to _ _ ?_ ?_ <;> (repeat' first | exact trivial | rfl | (refine And.intro ?_ ?_)))
          exact inE (i64n (n := i + 1) (by omega) (by omega))
    · have t8 : decide ((i : Int) < (l.length : Int)) = false := by rw [decide_eq_false_iff_not]; omega
      have te : (d == 1) = decide (deepC slots l 0 = some 1) := by
        rcases hc with ⟨rfl, hn⟩ | ⟨hd, hd2, hn⟩
        · rw [hn]; rfl
        · rw [hn, List.drop_eq_nil_of_le (by omega), deepC, Bool.eq_iff_iff, beq_iff_eq, decide_eq_true_iff]
          exact ⟨fun h => by rw [h], fun h => by injection h⟩
      ((conv => whnf); repeat (refine Gq ?_; (conv => whnf)))
      refine litE t8 ?_
      ((conv => whnf); repeat (refine Gq ?_; (conv => whnf)))
      refine litE te ?_
      ((conv => whnf); repeat (refine Gq ?_; (conv => whnf)))
      exact TeA
  · (refine Wk.to _ _ ?_ ?_ <;> (repeat' first | exact trivial | rfl | (refine And.intro ?_ ?_)))
end
theorem rmayC_runs (l : List OpL) (f : ByteArray) (slots : Int) (hb : ∀ o ∈ l, o.2.size ≤ 1000000) : Runs Tryz.prog 17 [cD l f, iD slots] (bD (mayC l f slots)) := by
  unfold mayC
  by_cases h1 : 1 ≤ l.length
  · by_cases h2 : l.length ≤ 200
    · rw [decide_eq_true h1, decide_eq_true h2, Bool.true_and, Bool.true_and]
      by_cases hf : f = ByteArray.empty
      · rw [show foldB f = true by unfold foldB; rw [decide_eq_true hf, Bool.true_or], Bool.true_and]
        exact rmay_e h1 h2 hf hb
      · cases hs : sgB foS f with
        | false =>
          rw [show foldB f = false by unfold foldB; rw [decide_eq_false hf, hs, Bool.false_or], Bool.false_and]
          exact rmay_fold h1 h2 hf hs
        | true =>
          rw [show foldB f = true by unfold foldB; rw [hs, Bool.or_true], Bool.true_and]
          unfold sgB at hs
          split at hs
          · rename_i c hc
            have ho : f = ⟨#[c]⟩ := by rw [ba_of f, hc]
            have hm : c ∈ ([43, 42, 38, 124] : List UInt8) := by simpa [foS] using hs
            simp only [List.mem_cons, List.not_mem_nil, or_false] at hm
            rcases hm with rfl | rfl | rfl | rfl
            · exact rmay_43 h1 h2 ho hb
            · exact rmay_42 h1 h2 ho hb
            · exact rmay_38 h1 h2 ho hb
            · exact rmay_124 h1 h2 ho hb
          · cases hs
    · rw [decide_eq_false h2, Bool.and_false, Bool.false_and, Bool.false_and]
      exact rmay_len (.inr (by omega))
  · rw [decide_eq_false h1, Bool.false_and, Bool.false_and, Bool.false_and]
    exact rmay_len (.inl (by omega))
end Go.Proofs.YtkhgpnbhnipndaaGreatDoor.Am
end
section
/- The document's codes: Start. -/
namespace Go.Proofs.YtkhgpnbhnipndaaGreatDoor.Am
open Go Go.RowKit Go.Proofs.YtkhgpnbhnipndaaGreatDoor.Sh
set_option linter.unusedVariables false
set_option linter.unusedSimpArgs false
set_option maxRecDepth 100000
set_option maxHeartbeats 8000000
def scanD : List ValL → Int → Option Int
  | [], n => some n
  | v :: l, n => if v.1.length = 1 then (if 0 ≤ n ∧ n ≠ (v.2.length : Int) then none else scanD l v.2.length) else scanD l n
theorem scanS_some : ∀ (l : List ValL) (n b : Int), (∀ v ∈ l, v.1.length ≤ 1) → ∃ m c, scanS l n b = some (m, c)
  | [], n, b, _ => ⟨n, b, rfl⟩
  | v :: l, n, b, h => by
    rw [scanS, if_neg (by have := h v (by simp); omega)]
    have hl : ∀ v ∈ l, v.1.length ≤ 1 := fun u hu => h u (by simp [hu])
    split
    · split
      · exact scanS_some l _ _ hl
      · exact scanS_some l _ _ hl
    · exact scanS_some l _ _ hl
theorem scanS_none : ∀ (l : List ValL) (n b : Int), (∃ v ∈ l, 1 < v.1.length) → scanS l n b = none
  | [], _, _, h => by obtain ⟨v, h, _⟩ := h; cases h
  | v :: l, n, b, h => by
    rw [scanS]
    by_cases h1 : 1 < v.1.length
    · rw [if_pos h1]
    · rw [if_neg h1]
      have hl : ∃ v ∈ l, 1 < v.1.length := by
        obtain ⟨u, hu, h2⟩ := h
        rcases List.mem_cons.1 hu with rfl | hu
        · exact absurd h2 h1
        · exact ⟨u, hu, h2⟩
      split
      · split
        · exact scanS_none l _ _ hl
        · exact scanS_none l _ _ hl
      · exact scanS_none l _ _ hl
theorem scan_doc : ∀ (l : List ValL) (n : Int), (∀ v ∈ l, v.1.length ≤ 1 ∧ (v.1.length = 1 → v.1.headD 0 = (v.2.length : Int))) → (scanD l n = none ∧ ∃ m, scanS l n 0 = some (m, 4)) ∨ ∃ m, scanD l n = some m ∧ scanS l n 0 = some (m, 0)
  | [], n, _ => .inr ⟨n, rfl, rfl⟩
  | v :: l, n, h => by
    have hv := h v (by simp)
    have hl : ∀ v ∈ l, v.1.length ≤ 1 ∧ (v.1.length = 1 → v.1.headD 0 = (v.2.length : Int)) := fun u hu => h u (by simp [hu])
    rw [scanS, scanD, if_neg (show ¬ 1 < v.1.length by omega)]
    by_cases h1 : v.1.length = 1
    · rw [if_pos h1, if_pos h1, hv.2 h1]
      by_cases h2 : 0 ≤ n ∧ n ≠ (v.2.length : Int)
      · rw [if_pos h2, if_pos h2]
        obtain ⟨m, c, e⟩ := scanS_some l n 4 fun u hu => (hl u hu).1
        have := scan_bad e
        subst this
        exact .inl ⟨rfl, m, e⟩
      · rw [if_neg h2, if_neg h2]
        exact scan_doc l _ hl
    · rw [if_neg h1, if_neg h1]
      exact scan_doc l n hl
abbrev rfZ : Option Ob := some (.st 39 [.imm (.slice none 0 0), .imm (.string ByteArray.empty), .imm (.slice none 0 0), .imm (.int .i64 0), .imm (.int .i64 0), .imm (.slice none 0 0), .imm (.string ByteArray.empty)])
section
variable {ops : List OpL} {fold : ByteArray} {ins : List ValL}
theorem rstart_no (h : Runs Tryz.prog 17 [cD ops fold, iD ins.length] (bD false)) : Runs Tryz.prog 15 [cD ops fold, rV ins] (.tup [frD frZ, iD 1]) := by
  refine Runs.wp Am.hT Am.hm Tryz.func15 rfl (by decide) ⟨[], [0, 1, 2, 4, 5, 6, 7, 8, 9, 14, 19, 27, 32, 41, 46, 55, 67, 76, 79], 84⟩ ?_; ((conv => whnf); repeat (refine Gq ?_; (conv => whnf)))
  ((conv => whnf); (refine HfA h ?_); ((conv => whnf); repeat (refine Gq ?_; (conv => whnf))))
  exact TeA
theorem rstart_go {r : FrL × Int} (hi : ins.length ≤ 1000000) (h : Runs Tryz.prog 17 [cD ops fold, iD ins.length] (bD true)) (hm : ∀ v ∈ ins, Runs Tryz.prog 48 [vD2 v] (bD (good v.1 v.2)))
    (hr : r = if (ins.any fun v => !good v.1 v.2) = true then ((frZ, 1) : FrL × Int) else if (ins.any fun v => decide (1 < v.1.length)) = true then (frZ, 3) else match scanD ins (-1) with
      | none => (frZ, 4)
      | some n => if n = 0 then (frZ, 5) else (⟨ops, fold, ins, if n < 0 then 1 else n, 0, [], ByteArray.empty⟩, 0)) : Runs Tryz.prog 15 [cD ops fold, rV ins] (.tup [frD r.1, iD r.2]) := by
  refine Runs.wp Am.hT Am.hm Tryz.func15 rfl (by decide) ⟨[], [0, 1, 2, 4, 5, 6, 7, 8, 9, 14, 19, 27, 32, 41, 46, 55, 67, 76, 79], 84⟩ ?_; ((conv => whnf); repeat (refine Gq ?_; (conv => whnf)))
  ((conv => whnf); (refine HfA h ?_); ((conv => whnf); repeat (refine Gq ?_; (conv => whnf))))
  refine loop_ind (fun k (i : Nat) => i + k = ins.length + 1 ∧ i ≤ ins.length ∧ (ins.any fun v => !good v.1 v.2) = (ins.drop i).any fun v => !good v.1 v.2) (fun i => { t := pin [(1, .d (rV ins)), (2, .pt 0 0), (4, .pt 1 0), (6, .d (iD i))], N := 84, h := hpin [some (.st 24 [.d (rO ops), .d (sD fold)]), rfZ], n := 2, lo := 0 }) (fun i h => by omega) ?_ (ins.length + 1) 0 ⟨by omega, by omega, rfl⟩ _ ?_
  · rintro k i R ih ⟨hk, hi1, he⟩
    by_cases hlt : i < ins.length
    · have t1 : decide ((i : Int) < (ins.length : Int)) = true := by rw [decide_eq_true_iff]; omega
      have hx : ins[i]? = some ins[i] := List.getElem?_eq_getElem hlt
      have m := hm _ (List.getElem_mem hlt)
      rw [List.drop_eq_getElem_cons hlt, List.any_cons] at he
      cases hg : good ins[i].1 ins[i].2 with
      | false =>
        rw [hg] at m he
        rw [show (!false) = true from rfl, Bool.true_or] at he
        rw [if_pos he] at hr
        subst hr
        ((conv => whnf); repeat (refine Gq ?_; (conv => whnf)))
        refine litE t1 ?_
        ((conv => whnf); repeat (refine Gq ?_; (conv => whnf)))
        refine ⟨by omega, by omega, ?_⟩
        ((conv => whnf); repeat (refine Gq ?_; (conv => whnf)))
        refine fm_ld valC_len hx ?_
        ((conv => whnf); repeat (refine Gq ?_; (conv => whnf)))
        ((conv => whnf); (refine HfA m ?_); ((conv => whnf); repeat (refine Gq ?_; (conv => whnf))))
        exact TeA
      | true =>
        rw [hg] at m he
        rw [show (!true) = false from rfl, Bool.false_or] at he
        ((conv => whnf); repeat (refine Gq ?_; (conv => whnf)))
        refine litE t1 ?_
        ((conv => whnf); repeat (refine Gq ?_; (conv => whnf)))
        refine ⟨by omega, by omega, ?_⟩
        ((conv => whnf); repeat (refine Gq ?_; (conv => whnf)))
        refine fm_ld valC_len hx ?_
        ((conv => whnf); repeat (refine Gq ?_; (conv => whnf)))
        ((conv => whnf); (refine HfA m ?_); ((conv => whnf); repeat (refine Gq ?_; (conv => whnf))))
        refine ih (i + 1) _ ⟨by omega, by omega, he⟩ ?_
        (refine Wk.to _ _ ?_ ?_ <;> (repeat' first | exact trivial | rfl | (refine And.intro ?_ ?_)))
        exact inE (i64n (n := i + 1) (by omega) (by omega))
    · have t1 : decide ((i : Int) < (ins.length : Int)) = false := by rw [decide_eq_false_iff_not]; omega
      rw [List.drop_eq_nil_of_le (by omega)] at he
      rw [if_neg (by rw [he]; simp)] at hr
      ((conv => whnf); repeat (refine Gq ?_; (conv => whnf)))
      refine litE t1 ?_
      ((conv => whnf); repeat (refine Gq ?_; (conv => whnf)))
      refine loop_ind (fun k (i : Nat) => i + k = ins.length + 1 ∧ i ≤ ins.length ∧ (ins.any fun v => decide (1 < v.1.length)) = (ins.drop i).any fun v => decide (1 < v.1.length)) (fun i => { t := pin [(1, .d (rV ins)), (2, .pt 0 0), (4, .pt 1 0), (7, .d (iD i))], N := 84, h := hpin [some (.st 24 [.d (rO ops), .d (sD fold)]), rfZ], n := 2, lo := 0 }) (fun i h => by omega) ?_ (ins.length + 1) 0 ⟨by omega, by omega, rfl⟩ _ ?_
      · rintro k2 j R2 ih2 ⟨hk2, hj, he2⟩
        by_cases hlt2 : j < ins.length
        · have t2 : decide ((j : Int) < (ins.length : Int)) = true := by rw [decide_eq_true_iff]; omega
          have hx : ins[j]? = some ins[j] := List.getElem?_eq_getElem hlt2
          have g0 : (ins.flatMap valC)[(j : Int).toNat * 2 + 0]? = some (rI ins[j].1 none) := (fm_get valC_len (i := (j : Int).toNat) (j := 0) (by rw [Int.toNat_natCast]; exact hx) (by decide)).trans rfl
          rw [List.drop_eq_getElem_cons hlt2, List.any_cons] at he2
          by_cases h1 : 1 < ins[j].1.length
          · have t3 : decide (((ins[j].1.length : Nat) : Int) > 1) = true := by rw [decide_eq_true_iff]; omega
            rw [decide_eq_true h1, Bool.true_or] at he2
            rw [if_pos he2] at hr
            subst hr
            ((conv => whnf); repeat (refine Gq ?_; (conv => whnf)))
            refine litE t2 ?_
            ((conv => whnf); repeat (refine Gq ?_; (conv => whnf)))
            refine ⟨by omega, by omega, ?_⟩
            ((conv => whnf); repeat (refine Gq ?_; (conv => whnf)))
            refine ⟨_, g0, ?_⟩
            ((conv => whnf); repeat (refine Gq ?_; (conv => whnf)))
            refine litE t3 ?_
            ((conv => whnf); repeat (refine Gq ?_; (conv => whnf)))
            exact TeA
          · have t3 : decide (((ins[j].1.length : Nat) : Int) > 1) = false := by rw [decide_eq_false_iff_not]; omega
            rw [decide_eq_false h1, Bool.false_or] at he2
            ((conv => whnf); repeat (refine Gq ?_; (conv => whnf)))
            refine litE t2 ?_
            ((conv => whnf); repeat (refine Gq ?_; (conv => whnf)))
            refine ⟨by omega, by omega, ?_⟩
            ((conv => whnf); repeat (refine Gq ?_; (conv => whnf)))
            refine ⟨_, g0, ?_⟩
            ((conv => whnf); repeat (refine Gq ?_; (conv => whnf)))
            refine litE t3 ?_
            ((conv => whnf); repeat (refine Gq ?_; (conv => whnf)))
            refine ih2 (j + 1) _ ⟨by omega, by omega, he2⟩ ?_
            (refine Wk.to _ _ ?_ ?_ <;> (repeat' first | exact trivial | rfl | (refine And.intro ?_ ?_)))
            exact inE (i64n (n := j + 1) (by omega) (by omega))
        · have t2 : decide ((j : Int) < (ins.length : Int)) = false := by rw [decide_eq_false_iff_not]; omega
          rw [List.drop_eq_nil_of_le (by omega)] at he2
          rw [if_neg (by rw [he2]; simp)] at hr
          ((conv => whnf); repeat (refine Gq ?_; (conv => whnf)))
          refine litE t2 ?_
          ((conv => whnf); repeat (refine Gq ?_; (conv => whnf)))
          refine loop_ind (fun k (x : Nat × Int) => x.1 + k = ins.length + 1 ∧ x.1 ≤ ins.length ∧ scanD ins (-1) = scanD (ins.drop x.1) x.2) (fun x => { t := pin [(1, .d (rV ins)), (2, .pt 0 0), (4, .pt 1 0), (8, .d (iD x.2)), (9, .d (iD x.1))], N := 84, h := hpin [some (.st 24 [.d (rO ops), .d (sD fold)]), rfZ], n := 2, lo := 0 }) (fun i h => by omega) ?_ (ins.length + 1) (0, -1) ⟨by simp, by simp, rfl⟩ _ ?_
          · rintro k3 ⟨q, n⟩ R3 ih3 ⟨hk3, hq, he3⟩
            dsimp only at *
            by_cases hlt3 : q < ins.length
            · have t4 : decide ((q : Int) < (ins.length : Int)) = true := by rw [decide_eq_true_iff]; omega
              have hx : ins[q]? = some ins[q] := List.getElem?_eq_getElem hlt3
              have g0 : (ins.flatMap valC)[(q : Int).toNat * 2 + 0]? = some (rI ins[q].1 none) := (fm_get valC_len (i := (q : Int).toNat) (j := 0) (by rw [Int.toNat_natCast]; exact hx) (by decide)).trans rfl
              have g1 : (ins.flatMap valC)[(q : Int).toNat * 2 + 1]? = some (rS ins[q].2 none) := (fm_get valC_len (i := (q : Int).toNat) (j := 1) (by rw [Int.toNat_natCast]; exact hx) (by decide)).trans rfl
              rw [List.drop_eq_getElem_cons hlt3, scanD] at he3
              by_cases h1 : ins[q].1.length = 1
              · have t5 : (((ins[q].1.length : Nat) : Int) == 1) = true := by rw [h1]; rfl
                rw [if_pos h1] at he3
                by_cases hn0 : 0 ≤ n
                · have t6 : decide (n ≥ 0) = true := decide_eq_true hn0
                  by_cases hne : n = (ins[q].2.length : Int)
                  · have t7 : (!(n == (ins[q].2.length : Int))) = false := by rw [← hne]; simp
                    rw [if_neg (fun h => h.2 hne)] at he3
                    ((conv => whnf); repeat (refine Gq ?_; (conv => whnf)))
                    refine litE t4 ?_
                    ((conv => whnf); repeat (refine Gq ?_; (conv => whnf)))
                    refine ⟨by omega, by omega, ?_⟩
                    ((conv => whnf); repeat (refine Gq ?_; (conv => whnf)))
                    refine ⟨_, g0, ?_⟩
                    ((conv => whnf); repeat (refine Gq ?_; (conv => whnf)))
                    refine litE t5 ?_
                    ((conv => whnf); repeat (refine Gq ?_; (conv => whnf)))
                    refine litE t6 ?_
                    ((conv => whnf); repeat (refine Gq ?_; (conv => whnf)))
                    refine ⟨by omega, by omega, ?_⟩
                    ((conv => whnf); repeat (refine Gq ?_; (conv => whnf)))
                    refine ⟨_, g1, ?_⟩
                    ((conv => whnf); repeat (refine Gq ?_; (conv => whnf)))
                    refine litE t7 ?_
                    ((conv => whnf); repeat (refine Gq ?_; (conv => whnf)))
                    refine ⟨by omega, by omega, ?_⟩
                    ((conv => whnf); repeat (refine Gq ?_; (conv => whnf)))
                    refine ⟨_, g1, ?_⟩
                    ((conv => whnf); repeat (refine Gq ?_; (conv => whnf)))
                    refine ih3 (q + 1, _) _ ⟨by dsimp only; omega, by dsimp only; omega, he3⟩ ?_
                    (refine Wk.to _ _ ?_ ?_ <;> (repeat' first | exact trivial | rfl | (refine And.intro ?_ ?_)))
                    exact inE (i64n (n := q + 1) (by omega) (by omega))
                  · have t7 : (!(n == (ins[q].2.length : Int))) = true := by simpa using hne
                    rw [if_pos ⟨hn0, hne⟩] at he3
                    rw [he3] at hr
                    subst hr
                    ((conv => whnf); repeat (refine Gq ?_; (conv => whnf)))
                    refine litE t4 ?_
                    ((conv => whnf); repeat (refine Gq ?_; (conv => whnf)))
                    refine ⟨by omega, by omega, ?_⟩
                    ((conv => whnf); repeat (refine Gq ?_; (conv => whnf)))
                    refine ⟨_, g0, ?_⟩
                    ((conv => whnf); repeat (refine Gq ?_; (conv => whnf)))
                    refine litE t5 ?_
                    ((conv => whnf); repeat (refine Gq ?_; (conv => whnf)))
                    refine litE t6 ?_
                    ((conv => whnf); repeat (refine Gq ?_; (conv => whnf)))
                    refine ⟨by omega, by omega, ?_⟩
                    ((conv => whnf); repeat (refine Gq ?_; (conv => whnf)))
                    refine ⟨_, g1, ?_⟩
                    ((conv => whnf); repeat (refine Gq ?_; (conv => whnf)))
                    refine litE t7 ?_
                    ((conv => whnf); repeat (refine Gq ?_; (conv => whnf)))
                    exact TeA
                · have t6 : decide (n ≥ 0) = false := decide_eq_false hn0
                  rw [if_neg (fun h => hn0 h.1)] at he3
                  ((conv => whnf); repeat (refine Gq ?_; (conv => whnf)))
                  refine litE t4 ?_
                  ((conv => whnf); repeat (refine Gq ?_; (conv => whnf)))
                  refine ⟨by omega, by omega, ?_⟩
                  ((conv => whnf); repeat (refine Gq ?_; (conv => whnf)))
                  refine ⟨_, g0, ?_⟩
                  ((conv => whnf); repeat (refine Gq ?_; (conv => whnf)))
                  refine litE t5 ?_
                  ((conv => whnf); repeat (refine Gq ?_; (conv => whnf)))
                  refine litE t6 ?_
                  ((conv => whnf); repeat (refine Gq ?_; (conv => whnf)))
                  refine ⟨by omega, by omega, ?_⟩
                  ((conv => whnf); repeat (refine Gq ?_; (conv => whnf)))
                  refine ⟨_, g1, ?_⟩
                  ((conv => whnf); repeat (refine Gq ?_; (conv => whnf)))
                  refine ih3 (q + 1, _) _ ⟨by dsimp only; omega, by dsimp only; omega, he3⟩ ?_
                  (refine Wk.to _ _ ?_ ?_ <;> (repeat' first | exact trivial | rfl | (refine And.intro ?_ ?_)))
                  exact inE (i64n (n := q + 1) (by omega) (by omega))
              · have t5 : (((ins[q].1.length : Nat) : Int) == 1) = false := by rw [beq_eq_false_iff_ne]; omega
                rw [if_neg h1] at he3
                ((conv => whnf); repeat (refine Gq ?_; (conv => whnf)))
                refine litE t4 ?_
                ((conv => whnf); repeat (refine Gq ?_; (conv => whnf)))
                refine ⟨by omega, by omega, ?_⟩
                ((conv => whnf); repeat (refine Gq ?_; (conv => whnf)))
                refine ⟨_, g0, ?_⟩
                ((conv => whnf); repeat (refine Gq ?_; (conv => whnf)))
                refine litE t5 ?_
                ((conv => whnf); repeat (refine Gq ?_; (conv => whnf)))
                refine ih3 (q + 1, n) _ ⟨by dsimp only; omega, by dsimp only; omega, he3⟩ ?_
                (refine Wk.to _ _ ?_ ?_ <;> (repeat' first | exact trivial | rfl | (refine And.intro ?_ ?_)))
                exact inE (i64n (n := q + 1) (by omega) (by omega))
            · have t4 : decide ((q : Int) < (ins.length : Int)) = false := by rw [decide_eq_false_iff_not]; omega
              rw [List.drop_eq_nil_of_le (by omega), scanD] at he3
              rw [he3] at hr
              dsimp only at hr
              by_cases hn0 : n = 0
              · have t5 : (n == 0) = true := by simpa using hn0
                rw [if_pos hn0] at hr
                subst hr
                ((conv => whnf); repeat (refine Gq ?_; (conv => whnf)))
                refine litE t4 ?_
                ((conv => whnf); repeat (refine Gq ?_; (conv => whnf)))
                refine litE t5 ?_
                ((conv => whnf); repeat (refine Gq ?_; (conv => whnf)))
                exact TeA
              · have t5 : (n == 0) = false := by simpa using hn0
                rw [if_neg hn0] at hr
                by_cases hneg : n < 0
                · have t6 : decide (n < 0) = true := decide_eq_true hneg
                  rw [if_pos hneg] at hr
                  subst hr
                  ((conv => whnf); repeat (refine Gq ?_; (conv => whnf)))
                  refine litE t4 ?_
                  ((conv => whnf); repeat (refine Gq ?_; (conv => whnf)))
                  refine litE t5 ?_
                  ((conv => whnf); repeat (refine Gq ?_; (conv => whnf)))
                  refine litE t6 ?_
                  ((conv => whnf); repeat (refine Gq ?_; (conv => whnf)))
                  exact TeA
                · have t6 : decide (n < 0) = false := decide_eq_false hneg
                  rw [if_neg hneg] at hr
                  subst hr
                  ((conv => whnf); repeat (refine Gq ?_; (conv => whnf)))
                  refine litE t4 ?_
                  ((conv => whnf); repeat (refine Gq ?_; (conv => whnf)))
                  refine litE t5 ?_
                  ((conv => whnf); repeat (refine Gq ?_; (conv => whnf)))
                  refine litE t6 ?_
                  ((conv => whnf); repeat (refine Gq ?_; (conv => whnf)))
                  exact TeA
          · (refine Wk.to _ _ ?_ ?_ <;> (repeat' first | exact trivial | rfl | (refine And.intro ?_ ?_)))
      · (refine Wk.to _ _ ?_ ?_ <;> (repeat' first | exact trivial | rfl | (refine And.intro ?_ ?_)))
  · (refine Wk.to _ _ ?_ ?_ <;> (repeat' first | exact trivial | rfl | (refine And.intro ?_ ?_)))
end
end Go.Proofs.YtkhgpnbhnipndaaGreatDoor.Am
end
section
/- The document's codes: Start is the program's. -/
namespace Go.Proofs.YtkhgpnbhnipndaaGreatDoor.Am
open Go Go.RowKit Go.Proofs.YtkhgpnbhnipndaaGreatDoor.Sh
set_option linter.unusedVariables false
set_option linter.unusedSimpArgs false
set_option maxRecDepth 100000
set_option maxHeartbeats 8000000
theorem good_one {v : ValL} (h : good v.1 v.2 = true) (h1 : v.1.length = 1) : v.1.headD 0 = (v.2.length : Int) := by
  have hz := good_size h
  obtain ⟨a, ha⟩ := List.length_eq_one_iff.1 h1
  rw [ha] at hz ⊢
  rcases (size_ok hz).2.2 with ⟨⟨x, hx, h0⟩, h2⟩ | ⟨_, h2, _, _⟩
  · simp at hx
    show a = _
    omega
  · simp [pr] at h2
    show a = _
    omega
theorem start_doc {ops : List OpL} {fold : ByteArray} {ins : List ValL} (hm : mayC ops fold ins.length = true) : startF ops fold ins = if (ins.any fun v => !good v.1 v.2) = true then ((frZ, 1) : FrL × Int) else if (ins.any fun v => decide (1 < v.1.length)) = true then (frZ, 3) else match scanD ins (-1) with
      | none => (frZ, 4)
      | some n => if n = 0 then (frZ, 5) else (⟨ops, fold, ins, if n < 0 then 1 else n, 0, [], ByteArray.empty⟩, 0) := by
  unfold startF
  cases hg : ins.any fun v => !good v.1 v.2 with
  | true =>
    rw [if_neg (fun h => absurd h.2 (by decide)), if_pos rfl]
  | false =>
    rw [if_pos ⟨hm, rfl⟩, if_neg (by decide)]
    cases hr : ins.any fun v => decide (1 < v.1.length) with
    | true =>
      rw [if_pos rfl, scanS_none ins (-1) 0 (by
        rw [List.any_eq_true] at hr
        obtain ⟨v, h1, h2⟩ := hr
        exact ⟨v, h1, by simpa using h2⟩)]
    | false =>
      rw [if_neg (by decide)]
      have hf : ∀ v ∈ ins, v.1.length ≤ 1 ∧ (v.1.length = 1 → v.1.headD 0 = (v.2.length : Int)) := fun v hv => by
        have h1 := List.any_eq_false.1 hg v hv
        have h2 := List.any_eq_false.1 hr v hv
        simp at h1 h2
        exact ⟨h2, fun h => good_one h1 h⟩
      rcases scan_doc ins (-1) hf with ⟨h1, m, h2⟩ | ⟨m, h1, h2⟩
      · rw [h1, h2]
        rfl
      · rw [h1, h2]
        dsimp only
        rw [if_neg (by decide)]
        by_cases h0 : m = 0
        · rw [if_pos h0, if_pos h0]
        · rw [if_neg h0, if_neg h0]
          by_cases hn : m < 0
          · rw [if_pos hn, if_pos (by omega)]
          · rw [if_neg hn, if_neg (by omega)]
theorem rstart_runs (ops : List OpL) (fold : ByteArray) (ins : List ValL) (ho : ∀ o ∈ ops, o.2.size ≤ 1000000) (hi : ins.length ≤ 1000000) (hb : ∀ v ∈ ins, v.1.length ≤ 1000000 ∧ v.2.length ≤ 1000000 ∧ ∀ b ∈ v.2, b.size ≤ 1000000) :
    Runs Tryz.prog 15 [cD ops fold, rV ins] (.tup [frD (startF ops fold ins).1, iD (startF ops fold ins).2]) := by
  have m := rmayC_runs ops fold ins.length ho
  cases hm : mayC ops fold ins.length with
  | false =>
    rw [hm] at m
    have e : startF ops fold ins = (frZ, 1) := by unfold startF; rw [if_neg (fun h => by rw [hm] at h; exact absurd h.1 (by decide))]
    rw [e]
    exact rstart_no m
  | true =>
    rw [hm] at m
    exact rstart_go hi m (fun v hv => rmayV_runs v.1 v.2 (hb v hv).1 (hb v hv).2.1 (hb v hv).2.2) (start_doc hm)
end Go.Proofs.YtkhgpnbhnipndaaGreatDoor.Am
end
