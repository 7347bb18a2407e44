/- What the law leans on, part 31: declarations of several texts of ours, in their order. -/
import Derived.Test.YtjldjhlccedkbaaGreatDoorXT26
section
/- SpreadOrder: the other way round (pure part). -/
namespace Go.Proofs.YtjldjhlccedkbaaGreatDoor.Am
open Go Go.RowKit Go.Proofs.YtjldjhlccedkbaaGreatDoor.Sh
open Go.Proofs.YtjldjhlccedkbaaGreatDoor.Nm (numS)
set_option linter.unusedVariables false
set_option linter.unusedSimpArgs false
set_option maxRecDepth 100000
set_option maxHeartbeats 8000000
theorem meetS_comm (a b : List Int) : meetS a b = meetS b a := by
  unfold meetS
  by_cases h1 : a = b
  · subst h1; rfl
  · have h1' : ¬ b = a := fun h => h1 h.symm
    by_cases h2 : b = []
    · by_cases h3 : a = []
      · exact absurd (h3.trans h2.symm) h1
      · rw [if_pos (.inr h2), if_neg (by rintro (h | h); exact h1' h; exact h3 h), if_pos h2]
    · by_cases h3 : a = []
      · rw [if_neg (by rintro (h | h); exact h1 h; exact h2 h), if_pos h3, if_pos (.inr h3)]
      · rw [if_neg (by rintro (h | h); exact h1 h; exact h2 h), if_neg h3, if_neg (by rintro (h | h); exact h1' h; exact h3 h), if_neg h2]
theorem find_congr {l : List Nat} {p q : Nat → Bool} (h : ∀ i ∈ l, p i = q i) : l.find? p = l.find? q := by
  induction l with
  | nil => rfl
  | cons a l ih =>
    rw [List.find?_cons, List.find?_cons, h a (by simp), ih fun i hi => h i (by simp [hi])]
/-- two arrays the other way round: the same, if each pair is -/
theorem dyO_comm {op : ByteArray} (s1 s2 : List Int) (e1 e2 : List ByteArray) (h : ∀ x y, Nm.Sm x → Nm.Sm y → sd op (numS x) (numS y) = sd op (numS y) (numS x)) : dyO op s1 e1 s2 e2 = dyO op s2 e2 s1 e1 := by
  unfold dyO
  by_cases g1 : good s1 e1 = true
  · by_cases g2 : good s2 e2 = true
    · by_cases ho : sgB dyS op = true
      · have A1 : good s1 e1 = true ∧ good s2 e2 = true ∧ sgB dyS op = true := ⟨g1, g2, ho⟩
        have A2 : good s2 e2 = true ∧ good s1 e1 = true ∧ sgB dyS op = true := ⟨g2, g1, ho⟩
        rw [if_pos A1, if_pos A2]
        have hc := meetS_comm s1 s2
        have hn : dyN s1 s2 = dyN s2 s1 := by unfold dyN; rw [hc]
        by_cases hm : (meetS s1 s2).2 = 0
        · have hr : ∀ i, i < dyN s2 s1 → dyR op s1 e1 s2 e2 i = dyR op s2 e2 s1 e1 i := fun i hi => by
            obtain ⟨x, y, hx, hy, ex, ey, er⟩ := dyR_num op g1 g2 hm (by rw [hn]; exact hi)
            rw [er, h x y hx hy]
            unfold dyR
            rw [ex, ey]
          rw [if_pos hm, if_pos (by rw [← hc]; exact hm), ← hc, hn]
          rw [find_congr (q := fun i => decide ((dyR op s2 e2 s1 e1 i).2 ≠ 0)) (fun i hi => by rw [hr i (List.mem_range.1 hi)])]
          split
          · rename_i z hz
            rw [hr z (List.mem_range.1 (List.mem_of_find?_eq_some hz))]
          · rw [List.map_congr_left fun i hi => by rw [hr i (List.mem_range.1 hi)]]
        · rw [if_neg hm, if_neg (by rw [← hc]; exact hm), hc]
      · rw [if_neg (fun h => ho h.2.2), if_neg (fun h => ho h.2.2)]
    · rw [if_neg (fun h => g2 h.2.1), if_neg (fun h => g2 h.1)]
  · rw [if_neg (fun h => g1 h.1), if_neg (fun h => g1 h.2.1)]
theorem dyZ_comm {c : UInt8} (hc : c ∈ ([43, 42, 38, 124, 61, 126] : List UInt8)) (x y : Int) : dyZ c x y = dyZ c y x := by
  have hmn : (if decide (x ≤ y) = true then x else y) = (if decide (y ≤ x) = true then y else x) := by simp only [decide_eq_true_eq]; split <;> split <;> omega
  have hmx : (if decide (y ≤ x) = true then x else y) = (if decide (x ≤ y) = true then y else x) := by simp only [decide_eq_true_eq]; split <;> split <;> omega
  have he : decide (x = y) = decide (y = x) := by rw [decide_eq_decide]; exact eq_comm
  simp only [List.mem_cons, List.not_mem_nil, or_false] at hc
  unfold dyZ
  rcases hc with rfl | rfl | rfl | rfl | rfl | rfl
  · rw [if_pos rfl, if_pos rfl, Int.add_comm]
  · rw [if_neg (by decide), if_neg (by decide), if_pos rfl, if_neg (by decide), if_neg (by decide), if_pos rfl, Int.mul_comm]
  · simp only [show ¬ (38 : UInt8) = 43 by decide, show ¬ (38 : UInt8) = 45 by decide, show ¬ (38 : UInt8) = 42 by decide, show ¬ (38 : UInt8) = 37 by decide, show ¬ (38 : UInt8) = 33 by decide, if_false, if_true]
    rw [hmn]
  · simp only [show ¬ (124 : UInt8) = 43 by decide, show ¬ (124 : UInt8) = 45 by decide, show ¬ (124 : UInt8) = 42 by decide, show ¬ (124 : UInt8) = 37 by decide, show ¬ (124 : UInt8) = 33 by decide, show ¬ (124 : UInt8) = 38 by decide, if_false, if_true]
    rw [hmx]
  · simp only [show ¬ (61 : UInt8) = 43 by decide, show ¬ (61 : UInt8) = 45 by decide, show ¬ (61 : UInt8) = 42 by decide, show ¬ (61 : UInt8) = 37 by decide, show ¬ (61 : UInt8) = 33 by decide, show ¬ (61 : UInt8) = 38 by decide, show ¬ (61 : UInt8) = 124 by decide, show ¬ (61 : UInt8) = 60 by decide, show ¬ (61 : UInt8) = 62 by decide, if_false, if_true]
    rw [he]
  · simp only [show ¬ (126 : UInt8) = 43 by decide, show ¬ (126 : UInt8) = 45 by decide, show ¬ (126 : UInt8) = 42 by decide, show ¬ (126 : UInt8) = 37 by decide, show ¬ (126 : UInt8) = 33 by decide, show ¬ (126 : UInt8) = 38 by decide, show ¬ (126 : UInt8) = 124 by decide, show ¬ (126 : UInt8) = 60 by decide, show ¬ (126 : UInt8) = 62 by decide, show ¬ (126 : UInt8) = 61 by decide, if_false]
    rw [he]
end Go.Proofs.YtjldjhlccedkbaaGreatDoor.Am
end
section
/- SpreadOrder, walked. -/
namespace Go.Proofs.YtjldjhlccedkbaaGreatDoor.Am
open Go Go.RowKit Go.Proofs.YtjldjhlccedkbaaGreatDoor.Sh
open Go.Proofs.YtjldjhlccedkbaaGreatDoor.Nm (numS)
set_option linter.unusedVariables false
set_option linter.unusedSimpArgs false
set_option maxRecDepth 100000
set_option maxHeartbeats 8000000
section
variable {s t : List Int} {e u : List ByteArray} {k : Int}
theorem order_no1 (f1 : Runs Tryz.prog 14 [vD s e none none] (bD false)) : Runs Tryz.prog 6 [vD s e none none, vD t u none none, .v (.int .u8 k)] (bD true) := by
  have f0 := shown_runs
  refine Runs.wp Go.Proofs.YtjldjhlccedkbaaGreatDoor.Am.hT Go.Proofs.YtjldjhlccedkbaaGreatDoor.Am.hm Tryz.func6 rfl (by decide) ⟨[], [0, 1, 2, 3, 4, 6, 7, 8, 9, 10, 11, 12, 13, 14, 15, 16, 17, 18, 19, 28], 96⟩ ?_; ((conv => whnf); repeat ((first | refine Wo ?_ | refine Lt (by decide) ?_ | refine Lf (by decide) ?_ | refine Cl (by decide) ?_ | refine Cr (by decide) ?_ | refine ⟨_, rfl, ?_⟩ | refine Mi rfl ?_); (conv => whnf)))
  ((conv => whnf); (refine Hc.flat f0 ?_ rfl ?_; (focus ((repeat ((conv => arg 1; whnf); first | exact Tels.nil | apply Tels.cons | apply Tel.aggs | apply Tel.tups | exact Tel.refl _ | exact Tel.nil1 _ | exact Tel.cap _ _ _ _)); done))); ((conv => whnf); repeat ((first | refine Wo ?_ | refine Lt (by decide) ?_ | refine Lf (by decide) ?_ | refine Cl (by decide) ?_ | refine Cr (by decide) ?_ | refine ⟨_, rfl, ?_⟩ | refine Mi rfl ?_); (conv => whnf))))
  ((conv => whnf); (refine Hc.flat f1 ?_ rfl ?_; (focus ((repeat ((conv => arg 1; whnf); first | exact Tels.nil | apply Tels.cons | apply Tel.aggs | apply Tel.tups | exact Tel.refl _ | exact Tel.nil1 _ | exact Tel.cap _ _ _ _)); done))); ((conv => whnf); repeat ((first | refine Wo ?_ | refine Lt (by decide) ?_ | refine Lf (by decide) ?_ | refine Cl (by decide) ?_ | refine Cr (by decide) ?_ | refine ⟨_, rfl, ?_⟩ | refine Mi rfl ?_); (conv => whnf))))
  ((conv => whnf); ((repeat ((conv => arg 1; whnf); first | exact Tels.nil | apply Tels.cons | apply Tel.aggs | apply Tel.tups | exact Tel.refl _ | exact Tel.nil1 _ | exact Tel.cap _ _ _ _)); done))
theorem order_no2 (f1 : Runs Tryz.prog 14 [vD s e none none] (bD true)) (f2 : Runs Tryz.prog 14 [vD t u none none] (bD false)) : Runs Tryz.prog 6 [vD s e none none, vD t u none none, .v (.int .u8 k)] (bD true) := by
  have f0 := shown_runs
  refine Runs.wp Go.Proofs.YtjldjhlccedkbaaGreatDoor.Am.hT Go.Proofs.YtjldjhlccedkbaaGreatDoor.Am.hm Tryz.func6 rfl (by decide) ⟨[], [0, 1, 2, 3, 4, 6, 7, 8, 9, 10, 11, 12, 13, 14, 15, 16, 17, 18, 19, 28], 96⟩ ?_; ((conv => whnf); repeat ((first | refine Wo ?_ | refine Lt (by decide) ?_ | refine Lf (by decide) ?_ | refine Cl (by decide) ?_ | refine Cr (by decide) ?_ | refine ⟨_, rfl, ?_⟩ | refine Mi rfl ?_); (conv => whnf)))
  ((conv => whnf); (refine Hc.flat f0 ?_ rfl ?_; (focus ((repeat ((conv => arg 1; whnf); first | exact Tels.nil | apply Tels.cons | apply Tel.aggs | apply Tel.tups | exact Tel.refl _ | exact Tel.nil1 _ | exact Tel.cap _ _ _ _)); done))); ((conv => whnf); repeat ((first | refine Wo ?_ | refine Lt (by decide) ?_ | refine Lf (by decide) ?_ | refine Cl (by decide) ?_ | refine Cr (by decide) ?_ | refine ⟨_, rfl, ?_⟩ | refine Mi rfl ?_); (conv => whnf))))
  ((conv => whnf); (refine Hc.flat f1 ?_ rfl ?_; (focus ((repeat ((conv => arg 1; whnf); first | exact Tels.nil | apply Tels.cons | apply Tel.aggs | apply Tel.tups | exact Tel.refl _ | exact Tel.nil1 _ | exact Tel.cap _ _ _ _)); done))); ((conv => whnf); repeat ((first | refine Wo ?_ | refine Lt (by decide) ?_ | refine Lf (by decide) ?_ | refine Cl (by decide) ?_ | refine Cr (by decide) ?_ | refine ⟨_, rfl, ?_⟩ | refine Mi rfl ?_); (conv => whnf))))
  ((conv => whnf); (refine Hc.flat f2 ?_ rfl ?_; (focus ((repeat ((conv => arg 1; whnf); first | exact Tels.nil | apply Tels.cons | apply Tel.aggs | apply Tel.tups | exact Tel.refl _ | exact Tel.nil1 _ | exact Tel.cap _ _ _ _)); done))); ((conv => whnf); repeat ((first | refine Wo ?_ | refine Lt (by decide) ?_ | refine Lf (by decide) ?_ | refine Cl (by decide) ?_ | refine Cr (by decide) ?_ | refine ⟨_, rfl, ?_⟩ | refine Mi rfl ?_); (conv => whnf))))
  ((conv => whnf); ((repeat ((conv => arg 1; whnf); first | exact Tels.nil | apply Tels.cons | apply Tel.aggs | apply Tel.tups | exact Tel.refl _ | exact Tel.nil1 _ | exact Tel.cap _ _ _ _)); done))
abbrev sixD : List D := [sD ⟨#[43]⟩, sD ⟨#[42]⟩, sD ⟨#[38]⟩, sD ⟨#[124]⟩, sD ⟨#[61]⟩, sD ⟨#[126]⟩]
theorem order_yes {op : ByteArray} {j : Nat} {a c d m : List Int × List ByteArray} {x y z : Int} (hj : (Int.tmod k 6) = j) (hj6 : j < 6) (hop : sixD[(j : Int).toNat * 1]? = some (sD op)) (f1 : Runs Tryz.prog 14 [vD s e none none] (bD true)) (f2 : Runs Tryz.prog 14 [vD t u none none] (bD true))
    (d1 : Runs Tryz.prog 16 [sD op, vD s e none none, vD t u none none] (.tup [vD a.1 a.2 none none, iD x])) (d2 : Runs Tryz.prog 16 [sD op, vD t u none none, vD s e none none] (.tup [vD a.1 a.2 none none, iD x]))
    (d3 : Runs Tryz.prog 16 [sD ⟨#[45]⟩, vD s e none none, vD t u none none] (.tup [vD c.1 c.2 none none, iD y])) (d4 : Runs Tryz.prog 16 [sD ⟨#[45]⟩, vD t u none none, vD s e none none] (.tup [vD d.1 d.2 none none, iD y]))
    (m1 : Runs Tryz.prog 21 [sD ⟨#[45]⟩, vD d.1 d.2 none none] (.tup [vD m.1 m.2 none none, iD z])) (v1 : Runs Tryz.prog 17 [vD a.1 a.2 none none, vD a.1 a.2 none none] (bD true)) (v2 : y = 0 → z = 0 ∧ Runs Tryz.prog 17 [vD m.1 m.2 none none, vD c.1 c.2 none none] (bD true)) : Runs Tryz.prog 6 [vD s e none none, vD t u none none, .v (.int .u8 k)] (bD true) := by
  as_aux_lemma =>
  have f0 := shown_runs
  have hx : (x == x) = true := beq_self_eq_true x
  have hop' : sixD[((Int.tmod k 6)).toNat * 1]? = some (sD op) := by rw [hj]; exact hop
  have hy : (y == y) = true := beq_self_eq_true y
  refine Runs.wp Go.Proofs.YtjldjhlccedkbaaGreatDoor.Am.hT Go.Proofs.YtjldjhlccedkbaaGreatDoor.Am.hm Tryz.func6 rfl (by decide) ⟨[], [0, 1, 2, 3, 4, 6, 7, 8, 9, 10, 11, 12, 13, 14, 15, 16, 17, 18, 19, 28], 96⟩ ?_; ((conv => whnf); repeat ((first | refine Wo ?_ | refine Lt (by decide) ?_ | refine Lf (by decide) ?_ | refine Cl (by decide) ?_ | refine Cr (by decide) ?_ | refine ⟨_, rfl, ?_⟩ | refine Mi rfl ?_); (conv => whnf)))
  ((conv => whnf); (refine Hc.flat f0 ?_ rfl ?_; (focus ((repeat ((conv => arg 1; whnf); first | exact Tels.nil | apply Tels.cons | apply Tel.aggs | apply Tel.tups | exact Tel.refl _ | exact Tel.nil1 _ | exact Tel.cap _ _ _ _)); done))); ((conv => whnf); repeat ((first | refine Wo ?_ | refine Lt (by decide) ?_ | refine Lf (by decide) ?_ | refine Cl (by decide) ?_ | refine Cr (by decide) ?_ | refine ⟨_, rfl, ?_⟩ | refine Mi rfl ?_); (conv => whnf))))
  ((conv => whnf); (refine Hc.flat f1 ?_ rfl ?_; (focus ((repeat ((conv => arg 1; whnf); first | exact Tels.nil | apply Tels.cons | apply Tel.aggs | apply Tel.tups | exact Tel.refl _ | exact Tel.nil1 _ | exact Tel.cap _ _ _ _)); done))); ((conv => whnf); repeat ((first | refine Wo ?_ | refine Lt (by decide) ?_ | refine Lf (by decide) ?_ | refine Cl (by decide) ?_ | refine Cr (by decide) ?_ | refine ⟨_, rfl, ?_⟩ | refine Mi rfl ?_); (conv => whnf))))
  ((conv => whnf); (refine Hc.flat f2 ?_ rfl ?_; (focus ((repeat ((conv => arg 1; whnf); first | exact Tels.nil | apply Tels.cons | apply Tel.aggs | apply Tel.tups | exact Tel.refl _ | exact Tel.nil1 _ | exact Tel.cap _ _ _ _)); done))); ((conv => whnf); repeat ((first | refine Wo ?_ | refine Lt (by decide) ?_ | refine Lf (by decide) ?_ | refine Cl (by decide) ?_ | refine Cr (by decide) ?_ | refine ⟨_, rfl, ?_⟩ | refine Mi rfl ?_); (conv => whnf))))
  refine ⟨rfl, by decide, ?_⟩
  ((conv => whnf); repeat ((first | refine Wo ?_ | refine Lt (by decide) ?_ | refine Lf (by decide) ?_ | refine Cl (by decide) ?_ | refine Cr (by decide) ?_ | refine ⟨_, rfl, ?_⟩ | refine Mi rfl ?_); (conv => whnf)))
  refine ⟨by rw [hj]; omega, by rw [hj]; omega, ?_⟩
  ((conv => whnf); refine ⟨_, hop', ?_⟩; ((conv => whnf); repeat ((first | refine Wo ?_ | refine Lt (by decide) ?_ | refine Lf (by decide) ?_ | refine Cl (by decide) ?_ | refine Cr (by decide) ?_ | refine ⟨_, rfl, ?_⟩ | refine Mi rfl ?_); (conv => whnf))))
  ((conv => whnf); (refine Hc.runs d1 ?_ ?_; (focus ((repeat ((conv => arg 1; whnf); first | exact Tels.nil | apply Tels.cons | apply Tel.aggs | apply Tel.tups | exact Tel.refl _ | exact Tel.nil1 _ | exact Tel.cap _ _ _ _)); done))); ((conv => whnf); repeat ((first | refine Wo ?_ | refine Lt (by decide) ?_ | refine Lf (by decide) ?_ | refine Cl (by decide) ?_ | refine Cr (by decide) ?_ | refine ⟨_, rfl, ?_⟩ | refine Mi rfl ?_); (conv => whnf))))
  ((conv => whnf); (refine Hc.runs d2 ?_ ?_; (focus ((repeat ((conv => arg 1; whnf); first | exact Tels.nil | apply Tels.cons | apply Tel.aggs | apply Tel.tups | exact Tel.refl _ | exact Tel.nil1 _ | exact Tel.cap _ _ _ _)); done))); ((conv => whnf); repeat ((first | refine Wo ?_ | refine Lt (by decide) ?_ | refine Lf (by decide) ?_ | refine Cl (by decide) ?_ | refine Cr (by decide) ?_ | refine ⟨_, rfl, ?_⟩ | refine Mi rfl ?_); (conv => whnf))))
  ((conv => whnf); (refine Hc.runs d3 ?_ ?_; (focus ((repeat ((conv => arg 1; whnf); first | exact Tels.nil | apply Tels.cons | apply Tel.aggs | apply Tel.tups | exact Tel.refl _ | exact Tel.nil1 _ | exact Tel.cap _ _ _ _)); done))); ((conv => whnf); repeat ((first | refine Wo ?_ | refine Lt (by decide) ?_ | refine Lf (by decide) ?_ | refine Cl (by decide) ?_ | refine Cr (by decide) ?_ | refine ⟨_, rfl, ?_⟩ | refine Mi rfl ?_); (conv => whnf))))
  ((conv => whnf); (refine Hc.runs d4 ?_ ?_; (focus ((repeat ((conv => arg 1; whnf); first | exact Tels.nil | apply Tels.cons | apply Tel.aggs | apply Tel.tups | exact Tel.refl _ | exact Tel.nil1 _ | exact Tel.cap _ _ _ _)); done))); ((conv => whnf); repeat ((first | refine Wo ?_ | refine Lt (by decide) ?_ | refine Lf (by decide) ?_ | refine Cl (by decide) ?_ | refine Cr (by decide) ?_ | refine ⟨_, rfl, ?_⟩ | refine Mi rfl ?_); (conv => whnf))))
  ((conv => whnf); (refine Hc.runs m1 ?_ ?_; (focus ((repeat ((conv => arg 1; whnf); first | exact Tels.nil | apply Tels.cons | apply Tel.aggs | apply Tel.tups | exact Tel.refl _ | exact Tel.nil1 _ | exact Tel.cap _ _ _ _)); done))); ((conv => whnf); repeat ((first | refine Wo ?_ | refine Lt (by decide) ?_ | refine Lf (by decide) ?_ | refine Cl (by decide) ?_ | refine Cr (by decide) ?_ | refine ⟨_, rfl, ?_⟩ | refine Mi rfl ?_); (conv => whnf))))
  refine litE hx ?_
  ((conv => whnf); repeat ((first | refine Wo ?_ | refine Lt (by decide) ?_ | refine Lf (by decide) ?_ | refine Cl (by decide) ?_ | refine Cr (by decide) ?_ | refine ⟨_, rfl, ?_⟩ | refine Mi rfl ?_); (conv => whnf)))
  ((conv => whnf); (refine Hc.flat v1 ?_ rfl ?_; (focus ((repeat ((conv => arg 1; whnf); first | exact Tels.nil | apply Tels.cons | apply Tel.aggs | apply Tel.tups | exact Tel.refl _ | exact Tel.nil1 _ | exact Tel.cap _ _ _ _)); done))); ((conv => whnf); repeat ((first | refine Wo ?_ | refine Lt (by decide) ?_ | refine Lf (by decide) ?_ | refine Cl (by decide) ?_ | refine Cr (by decide) ?_ | refine ⟨_, rfl, ?_⟩ | refine Mi rfl ?_); (conv => whnf))))
  refine litE hy ?_
  ((conv => whnf); repeat ((first | refine Wo ?_ | refine Lt (by decide) ?_ | refine Lf (by decide) ?_ | refine Cl (by decide) ?_ | refine Cr (by decide) ?_ | refine ⟨_, rfl, ?_⟩ | refine Mi rfl ?_); (conv => whnf)))
  by_cases hy0 : y = 0
  · obtain ⟨hz0, v2⟩ := v2 hy0
    refine litE (show (!(y == 0)) = false by rw [hy0]; rfl) ?_
    ((conv => whnf); repeat ((first | refine Wo ?_ | refine Lt (by decide) ?_ | refine Lf (by decide) ?_ | refine Cl (by decide) ?_ | refine Cr (by decide) ?_ | refine ⟨_, rfl, ?_⟩ | refine Mi rfl ?_); (conv => whnf)))
    refine litE (show (z == 0) = true by rw [hz0]; rfl) ?_
    ((conv => whnf); repeat ((first | refine Wo ?_ | refine Lt (by decide) ?_ | refine Lf (by decide) ?_ | refine Cl (by decide) ?_ | refine Cr (by decide) ?_ | refine ⟨_, rfl, ?_⟩ | refine Mi rfl ?_); (conv => whnf)))
    ((conv => whnf); (refine Hc.flat v2 ?_ rfl ?_; (focus ((repeat ((conv => arg 1; whnf); first | exact Tels.nil | apply Tels.cons | apply Tel.aggs | apply Tel.tups | exact Tel.refl _ | exact Tel.nil1 _ | exact Tel.cap _ _ _ _)); done))); ((conv => whnf); repeat ((first | refine Wo ?_ | refine Lt (by decide) ?_ | refine Lf (by decide) ?_ | refine Cl (by decide) ?_ | refine Cr (by decide) ?_ | refine ⟨_, rfl, ?_⟩ | refine Mi rfl ?_); (conv => whnf))))
    ((conv => whnf); ((repeat ((conv => arg 1; whnf); first | exact Tels.nil | apply Tels.cons | apply Tel.aggs | apply Tel.tups | exact Tel.refl _ | exact Tel.nil1 _ | exact Tel.cap _ _ _ _)); done))
  · refine litE (show (!(y == 0)) = true by simp [hy0]) ?_
    ((conv => whnf); repeat ((first | refine Wo ?_ | refine Lt (by decide) ?_ | refine Lf (by decide) ?_ | refine Cl (by decide) ?_ | refine Cr (by decide) ?_ | refine ⟨_, rfl, ?_⟩ | refine Mi rfl ?_); (conv => whnf)))
    ((conv => whnf); ((repeat ((conv => arg 1; whnf); first | exact Tels.nil | apply Tels.cons | apply Tel.aggs | apply Tel.tups | exact Tel.refl _ | exact Tel.nil1 _ | exact Tel.cap _ _ _ _)); done))
end
theorem sd_neg {x y : Int} (hx : Nm.Sm x) (hy : Nm.Sm y) : (sd ⟨#[45]⟩ (numS x) (numS y)).2 = (sd ⟨#[45]⟩ (numS y) (numS x)).2 ∧ ((sd ⟨#[45]⟩ (numS y) (numS x)).2 = 0 → smo ⟨#[45]⟩ (sd ⟨#[45]⟩ (numS y) (numS x)).1 = (sd ⟨#[45]⟩ (numS x) (numS y)).1 ∧ mayB (sd ⟨#[45]⟩ (numS y) (numS x)).1 = true) := by
  have h : ∀ a b : Int, sd ⟨#[45]⟩ (numS a) (numS b) = Nm.told (a - b) := fun a b => by rw [sd_num]; unfold dyZ; rw [if_neg (by decide), if_pos rfl]
  rw [h, h]
  have e : x - y = -(y - x) := by omega
  rw [e]
  generalize y - x = z
  unfold Nm.told
  rw [Int.natAbs_neg]
  by_cases hz : z.natAbs < 10 ^ 100
  · rw [if_pos hz, if_pos hz]
    refine ⟨rfl, fun _ => ⟨smo_neg z, mayB_num hz⟩⟩
  · rw [if_neg hz, if_neg hz]
    exact ⟨rfl, fun h => absurd h (by decide)⟩
theorem dyO_neg (s1 s2 : List Int) (e1 e2 : List ByteArray) : (dyO ⟨#[45]⟩ s1 e1 s2 e2).2 = (dyO ⟨#[45]⟩ s2 e2 s1 e1).2 ∧ ((dyO ⟨#[45]⟩ s1 e1 s2 e2).2 = 0 → moO ⟨#[45]⟩ (dyO ⟨#[45]⟩ s2 e2 s1 e1).1.1 (dyO ⟨#[45]⟩ s2 e2 s1 e1).1.2 = ((dyO ⟨#[45]⟩ s1 e1 s2 e2).1, 0)) := by
  have ho : sgB dyS ⟨#[45]⟩ = true := by decide +kernel
  have hm : sgB moS ⟨#[45]⟩ = true := by decide +kernel
  generalize hop : (⟨#[45]⟩ : ByteArray) = op at *
  have hn2 : ∀ x y, Nm.Sm x → Nm.Sm y → (sd op (numS x) (numS y)).2 = (sd op (numS y) (numS x)).2 ∧ ((sd op (numS y) (numS x)).2 = 0 → smo op (sd op (numS y) (numS x)).1 = (sd op (numS x) (numS y)).1 ∧ mayB (sd op (numS y) (numS x)).1 = true) := by
    subst hop
    exact fun x y hx hy => sd_neg hx hy
  unfold dyO
  by_cases g1 : good s1 e1 = true
  · by_cases g2 : good s2 e2 = true
    · have A1 : good s1 e1 = true ∧ good s2 e2 = true ∧ sgB dyS op = true := ⟨g1, g2, ho⟩
      have A2 : good s2 e2 = true ∧ good s1 e1 = true ∧ sgB dyS op = true := ⟨g2, g1, ho⟩
      rw [if_pos A1, if_pos A2]
      have hc := meetS_comm s1 s2
      have hn : dyN s1 s2 = dyN s2 s1 := by unfold dyN; rw [hc]
      by_cases h0 : (meetS s1 s2).2 = 0
      · obtain ⟨k1, k2, _⟩ := meet_ok g1 g2 h0
        have hr : ∀ i, i < dyN s2 s1 → (dyR op s1 e1 s2 e2 i).2 = (dyR op s2 e2 s1 e1 i).2 ∧ ((dyR op s2 e2 s1 e1 i).2 = 0 → smo op (dyR op s2 e2 s1 e1 i).1 = (dyR op s1 e1 s2 e2 i).1 ∧ mayB (dyR op s2 e2 s1 e1 i).1 = true) := fun i hi => by
          obtain ⟨x, y, hx, hy, ex, ey, er⟩ := dyR_num op g1 g2 h0 (by rw [hn]; exact hi)
          have e2' : dyR op s2 e2 s1 e1 i = sd op (numS y) (numS x) := by unfold dyR; rw [ex, ey]
          rw [er, e2']
          exact hn2 x y hx hy
        rw [if_pos h0, if_pos (by rw [← hc]; exact h0), ← hc]
        rw [hn] at k1 ⊢
        rw [find_congr (p := fun i => decide ((dyR op s1 e1 s2 e2 i).2 ≠ 0)) (q := fun i => decide ((dyR op s2 e2 s1 e1 i).2 ≠ 0)) (fun i hi => by rw [(hr i (List.mem_range.1 hi)).1])]
        split
        · rename_i z hz
          have h1 := hr z (List.mem_range.1 (List.mem_of_find?_eq_some hz))
          have h2 := List.find?_some hz
          refine ⟨h1.1, fun h => ?_⟩
          rw [show (dyR op s1 e1 s2 e2 z).2 = 0 from h] at h1
          simp [← h1.1] at h2
        · rename_i hz
          rw [List.find?_eq_none] at hz
          have h3 : ∀ i, i < dyN s2 s1 → (dyR op s2 e2 s1 e1 i).2 = 0 := fun i hi => by simpa using hz i (List.mem_range.2 hi)
          refine ⟨rfl, fun _ => ?_⟩
          dsimp only
          rw [moO_ok (good_iff.2 ⟨by rw [k1]; simp, fun b hb => ?_⟩) hm]
          · rw [List.map_map, List.map_congr_left (f := smo op ∘ fun i => (dyR op s2 e2 s1 e1 i).1) (g := fun i => (dyR op s1 e1 s2 e2 i).1) fun i hi => ((hr i (List.mem_range.1 hi)).2 (h3 i (List.mem_range.1 hi))).1]
          · obtain ⟨i, hi, rfl⟩ := List.mem_map.1 hb
            exact ((hr i (List.mem_range.1 hi)).2 (h3 i (List.mem_range.1 hi))).2
      · rw [if_neg h0, if_neg (by rw [← hc]; exact h0), hc]
        exact ⟨rfl, fun h => absurd (show (meetS s2 s1).2 = 0 from h) (by rw [← hc]; exact h0)⟩
    · rw [if_neg (fun h => g2 h.2.1), if_neg (fun h => g2 h.1)]
      exact ⟨rfl, fun h => absurd (show (1 : Int) = 0 from h) (by decide)⟩
  · rw [if_neg (fun h => g1 h.1), if_neg (fun h => g1 h.2.1)]
    exact ⟨rfl, fun h => absurd (show (1 : Int) = 0 from h) (by decide)⟩
theorem dyO_len (op : ByteArray) (s1 s2 : List Int) (e1 e2 : List ByteArray) : (dyO op s1 e1 s2 e2).1.1.length ≤ 9223372036854775807 ∧ (dyO op s1 e1 s2 e2).1.2.length ≤ 9223372036854775807 := by
  unfold dyO
  split
  · rename_i h
    split
    · rename_i hm
      obtain ⟨k1, k2, _⟩ := meet_ok h.1 h.2.1 hm
      split
      · simp
      · refine ⟨?_, by simp; omega⟩
        have := (size_ok k1).1
        dsimp only
        omega
    · simp
  · simp
theorem SpreadOrder_runs (s1 : List Int) (e1 : List ByteArray) (s2 : List Int) (e2 : List ByteArray) (k : Int) (l1 : s1.length ≤ 9223372036854775807) (j1 : e1.length ≤ 9223372036854775807) (l2 : s2.length ≤ 9223372036854775807) (j2 : e2.length ≤ 9223372036854775807) (hk : (Lit.int .u8 k).wf = true) : Runs Tryz.prog 6 [vD s1 e1 none none, vD s2 e2 none none, .v (.int .u8 k)] (bD true) := by
  have hk : 0 ≤ k := by simp only [Lit.wf, Bool.and_eq_true, decide_eq_true_eq] at hk; exact hk.1
  have f1 := few_runs s1 e1 (by omega) j1
  have f2 := few_runs s2 e2 (by omega) j2
  cases hf : fewB s1 e1 with
  | false => rw [hf] at f1; exact order_no1 f1
  | true =>
    rw [hf] at f1
    cases hf2 : fewB s2 e2 with
    | false => rw [hf2] at f2; exact order_no2 f1 f2
    | true =>
      rw [hf2] at f2
      have hp := few_of hf
      have hp2 := few_of hf2
      have gen : ∀ (c : UInt8) (j : Nat), c ∈ ([43, 42, 38, 124, 61, 126] : List UInt8) → Int.tmod k 6 = j → j < 6 → sixD[(j : Int).toNat * 1]? = some (sD ⟨#[c]⟩) → Runs Tryz.prog 6 [vD s1 e1 none none, vD s2 e2 none none, .v (.int .u8 k)] (bD true) := fun c j hc hj hj6 hop => by
        have d1 := dyad_runs ⟨#[c]⟩ s1 e1 s2 e2 (by omega) (by omega) (by omega) (by omega)
        have d2 := dyad_runs ⟨#[c]⟩ s2 e2 s1 e1 (by omega) (by omega) (by omega) (by omega)
        have hcm : dyO ⟨#[c]⟩ s2 e2 s1 e1 = dyO ⟨#[c]⟩ s1 e1 s2 e2 := dyO_comm _ _ _ _ fun x y _ _ => by rw [sd_num, sd_num, dyZ_comm hc]
        rw [hcm] at d2
        have d3 := dyad_runs ⟨#[45]⟩ s1 e1 s2 e2 (by omega) (by omega) (by omega) (by omega)
        have d4 := dyad_runs ⟨#[45]⟩ s2 e2 s1 e1 (by omega) (by omega) (by omega) (by omega)
        obtain ⟨n1, n2⟩ := dyO_neg s1 s2 e1 e2
        obtain ⟨q1, q2⟩ := dyO_len ⟨#[45]⟩ s2 s1 e2 e1
        obtain ⟨q3, q4⟩ := dyO_len ⟨#[c]⟩ s1 s2 e1 e2
        obtain ⟨q5, q6⟩ := dyO_len ⟨#[45]⟩ s1 s2 e1 e2
        rw [← n1] at d4
        have m1 := monad_runs ⟨#[45]⟩ _ _ q1 q2
        have v1 := vsame_runs _ _ _ _ q3 q3 q4 q4
        rw [decide_eq_true ⟨rfl, rfl⟩] at v1
        refine order_yes hj hj6 hop f1 f2 d1 d2 d3 d4 m1 v1 fun hy => ?_
        have hmo := n2 hy
        rw [hmo]
        refine ⟨rfl, ?_⟩
        have v2 := vsame_runs _ _ _ _ q5 q5 q6 q6
        rwa [decide_eq_true ⟨rfl, rfl⟩] at v2
      have ht : Int.tmod k 6 = k % 6 := Int.tmod_eq_emod_of_nonneg hk
      have h6 : k % 6 = 0 ∨ k % 6 = 1 ∨ k % 6 = 2 ∨ k % 6 = 3 ∨ k % 6 = 4 ∨ k % 6 = 5 := by omega
      rcases h6 with h | h | h | h | h | h
      · exact gen 43 0 (by decide) (by rw [ht, h]; rfl) (by decide) rfl
      · exact gen 42 1 (by decide) (by rw [ht, h]; rfl) (by decide) rfl
      · exact gen 38 2 (by decide) (by rw [ht, h]; rfl) (by decide) rfl
      · exact gen 124 3 (by decide) (by rw [ht, h]; rfl) (by decide) rfl
      · exact gen 61 4 (by decide) (by rw [ht, h]; rfl) (by decide) rfl
      · exact gen 126 5 (by decide) (by rw [ht, h]; rfl) (by decide) rfl
end Go.Proofs.YtjldjhlccedkbaaGreatDoor.Am
end
