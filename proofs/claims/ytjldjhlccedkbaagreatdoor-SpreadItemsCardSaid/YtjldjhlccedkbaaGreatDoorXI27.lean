/- What the law leans on, part 28: declarations of several texts of ours, in their order. -/
import Derived.Test.YtjldjhlccedkbaaGreatDoorXI26
section
/- SpreadItems, walked. -/
namespace Go.Proofs.YtjldjhlccedkbaaGreatDoor.Am
open Go Go.RowKit Go.Proofs.YtjldjhlccedkbaaGreatDoor.Sh
open Go.Proofs.YtjldjhlccedkbaaGreatDoor.Nm (numS)
set_option linter.unusedVariables false
set_option linter.unusedSimpArgs false
set_option maxRecDepth 100000
set_option maxHeartbeats 8000000
theorem items_runs (s : List Int) (hs : s.length ≤ 8796093022208) : Runs Tryz.prog 53 [rI s none] (.tup [iD (manyZ s), rI s.tail none]) := by
  cases s with
  | nil => exact items_nil
  | cons a l => exact items_cons a l (by simp at hs; omega)
theorem item_yes {s : List Int} {e : List ByteArray} {i : Nat} (g : good s e = true) (hi : (i : Int) < manyZ s) (hs : s.length ≤ 8796093022208) (he : e.length ≤ 8796093022208) : Runs Tryz.prog 19 [vD s e none none, iD i] (.tup [vD (itS s e i).1 (itS s e i).2 none none, bD true]) := by
  have hI := items_runs s hs
  have m1 := vmay_runs s e (by omega) (by omega)
  rw [g] at m1
  have t1 : decide ((i : Int) < 0) = false := by rw [decide_eq_false_iff_not]; omega
  have t2 : decide ((i : Int) ≥ manyZ s) = false := by rw [decide_eq_false_iff_not]; omega
  obtain ⟨n, hn⟩ : ∃ n : Nat, manyZ s = (n : Int) := ⟨(manyZ s).toNat, by omega⟩
  have hq : IntKind.i64.wrap (Int.tdiv (e.length : Int) (manyZ s)) = ((e.length / n : Nat) : Int) := by
    have h1 : e.length / n ≤ e.length := Nat.div_le_self _ _
    rw [hn, Int.tdiv_eq_ediv_of_nonneg (by omega), ← Int.natCast_ediv]
    generalize e.length / n = q at *
    exact i64w (by omega) (by omega)
  refine Runs.wp Go.Proofs.YtjldjhlccedkbaaGreatDoor.Am.hT Go.Proofs.YtjldjhlccedkbaaGreatDoor.Am.hm Tryz.func19 rfl (by decide) ⟨[(6, .first 0 (.first 2 (.first 4 (.first 5 (.first 6 (.load 3 [7, 8] (.alt 1 (.alt 7 (.alt 8 .done .nil) .nil) (.alt 7 (.load 1 [8] (.alt 8 .done .nil)) .nil))))))))], [0, 1, 2, 4, 5, 6, 7, 8, 9, 27], 48⟩ ?_; ((conv => whnf); repeat ((first | refine Wo ?_ | refine Lt (by decide) ?_ | refine Lf (by decide) ?_ | refine Cl (by decide) ?_ | refine Cr (by decide) ?_ | refine ⟨_, rfl, ?_⟩ | refine Mi rfl ?_); (conv => whnf)))
  ((conv => whnf); (refine Hc.runs hI ?_ ?_; (focus ((repeat ((conv => arg 1; whnf); first | exact Tels.nil | apply Tels.cons | apply Tel.aggs | apply Tel.tups | exact Tel.refl _ | exact Tel.nil1 _ | exact Tel.cap _ _ _ _)); done))); ((conv => whnf); repeat ((first | refine Wo ?_ | refine Lt (by decide) ?_ | refine Lf (by decide) ?_ | refine Cl (by decide) ?_ | refine Cr (by decide) ?_ | refine ⟨_, rfl, ?_⟩ | refine Mi rfl ?_); (conv => whnf))))
  ((conv => whnf); (refine Hc.flat m1 ?_ rfl ?_; (focus ((repeat ((conv => arg 1; whnf); first | exact Tels.nil | apply Tels.cons | apply Tel.aggs | apply Tel.tups | exact Tel.refl _ | exact Tel.nil1 _ | exact Tel.cap _ _ _ _)); done))); ((conv => whnf); repeat ((first | refine Wo ?_ | refine Lt (by decide) ?_ | refine Lf (by decide) ?_ | refine Cl (by decide) ?_ | refine Cr (by decide) ?_ | refine ⟨_, rfl, ?_⟩ | refine Mi rfl ?_); (conv => whnf))))
  refine litE t1 ?_
  ((conv => whnf); repeat ((first | refine Wo ?_ | refine Lt (by decide) ?_ | refine Lf (by decide) ?_ | refine Cl (by decide) ?_ | refine Cr (by decide) ?_ | refine ⟨_, rfl, ?_⟩ | refine Mi rfl ?_); (conv => whnf)))
  refine litE t2 ?_
  ((conv => whnf); repeat ((first | refine Wo ?_ | refine Lt (by decide) ?_ | refine Lf (by decide) ?_ | refine Cl (by decide) ?_ | refine Cr (by decide) ?_ | refine ⟨_, rfl, ?_⟩ | refine Mi rfl ?_); (conv => whnf)))
  refine ⟨rfl, by omega, ?_⟩
  ((conv => whnf); repeat ((first | refine Wo ?_ | refine Lt (by decide) ?_ | refine Lf (by decide) ?_ | refine Cl (by decide) ?_ | refine Cr (by decide) ?_ | refine ⟨_, rfl, ?_⟩ | refine Mi rfl ?_); (conv => whnf)))
  have hqe : e.length / n ≤ e.length := Nat.div_le_self _ _
  obtain ⟨q, hqq⟩ : ∃ q, q = e.length / n := ⟨_, rfl⟩
  rw [← hqq] at hq hqe
  refine ⟨rfl, by rw [hq]; omega, by rw [hq]; unfold maxLen; omega, by rw [hq]; dsimp only; omega, ?_⟩
  ((conv => whnf); repeat ((first | refine Wo ?_ | refine Lt (by decide) ?_ | refine Lf (by decide) ?_ | refine Cl (by decide) ?_ | refine Cr (by decide) ?_ | refine ⟨_, rfl, ?_⟩ | refine Mi rfl ?_); (conv => whnf)))
  have hle : i * q + q ≤ e.length := by
    have h1 : (i + 1) * q ≤ n * q := Nat.mul_le_mul_right _ (by omega)
    have h2 : n * (e.length / n) ≤ e.length := Nat.mul_div_le _ _
    rw [← hqq] at h2
    rw [Nat.add_mul, Nat.one_mul] at h1
    omega
  have hm : IntKind.i64.wrap ((i : Int) * IntKind.i64.wrap (Int.tdiv (e.length : Int) (manyZ s))) = ((i * q : Nat) : Int) := by
    rw [hq, ← Int.natCast_mul]
    generalize i * q = z at *
    exact i64w (by omega) (by omega)
  have hk : i * q ≤ e.length := by omega
  (refine And.intro (by decide +kernel) ?_; apply Exists.intro; apply And.intro; focus ((repeat' ((conv => whnf); first | exact trivial | refine Wo ?_ | refine Lt (by decide) ?_ | refine Lf (by decide) ?_ | refine Cl (by decide) ?_ | refine Cr (by decide) ?_ | refine ⟨_, rfl, ?_⟩ | refine Mi rfl ?_ | (first | refine ⟨by rw [hm]; omega, by rw [hm]; exact Int.ofNat_le.2 hk, by omega, ?_⟩) | (refine And.intro ?_ ?_))); all_goals (first | ((conv => whnf); exact Wk.frc (keep := [0, 1, 2, 4, 5, 6, 7, 8, 9, 27]) (N := 48) (by (conv => whnf); first | done | exact rfl)) | (first | decide | rfl | assumption | omega | (dsimp only; omega) | (unfold maxLen; omega) | ((try dsimp only [maxLen]); simp only [List.length_append, List.length_cons, List.length_nil, List.length_map, List.length_range, List.length_set, List.length_replicate]; omega) | ((try dsimp only [maxLen]); simp only [IntKind.wrap_i64, IntKind.wrap_u64, List.length_append, List.length_cons, List.length_nil, List.length_map, List.length_range, List.length_set, List.length_replicate]; omega) | ((try dsimp only [maxLen]); simp only [List.length_append, List.length_cons, List.length_nil, List.length_map, List.length_range, List.length_set, List.length_replicate] at *; omega)))))
  ((conv => whnf); repeat ((first | refine Wo ?_ | refine Lt (by decide) ?_ | refine Lf (by decide) ?_ | refine Cl (by decide) ?_ | refine Cr (by decide) ?_ | refine ⟨_, rfl, ?_⟩ | refine Mi rfl ?_); (conv => whnf)))
  have hit : itS s e i = (s.tail, (e.drop (i * q)).take q) := by
    unfold itS
    rw [hn, Int.toNat_natCast, ← hqq]
  rw [hit]
  have hdr : List.drop q (List.replicate q (D.v (Value.string ByteArray.empty))) = [] := by simp
  have hlen : ((e.drop (i * q)).take q).length = q := by rw [List.length_take, List.length_drop]; omega
  (conv => arg 1; whnf)
  apply Tel.tups
  (conv => arg 1; whnf)
  apply Tels.cons
  · (conv => arg 1; whnf)
    apply Tel.aggs
    (conv => arg 1; whnf)
    apply Tels.cons
    · exact Tel.refl _
    apply Tels.cons
    · refine Tel.eq (dslE ?_ ?_)
      · rw [hm, hq, Int.toNat_natCast, Int.toNat_natCast, Int.toNat_natCast, Nat.min_eq_right (by omega), Nat.mul_one, Nat.mul_one, List.take_take, Nat.min_eq_left (by omega), hdr, List.append_nil, ← List.map_drop, ← List.map_take]
      · rw [hq, hlen, Int.toNat_natCast]
    exact Tels.nil
  apply Tels.cons
  · exact Tel.refl _
  exact Tels.nil
section
variable {op : ByteArray} {s t : List Int} {e u : List ByteArray} {k : Int}
theorem ite_no1 (f1 : Runs Tryz.prog 14 [vD s e none none] (bD false)) : Runs Tryz.prog 4 [sD op, vD s e none none, vD t u none none, .v (.int .u8 k)] (bD true) := by
  have f0 := shown_runs
  refine Runs.wp Go.Proofs.YtjldjhlccedkbaaGreatDoor.Am.hT Go.Proofs.YtjldjhlccedkbaaGreatDoor.Am.hm Tryz.func4 rfl (by decide) ⟨[], [0, 1, 2, 3, 5, 6, 8, 9, 10, 11, 12, 13, 14, 15, 16, 17, 18, 19, 28, 50, 70, 80], 117⟩ ?_; ((conv => whnf); repeat ((first | refine Wo ?_ | refine Lt (by decide) ?_ | refine Lf (by decide) ?_ | refine Cl (by decide) ?_ | refine Cr (by decide) ?_ | refine ⟨_, rfl, ?_⟩ | refine Mi rfl ?_); (conv => whnf)))
  ((conv => whnf); (refine Hc.flat f0 ?_ rfl ?_; (focus ((repeat ((conv => arg 1; whnf); first | exact Tels.nil | apply Tels.cons | apply Tel.aggs | apply Tel.tups | exact Tel.refl _ | exact Tel.nil1 _ | exact Tel.cap _ _ _ _)); done))); ((conv => whnf); repeat ((first | refine Wo ?_ | refine Lt (by decide) ?_ | refine Lf (by decide) ?_ | refine Cl (by decide) ?_ | refine Cr (by decide) ?_ | refine ⟨_, rfl, ?_⟩ | refine Mi rfl ?_); (conv => whnf))))
  ((conv => whnf); (refine Hc.flat f1 ?_ rfl ?_; (focus ((repeat ((conv => arg 1; whnf); first | exact Tels.nil | apply Tels.cons | apply Tel.aggs | apply Tel.tups | exact Tel.refl _ | exact Tel.nil1 _ | exact Tel.cap _ _ _ _)); done))); ((conv => whnf); repeat ((first | refine Wo ?_ | refine Lt (by decide) ?_ | refine Lf (by decide) ?_ | refine Cl (by decide) ?_ | refine Cr (by decide) ?_ | refine ⟨_, rfl, ?_⟩ | refine Mi rfl ?_); (conv => whnf))))
  ((conv => whnf); ((repeat ((conv => arg 1; whnf); first | exact Tels.nil | apply Tels.cons | apply Tel.aggs | apply Tel.tups | exact Tel.refl _ | exact Tel.nil1 _ | exact Tel.cap _ _ _ _)); done))
theorem ite_no2 (f1 : Runs Tryz.prog 14 [vD s e none none] (bD true)) (f2 : Runs Tryz.prog 14 [vD t u none none] (bD false)) : Runs Tryz.prog 4 [sD op, vD s e none none, vD t u none none, .v (.int .u8 k)] (bD true) := by
  have f0 := shown_runs
  refine Runs.wp Go.Proofs.YtjldjhlccedkbaaGreatDoor.Am.hT Go.Proofs.YtjldjhlccedkbaaGreatDoor.Am.hm Tryz.func4 rfl (by decide) ⟨[], [0, 1, 2, 3, 5, 6, 8, 9, 10, 11, 12, 13, 14, 15, 16, 17, 18, 19, 28, 50, 70, 80], 117⟩ ?_; ((conv => whnf); repeat ((first | refine Wo ?_ | refine Lt (by decide) ?_ | refine Lf (by decide) ?_ | refine Cl (by decide) ?_ | refine Cr (by decide) ?_ | refine ⟨_, rfl, ?_⟩ | refine Mi rfl ?_); (conv => whnf)))
  ((conv => whnf); (refine Hc.flat f0 ?_ rfl ?_; (focus ((repeat ((conv => arg 1; whnf); first | exact Tels.nil | apply Tels.cons | apply Tel.aggs | apply Tel.tups | exact Tel.refl _ | exact Tel.nil1 _ | exact Tel.cap _ _ _ _)); done))); ((conv => whnf); repeat ((first | refine Wo ?_ | refine Lt (by decide) ?_ | refine Lf (by decide) ?_ | refine Cl (by decide) ?_ | refine Cr (by decide) ?_ | refine ⟨_, rfl, ?_⟩ | refine Mi rfl ?_); (conv => whnf))))
  ((conv => whnf); (refine Hc.flat f1 ?_ rfl ?_; (focus ((repeat ((conv => arg 1; whnf); first | exact Tels.nil | apply Tels.cons | apply Tel.aggs | apply Tel.tups | exact Tel.refl _ | exact Tel.nil1 _ | exact Tel.cap _ _ _ _)); done))); ((conv => whnf); repeat ((first | refine Wo ?_ | refine Lt (by decide) ?_ | refine Lf (by decide) ?_ | refine Cl (by decide) ?_ | refine Cr (by decide) ?_ | refine ⟨_, rfl, ?_⟩ | refine Mi rfl ?_); (conv => whnf))))
  ((conv => whnf); (refine Hc.flat f2 ?_ rfl ?_; (focus ((repeat ((conv => arg 1; whnf); first | exact Tels.nil | apply Tels.cons | apply Tel.aggs | apply Tel.tups | exact Tel.refl _ | exact Tel.nil1 _ | exact Tel.cap _ _ _ _)); done))); ((conv => whnf); repeat ((first | refine Wo ?_ | refine Lt (by decide) ?_ | refine Lf (by decide) ?_ | refine Cl (by decide) ?_ | refine Cr (by decide) ?_ | refine ⟨_, rfl, ?_⟩ | refine Mi rfl ?_); (conv => whnf))))
  ((conv => whnf); ((repeat ((conv => arg 1; whnf); first | exact Tels.nil | apply Tels.cons | apply Tel.aggs | apply Tel.tups | exact Tel.refl _ | exact Tel.nil1 _ | exact Tel.cap _ _ _ _)); done))
theorem ite_err {x : Int} {n : Int} (hx : x ≠ 0) (f1 : Runs Tryz.prog 14 [vD s e none none] (bD true)) (f2 : Runs Tryz.prog 14 [vD t u none none] (bD true)) (d1 : Runs Tryz.prog 16 [sD op, vD s e none none, vD t u none none] (.tup [vD [] [] none none, iD x]))
    (m : Runs Tryz.prog 18 [vD [] [] none none] (iD n)) (v : Runs Tryz.prog 17 [vD [] [] none none, vD [] [] none none] (bD true)) : Runs Tryz.prog 4 [sD op, vD s e none none, vD t u none none, .v (.int .u8 k)] (bD true) := by
  have f0 := shown_runs
  have t1 : (!(x == 0)) = true := by simpa using hx
  have t2 : (x == 0) = false := by simpa using hx
  refine Runs.wp Go.Proofs.YtjldjhlccedkbaaGreatDoor.Am.hT Go.Proofs.YtjldjhlccedkbaaGreatDoor.Am.hm Tryz.func4 rfl (by decide) ⟨[], [0, 1, 2, 3, 5, 6, 8, 9, 10, 11, 12, 13, 14, 15, 16, 17, 18, 19, 28, 50, 70, 80], 117⟩ ?_; ((conv => whnf); repeat ((first | refine Wo ?_ | refine Lt (by decide) ?_ | refine Lf (by decide) ?_ | refine Cl (by decide) ?_ | refine Cr (by decide) ?_ | refine ⟨_, rfl, ?_⟩ | refine Mi rfl ?_); (conv => whnf)))
  ((conv => whnf); (refine Hc.flat f0 ?_ rfl ?_; (focus ((repeat ((conv => arg 1; whnf); first | exact Tels.nil | apply Tels.cons | apply Tel.aggs | apply Tel.tups | exact Tel.refl _ | exact Tel.nil1 _ | exact Tel.cap _ _ _ _)); done))); ((conv => whnf); repeat ((first | refine Wo ?_ | refine Lt (by decide) ?_ | refine Lf (by decide) ?_ | refine Cl (by decide) ?_ | refine Cr (by decide) ?_ | refine ⟨_, rfl, ?_⟩ | refine Mi rfl ?_); (conv => whnf))))
  ((conv => whnf); (refine Hc.flat f1 ?_ rfl ?_; (focus ((repeat ((conv => arg 1; whnf); first | exact Tels.nil | apply Tels.cons | apply Tel.aggs | apply Tel.tups | exact Tel.refl _ | exact Tel.nil1 _ | exact Tel.cap _ _ _ _)); done))); ((conv => whnf); repeat ((first | refine Wo ?_ | refine Lt (by decide) ?_ | refine Lf (by decide) ?_ | refine Cl (by decide) ?_ | refine Cr (by decide) ?_ | refine ⟨_, rfl, ?_⟩ | refine Mi rfl ?_); (conv => whnf))))
  ((conv => whnf); (refine Hc.flat f2 ?_ rfl ?_; (focus ((repeat ((conv => arg 1; whnf); first | exact Tels.nil | apply Tels.cons | apply Tel.aggs | apply Tel.tups | exact Tel.refl _ | exact Tel.nil1 _ | exact Tel.cap _ _ _ _)); done))); ((conv => whnf); repeat ((first | refine Wo ?_ | refine Lt (by decide) ?_ | refine Lf (by decide) ?_ | refine Cl (by decide) ?_ | refine Cr (by decide) ?_ | refine ⟨_, rfl, ?_⟩ | refine Mi rfl ?_); (conv => whnf))))
  ((conv => whnf); (refine Hc.runs d1 ?_ ?_; (focus ((repeat ((conv => arg 1; whnf); first | exact Tels.nil | apply Tels.cons | apply Tel.aggs | apply Tel.tups | exact Tel.refl _ | exact Tel.nil1 _ | exact Tel.cap _ _ _ _)); done))); ((conv => whnf); repeat ((first | refine Wo ?_ | refine Lt (by decide) ?_ | refine Lf (by decide) ?_ | refine Cl (by decide) ?_ | refine Cr (by decide) ?_ | refine ⟨_, rfl, ?_⟩ | refine Mi rfl ?_); (conv => whnf))))
  ((conv => whnf); (refine Hc.flat m ?_ rfl ?_; (focus ((repeat ((conv => arg 1; whnf); first | exact Tels.nil | apply Tels.cons | apply Tel.aggs | apply Tel.tups | exact Tel.refl _ | exact Tel.nil1 _ | exact Tel.cap _ _ _ _)); done))); ((conv => whnf); repeat ((first | refine Wo ?_ | refine Lt (by decide) ?_ | refine Lf (by decide) ?_ | refine Cl (by decide) ?_ | refine Cr (by decide) ?_ | refine ⟨_, rfl, ?_⟩ | refine Mi rfl ?_); (conv => whnf))))
  refine litE t1 ?_
  ((conv => whnf); repeat ((first | refine Wo ?_ | refine Lt (by decide) ?_ | refine Lf (by decide) ?_ | refine Cl (by decide) ?_ | refine Cr (by decide) ?_ | refine ⟨_, rfl, ?_⟩ | refine Mi rfl ?_); (conv => whnf)))
  refine litE t2 ?_
  ((conv => whnf); repeat ((first | refine Wo ?_ | refine Lt (by decide) ?_ | refine Lf (by decide) ?_ | refine Cl (by decide) ?_ | refine Cr (by decide) ?_ | refine ⟨_, rfl, ?_⟩ | refine Mi rfl ?_); (conv => whnf)))
  ((conv => whnf); (refine Hc.flat v ?_ rfl ?_; (focus ((repeat ((conv => arg 1; whnf); first | exact Tels.nil | apply Tels.cons | apply Tel.aggs | apply Tel.tups | exact Tel.refl _ | exact Tel.nil1 _ | exact Tel.cap _ _ _ _)); done))); ((conv => whnf); repeat ((first | refine Wo ?_ | refine Lt (by decide) ?_ | refine Lf (by decide) ?_ | refine Cl (by decide) ?_ | refine Cr (by decide) ?_ | refine ⟨_, rfl, ?_⟩ | refine Mi rfl ?_); (conv => whnf))))
  ((conv => whnf); ((repeat ((conv => arg 1; whnf); first | exact Tels.nil | apply Tels.cons | apply Tel.aggs | apply Tel.tups | exact Tel.refl _ | exact Tel.nil1 _ | exact Tel.cap _ _ _ _)); done))
theorem ite_none {S : List Int} {E : List ByteArray} (hS : manyZ S = 0 ∨ S = []) (f1 : Runs Tryz.prog 14 [vD s e none none] (bD true)) (f2 : Runs Tryz.prog 14 [vD t u none none] (bD true)) (d1 : Runs Tryz.prog 16 [sD op, vD s e none none, vD t u none none] (.tup [vD S E none none, iD 0]))
    (m : Runs Tryz.prog 18 [vD S E none none] (iD (manyZ S))) : Runs Tryz.prog 4 [sD op, vD s e none none, vD t u none none, .v (.int .u8 k)] (bD true) := by
  have f0 := shown_runs
  rcases hS with h | rfl
  · have t1 : (manyZ S == 0) = true := by simpa using h
    refine Runs.wp Go.Proofs.YtjldjhlccedkbaaGreatDoor.Am.hT Go.Proofs.YtjldjhlccedkbaaGreatDoor.Am.hm Tryz.func4 rfl (by decide) ⟨[], [0, 1, 2, 3, 5, 6, 8, 9, 10, 11, 12, 13, 14, 15, 16, 17, 18, 19, 28, 50, 70, 80], 117⟩ ?_; ((conv => whnf); repeat ((first | refine Wo ?_ | refine Lt (by decide) ?_ | refine Lf (by decide) ?_ | refine Cl (by decide) ?_ | refine Cr (by decide) ?_ | refine ⟨_, rfl, ?_⟩ | refine Mi rfl ?_); (conv => whnf)))
    ((conv => whnf); (refine Hc.flat f0 ?_ rfl ?_; (focus ((repeat ((conv => arg 1; whnf); first | exact Tels.nil | apply Tels.cons | apply Tel.aggs | apply Tel.tups | exact Tel.refl _ | exact Tel.nil1 _ | exact Tel.cap _ _ _ _)); done))); ((conv => whnf); repeat ((first | refine Wo ?_ | refine Lt (by decide) ?_ | refine Lf (by decide) ?_ | refine Cl (by decide) ?_ | refine Cr (by decide) ?_ | refine ⟨_, rfl, ?_⟩ | refine Mi rfl ?_); (conv => whnf))))
    ((conv => whnf); (refine Hc.flat f1 ?_ rfl ?_; (focus ((repeat ((conv => arg 1; whnf); first | exact Tels.nil | apply Tels.cons | apply Tel.aggs | apply Tel.tups | exact Tel.refl _ | exact Tel.nil1 _ | exact Tel.cap _ _ _ _)); done))); ((conv => whnf); repeat ((first | refine Wo ?_ | refine Lt (by decide) ?_ | refine Lf (by decide) ?_ | refine Cl (by decide) ?_ | refine Cr (by decide) ?_ | refine ⟨_, rfl, ?_⟩ | refine Mi rfl ?_); (conv => whnf))))
    ((conv => whnf); (refine Hc.flat f2 ?_ rfl ?_; (focus ((repeat ((conv => arg 1; whnf); first | exact Tels.nil | apply Tels.cons | apply Tel.aggs | apply Tel.tups | exact Tel.refl _ | exact Tel.nil1 _ | exact Tel.cap _ _ _ _)); done))); ((conv => whnf); repeat ((first | refine Wo ?_ | refine Lt (by decide) ?_ | refine Lf (by decide) ?_ | refine Cl (by decide) ?_ | refine Cr (by decide) ?_ | refine ⟨_, rfl, ?_⟩ | refine Mi rfl ?_); (conv => whnf))))
    ((conv => whnf); (refine Hc.runs d1 ?_ ?_; (focus ((repeat ((conv => arg 1; whnf); first | exact Tels.nil | apply Tels.cons | apply Tel.aggs | apply Tel.tups | exact Tel.refl _ | exact Tel.nil1 _ | exact Tel.cap _ _ _ _)); done))); ((conv => whnf); repeat ((first | refine Wo ?_ | refine Lt (by decide) ?_ | refine Lf (by decide) ?_ | refine Cl (by decide) ?_ | refine Cr (by decide) ?_ | refine ⟨_, rfl, ?_⟩ | refine Mi rfl ?_); (conv => whnf))))
    ((conv => whnf); (refine Hc.flat m ?_ rfl ?_; (focus ((repeat ((conv => arg 1; whnf); first | exact Tels.nil | apply Tels.cons | apply Tel.aggs | apply Tel.tups | exact Tel.refl _ | exact Tel.nil1 _ | exact Tel.cap _ _ _ _)); done))); ((conv => whnf); repeat ((first | refine Wo ?_ | refine Lt (by decide) ?_ | refine Lf (by decide) ?_ | refine Cl (by decide) ?_ | refine Cr (by decide) ?_ | refine ⟨_, rfl, ?_⟩ | refine Mi rfl ?_); (conv => whnf))))
    refine litE t1 ?_
    ((conv => whnf); repeat ((first | refine Wo ?_ | refine Lt (by decide) ?_ | refine Lf (by decide) ?_ | refine Cl (by decide) ?_ | refine Cr (by decide) ?_ | refine ⟨_, rfl, ?_⟩ | refine Mi rfl ?_); (conv => whnf)))
    ((conv => whnf); ((repeat ((conv => arg 1; whnf); first | exact Tels.nil | apply Tels.cons | apply Tel.aggs | apply Tel.tups | exact Tel.refl _ | exact Tel.nil1 _ | exact Tel.cap _ _ _ _)); done))
  · refine Runs.wp Go.Proofs.YtjldjhlccedkbaaGreatDoor.Am.hT Go.Proofs.YtjldjhlccedkbaaGreatDoor.Am.hm Tryz.func4 rfl (by decide) ⟨[], [0, 1, 2, 3, 5, 6, 8, 9, 10, 11, 12, 13, 14, 15, 16, 17, 18, 19, 28, 50, 70, 80], 117⟩ ?_; ((conv => whnf); repeat ((first | refine Wo ?_ | refine Lt (by decide) ?_ | refine Lf (by decide) ?_ | refine Cl (by decide) ?_ | refine Cr (by decide) ?_ | refine ⟨_, rfl, ?_⟩ | refine Mi rfl ?_); (conv => whnf)))
    ((conv => whnf); (refine Hc.flat f0 ?_ rfl ?_; (focus ((repeat ((conv => arg 1; whnf); first | exact Tels.nil | apply Tels.cons | apply Tel.aggs | apply Tel.tups | exact Tel.refl _ | exact Tel.nil1 _ | exact Tel.cap _ _ _ _)); done))); ((conv => whnf); repeat ((first | refine Wo ?_ | refine Lt (by decide) ?_ | refine Lf (by decide) ?_ | refine Cl (by decide) ?_ | refine Cr (by decide) ?_ | refine ⟨_, rfl, ?_⟩ | refine Mi rfl ?_); (conv => whnf))))
    ((conv => whnf); (refine Hc.flat f1 ?_ rfl ?_; (focus ((repeat ((conv => arg 1; whnf); first | exact Tels.nil | apply Tels.cons | apply Tel.aggs | apply Tel.tups | exact Tel.refl _ | exact Tel.nil1 _ | exact Tel.cap _ _ _ _)); done))); ((conv => whnf); repeat ((first | refine Wo ?_ | refine Lt (by decide) ?_ | refine Lf (by decide) ?_ | refine Cl (by decide) ?_ | refine Cr (by decide) ?_ | refine ⟨_, rfl, ?_⟩ | refine Mi rfl ?_); (conv => whnf))))
    ((conv => whnf); (refine Hc.flat f2 ?_ rfl ?_; (focus ((repeat ((conv => arg 1; whnf); first | exact Tels.nil | apply Tels.cons | apply Tel.aggs | apply Tel.tups | exact Tel.refl _ | exact Tel.nil1 _ | exact Tel.cap _ _ _ _)); done))); ((conv => whnf); repeat ((first | refine Wo ?_ | refine Lt (by decide) ?_ | refine Lf (by decide) ?_ | refine Cl (by decide) ?_ | refine Cr (by decide) ?_ | refine ⟨_, rfl, ?_⟩ | refine Mi rfl ?_); (conv => whnf))))
    ((conv => whnf); (refine Hc.runs d1 ?_ ?_; (focus ((repeat ((conv => arg 1; whnf); first | exact Tels.nil | apply Tels.cons | apply Tel.aggs | apply Tel.tups | exact Tel.refl _ | exact Tel.nil1 _ | exact Tel.cap _ _ _ _)); done))); ((conv => whnf); repeat ((first | refine Wo ?_ | refine Lt (by decide) ?_ | refine Lf (by decide) ?_ | refine Cl (by decide) ?_ | refine Cr (by decide) ?_ | refine ⟨_, rfl, ?_⟩ | refine Mi rfl ?_); (conv => whnf))))
    ((conv => whnf); (refine Hc.flat m ?_ rfl ?_; (focus ((repeat ((conv => arg 1; whnf); first | exact Tels.nil | apply Tels.cons | apply Tel.aggs | apply Tel.tups | exact Tel.refl _ | exact Tel.nil1 _ | exact Tel.cap _ _ _ _)); done))); ((conv => whnf); repeat ((first | refine Wo ?_ | refine Lt (by decide) ?_ | refine Lf (by decide) ?_ | refine Cl (by decide) ?_ | refine Cr (by decide) ?_ | refine ⟨_, rfl, ?_⟩ | refine Mi rfl ?_); (conv => whnf))))
    ((conv => whnf); ((repeat ((conv => arg 1; whnf); first | exact Tels.nil | apply Tels.cons | apply Tel.aggs | apply Tel.tups | exact Tel.refl _ | exact Tel.nil1 _ | exact Tel.cap _ _ _ _)); done))
theorem ite_yes {S : List Int} {E : List ByteArray} {n i : Nat} {a b : List Int × List ByteArray} {Z : List Int × List ByteArray} (hS : S ≠ []) (hn : manyZ S = n) (hn0 : 0 < n) (hi : IntKind.i64.wrap k = k) (hk : Int.tmod k n = (i : Int)) (f1 : Runs Tryz.prog 14 [vD s e none none] (bD true)) (f2 : Runs Tryz.prog 14 [vD t u none none] (bD true))
    (d1 : Runs Tryz.prog 16 [sD op, vD s e none none, vD t u none none] (.tup [vD S E none none, iD 0])) (m : Runs Tryz.prog 18 [vD S E none none] (iD n))
    (ha : (s = [] ∧ a = (s, e)) ∨ (s ≠ [] ∧ Runs Tryz.prog 19 [vD s e none none, iD i] (.tup [vD a.1 a.2 none none, bD true]))) (hb : (t = [] ∧ b = (t, u)) ∨ (t ≠ [] ∧ Runs Tryz.prog 19 [vD t u none none, iD i] (.tup [vD b.1 b.2 none none, bD true])))
    (d2 : Runs Tryz.prog 16 [sD op, vD a.1 a.2 none none, vD b.1 b.2 none none] (.tup [vD Z.1 Z.2 none none, iD 0])) (it : Runs Tryz.prog 19 [vD S E none none, iD i] (.tup [vD Z.1 Z.2 none none, bD true]))
    (my : Runs Tryz.prog 15 [vD S E none none] (bD true)) (sm : Runs Tryz.prog 17 [vD Z.1 Z.2 none none, vD Z.1 Z.2 none none] (bD true)) : Runs Tryz.prog 4 [sD op, vD s e none none, vD t u none none, .v (.int .u8 k)] (bD true) := by
  have f0 := shown_runs
  have t1 : ((n : Int) == 0) = false := by simp; omega
  have t2 : (((S.length : Nat) : Int) == 0) = false := by cases S with | nil => exact absurd rfl hS | cons _ _ => simp; omega
  have hk' : Int.tmod (IntKind.i64.wrap k) n = (i : Int) := by rw [hi]; exact hk
  rw [← hk'] at it
  have nz : ∀ {l : List Int}, l ≠ [] → decide (((l.length : Nat) : Int) > 0) = true := fun {l} h => by cases l with | nil => exact absurd rfl h | cons _ _ => simp
  rcases ha with ⟨rfl, rfl⟩ | ⟨hs, ha⟩
  · rcases hb with ⟨rfl, rfl⟩ | ⟨ht, hb⟩
    · refine Runs.wp Go.Proofs.YtjldjhlccedkbaaGreatDoor.Am.hT Go.Proofs.YtjldjhlccedkbaaGreatDoor.Am.hm Tryz.func4 rfl (by decide) ⟨[], [0, 1, 2, 3, 5, 6, 8, 9, 10, 11, 12, 13, 14, 15, 16, 17, 18, 19, 28, 50, 70, 80], 117⟩ ?_; ((conv => whnf); repeat ((first | refine Wo ?_ | refine Lt (by decide) ?_ | refine Lf (by decide) ?_ | refine Cl (by decide) ?_ | refine Cr (by decide) ?_ | refine ⟨_, rfl, ?_⟩ | refine Mi rfl ?_); (conv => whnf)))
      ((conv => whnf); (refine Hc.flat f0 ?_ rfl ?_; (focus ((repeat ((conv => arg 1; whnf); first | exact Tels.nil | apply Tels.cons | apply Tel.aggs | apply Tel.tups | exact Tel.refl _ | exact Tel.nil1 _ | exact Tel.cap _ _ _ _)); done))); ((conv => whnf); repeat ((first | refine Wo ?_ | refine Lt (by decide) ?_ | refine Lf (by decide) ?_ | refine Cl (by decide) ?_ | refine Cr (by decide) ?_ | refine ⟨_, rfl, ?_⟩ | refine Mi rfl ?_); (conv => whnf))))
      ((conv => whnf); (refine Hc.flat f1 ?_ rfl ?_; (focus ((repeat ((conv => arg 1; whnf); first | exact Tels.nil | apply Tels.cons | apply Tel.aggs | apply Tel.tups | exact Tel.refl _ | exact Tel.nil1 _ | exact Tel.cap _ _ _ _)); done))); ((conv => whnf); repeat ((first | refine Wo ?_ | refine Lt (by decide) ?_ | refine Lf (by decide) ?_ | refine Cl (by decide) ?_ | refine Cr (by decide) ?_ | refine ⟨_, rfl, ?_⟩ | refine Mi rfl ?_); (conv => whnf))))
      ((conv => whnf); (refine Hc.flat f2 ?_ rfl ?_; (focus ((repeat ((conv => arg 1; whnf); first | exact Tels.nil | apply Tels.cons | apply Tel.aggs | apply Tel.tups | exact Tel.refl _ | exact Tel.nil1 _ | exact Tel.cap _ _ _ _)); done))); ((conv => whnf); repeat ((first | refine Wo ?_ | refine Lt (by decide) ?_ | refine Lf (by decide) ?_ | refine Cl (by decide) ?_ | refine Cr (by decide) ?_ | refine ⟨_, rfl, ?_⟩ | refine Mi rfl ?_); (conv => whnf))))
      ((conv => whnf); (refine Hc.runs d1 ?_ ?_; (focus ((repeat ((conv => arg 1; whnf); first | exact Tels.nil | apply Tels.cons | apply Tel.aggs | apply Tel.tups | exact Tel.refl _ | exact Tel.nil1 _ | exact Tel.cap _ _ _ _)); done))); ((conv => whnf); repeat ((first | refine Wo ?_ | refine Lt (by decide) ?_ | refine Lf (by decide) ?_ | refine Cl (by decide) ?_ | refine Cr (by decide) ?_ | refine ⟨_, rfl, ?_⟩ | refine Mi rfl ?_); (conv => whnf))))
      ((conv => whnf); (refine Hc.flat m ?_ rfl ?_; (focus ((repeat ((conv => arg 1; whnf); first | exact Tels.nil | apply Tels.cons | apply Tel.aggs | apply Tel.tups | exact Tel.refl _ | exact Tel.nil1 _ | exact Tel.cap _ _ _ _)); done))); ((conv => whnf); repeat ((first | refine Wo ?_ | refine Lt (by decide) ?_ | refine Lf (by decide) ?_ | refine Cl (by decide) ?_ | refine Cr (by decide) ?_ | refine ⟨_, rfl, ?_⟩ | refine Mi rfl ?_); (conv => whnf))))
      refine litE t1 ?_
      ((conv => whnf); repeat ((first | refine Wo ?_ | refine Lt (by decide) ?_ | refine Lf (by decide) ?_ | refine Cl (by decide) ?_ | refine Cr (by decide) ?_ | refine ⟨_, rfl, ?_⟩ | refine Mi rfl ?_); (conv => whnf)))
      refine litE t2 ?_
      ((conv => whnf); repeat ((first | refine Wo ?_ | refine Lt (by decide) ?_ | refine Lf (by decide) ?_ | refine Cl (by decide) ?_ | refine Cr (by decide) ?_ | refine ⟨_, rfl, ?_⟩ | refine Mi rfl ?_); (conv => whnf)))
      refine ⟨rfl, by omega, ?_⟩
      ((conv => whnf); repeat ((first | refine Wo ?_ | refine Lt (by decide) ?_ | refine Lf (by decide) ?_ | refine Cl (by decide) ?_ | refine Cr (by decide) ?_ | refine ⟨_, rfl, ?_⟩ | refine Mi rfl ?_); (conv => whnf)))
      ((conv => whnf); (refine Hc.runs d2 ?_ ?_; (focus ((repeat ((conv => arg 1; whnf); first | exact Tels.nil | apply Tels.cons | apply Tel.aggs | apply Tel.tups | exact Tel.refl _ | exact Tel.nil1 _ | exact Tel.cap _ _ _ _)); done))); ((conv => whnf); repeat ((first | refine Wo ?_ | refine Lt (by decide) ?_ | refine Lf (by decide) ?_ | refine Cl (by decide) ?_ | refine Cr (by decide) ?_ | refine ⟨_, rfl, ?_⟩ | refine Mi rfl ?_); (conv => whnf))))
      ((conv => whnf); (refine Hc.runs it ?_ ?_; (focus ((repeat ((conv => arg 1; whnf); first | exact Tels.nil | apply Tels.cons | apply Tel.aggs | apply Tel.tups | exact Tel.refl _ | exact Tel.nil1 _ | exact Tel.cap _ _ _ _)); done))); ((conv => whnf); repeat ((first | refine Wo ?_ | refine Lt (by decide) ?_ | refine Lf (by decide) ?_ | refine Cl (by decide) ?_ | refine Cr (by decide) ?_ | refine ⟨_, rfl, ?_⟩ | refine Mi rfl ?_); (conv => whnf))))
      ((conv => whnf); (refine Hc.flat my ?_ rfl ?_; (focus ((repeat ((conv => arg 1; whnf); first | exact Tels.nil | apply Tels.cons | apply Tel.aggs | apply Tel.tups | exact Tel.refl _ | exact Tel.nil1 _ | exact Tel.cap _ _ _ _)); done))); ((conv => whnf); repeat ((first | refine Wo ?_ | refine Lt (by decide) ?_ | refine Lf (by decide) ?_ | refine Cl (by decide) ?_ | refine Cr (by decide) ?_ | refine ⟨_, rfl, ?_⟩ | refine Mi rfl ?_); (conv => whnf))))
      ((conv => whnf); (refine Hc.flat sm ?_ rfl ?_; (focus ((repeat ((conv => arg 1; whnf); first | exact Tels.nil | apply Tels.cons | apply Tel.aggs | apply Tel.tups | exact Tel.refl _ | exact Tel.nil1 _ | exact Tel.cap _ _ _ _)); done))); ((conv => whnf); repeat ((first | refine Wo ?_ | refine Lt (by decide) ?_ | refine Lf (by decide) ?_ | refine Cl (by decide) ?_ | refine Cr (by decide) ?_ | refine ⟨_, rfl, ?_⟩ | refine Mi rfl ?_); (conv => whnf))))
      ((conv => whnf); ((repeat ((conv => arg 1; whnf); first | exact Tels.nil | apply Tels.cons | apply Tel.aggs | apply Tel.tups | exact Tel.refl _ | exact Tel.nil1 _ | exact Tel.cap _ _ _ _)); done))
    · rw [← hk'] at hb
      have t3 := nz ht
      refine Runs.wp Go.Proofs.YtjldjhlccedkbaaGreatDoor.Am.hT Go.Proofs.YtjldjhlccedkbaaGreatDoor.Am.hm Tryz.func4 rfl (by decide) ⟨[], [0, 1, 2, 3, 5, 6, 8, 9, 10, 11, 12, 13, 14, 15, 16, 17, 18, 19, 28, 50, 70, 80], 117⟩ ?_; ((conv => whnf); repeat ((first | refine Wo ?_ | refine Lt (by decide) ?_ | refine Lf (by decide) ?_ | refine Cl (by decide) ?_ | refine Cr (by decide) ?_ | refine ⟨_, rfl, ?_⟩ | refine Mi rfl ?_); (conv => whnf)))
      ((conv => whnf); (refine Hc.flat f0 ?_ rfl ?_; (focus ((repeat ((conv => arg 1; whnf); first | exact Tels.nil | apply Tels.cons | apply Tel.aggs | apply Tel.tups | exact Tel.refl _ | exact Tel.nil1 _ | exact Tel.cap _ _ _ _)); done))); ((conv => whnf); repeat ((first | refine Wo ?_ | refine Lt (by decide) ?_ | refine Lf (by decide) ?_ | refine Cl (by decide) ?_ | refine Cr (by decide) ?_ | refine ⟨_, rfl, ?_⟩ | refine Mi rfl ?_); (conv => whnf))))
      ((conv => whnf); (refine Hc.flat f1 ?_ rfl ?_; (focus ((repeat ((conv => arg 1; whnf); first | exact Tels.nil | apply Tels.cons | apply Tel.aggs | apply Tel.tups | exact Tel.refl _ | exact Tel.nil1 _ | exact Tel.cap _ _ _ _)); done))); ((conv => whnf); repeat ((first | refine Wo ?_ | refine Lt (by decide) ?_ | refine Lf (by decide) ?_ | refine Cl (by decide) ?_ | refine Cr (by decide) ?_ | refine ⟨_, rfl, ?_⟩ | refine Mi rfl ?_); (conv => whnf))))
      ((conv => whnf); (refine Hc.flat f2 ?_ rfl ?_; (focus ((repeat ((conv => arg 1; whnf); first | exact Tels.nil | apply Tels.cons | apply Tel.aggs | apply Tel.tups | exact Tel.refl _ | exact Tel.nil1 _ | exact Tel.cap _ _ _ _)); done))); ((conv => whnf); repeat ((first | refine Wo ?_ | refine Lt (by decide) ?_ | refine Lf (by decide) ?_ | refine Cl (by decide) ?_ | refine Cr (by decide) ?_ | refine ⟨_, rfl, ?_⟩ | refine Mi rfl ?_); (conv => whnf))))
      ((conv => whnf); (refine Hc.runs d1 ?_ ?_; (focus ((repeat ((conv => arg 1; whnf); first | exact Tels.nil | apply Tels.cons | apply Tel.aggs | apply Tel.tups | exact Tel.refl _ | exact Tel.nil1 _ | exact Tel.cap _ _ _ _)); done))); ((conv => whnf); repeat ((first | refine Wo ?_ | refine Lt (by decide) ?_ | refine Lf (by decide) ?_ | refine Cl (by decide) ?_ | refine Cr (by decide) ?_ | refine ⟨_, rfl, ?_⟩ | refine Mi rfl ?_); (conv => whnf))))
      ((conv => whnf); (refine Hc.flat m ?_ rfl ?_; (focus ((repeat ((conv => arg 1; whnf); first | exact Tels.nil | apply Tels.cons | apply Tel.aggs | apply Tel.tups | exact Tel.refl _ | exact Tel.nil1 _ | exact Tel.cap _ _ _ _)); done))); ((conv => whnf); repeat ((first | refine Wo ?_ | refine Lt (by decide) ?_ | refine Lf (by decide) ?_ | refine Cl (by decide) ?_ | refine Cr (by decide) ?_ | refine ⟨_, rfl, ?_⟩ | refine Mi rfl ?_); (conv => whnf))))
      refine litE t1 ?_
      ((conv => whnf); repeat ((first | refine Wo ?_ | refine Lt (by decide) ?_ | refine Lf (by decide) ?_ | refine Cl (by decide) ?_ | refine Cr (by decide) ?_ | refine ⟨_, rfl, ?_⟩ | refine Mi rfl ?_); (conv => whnf)))
      refine litE t2 ?_
      ((conv => whnf); repeat ((first | refine Wo ?_ | refine Lt (by decide) ?_ | refine Lf (by decide) ?_ | refine Cl (by decide) ?_ | refine Cr (by decide) ?_ | refine ⟨_, rfl, ?_⟩ | refine Mi rfl ?_); (conv => whnf)))
      refine ⟨rfl, by omega, ?_⟩
      ((conv => whnf); repeat ((first | refine Wo ?_ | refine Lt (by decide) ?_ | refine Lf (by decide) ?_ | refine Cl (by decide) ?_ | refine Cr (by decide) ?_ | refine ⟨_, rfl, ?_⟩ | refine Mi rfl ?_); (conv => whnf)))
      refine litE t3 ?_
      ((conv => whnf); repeat ((first | refine Wo ?_ | refine Lt (by decide) ?_ | refine Lf (by decide) ?_ | refine Cl (by decide) ?_ | refine Cr (by decide) ?_ | refine ⟨_, rfl, ?_⟩ | refine Mi rfl ?_); (conv => whnf)))
      ((conv => whnf); (refine Hc.runs hb ?_ ?_; (focus ((repeat ((conv => arg 1; whnf); first | exact Tels.nil | apply Tels.cons | apply Tel.aggs | apply Tel.tups | exact Tel.refl _ | exact Tel.nil1 _ | exact Tel.cap _ _ _ _)); done))); ((conv => whnf); repeat ((first | refine Wo ?_ | refine Lt (by decide) ?_ | refine Lf (by decide) ?_ | refine Cl (by decide) ?_ | refine Cr (by decide) ?_ | refine ⟨_, rfl, ?_⟩ | refine Mi rfl ?_); (conv => whnf))))
      ((conv => whnf); (refine Hc.runs d2 ?_ ?_; (focus ((repeat ((conv => arg 1; whnf); first | exact Tels.nil | apply Tels.cons | apply Tel.aggs | apply Tel.tups | exact Tel.refl _ | exact Tel.nil1 _ | exact Tel.cap _ _ _ _)); done))); ((conv => whnf); repeat ((first | refine Wo ?_ | refine Lt (by decide) ?_ | refine Lf (by decide) ?_ | refine Cl (by decide) ?_ | refine Cr (by decide) ?_ | refine ⟨_, rfl, ?_⟩ | refine Mi rfl ?_); (conv => whnf))))
      ((conv => whnf); (refine Hc.runs it ?_ ?_; (focus ((repeat ((conv => arg 1; whnf); first | exact Tels.nil | apply Tels.cons | apply Tel.aggs | apply Tel.tups | exact Tel.refl _ | exact Tel.nil1 _ | exact Tel.cap _ _ _ _)); done))); ((conv => whnf); repeat ((first | refine Wo ?_ | refine Lt (by decide) ?_ | refine Lf (by decide) ?_ | refine Cl (by decide) ?_ | refine Cr (by decide) ?_ | refine ⟨_, rfl, ?_⟩ | refine Mi rfl ?_); (conv => whnf))))
      ((conv => whnf); (refine Hc.flat my ?_ rfl ?_; (focus ((repeat ((conv => arg 1; whnf); first | exact Tels.nil | apply Tels.cons | apply Tel.aggs | apply Tel.tups | exact Tel.refl _ | exact Tel.nil1 _ | exact Tel.cap _ _ _ _)); done))); ((conv => whnf); repeat ((first | refine Wo ?_ | refine Lt (by decide) ?_ | refine Lf (by decide) ?_ | refine Cl (by decide) ?_ | refine Cr (by decide) ?_ | refine ⟨_, rfl, ?_⟩ | refine Mi rfl ?_); (conv => whnf))))
      ((conv => whnf); (refine Hc.flat sm ?_ rfl ?_; (focus ((repeat ((conv => arg 1; whnf); first | exact Tels.nil | apply Tels.cons | apply Tel.aggs | apply Tel.tups | exact Tel.refl _ | exact Tel.nil1 _ | exact Tel.cap _ _ _ _)); done))); ((conv => whnf); repeat ((first | refine Wo ?_ | refine Lt (by decide) ?_ | refine Lf (by decide) ?_ | refine Cl (by decide) ?_ | refine Cr (by decide) ?_ | refine ⟨_, rfl, ?_⟩ | refine Mi rfl ?_); (conv => whnf))))
      ((conv => whnf); ((repeat ((conv => arg 1; whnf); first | exact Tels.nil | apply Tels.cons | apply Tel.aggs | apply Tel.tups | exact Tel.refl _ | exact Tel.nil1 _ | exact Tel.cap _ _ _ _)); done))
  · rw [← hk'] at ha
    have t4 := nz hs
    rcases hb with ⟨rfl, rfl⟩ | ⟨ht, hb⟩
    · refine Runs.wp Go.Proofs.YtjldjhlccedkbaaGreatDoor.Am.hT Go.Proofs.YtjldjhlccedkbaaGreatDoor.Am.hm Tryz.func4 rfl (by decide) ⟨[], [0, 1, 2, 3, 5, 6, 8, 9, 10, 11, 12, 13, 14, 15, 16, 17, 18, 19, 28, 50, 70, 80], 117⟩ ?_; ((conv => whnf); repeat ((first | refine Wo ?_ | refine Lt (by decide) ?_ | refine Lf (by decide) ?_ | refine Cl (by decide) ?_ | refine Cr (by decide) ?_ | refine ⟨_, rfl, ?_⟩ | refine Mi rfl ?_); (conv => whnf)))
      ((conv => whnf); (refine Hc.flat f0 ?_ rfl ?_; (focus ((repeat ((conv => arg 1; whnf); first | exact Tels.nil | apply Tels.cons | apply Tel.aggs | apply Tel.tups | exact Tel.refl _ | exact Tel.nil1 _ | exact Tel.cap _ _ _ _)); done))); ((conv => whnf); repeat ((first | refine Wo ?_ | refine Lt (by decide) ?_ | refine Lf (by decide) ?_ | refine Cl (by decide) ?_ | refine Cr (by decide) ?_ | refine ⟨_, rfl, ?_⟩ | refine Mi rfl ?_); (conv => whnf))))
      ((conv => whnf); (refine Hc.flat f1 ?_ rfl ?_; (focus ((repeat ((conv => arg 1; whnf); first | exact Tels.nil | apply Tels.cons | apply Tel.aggs | apply Tel.tups | exact Tel.refl _ | exact Tel.nil1 _ | exact Tel.cap _ _ _ _)); done))); ((conv => whnf); repeat ((first | refine Wo ?_ | refine Lt (by decide) ?_ | refine Lf (by decide) ?_ | refine Cl (by decide) ?_ | refine Cr (by decide) ?_ | refine ⟨_, rfl, ?_⟩ | refine Mi rfl ?_); (conv => whnf))))
      ((conv => whnf); (refine Hc.flat f2 ?_ rfl ?_; (focus ((repeat ((conv => arg 1; whnf); first | exact Tels.nil | apply Tels.cons | apply Tel.aggs | apply Tel.tups | exact Tel.refl _ | exact Tel.nil1 _ | exact Tel.cap _ _ _ _)); done))); ((conv => whnf); repeat ((first | refine Wo ?_ | refine Lt (by decide) ?_ | refine Lf (by decide) ?_ | refine Cl (by decide) ?_ | refine Cr (by decide) ?_ | refine ⟨_, rfl, ?_⟩ | refine Mi rfl ?_); (conv => whnf))))
      ((conv => whnf); (refine Hc.runs d1 ?_ ?_; (focus ((repeat ((conv => arg 1; whnf); first | exact Tels.nil | apply Tels.cons | apply Tel.aggs | apply Tel.tups | exact Tel.refl _ | exact Tel.nil1 _ | exact Tel.cap _ _ _ _)); done))); ((conv => whnf); repeat ((first | refine Wo ?_ | refine Lt (by decide) ?_ | refine Lf (by decide) ?_ | refine Cl (by decide) ?_ | refine Cr (by decide) ?_ | refine ⟨_, rfl, ?_⟩ | refine Mi rfl ?_); (conv => whnf))))
      ((conv => whnf); (refine Hc.flat m ?_ rfl ?_; (focus ((repeat ((conv => arg 1; whnf); first | exact Tels.nil | apply Tels.cons | apply Tel.aggs | apply Tel.tups | exact Tel.refl _ | exact Tel.nil1 _ | exact Tel.cap _ _ _ _)); done))); ((conv => whnf); repeat ((first | refine Wo ?_ | refine Lt (by decide) ?_ | refine Lf (by decide) ?_ | refine Cl (by decide) ?_ | refine Cr (by decide) ?_ | refine ⟨_, rfl, ?_⟩ | refine Mi rfl ?_); (conv => whnf))))
      refine litE t1 ?_
      ((conv => whnf); repeat ((first | refine Wo ?_ | refine Lt (by decide) ?_ | refine Lf (by decide) ?_ | refine Cl (by decide) ?_ | refine Cr (by decide) ?_ | refine ⟨_, rfl, ?_⟩ | refine Mi rfl ?_); (conv => whnf)))
      refine litE t2 ?_
      ((conv => whnf); repeat ((first | refine Wo ?_ | refine Lt (by decide) ?_ | refine Lf (by decide) ?_ | refine Cl (by decide) ?_ | refine Cr (by decide) ?_ | refine ⟨_, rfl, ?_⟩ | refine Mi rfl ?_); (conv => whnf)))
      refine ⟨rfl, by omega, ?_⟩
      ((conv => whnf); repeat ((first | refine Wo ?_ | refine Lt (by decide) ?_ | refine Lf (by decide) ?_ | refine Cl (by decide) ?_ | refine Cr (by decide) ?_ | refine ⟨_, rfl, ?_⟩ | refine Mi rfl ?_); (conv => whnf)))
      refine litE t4 ?_
      ((conv => whnf); repeat ((first | refine Wo ?_ | refine Lt (by decide) ?_ | refine Lf (by decide) ?_ | refine Cl (by decide) ?_ | refine Cr (by decide) ?_ | refine ⟨_, rfl, ?_⟩ | refine Mi rfl ?_); (conv => whnf)))
      ((conv => whnf); (refine Hc.runs ha ?_ ?_; (focus ((repeat ((conv => arg 1; whnf); first | exact Tels.nil | apply Tels.cons | apply Tel.aggs | apply Tel.tups | exact Tel.refl _ | exact Tel.nil1 _ | exact Tel.cap _ _ _ _)); done))); ((conv => whnf); repeat ((first | refine Wo ?_ | refine Lt (by decide) ?_ | refine Lf (by decide) ?_ | refine Cl (by decide) ?_ | refine Cr (by decide) ?_ | refine ⟨_, rfl, ?_⟩ | refine Mi rfl ?_); (conv => whnf))))
      ((conv => whnf); (refine Hc.runs d2 ?_ ?_; (focus ((repeat ((conv => arg 1; whnf); first | exact Tels.nil | apply Tels.cons | apply Tel.aggs | apply Tel.tups | exact Tel.refl _ | exact Tel.nil1 _ | exact Tel.cap _ _ _ _)); done))); ((conv => whnf); repeat ((first | refine Wo ?_ | refine Lt (by decide) ?_ | refine Lf (by decide) ?_ | refine Cl (by decide) ?_ | refine Cr (by decide) ?_ | refine ⟨_, rfl, ?_⟩ | refine Mi rfl ?_); (conv => whnf))))
      ((conv => whnf); (refine Hc.runs it ?_ ?_; (focus ((repeat ((conv => arg 1; whnf); first | exact Tels.nil | apply Tels.cons | apply Tel.aggs | apply Tel.tups | exact Tel.refl _ | exact Tel.nil1 _ | exact Tel.cap _ _ _ _)); done))); ((conv => whnf); repeat ((first | refine Wo ?_ | refine Lt (by decide) ?_ | refine Lf (by decide) ?_ | refine Cl (by decide) ?_ | refine Cr (by decide) ?_ | refine ⟨_, rfl, ?_⟩ | refine Mi rfl ?_); (conv => whnf))))
      ((conv => whnf); (refine Hc.flat my ?_ rfl ?_; (focus ((repeat ((conv => arg 1; whnf); first | exact Tels.nil | apply Tels.cons | apply Tel.aggs | apply Tel.tups | exact Tel.refl _ | exact Tel.nil1 _ | exact Tel.cap _ _ _ _)); done))); ((conv => whnf); repeat ((first | refine Wo ?_ | refine Lt (by decide) ?_ | refine Lf (by decide) ?_ | refine Cl (by decide) ?_ | refine Cr (by decide) ?_ | refine ⟨_, rfl, ?_⟩ | refine Mi rfl ?_); (conv => whnf))))
      ((conv => whnf); (refine Hc.flat sm ?_ rfl ?_; (focus ((repeat ((conv => arg 1; whnf); first | exact Tels.nil | apply Tels.cons | apply Tel.aggs | apply Tel.tups | exact Tel.refl _ | exact Tel.nil1 _ | exact Tel.cap _ _ _ _)); done))); ((conv => whnf); repeat ((first | refine Wo ?_ | refine Lt (by decide) ?_ | refine Lf (by decide) ?_ | refine Cl (by decide) ?_ | refine Cr (by decide) ?_ | refine ⟨_, rfl, ?_⟩ | refine Mi rfl ?_); (conv => whnf))))
      ((conv => whnf); ((repeat ((conv => arg 1; whnf); first | exact Tels.nil | apply Tels.cons | apply Tel.aggs | apply Tel.tups | exact Tel.refl _ | exact Tel.nil1 _ | exact Tel.cap _ _ _ _)); done))
    · rw [← hk'] at hb
      have t3 := nz ht
      refine Runs.wp Go.Proofs.YtjldjhlccedkbaaGreatDoor.Am.hT Go.Proofs.YtjldjhlccedkbaaGreatDoor.Am.hm Tryz.func4 rfl (by decide) ⟨[], [0, 1, 2, 3, 5, 6, 8, 9, 10, 11, 12, 13, 14, 15, 16, 17, 18, 19, 28, 50, 70, 80], 117⟩ ?_; ((conv => whnf); repeat ((first | refine Wo ?_ | refine Lt (by decide) ?_ | refine Lf (by decide) ?_ | refine Cl (by decide) ?_ | refine Cr (by decide) ?_ | refine ⟨_, rfl, ?_⟩ | refine Mi rfl ?_); (conv => whnf)))
      ((conv => whnf); (refine Hc.flat f0 ?_ rfl ?_; (focus ((repeat ((conv => arg 1; whnf); first | exact Tels.nil | apply Tels.cons | apply Tel.aggs | apply Tel.tups | exact Tel.refl _ | exact Tel.nil1 _ | exact Tel.cap _ _ _ _)); done))); ((conv => whnf); repeat ((first | refine Wo ?_ | refine Lt (by decide) ?_ | refine Lf (by decide) ?_ | refine Cl (by decide) ?_ | refine Cr (by decide) ?_ | refine ⟨_, rfl, ?_⟩ | refine Mi rfl ?_); (conv => whnf))))
      ((conv => whnf); (refine Hc.flat f1 ?_ rfl ?_; (focus ((repeat ((conv => arg 1; whnf); first | exact Tels.nil | apply Tels.cons | apply Tel.aggs | apply Tel.tups | exact Tel.refl _ | exact Tel.nil1 _ | exact Tel.cap _ _ _ _)); done))); ((conv => whnf); repeat ((first | refine Wo ?_ | refine Lt (by decide) ?_ | refine Lf (by decide) ?_ | refine Cl (by decide) ?_ | refine Cr (by decide) ?_ | refine ⟨_, rfl, ?_⟩ | refine Mi rfl ?_); (conv => whnf))))
      ((conv => whnf); (refine Hc.flat f2 ?_ rfl ?_; (focus ((repeat ((conv => arg 1; whnf); first | exact Tels.nil | apply Tels.cons | apply Tel.aggs | apply Tel.tups | exact Tel.refl _ | exact Tel.nil1 _ | exact Tel.cap _ _ _ _)); done))); ((conv => whnf); repeat ((first | refine Wo ?_ | refine Lt (by decide) ?_ | refine Lf (by decide) ?_ | refine Cl (by decide) ?_ | refine Cr (by decide) ?_ | refine ⟨_, rfl, ?_⟩ | refine Mi rfl ?_); (conv => whnf))))
      ((conv => whnf); (refine Hc.runs d1 ?_ ?_; (focus ((repeat ((conv => arg 1; whnf); first | exact Tels.nil | apply Tels.cons | apply Tel.aggs | apply Tel.tups | exact Tel.refl _ | exact Tel.nil1 _ | exact Tel.cap _ _ _ _)); done))); ((conv => whnf); repeat ((first | refine Wo ?_ | refine Lt (by decide) ?_ | refine Lf (by decide) ?_ | refine Cl (by decide) ?_ | refine Cr (by decide) ?_ | refine ⟨_, rfl, ?_⟩ | refine Mi rfl ?_); (conv => whnf))))
      ((conv => whnf); (refine Hc.flat m ?_ rfl ?_; (focus ((repeat ((conv => arg 1; whnf); first | exact Tels.nil | apply Tels.cons | apply Tel.aggs | apply Tel.tups | exact Tel.refl _ | exact Tel.nil1 _ | exact Tel.cap _ _ _ _)); done))); ((conv => whnf); repeat ((first | refine Wo ?_ | refine Lt (by decide) ?_ | refine Lf (by decide) ?_ | refine Cl (by decide) ?_ | refine Cr (by decide) ?_ | refine ⟨_, rfl, ?_⟩ | refine Mi rfl ?_); (conv => whnf))))
      refine litE t1 ?_
      ((conv => whnf); repeat ((first | refine Wo ?_ | refine Lt (by decide) ?_ | refine Lf (by decide) ?_ | refine Cl (by decide) ?_ | refine Cr (by decide) ?_ | refine ⟨_, rfl, ?_⟩ | refine Mi rfl ?_); (conv => whnf)))
      refine litE t2 ?_
      ((conv => whnf); repeat ((first | refine Wo ?_ | refine Lt (by decide) ?_ | refine Lf (by decide) ?_ | refine Cl (by decide) ?_ | refine Cr (by decide) ?_ | refine ⟨_, rfl, ?_⟩ | refine Mi rfl ?_); (conv => whnf)))
      refine ⟨rfl, by omega, ?_⟩
      ((conv => whnf); repeat ((first | refine Wo ?_ | refine Lt (by decide) ?_ | refine Lf (by decide) ?_ | refine Cl (by decide) ?_ | refine Cr (by decide) ?_ | refine ⟨_, rfl, ?_⟩ | refine Mi rfl ?_); (conv => whnf)))
      refine litE t4 ?_
      ((conv => whnf); repeat ((first | refine Wo ?_ | refine Lt (by decide) ?_ | refine Lf (by decide) ?_ | refine Cl (by decide) ?_ | refine Cr (by decide) ?_ | refine ⟨_, rfl, ?_⟩ | refine Mi rfl ?_); (conv => whnf)))
      ((conv => whnf); (refine Hc.runs ha ?_ ?_; (focus ((repeat ((conv => arg 1; whnf); first | exact Tels.nil | apply Tels.cons | apply Tel.aggs | apply Tel.tups | exact Tel.refl _ | exact Tel.nil1 _ | exact Tel.cap _ _ _ _)); done))); ((conv => whnf); repeat ((first | refine Wo ?_ | refine Lt (by decide) ?_ | refine Lf (by decide) ?_ | refine Cl (by decide) ?_ | refine Cr (by decide) ?_ | refine ⟨_, rfl, ?_⟩ | refine Mi rfl ?_); (conv => whnf))))
      refine litE t3 ?_
      ((conv => whnf); repeat ((first | refine Wo ?_ | refine Lt (by decide) ?_ | refine Lf (by decide) ?_ | refine Cl (by decide) ?_ | refine Cr (by decide) ?_ | refine ⟨_, rfl, ?_⟩ | refine Mi rfl ?_); (conv => whnf)))
      ((conv => whnf); (refine Hc.runs hb ?_ ?_; (focus ((repeat ((conv => arg 1; whnf); first | exact Tels.nil | apply Tels.cons | apply Tel.aggs | apply Tel.tups | exact Tel.refl _ | exact Tel.nil1 _ | exact Tel.cap _ _ _ _)); done))); ((conv => whnf); repeat ((first | refine Wo ?_ | refine Lt (by decide) ?_ | refine Lf (by decide) ?_ | refine Cl (by decide) ?_ | refine Cr (by decide) ?_ | refine ⟨_, rfl, ?_⟩ | refine Mi rfl ?_); (conv => whnf))))
      ((conv => whnf); (refine Hc.runs d2 ?_ ?_; (focus ((repeat ((conv => arg 1; whnf); first | exact Tels.nil | apply Tels.cons | apply Tel.aggs | apply Tel.tups | exact Tel.refl _ | exact Tel.nil1 _ | exact Tel.cap _ _ _ _)); done))); ((conv => whnf); repeat ((first | refine Wo ?_ | refine Lt (by decide) ?_ | refine Lf (by decide) ?_ | refine Cl (by decide) ?_ | refine Cr (by decide) ?_ | refine ⟨_, rfl, ?_⟩ | refine Mi rfl ?_); (conv => whnf))))
      ((conv => whnf); (refine Hc.runs it ?_ ?_; (focus ((repeat ((conv => arg 1; whnf); first | exact Tels.nil | apply Tels.cons | apply Tel.aggs | apply Tel.tups | exact Tel.refl _ | exact Tel.nil1 _ | exact Tel.cap _ _ _ _)); done))); ((conv => whnf); repeat ((first | refine Wo ?_ | refine Lt (by decide) ?_ | refine Lf (by decide) ?_ | refine Cl (by decide) ?_ | refine Cr (by decide) ?_ | refine ⟨_, rfl, ?_⟩ | refine Mi rfl ?_); (conv => whnf))))
      ((conv => whnf); (refine Hc.flat my ?_ rfl ?_; (focus ((repeat ((conv => arg 1; whnf); first | exact Tels.nil | apply Tels.cons | apply Tel.aggs | apply Tel.tups | exact Tel.refl _ | exact Tel.nil1 _ | exact Tel.cap _ _ _ _)); done))); ((conv => whnf); repeat ((first | refine Wo ?_ | refine Lt (by decide) ?_ | refine Lf (by decide) ?_ | refine Cl (by decide) ?_ | refine Cr (by decide) ?_ | refine ⟨_, rfl, ?_⟩ | refine Mi rfl ?_); (conv => whnf))))
      ((conv => whnf); (refine Hc.flat sm ?_ rfl ?_; (focus ((repeat ((conv => arg 1; whnf); first | exact Tels.nil | apply Tels.cons | apply Tel.aggs | apply Tel.tups | exact Tel.refl _ | exact Tel.nil1 _ | exact Tel.cap _ _ _ _)); done))); ((conv => whnf); repeat ((first | refine Wo ?_ | refine Lt (by decide) ?_ | refine Lf (by decide) ?_ | refine Cl (by decide) ?_ | refine Cr (by decide) ?_ | refine ⟨_, rfl, ?_⟩ | refine Mi rfl ?_); (conv => whnf))))
      ((conv => whnf); ((repeat ((conv => arg 1; whnf); first | exact Tels.nil | apply Tels.cons | apply Tel.aggs | apply Tel.tups | exact Tel.refl _ | exact Tel.nil1 _ | exact Tel.cap _ _ _ _)); done))
end
theorem it_len {s : List Int} {e : List ByteArray} {i : Nat} (hs : s.length ≤ 9223372036854775807) (he : e.length ≤ 9223372036854775807) : (itS s e i).1.length ≤ 9223372036854775807 ∧ (itS s e i).2.length ≤ 9223372036854775807 := by
  unfold itS
  refine ⟨by simp; omega, ?_⟩
  have : ((e.drop (i * (e.length / (manyZ s).toNat))).take (e.length / (manyZ s).toNat)).length ≤ e.length := Nat.le_trans (List.length_take_le' _ _) (by simp)
  exact Nat.le_trans this he
theorem SpreadItems_runs (op : ByteArray) (s1 : List Int) (e1 : List ByteArray) (s2 : List Int) (e2 : List ByteArray) (k : Int) (l1 : s1.length ≤ 9223372036854775807) (j1 : e1.length ≤ 9223372036854775807) (l2 : s2.length ≤ 9223372036854775807) (j2 : e2.length ≤ 9223372036854775807) (hk : (Lit.int .u8 k).wf = true) :
    Runs Tryz.prog 4 [sD op, vD s1 e1 none none, vD s2 e2 none none, .v (.int .u8 k)] (bD true) := by
  have hk0 : 0 ≤ k ∧ k ≤ 255 := by simp only [Lit.wf, Bool.and_eq_true, decide_eq_true_eq] at hk; exact ⟨hk.1, hk.2⟩
  have f1 := few_runs s1 e1 (by omega) j1
  have f2 := few_runs s2 e2 (by omega) j2
  cases hf : fewB s1 e1 with
  | false => rw [hf] at f1; exact ite_no1 f1
  | true =>
    rw [hf] at f1
    cases hf2 : fewB s2 e2 with
    | false => rw [hf2] at f2; exact ite_no2 f1 f2
    | true =>
      rw [hf2] at f2
      have d1 := dyad_runs op s1 e1 s2 e2 l1 l2 j1 j2
      obtain ⟨q1, q2⟩ := dyO_len op s1 s2 e1 e2
      by_cases hx : (dyO op s1 e1 s2 e2).2 = 0
      · obtain ⟨g1, g2, ho, hm, hz, he⟩ := dy_inv hx
        obtain ⟨k1, k2, _⟩ := meet_ok g1 g2 hm
        have r3 := (size_ok k1).1
        rw [he] at d1
        generalize hS : (meetS s1 s2).1 = S at *
        generalize hE : ((List.range (dyN s1 s2)).map fun i => (dyR op s1 e1 s2 e2 i).1) = E at *
        have m := many_runs S E (by omega)
        have hE1 : E.length ≤ 4096 := by rw [← hE]; simp; omega
        have hnn : 0 ≤ manyZ S := by
          cases S with
          | nil => simp [manyZ]
          | cons a l => exact ((size_ok k1).2.1 a (by simp)).1
        by_cases h0 : manyZ S = 0 ∨ S = []
        · exact ite_none h0 f1 f2 d1 m
        · have hne : S ≠ [] := fun h => h0 (.inr h)
          have hnz : manyZ S ≠ 0 := fun h => h0 (.inl h)
          obtain ⟨n, hn⟩ : ∃ n : Nat, manyZ S = (n : Int) := ⟨(manyZ S).toNat, by omega⟩
          obtain ⟨i, hi⟩ : ∃ i : Nat, k % (n : Int) = (i : Int) := ⟨(k % (n : Int)).toNat, by have := Int.emod_nonneg k (show (n : Int) ≠ 0 by omega); omega⟩
          have hin : (i : Int) < manyZ S := by rw [hn, ← hi]; exact Int.emod_lt_of_pos k (by omega)
          obtain ⟨c1, c2, c3, c4⟩ := items_law he hne hin rfl rfl
          have r1 := good_rank g1
          have r2 := good_rank g2
          have w1 := good_few g1
          have w2 := good_few g2
          obtain ⟨b1, b2⟩ := it_len (s := S) (e := E) (i := i) (by omega) (by omega)
          have side : ∀ {s : List Int} {e : List ByteArray}, s.length ≤ 3 → e.length ≤ 4096 → (s ≠ [] → good s e = true ∧ (i : Int) < manyZ s) → (s = [] ∧ (if s = [] then (s, e) else itS s e i) = (s, e)) ∨ (s ≠ [] ∧ Runs Tryz.prog 19 [vD s e none none, iD i] (.tup [vD (if s = [] then (s, e) else itS s e i).1 (if s = [] then (s, e) else itS s e i).2 none none, bD true])) := fun {s e} h3 h4 hg => by
            by_cases h : s = []
            · exact .inl ⟨h, if_pos h⟩
            · rw [if_neg h]
              exact .inr ⟨h, item_yes (hg h).1 (hg h).2 (by omega) (by omega)⟩
          have hv : ∀ {s : List Int} {e : List ByteArray}, s.length ≤ 3 → e.length ≤ 4096 → (if s = [] then (s, e) else itS s e i).1.length ≤ 9223372036854775807 ∧ (if s = [] then (s, e) else itS s e i).2.length ≤ 9223372036854775807 := fun {s e} h3 h4 => by
            split
            · dsimp only; omega
            · exact it_len (by omega) (by omega)
          have d2 := dyad_runs op _ _ _ _ (hv r1 w1).1 (hv r2 w2).1 (hv r1 w1).2 (hv r2 w2).2
          rw [c1] at d2
          have my := vmay_runs S E (by omega) (by omega)
          rw [c2] at my
          have sm := vsame_runs _ _ _ _ b1 b1 b2 b2
          rw [decide_eq_true ⟨rfl, rfl⟩] at sm
          have itm := item_yes c2 hin (show S.length ≤ 8796093022208 by omega) (show E.length ≤ 8796093022208 by omega)
          rw [hn] at m
          have sd1 := side r1 w1 c3
          have sd2 := side r2 w2 c4
          exact ite_yes hne hn (by omega) (i64w (by omega) (by omega)) (by rw [Int.tmod_eq_emod_of_nonneg hk0.1]; exact hi) f1 f2 d1 m sd1 sd2 d2 itm my sm
      · have hv : (dyO op s1 e1 s2 e2).1 = ([], []) := by
          unfold dyO at hx ⊢
          split
          · rename_i hg
            rw [if_pos hg] at hx
            split
            · rename_i hm
              rw [if_pos hm] at hx
              split
              · rfl
              · rename_i hz
                rw [hz] at hx
                exact absurd rfl hx
            · rfl
          · rfl
        rw [hv] at d1
        have v := vsame_runs [] [] [] [] (by simp) (by simp) (by simp) (by simp)
        rw [decide_eq_true ⟨rfl, rfl⟩] at v
        exact ite_err hx f1 f2 d1 (many_runs [] [] (by simp)) v
end Go.Proofs.YtjldjhlccedkbaaGreatDoor.Am
end
