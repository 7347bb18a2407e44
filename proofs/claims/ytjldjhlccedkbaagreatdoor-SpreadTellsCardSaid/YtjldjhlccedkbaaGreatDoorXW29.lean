/- What the law leans on, part 30: declarations of several texts of ours, in their order. -/
import Derived.Test.YtjldjhlccedkbaaGreatDoorXW28
section
/- spread.Dyad. -/
namespace Go.Proofs.YtjldjhlccedkbaaGreatDoor.Am
open Go Go.RowKit Go.Proofs.YtjldjhlccedkbaaGreatDoor.Sh
set_option linter.unusedVariables false
set_option linter.unusedSimpArgs false
set_option maxRecDepth 100000
set_option maxHeartbeats 8000000
section
variable {op : ByteArray} {s1 s2 : List Int} {e1 e2 : List ByteArray}
theorem dyad_no1 (h1 : Runs Tryz.prog 15 [vD s1 e1 none none] (bD false)) : Runs Tryz.prog 16 [sD op, vD s1 e1 none none, vD s2 e2 none none] (.tup [vD [] [] none none, iD 1]) := by
  refine Runs.wp Go.Proofs.YtjldjhlccedkbaaGreatDoor.Am.hT Go.Proofs.YtjldjhlccedkbaaGreatDoor.Am.hm Tryz.func16 rfl (by decide) ⟨[], [0, 1, 2, 3, 4, 5, 6, 7, 8, 9, 10, 12, 13, 14, 15, 16, 29, 40, 53, 54, 55, 64], 74⟩ ?_; ((conv => whnf); repeat ((first | refine Wo ?_ | refine Go1 ?_ | refine Go2 ?_ | refine Go3 ?_ | refine Go4 ?_ | refine ⟨_, rfl, ?_⟩ | refine Mi rfl ?_); (conv => whnf)))
  ((conv => whnf); (refine HfA h1 ?_); ((conv => whnf); repeat ((first | refine Wo ?_ | refine Go1 ?_ | refine Go2 ?_ | refine Go3 ?_ | refine Go4 ?_ | refine ⟨_, rfl, ?_⟩ | refine Mi rfl ?_); (conv => whnf))))
  exact TeA
theorem dyad_no2 (h1 : Runs Tryz.prog 15 [vD s1 e1 none none] (bD true)) (h2 : Runs Tryz.prog 15 [vD s2 e2 none none] (bD false)) : Runs Tryz.prog 16 [sD op, vD s1 e1 none none, vD s2 e2 none none] (.tup [vD [] [] none none, iD 1]) := by
  refine Runs.wp Go.Proofs.YtjldjhlccedkbaaGreatDoor.Am.hT Go.Proofs.YtjldjhlccedkbaaGreatDoor.Am.hm Tryz.func16 rfl (by decide) ⟨[], [0, 1, 2, 3, 4, 5, 6, 7, 8, 9, 10, 12, 13, 14, 15, 16, 29, 40, 53, 54, 55, 64], 74⟩ ?_; ((conv => whnf); repeat ((first | refine Wo ?_ | refine Go1 ?_ | refine Go2 ?_ | refine Go3 ?_ | refine Go4 ?_ | refine ⟨_, rfl, ?_⟩ | refine Mi rfl ?_); (conv => whnf)))
  ((conv => whnf); (refine HfA h1 ?_); ((conv => whnf); repeat ((first | refine Wo ?_ | refine Go1 ?_ | refine Go2 ?_ | refine Go3 ?_ | refine Go4 ?_ | refine ⟨_, rfl, ?_⟩ | refine Mi rfl ?_); (conv => whnf))))
  ((conv => whnf); (refine HfA h2 ?_); ((conv => whnf); repeat ((first | refine Wo ?_ | refine Go1 ?_ | refine Go2 ?_ | refine Go3 ?_ | refine Go4 ?_ | refine ⟨_, rfl, ?_⟩ | refine Mi rfl ?_); (conv => whnf))))
  exact TeA
theorem dyad_no3 (h1 : Runs Tryz.prog 15 [vD s1 e1 none none] (bD true)) (h2 : Runs Tryz.prog 15 [vD s2 e2 none none] (bD true)) (h3 : Runs Tryz.prog 24 [sD op] (bD false)) : Runs Tryz.prog 16 [sD op, vD s1 e1 none none, vD s2 e2 none none] (.tup [vD [] [] none none, iD 1]) := by
  refine Runs.wp Go.Proofs.YtjldjhlccedkbaaGreatDoor.Am.hT Go.Proofs.YtjldjhlccedkbaaGreatDoor.Am.hm Tryz.func16 rfl (by decide) ⟨[], [0, 1, 2, 3, 4, 5, 6, 7, 8, 9, 10, 12, 13, 14, 15, 16, 29, 40, 53, 54, 55, 64], 74⟩ ?_; ((conv => whnf); repeat ((first | refine Wo ?_ | refine Go1 ?_ | refine Go2 ?_ | refine Go3 ?_ | refine Go4 ?_ | refine ⟨_, rfl, ?_⟩ | refine Mi rfl ?_); (conv => whnf)))
  ((conv => whnf); (refine HfA h1 ?_); ((conv => whnf); repeat ((first | refine Wo ?_ | refine Go1 ?_ | refine Go2 ?_ | refine Go3 ?_ | refine Go4 ?_ | refine ⟨_, rfl, ?_⟩ | refine Mi rfl ?_); (conv => whnf))))
  ((conv => whnf); (refine HfA h2 ?_); ((conv => whnf); repeat ((first | refine Wo ?_ | refine Go1 ?_ | refine Go2 ?_ | refine Go3 ?_ | refine Go4 ?_ | refine ⟨_, rfl, ?_⟩ | refine Mi rfl ?_); (conv => whnf))))
  ((conv => whnf); (refine HfA h3 ?_); ((conv => whnf); repeat ((first | refine Wo ?_ | refine Go1 ?_ | refine Go2 ?_ | refine Go3 ?_ | refine Go4 ?_ | refine ⟨_, rfl, ?_⟩ | refine Mi rfl ?_); (conv => whnf))))
  exact TeA
theorem dyad_no4 {m : List Int} {bad : Int} (hbad : bad ≠ 0) (h1 : Runs Tryz.prog 15 [vD s1 e1 none none] (bD true)) (h2 : Runs Tryz.prog 15 [vD s2 e2 none none] (bD true)) (h3 : Runs Tryz.prog 24 [sD op] (bD true)) (h4 : Runs Tryz.prog 49 [rI s1 none, rI s2 none] (.tup [rI m none, iD bad])) :
    Runs Tryz.prog 16 [sD op, vD s1 e1 none none, vD s2 e2 none none] (.tup [vD [] [] none none, iD bad]) := by
  have hb : (!(bad == 0)) = true := by simp [hbad]
  refine Runs.wp Go.Proofs.YtjldjhlccedkbaaGreatDoor.Am.hT Go.Proofs.YtjldjhlccedkbaaGreatDoor.Am.hm Tryz.func16 rfl (by decide) ⟨[], [0, 1, 2, 3, 4, 5, 6, 7, 8, 9, 10, 12, 13, 14, 15, 16, 29, 40, 53, 54, 55, 64], 74⟩ ?_; ((conv => whnf); repeat ((first | refine Wo ?_ | refine Go1 ?_ | refine Go2 ?_ | refine Go3 ?_ | refine Go4 ?_ | refine ⟨_, rfl, ?_⟩ | refine Mi rfl ?_); (conv => whnf)))
  ((conv => whnf); (refine HfA h1 ?_); ((conv => whnf); repeat ((first | refine Wo ?_ | refine Go1 ?_ | refine Go2 ?_ | refine Go3 ?_ | refine Go4 ?_ | refine ⟨_, rfl, ?_⟩ | refine Mi rfl ?_); (conv => whnf))))
  ((conv => whnf); (refine HfA h2 ?_); ((conv => whnf); repeat ((first | refine Wo ?_ | refine Go1 ?_ | refine Go2 ?_ | refine Go3 ?_ | refine Go4 ?_ | refine ⟨_, rfl, ?_⟩ | refine Mi rfl ?_); (conv => whnf))))
  ((conv => whnf); (refine HfA h3 ?_); ((conv => whnf); repeat ((first | refine Wo ?_ | refine Go1 ?_ | refine Go2 ?_ | refine Go3 ?_ | refine Go4 ?_ | refine ⟨_, rfl, ?_⟩ | refine Mi rfl ?_); (conv => whnf))))
  ((conv => whnf); (refine HrA h4 ?_); ((conv => whnf); repeat ((first | refine Wo ?_ | refine Go1 ?_ | refine Go2 ?_ | refine Go3 ?_ | refine Go4 ?_ | refine ⟨_, rfl, ?_⟩ | refine Mi rfl ?_); (conv => whnf))))
  refine litE hb ?_
  ((conv => whnf); repeat ((first | refine Wo ?_ | refine Go1 ?_ | refine Go2 ?_ | refine Go3 ?_ | refine Go4 ?_ | refine ⟨_, rfl, ?_⟩ | refine Mi rfl ?_); (conv => whnf)))
  exact TeA
noncomputable def dyT (op : ByteArray) (s1 s2 : List Int) (e1 e2 : List ByteArray) (m : List Int) (n : Nat) : List (Nat × V) :=
  [(0, .d (sD op)), (1, .agg [.d (rI s1 none), .d (rS e1 none)]), (2, .agg [.d (rI s2 none), .d (rS e2 none)]), (3, .pt 0 0), (4, .pt 1 0), (5, .pt 2 0), (6, .pt 3 0), (7, .pt 4 0), (8, .d (rI m none)), (9, .d (iD 0)), (10, .d (iD n)), (12, .pt 5 0), (29, .d (bD false)), (40, .d (bD false)), (53, .fn 103 [.pt 8 0, .pt 6 0, .pt 7 0])]
noncomputable def dyQ (op : ByteArray) (s1 s2 : List Int) (e1 e2 : List ByteArray) (m : List Int) (n : Nat) (r : Nat → ByteArray × Int) (lp : Option Ob) (i : Nat) : St :=
  { t := pin [(0, .yl 9), (1, .pt 8 0), (2, .pt 6 0), (3, .pt 7 0), (6, .d (iD n)), (7, .d (iD i))], N := 20,
    h := hpin [some (.st 9 [.d (sD op)]), some (.st 25 [.d (rI s1 none), .d (rS e1 none)]), some (.st 25 [.d (rI s2 none), .d (rS e2 none)]), some (.st 25 [.imm (.slice none 0 0), .imm (.slice none 0 0)]), some (.st 28 [.d (iD 0)]), some (.st 25 [.d (rI m none), .bs 10]),
      some (.st 25 [.d (rI s1 none), .d (rS e1 none)]), some (.st 25 [.d (rI s2 none), .d (rS e2 none)]), some (.st 3 [.d (iD n)]), lp, some (.ar 9 1 i ((List.range i).map fun j => sD (r j).1))], n := 11, lo := 10 }
theorem dyad_run {m : List Int} {n z : Nat} {x y : Nat → ByteArray} {r : Nat → ByteArray × Int} {res : D} (h1 : Runs Tryz.prog 15 [vD s1 e1 none none] (bD true)) (h2 : Runs Tryz.prog 15 [vD s2 e2 none none] (bD true)) (h3 : Runs Tryz.prog 24 [sD op] (bD true)) (h4 : Runs Tryz.prog 49 [rI s1 none, rI s2 none] (.tup [rI m none, iD 0]))
    (h5 : Runs Tryz.prog 45 [rI m none] (.tup [iD n, iD 0])) (h6 : ∀ i, i < n → Runs Tryz.prog 104 [vD s1 e1 none none, iD i] (sD (x i))) (h7 : ∀ i, i < n → Runs Tryz.prog 104 [vD s2 e2 none none, iD i] (sD (y i)))
    (h8 : ∀ i, i < n → Runs Tryz.prog 31 [sD op, sD (x i), sD (y i)] (.tup [sD (r i).1, iD (r i).2])) (hn : n ≤ 8796093022208) (h9 : ∀ i, i < z → (r i).2 = 0)
    (hz : (z = n ∧ res = .tup [.agg [rI m none, .sl 1 ((List.range n).map fun j => sD (r j).1) n none], iD 0]) ∨ (z < n ∧ (r z).2 ≠ 0 ∧ res = .tup [vD [] [] none none, iD (r z).2])) : Runs Tryz.prog 16 [sD op, vD s1 e1 none none, vD s2 e2 none none] res := by
  refine Runs.wp Go.Proofs.YtjldjhlccedkbaaGreatDoor.Am.hT Go.Proofs.YtjldjhlccedkbaaGreatDoor.Am.hm Tryz.func16 rfl (by decide) ⟨[], [0, 1, 2, 3, 4, 5, 6, 7, 8, 9, 10, 12, 13, 14, 15, 16, 29, 40, 53, 54, 55, 64], 74⟩ ?_; ((conv => whnf); repeat ((first | refine Wo ?_ | refine Go1 ?_ | refine Go2 ?_ | refine Go3 ?_ | refine Go4 ?_ | refine ⟨_, rfl, ?_⟩ | refine Mi rfl ?_); (conv => whnf)))
  ((conv => whnf); (refine HfA h1 ?_); ((conv => whnf); repeat ((first | refine Wo ?_ | refine Go1 ?_ | refine Go2 ?_ | refine Go3 ?_ | refine Go4 ?_ | refine ⟨_, rfl, ?_⟩ | refine Mi rfl ?_); (conv => whnf))))
  ((conv => whnf); (refine HfA h2 ?_); ((conv => whnf); repeat ((first | refine Wo ?_ | refine Go1 ?_ | refine Go2 ?_ | refine Go3 ?_ | refine Go4 ?_ | refine ⟨_, rfl, ?_⟩ | refine Mi rfl ?_); (conv => whnf))))
  ((conv => whnf); (refine HfA h3 ?_); ((conv => whnf); repeat ((first | refine Wo ?_ | refine Go1 ?_ | refine Go2 ?_ | refine Go3 ?_ | refine Go4 ?_ | refine ⟨_, rfl, ?_⟩ | refine Mi rfl ?_); (conv => whnf))))
  ((conv => whnf); (refine HrA h4 ?_); ((conv => whnf); repeat ((first | refine Wo ?_ | refine Go1 ?_ | refine Go2 ?_ | refine Go3 ?_ | refine Go4 ?_ | refine ⟨_, rfl, ?_⟩ | refine Mi rfl ?_); (conv => whnf))))
  ((conv => whnf); (refine HrA h5 ?_); ((conv => whnf); repeat ((first | refine Wo ?_ | refine Go1 ?_ | refine Go2 ?_ | refine Go3 ?_ | refine Go4 ?_ | refine ⟨_, rfl, ?_⟩ | refine Mi rfl ?_); (conv => whnf))))
  ((conv => whnf); refine Hc.inl Go.Proofs.YtjldjhlccedkbaaGreatDoor.Am.hT Go.Proofs.YtjldjhlccedkbaaGreatDoor.Am.hm Tryz.func50 rfl (by decide) ⟨[], [0, 1, 2, 3, 4, 5, 6], 8⟩ ?_; ((conv => whnf); repeat ((first | refine Wo ?_ | refine Go1 ?_ | refine Go2 ?_ | refine Go3 ?_ | refine Go4 ?_ | refine ⟨_, rfl, ?_⟩ | refine Mi rfl ?_); (conv => whnf))))
  ((conv => whnf); refine Hc.inl Go.Proofs.YtjldjhlccedkbaaGreatDoor.Am.hT Go.Proofs.YtjldjhlccedkbaaGreatDoor.Am.hm Tryz.func103 rfl (by decide) ⟨[(3, .first 0 (.first 2 (.first 5 (.load 1 [3, 6, 7, 8] (.alt 3 (.load 4 [6, 7, 8] (.alt 6 (.alt 7 (.first 8 .done) .nil) .nil)) (.alt 4 (.alt 3 (.alt 6 (.alt 7 (.first 8 .done) .nil) .nil) .nil) .nil))))))], [0, 1, 2, 3, 5, 6, 7, 8, 18], 20⟩ ?_; ((conv => whnf); repeat ((first | refine Wo ?_ | refine Go1 ?_ | refine Go2 ?_ | refine Go3 ?_ | refine Go4 ?_ | refine ⟨_, rfl, ?_⟩ | refine Mi rfl ?_); (conv => whnf))))
  refine loop_ind (f := fun k i => i ≤ z ∧ k + i = z + 1) (fun i => dyQ op s1 s2 e1 e2 m n r (lpOf Tryz.f16 .ready none (dyT op s1 s2 e1 e2 m n)) i) (fun i h => by omega) ?_ (z + 1) 0 ⟨by omega, rfl⟩ _ ?_
  · rintro k i R ih ⟨hi, hk⟩
    have hzn : z ≤ n := by omega
    unfold dyQ
    by_cases hin : i < n
    · have hlt : decide ((i : Int) < (n : Int)) = true := by simpa using hin
      have h6' := h6 i hin
      have h7' := h7 i hin
      have h8' := h8 i hin
      by_cases hiz : i < z
      · rw [h9 i hiz] at h8'
        ((conv => whnf); repeat ((first | refine Wo ?_ | refine Go1 ?_ | refine Go2 ?_ | refine Go3 ?_ | refine Go4 ?_ | refine ⟨_, rfl, ?_⟩ | refine Mi rfl ?_); (conv => whnf)))
        refine Lt hlt ?_
        ((conv => whnf); repeat ((first | refine Wo ?_ | refine Go1 ?_ | refine Go2 ?_ | refine Go3 ?_ | refine Go4 ?_ | refine ⟨_, rfl, ?_⟩ | refine Mi rfl ?_); (conv => whnf)))
        (refine And.intro (by decide +kernel) ?_; apply Exists.intro; apply And.intro; focus ((repeat' ((conv => whnf); first | exact trivial | refine Wo ?_ | refine Lt (by decide) ?_ | refine Lf (by decide) ?_ | refine Cl (by decide) ?_ | refine Cr (by decide) ?_ | refine ⟨_, rfl, ?_⟩ | refine Mi rfl ?_ | (first | (refine HfA h6' ?_) | (refine HfA h7' ?_) | (refine HfA h8' ?_) | ((conv => whnf); refine Yc.of_wp Go.Proofs.YtjldjhlccedkbaaGreatDoor.Am.hT Go.Proofs.YtjldjhlccedkbaaGreatDoor.Am.hm ⟨[], [0, 1, 2, 3, 4, 5, 6, 7, 8, 9, 10, 12, 13, 14, 15, 16, 29, 40, 53, 54, 55, 64], 74⟩ rfl rfl ?_; ((conv => whnf); repeat ((first | refine Wo ?_ | refine Go1 ?_ | refine Go2 ?_ | refine Go3 ?_ | refine Go4 ?_ | refine ⟨_, rfl, ?_⟩ | refine Mi rfl ?_); (conv => whnf)))) | refine And.intro (show i + 1 ≤ maxLen by unfold maxLen; omega) ?_ | refine And.intro (show (i + 1) * 16 ≤ 140737488355328 by omega) ?_) | (refine And.intro ?_ ?_))); all_goals (first | ((conv => whnf); exact Wk.frc (keep := [0, 1, 2, 3, 5, 6, 7, 8, 18]) (N := 20) (by (conv => whnf); first | done | exact rfl)) | (first | decide | rfl | assumption | omega | (dsimp only; omega) | (unfold maxLen; omega) | ((try dsimp only [maxLen]); simp only [List.length_append, List.length_cons, List.length_nil, List.length_map, List.length_range, List.length_set, List.length_replicate]; omega) | ((try dsimp only [maxLen]); simp only [IntKind.wrap_i64, IntKind.wrap_u64, List.length_append, List.length_cons, List.length_nil, List.length_map, List.length_range, List.length_set, List.length_replicate]; omega) | ((try dsimp only [maxLen]); simp only [List.length_append, List.length_cons, List.length_nil, List.length_map, List.length_range, List.length_set, List.length_replicate] at *; omega)))))
        ((conv => whnf); repeat ((first | refine Wo ?_ | refine Go1 ?_ | refine Go2 ?_ | refine Go3 ?_ | refine Go4 ?_ | refine ⟨_, rfl, ?_⟩ | refine Mi rfl ?_); (conv => whnf)))
        refine ih (i + 1) _ ⟨by omega, by omega⟩ ?_
        unfold dyQ
        (refine Wk.pin [0, 1, 2, 3, 4, 5, 6, 7, 8, 9, 12] _ _ ?_ ?_ rfl rfl (by decide) rfl rfl <;> (repeat' first | exact trivial | rfl | (refine And.intro ?_ ?_)))
        · exact inE (i64n (by simp) (by omega))
        · exact arE (by rw [List.range_succ, List.map_append]; rfl) rfl
      · have hi' : i = z := by omega
        subst hi'
        rcases hz with ⟨hz, _⟩ | ⟨_, hne, rfl⟩
        · omega
        have hnb : (!((r i).2 == 0)) = true := by simpa using hne
        ((conv => whnf); repeat ((first | refine Wo ?_ | refine Go1 ?_ | refine Go2 ?_ | refine Go3 ?_ | refine Go4 ?_ | refine ⟨_, rfl, ?_⟩ | refine Mi rfl ?_); (conv => whnf)))
        refine Lt hlt ?_
        ((conv => whnf); repeat ((first | refine Wo ?_ | refine Go1 ?_ | refine Go2 ?_ | refine Go3 ?_ | refine Go4 ?_ | refine ⟨_, rfl, ?_⟩ | refine Mi rfl ?_); (conv => whnf)))
        (refine And.intro (by decide +kernel) ?_; apply Exists.intro; apply And.intro; focus ((repeat' ((conv => whnf); first | exact trivial | refine Wo ?_ | refine Lt (by decide) ?_ | refine Lf (by decide) ?_ | refine Cl (by decide) ?_ | refine Cr (by decide) ?_ | refine ⟨_, rfl, ?_⟩ | refine Mi rfl ?_ | (first | (refine HfA h6' ?_) | (refine HfA h7' ?_) | (refine HfA h8' ?_) | ((conv => whnf); refine Yc.of_wp Go.Proofs.YtjldjhlccedkbaaGreatDoor.Am.hT Go.Proofs.YtjldjhlccedkbaaGreatDoor.Am.hm ⟨[], [0, 1, 2, 3, 4, 5, 6, 7, 8, 9, 10, 12, 13, 14, 15, 16, 29, 40, 53, 54, 55, 64], 74⟩ rfl rfl ?_; ((conv => whnf); repeat ((first | refine Wo ?_ | refine Go1 ?_ | refine Go2 ?_ | refine Go3 ?_ | refine Go4 ?_ | refine ⟨_, rfl, ?_⟩ | refine Mi rfl ?_); (conv => whnf)))) | refine litE hnb ?_) | (refine And.intro ?_ ?_))); all_goals (first | ((conv => whnf); exact Wk.frc (keep := [0, 1, 2, 3, 5, 6, 7, 8, 18]) (N := 20) (by (conv => whnf); first | done | exact rfl)) | (first | decide | rfl | assumption | omega | (dsimp only; omega) | (unfold maxLen; omega) | ((try dsimp only [maxLen]); simp only [List.length_append, List.length_cons, List.length_nil, List.length_map, List.length_range, List.length_set, List.length_replicate]; omega) | ((try dsimp only [maxLen]); simp only [IntKind.wrap_i64, IntKind.wrap_u64, List.length_append, List.length_cons, List.length_nil, List.length_map, List.length_range, List.length_set, List.length_replicate]; omega) | ((try dsimp only [maxLen]); simp only [List.length_append, List.length_cons, List.length_nil, List.length_map, List.length_range, List.length_set, List.length_replicate] at *; omega)))))
        ((conv => whnf); repeat ((first | refine Wo ?_ | refine Go1 ?_ | refine Go2 ?_ | refine Go3 ?_ | refine Go4 ?_ | refine ⟨_, rfl, ?_⟩ | refine Mi rfl ?_); (conv => whnf)))
        exact TeA
    · have hi' : i = n := by omega
      have hzn' : z = n := by omega
      subst hi'
      rcases hz with ⟨_, rfl⟩ | ⟨hz, _⟩
      · ((conv => whnf); repeat ((first | refine Wo ?_ | refine Go1 ?_ | refine Go2 ?_ | refine Go3 ?_ | refine Go4 ?_ | refine ⟨_, rfl, ?_⟩ | refine Mi rfl ?_); (conv => whnf)))
        refine Lf (by simp) ?_
        ((conv => whnf); repeat ((first | refine Wo ?_ | refine Go1 ?_ | refine Go2 ?_ | refine Go3 ?_ | refine Go4 ?_ | refine ⟨_, rfl, ?_⟩ | refine Mi rfl ?_); (conv => whnf)))
        exact TeA
      · omega
  · refine (Wk.virtB 5 1 9 1 25 _ rfl rfl).trans ?_
    unfold dyQ dyT
    (refine Wk.to _ _ ?_ ?_ <;> (repeat' first | exact trivial | rfl | (refine And.intro ?_ ?_)))
end
end Go.Proofs.YtjldjhlccedkbaaGreatDoor.Am
end
section
/- spread.Dyad, told whole. -/
namespace Go.Proofs.YtjldjhlccedkbaaGreatDoor.Am
open Go Go.RowKit Go.Proofs.YtjldjhlccedkbaaGreatDoor.Sh
set_option linter.unusedVariables false
set_option linter.unusedSimpArgs false
set_option maxRecDepth 100000
set_option maxHeartbeats 8000000
theorem good_iff {s : List Int} {e : List ByteArray} : good s e = true ↔ sizeS s = ((e.length : Int), 0) ∧ ∀ b ∈ e, mayB b = true := by
  unfold good
  generalize sizeS s = q
  obtain ⟨n, x⟩ := q
  simp only [Bool.and_eq_true, decide_eq_true_eq, List.all_eq_true, Prod.mk.injEq]
  constructor
  · rintro ⟨⟨h1, h2⟩, h3⟩
    exact ⟨⟨h2.symm, h1⟩, h3⟩
  · rintro ⟨⟨h1, h2⟩, h3⟩
    exact ⟨⟨h2, h1.symm⟩, h3⟩
theorem good_size {s : List Int} {e : List ByteArray} (h : good s e = true) : sizeS s = ((e.length : Int), 0) := (good_iff.1 h).1
theorem good_all {s : List Int} {e : List ByteArray} (h : good s e = true) : ∀ b ∈ e, mayB b = true := (good_iff.1 h).2
theorem good_rank {s : List Int} {e : List ByteArray} (h : good s e = true) : s.length ≤ 3 := (size_ok (good_size h)).1
theorem good_few {s : List Int} {e : List ByteArray} (h : good s e = true) : e.length ≤ 4096 := by
  rcases (size_ok (good_size h)).2.2 with ⟨_, h⟩ | ⟨_, _, _, h⟩ <;> omega
theorem atS_mem {s : List Int} {e : List ByteArray} {i : Nat} (h0 : s = [] → 0 < e.length) (h1 : s ≠ [] → i < e.length) : atS s e i ∈ e := by
  unfold atS
  by_cases h : s = []
  · rw [if_pos h, List.getD_eq_getElem?_getD, List.getElem?_eq_getElem (h0 h)]
    exact List.getElem_mem _
  · rw [if_neg h, List.getD_eq_getElem?_getD, List.getElem?_eq_getElem (h1 h)]
    exact List.getElem_mem _
/-- what two arrays are together -/
def dyR (op : ByteArray) (s1 : List Int) (e1 : List ByteArray) (s2 : List Int) (e2 : List ByteArray) (i : Nat) : ByteArray × Int := sd op (atS s1 e1 i) (atS s2 e2 i)
def dyN (s1 s2 : List Int) : Nat := (sizeS (meetS s1 s2).1).1.toNat
def dyO (op : ByteArray) (s1 : List Int) (e1 : List ByteArray) (s2 : List Int) (e2 : List ByteArray) : (List Int × List ByteArray) × Int :=
  if good s1 e1 = true ∧ good s2 e2 = true ∧ sgB dyS op = true then
    if (meetS s1 s2).2 = 0 then
      match (List.range (dyN s1 s2)).find? (fun i => decide ((dyR op s1 e1 s2 e2 i).2 ≠ 0)) with
      | some z => (([], []), (dyR op s1 e1 s2 e2 z).2)
      | none => (((meetS s1 s2).1, (List.range (dyN s1 s2)).map fun i => (dyR op s1 e1 s2 e2 i).1), 0)
    else (([], []), (meetS s1 s2).2)
  else (([], []), 1)
theorem meet_ok {s1 s2 : List Int} {e1 e2 : List ByteArray} (g1 : good s1 e1 = true) (g2 : good s2 e2 = true) (hm : (meetS s1 s2).2 = 0) :
    sizeS (meetS s1 s2).1 = ((dyN s1 s2 : Int), 0) ∧ dyN s1 s2 ≤ 4096 ∧ (∀ i, i < dyN s1 s2 → (s1 = [] → 0 < e1.length) ∧ (s1 ≠ [] → i < e1.length)) ∧ (∀ i, i < dyN s1 s2 → (s2 = [] → 0 < e2.length) ∧ (s2 ≠ [] → i < e2.length)) ∧ ((meetS s1 s2).1 = s1 ∧ dyN s1 s2 = e1.length ∨ (meetS s1 s2).1 = s2 ∧ dyN s1 s2 = e2.length) := by
  have z1 := good_size g1
  have z2 := good_size g2
  have f1 := good_few g1
  have f2 := good_few g2
  have hnil : ∀ {s : List Int} {e : List ByteArray}, sizeS s = ((e.length : Int), 0) → s = [] → 0 < e.length := fun {s e} h hs => by
    subst hs
    have h0 : sizeS [] = (1, 0) := by decide
    rw [h0] at h
    have := congrArg Prod.fst h
    simp only at this
    omega
  have n1 := hnil z1
  have n2 := hnil z2
  unfold dyN
  unfold meetS at hm ⊢
  split at hm
  · rename_i hc
    rw [if_pos hc]
    simp only [z1]
    refine ⟨by simp, by simpa using f1, fun i hi => ⟨n1, fun _ => by simpa using hi⟩, fun i hi => ⟨n2, fun hne => ?_⟩, .inl ⟨by simp, by simp⟩⟩
    rcases hc with rfl | hc
    · rw [z1] at z2
      have := congrArg Prod.fst z2
      simp only at this
      simp only [Int.toNat_natCast] at hi
      omega
    · exact absurd hc hne
  · rename_i hc
    split at hm
    · rename_i ha
      rw [if_neg hc, if_pos ha]
      simp only [z2]
      exact ⟨by simp, by simpa using f2, fun i hi => ⟨n1, fun hne => absurd ha hne⟩, fun i hi => ⟨n2, fun _ => by simpa using hi⟩, .inr ⟨by simp, by simp⟩⟩
    · simp at hm
theorem dyad_runs (op : ByteArray) (s1 : List Int) (e1 : List ByteArray) (s2 : List Int) (e2 : List ByteArray) (l1 : s1.length ≤ 9223372036854775807) (l2 : s2.length ≤ 9223372036854775807) (j1 : e1.length ≤ 9223372036854775807) (j2 : e2.length ≤ 9223372036854775807) :
    Runs Tryz.prog 16 [sD op, vD s1 e1 none none, vD s2 e2 none none] (.tup [vD (dyO op s1 e1 s2 e2).1.1 (dyO op s1 e1 s2 e2).1.2 none none, iD (dyO op s1 e1 s2 e2).2]) := by
  have m1 := vmay_runs s1 e1 (by omega) (by omega)
  have m2 := vmay_runs s2 e2 (by omega) (by omega)
  have o := ops_runs op
  unfold dyO
  cases g1 : good s1 e1 with
  | false => rw [g1] at m1; rw [if_neg (by simp)]; exact dyad_no1 m1
  | true =>
    cases g2 : good s2 e2 with
    | false => rw [g1] at m1; rw [g2] at m2; rw [if_neg (by simp)]; exact dyad_no2 m1 m2
    | true =>
      cases ho : sgB dyS op with
      | false => rw [g1] at m1; rw [g2] at m2; rw [ho] at o; rw [if_neg (by simp)]; exact dyad_no3 m1 m2 o
      | true =>
        rw [g1] at m1
        rw [g2] at m2
        rw [ho] at o
        rw [if_pos ⟨rfl, rfl, rfl⟩]
        have r1 := good_rank g1
        have r2 := good_rank g2
        have hme := meet_runs s1 s2 (by omega) (by omega)
        by_cases hm : (meetS s1 s2).2 = 0
        · rw [if_pos hm]
          obtain ⟨k1, k2, k3, k4, k5⟩ := meet_ok g1 g2 hm
          rw [hm] at hme
          have hsz := size_runs (meetS s1 s2).1 (by rcases k5 with ⟨h, _⟩ | ⟨h, _⟩ <;> rw [h] <;> omega)
          rw [k1] at hsz
          have run := fun {z : Nat} {res : D} => dyad_run (z := z) (res := res) (r := dyR op s1 e1 s2 e2) m1 m2 o hme hsz (fun i hi => elem_runs (k3 i hi).1 (k3 i hi).2) (fun i hi => elem_runs (k4 i hi).1 (k4 i hi).2) (fun i hi => sd_runs ho (good_all g1 _ (atS_mem (k3 i hi).1 (k3 i hi).2)) (good_all g2 _ (atS_mem (k4 i hi).1 (k4 i hi).2))) (by omega)
          split
          · rename_i z hz
            rw [List.find?_eq_some_iff_append] at hz
            obtain ⟨hzb, l0, l3, hz1, hz2⟩ := hz
            have hlen : l0.length = z := by
              have := congrArg (fun l => l[l0.length]?) hz1
              simp only [List.getElem?_append_right (Nat.le_refl _), Nat.sub_self, List.getElem?_cons_zero] at this
              have h2 := (List.getElem?_eq_some_iff.1 this).2
              simpa using h2
            have hzn : z < dyN s1 s2 := by
              have := congrArg List.length hz1
              simp only [List.length_range, List.length_append, List.length_cons] at this
              omega
            refine run (z := z) (fun i hi => ?_) (.inr ⟨hzn, by simpa using hzb, rfl⟩)
            have hmem : i ∈ l0 := by
              have h3 : (List.range (dyN s1 s2))[i]? = some i := by simp [show i < dyN s1 s2 by omega]
              rw [hz1, List.getElem?_append_left (by omega)] at h3
              exact List.mem_of_getElem? h3
            simpa using hz2 i hmem
          · rename_i hz
            rw [List.find?_eq_none] at hz
            refine (run (z := dyN s1 s2) (fun i hi => by simpa using hz i (List.mem_range.2 hi)) (.inl ⟨rfl, rfl⟩)).tel (Tels.refl _) ?_
            have : rS ((List.range (dyN s1 s2)).map fun i => (dyR op s1 e1 s2 e2 i).1) none = .sl 1 ((List.range (dyN s1 s2)).map fun j => sD (dyR op s1 e1 s2 e2 j).1) (dyN s1 s2) none := by simp [List.map_map, Function.comp_def]
            show Tel _ (.tup [.agg [rI (meetS s1 s2).1 none, rS ((List.range (dyN s1 s2)).map fun i => (dyR op s1 e1 s2 e2 i).1) none], iD 0])
            rw [this]
            exact .refl _
        · rw [if_neg hm]
          exact dyad_no4 hm m1 m2 o hme
end Go.Proofs.YtjldjhlccedkbaaGreatDoor.Am
end
section
/- spread.Monad. -/
namespace Go.Proofs.YtjldjhlccedkbaaGreatDoor.Am
open Go Go.RowKit Go.Proofs.YtjldjhlccedkbaaGreatDoor.Sh
set_option linter.unusedVariables false
set_option linter.unusedSimpArgs false
set_option maxRecDepth 100000
set_option maxHeartbeats 8000000
section
variable {op : ByteArray} {s : List Int} {e : List ByteArray}
theorem monad_no1 (h1 : Runs Tryz.prog 15 [vD s e none none] (bD false)) : Runs Tryz.prog 21 [sD op, vD s e none none] (.tup [vD [] [] none none, iD 1]) := by
  refine Runs.wp Go.Proofs.YtjldjhlccedkbaaGreatDoor.Am.hT Go.Proofs.YtjldjhlccedkbaaGreatDoor.Am.hm Tryz.func21 rfl (by decide) ⟨[], [0, 1, 3, 4, 5, 6, 8, 9, 19, 26, 27, 28, 29], 46⟩ ?_; ((conv => whnf); repeat ((first | refine Wo ?_ | refine Go1 ?_ | refine Go2 ?_ | refine Go3 ?_ | refine Go4 ?_ | refine ⟨_, rfl, ?_⟩ | refine Mi rfl ?_); (conv => whnf)))
  ((conv => whnf); (refine HfA h1 ?_); ((conv => whnf); repeat ((first | refine Wo ?_ | refine Go1 ?_ | refine Go2 ?_ | refine Go3 ?_ | refine Go4 ?_ | refine ⟨_, rfl, ?_⟩ | refine Mi rfl ?_); (conv => whnf))))
  exact TeA
theorem monad_no2 (h1 : Runs Tryz.prog 15 [vD s e none none] (bD true)) (h3 : Runs Tryz.prog 59 [sD op, sD moS] (bD false)) : Runs Tryz.prog 21 [sD op, vD s e none none] (.tup [vD [] [] none none, iD 1]) := by
  have h2 := monads_runs
  refine Runs.wp Go.Proofs.YtjldjhlccedkbaaGreatDoor.Am.hT Go.Proofs.YtjldjhlccedkbaaGreatDoor.Am.hm Tryz.func21 rfl (by decide) ⟨[], [0, 1, 3, 4, 5, 6, 8, 9, 19, 26, 27, 28, 29], 46⟩ ?_; ((conv => whnf); repeat ((first | refine Wo ?_ | refine Go1 ?_ | refine Go2 ?_ | refine Go3 ?_ | refine Go4 ?_ | refine ⟨_, rfl, ?_⟩ | refine Mi rfl ?_); (conv => whnf)))
  ((conv => whnf); (refine HfA h1 ?_); ((conv => whnf); repeat ((first | refine Wo ?_ | refine Go1 ?_ | refine Go2 ?_ | refine Go3 ?_ | refine Go4 ?_ | refine ⟨_, rfl, ?_⟩ | refine Mi rfl ?_); (conv => whnf))))
  ((conv => whnf); (refine HfA h2 ?_); ((conv => whnf); repeat ((first | refine Wo ?_ | refine Go1 ?_ | refine Go2 ?_ | refine Go3 ?_ | refine Go4 ?_ | refine ⟨_, rfl, ?_⟩ | refine Mi rfl ?_); (conv => whnf))))
  ((conv => whnf); (refine HfA h3 ?_); ((conv => whnf); repeat ((first | refine Wo ?_ | refine Go1 ?_ | refine Go2 ?_ | refine Go3 ?_ | refine Go4 ?_ | refine ⟨_, rfl, ?_⟩ | refine Mi rfl ?_); (conv => whnf))))
  exact TeA
theorem monad_run {r : ByteArray → ByteArray} (h1 : Runs Tryz.prog 15 [vD s e none none] (bD true)) (h3 : Runs Tryz.prog 59 [sD op, sD moS] (bD true)) (h4 : Runs Tryz.prog 61 [rI s none] (rI s none))
    (h5 : ∀ x ∈ e, Runs Tryz.prog 62 [sD op, sD x] (eD (r x, 0))) (hn : e.length ≤ 4096) : Runs Tryz.prog 21 [sD op, vD s e none none] (.tup [vD s (e.map r) none none, iD 0]) := by
  have h2 := monads_runs
  have hres : (D.tup [.agg [rI s none, .sl 1 ((e.take e.length).map fun x => sD (r x)) e.length none], iD 0]) = .tup [vD s (e.map r) none none, iD 0] := by
    rw [List.take_length]
    simp [vD, List.map_map, Function.comp_def]
  rw [← hres]
  refine Runs.wp Go.Proofs.YtjldjhlccedkbaaGreatDoor.Am.hT Go.Proofs.YtjldjhlccedkbaaGreatDoor.Am.hm Tryz.func21 rfl (by decide) ⟨[], [0, 1, 3, 4, 5, 6, 8, 9, 19, 26, 27, 28, 29], 46⟩ ?_; ((conv => whnf); repeat ((first | refine Wo ?_ | refine Go1 ?_ | refine Go2 ?_ | refine Go3 ?_ | refine Go4 ?_ | refine ⟨_, rfl, ?_⟩ | refine Mi rfl ?_); (conv => whnf)))
  ((conv => whnf); (refine HfA h1 ?_); ((conv => whnf); repeat ((first | refine Wo ?_ | refine Go1 ?_ | refine Go2 ?_ | refine Go3 ?_ | refine Go4 ?_ | refine ⟨_, rfl, ?_⟩ | refine Mi rfl ?_); (conv => whnf))))
  ((conv => whnf); (refine HfA h2 ?_); ((conv => whnf); repeat ((first | refine Wo ?_ | refine Go1 ?_ | refine Go2 ?_ | refine Go3 ?_ | refine Go4 ?_ | refine ⟨_, rfl, ?_⟩ | refine Mi rfl ?_); (conv => whnf))))
  ((conv => whnf); (refine HfA h3 ?_); ((conv => whnf); repeat ((first | refine Wo ?_ | refine Go1 ?_ | refine Go2 ?_ | refine Go3 ?_ | refine Go4 ?_ | refine ⟨_, rfl, ?_⟩ | refine Mi rfl ?_); (conv => whnf))))
  ((conv => whnf); (refine HrA h4 ?_); ((conv => whnf); repeat ((first | refine Wo ?_ | refine Go1 ?_ | refine Go2 ?_ | refine Go3 ?_ | refine Go4 ?_ | refine ⟨_, rfl, ?_⟩ | refine Mi rfl ?_); (conv => whnf))))
  refine loop_ind (fun k (i : Nat) => i + k = e.length + 1 ∧ i ≤ e.length) (fun i => { t := pin [(0, .d (sD op)), (3, .pt 0 0), (4, .pt 1 0), (5, .d (iD 0)), (6, .pt 2 0), (26, .d (rS e none)), (27, .d (iD e.length)), (28, .d (iD i))], N := 46, h := hpin [some (.st 25 [.d (rI s none), .d (rS e none)]), some (.st 25 [.imm (.slice none 0 0), .imm (.slice none 0 0)]), some (.st 25 [.d (rI s none), .bs 3]), some (.ar 9 1 i ((e.take i).map fun x => sD (r x)))], n := 4, lo := 0 }) (fun i h => by omega) ?_ (e.length + 1) 0 ⟨by omega, by omega⟩ _ ?_
  · rintro k i R ih ⟨hk, hi⟩
    by_cases hlt : i < e.length
    · have hix : (e.map sD)[(i : Int).toNat * 1]? = some (sD e[i]) := ixm (j := i) (by simp [hlt]) (by simp)
      have hx := h5 e[i] (List.getElem_mem hlt)
      ((conv => whnf); repeat ((first | refine Wo ?_ | refine Go1 ?_ | refine Go2 ?_ | refine Go3 ?_ | refine Go4 ?_ | refine ⟨_, rfl, ?_⟩ | refine Mi rfl ?_); (conv => whnf)))
      refine Lt (by simpa using hlt) ?_
      ((conv => whnf); repeat ((first | refine Wo ?_ | refine Lt (by decide) ?_ | refine Lf (by decide) ?_ | refine Cl (by decide) ?_ | refine Cr (by decide) ?_ | refine ⟨_, rfl, ?_⟩ | refine Mi rfl ?_ | (refine And.intro ArA ?_)); (conv => whnf)))
      ((conv => whnf); refine ⟨_, hix, ?_⟩; ((conv => whnf); repeat ((first | refine Wo ?_ | refine Go1 ?_ | refine Go2 ?_ | refine Go3 ?_ | refine Go4 ?_ | refine ⟨_, rfl, ?_⟩ | refine Mi rfl ?_); (conv => whnf))))
      ((conv => whnf); (refine HrA hx ?_); ((conv => whnf); repeat ((first | refine Wo ?_ | refine Go1 ?_ | refine Go2 ?_ | refine Go3 ?_ | refine Go4 ?_ | refine ⟨_, rfl, ?_⟩ | refine Mi rfl ?_); (conv => whnf))))
      refine ⟨by unfold maxLen; omega, by dsimp only; omega, ?_⟩
      ((conv => whnf); repeat ((first | refine Wo ?_ | refine Go1 ?_ | refine Go2 ?_ | refine Go3 ?_ | refine Go4 ?_ | refine ⟨_, rfl, ?_⟩ | refine Mi rfl ?_); (conv => whnf)))
      refine ih (i + 1) _ ⟨by omega, by omega⟩ ?_
      (refine Wk.pin [0, 1, 2, 5] _ _ ?_ ?_ rfl rfl (by decide) rfl rfl <;> (repeat' first | exact trivial | rfl | (refine And.intro ?_ ?_)))
      · exact inE (i64n (by simp) (by omega))
      · exact arE (by rw [take_snoc hlt, List.map_append]; rfl) rfl
    · obtain rfl : i = e.length := by omega
      ((conv => whnf); repeat ((first | refine Wo ?_ | refine Go1 ?_ | refine Go2 ?_ | refine Go3 ?_ | refine Go4 ?_ | refine ⟨_, rfl, ?_⟩ | refine Mi rfl ?_); (conv => whnf)))
      refine Lf (by simp) ?_
      ((conv => whnf); repeat ((first | refine Wo ?_ | refine Go1 ?_ | refine Go2 ?_ | refine Go3 ?_ | refine Go4 ?_ | refine ⟨_, rfl, ?_⟩ | refine Mi rfl ?_); (conv => whnf)))
      exact TeA
  · refine (Wk.virtB 2 1 9 1 25 _ rfl rfl).trans ?_
    (refine Wk.to _ _ ?_ ?_ <;> (repeat' first | exact trivial | rfl | (refine And.intro ?_ ?_)))
end
/-- what Monad tells -/
def moO (op : ByteArray) (s : List Int) (e : List ByteArray) : (List Int × List ByteArray) × Int :=
  if good s e = true ∧ sgB moS op = true then ((s, e.map (smo op)), 0) else (([], []), 1)
theorem monad_runs (op : ByteArray) (s : List Int) (e : List ByteArray) (l1 : s.length ≤ 9223372036854775807) (j1 : e.length ≤ 9223372036854775807) : Runs Tryz.prog 21 [sD op, vD s e none none] (.tup [vD (moO op s e).1.1 (moO op s e).1.2 none none, iD (moO op s e).2]) := by
  have m1 := vmay_runs s e (by omega) j1
  have o := sign_runs op moS
  unfold moO
  cases g1 : good s e with
  | false => rw [g1] at m1; rw [if_neg (by simp)]; exact monad_no1 m1
  | true =>
    rw [g1] at m1
    cases ho : sgB moS op with
    | false => rw [ho] at o; rw [if_neg (by simp)]; exact monad_no2 m1 o
    | true =>
      rw [ho] at o
      rw [if_pos ⟨rfl, rfl⟩]
      exact monad_run m1 o (cloneI_runs s (by have := good_rank g1; omega)) (fun x hx => smo_runs ho (good_all g1 x hx)) (good_few g1)
end Go.Proofs.YtjldjhlccedkbaaGreatDoor.Am
end
section
/- The statements' head: the document's example; few. -/
namespace Go.Proofs.YtjldjhlccedkbaaGreatDoor.Am
open Go Go.RowKit Go.Proofs.YtjldjhlccedkbaaGreatDoor.Sh
set_option linter.unusedVariables false
set_option linter.unusedSimpArgs false
set_option maxRecDepth 100000
set_option maxHeartbeats 8000000
theorem shown_dy : dyO ⟨#[43]⟩ [3] [⟨#[49]⟩, ⟨#[50]⟩, ⟨#[51]⟩] [] [⟨#[49, 48]⟩] = (([3], [⟨#[49, 49]⟩, ⟨#[49, 50]⟩, ⟨#[49, 51]⟩]), 0) := by
  decide +kernel
theorem shown_runs : Runs Tryz.prog 13 [] (bD true) := by
  have v1 := vector_runs [⟨#[49]⟩, ⟨#[50]⟩, ⟨#[51]⟩] (by decide)
  have v2 := vector_runs [⟨#[49, 49]⟩, ⟨#[49, 50]⟩, ⟨#[49, 51]⟩] (by decide)
  have c1 := scalar_runs ⟨#[49, 48]⟩
  have d := dyad_runs ⟨#[43]⟩ [3] [⟨#[49]⟩, ⟨#[50]⟩, ⟨#[51]⟩] [] [⟨#[49, 48]⟩] (by decide) (by decide) (by decide) (by decide)
  rw [shown_dy] at d
  have sm := vsame_runs [3] [3] [⟨#[49, 49]⟩, ⟨#[49, 50]⟩, ⟨#[49, 51]⟩] [⟨#[49, 49]⟩, ⟨#[49, 50]⟩, ⟨#[49, 51]⟩] (by decide) (by decide) (by decide) (by decide)
  have o1 := ops_runs ⟨#[43]⟩
  have o2 := ops_runs ⟨#[35]⟩
  rw [show sgB dyS ⟨#[43]⟩ = true by decide +kernel] at o1
  rw [show sgB dyS ⟨#[35]⟩ = false by decide +kernel] at o2
  rw [decide_eq_true ⟨rfl, rfl⟩] at sm
  refine Runs.wp Go.Proofs.YtjldjhlccedkbaaGreatDoor.Am.hT Go.Proofs.YtjldjhlccedkbaaGreatDoor.Am.hm Tryz.func13 rfl (by decide) ⟨[(2, .first 0 (.first 1 (.first 2 (.alt 3 (.alt 4 (.alt 5 (.alt 6 (.first 7 (.first 8 (.alt 9 (.first 10 (.first 11 (.alt 12 (.first 13 (.first 14 (.first 15 .done))) .nil))) .nil))) .nil) .nil) .nil) (.alt 4 (.alt 3 (.alt 5 (.alt 6 (.first 7 (.first 8 (.alt 9 (.first 10 (.first 11 (.alt 12 (.first 13 (.first 14 (.first 15 .done))) .nil))) .nil))) .nil) .nil) (.alt 5 (.load 3 [6, 7, 8, 9, 10, 11, 12, 13, 14, 15] (.alt 6 (.first 7 (.first 8 (.alt 9 (.first 10 (.first 11 (.alt 12 (.first 13 (.first 14 (.first 15 .done))) .nil))) .nil))) .nil)) .nil)) .nil)))))], [0, 1, 2], 25⟩ ?_; ((conv => whnf); repeat ((first | refine Wo ?_ | refine Go1 ?_ | refine Go2 ?_ | refine Go3 ?_ | refine Go4 ?_ | refine ⟨_, rfl, ?_⟩ | refine Mi rfl ?_); (conv => whnf)))
  ((conv => whnf); (refine HrA v1 ?_); ((conv => whnf); repeat ((first | refine Wo ?_ | refine Go1 ?_ | refine Go2 ?_ | refine Go3 ?_ | refine Go4 ?_ | refine ⟨_, rfl, ?_⟩ | refine Mi rfl ?_); (conv => whnf))))
  ((conv => whnf); (refine HrA c1 ?_); ((conv => whnf); repeat ((first | refine Wo ?_ | refine Go1 ?_ | refine Go2 ?_ | refine Go3 ?_ | refine Go4 ?_ | refine ⟨_, rfl, ?_⟩ | refine Mi rfl ?_); (conv => whnf))))
  ((conv => whnf); (refine HrA d ?_); ((conv => whnf); repeat ((first | refine Wo ?_ | refine Go1 ?_ | refine Go2 ?_ | refine Go3 ?_ | refine Go4 ?_ | refine ⟨_, rfl, ?_⟩ | refine Mi rfl ?_); (conv => whnf))))
  (refine And.intro (by decide +kernel) ?_; apply Exists.intro; apply And.intro; focus ((repeat' ((conv => whnf); first | exact trivial | refine Wo ?_ | refine Lt (by decide) ?_ | refine Lf (by decide) ?_ | refine Cl (by decide) ?_ | refine Cr (by decide) ?_ | refine ⟨_, rfl, ?_⟩ | refine Mi rfl ?_ | (first | (refine HrA v2 ?_) | (refine HfA sm ?_) | (refine HfA o1 ?_) | (refine HfA o2 ?_)) | (refine And.intro ?_ ?_))); all_goals (first | ((conv => whnf); exact Wk.frc (keep := [0, 1, 2]) (N := 25) (by (conv => whnf); first | done | exact rfl)) | (first | decide | rfl | assumption | omega | (dsimp only; omega) | (unfold maxLen; omega) | ((try dsimp only [maxLen]); simp only [List.length_append, List.length_cons, List.length_nil, List.length_map, List.length_range, List.length_set, List.length_replicate]; omega) | ((try dsimp only [maxLen]); simp only [IntKind.wrap_i64, IntKind.wrap_u64, List.length_append, List.length_cons, List.length_nil, List.length_map, List.length_range, List.length_set, List.length_replicate]; omega) | ((try dsimp only [maxLen]); simp only [List.length_append, List.length_cons, List.length_nil, List.length_map, List.length_range, List.length_set, List.length_replicate] at *; omega)))))
  ((conv => whnf); repeat ((first | refine Wo ?_ | refine Go1 ?_ | refine Go2 ?_ | refine Go3 ?_ | refine Go4 ?_ | refine ⟨_, rfl, ?_⟩ | refine Mi rfl ?_); (conv => whnf)))
  exact TeA
/-- few enough -/
def fewB (s : List Int) (e : List ByteArray) : Bool := (e.take 301).all (fun x => decide (x.size ≤ 120)) && decide (e.length ≤ 300) && decide (s.length ≤ 20)
theorem few_of {s : List Int} {e : List ByteArray} (h : fewB s e = true) : e.length ≤ 300 ∧ s.length ≤ 20 ∧ ∀ x ∈ e, x.size ≤ 120 := by
  unfold fewB at h
  simp only [Bool.and_eq_true, decide_eq_true_eq, List.all_eq_true] at h
  obtain ⟨⟨h1, h2⟩, h3⟩ := h
  rw [List.take_of_length_le (by omega)] at h1
  exact ⟨h2, h3, h1⟩
theorem few_runs (s : List Int) (e : List ByteArray) (hs : s.length ≤ 9223372036854775807) (he : e.length ≤ 9223372036854775807) : Runs Tryz.prog 14 [vD s e none none] (bD (fewB s e)) := by
  refine Runs.wp Go.Proofs.YtjldjhlccedkbaaGreatDoor.Am.hT Go.Proofs.YtjldjhlccedkbaaGreatDoor.Am.hm Tryz.func14 rfl (by decide) ⟨[], [0, 1, 2, 3, 12, 21], 32⟩ ?_; ((conv => whnf); repeat ((first | refine Wo ?_ | refine Go1 ?_ | refine Go2 ?_ | refine Go3 ?_ | refine Go4 ?_ | refine ⟨_, rfl, ?_⟩ | refine Mi rfl ?_); (conv => whnf)))
  refine loop_ind (fun k (i : Nat) => i + k = 302 ∧ i ≤ e.length ∧ i ≤ 301 ∧ fewB s e = ((((e.take 301).drop i).all (fun x => decide (x.size ≤ 120))) && decide (e.length ≤ 300) && decide (s.length ≤ 20))) (fun i => { t := pin [(1, .pt 0 0), (2, .d (bD false)), (3, .d (iD i))], N := 32, h := hpin [some (.st 25 [.d (rI s none), .d (rS e none)])], n := 1, lo := 0 }) (fun i h => by omega) ?_ 302 0 ⟨by omega, by omega, by omega, rfl⟩ _ ?_
  · rintro k i R ih ⟨hk, hi, hi2, hq⟩
    rw [hq]
    have hend : ¬ (i < e.length ∧ i < 301) → ((((e.take 301).drop i).all (fun x => decide (x.size ≤ 120))) && decide (e.length ≤ 300) && decide (s.length ≤ 20)) = (decide (e.length ≤ 300) && decide (s.length ≤ 20)) := fun h => by
      rw [List.drop_eq_nil_of_le (by rw [List.length_take]; omega)]
      simp
    have g1 : decide (((e.length : Nat) : Int) ≤ 300) = decide (e.length ≤ 300) := by rw [decide_eq_decide]; omega
    have g2 : decide (((s.length : Nat) : Int) ≤ 20) = decide (s.length ≤ 20) := by rw [decide_eq_decide]; omega
    by_cases hl1 : i < e.length
    · have t1 : decide ((i : Int) < (e.length : Int)) = true := by simpa using hl1
      by_cases hl2 : i < 301
      · have t2 : decide ((i : Int) < 301) = true := by rw [decide_eq_true_iff]; omega
        have hlt : i < (e.take 301).length := by rw [List.length_take]; omega
        have hd : (e.take 301).drop i = e[i] :: (e.take 301).drop (i + 1) := by
          rw [List.drop_eq_getElem_cons hlt, List.getElem_take]
        have hix : (e.map sD)[(i : Int).toNat * 1]? = some (sD e[i]) := ixm (j := i) (by simp [hl1]) (by simp)
        rw [hd, List.all_cons] at hq ⊢
        by_cases hb : e[i].size ≤ 120
        · have t3 : decide (((e[i].size : Nat) : Int) > 120) = false := by rw [decide_eq_false_iff_not]; omega
          rw [decide_eq_true hb, Bool.true_and] at hq ⊢
          rw [← hq]
          ((conv => whnf); repeat ((first | refine Wo ?_ | refine Go1 ?_ | refine Go2 ?_ | refine Go3 ?_ | refine Go4 ?_ | refine ⟨_, rfl, ?_⟩ | refine Mi rfl ?_); (conv => whnf)))
          refine litE t1 ?_
          ((conv => whnf); repeat ((first | refine Wo ?_ | refine Go1 ?_ | refine Go2 ?_ | refine Go3 ?_ | refine Go4 ?_ | refine ⟨_, rfl, ?_⟩ | refine Mi rfl ?_); (conv => whnf)))
          refine litE t2 ?_
          ((conv => whnf); repeat ((first | refine Wo ?_ | refine Lt (by decide) ?_ | refine Lf (by decide) ?_ | refine Cl (by decide) ?_ | refine Cr (by decide) ?_ | refine ⟨_, rfl, ?_⟩ | refine Mi rfl ?_ | (refine And.intro ArA ?_)); (conv => whnf)))
          ((conv => whnf); refine ⟨_, hix, ?_⟩; ((conv => whnf); repeat ((first | refine Wo ?_ | refine Go1 ?_ | refine Go2 ?_ | refine Go3 ?_ | refine Go4 ?_ | refine ⟨_, rfl, ?_⟩ | refine Mi rfl ?_); (conv => whnf))))
          refine litE t3 ?_
          ((conv => whnf); repeat ((first | refine Wo ?_ | refine Go1 ?_ | refine Go2 ?_ | refine Go3 ?_ | refine Go4 ?_ | refine ⟨_, rfl, ?_⟩ | refine Mi rfl ?_); (conv => whnf)))
          refine ih (i + 1) _ ⟨by omega, by omega, by omega, hq⟩ ?_
          (refine Wk.to _ _ ?_ ?_ <;> (repeat' first | exact trivial | rfl | (refine And.intro ?_ ?_)))
          exact inE (i64n (by simp) (by omega))
        · have t3 : decide (((e[i].size : Nat) : Int) > 120) = true := by rw [decide_eq_true_iff]; omega
          rw [decide_eq_false hb, Bool.false_and, Bool.false_and, Bool.false_and]
          ((conv => whnf); repeat ((first | refine Wo ?_ | refine Go1 ?_ | refine Go2 ?_ | refine Go3 ?_ | refine Go4 ?_ | refine ⟨_, rfl, ?_⟩ | refine Mi rfl ?_); (conv => whnf)))
          refine litE t1 ?_
          ((conv => whnf); repeat ((first | refine Wo ?_ | refine Go1 ?_ | refine Go2 ?_ | refine Go3 ?_ | refine Go4 ?_ | refine ⟨_, rfl, ?_⟩ | refine Mi rfl ?_); (conv => whnf)))
          refine litE t2 ?_
          ((conv => whnf); repeat ((first | refine Wo ?_ | refine Lt (by decide) ?_ | refine Lf (by decide) ?_ | refine Cl (by decide) ?_ | refine Cr (by decide) ?_ | refine ⟨_, rfl, ?_⟩ | refine Mi rfl ?_ | (refine And.intro ArA ?_)); (conv => whnf)))
          ((conv => whnf); refine ⟨_, hix, ?_⟩; ((conv => whnf); repeat ((first | refine Wo ?_ | refine Go1 ?_ | refine Go2 ?_ | refine Go3 ?_ | refine Go4 ?_ | refine ⟨_, rfl, ?_⟩ | refine Mi rfl ?_); (conv => whnf))))
          refine litE t3 ?_
          ((conv => whnf); repeat ((first | refine Wo ?_ | refine Go1 ?_ | refine Go2 ?_ | refine Go3 ?_ | refine Go4 ?_ | refine ⟨_, rfl, ?_⟩ | refine Mi rfl ?_); (conv => whnf)))
          exact TeA
      · have t2 : decide ((i : Int) < 301) = false := by rw [decide_eq_false_iff_not]; omega
        rw [hend (by omega)]
        rw [decide_eq_false (show ¬ e.length ≤ 300 by omega)] at g1 ⊢
        ((conv => whnf); repeat ((first | refine Wo ?_ | refine Go1 ?_ | refine Go2 ?_ | refine Go3 ?_ | refine Go4 ?_ | refine ⟨_, rfl, ?_⟩ | refine Mi rfl ?_); (conv => whnf)))
        refine litE t1 ?_
        ((conv => whnf); repeat ((first | refine Wo ?_ | refine Go1 ?_ | refine Go2 ?_ | refine Go3 ?_ | refine Go4 ?_ | refine ⟨_, rfl, ?_⟩ | refine Mi rfl ?_); (conv => whnf)))
        refine litE t2 ?_
        ((conv => whnf); repeat ((first | refine Wo ?_ | refine Go1 ?_ | refine Go2 ?_ | refine Go3 ?_ | refine Go4 ?_ | refine ⟨_, rfl, ?_⟩ | refine Mi rfl ?_); (conv => whnf)))
        refine litE g1 ?_
        ((conv => whnf); repeat ((first | refine Wo ?_ | refine Go1 ?_ | refine Go2 ?_ | refine Go3 ?_ | refine Go4 ?_ | refine ⟨_, rfl, ?_⟩ | refine Mi rfl ?_); (conv => whnf)))
        exact TeA
    · have t1 : decide ((i : Int) < (e.length : Int)) = false := by simpa using hl1
      rw [hend (by omega)]
      by_cases h3 : e.length ≤ 300
      · rw [decide_eq_true h3] at g1 ⊢
        rw [Bool.true_and]
        ((conv => whnf); repeat ((first | refine Wo ?_ | refine Go1 ?_ | refine Go2 ?_ | refine Go3 ?_ | refine Go4 ?_ | refine ⟨_, rfl, ?_⟩ | refine Mi rfl ?_); (conv => whnf)))
        refine litE t1 ?_
        ((conv => whnf); repeat ((first | refine Wo ?_ | refine Go1 ?_ | refine Go2 ?_ | refine Go3 ?_ | refine Go4 ?_ | refine ⟨_, rfl, ?_⟩ | refine Mi rfl ?_); (conv => whnf)))
        refine litE g1 ?_
        ((conv => whnf); repeat ((first | refine Wo ?_ | refine Go1 ?_ | refine Go2 ?_ | refine Go3 ?_ | refine Go4 ?_ | refine ⟨_, rfl, ?_⟩ | refine Mi rfl ?_); (conv => whnf)))
        refine litE g2 ?_
        ((conv => whnf); repeat ((first | refine Wo ?_ | refine Go1 ?_ | refine Go2 ?_ | refine Go3 ?_ | refine Go4 ?_ | refine ⟨_, rfl, ?_⟩ | refine Mi rfl ?_); (conv => whnf)))
        exact TeA
      · rw [decide_eq_false h3] at g1 ⊢
        rw [Bool.false_and]
        ((conv => whnf); repeat ((first | refine Wo ?_ | refine Go1 ?_ | refine Go2 ?_ | refine Go3 ?_ | refine Go4 ?_ | refine ⟨_, rfl, ?_⟩ | refine Mi rfl ?_); (conv => whnf)))
        refine litE t1 ?_
        ((conv => whnf); repeat ((first | refine Wo ?_ | refine Go1 ?_ | refine Go2 ?_ | refine Go3 ?_ | refine Go4 ?_ | refine ⟨_, rfl, ?_⟩ | refine Mi rfl ?_); (conv => whnf)))
        refine litE g1 ?_
        ((conv => whnf); repeat ((first | refine Wo ?_ | refine Go1 ?_ | refine Go2 ?_ | refine Go3 ?_ | refine Go4 ?_ | refine ⟨_, rfl, ?_⟩ | refine Mi rfl ?_); (conv => whnf)))
        exact TeA
  · (refine Wk.to _ _ ?_ ?_ <;> (repeat' first | exact trivial | rfl | (refine And.intro ?_ ?_)))
end Go.Proofs.YtjldjhlccedkbaaGreatDoor.Am
end
section
/- Frames: ops, codes. -/
namespace Go.Proofs.YtjldjhlccedkbaaGreatDoor.Am
open Go Go.RowKit Go.Proofs.YtjldjhlccedkbaaGreatDoor.Sh
open Go.Proofs.YtjldjhlccedkbaaGreatDoor.Nm (numS)
set_option linter.unusedVariables false
set_option linter.unusedSimpArgs false
set_option maxRecDepth 100000
set_option maxHeartbeats 8000000
theorem beqB (a b : ByteArray) : (a.toList == b.toList) = decide (a = b) := by
  by_cases h : a = b
  · rw [h, decide_eq_true rfl]; simp
  · rw [decide_eq_false h, bne_of h]
end Go.Proofs.YtjldjhlccedkbaaGreatDoor.Am
end
section
/- The document's sameness; FrameGrows, walked. -/
namespace Go.Proofs.YtjldjhlccedkbaaGreatDoor.Am
open Go Go.RowKit Go.Proofs.YtjldjhlccedkbaaGreatDoor.Sh
open Go.Proofs.YtjldjhlccedkbaaGreatDoor.Nm (numS)
set_option linter.unusedVariables false
set_option linter.unusedSimpArgs false
set_option maxRecDepth 100000
set_option maxHeartbeats 8000000
theorem rsameI_runs {a b : List Int} (ha : a.length ≤ 9223372036854775806) : Runs Tryz.prog 64 [rI a none, rI b none] (bD (decide (a = b))) := by
  by_cases hab : a.length = b.length
  · have t0 : (!(((a.length : Nat) : Int) == ((b.length : Nat) : Int))) = false := by rw [hab]; simp
    refine Runs.wp Go.Proofs.YtjldjhlccedkbaaGreatDoor.Am.hT Go.Proofs.YtjldjhlccedkbaaGreatDoor.Am.hm Tryz.func64 rfl (by decide) ⟨[(6, .first 0 (.first 1 (.first 2 (.first 4 (.first 5 (.first 6 (.load 3 [8] (.load 7 [8] (.first 8 .done)))))))))], [0, 1, 4, 5, 10, 14, 25], 26⟩ ?_; ((conv => whnf); repeat ((first | refine Wo ?_ | refine Go1 ?_ | refine Go2 ?_ | refine Go3 ?_ | refine Go4 ?_ | refine ⟨_, rfl, ?_⟩ | refine Mi rfl ?_); (conv => whnf)))
    refine litE t0 ?_
    ((conv => whnf); repeat ((first | refine Wo ?_ | refine Go1 ?_ | refine Go2 ?_ | refine Go3 ?_ | refine Go4 ?_ | refine ⟨_, rfl, ?_⟩ | refine Mi rfl ?_); (conv => whnf)))
    refine loop_ind (fun k (i : Nat) => i + k = a.length + 1 ∧ i ≤ a.length ∧ a.take i = b.take i) (fun i => { t := pin [(0, .d (rI a none)), (1, .d (rI b none)), (5, .d (iD i))], N := 26, h := hpin [], n := 0, lo := 0 }) (fun i h => by omega) ?_ (a.length + 1) 0 ⟨by omega, by omega, rfl⟩ _ ?_
    · rintro k i R ih ⟨hk, hi, he⟩
      by_cases hlt : i < a.length
      · have hlt2 : i < b.length := by omega
        have t1 : decide ((i : Int) < (a.length : Int)) = true := by simpa using hlt
        have hx : (a.map iD)[(i : Int).toNat * 1]? = some (iD a[i]) := ixm (j := i) (by simp [hlt]) (by simp)
        have hy : (b.map iD)[(i : Int).toNat * 1]? = some (iD b[i]) := ixm (j := i) (by simp [hlt2]) (by simp)
        by_cases hp : a[i] = b[i]
        · have hq : (!(a[i] == b[i])) = false := by simp [hp]
          ((conv => whnf); repeat ((first | refine Wo ?_ | refine Go1 ?_ | refine Go2 ?_ | refine Go3 ?_ | refine Go4 ?_ | refine ⟨_, rfl, ?_⟩ | refine Mi rfl ?_); (conv => whnf)))
          refine litE t1 ?_
          ((conv => whnf); repeat ((first | refine Wo ?_ | refine Go1 ?_ | refine Go2 ?_ | refine Go3 ?_ | refine Go4 ?_ | refine ⟨_, rfl, ?_⟩ | refine Mi rfl ?_); (conv => whnf)))
          (refine And.intro (by decide +kernel) ?_; apply Exists.intro; apply And.intro; focus ((repeat' ((conv => whnf); first | exact trivial | refine Wo ?_ | refine Lt (by decide) ?_ | refine Lf (by decide) ?_ | refine Cl (by decide) ?_ | refine Cr (by decide) ?_ | refine ⟨_, rfl, ?_⟩ | refine Mi rfl ?_ | (first | refine And.intro (show (0 : Int) ≤ (i : Int) by omega) ?_ | refine And.intro (show (i : Int) < (a.length : Int) by omega) ?_ | refine And.intro (show (i : Int) < (b.length : Int) by omega) ?_ | refine ⟨_, hx, ?_⟩ | refine ⟨_, hy, ?_⟩ | refine litE hq ?_) | (refine And.intro ?_ ?_))); all_goals (first | ((conv => whnf); exact Wk.frc (keep := [0, 1, 4, 5, 10, 14, 25]) (N := 26) (by (conv => whnf); first | done | exact rfl)) | (first | decide | rfl | assumption | omega | (dsimp only; omega) | (unfold maxLen; omega) | ((try dsimp only [maxLen]); simp only [List.length_append, List.length_cons, List.length_nil, List.length_map, List.length_range, List.length_set, List.length_replicate]; omega) | ((try dsimp only [maxLen]); simp only [IntKind.wrap_i64, IntKind.wrap_u64, List.length_append, List.length_cons, List.length_nil, List.length_map, List.length_range, List.length_set, List.length_replicate]; omega) | ((try dsimp only [maxLen]); simp only [List.length_append, List.length_cons, List.length_nil, List.length_map, List.length_range, List.length_set, List.length_replicate] at *; omega)))))
          ((conv => whnf); repeat ((first | refine Wo ?_ | refine Go1 ?_ | refine Go2 ?_ | refine Go3 ?_ | refine Go4 ?_ | refine ⟨_, rfl, ?_⟩ | refine Mi rfl ?_); (conv => whnf)))
          refine ih (i + 1) _ ⟨by omega, by omega, take_eq_snoc hlt hlt2 he hp⟩ ?_
          (refine Wk.pin [] _ _ ?_ ?_ rfl rfl (by decide) rfl rfl <;> (repeat' first | exact trivial | rfl | (refine And.intro ?_ ?_)))
          exact inE (i64n (by simp) (by omega))
        · have hq : (!(a[i] == b[i])) = true := by simp [hp]
          rw [decide_eq_false (show ¬ a = b by rintro rfl; exact hp rfl)]
          ((conv => whnf); repeat ((first | refine Wo ?_ | refine Go1 ?_ | refine Go2 ?_ | refine Go3 ?_ | refine Go4 ?_ | refine ⟨_, rfl, ?_⟩ | refine Mi rfl ?_); (conv => whnf)))
          refine litE t1 ?_
          ((conv => whnf); repeat ((first | refine Wo ?_ | refine Go1 ?_ | refine Go2 ?_ | refine Go3 ?_ | refine Go4 ?_ | refine ⟨_, rfl, ?_⟩ | refine Mi rfl ?_); (conv => whnf)))
          (refine And.intro (by decide +kernel) ?_; apply Exists.intro; apply And.intro; focus ((repeat' ((conv => whnf); first | exact trivial | refine Wo ?_ | refine Lt (by decide) ?_ | refine Lf (by decide) ?_ | refine Cl (by decide) ?_ | refine Cr (by decide) ?_ | refine ⟨_, rfl, ?_⟩ | refine Mi rfl ?_ | (first | refine And.intro (show (0 : Int) ≤ (i : Int) by omega) ?_ | refine And.intro (show (i : Int) < (a.length : Int) by omega) ?_ | refine And.intro (show (i : Int) < (b.length : Int) by omega) ?_ | refine ⟨_, hx, ?_⟩ | refine ⟨_, hy, ?_⟩ | refine litE hq ?_) | (refine And.intro ?_ ?_))); all_goals (first | ((conv => whnf); exact Wk.frc (keep := [0, 1, 4, 5, 10, 14, 25]) (N := 26) (by (conv => whnf); first | done | exact rfl)) | (first | decide | rfl | assumption | omega | (dsimp only; omega) | (unfold maxLen; omega) | ((try dsimp only [maxLen]); simp only [List.length_append, List.length_cons, List.length_nil, List.length_map, List.length_range, List.length_set, List.length_replicate]; omega) | ((try dsimp only [maxLen]); simp only [IntKind.wrap_i64, IntKind.wrap_u64, List.length_append, List.length_cons, List.length_nil, List.length_map, List.length_range, List.length_set, List.length_replicate]; omega) | ((try dsimp only [maxLen]); simp only [List.length_append, List.length_cons, List.length_nil, List.length_map, List.length_range, List.length_set, List.length_replicate] at *; omega)))))
          ((conv => whnf); repeat ((first | refine Wo ?_ | refine Go1 ?_ | refine Go2 ?_ | refine Go3 ?_ | refine Go4 ?_ | refine ⟨_, rfl, ?_⟩ | refine Mi rfl ?_); (conv => whnf)))
          exact TeA
      · have t1 : decide ((i : Int) < (a.length : Int)) = false := by simpa using hlt
        have : a = b := by rwa [List.take_of_length_le (by omega), List.take_of_length_le (by omega)] at he
        rw [decide_eq_true this]
        ((conv => whnf); repeat ((first | refine Wo ?_ | refine Go1 ?_ | refine Go2 ?_ | refine Go3 ?_ | refine Go4 ?_ | refine ⟨_, rfl, ?_⟩ | refine Mi rfl ?_); (conv => whnf)))
        refine litE t1 ?_
        ((conv => whnf); repeat ((first | refine Wo ?_ | refine Go1 ?_ | refine Go2 ?_ | refine Go3 ?_ | refine Go4 ?_ | refine ⟨_, rfl, ?_⟩ | refine Mi rfl ?_); (conv => whnf)))
        exact TeA
    · (refine Wk.to _ _ ?_ ?_ <;> (repeat' first | exact trivial | rfl | (refine And.intro ?_ ?_)))
  · have t0 : (!(((a.length : Nat) : Int) == ((b.length : Nat) : Int))) = true := by simp; omega
    rw [decide_eq_false (fun h => hab (by rw [h]))]
    refine Runs.wp Go.Proofs.YtjldjhlccedkbaaGreatDoor.Am.hT Go.Proofs.YtjldjhlccedkbaaGreatDoor.Am.hm Tryz.func64 rfl (by decide) ⟨[(6, .first 0 (.first 1 (.first 2 (.first 4 (.first 5 (.first 6 (.load 3 [8] (.load 7 [8] (.first 8 .done)))))))))], [0, 1, 4, 5, 10, 14, 25], 26⟩ ?_; ((conv => whnf); repeat ((first | refine Wo ?_ | refine Go1 ?_ | refine Go2 ?_ | refine Go3 ?_ | refine Go4 ?_ | refine ⟨_, rfl, ?_⟩ | refine Mi rfl ?_); (conv => whnf)))
    refine litE t0 ?_
    ((conv => whnf); repeat ((first | refine Wo ?_ | refine Go1 ?_ | refine Go2 ?_ | refine Go3 ?_ | refine Go4 ?_ | refine ⟨_, rfl, ?_⟩ | refine Mi rfl ?_); (conv => whnf)))
    exact TeA
theorem rsameV_runs (s s2 : List Int) (a b : List ByteArray) (hs : s.length ≤ 9223372036854775806) (ha : a.length ≤ 9223372036854775806) : Runs Tryz.prog 23 [vD s a none none, vD s2 b none none] (bD (decide (s = s2 ∧ a = b))) := by
  have h1 := rsameI_runs (a := s) (b := s2) hs
  by_cases hss : s = s2
  · rw [decide_eq_true hss] at h1
    rw [show decide (s = s2 ∧ a = b) = decide (a = b) by rw [decide_eq_decide]; simp [hss]]
    by_cases hab : a.length = b.length
    · have t0 : (!(((a.length : Nat) : Int) == ((b.length : Nat) : Int))) = false := by rw [hab]; simp
      refine Runs.wp Go.Proofs.YtjldjhlccedkbaaGreatDoor.Am.hT Go.Proofs.YtjldjhlccedkbaaGreatDoor.Am.hm Tryz.func23 rfl (by decide) ⟨[(6, .first 0 (.first 2 (.first 5 (.first 7 (.load 1 [3, 4, 10] (.first 3 (.load 4 [10] (.load 6 [8, 9, 10] (.first 8 (.load 9 [10] (.first 10 .done)))))))))))], [0, 1, 2, 3, 4, 5, 20, 25, 38], 39⟩ ?_; ((conv => whnf); repeat ((first | refine Wo ?_ | refine Go1 ?_ | refine Go2 ?_ | refine Go3 ?_ | refine Go4 ?_ | refine ⟨_, rfl, ?_⟩ | refine Mi rfl ?_); (conv => whnf)))
      ((conv => whnf); (refine HfA h1 ?_); ((conv => whnf); repeat ((first | refine Wo ?_ | refine Go1 ?_ | refine Go2 ?_ | refine Go3 ?_ | refine Go4 ?_ | refine ⟨_, rfl, ?_⟩ | refine Mi rfl ?_); (conv => whnf))))
      refine litE t0 ?_
      ((conv => whnf); repeat ((first | refine Wo ?_ | refine Go1 ?_ | refine Go2 ?_ | refine Go3 ?_ | refine Go4 ?_ | refine ⟨_, rfl, ?_⟩ | refine Mi rfl ?_); (conv => whnf)))
      refine loop_ind (fun k (i : Nat) => i + k = a.length + 1 ∧ i ≤ a.length ∧ a.take i = b.take i) (fun i => { t := pin [(2, .pt 0 0), (3, .pt 1 0), (4, .d (bD false)), (5, .d (iD i))], N := 39, h := hpin [some (.st 25 [.d (rI s none), .d (rS a none)]), some (.st 25 [.d (rI s2 none), .d (rS b none)])], n := 2, lo := 0 }) (fun i h => by omega) ?_ (a.length + 1) 0 ⟨by omega, by omega, rfl⟩ _ ?_
      · rintro k i R ih ⟨hk, hi, he⟩
        by_cases hlt : i < a.length
        · have hlt2 : i < b.length := by omega
          have t1 : decide ((i : Int) < (a.length : Int)) = true := by simpa using hlt
          have hx : (a.map sD)[(i : Int).toNat * 1]? = some (sD a[i]) := ixm (j := i) (by simp [hlt]) (by simp)
          have hy : (b.map sD)[(i : Int).toNat * 1]? = some (sD b[i]) := ixm (j := i) (by simp [hlt2]) (by simp)
          have hq : (!(a[i].toList == b[i].toList)) = !decide (a[i] = b[i]) := by rw [beqB]
          by_cases hp : a[i] = b[i]
          · rw [decide_eq_true hp] at hq
            ((conv => whnf); repeat ((first | refine Wo ?_ | refine Go1 ?_ | refine Go2 ?_ | refine Go3 ?_ | refine Go4 ?_ | refine ⟨_, rfl, ?_⟩ | refine Mi rfl ?_); (conv => whnf)))
            refine litE t1 ?_
            ((conv => whnf); repeat ((first | refine Wo ?_ | refine Go1 ?_ | refine Go2 ?_ | refine Go3 ?_ | refine Go4 ?_ | refine ⟨_, rfl, ?_⟩ | refine Mi rfl ?_); (conv => whnf)))
            (refine And.intro (by decide +kernel) ?_; apply Exists.intro; apply And.intro; focus ((repeat' ((conv => whnf); first | exact trivial | refine Wo ?_ | refine Lt (by decide) ?_ | refine Lf (by decide) ?_ | refine Cl (by decide) ?_ | refine Cr (by decide) ?_ | refine ⟨_, rfl, ?_⟩ | refine Mi rfl ?_ | (first | refine And.intro (show (0 : Int) ≤ (i : Int) by omega) ?_ | refine And.intro (show (i : Int) < (a.length : Int) by omega) ?_ | refine And.intro (show (i : Int) < (b.length : Int) by omega) ?_ | refine ⟨_, hx, ?_⟩ | refine ⟨_, hy, ?_⟩ | refine litE hq ?_) | (refine And.intro ?_ ?_))); all_goals (first | ((conv => whnf); exact Wk.frc (keep := [0, 1, 2, 3, 4, 5, 20, 25, 38]) (N := 39) (by (conv => whnf); first | done | exact rfl)) | (first | decide | rfl | assumption | omega | (dsimp only; omega) | (unfold maxLen; omega) | ((try dsimp only [maxLen]); simp only [List.length_append, List.length_cons, List.length_nil, List.length_map, List.length_range, List.length_set, List.length_replicate]; omega) | ((try dsimp only [maxLen]); simp only [IntKind.wrap_i64, IntKind.wrap_u64, List.length_append, List.length_cons, List.length_nil, List.length_map, List.length_range, List.length_set, List.length_replicate]; omega) | ((try dsimp only [maxLen]); simp only [List.length_append, List.length_cons, List.length_nil, List.length_map, List.length_range, List.length_set, List.length_replicate] at *; omega)))))
            ((conv => whnf); repeat ((first | refine Wo ?_ | refine Go1 ?_ | refine Go2 ?_ | refine Go3 ?_ | refine Go4 ?_ | refine ⟨_, rfl, ?_⟩ | refine Mi rfl ?_); (conv => whnf)))
            refine ih (i + 1) _ ⟨by omega, by omega, take_eq_snoc hlt hlt2 he hp⟩ ?_
            (refine Wk.pin [0, 1] _ _ ?_ ?_ rfl rfl (by decide) rfl rfl <;> (repeat' first | exact trivial | rfl | (refine And.intro ?_ ?_)))
            exact inE (i64n (by simp) (by omega))
          · rw [decide_eq_false hp] at hq
            rw [decide_eq_false (show ¬ a = b by rintro rfl; exact hp rfl)]
            ((conv => whnf); repeat ((first | refine Wo ?_ | refine Go1 ?_ | refine Go2 ?_ | refine Go3 ?_ | refine Go4 ?_ | refine ⟨_, rfl, ?_⟩ | refine Mi rfl ?_); (conv => whnf)))
            refine litE t1 ?_
            ((conv => whnf); repeat ((first | refine Wo ?_ | refine Go1 ?_ | refine Go2 ?_ | refine Go3 ?_ | refine Go4 ?_ | refine ⟨_, rfl, ?_⟩ | refine Mi rfl ?_); (conv => whnf)))
            (refine And.intro (by decide +kernel) ?_; apply Exists.intro; apply And.intro; focus ((repeat' ((conv => whnf); first | exact trivial | refine Wo ?_ | refine Lt (by decide) ?_ | refine Lf (by decide) ?_ | refine Cl (by decide) ?_ | refine Cr (by decide) ?_ | refine ⟨_, rfl, ?_⟩ | refine Mi rfl ?_ | (first | refine And.intro (show (0 : Int) ≤ (i : Int) by omega) ?_ | refine And.intro (show (i : Int) < (a.length : Int) by omega) ?_ | refine And.intro (show (i : Int) < (b.length : Int) by omega) ?_ | refine ⟨_, hx, ?_⟩ | refine ⟨_, hy, ?_⟩ | refine litE hq ?_) | (refine And.intro ?_ ?_))); all_goals (first | ((conv => whnf); exact Wk.frc (keep := [0, 1, 2, 3, 4, 5, 20, 25, 38]) (N := 39) (by (conv => whnf); first | done | exact rfl)) | (first | decide | rfl | assumption | omega | (dsimp only; omega) | (unfold maxLen; omega) | ((try dsimp only [maxLen]); simp only [List.length_append, List.length_cons, List.length_nil, List.length_map, List.length_range, List.length_set, List.length_replicate]; omega) | ((try dsimp only [maxLen]); simp only [IntKind.wrap_i64, IntKind.wrap_u64, List.length_append, List.length_cons, List.length_nil, List.length_map, List.length_range, List.length_set, List.length_replicate]; omega) | ((try dsimp only [maxLen]); simp only [List.length_append, List.length_cons, List.length_nil, List.length_map, List.length_range, List.length_set, List.length_replicate] at *; omega)))))
            ((conv => whnf); repeat ((first | refine Wo ?_ | refine Go1 ?_ | refine Go2 ?_ | refine Go3 ?_ | refine Go4 ?_ | refine ⟨_, rfl, ?_⟩ | refine Mi rfl ?_); (conv => whnf)))
            exact TeA
        · have t1 : decide ((i : Int) < (a.length : Int)) = false := by simpa using hlt
          have : a = b := by rwa [List.take_of_length_le (by omega), List.take_of_length_le (by omega)] at he
          rw [decide_eq_true this]
          ((conv => whnf); repeat ((first | refine Wo ?_ | refine Go1 ?_ | refine Go2 ?_ | refine Go3 ?_ | refine Go4 ?_ | refine ⟨_, rfl, ?_⟩ | refine Mi rfl ?_); (conv => whnf)))
          refine litE t1 ?_
          ((conv => whnf); repeat ((first | refine Wo ?_ | refine Go1 ?_ | refine Go2 ?_ | refine Go3 ?_ | refine Go4 ?_ | refine ⟨_, rfl, ?_⟩ | refine Mi rfl ?_); (conv => whnf)))
          exact TeA
      · (refine Wk.to _ _ ?_ ?_ <;> (repeat' first | exact trivial | rfl | (refine And.intro ?_ ?_)))
    · have t0 : (!(((a.length : Nat) : Int) == ((b.length : Nat) : Int))) = true := by simp; omega
      rw [decide_eq_false (fun h => hab (by rw [h]))]
      refine Runs.wp Go.Proofs.YtjldjhlccedkbaaGreatDoor.Am.hT Go.Proofs.YtjldjhlccedkbaaGreatDoor.Am.hm Tryz.func23 rfl (by decide) ⟨[(6, .first 0 (.first 2 (.first 5 (.first 7 (.load 1 [3, 4, 10] (.first 3 (.load 4 [10] (.load 6 [8, 9, 10] (.first 8 (.load 9 [10] (.first 10 .done)))))))))))], [0, 1, 2, 3, 4, 5, 20, 25, 38], 39⟩ ?_; ((conv => whnf); repeat ((first | refine Wo ?_ | refine Go1 ?_ | refine Go2 ?_ | refine Go3 ?_ | refine Go4 ?_ | refine ⟨_, rfl, ?_⟩ | refine Mi rfl ?_); (conv => whnf)))
      ((conv => whnf); (refine HfA h1 ?_); ((conv => whnf); repeat ((first | refine Wo ?_ | refine Go1 ?_ | refine Go2 ?_ | refine Go3 ?_ | refine Go4 ?_ | refine ⟨_, rfl, ?_⟩ | refine Mi rfl ?_); (conv => whnf))))
      refine litE t0 ?_
      ((conv => whnf); repeat ((first | refine Wo ?_ | refine Go1 ?_ | refine Go2 ?_ | refine Go3 ?_ | refine Go4 ?_ | refine ⟨_, rfl, ?_⟩ | refine Mi rfl ?_); (conv => whnf)))
      exact TeA
  · rw [decide_eq_false hss] at h1
    rw [show decide (s = s2 ∧ a = b) = false by simp [hss]]
    refine Runs.wp Go.Proofs.YtjldjhlccedkbaaGreatDoor.Am.hT Go.Proofs.YtjldjhlccedkbaaGreatDoor.Am.hm Tryz.func23 rfl (by decide) ⟨[(6, .first 0 (.first 2 (.first 5 (.first 7 (.load 1 [3, 4, 10] (.first 3 (.load 4 [10] (.load 6 [8, 9, 10] (.first 8 (.load 9 [10] (.first 10 .done)))))))))))], [0, 1, 2, 3, 4, 5, 20, 25, 38], 39⟩ ?_; ((conv => whnf); repeat ((first | refine Wo ?_ | refine Go1 ?_ | refine Go2 ?_ | refine Go3 ?_ | refine Go4 ?_ | refine ⟨_, rfl, ?_⟩ | refine Mi rfl ?_); (conv => whnf)))
    ((conv => whnf); (refine HfA h1 ?_); ((conv => whnf); repeat ((first | refine Wo ?_ | refine Go1 ?_ | refine Go2 ?_ | refine Go3 ?_ | refine Go4 ?_ | refine ⟨_, rfl, ?_⟩ | refine Mi rfl ?_); (conv => whnf))))
    exact TeA
end Go.Proofs.YtjldjhlccedkbaaGreatDoor.Am
end
section
/- The document's shapes. -/
namespace Go.Proofs.YtjldjhlccedkbaaGreatDoor.Am
open Go Go.Lib Go.RowKit Go.Proofs.YtjldjhlccedkbaaGreatDoor.Nm Go.Proofs.YtjldjhlccedkbaaGreatDoorW.PrintWords Go.Proofs.YtjldjhlccedkbaaGreatDoor Go.Proofs.YtjldjhlccedkbaaGreatDoor.Sh
set_option linter.unusedVariables false
set_option linter.unusedSimpArgs false
set_option maxRecDepth 100000
set_option maxHeartbeats 8000000
theorem rpr_app (a b : List Int) : pr (a ++ b) = pr a * pr b := by
  induction a with
  | nil => simp [pr]
  | cons x a ih => simp [pr, ih, Int.mul_assoc]
theorem any_take {s : List Int} {p : Int → Bool} {i : Nat} (h : i < s.length) : (s.take (i + 1)).any p = ((s.take i).any p || p s[i]) := by
  rw [List.take_add_one, List.getElem?_eq_getElem h, List.any_append]
  simp
theorem rsz_runs (s : List Int) (hs : s.length ≤ 1000000) : Runs Tryz.prog 56 [rI s none] (.tup [iD (sizeS s).1, iD (sizeS s).2]) := by
  unfold sizeS
  by_cases h3 : 3 < s.length
  · have t1 : decide (((s.length : Nat) : Int) > 3) = true := by rw [decide_eq_true_iff]; omega
    rw [if_pos h3]
    refine Runs.wp Go.Proofs.YtjldjhlccedkbaaGreatDoor.Am.hT Go.Proofs.YtjldjhlccedkbaaGreatDoor.Am.hm Tryz.func56 rfl (by decide) ⟨[], [0, 2, 3, 4, 5, 6, 7, 8, 11, 15, 22, 34, 41, 42, 46, 62], 70⟩ ?_; ((conv => whnf); repeat ((first | refine Wo ?_ | refine Go1 ?_ | refine Go2 ?_ | refine Go3 ?_ | refine Go4 ?_ | refine ⟨_, rfl, ?_⟩ | refine Mi rfl ?_); (conv => whnf)))
    refine litE t1 ?_
    ((conv => whnf); repeat ((first | refine Wo ?_ | refine Go1 ?_ | refine Go2 ?_ | refine Go3 ?_ | refine Go4 ?_ | refine ⟨_, rfl, ?_⟩ | refine Mi rfl ?_); (conv => whnf)))
    exact TeA
  · have t1 : decide (((s.length : Nat) : Int) > 3) = false := by rw [decide_eq_false_iff_not]; omega
    rw [if_neg h3]
    refine Runs.wp Go.Proofs.YtjldjhlccedkbaaGreatDoor.Am.hT Go.Proofs.YtjldjhlccedkbaaGreatDoor.Am.hm Tryz.func56 rfl (by decide) ⟨[], [0, 2, 3, 4, 5, 6, 7, 8, 11, 15, 22, 34, 41, 42, 46, 62], 70⟩ ?_; ((conv => whnf); repeat ((first | refine Wo ?_ | refine Go1 ?_ | refine Go2 ?_ | refine Go3 ?_ | refine Go4 ?_ | refine ⟨_, rfl, ?_⟩ | refine Mi rfl ?_); (conv => whnf)))
    refine litE t1 ?_
    ((conv => whnf); repeat ((first | refine Wo ?_ | refine Go1 ?_ | refine Go2 ?_ | refine Go3 ?_ | refine Go4 ?_ | refine ⟨_, rfl, ?_⟩ | refine Mi rfl ?_); (conv => whnf)))
    refine loop_ind (fun k (i : Nat) => i + k = s.length + 1 ∧ i ≤ s.length ∧ (s.take i).any (fun x => decide (x < 0)) = false) (fun i => { t := pin [(0, .d (rI s none)), (4, .d (bD ((s.take i).any (fun x => x == 0)))), (5, .d (iD i))], N := 70, h := hpin [], n := 0, lo := 0 }) (fun i h => by omega) ?_ (s.length + 1) 0 ⟨by omega, by omega, rfl⟩ _ ?_
    · rintro k i R ih ⟨hk, hi, ha⟩
      by_cases hlt : i < s.length
      · have t2 : decide ((i : Int) < (s.length : Int)) = true := by rw [decide_eq_true_iff]; omega
        have gi : (s.map iD)[(i : Int).toNat * 1]? = some (iD s[i]) := ixm (j := i) (List.getElem?_eq_getElem hlt) (by simp)
        by_cases hn : s[i] < 0
        · have t3 : decide (s[i] < 0) = true := decide_eq_true hn
          rw [if_pos (show s.any (fun x => decide (x < 0)) = true by rw [List.any_eq_true]; exact ⟨_, List.getElem_mem hlt, t3⟩)]
          ((conv => whnf); repeat ((first | refine Wo ?_ | refine Go1 ?_ | refine Go2 ?_ | refine Go3 ?_ | refine Go4 ?_ | refine ⟨_, rfl, ?_⟩ | refine Mi rfl ?_); (conv => whnf)))
          refine litE t2 ?_
          ((conv => whnf); repeat ((first | refine Wo ?_ | refine Go1 ?_ | refine Go2 ?_ | refine Go3 ?_ | refine Go4 ?_ | refine ⟨_, rfl, ?_⟩ | refine Mi rfl ?_); (conv => whnf)))
          refine ⟨by omega, by omega, ?_⟩
          ((conv => whnf); repeat ((first | refine Wo ?_ | refine Go1 ?_ | refine Go2 ?_ | refine Go3 ?_ | refine Go4 ?_ | refine ⟨_, rfl, ?_⟩ | refine Mi rfl ?_); (conv => whnf)))
          refine ⟨_, gi, ?_⟩
          ((conv => whnf); repeat ((first | refine Wo ?_ | refine Go1 ?_ | refine Go2 ?_ | refine Go3 ?_ | refine Go4 ?_ | refine ⟨_, rfl, ?_⟩ | refine Mi rfl ?_); (conv => whnf)))
          refine litE t3 ?_
          ((conv => whnf); repeat ((first | refine Wo ?_ | refine Go1 ?_ | refine Go2 ?_ | refine Go3 ?_ | refine Go4 ?_ | refine ⟨_, rfl, ?_⟩ | refine Mi rfl ?_); (conv => whnf)))
          exact TeA
        · have t3 : decide (s[i] < 0) = false := decide_eq_false hn
          have hz := any_take (p := fun x => x == 0) hlt
          have hz2 := any_take (p := fun x => decide (x < 0)) hlt
          cases hb : (s.take i).any (fun x => x == 0) with
          | true =>
            rw [hb, Bool.true_or] at hz
            ((conv => whnf); repeat ((first | refine Wo ?_ | refine Go1 ?_ | refine Go2 ?_ | refine Go3 ?_ | refine Go4 ?_ | refine ⟨_, rfl, ?_⟩ | refine Mi rfl ?_); (conv => whnf)))
            refine litE t2 ?_
            ((conv => whnf); repeat ((first | refine Wo ?_ | refine Go1 ?_ | refine Go2 ?_ | refine Go3 ?_ | refine Go4 ?_ | refine ⟨_, rfl, ?_⟩ | refine Mi rfl ?_); (conv => whnf)))
            refine ⟨by omega, by omega, ?_⟩
            ((conv => whnf); repeat ((first | refine Wo ?_ | refine Go1 ?_ | refine Go2 ?_ | refine Go3 ?_ | refine Go4 ?_ | refine ⟨_, rfl, ?_⟩ | refine Mi rfl ?_); (conv => whnf)))
            refine ⟨_, gi, ?_⟩
            ((conv => whnf); repeat ((first | refine Wo ?_ | refine Go1 ?_ | refine Go2 ?_ | refine Go3 ?_ | refine Go4 ?_ | refine ⟨_, rfl, ?_⟩ | refine Mi rfl ?_); (conv => whnf)))
            refine litE t3 ?_
            ((conv => whnf); repeat ((first | refine Wo ?_ | refine Go1 ?_ | refine Go2 ?_ | refine Go3 ?_ | refine Go4 ?_ | refine ⟨_, rfl, ?_⟩ | refine Mi rfl ?_); (conv => whnf)))
            refine ih (i + 1) _ ⟨by omega, by omega, by rw [hz2, ha, t3]; rfl⟩ ?_
            rw [hz]
            (refine Wk.to _ _ ?_ ?_ <;> (repeat' first | exact trivial | rfl | (refine And.intro ?_ ?_)))
            exact inE (i64n (n := i + 1) (by omega) (by omega))
          | false =>
            rw [hb, Bool.false_or] at hz
            ((conv => whnf); repeat ((first | refine Wo ?_ | refine Go1 ?_ | refine Go2 ?_ | refine Go3 ?_ | refine Go4 ?_ | refine ⟨_, rfl, ?_⟩ | refine Mi rfl ?_); (conv => whnf)))
            refine litE t2 ?_
            ((conv => whnf); repeat ((first | refine Wo ?_ | refine Go1 ?_ | refine Go2 ?_ | refine Go3 ?_ | refine Go4 ?_ | refine ⟨_, rfl, ?_⟩ | refine Mi rfl ?_); (conv => whnf)))
            refine ⟨by omega, by omega, ?_⟩
            ((conv => whnf); repeat ((first | refine Wo ?_ | refine Go1 ?_ | refine Go2 ?_ | refine Go3 ?_ | refine Go4 ?_ | refine ⟨_, rfl, ?_⟩ | refine Mi rfl ?_); (conv => whnf)))
            refine ⟨_, gi, ?_⟩
            ((conv => whnf); repeat ((first | refine Wo ?_ | refine Go1 ?_ | refine Go2 ?_ | refine Go3 ?_ | refine Go4 ?_ | refine ⟨_, rfl, ?_⟩ | refine Mi rfl ?_); (conv => whnf)))
            refine litE t3 ?_
            ((conv => whnf); repeat ((first | refine Wo ?_ | refine Go1 ?_ | refine Go2 ?_ | refine Go3 ?_ | refine Go4 ?_ | refine ⟨_, rfl, ?_⟩ | refine Mi rfl ?_); (conv => whnf)))
            refine ⟨by omega, by omega, ?_⟩
            ((conv => whnf); repeat ((first | refine Wo ?_ | refine Go1 ?_ | refine Go2 ?_ | refine Go3 ?_ | refine Go4 ?_ | refine ⟨_, rfl, ?_⟩ | refine Mi rfl ?_); (conv => whnf)))
            refine ⟨_, gi, ?_⟩
            ((conv => whnf); repeat ((first | refine Wo ?_ | refine Go1 ?_ | refine Go2 ?_ | refine Go3 ?_ | refine Go4 ?_ | refine ⟨_, rfl, ?_⟩ | refine Mi rfl ?_); (conv => whnf)))
            refine litE hz.symm ?_
            ((conv => whnf); repeat ((first | refine Wo ?_ | refine Go1 ?_ | refine Go2 ?_ | refine Go3 ?_ | refine Go4 ?_ | refine ⟨_, rfl, ?_⟩ | refine Mi rfl ?_); (conv => whnf)))
            refine ih (i + 1) _ ⟨by omega, by omega, by rw [hz2, ha, t3]; rfl⟩ ?_
            (refine Wk.to _ _ ?_ ?_ <;> (repeat' first | exact trivial | rfl | (refine And.intro ?_ ?_)))
            exact inE (i64n (n := i + 1) (by omega) (by omega))
      · have t2 : decide ((i : Int) < (s.length : Int)) = false := by rw [decide_eq_false_iff_not]; omega
        rw [List.take_of_length_le (by omega)] at ha ⊢
        rw [if_neg (by rw [ha]; decide)]
        ((conv => whnf); repeat ((first | refine Wo ?_ | refine Go1 ?_ | refine Go2 ?_ | refine Go3 ?_ | refine Go4 ?_ | refine ⟨_, rfl, ?_⟩ | refine Mi rfl ?_); (conv => whnf)))
        refine litE t2 ?_
        ((conv => whnf); repeat ((first | refine Wo ?_ | refine Go1 ?_ | refine Go2 ?_ | refine Go3 ?_ | refine Go4 ?_ | refine ⟨_, rfl, ?_⟩ | refine Mi rfl ?_); (conv => whnf)))
        refine loop_ind (fun k (i : Nat) => i + k = s.length + 1 ∧ i ≤ s.length ∧ (s.take i).any (fun x => decide (1099511627776 < x)) = false) (fun i => { t := pin [(0, .d (rI s none)), (4, .d (bD (s.any (fun x => x == 0)))), (6, .d (iD i))], N := 70, h := hpin [], n := 0, lo := 0 }) (fun i h => by omega) ?_ (s.length + 1) 0 ⟨by omega, by omega, rfl⟩ _ ?_
        · rintro k2 j R2 ih2 ⟨hk2, hj, hb⟩
          by_cases hlt2 : j < s.length
          · have t3 : decide ((j : Int) < (s.length : Int)) = true := by rw [decide_eq_true_iff]; omega
            have gi : (s.map iD)[(j : Int).toNat * 1]? = some (iD s[j]) := ixm (j := j) (List.getElem?_eq_getElem hlt2) (by simp)
            have hz2 := any_take (p := fun x => decide (1099511627776 < x)) hlt2
            by_cases hn : 1099511627776 < s[j]
            · have t4 : decide (s[j] > 1099511627776) = true := decide_eq_true hn
              rw [if_pos (show s.any (fun x => decide (1099511627776 < x)) = true by rw [List.any_eq_true]; exact ⟨_, List.getElem_mem hlt2, t4⟩)]
              ((conv => whnf); repeat ((first | refine Wo ?_ | refine Go1 ?_ | refine Go2 ?_ | refine Go3 ?_ | refine Go4 ?_ | refine ⟨_, rfl, ?_⟩ | refine Mi rfl ?_); (conv => whnf)))
              refine litE t3 ?_
              ((conv => whnf); repeat ((first | refine Wo ?_ | refine Go1 ?_ | refine Go2 ?_ | refine Go3 ?_ | refine Go4 ?_ | refine ⟨_, rfl, ?_⟩ | refine Mi rfl ?_); (conv => whnf)))
              refine ⟨by omega, by omega, ?_⟩
              ((conv => whnf); repeat ((first | refine Wo ?_ | refine Go1 ?_ | refine Go2 ?_ | refine Go3 ?_ | refine Go4 ?_ | refine ⟨_, rfl, ?_⟩ | refine Mi rfl ?_); (conv => whnf)))
              refine ⟨_, gi, ?_⟩
              ((conv => whnf); repeat ((first | refine Wo ?_ | refine Go1 ?_ | refine Go2 ?_ | refine Go3 ?_ | refine Go4 ?_ | refine ⟨_, rfl, ?_⟩ | refine Mi rfl ?_); (conv => whnf)))
              refine litE t4 ?_
              ((conv => whnf); repeat ((first | refine Wo ?_ | refine Go1 ?_ | refine Go2 ?_ | refine Go3 ?_ | refine Go4 ?_ | refine ⟨_, rfl, ?_⟩ | refine Mi rfl ?_); (conv => whnf)))
              exact TeA
            · have t4 : decide (s[j] > 1099511627776) = false := decide_eq_false hn
              ((conv => whnf); repeat ((first | refine Wo ?_ | refine Go1 ?_ | refine Go2 ?_ | refine Go3 ?_ | refine Go4 ?_ | refine ⟨_, rfl, ?_⟩ | refine Mi rfl ?_); (conv => whnf)))
              refine litE t3 ?_
              ((conv => whnf); repeat ((first | refine Wo ?_ | refine Go1 ?_ | refine Go2 ?_ | refine Go3 ?_ | refine Go4 ?_ | refine ⟨_, rfl, ?_⟩ | refine Mi rfl ?_); (conv => whnf)))
              refine ⟨by omega, by omega, ?_⟩
              ((conv => whnf); repeat ((first | refine Wo ?_ | refine Go1 ?_ | refine Go2 ?_ | refine Go3 ?_ | refine Go4 ?_ | refine ⟨_, rfl, ?_⟩ | refine Mi rfl ?_); (conv => whnf)))
              refine ⟨_, gi, ?_⟩
              ((conv => whnf); repeat ((first | refine Wo ?_ | refine Go1 ?_ | refine Go2 ?_ | refine Go3 ?_ | refine Go4 ?_ | refine ⟨_, rfl, ?_⟩ | refine Mi rfl ?_); (conv => whnf)))
              refine litE t4 ?_
              ((conv => whnf); repeat ((first | refine Wo ?_ | refine Go1 ?_ | refine Go2 ?_ | refine Go3 ?_ | refine Go4 ?_ | refine ⟨_, rfl, ?_⟩ | refine Mi rfl ?_); (conv => whnf)))
              refine ih2 (j + 1) _ ⟨by omega, by omega, by rw [hz2, hb]; exact t4⟩ ?_
              (refine Wk.to _ _ ?_ ?_ <;> (repeat' first | exact trivial | rfl | (refine And.intro ?_ ?_)))
              exact inE (i64n (n := j + 1) (by omega) (by omega))
          · have t3 : decide ((j : Int) < (s.length : Int)) = false := by rw [decide_eq_false_iff_not]; omega
            rw [List.take_of_length_le (by omega)] at hb
            rw [if_neg (by rw [hb]; decide)]
            cases hz : s.any (fun x => x == 0) with
            | true =>
              rw [if_pos rfl]
              ((conv => whnf); repeat ((first | refine Wo ?_ | refine Go1 ?_ | refine Go2 ?_ | refine Go3 ?_ | refine Go4 ?_ | refine ⟨_, rfl, ?_⟩ | refine Mi rfl ?_); (conv => whnf)))
              refine litE t3 ?_
              ((conv => whnf); repeat ((first | refine Wo ?_ | refine Go1 ?_ | refine Go2 ?_ | refine Go3 ?_ | refine Go4 ?_ | refine ⟨_, rfl, ?_⟩ | refine Mi rfl ?_); (conv => whnf)))
              exact TeA
            | false =>
              rw [if_neg (by decide)]
              have hpos : ∀ x ∈ s, 1 ≤ x ∧ x ≤ 1099511627776 := fun x hx => by
                have h1 := any_false (by rw [ha]; decide) x hx
                have h2 := any_false (by rw [hb]; decide) x hx
                have h4 := any_false (by rw [hz]; decide) x hx
                simp at h1 h2 h4
                omega
              ((conv => whnf); repeat ((first | refine Wo ?_ | refine Go1 ?_ | refine Go2 ?_ | refine Go3 ?_ | refine Go4 ?_ | refine ⟨_, rfl, ?_⟩ | refine Mi rfl ?_); (conv => whnf)))
              refine litE t3 ?_
              ((conv => whnf); repeat ((first | refine Wo ?_ | refine Go1 ?_ | refine Go2 ?_ | refine Go3 ?_ | refine Go4 ?_ | refine ⟨_, rfl, ?_⟩ | refine Mi rfl ?_); (conv => whnf)))
              refine loop_ind (fun k (i : Nat) => i + k = s.length + 1 ∧ i ≤ s.length ∧ pr (s.take i) ≤ 4096) (fun i => { t := pin [(0, .d (rI s none)), (7, .d (iD (pr (s.take i)))), (8, .d (iD i))], N := 70, h := hpin [], n := 0, lo := 0 }) (fun i h => by omega) ?_ (s.length + 1) 0 ⟨by omega, by omega, by rw [List.take_zero]; decide⟩ _ ?_
              · rintro k3 q R3 ih3 ⟨hk3, hq, hp⟩
                have hp1 := pr_pos (l := s.take q) (fun x hx => (hpos x (List.mem_of_mem_take hx)).1)
                by_cases hlt3 : q < s.length
                · have t5 : decide ((q : Int) < (s.length : Int)) = true := by rw [decide_eq_true_iff]; omega
                  have gi : (s.map iD)[(q : Int).toNat * 1]? = some (iD s[q]) := ixm (j := q) (List.getElem?_eq_getElem hlt3) (by simp)
                  have hx := hpos s[q] (List.getElem_mem hlt3)
                  have hpt : pr (s.take (q + 1)) = pr (s.take q) * s[q] := by
                    rw [List.take_add_one, List.getElem?_eq_getElem hlt3, rpr_app]
                    simp [pr]
                  have hall : pr (s.take (q + 1)) ≤ pr s := by
                    have h1 := rpr_app (s.take (q + 1)) (s.drop (q + 1))
                    rw [List.take_append_drop] at h1
                    have h2 := pr_pos (l := s.drop (q + 1)) (fun x hx => (hpos x (List.mem_of_mem_drop hx)).1)
                    have h3 := pr_pos (l := s.take (q + 1)) (fun x hx => (hpos x (List.mem_of_mem_take hx)).1)
                    rw [h1]
                    have h4 := Int.mul_le_mul_of_nonneg_left h2 (show 0 ≤ pr (s.take (q + 1)) by omega)
                    rwa [Int.mul_one] at h4
                  by_cases hbig : s[q] > 4096
                  · have t6 : decide (s[q] > 4096) = true := decide_eq_true hbig
                    have h5 : s[q] ≤ pr (s.take q) * s[q] := by
                      have h4 := Int.mul_le_mul_of_nonneg_right hp1 (show 0 ≤ s[q] by omega)
                      rwa [Int.one_mul] at h4
                    rw [fin_gt (by omega)]
                    ((conv => whnf); repeat ((first | refine Wo ?_ | refine Go1 ?_ | refine Go2 ?_ | refine Go3 ?_ | refine Go4 ?_ | refine ⟨_, rfl, ?_⟩ | refine Mi rfl ?_); (conv => whnf)))
                    refine litE t5 ?_
                    ((conv => whnf); repeat ((first | refine Wo ?_ | refine Go1 ?_ | refine Go2 ?_ | refine Go3 ?_ | refine Go4 ?_ | refine ⟨_, rfl, ?_⟩ | refine Mi rfl ?_); (conv => whnf)))
                    refine ⟨by omega, by omega, ?_⟩
                    ((conv => whnf); repeat ((first | refine Wo ?_ | refine Go1 ?_ | refine Go2 ?_ | refine Go3 ?_ | refine Go4 ?_ | refine ⟨_, rfl, ?_⟩ | refine Mi rfl ?_); (conv => whnf)))
                    refine ⟨_, gi, ?_⟩
                    ((conv => whnf); repeat ((first | refine Wo ?_ | refine Go1 ?_ | refine Go2 ?_ | refine Go3 ?_ | refine Go4 ?_ | refine ⟨_, rfl, ?_⟩ | refine Mi rfl ?_); (conv => whnf)))
                    refine litE t6 ?_
                    ((conv => whnf); repeat ((first | refine Wo ?_ | refine Go1 ?_ | refine Go2 ?_ | refine Go3 ?_ | refine Go4 ?_ | refine ⟨_, rfl, ?_⟩ | refine Mi rfl ?_); (conv => whnf)))
                    exact TeA
                  · have t6 : decide (s[q] > 4096) = false := decide_eq_false hbig
                    have hmul : pr (s.take q) * s[q] ≤ 4096 * 4096 := Int.mul_le_mul hp (by omega) (by omega) (by omega)
                    have hmul0 : 0 ≤ pr (s.take q) * s[q] := Int.mul_nonneg (by omega) (by omega)
                    have ew : IntKind.i64.wrap (pr (s.take q) * s[q]) = pr (s.take (q + 1)) := by rw [hpt, i64w (by omega) (by omega)]
                    by_cases hb2 : pr (s.take (q + 1)) > 4096
                    · have t7 : decide (IntKind.i64.wrap (pr (s.take q) * s[q]) > 4096) = true := by rw [ew]; exact decide_eq_true hb2
                      rw [fin_gt (by omega)]
                      ((conv => whnf); repeat ((first | refine Wo ?_ | refine Go1 ?_ | refine Go2 ?_ | refine Go3 ?_ | refine Go4 ?_ | refine ⟨_, rfl, ?_⟩ | refine Mi rfl ?_); (conv => whnf)))
                      refine litE t5 ?_
                      ((conv => whnf); repeat ((first | refine Wo ?_ | refine Go1 ?_ | refine Go2 ?_ | refine Go3 ?_ | refine Go4 ?_ | refine ⟨_, rfl, ?_⟩ | refine Mi rfl ?_); (conv => whnf)))
                      refine ⟨by omega, by omega, ?_⟩
                      ((conv => whnf); repeat ((first | refine Wo ?_ | refine Go1 ?_ | refine Go2 ?_ | refine Go3 ?_ | refine Go4 ?_ | refine ⟨_, rfl, ?_⟩ | refine Mi rfl ?_); (conv => whnf)))
                      refine ⟨_, gi, ?_⟩
                      ((conv => whnf); repeat ((first | refine Wo ?_ | refine Go1 ?_ | refine Go2 ?_ | refine Go3 ?_ | refine Go4 ?_ | refine ⟨_, rfl, ?_⟩ | refine Mi rfl ?_); (conv => whnf)))
                      refine litE t6 ?_
                      ((conv => whnf); repeat ((first | refine Wo ?_ | refine Go1 ?_ | refine Go2 ?_ | refine Go3 ?_ | refine Go4 ?_ | refine ⟨_, rfl, ?_⟩ | refine Mi rfl ?_); (conv => whnf)))
                      refine ⟨by omega, by omega, ?_⟩
                      ((conv => whnf); repeat ((first | refine Wo ?_ | refine Go1 ?_ | refine Go2 ?_ | refine Go3 ?_ | refine Go4 ?_ | refine ⟨_, rfl, ?_⟩ | refine Mi rfl ?_); (conv => whnf)))
                      refine ⟨_, gi, ?_⟩
                      ((conv => whnf); repeat ((first | refine Wo ?_ | refine Go1 ?_ | refine Go2 ?_ | refine Go3 ?_ | refine Go4 ?_ | refine ⟨_, rfl, ?_⟩ | refine Mi rfl ?_); (conv => whnf)))
                      refine litE t7 ?_
                      ((conv => whnf); repeat ((first | refine Wo ?_ | refine Go1 ?_ | refine Go2 ?_ | refine Go3 ?_ | refine Go4 ?_ | refine ⟨_, rfl, ?_⟩ | refine Mi rfl ?_); (conv => whnf)))
                      exact TeA
                    · have t7 : decide (IntKind.i64.wrap (pr (s.take q) * s[q]) > 4096) = false := by rw [ew]; exact decide_eq_false hb2
                      ((conv => whnf); repeat ((first | refine Wo ?_ | refine Go1 ?_ | refine Go2 ?_ | refine Go3 ?_ | refine Go4 ?_ | refine ⟨_, rfl, ?_⟩ | refine Mi rfl ?_); (conv => whnf)))
                      refine litE t5 ?_
                      ((conv => whnf); repeat ((first | refine Wo ?_ | refine Go1 ?_ | refine Go2 ?_ | refine Go3 ?_ | refine Go4 ?_ | refine ⟨_, rfl, ?_⟩ | refine Mi rfl ?_); (conv => whnf)))
                      refine ⟨by omega, by omega, ?_⟩
                      ((conv => whnf); repeat ((first | refine Wo ?_ | refine Go1 ?_ | refine Go2 ?_ | refine Go3 ?_ | refine Go4 ?_ | refine ⟨_, rfl, ?_⟩ | refine Mi rfl ?_); (conv => whnf)))
                      refine ⟨_, gi, ?_⟩
                      ((conv => whnf); repeat ((first | refine Wo ?_ | refine Go1 ?_ | refine Go2 ?_ | refine Go3 ?_ | refine Go4 ?_ | refine ⟨_, rfl, ?_⟩ | refine Mi rfl ?_); (conv => whnf)))
                      refine litE t6 ?_
                      ((conv => whnf); repeat ((first | refine Wo ?_ | refine Go1 ?_ | refine Go2 ?_ | refine Go3 ?_ | refine Go4 ?_ | refine ⟨_, rfl, ?_⟩ | refine Mi rfl ?_); (conv => whnf)))
                      refine ⟨by omega, by omega, ?_⟩
                      ((conv => whnf); repeat ((first | refine Wo ?_ | refine Go1 ?_ | refine Go2 ?_ | refine Go3 ?_ | refine Go4 ?_ | refine ⟨_, rfl, ?_⟩ | refine Mi rfl ?_); (conv => whnf)))
                      refine ⟨_, gi, ?_⟩
                      ((conv => whnf); repeat ((first | refine Wo ?_ | refine Go1 ?_ | refine Go2 ?_ | refine Go3 ?_ | refine Go4 ?_ | refine ⟨_, rfl, ?_⟩ | refine Mi rfl ?_); (conv => whnf)))
                      refine litE t7 ?_
                      ((conv => whnf); repeat ((first | refine Wo ?_ | refine Go1 ?_ | refine Go2 ?_ | refine Go3 ?_ | refine Go4 ?_ | refine ⟨_, rfl, ?_⟩ | refine Mi rfl ?_); (conv => whnf)))
                      refine ⟨by omega, by omega, ?_⟩
                      ((conv => whnf); repeat ((first | refine Wo ?_ | refine Go1 ?_ | refine Go2 ?_ | refine Go3 ?_ | refine Go4 ?_ | refine ⟨_, rfl, ?_⟩ | refine Mi rfl ?_); (conv => whnf)))
                      refine ⟨_, gi, ?_⟩
                      ((conv => whnf); repeat ((first | refine Wo ?_ | refine Go1 ?_ | refine Go2 ?_ | refine Go3 ?_ | refine Go4 ?_ | refine ⟨_, rfl, ?_⟩ | refine Mi rfl ?_); (conv => whnf)))
                      refine ih3 (q + 1) _ ⟨by omega, by omega, by omega⟩ ?_
                      (refine Wk.to _ _ ?_ ?_ <;> (repeat' first | exact trivial | rfl | (refine And.intro ?_ ?_)))
                      · exact inE ew
                      · exact inE (i64n (n := q + 1) (by omega) (by omega))
                · have t5 : decide ((q : Int) < (s.length : Int)) = false := by rw [decide_eq_false_iff_not]; omega
                  rw [List.take_of_length_le (by omega)] at hp ⊢
                  rw [fin_le hp]
                  ((conv => whnf); repeat ((first | refine Wo ?_ | refine Go1 ?_ | refine Go2 ?_ | refine Go3 ?_ | refine Go4 ?_ | refine ⟨_, rfl, ?_⟩ | refine Mi rfl ?_); (conv => whnf)))
                  refine litE t5 ?_
                  ((conv => whnf); repeat ((first | refine Wo ?_ | refine Go1 ?_ | refine Go2 ?_ | refine Go3 ?_ | refine Go4 ?_ | refine ⟨_, rfl, ?_⟩ | refine Mi rfl ?_); (conv => whnf)))
                  exact TeA
              · (refine Wk.to _ _ ?_ ?_ <;> (repeat' first | exact trivial | rfl | (refine And.intro ?_ ?_)))
        · (refine Wk.to _ _ ?_ ?_ <;> (repeat' first | exact trivial | rfl | (refine And.intro ?_ ?_)))
    · (refine Wk.to _ _ ?_ ?_ <;> (repeat' first | exact trivial | rfl | (refine And.intro ?_ ?_)))
end Go.Proofs.YtjldjhlccedkbaaGreatDoor.Am
end
