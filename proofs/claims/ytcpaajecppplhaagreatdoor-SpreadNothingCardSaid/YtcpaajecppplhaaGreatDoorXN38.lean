/- What the law leans on, part 39: declarations of several texts of ours, in their order. -/
import Derived.Test.YtcpaajecppplhaaGreatDoorXN11
section
namespace Go.Proofs.YtcpaajecppplhaaGreatDoor.Am
open Go Go.RowKit
set_option linter.unusedVariables false
set_option linter.unusedSimpArgs false
set_option maxRecDepth 100000
variable {op : ByteArray} {s1 s2 : List Int} {e1 e2 : List ByteArray} {c1 d1 c2 d2 : Option Nat}
/-- the early ways out -/
theorem dyad_no1 (h1 : Runs Tryz.prog 25 [vD s1 e1 c1 d1] (bD false)) : Runs Tryz.prog 29 [sD op, vD s1 e1 c1 d1, vD s2 e2 c2 d2] (.tup [vD [] [] none none, iD 1]) := by
  refine Runs.wp hT hm Tryz.func29 rfl (by decide) [] ?_
  (repeat ((conv => whnf); first | refine Wo ?_ | refine Cl (by decide) ?_ | refine Cr (by decide) ?_ | refine ⟨_, rfl, ?_⟩))
  ((conv => whnf); (refine Hc.flat h1 ?_ rfl ?_; (focus ((repeat ((conv => arg 1; whnf); first | exact Tels.nil | apply Tels.cons | apply Tel.aggs | apply Tel.tups | exact Tel.refl _ | exact Tel.nil1 _ | exact Tel.cap _ _ _ _)); done))); (repeat ((conv => whnf); first | refine Wo ?_ | refine Cl (by decide) ?_ | refine Cr (by decide) ?_ | refine ⟨_, rfl, ?_⟩)))
  ((conv => whnf); ((repeat ((conv => arg 1; whnf); first | exact Tels.nil | apply Tels.cons | apply Tel.aggs | apply Tel.tups | exact Tel.refl _ | exact Tel.nil1 _ | exact Tel.cap _ _ _ _)); done))
theorem dyad_no2 (h1 : Runs Tryz.prog 25 [vD s1 e1 c1 d1] (bD true)) (h2 : Runs Tryz.prog 25 [vD s2 e2 c2 d2] (bD false)) : Runs Tryz.prog 29 [sD op, vD s1 e1 c1 d1, vD s2 e2 c2 d2] (.tup [vD [] [] none none, iD 1]) := by
  refine Runs.wp hT hm Tryz.func29 rfl (by decide) [] ?_
  (repeat ((conv => whnf); first | refine Wo ?_ | refine Cl (by decide) ?_ | refine Cr (by decide) ?_ | refine ⟨_, rfl, ?_⟩))
  ((conv => whnf); (refine Hc.flat h1 ?_ rfl ?_; (focus ((repeat ((conv => arg 1; whnf); first | exact Tels.nil | apply Tels.cons | apply Tel.aggs | apply Tel.tups | exact Tel.refl _ | exact Tel.nil1 _ | exact Tel.cap _ _ _ _)); done))); (repeat ((conv => whnf); first | refine Wo ?_ | refine Cl (by decide) ?_ | refine Cr (by decide) ?_ | refine ⟨_, rfl, ?_⟩)))
  ((conv => whnf); (refine Hc.flat h2 ?_ rfl ?_; (focus ((repeat ((conv => arg 1; whnf); first | exact Tels.nil | apply Tels.cons | apply Tel.aggs | apply Tel.tups | exact Tel.refl _ | exact Tel.nil1 _ | exact Tel.cap _ _ _ _)); done))); (repeat ((conv => whnf); first | refine Wo ?_ | refine Cl (by decide) ?_ | refine Cr (by decide) ?_ | refine ⟨_, rfl, ?_⟩)))
  ((conv => whnf); ((repeat ((conv => arg 1; whnf); first | exact Tels.nil | apply Tels.cons | apply Tel.aggs | apply Tel.tups | exact Tel.refl _ | exact Tel.nil1 _ | exact Tel.cap _ _ _ _)); done))
theorem dyad_no3 (h1 : Runs Tryz.prog 25 [vD s1 e1 c1 d1] (bD true)) (h2 : Runs Tryz.prog 25 [vD s2 e2 c2 d2] (bD true)) (h3 : Runs Tryz.prog 28 [sD op] (bD false)) : Runs Tryz.prog 29 [sD op, vD s1 e1 c1 d1, vD s2 e2 c2 d2] (.tup [vD [] [] none none, iD 1]) := by
  refine Runs.wp hT hm Tryz.func29 rfl (by decide) [] ?_
  (repeat ((conv => whnf); first | refine Wo ?_ | refine Cl (by decide) ?_ | refine Cr (by decide) ?_ | refine ⟨_, rfl, ?_⟩))
  ((conv => whnf); (refine Hc.flat h1 ?_ rfl ?_; (focus ((repeat ((conv => arg 1; whnf); first | exact Tels.nil | apply Tels.cons | apply Tel.aggs | apply Tel.tups | exact Tel.refl _ | exact Tel.nil1 _ | exact Tel.cap _ _ _ _)); done))); (repeat ((conv => whnf); first | refine Wo ?_ | refine Cl (by decide) ?_ | refine Cr (by decide) ?_ | refine ⟨_, rfl, ?_⟩)))
  ((conv => whnf); (refine Hc.flat h2 ?_ rfl ?_; (focus ((repeat ((conv => arg 1; whnf); first | exact Tels.nil | apply Tels.cons | apply Tel.aggs | apply Tel.tups | exact Tel.refl _ | exact Tel.nil1 _ | exact Tel.cap _ _ _ _)); done))); (repeat ((conv => whnf); first | refine Wo ?_ | refine Cl (by decide) ?_ | refine Cr (by decide) ?_ | refine ⟨_, rfl, ?_⟩)))
  ((conv => whnf); (refine Hc.flat h3 ?_ rfl ?_; (focus ((repeat ((conv => arg 1; whnf); first | exact Tels.nil | apply Tels.cons | apply Tel.aggs | apply Tel.tups | exact Tel.refl _ | exact Tel.nil1 _ | exact Tel.cap _ _ _ _)); done))); (repeat ((conv => whnf); first | refine Wo ?_ | refine Cl (by decide) ?_ | refine Cr (by decide) ?_ | refine ⟨_, rfl, ?_⟩)))
  ((conv => whnf); ((repeat ((conv => arg 1; whnf); first | exact Tels.nil | apply Tels.cons | apply Tel.aggs | apply Tel.tups | exact Tel.refl _ | exact Tel.nil1 _ | exact Tel.cap _ _ _ _)); done))
theorem dyad_no4 {m : List Int} {bad : Int} (hbad : bad ≠ 0) (h1 : Runs Tryz.prog 25 [vD s1 e1 c1 d1] (bD true)) (h2 : Runs Tryz.prog 25 [vD s2 e2 c2 d2] (bD true)) (h3 : Runs Tryz.prog 28 [sD op] (bD true)) (h4 : Runs Tryz.prog 76 [rI s1 c1, rI s2 c2] (.tup [rI m none, iD bad])) :
    Runs Tryz.prog 29 [sD op, vD s1 e1 c1 d1, vD s2 e2 c2 d2] (.tup [vD [] [] none none, iD bad]) := by
  refine Runs.wp hT hm Tryz.func29 rfl (by decide) [] ?_
  (repeat ((conv => whnf); first | refine Wo ?_ | refine Cl (by decide) ?_ | refine Cr (by decide) ?_ | refine ⟨_, rfl, ?_⟩))
  ((conv => whnf); (refine Hc.flat h1 ?_ rfl ?_; (focus ((repeat ((conv => arg 1; whnf); first | exact Tels.nil | apply Tels.cons | apply Tel.aggs | apply Tel.tups | exact Tel.refl _ | exact Tel.nil1 _ | exact Tel.cap _ _ _ _)); done))); (repeat ((conv => whnf); first | refine Wo ?_ | refine Cl (by decide) ?_ | refine Cr (by decide) ?_ | refine ⟨_, rfl, ?_⟩)))
  ((conv => whnf); (refine Hc.flat h2 ?_ rfl ?_; (focus ((repeat ((conv => arg 1; whnf); first | exact Tels.nil | apply Tels.cons | apply Tel.aggs | apply Tel.tups | exact Tel.refl _ | exact Tel.nil1 _ | exact Tel.cap _ _ _ _)); done))); (repeat ((conv => whnf); first | refine Wo ?_ | refine Cl (by decide) ?_ | refine Cr (by decide) ?_ | refine ⟨_, rfl, ?_⟩)))
  ((conv => whnf); (refine Hc.flat h3 ?_ rfl ?_; (focus ((repeat ((conv => arg 1; whnf); first | exact Tels.nil | apply Tels.cons | apply Tel.aggs | apply Tel.tups | exact Tel.refl _ | exact Tel.nil1 _ | exact Tel.cap _ _ _ _)); done))); (repeat ((conv => whnf); first | refine Wo ?_ | refine Cl (by decide) ?_ | refine Cr (by decide) ?_ | refine ⟨_, rfl, ?_⟩)))
  ((conv => whnf); (refine Hc.runs h4 ?_ ?_; (focus ((repeat ((conv => arg 1; whnf); first | exact Tels.nil | apply Tels.cons | apply Tel.aggs | apply Tel.tups | exact Tel.refl _ | exact Tel.nil1 _ | exact Tel.cap _ _ _ _)); done))); (repeat ((conv => whnf); first | refine Wo ?_ | refine Cl (by decide) ?_ | refine Cr (by decide) ?_ | refine ⟨_, rfl, ?_⟩)))
  ((conv => whnf); (try (refine Wo ?_; (conv => whnf))); refine ⟨fun hb => ?_, fun hb => ?_⟩)
  · (repeat ((conv => whnf); first | refine Wo ?_ | refine Cl (by decide) ?_ | refine Cr (by decide) ?_ | refine ⟨_, rfl, ?_⟩))
    ((conv => whnf); ((repeat ((conv => arg 1; whnf); first | exact Tels.nil | apply Tels.cons | apply Tel.aggs | apply Tel.tups | exact Tel.refl _ | exact Tel.nil1 _ | exact Tel.cap _ _ _ _)); done))
  · exact absurd (by simpa using hb) hbad
/-- Dyad's frame at its loop -/
noncomputable def dyT : List (Nat × V) := [(3, .pt 0 0), (6, .pt 3 0), (7, .pt 4 0), (12, .pt 5 0)]
/-- in pairs' loop -/
noncomputable def dyQ (op : ByteArray) (s1 s2 : List Int) (e1 e2 : List ByteArray) (c1 d1 c2 d2 : Option Nat) (m : List Int) (n : Nat) (r : Nat → ByteArray × Int) (bad : Int) (lp : Option Ob) (tl : List (Nat × V)) (i : Nat) : St :=
  { t := Am.pin ((0, .yl 9) :: (1, .pt 8 0) :: (2, .pt 6 0) :: (3, .pt 7 0) :: (6, .imm (.int .i64 n)) :: tl), N := 20,
    h := hpin [some (.st 9 [.d (sD op)]), some (.st 25 [.d (rI s1 c1), .d (rS e1 d1)]), some (.st 25 [.d (rI s2 c2), .d (rS e2 d2)]), some (.st 25 [.imm (.slice none 0 0), .imm (.slice none 0 0)]), some (.st 28 [.imm (.int .i64 bad)]), some (.st 25 [.d (rI m none), .bs 10]),
      some (.st 25 [.d (rI s1 c1), .d (rS e1 d1)]), some (.st 25 [.d (rI s2 c2), .d (rS e2 d2)]), some (.st 3 [.imm (.int .i64 n)]), lp, some (.ar 9 1 i ((List.range i).map fun j => sD (r j).1))], n := 11, lo := 10 }
theorem dyad_run {m : List Int} {n z : Nat} {x y : Nat → ByteArray} {r : Nat → ByteArray × Int} {res : D} (h1 : Runs Tryz.prog 25 [vD s1 e1 c1 d1] (bD true)) (h2 : Runs Tryz.prog 25 [vD s2 e2 c2 d2] (bD true)) (h3 : Runs Tryz.prog 28 [sD op] (bD true)) (h4 : Runs Tryz.prog 76 [rI s1 c1, rI s2 c2] (.tup [rI m none, iD 0]))
    (h5 : Runs Tryz.prog 65 [rI m none] (.tup [iD n, iD 0])) (h6 : ∀ i, i < n → Runs Tryz.prog 138 [vD s1 e1 c1 d1, iD i] (sD (x i))) (h7 : ∀ i, i < n → Runs Tryz.prog 138 [vD s2 e2 c2 d2, iD i] (sD (y i)))
    (h8 : ∀ i, i < n → Runs Tryz.prog 42 [sD op, sD (x i), sD (y i)] (.tup [sD (r i).1, iD (r i).2])) (hn : n ≤ 8796093022208) (h9 : ∀ i, i < z → (r i).2 = 0)
    (hz : (z = n ∧ res = .tup [.agg [rI m none, .sl 1 ((List.range n).map fun j => sD (r j).1) n none], iD 0]) ∨ (z < n ∧ (r z).2 ≠ 0 ∧ res = .tup [vD [] [] none none, iD (r z).2])) : Runs Tryz.prog 29 [sD op, vD s1 e1 c1 d1, vD s2 e2 c2 d2] res := by
  refine Runs.wp hT hm Tryz.func29 rfl (by decide) [] ?_
  (repeat ((conv => whnf); first | refine Wo ?_ | refine Cl (by decide) ?_ | refine Cr (by decide) ?_ | refine ⟨_, rfl, ?_⟩))
  ((conv => whnf); (refine Hc.flat h1 ?_ rfl ?_; (focus ((repeat ((conv => arg 1; whnf); first | exact Tels.nil | apply Tels.cons | apply Tel.aggs | apply Tel.tups | exact Tel.refl _ | exact Tel.nil1 _ | exact Tel.cap _ _ _ _)); done))); (repeat ((conv => whnf); first | refine Wo ?_ | refine Cl (by decide) ?_ | refine Cr (by decide) ?_ | refine ⟨_, rfl, ?_⟩)))
  ((conv => whnf); (refine Hc.flat h2 ?_ rfl ?_; (focus ((repeat ((conv => arg 1; whnf); first | exact Tels.nil | apply Tels.cons | apply Tel.aggs | apply Tel.tups | exact Tel.refl _ | exact Tel.nil1 _ | exact Tel.cap _ _ _ _)); done))); (repeat ((conv => whnf); first | refine Wo ?_ | refine Cl (by decide) ?_ | refine Cr (by decide) ?_ | refine ⟨_, rfl, ?_⟩)))
  ((conv => whnf); (refine Hc.flat h3 ?_ rfl ?_; (focus ((repeat ((conv => arg 1; whnf); first | exact Tels.nil | apply Tels.cons | apply Tel.aggs | apply Tel.tups | exact Tel.refl _ | exact Tel.nil1 _ | exact Tel.cap _ _ _ _)); done))); (repeat ((conv => whnf); first | refine Wo ?_ | refine Cl (by decide) ?_ | refine Cr (by decide) ?_ | refine ⟨_, rfl, ?_⟩)))
  ((conv => whnf); (refine Hc.runs h4 ?_ ?_; (focus ((repeat ((conv => arg 1; whnf); first | exact Tels.nil | apply Tels.cons | apply Tel.aggs | apply Tel.tups | exact Tel.refl _ | exact Tel.nil1 _ | exact Tel.cap _ _ _ _)); done))); (repeat ((conv => whnf); first | refine Wo ?_ | refine Cl (by decide) ?_ | refine Cr (by decide) ?_ | refine ⟨_, rfl, ?_⟩)))
  ((conv => whnf); (refine Hc.runs h5 ?_ ?_; (focus ((repeat ((conv => arg 1; whnf); first | exact Tels.nil | apply Tels.cons | apply Tel.aggs | apply Tel.tups | exact Tel.refl _ | exact Tel.nil1 _ | exact Tel.cap _ _ _ _)); done))); (repeat ((conv => whnf); first | refine Wo ?_ | refine Cl (by decide) ?_ | refine Cr (by decide) ?_ | refine ⟨_, rfl, ?_⟩)))
  (conv => whnf)
  refine Hc.inl hT hm Tryz.func77 rfl (by decide) [] ?_
  (repeat ((conv => whnf); first | refine Wo ?_ | refine Cl (by decide) ?_ | refine Cr (by decide) ?_ | refine ⟨_, rfl, ?_⟩))
  (conv => whnf)
  refine Hc.inl hT hm Tryz.func137 rfl (by decide) [(3, .first 0 (.first 2 (.first 5 (.alt 1 (.alt 3 (.alt 4 (.alt 6 (.alt 7 (.first 8 .done) .nil) .nil) .nil) (.alt 4 (.alt 3 (.alt 6 (.alt 7 (.first 8 .done) .nil) .nil) .nil) .nil)) (.alt 4 (.alt 1 (.alt 3 (.alt 6 (.alt 7 (.first 8 .done) .nil) .nil) .nil) .nil) .nil)))))] ?_
  (repeat ((conv => whnf); first | refine Wo ?_ | refine Cl (by decide) ?_ | refine Cr (by decide) ?_ | refine ⟨_, rfl, ?_⟩))
  refine loop_ind (f := fun k i => i ≤ z ∧ k + i = z + 1) (fun i => dyQ op s1 s2 e1 e2 c1 d1 c2 d2 m n r 0 (lpOf Tryz.f29 .ready none dyT) [(7, .imm (.int .i64 i))] i) (fun i h => by omega) ?_ (z + 1) 0 ⟨by omega, rfl⟩ _ ?_
  · rintro k i R ih ⟨hi, hk⟩
    have hzn : z ≤ n := by omega
    (repeat ((conv => whnf); first | refine Wo ?_ | refine Cl (by decide) ?_ | refine Cr (by decide) ?_ | refine ⟨_, rfl, ?_⟩))
    ((conv => whnf); (try (refine Wo ?_; (conv => whnf))); refine ⟨fun hb => ?_, fun hb => ?_⟩)
    · have hin : i < n := by simpa using hb
      by_cases hiz : i < z
      · have h8' := h8 i hin
        rw [h9 i hiz] at h8'
        (repeat ((conv => whnf); first | refine Wo ?_ | refine Cl (by decide) ?_ | refine Cr (by decide) ?_ | refine ⟨_, rfl, ?_⟩))
        refine ⟨by decide +kernel, dyQ op s1 s2 e1 e2 c1 d1 c2 d2 m n r 0 (lpOf Tryz.f29 .ready none dyT) [(7, .imm (.int .i64 i)), (18, .imm (.bool false))] (i + 1), ?_, ?_⟩
        · repeat' ((conv => whnf); first | exact trivial | refine Wo ?_ | refine Cl (by decide) ?_ | refine Cr (by decide) ?_ | refine ⟨_, rfl, ?_⟩ | (first | (refine Hc.flat (h6 i hin) ?_ rfl ?_; (focus ((repeat ((conv => arg 1; whnf); first | exact Tels.nil | apply Tels.cons | apply Tel.aggs | apply Tel.tups | exact Tel.refl _ | exact Tel.nil1 _ | exact Tel.cap _ _ _ _)); done))) | (refine Hc.flat (h7 i hin) ?_ rfl ?_; (focus ((repeat ((conv => arg 1; whnf); first | exact Tels.nil | apply Tels.cons | apply Tel.aggs | apply Tel.tups | exact Tel.refl _ | exact Tel.nil1 _ | exact Tel.cap _ _ _ _)); done))) | (refine Hc.flat h8' ?_ rfl ?_; (focus ((repeat ((conv => arg 1; whnf); first | exact Tels.nil | apply Tels.cons | apply Tel.aggs | apply Tel.tups | exact Tel.refl _ | exact Tel.nil1 _ | exact Tel.cap _ _ _ _)); done))) | (refine Yc.of_wp hT hm [] rfl rfl ?_) | (refine And.intro (show i + 1 ≤ maxLen by unfold maxLen; omega) ?_) | (refine And.intro (show (i + 1) * 16 ≤ 140737488355328 by omega) ?_)) | (refine And.intro ?_ ?_))
          all_goals
            refine (Wk.lpf (b := 9) rfl dyT (pin_of fun p hp => ?_)).trans ?_
            · simp only [dyT, List.mem_cons, List.not_mem_nil, or_false] at hp
              rcases hp with rfl | rfl | rfl | rfl <;> rfl
            · refine Wk.pin [0, 1, 2, 3, 4, 5, 6, 7, 8, 9, 12] _ _ ?_ ?_ rfl rfl (by decide) rfl rfl
              · exact ⟨rfl, rfl, rfl, rfl, rfl, rfl, rfl, trivial⟩
              · refine ⟨⟨rfl, rfl⟩, ⟨rfl, rfl⟩, ⟨rfl, rfl⟩, ⟨rfl, rfl⟩, ⟨rfl, rfl⟩, ⟨rfl, rfl⟩, ⟨rfl, rfl⟩, ⟨rfl, rfl⟩, ⟨rfl, rfl⟩, ⟨rfl, rfl⟩, ⟨?_, rfl⟩, trivial⟩
                exact congrArg (fun l => some (Ob.ar 9 1 (i + 1) l)) (rng_succ i)
        · (repeat ((conv => whnf); first | refine Wo ?_ | refine Cl (by decide) ?_ | refine Cr (by decide) ?_ | refine ⟨_, rfl, ?_⟩))
          refine ih (i + 1) _ ⟨by omega, by omega⟩ (Wk.pin [0, 1, 2, 3, 4, 5, 6, 7, 8, 9, 10] _ _ ?_ ?_ rfl rfl (by decide) rfl rfl)
          · exact ⟨rfl, rfl, rfl, rfl, rfl, congrArg (fun z => V.imm (.int .i64 z)) (succ64 hin hn), trivial⟩
          · exact ⟨⟨rfl, rfl⟩, ⟨rfl, rfl⟩, ⟨rfl, rfl⟩, ⟨rfl, rfl⟩, ⟨rfl, rfl⟩, ⟨rfl, rfl⟩, ⟨rfl, rfl⟩, ⟨rfl, rfl⟩, ⟨rfl, rfl⟩, ⟨rfl, rfl⟩, ⟨rfl, rfl⟩, trivial⟩
      · have hi' : i = z := by omega
        subst hi'
        rcases hz with ⟨hz, _⟩ | ⟨_, hne, rfl⟩
        · omega
        have h8' := h8 i hin
        have hnb : ((r i).2 != 0) = true := by simpa using hne
        (repeat ((conv => whnf); first | refine Wo ?_ | refine Cl (by decide) ?_ | refine Cr (by decide) ?_ | refine ⟨_, rfl, ?_⟩))
        refine ⟨by decide +kernel, dyQ op s1 s2 e1 e2 c1 d1 c2 d2 m n r (r i).2 (lpOf Tryz.f29 .done (some .ret) dyT) [(7, .imm (.int .i64 i)), (18, .imm (.bool true))] i, ?_, ?_⟩
        · repeat' ((conv => whnf); first | exact trivial | refine Wo ?_ | refine Cl (by decide) ?_ | refine Cr (by decide) ?_ | refine ⟨_, rfl, ?_⟩ | (first | (refine ⟨fun _ => ?_, fun hb => absurd (hnb.symm.trans hb) (by decide)⟩) | (refine Hc.flat (h6 i hin) ?_ rfl ?_; (focus ((repeat ((conv => arg 1; whnf); first | exact Tels.nil | apply Tels.cons | apply Tel.aggs | apply Tel.tups | exact Tel.refl _ | exact Tel.nil1 _ | exact Tel.cap _ _ _ _)); done))) | (refine Hc.flat (h7 i hin) ?_ rfl ?_; (focus ((repeat ((conv => arg 1; whnf); first | exact Tels.nil | apply Tels.cons | apply Tel.aggs | apply Tel.tups | exact Tel.refl _ | exact Tel.nil1 _ | exact Tel.cap _ _ _ _)); done))) | (refine Hc.flat h8' ?_ rfl ?_; (focus ((repeat ((conv => arg 1; whnf); first | exact Tels.nil | apply Tels.cons | apply Tel.aggs | apply Tel.tups | exact Tel.refl _ | exact Tel.nil1 _ | exact Tel.cap _ _ _ _)); done))) | (refine Yc.of_wp hT hm [] rfl rfl ?_)) | (refine And.intro ?_ ?_))
          all_goals
            refine (Wk.lpf (b := 9) rfl dyT (pin_of fun p hp => ?_)).trans ?_
            · simp only [dyT, List.mem_cons, List.not_mem_nil, or_false] at hp
              rcases hp with rfl | rfl | rfl | rfl <;> rfl
            · refine Wk.pin [0, 1, 2, 3, 4, 5, 6, 7, 8, 9, 10] _ _ ?_ ?_ rfl rfl (by decide) rfl rfl
              · exact ⟨rfl, rfl, rfl, rfl, rfl, rfl, rfl, trivial⟩
              · exact ⟨⟨rfl, rfl⟩, ⟨rfl, rfl⟩, ⟨rfl, rfl⟩, ⟨rfl, rfl⟩, ⟨rfl, rfl⟩, ⟨rfl, rfl⟩, ⟨rfl, rfl⟩, ⟨rfl, rfl⟩, ⟨rfl, rfl⟩, ⟨rfl, rfl⟩, ⟨rfl, rfl⟩, trivial⟩
        · (repeat ((conv => whnf); first | refine Wo ?_ | refine Cl (by decide) ?_ | refine Cr (by decide) ?_ | refine ⟨_, rfl, ?_⟩))
          ((conv => whnf); ((repeat ((conv => arg 1; whnf); first | exact Tels.nil | apply Tels.cons | apply Tel.aggs | apply Tel.tups | exact Tel.refl _ | exact Tel.nil1 _ | exact Tel.cap _ _ _ _)); done))
    · have hin : i = n := by simp at hb; omega
      subst hin
      rcases hz with ⟨_, rfl⟩ | ⟨hz, _⟩
      · (repeat ((conv => whnf); first | refine Wo ?_ | refine Cl (by decide) ?_ | refine Cr (by decide) ?_ | refine ⟨_, rfl, ?_⟩))
        ((conv => whnf); ((repeat ((conv => arg 1; whnf); first | exact Tels.nil | apply Tels.cons | apply Tel.aggs | apply Tel.tups | exact Tel.refl _ | exact Tel.nil1 _ | exact Tel.cap _ _ _ _)); done))
      · omega
  · refine (Wk.virtB 5 1 9 1 25 _ rfl rfl).trans ((Wk.lpf (b := 9) rfl dyT (pin_of fun p hp => ?_)).trans ?_)
    · simp only [dyT, List.mem_cons, List.not_mem_nil, or_false] at hp
      rcases hp with rfl | rfl | rfl | rfl <;> rfl
    · refine Wk.pin [0, 1, 2, 3, 4, 5, 6, 7, 8, 9, 10] _ _ ?_ ?_ rfl rfl (by decide) rfl rfl
      · exact ⟨rfl, rfl, rfl, rfl, rfl, rfl, trivial⟩
      · exact ⟨⟨rfl, rfl⟩, ⟨rfl, rfl⟩, ⟨rfl, rfl⟩, ⟨rfl, rfl⟩, ⟨rfl, rfl⟩, ⟨rfl, rfl⟩, ⟨rfl, rfl⟩, ⟨rfl, rfl⟩, ⟨rfl, rfl⟩, ⟨rfl, rfl⟩, ⟨rfl, rfl⟩, trivial⟩
end Go.Proofs.YtcpaajecppplhaaGreatDoor.Am
end
