/- What the law leans on, part 31: declarations of several texts of ours, in their order. -/
import Derived.Test.YtkhgpnbhnipndaaGreatDoorXFS29
import Derived.Test.YtkhgpnbhnipndaaGreatDoorXFS28
section
/- Frames: whether two are the same; the beginning. -/
namespace Go.Proofs.YtkhgpnbhnipndaaGreatDoor.Am
open Go Go.RowKit Go.Proofs.YtkhgpnbhnipndaaGreatDoor.Sh
open Go.Proofs.YtkhgpnbhnipndaaGreatDoor.Nm (numS)
set_option linter.unusedVariables false
set_option linter.unusedSimpArgs false
set_option maxRecDepth 100000
set_option maxHeartbeats 8000000
/-! ### the beginning -/
theorem start1_runs (v : ValL) (h1 : v.1.length ≤ 100000000) (h2 : v.2.length ≤ 100000000) : Runs Tryz.prog 46 [vD2 v] (bD (!good v.1 v.2)) := by
  have h := vmay_runs v.1 v.2 (by omega) (by omega)
  cases hg : good v.1 v.2 with
  | true =>
    rw [hg] at h
    refine Runs.wp Am.hT Am.hm Tryz.func46 rfl (by decide) ⟨[], [0, 1, 2], 6⟩ ?_; ((conv => whnf); repeat (refine Gq ?_; (conv => whnf)))
    ((conv => whnf); (refine HfA h ?_); ((conv => whnf); repeat (refine Gq ?_; (conv => whnf))))
    exact TeA
  | false =>
    rw [hg] at h
    refine Runs.wp Am.hT Am.hm Tryz.func46 rfl (by decide) ⟨[], [0, 1, 2], 6⟩ ?_; ((conv => whnf); repeat (refine Gq ?_; (conv => whnf)))
    ((conv => whnf); (refine HfA h ?_); ((conv => whnf); repeat (refine Gq ?_; (conv => whnf))))
    exact TeA
def scanS : List ValL → Int → Int → Option (Int × Int)
  | [], n, bad => some (n, bad)
  | v :: l, n, bad => if 1 < v.1.length then none else if v.1.length = 1 then (if 0 ≤ n ∧ n ≠ v.1.headD 0 then scanS l n 4 else scanS l (v.1.headD 0) bad) else scanS l n bad
def frZ : FrL := ⟨[], ByteArray.empty, [], 0, 0, [], ByteArray.empty⟩
def startF (ops : List OpL) (fold : ByteArray) (ins : List ValL) : FrL × Int :=
  if mayC ops fold ins.length = true ∧ (ins.any fun v => !good v.1 v.2) = false then
    match scanS ins (-1) 0 with
    | none => (frZ, 3)
    | some (n, bad) => if bad ≠ 0 then (frZ, bad) else if n = 0 then (frZ, 5) else (⟨ops, fold, ins, if n < 1 then 1 else n, 0, [], ByteArray.empty⟩, 0)
  else (frZ, 1)
theorem start_no {ops : List OpL} {fold : ByteArray} {ins : List ValL} (h : Runs Tryz.prog 16 [cD ops fold, iD ins.length] (bD false)) : Runs Tryz.prog 13 [cD ops fold, rV ins] (.tup [frD frZ, iD 1]) := by
  refine Runs.wp Am.hT Am.hm Tryz.func13 rfl (by decide) ⟨[(18, .first 1 (.first 3 (.alt 0 (.alt 2 (.alt 4 (.first 5 (.alt 6 (.first 7 .done) .nil)) .nil) (.alt 4 (.alt 2 (.first 5 (.alt 6 (.first 7 .done) .nil)) .nil) .nil)) (.alt 2 (.alt 0 (.alt 4 (.first 5 (.alt 6 (.first 7 .done) .nil)) .nil) (.alt 4 (.load 0 [5, 6, 7] (.first 5 (.alt 6 (.first 7 .done) .nil))) .nil)) (.alt 4 (.alt 0 (.alt 2 (.first 5 (.alt 6 (.first 7 .done) .nil)) .nil) (.alt 2 (.load 0 [5, 6, 7] (.first 5 (.alt 6 (.first 7 .done) .nil))) .nil)) .nil)))))], [0, 1, 2, 4, 5, 6, 7, 9, 18, 20, 21, 22, 23, 26, 32, 49, 59, 64], 74⟩ ?_; ((conv => whnf); repeat (refine Gq ?_; (conv => whnf)))
  ((conv => whnf); (refine HfA h ?_); ((conv => whnf); repeat (refine Gq ?_; (conv => whnf))))
  exact TeA
theorem start_no2 {ops : List OpL} {fold : ByteArray} {ins : List ValL} (h : Runs Tryz.prog 16 [cD ops fold, iD ins.length] (bD true)) (h2 : Runs Tryz.prog 45 [rV ins, .fn 46 []] (bD true)) : Runs Tryz.prog 13 [cD ops fold, rV ins] (.tup [frD frZ, iD 1]) := by
  refine Runs.wp Am.hT Am.hm Tryz.func13 rfl (by decide) ⟨[(18, .first 1 (.first 3 (.alt 0 (.alt 2 (.alt 4 (.first 5 (.alt 6 (.first 7 .done) .nil)) .nil) (.alt 4 (.alt 2 (.first 5 (.alt 6 (.first 7 .done) .nil)) .nil) .nil)) (.alt 2 (.alt 0 (.alt 4 (.first 5 (.alt 6 (.first 7 .done) .nil)) .nil) (.alt 4 (.load 0 [5, 6, 7] (.first 5 (.alt 6 (.first 7 .done) .nil))) .nil)) (.alt 4 (.alt 0 (.alt 2 (.first 5 (.alt 6 (.first 7 .done) .nil)) .nil) (.alt 2 (.load 0 [5, 6, 7] (.first 5 (.alt 6 (.first 7 .done) .nil))) .nil)) .nil)))))], [0, 1, 2, 4, 5, 6, 7, 9, 18, 20, 21, 22, 23, 26, 32, 49, 59, 64], 74⟩ ?_; ((conv => whnf); repeat (refine Gq ?_; (conv => whnf)))
  ((conv => whnf); (refine HfA h ?_); ((conv => whnf); repeat (refine Gq ?_; (conv => whnf))))
  ((conv => whnf); (refine HfA h2 ?_); ((conv => whnf); repeat (refine Gq ?_; (conv => whnf))))
  exact TeA
theorem start_go {ops : List OpL} {fold : ByteArray} {ins : List ValL} {r : FrL × Int} (hi : ins.length ≤ 100000000) (h : Runs Tryz.prog 16 [cD ops fold, iD ins.length] (bD true)) (h2 : Runs Tryz.prog 45 [rV ins, .fn 46 []] (bD false))
    (hr : r = match scanS ins (-1) 0 with
    | none => (frZ, 3)
    | some (n, bad) => if bad ≠ 0 then (frZ, bad) else if n = 0 then (frZ, 5) else (⟨ops, fold, ins, if n < 1 then 1 else n, 0, [], ByteArray.empty⟩, 0)) : Runs Tryz.prog 13 [cD ops fold, rV ins] (.tup [frD r.1, iD r.2]) := by
  have hc := cloneV_runs ins hi
  refine Runs.wp Am.hT Am.hm Tryz.func13 rfl (by decide) ⟨[(18, .first 1 (.first 3 (.alt 0 (.alt 2 (.alt 4 (.first 5 (.alt 6 (.first 7 .done) .nil)) .nil) (.alt 4 (.alt 2 (.first 5 (.alt 6 (.first 7 .done) .nil)) .nil) .nil)) (.alt 2 (.alt 0 (.alt 4 (.first 5 (.alt 6 (.first 7 .done) .nil)) .nil) (.alt 4 (.load 0 [5, 6, 7] (.first 5 (.alt 6 (.first 7 .done) .nil))) .nil)) (.alt 4 (.alt 0 (.alt 2 (.first 5 (.alt 6 (.first 7 .done) .nil)) .nil) (.alt 2 (.load 0 [5, 6, 7] (.first 5 (.alt 6 (.first 7 .done) .nil))) .nil)) .nil)))))], [0, 1, 2, 4, 5, 6, 7, 9, 18, 20, 21, 22, 23, 26, 32, 49, 59, 64], 74⟩ ?_; ((conv => whnf); repeat (refine Gq ?_; (conv => whnf)))
  ((conv => whnf); (refine HfA h ?_); ((conv => whnf); repeat (refine Gq ?_; (conv => whnf))))
  ((conv => whnf); (refine HfA h2 ?_); ((conv => whnf); repeat (refine Gq ?_; (conv => whnf))))
  refine loop_ind (fun k (x : Nat × Int × Int) => x.1 + k = ins.length + 1 ∧ x.1 ≤ ins.length ∧ scanS ins (-1) 0 = scanS (ins.drop x.1) x.2.1 x.2.2) (fun x => { t := pin [(1, .d (rV ins)), (2, .pt 0 0), (4, .pt 1 0), (5, .d (iD 0)), (6, .d (iD x.2.1)), (7, .d (iD x.2.2)), (20, .d (rV ins)), (21, .d (iD ins.length)), (22, .d (iD x.1))], N := 74, h := hpin [some (.st 30 [.d (rO ops), .d (sD fold)]), some (.st 33 [.imm (.slice none 0 0), .imm (.string ByteArray.empty), .imm (.slice none 0 0), .imm (.int .i64 0), .imm (.int .i64 0), .imm (.slice none 0 0), .imm (.string ByteArray.empty)])], n := 2, lo := 0 }) (fun i h => by omega) ?_ (ins.length + 1) (0, -1, 0) ⟨by simp, by simp, rfl⟩ _ ?_
  · rintro k ⟨i, n, bad⟩ R ih ⟨hk, hlt', he⟩
    dsimp only at *
    by_cases hlt : i < ins.length
    · have t1 : decide ((i : Int) < (ins.length : Int)) = true := by simpa using hlt
      have hx : ins[i]? = some ins[i] := List.getElem?_eq_getElem hlt
      rw [List.drop_eq_getElem_cons hlt, scanS] at he
      generalize ins[i] = v at *
      obtain ⟨s, e⟩ := v
      dsimp only at he
      by_cases h1 : 1 < s.length
      · have t2 : decide (((s.length : Nat) : Int) > 1) = true := by rw [decide_eq_true_iff]; omega
        rw [if_pos h1] at he
        rw [he] at hr
        dsimp only at hr
        subst hr
        ((conv => whnf); repeat (refine Gq ?_; (conv => whnf)))
        refine Lt t1 ?_
        ((conv => whnf); repeat (refine Gq ?_; (conv => whnf)))
        refine ⟨by omega, by omega, ?_⟩
        ((conv => whnf); repeat (refine Gq ?_; (conv => whnf)))
        refine fm_ld valC_len hx ?_
        ((conv => whnf); repeat (refine Gq ?_; (conv => whnf)))
        refine litE t2 ?_
        ((conv => whnf); repeat (refine Gq ?_; (conv => whnf)))
        exact TeA
      · have t2 : decide (((s.length : Nat) : Int) > 1) = false := by rw [decide_eq_false_iff_not]; omega
        rw [if_neg h1] at he
        cases s with
        | nil =>
          have t7 : ((((([], e) : ValL).1.length : Nat) : Int) == 1) = false := rfl
          rw [if_neg (by simp)] at he
          ((conv => whnf); repeat (refine Gq ?_; (conv => whnf)))
          refine Lt t1 ?_
          ((conv => whnf); repeat (refine Gq ?_; (conv => whnf)))
          refine ⟨by omega, by omega, ?_⟩
          ((conv => whnf); repeat (refine Gq ?_; (conv => whnf)))
          refine fm_ld valC_len hx ?_
          ((conv => whnf); repeat (refine Gq ?_; (conv => whnf)))
          refine litE t2 ?_
          ((conv => whnf); repeat (refine Gq ?_; (conv => whnf)))
          refine litE t7 ?_
          ((conv => whnf); repeat (refine Gq ?_; (conv => whnf)))
          refine litE t7 ?_
          ((conv => whnf); repeat (refine Gq ?_; (conv => whnf)))
          refine ih (i + 1, n, bad) _ ⟨by dsimp only; omega, by dsimp only; omega, he⟩ ?_
          (refine Wk.pin [0, 1] _ _ ?_ ?_ rfl rfl (by decide) rfl rfl <;> (repeat' first | exact trivial | rfl | (refine And.intro ?_ ?_)))
          exact inE (i64n (by simp) (by omega))
        | cons a s =>
          cases s with
          | cons b s => exact absurd (by simp) h1
          | nil =>
            have t7 : (((((([a] : List Int), e) : ValL).1.length : Nat) : Int) == 1) = true := rfl
            have hix : (List.map iD (([a], e) : ValL).1)[(0 : Int).toNat * 1]? = some (iD a) := rfl
            have hlen : (0 : Int) ≤ 0 ∧ (0 : Int) < (((([a] : List Int), e) : ValL).1.length : Nat) := ⟨by decide, by show (0 : Int) < 1; decide⟩
            rw [if_pos (show ([a] : List Int).length = 1 from rfl)] at he
            replace he : scanS ins (-1) 0 = if 0 ≤ n ∧ n ≠ a then scanS (ins.drop (i + 1)) n 4 else scanS (ins.drop (i + 1)) a bad := he
            by_cases hn : 0 ≤ n
            · have t3 : decide (n ≥ 0) = true := decide_eq_true hn
              by_cases hna : n = a
              · have t4 : (!(n == a)) = false := by simp [hna]
                rw [if_neg (by simp [hna])] at he
                ((conv => whnf); repeat (refine Gq ?_; (conv => whnf)))
                refine Lt t1 ?_
                ((conv => whnf); repeat (refine Gq ?_; (conv => whnf)))
                refine ⟨by omega, by omega, ?_⟩
                ((conv => whnf); repeat (refine Gq ?_; (conv => whnf)))
                refine fm_ld valC_len hx ?_
                ((conv => whnf); repeat (refine Gq ?_; (conv => whnf)))
                refine litE t2 ?_
                ((conv => whnf); repeat (refine Gq ?_; (conv => whnf)))
                refine litE t7 ?_
                ((conv => whnf); repeat (refine Gq ?_; (conv => whnf)))
                refine litE t3 ?_
                ((conv => whnf); repeat (refine Gq ?_; (conv => whnf)))
                refine ⟨hlen.1, hlen.2, ?_⟩
                ((conv => whnf); repeat (refine Gq ?_; (conv => whnf)))
                refine litE t4 ?_
                ((conv => whnf); repeat (refine Gq ?_; (conv => whnf)))
                refine litE t7 ?_
                ((conv => whnf); repeat (refine Gq ?_; (conv => whnf)))
                refine ⟨hlen.1, hlen.2, ?_⟩
                ((conv => whnf); repeat (refine Gq ?_; (conv => whnf)))
                refine ih (i + 1, a, bad) _ ⟨by dsimp only; omega, by dsimp only; omega, he⟩ ?_
                (refine Wk.pin [0, 1] _ _ ?_ ?_ rfl rfl (by decide) rfl rfl <;> (repeat' first | exact trivial | rfl | (refine And.intro ?_ ?_)))
                exact inE (i64n (by simp) (by omega))
              · have t4 : (!(n == a)) = true := by simp [hna]
                rw [if_pos ⟨hn, hna⟩] at he
                ((conv => whnf); repeat (refine Gq ?_; (conv => whnf)))
                refine Lt t1 ?_
                ((conv => whnf); repeat (refine Gq ?_; (conv => whnf)))
                refine ⟨by omega, by omega, ?_⟩
                ((conv => whnf); repeat (refine Gq ?_; (conv => whnf)))
                refine fm_ld valC_len hx ?_
                ((conv => whnf); repeat (refine Gq ?_; (conv => whnf)))
                refine litE t2 ?_
                ((conv => whnf); repeat (refine Gq ?_; (conv => whnf)))
                refine litE t7 ?_
                ((conv => whnf); repeat (refine Gq ?_; (conv => whnf)))
                refine litE t3 ?_
                ((conv => whnf); repeat (refine Gq ?_; (conv => whnf)))
                refine ⟨hlen.1, hlen.2, ?_⟩
                ((conv => whnf); repeat (refine Gq ?_; (conv => whnf)))
                refine litE t4 ?_
                ((conv => whnf); repeat (refine Gq ?_; (conv => whnf)))
                refine ih (i + 1, n, 4) _ ⟨by dsimp only; omega, by dsimp only; omega, he⟩ ?_
                (refine Wk.pin [0, 1] _ _ ?_ ?_ rfl rfl (by decide) rfl rfl <;> (repeat' first | exact trivial | rfl | (refine And.intro ?_ ?_)))
                exact inE (i64n (by simp) (by omega))
            · have t3 : decide (n ≥ 0) = false := decide_eq_false hn
              rw [if_neg (by rintro ⟨h, _⟩; exact hn h)] at he
              ((conv => whnf); repeat (refine Gq ?_; (conv => whnf)))
              refine Lt t1 ?_
              ((conv => whnf); repeat (refine Gq ?_; (conv => whnf)))
              refine ⟨by omega, by omega, ?_⟩
              ((conv => whnf); repeat (refine Gq ?_; (conv => whnf)))
              refine fm_ld valC_len hx ?_
              ((conv => whnf); repeat (refine Gq ?_; (conv => whnf)))
              refine litE t2 ?_
              ((conv => whnf); repeat (refine Gq ?_; (conv => whnf)))
              refine litE t7 ?_
              ((conv => whnf); repeat (refine Gq ?_; (conv => whnf)))
              refine litE t3 ?_
              ((conv => whnf); repeat (refine Gq ?_; (conv => whnf)))
              refine litE t7 ?_
              ((conv => whnf); repeat (refine Gq ?_; (conv => whnf)))
              refine ⟨hlen.1, hlen.2, ?_⟩
              ((conv => whnf); repeat (refine Gq ?_; (conv => whnf)))
              refine ih (i + 1, a, bad) _ ⟨by dsimp only; omega, by dsimp only; omega, he⟩ ?_
              (refine Wk.pin [0, 1] _ _ ?_ ?_ rfl rfl (by decide) rfl rfl <;> (repeat' first | exact trivial | rfl | (refine And.intro ?_ ?_)))
              exact inE (i64n (by simp) (by omega))
    · have t1 : decide ((i : Int) < (ins.length : Int)) = false := by simpa using hlt
      rw [List.drop_eq_nil_of_le (by omega), scanS] at he
      rw [he] at hr
      dsimp only at hr
      by_cases hb : bad = 0
      · have t5 : (!(bad == 0)) = false := by simp [hb]
        rw [if_neg (by simp [hb])] at hr
        by_cases hn : n = 0
        · have t6 : (n == 0) = true := by simp [hn]
          rw [if_pos hn] at hr
          subst hr
          ((conv => whnf); repeat (refine Gq ?_; (conv => whnf)))
          refine Lf t1 ?_
          ((conv => whnf); repeat (refine Gq ?_; (conv => whnf)))
          refine litE t5 ?_
          ((conv => whnf); repeat (refine Gq ?_; (conv => whnf)))
          refine litE t6 ?_
          ((conv => whnf); repeat (refine Gq ?_; (conv => whnf)))
          exact TeA
        · have t6 : (n == 0) = false := by simp [hn]
          rw [if_neg hn] at hr
          subst hr
          ((conv => whnf); repeat (refine Gq ?_; (conv => whnf)))
          refine Lf t1 ?_
          ((conv => whnf); repeat (refine Gq ?_; (conv => whnf)))
          refine litE t5 ?_
          ((conv => whnf); repeat (refine Gq ?_; (conv => whnf)))
          refine litE t6 ?_
          ((conv => whnf); repeat (refine Gq ?_; (conv => whnf)))
          (refine And.intro (by decide +kernel) ?_; apply Exists.intro; apply And.intro; focus ((repeat' ((conv => whnf); first | exact trivial | refine Wo ?_ | refine Lt (by decide) ?_ | refine Lf (by decide) ?_ | refine Cl (by decide) ?_ | refine Cr (by decide) ?_ | refine Both.mk ?_ ?_ | (first | exact Wk.frc (keep := [0, 1, 2, 4, 5, 6, 7, 9, 18, 20, 21, 22, 23, 26, 32, 49, 59, 64]) (N := 74) (by (conv => whnf); first | done | exact rfl) | (refine HrA hc ?_)) | refine ⟨_, rfl, ?_⟩ | refine Mi rfl ?_ | (refine And.intro ?_ ?_))); all_goals (first | decide | rfl | assumption | omega | (dsimp only; omega) | (unfold maxLen; omega) | ((try dsimp only [maxLen]); simp only [List.length_append, List.length_cons, List.length_nil, List.length_map, List.length_range, List.length_set, List.length_replicate]; omega) | ((try dsimp only [maxLen]); simp only [IntKind.wrap_i64, IntKind.wrap_u64, List.length_append, List.length_cons, List.length_nil, List.length_map, List.length_range, List.length_set, List.length_replicate]; omega) | ((try dsimp only [maxLen]); simp only [List.length_append, List.length_cons, List.length_nil, List.length_map, List.length_range, List.length_set, List.length_replicate] at *; omega))))
          ((conv => whnf); repeat (refine Gq ?_; (conv => whnf)))
          exact TeA
      · have t5 : (!(bad == 0)) = true := by simp [hb]
        rw [if_pos hb] at hr
        subst hr
        ((conv => whnf); repeat (refine Gq ?_; (conv => whnf)))
        refine Lf t1 ?_
        ((conv => whnf); repeat (refine Gq ?_; (conv => whnf)))
        refine litE t5 ?_
        ((conv => whnf); repeat (refine Gq ?_; (conv => whnf)))
        exact TeA
  · (refine Wk.pin [0, 1] _ _ ?_ ?_ rfl rfl (by decide) rfl rfl <;> (repeat' first | exact trivial | rfl | (refine And.intro ?_ ?_)))
theorem start_runs (ops : List OpL) (fold : ByteArray) (ins : List ValL) (ho : ops.length ≤ 100000000) (hi : ins.length ≤ 100000000) (hb : ∀ v ∈ ins, v.1.length ≤ 100000000 ∧ v.2.length ≤ 100000000) : Runs Tryz.prog 13 [cD ops fold, rV ins] (.tup [frD (startF ops fold ins).1, iD (startF ops fold ins).2]) := by
  have m := may_runs2 ops fold ins.length ho
  have c := contFV_runs (l := ins) (p := fun v => !good v.1 v.2) (F := 46) (by omega) (fun v hv => start1_runs v (hb v hv).1 (hb v hv).2)
  cases hm : mayC ops fold ins.length with
  | false =>
    rw [hm] at m
    have e : startF ops fold ins = (frZ, 1) := by unfold startF; rw [if_neg (by rw [hm]; simp)]
    rw [e]
    exact start_no m
  | true =>
    rw [hm] at m
    cases hc : (ins.any fun v => !good v.1 v.2) with
    | true =>
      rw [hc] at c
      have e : startF ops fold ins = (frZ, 1) := by unfold startF; rw [if_neg (by rw [hc]; simp)]
      rw [e]
      exact start_no2 m c
    | false =>
      rw [hc] at c
      exact start_go hi m c (by unfold startF; rw [if_pos ⟨hm, hc⟩])
end Go.Proofs.YtkhgpnbhnipndaaGreatDoor.Am
end
section
/- Frames: a step, told whole. -/
namespace Go.Proofs.YtkhgpnbhnipndaaGreatDoor.Am
open Go Go.RowKit Go.Proofs.YtkhgpnbhnipndaaGreatDoor.Sh
open Go.Proofs.YtkhgpnbhnipndaaGreatDoor.Nm (numS)
set_option linter.unusedVariables false
set_option linter.unusedSimpArgs false
set_option maxRecDepth 100000
set_option maxHeartbeats 8000000
theorem needs_two {slots : Int} {o : OpL} (h : ¬ needsZ slots o < 0) :
    (o.1.1 = 1 ∧ 0 ≤ o.1.2 ∧ o.1.2 < slots ∧ needsZ slots o = 0) ∨ (o.1.1 = 2 ∧ mayB o.2 = true ∧ needsZ slots o = 0) ∨ (o.1.1 = 3 ∧ sgB whS o.2 = true ∧ needsZ slots o = 2) ∨ (o.1.1 = 4 ∧ sgB moS o.2 = true ∧ needsZ slots o = 1) := by
  unfold needsZ at h ⊢
  by_cases h1 : o.1.1 = 1 ∧ 0 ≤ o.1.2 ∧ o.1.2 < slots ∨ o.1.1 = 2 ∧ mayB o.2 = true
  · rw [if_pos h1]
    rcases h1 with h1 | h1
    · exact .inl ⟨h1.1, h1.2.1, h1.2.2, rfl⟩
    · exact .inr (.inl ⟨h1.1, h1.2, rfl⟩)
  · rw [if_neg h1] at h ⊢
    by_cases h2 : o.1.1 = 3 ∧ sgB whS o.2 = true
    · rw [if_pos h2]; exact .inr (.inr (.inl ⟨h2.1, h2.2, rfl⟩))
    · rw [if_neg h2] at h ⊢
      by_cases h3 : o.1.1 = 4 ∧ sgB moS o.2 = true
      · rw [if_pos h3]; exact .inr (.inr (.inr ⟨h3.1, h3.2, rfl⟩))
      · rw [if_neg h3] at h; exact absurd (by decide) h
/-- inputs that have elements -/
def InsOk (ins : List ValL) : Prop := ∀ v ∈ ins, v.2 ≠ [] ∧ v.2.length ≤ 100000000 ∧ ∀ b ∈ v.2, mayB b = true
theorem oneC_may {ins : List ValL} {k : Nat} (he : InsOk ins) : ∀ (l : List OpL) (st : List ByteArray), deepC ins.length l st.length = some 1 → (∀ b ∈ st, mayB b = true) → (oneC ins k l st).2 = 0 → mayB (oneC ins k l st).1 = true
  | [], st, hd, hm, h => by
    have hL : st.length = 1 := by have := Option.some.inj hd; omega
    obtain ⟨a, rfl⟩ := List.length_eq_one_iff.1 hL
    exact hm a (by simp)
  | o :: l, st, hd, hm, h => by
    rw [deepC] at hd
    by_cases hn : needsZ ins.length o < 0 ∨ (st.length : Int) < needsZ ins.length o
    · rw [if_pos hn] at hd; cases hd
    rw [if_neg hn] at hd
    have app : ∀ {p : List ByteArray} {x : ByteArray}, (∀ b ∈ p, mayB b = true) → mayB x = true → ∀ b ∈ p ++ [x], mayB b = true := fun hp hx b hb => by
      rcases List.mem_append.1 hb with h | h
      · exact hp b h
      · rw [List.mem_singleton.1 h]; exact hx
    rw [oneC] at h ⊢
    rcases needs_two (fun h => hn (.inl h)) with ⟨e1, e2, e3, e4⟩ | ⟨e1, e2, e4⟩ | ⟨e1, e2, e4⟩ | ⟨e1, e2, e4⟩
    · rw [if_pos e1] at h ⊢
      rw [e4] at hd
      obtain ⟨s, hs⟩ := Int.eq_ofNat_of_zero_le e2
      exact oneC_may he l _ (by rw [List.length_append, List.length_singleton]; exact hd) (app hm (by rw [hs, Int.toNat_natCast]; exact at_may (by omega) he)) h
    · rw [if_neg (by omega), if_pos e1] at h ⊢
      rw [e4] at hd
      exact oneC_may he l _ (by rw [List.length_append, List.length_singleton]; exact hd) (app hm e2) h
    · rw [if_neg (by omega), if_neg (by omega), if_pos e1] at h ⊢
      rw [e4] at hd hn
      obtain ⟨p, a, b, rfl⟩ : ∃ p a b, st = p ++ [a, b] := by
        rcases snoc_cases st with rfl | ⟨q, b, rfl⟩
        · simp at hn
        · rcases snoc_cases q with rfl | ⟨p, a, rfl⟩
          · simp at hn
          · exact ⟨p, a, b, by simp⟩
      have d1 : (p ++ [a, b]).dropLast = p ++ [a] := by rw [show p ++ [a, b] = (p ++ [a]) ++ [b] by simp, List.dropLast_concat]
      have d2 : (p ++ [a, b]).getLastD ByteArray.empty = b := by rw [show p ++ [a, b] = (p ++ [a]) ++ [b] by simp]; simp
      have d3 : (p ++ [a]).getLastD ByteArray.empty = a := by simp
      rw [d1, d2, d3, List.dropLast_concat] at h ⊢
      dsimp only at h ⊢
      by_cases h0 : (sd o.2 a b).2 = 0
      · rw [if_pos h0] at h ⊢
        have hL : (p ++ [a, b]).length = p.length + 2 := by simp
        rw [hL] at hd
        exact oneC_may he l _ (by rw [List.length_append, List.length_singleton]; exact (congrArg (deepC _ _) (by omega)).trans hd) (app (fun b hb => hm b (by simp [hb])) (sd_may (hm a (by simp)) (hm b (by simp)) h0)) h
      · rw [if_neg h0] at h
        exact absurd h h0
    · rw [if_neg (by omega), if_neg (by omega), if_neg (by omega)] at h ⊢
      rw [e4] at hd hn
      obtain ⟨p, a, rfl⟩ : ∃ p a, st = p ++ [a] := by
        rcases snoc_cases st with rfl | h
        · simp at hn
        · exact h
      have hL : (p ++ [a]).length = p.length + 1 := by simp
      rw [hL] at hd
      rw [List.dropLast_concat, show (p ++ [a]).getLastD ByteArray.empty = a by simp] at h ⊢
      exact oneC_may he l _ (by rw [List.length_append, List.length_singleton]; exact (congrArg (deepC _ _) (by omega)).trans hd) (app (fun b hb => hm b (by simp [hb])) (smo_may o.2 (hm a (by simp)))) h
/-- a frame that is under way -/
structure FrOk (f : FrL) : Prop where
  mc : mayC f.ops f.fold f.ins.length = true
  il : f.ins.length ≤ 100000000
  ok : InsOk f.ins
  sh : ∀ v ∈ f.ins, v.1.length ≤ 100000000
  n1 : 1 ≤ f.n
  n2 : f.n ≤ 4096
  k0 : 0 ≤ f.k
  kn : f.k ≤ f.n
  ol : f.fold = ByteArray.empty → (f.out.length : Int) = f.k ∧ f.acc = ByteArray.empty
  ou : f.fold ≠ ByteArray.empty → f.out = []
  ac : f.fold ≠ ByteArray.empty → 0 < f.k → mayB f.acc = true
theorem mayC_parts {l : List OpL} {f : ByteArray} {s : Int} (h : mayC l f s = true) : 1 ≤ l.length ∧ l.length ≤ 200 ∧ foldB f = true ∧ deepC s l 0 = some 1 := by
  unfold mayC at h
  simp only [Bool.and_eq_true, decide_eq_true_eq] at h
  exact ⟨h.1.1.1, h.1.1.2, h.1.2, h.2⟩
theorem FrOk.fine {f : FrL} (h : FrOk f) : fineF f = true := by
  unfold fineF
  rw [decide_eq_true h.k0, h.mc, Bool.true_and, Bool.true_and, Bool.not_eq_true']
  rw [List.any_eq_false]
  intro v hv
  simpa using (h.ok v hv).1
theorem FrOk.outl {f : FrL} (h : FrOk f) : f.out.length ≤ 4096 := by
  by_cases hf : f.fold = ByteArray.empty
  · have := (h.ol hf).1; have := h.n2; have := h.kn; omega
  · rw [h.ou hf]; simp
theorem FrOk.dyad {f : FrL} (h : FrOk f) (hf : f.fold ≠ ByteArray.empty) : sgB dyS f.fold = true := by
  rcases foldB_cases (mayC_parts h.mc).2.2.1 with h | ⟨_, h⟩
  · exact absurd h hf
  · refine wh_dy ?_
    unfold sgB at h ⊢
    split at h
    · rename_i c hc
      have : c ∈ ([43, 42, 38, 124] : List UInt8) := by simpa [foS] using h
      simp only [List.mem_cons, List.not_mem_nil, or_false] at this
      rcases this with rfl | rfl | rfl | rfl <;> decide
    · cases h
theorem step_full {f : FrL} (h : FrOk f) : Runs Tryz.prog 21 [frD f] (.tup [frD (stepF f).1, iD (stepF f).2]) ∧ FrOk (stepF f).1 ∧ ((stepF f).2 = 0 → f.k < f.n → (stepF f).1.k = f.k + 1) ∧ (stepF f).1.ops = f.ops ∧ (stepF f).1.fold = f.fold ∧ (stepF f).1.ins = f.ins ∧ (stepF f).1.n = f.n ∧ ((stepF f).2 ≠ 0 → (stepF f).1 = f) := by
  obtain ⟨o1, o2, o3, o4⟩ := mayC_parts h.mc
  have d := done_runs f
  have fi := fine_runs (f := f) (by omega) h.il
  rw [h.fine] at fi
  have hfi := h.fine
  have hol := h.outl
  by_cases hd : f.n ≤ f.k
  · rw [decide_eq_true hd] at d
    have e : stepF f = (f, 0) := by unfold stepF; rw [if_pos (.inl hd)]
    rw [e]
    exact ⟨step_no1 d, h, fun _ h => absurd hd (by omega), rfl, rfl, rfl, rfl, fun h => absurd rfl h⟩
  · rw [decide_eq_false hd] at d
    obtain ⟨k, hk⟩ := Int.eq_ofNat_of_zero_le h.k0
    have hkn := h.kn
    have hn2 := h.n2
    have h1 := one_runs (fold := f.fold) (acc := f.acc) (n := f.n) (out := f.out) (k := k) o4 o2 h.il h.ok (by omega)
    have hm := oneC_may (k := k) h.ok f.ops [] o4 (fun b hb => by simp at hb)
    have es : stepF f = (let x := oneC f.ins k f.ops []
      if x.2 = 0 then
        if f.fold = ByteArray.empty then ({ f with out := f.out ++ [x.1], k := f.k + 1 }, 0)
        else if 0 < f.k then
          let y := sd f.fold f.acc x.1
          if y.2 = 0 then ({ f with acc := y.1, k := f.k + 1 }, 0) else (f, y.2)
        else ({ f with acc := x.1, k := f.k + 1 }, 0)
      else (f, x.2)) := by
      unfold stepF
      rw [if_neg (by rintro (h | h); exact hd h; rw [hfi] at h; cases h), hk, Int.toNat_natCast]
    dsimp only at es
    rw [← show f.k = (k : Int) from hk] at h1
    generalize oneC f.ins k f.ops [] = x at *
    obtain ⟨x, e⟩ := x
    dsimp only at *
    by_cases h0 : e = 0
    · subst h0
      rw [if_pos rfl] at es
      have hmx := hm rfl
      by_cases hf : f.fold = ByteArray.empty
      · rw [if_pos hf] at es
        rw [es]
        refine ⟨step_out hf (by omega) (by omega) d fi h1, ⟨h.mc, h.il, h.ok, h.sh, h.n1, h.n2, by dsimp only; omega, by dsimp only; omega, fun _ => ⟨?_, (h.ol hf).2⟩, fun h => absurd hf h, fun h => absurd hf h⟩, fun _ _ => rfl, rfl, rfl, rfl, rfl, fun h => absurd rfl h⟩
        have := (h.ol hf).1
        dsimp only
        rw [List.length_append, List.length_singleton]
        omega
      · rw [if_neg hf] at es
        by_cases hk0 : 0 < f.k
        · rw [if_pos hk0] at es
          have hD := sd_runs (h.dyad hf) (h.ac hf hk0) hmx
          have hsm := sd_may (op := f.fold) (h.ac hf hk0) hmx
          generalize sd f.fold f.acc x = y at *
          obtain ⟨y, e⟩ := y
          dsimp only at *
          by_cases hy : e = 0
          · subst hy
            rw [if_pos rfl] at es
            rw [es]
            exact ⟨step_acc hf (by omega) d fi h1 hD, ⟨h.mc, h.il, h.ok, h.sh, h.n1, h.n2, by dsimp only; omega, by dsimp only; omega, fun h => absurd h hf, h.ou, fun _ _ => hsm rfl⟩, fun _ _ => rfl, rfl, rfl, rfl, rfl, fun h => absurd rfl h⟩
          · rw [if_neg hy] at es
            rw [es]
            exact ⟨step_bad hy hf hk0 d fi h1 hD, h, fun h => absurd h hy, rfl, rfl, rfl, rfl, fun _ => rfl⟩
        · rw [if_neg hk0] at es
          rw [es]
          have hk00 : f.k = 0 := by omega
          exact ⟨step_acc0 hf hk00 d fi h1, ⟨h.mc, h.il, h.ok, h.sh, h.n1, h.n2, by dsimp only; omega, by dsimp only; omega, fun h => absurd h hf, h.ou, fun _ _ => hmx⟩, fun _ _ => rfl, rfl, rfl, rfl, rfl, fun h => absurd rfl h⟩
    · rw [if_neg h0] at es
      rw [es]
      exact ⟨step_err h0 d fi h1, h, fun h => absurd h h0, rfl, rfl, rfl, rfl, fun _ => rfl⟩
theorem scan_bad : ∀ {l : List ValL} {n m b : Int}, scanS l n 4 = some (m, b) → b = 4
  | [], n, m, b, h => by cases h; rfl
  | v :: l, n, m, b, h => by
    rw [scanS] at h
    split at h
    · cases h
    · split at h
      · split at h
        · exact scan_bad h
        · exact scan_bad h
      · exact scan_bad h
theorem scan_ok : ∀ {l : List ValL} {n0 n : Int}, (∀ v ∈ l, ∀ a, v.1 = [a] → 0 ≤ a) → scanS l n0 0 = some (n, 0) → (∀ v ∈ l, v.1 = [] ∨ v.1 = [n]) ∧ (0 ≤ n0 → n = n0) ∧ (n = n0 ∨ ∃ v ∈ l, v.1 = [n])
  | [], n0, n, hg, h => by cases h; exact ⟨fun _ h => (by cases h), fun _ => rfl, .inl rfl⟩
  | v :: l, n0, n, hg, h => by
    rw [scanS] at h
    have hg' : ∀ v ∈ l, ∀ a, v.1 = [a] → 0 ≤ a := fun v hv => hg v (by simp [hv])
    obtain ⟨s, e⟩ := v
    dsimp only at h
    split at h
    · cases h
    · rename_i h1
      split at h
      · rename_i h2
        obtain ⟨a, rfl⟩ := List.length_eq_one_iff.1 h2
        have ha := hg ([a], e) (by simp) a rfl
        split at h
        · exact absurd (scan_bad h) (by decide)
        · rename_i h3
          have h3' : ¬ (0 ≤ n0 ∧ n0 ≠ a) := h3
          obtain ⟨q1, q2, q3⟩ := scan_ok hg' (show scanS l a 0 = some (n, 0) from h)
          have hna : n = a := q2 ha
          subst hna
          refine ⟨fun v hv => ?_, fun h0 => ?_, .inr ⟨_, List.mem_cons_self, rfl⟩⟩
          · rcases List.mem_cons.1 hv with rfl | hv
            · exact .inr rfl
            · exact q1 v hv
          · by_cases hnn : n0 = n
            · exact hnn.symm
            · exact absurd ⟨h0, hnn⟩ h3'
      · rename_i h2
        have hs : s = [] := by
          cases s with
          | nil => rfl
          | cons a s => cases s with
            | nil => exact absurd rfl h2
            | cons b s => exact absurd (by simp) h1
        subst hs
        obtain ⟨q1, q2, q3⟩ := scan_ok hg' h
        refine ⟨fun v hv => ?_, q2, ?_⟩
        · rcases List.mem_cons.1 hv with rfl | hv
          · exact .inl rfl
          · exact q1 v hv
        · rcases q3 with h | ⟨v, hv, h⟩
          · exact .inl h
          · exact .inr ⟨v, by simp [hv], h⟩
theorem start_ok {ops : List OpL} {fold : ByteArray} {ins : List ValL} (hi : ins.length ≤ 100000000) (hb : ∀ v ∈ ins, v.1.length ≤ 100000000 ∧ v.2.length ≤ 100000000) (h : (startF ops fold ins).2 = 0) :
    FrOk (startF ops fold ins).1 ∧ (startF ops fold ins).1.ops = ops ∧ (startF ops fold ins).1.fold = fold ∧ (startF ops fold ins).1.ins = ins ∧ (startF ops fold ins).1.k = 0 ∧ (startF ops fold ins).1.out = [] ∧ (startF ops fold ins).1.acc = ByteArray.empty ∧ (∀ v ∈ ins, good v.1 v.2 = true) ∧
      ∃ n, scanS ins (-1) 0 = some (n, 0) ∧ n ≠ 0 ∧ (startF ops fold ins).1.n = (if n < 1 then 1 else n) ∧ (∀ v ∈ ins, v.1 = [] ∨ v.1 = [n]) := by
  have h' := h
  unfold startF at h
  split at h
  · rename_i hc
    have hgood : ∀ v ∈ ins, good v.1 v.2 = true := fun v hv => by
      have := List.any_eq_false.1 hc.2 v hv
      simpa using this
    split at h
    · exact absurd (show (3 : Int) = 0 from h) (by decide)
    · rename_i n bad hs
      by_cases hbad : bad = 0
      · subst hbad
        rw [if_neg (by simp)] at h
        by_cases hn : n = 0
        · rw [if_pos hn] at h; exact absurd (show (5 : Int) = 0 from h) (by decide)
        · have es : startF ops fold ins = (⟨ops, fold, ins, if n < 1 then 1 else n, 0, [], ByteArray.empty⟩, 0) := by
            unfold startF
            rw [if_pos hc, hs]
            dsimp only
            rw [if_neg (by simp), if_neg hn]
          rw [es]
          have hpos : ∀ v ∈ ins, ∀ a, v.1 = [a] → 0 ≤ a := fun v hv a ha => by
            have := (size_ok (good_size (hgood v hv))).2.1 a (by rw [ha]; simp)
            exact this.1
          obtain ⟨q1, q2, q3⟩ := scan_ok hpos hs
          have hsz : ∀ v ∈ ins, v.1 = [n] → n = (v.2.length : Int) ∧ n ≤ 4096 := fun v hv hvn => by
            have hz := good_size (hgood v hv)
            have hf := good_few (hgood v hv)
            rw [hvn] at hz
            rcases (size_ok hz).2.2 with ⟨⟨x, hx, h0⟩, _⟩ | ⟨_, h2, _, _⟩
            · simp at hx; omega
            · simp [pr] at h2; omega
          have hn4 : n ≤ 4096 := by
            rcases q3 with h | ⟨v, hv, h⟩
            · omega
            · exact (hsz v hv h).2
          refine ⟨⟨hc.1, hi, fun v hv => ⟨?_, (hb v hv).2, good_all (hgood v hv)⟩, fun v hv => (hb v hv).1, ?_, ?_, Int.le_refl 0, ?_, fun _ => ⟨rfl, rfl⟩, fun _ => rfl, fun _ h => absurd (show (0 : Int) < 0 from h) (by decide)⟩, rfl, rfl, rfl, rfl, rfl, rfl, hgood, n, hs, hn, rfl, q1⟩
          · rcases q1 v hv with h | h
            · have hz := good_size (hgood v hv)
              rw [h] at hz
              have h0 : sizeS [] = (1, 0) := by decide
              rw [h0] at hz
              have := congrArg Prod.fst hz
              simp only at this
              intro hv2
              rw [hv2] at this
              simp at this
            · have := (hsz v hv h).1
              intro hv2
              rw [hv2] at this
              exact hn (by simpa using this)
          · dsimp only; split <;> omega
          · dsimp only; split <;> omega
          · dsimp only; split <;> omega
      · rw [if_pos hbad] at h
        exact absurd h hbad
  · exact absurd (show (1 : Int) = 0 from h) (by decide)
end Go.Proofs.YtkhgpnbhnipndaaGreatDoor.Am
end
section
/- The statements about frames: few, codes as the program has them, the example. -/
namespace Go.Proofs.YtkhgpnbhnipndaaGreatDoor.Am
open Go Go.RowKit Go.Proofs.YtkhgpnbhnipndaaGreatDoor.Sh
open Go.Proofs.YtkhgpnbhnipndaaGreatDoor.Nm (numS)
set_option linter.unusedVariables false
set_option linter.unusedSimpArgs false
set_option maxRecDepth 100000
set_option maxHeartbeats 8000000
noncomputable def mdQ (l : List OpL) (f : ByteArray) (i : Nat) : St :=
  { t := pin [(1, .pt 0 0), (2, .pt 1 0), (3, .pt 2 0), (4, .d (iD i))], N := 40,
    h := hpin [some (.st 24 [.d (rO l), .d (sD f)]), some (.st 30 [.imm (.slice none 0 0), .imm (.string ByteArray.empty)]), some (.st 30 [.bs 3, .d (sD f)]), some (.ar 87 3 i ((l.take i).flatMap opC))], n := 4, lo := 0 }
theorem made_runs (l : List OpL) (f : ByteArray) (hl : l.length ≤ 100000000) : Runs Tryz.prog 14 [cD l f] (cD l f) := by
  refine Runs.wp Am.hT Am.hm Tryz.func14 rfl (by decide) ⟨[(5, .first 0 (.first 2 (.first 4 (.first 8 (.first 10 (.first 14 (.first 16 (.load 3 [5, 6, 7, 20, 21, 22, 23, 24] (.first 5 (.first 6 (.load 7 [20, 21, 22, 23, 24] (.load 9 [11, 12, 13, 20, 21, 22, 23, 24] (.first 11 (.first 12 (.load 13 [20, 21, 22, 23, 24] (.load 15 [17, 18, 19, 20, 21, 22, 23, 24] (.first 17 (.first 18 (.load 19 [20, 21, 22, 23, 24] (.first 20 (.ld2 1 [22, 23, 24] [28] (.alt 21 (.alt 22 (.first 23 (.alt 24 .done .nil)) .nil) .nil))))))))))))))))))))))], [0, 1, 2, 3, 4, 12], 40⟩ ?_; ((conv => whnf); repeat (refine Gq ?_; (conv => whnf)))
  refine loop_ind (fun k (i : Nat) => i + k = l.length + 1 ∧ i ≤ l.length) (fun i => mdQ l f i) (fun i h => by omega) ?_ (l.length + 1) 0 ⟨by omega, by omega⟩ _ ?_
  · rintro k i R ih ⟨hk, hi⟩
    unfold mdQ
    by_cases hlt : i < l.length
    · have t1 : decide ((i : Int) < (l.length : Int)) = true := by simpa using hlt
      have hx : l[i]? = some l[i] := List.getElem?_eq_getElem hlt
      have g0 : (l.flatMap opC)[(i : Int).toNat * 3 + 0]? = some (iD l[i].1.1) := (fm_get opC_len (i := (i : Int).toNat) (j := 0) (by rw [Int.toNat_natCast]; exact hx) (by decide)).trans rfl
      have g1 : (l.flatMap opC)[(i : Int).toNat * 3 + 1]? = some (iD l[i].1.2) := (fm_get opC_len (i := (i : Int).toNat) (j := 1) (by rw [Int.toNat_natCast]; exact hx) (by decide)).trans rfl
      have g2 : (l.flatMap opC)[(i : Int).toNat * 3 + 2]? = some (sD l[i].2) := (fm_get opC_len (i := (i : Int).toNat) (j := 2) (by rw [Int.toNat_natCast]; exact hx) (by decide)).trans rfl
      ((conv => whnf); repeat (refine Gq ?_; (conv => whnf)))
      refine litE t1 ?_
      ((conv => whnf); repeat (refine Gq ?_; (conv => whnf)))
      (refine And.intro (by decide +kernel) ?_; apply Exists.intro; apply And.intro; focus ((repeat' ((conv => whnf); first | exact trivial | refine Wo ?_ | refine Lt (by decide) ?_ | refine Lf (by decide) ?_ | refine Cl (by decide) ?_ | refine Cr (by decide) ?_ | refine Both.mk ?_ ?_ | (first | exact Wk.frc (keep := [0, 1, 2, 3, 4, 12]) (N := 40) (by (conv => whnf); first | done | exact rfl) | refine And.intro (show (0 : Int) ≤ (i : Int) by omega) ?_ | refine And.intro (show (i : Int) < (l.length : Int) by omega) ?_ | refine ⟨_, g0, ?_⟩ | refine ⟨_, g1, ?_⟩ | refine ⟨_, g2, ?_⟩ | refine And.intro (show i + 1 ≤ maxLen by unfold maxLen; omega) ?_ | refine And.intro (show (i + 1) * 32 ≤ 140737488355328 by omega) ?_) | refine ⟨_, rfl, ?_⟩ | refine Mi rfl ?_ | (refine And.intro ?_ ?_))); all_goals (first | decide | rfl | assumption | omega | (dsimp only; omega) | (unfold maxLen; omega) | ((try dsimp only [maxLen]); simp only [List.length_append, List.length_cons, List.length_nil, List.length_map, List.length_range, List.length_set, List.length_replicate]; omega) | ((try dsimp only [maxLen]); simp only [IntKind.wrap_i64, IntKind.wrap_u64, List.length_append, List.length_cons, List.length_nil, List.length_map, List.length_range, List.length_set, List.length_replicate]; omega) | ((try dsimp only [maxLen]); simp only [List.length_append, List.length_cons, List.length_nil, List.length_map, List.length_range, List.length_set, List.length_replicate] at *; omega))))
      ((conv => whnf); repeat (refine Gq ?_; (conv => whnf)))
      refine ih (i + 1) _ ⟨by omega, by omega⟩ ?_
      unfold mdQ
      (refine Wk.pin [0, 1, 2, 5] _ _ ?_ ?_ rfl rfl (by decide) rfl rfl <;> (repeat' first | exact trivial | rfl | (refine And.intro ?_ ?_)))
      · exact inE (i64n (by simp) (by omega))
      · exact arE (by rw [take_snoc hlt, List.flatMap_append]; simp [opC]) rfl
    · have t1 : decide ((i : Int) < (l.length : Int)) = false := by simpa using hlt
      obtain rfl : i = l.length := by omega
      rw [List.take_length]
      ((conv => whnf); repeat (refine Gq ?_; (conv => whnf)))
      refine litE t1 ?_
      ((conv => whnf); repeat (refine Gq ?_; (conv => whnf)))
      exact TeA
  · refine (Wk.virtB 2 0 87 3 30 _ rfl rfl).trans ?_
    unfold mdQ
    (refine Wk.to _ _ ?_ ?_ <;> (repeat' first | exact trivial | rfl | (refine And.intro ?_ ?_)))
def few20 (l : List OpL) (ins : List ValL) : Bool := (ins.take 9).all (fun v => fewB v.1 v.2 && decide (v.2.length ≤ 100)) && ((l.take 61).all (fun o => decide (o.2.size ≤ 120)) && (decide (l.length ≤ 60) && decide (ins.length ≤ 8)))
theorem few20_of {l : List OpL} {ins : List ValL} (h : few20 l ins = true) : l.length ≤ 60 ∧ ins.length ≤ 8 ∧ ∀ v ∈ ins, v.1.length ≤ 20 ∧ v.2.length ≤ 100 := by
  unfold few20 at h
  simp only [Bool.and_eq_true, decide_eq_true_eq, List.all_eq_true] at h
  obtain ⟨h1, h2, h3, h4⟩ := h
  rw [List.take_of_length_le (by omega)] at h1
  exact ⟨h3, h4, fun v hv => ⟨(few_of (h1 v hv).1).2.1, (h1 v hv).2⟩⟩
theorem few20_runs (l : List OpL) (f : ByteArray) (ins : List ValL) (hl : l.length ≤ 9223372036854775807) (hi : ins.length ≤ 9223372036854775807) (hb : ∀ v ∈ ins, v.1.length ≤ 9223372036854775807 ∧ v.2.length ≤ 9223372036854775807) : Runs Tryz.prog 12 [cD l f, rV ins] (bD (few20 l ins)) := by
  refine Runs.wp Am.hT Am.hm Tryz.func12 rfl (by decide) ⟨[], [0, 1, 2, 4, 5, 6, 14, 31, 40, 50], 60⟩ ?_; ((conv => whnf); repeat (refine Gq ?_; (conv => whnf)))
  refine loop_ind (fun k (i : Nat) => i + k = 11 ∧ i ≤ ins.length ∧ i ≤ 9 ∧ (few20 l ins = (((ins.take 9).drop i).all (fun v => fewB v.1 v.2 && decide (v.2.length ≤ 100)) && ((l.take 61).all (fun o => decide (o.2.size ≤ 120)) && (decide (l.length ≤ 60) && decide (ins.length ≤ 8)))))) (fun i => { t := pin [(1, .d (rV ins)), (2, .pt 0 0), (4, .d (bD false)), (5, .d (iD i))], N := 60, h := hpin [some (.st 24 [.d (rO l), .d (sD f)])], n := 1, lo := 0 }) (fun i h => by omega) ?_ 11 0 ⟨by omega, by omega, by omega, rfl⟩ _ ?_
  · rintro k i R ih ⟨hk, hi1, hi2, he⟩
    have second : ∀ (Q : Exit → St → Prop), True := fun _ => trivial
    by_cases hlt : i < ins.length ∧ i < 9
    · have t1 : decide ((i : Int) < (ins.length : Int)) = true := by rw [decide_eq_true_iff]; omega
      have t2 : decide ((i : Int) < 9) = true := by rw [decide_eq_true_iff]; omega
      have hx : ins[i]? = some ins[i] := List.getElem?_eq_getElem hlt.1
      have hlt' : i < (ins.take 9).length := by rw [List.length_take]; omega
      have fw := few_runs ins[i].1 ins[i].2 (hb _ (List.getElem_mem hlt.1)).1 (hb _ (List.getElem_mem hlt.1)).2
      have g1 : (ins.flatMap valC)[(i : Int).toNat * 2 + 1]? = some (rS ins[i].2 none) := (fm_get valC_len (i := (i : Int).toNat) (j := 1) (by rw [Int.toNat_natCast]; exact hx) (by decide)).trans rfl
      rw [List.drop_eq_getElem_cons hlt', List.all_cons, List.getElem_take] at he
      generalize ins[i] = v at *
      cases hf : fewB v.1 v.2 with
      | false =>
        rw [hf] at fw he
        rw [Bool.false_and, Bool.false_and, Bool.false_and] at he
        rw [he]
        ((conv => whnf); repeat (refine Gq ?_; (conv => whnf)))
        refine litE t1 ?_
        ((conv => whnf); repeat (refine Gq ?_; (conv => whnf)))
        refine litE t2 ?_
        ((conv => whnf); repeat (refine Gq ?_; (conv => whnf)))
        refine ⟨by omega, by omega, ?_⟩
        ((conv => whnf); repeat (refine Gq ?_; (conv => whnf)))
        refine fm_ld valC_len hx ?_
        ((conv => whnf); repeat (refine Gq ?_; (conv => whnf)))
        ((conv => whnf); (refine HfA fw ?_); ((conv => whnf); repeat (refine Gq ?_; (conv => whnf))))
        exact TeA
      | true =>
        rw [hf] at fw he
        rw [Bool.true_and] at he
        by_cases h100 : v.2.length ≤ 100
        · have t3 : decide (((v.2.length : Nat) : Int) > 100) = false := by rw [decide_eq_false_iff_not]; omega
          rw [decide_eq_true h100, Bool.true_and] at he
          ((conv => whnf); repeat (refine Gq ?_; (conv => whnf)))
          refine litE t1 ?_
          ((conv => whnf); repeat (refine Gq ?_; (conv => whnf)))
          refine litE t2 ?_
          ((conv => whnf); repeat (refine Gq ?_; (conv => whnf)))
          refine ⟨by omega, by omega, ?_⟩
          ((conv => whnf); repeat (refine Gq ?_; (conv => whnf)))
          refine fm_ld valC_len hx ?_
          ((conv => whnf); repeat (refine Gq ?_; (conv => whnf)))
          ((conv => whnf); (refine HfA fw ?_); ((conv => whnf); repeat (refine Gq ?_; (conv => whnf))))
          refine ⟨by omega, by omega, ?_⟩
          ((conv => whnf); repeat (refine Gq ?_; (conv => whnf)))
          refine ⟨_, g1, ?_⟩
          ((conv => whnf); repeat (refine Gq ?_; (conv => whnf)))
          refine litE t3 ?_
          ((conv => whnf); repeat (refine Gq ?_; (conv => whnf)))
          refine ih (i + 1) _ ⟨by omega, by omega, by omega, he⟩ ?_
          (refine Wk.to _ _ ?_ ?_ <;> (repeat' first | exact trivial | rfl | (refine And.intro ?_ ?_)))
          exact inE (i64n (by simp) (by omega))
        · have t3 : decide (((v.2.length : Nat) : Int) > 100) = true := by rw [decide_eq_true_iff]; omega
          rw [decide_eq_false h100, Bool.false_and, Bool.false_and] at he
          rw [he]
          ((conv => whnf); repeat (refine Gq ?_; (conv => whnf)))
          refine litE t1 ?_
          ((conv => whnf); repeat (refine Gq ?_; (conv => whnf)))
          refine litE t2 ?_
          ((conv => whnf); repeat (refine Gq ?_; (conv => whnf)))
          refine ⟨by omega, by omega, ?_⟩
          ((conv => whnf); repeat (refine Gq ?_; (conv => whnf)))
          refine fm_ld valC_len hx ?_
          ((conv => whnf); repeat (refine Gq ?_; (conv => whnf)))
          ((conv => whnf); (refine HfA fw ?_); ((conv => whnf); repeat (refine Gq ?_; (conv => whnf))))
          refine ⟨by omega, by omega, ?_⟩
          ((conv => whnf); repeat (refine Gq ?_; (conv => whnf)))
          refine ⟨_, g1, ?_⟩
          ((conv => whnf); repeat (refine Gq ?_; (conv => whnf)))
          refine litE t3 ?_
          ((conv => whnf); repeat (refine Gq ?_; (conv => whnf)))
          exact TeA
    · rw [List.drop_eq_nil_of_le (by rw [List.length_take]; omega), List.all_nil, Bool.true_and] at he
      rw [he]
      by_cases hlt1 : i < ins.length
      focus
        have t1 : decide ((i : Int) < (ins.length : Int)) = true := by rw [decide_eq_true_iff]; omega
        have t2 : decide ((i : Int) < 9) = false := by rw [decide_eq_false_iff_not]; omega
        ((conv => whnf); repeat (refine Gq ?_; (conv => whnf)))
        refine litE t1 ?_
        ((conv => whnf); repeat (refine Gq ?_; (conv => whnf)))
        refine litE t2 ?_
        ((conv => whnf); repeat (refine Gq ?_; (conv => whnf)))
      rotate_left
      focus
        have t1 : decide ((i : Int) < (ins.length : Int)) = false := by rw [decide_eq_false_iff_not]; omega
        ((conv => whnf); repeat (refine Gq ?_; (conv => whnf)))
        refine litE t1 ?_
        ((conv => whnf); repeat (refine Gq ?_; (conv => whnf)))
      all_goals
        refine loop_ind (fun k (i : Nat) => i + k = 63 ∧ i ≤ l.length ∧ i ≤ 61 ∧ (((l.take 61).all (fun o => decide (o.2.size ≤ 120)) && (decide (l.length ≤ 60) && decide (ins.length ≤ 8))) = (((l.take 61).drop i).all (fun o => decide (o.2.size ≤ 120)) && (decide (l.length ≤ 60) && decide (ins.length ≤ 8))))) (fun i => { t := pin [(1, .d (rV ins)), (2, .pt 0 0), (4, .d (bD false)), (6, .d (iD i))], N := 60, h := hpin [some (.st 24 [.d (rO l), .d (sD f)])], n := 1, lo := 0 }) (fun i h => by omega) ?_ 63 0 ⟨by omega, by omega, by omega, rfl⟩ _ ?_
        · rintro k i R ih ⟨hk, hi1, hi2, he⟩
          by_cases hlt : i < l.length ∧ i < 61
          · have t1 : decide ((i : Int) < (l.length : Int)) = true := by rw [decide_eq_true_iff]; omega
            have t2 : decide ((i : Int) < 61) = true := by rw [decide_eq_true_iff]; omega
            have hx : l[i]? = some l[i] := List.getElem?_eq_getElem hlt.1
            have hlt' : i < (l.take 61).length := by rw [List.length_take]; omega
            have g2 : (l.flatMap opC)[(i : Int).toNat * 3 + 2]? = some (sD l[i].2) := (fm_get opC_len (i := (i : Int).toNat) (j := 2) (by rw [Int.toNat_natCast]; exact hx) (by decide)).trans rfl
            rw [List.drop_eq_getElem_cons hlt', List.all_cons, List.getElem_take] at he
            generalize l[i] = o at *
            by_cases h120 : o.2.size ≤ 120
            · have t3 : decide (((o.2.size : Nat) : Int) > 120) = false := by rw [decide_eq_false_iff_not]; omega
              rw [decide_eq_true h120, Bool.true_and] at he
              ((conv => whnf); repeat (refine Gq ?_; (conv => whnf)))
              refine litE t1 ?_
              ((conv => whnf); repeat (refine Gq ?_; (conv => whnf)))
              refine litE t2 ?_
              ((conv => whnf); repeat (refine Gq ?_; (conv => whnf)))
              refine ⟨by omega, by omega, ?_⟩
              ((conv => whnf); repeat (refine Gq ?_; (conv => whnf)))
              refine ⟨_, g2, ?_⟩
              ((conv => whnf); repeat (refine Gq ?_; (conv => whnf)))
              refine litE t3 ?_
              ((conv => whnf); repeat (refine Gq ?_; (conv => whnf)))
              refine ih (i + 1) _ ⟨by omega, by omega, by omega, he⟩ ?_
              (refine Wk.to _ _ ?_ ?_ <;> (repeat' first | exact trivial | rfl | (refine And.intro ?_ ?_)))
              exact inE (i64n (by simp) (by omega))
            · have t3 : decide (((o.2.size : Nat) : Int) > 120) = true := by rw [decide_eq_true_iff]; omega
              rw [decide_eq_false h120, Bool.false_and, Bool.false_and] at he
              rw [he]
              ((conv => whnf); repeat (refine Gq ?_; (conv => whnf)))
              refine litE t1 ?_
              ((conv => whnf); repeat (refine Gq ?_; (conv => whnf)))
              refine litE t2 ?_
              ((conv => whnf); repeat (refine Gq ?_; (conv => whnf)))
              refine ⟨by omega, by omega, ?_⟩
              ((conv => whnf); repeat (refine Gq ?_; (conv => whnf)))
              refine ⟨_, g2, ?_⟩
              ((conv => whnf); repeat (refine Gq ?_; (conv => whnf)))
              refine litE t3 ?_
              ((conv => whnf); repeat (refine Gq ?_; (conv => whnf)))
              exact TeA
          · rw [List.drop_eq_nil_of_le (by rw [List.length_take]; omega), List.all_nil, Bool.true_and] at he
            rw [he]
            have u1 : decide (((l.length : Nat) : Int) ≤ 60) = decide (l.length ≤ 60) := by rw [decide_eq_decide]; omega
            have u2 : decide (((ins.length : Nat) : Int) ≤ 8) = decide (ins.length ≤ 8) := by rw [decide_eq_decide]; omega
            by_cases hlt1 : i < l.length
            focus
              have t1 : decide ((i : Int) < (l.length : Int)) = true := by rw [decide_eq_true_iff]; omega
              have t2 : decide ((i : Int) < 61) = false := by rw [decide_eq_false_iff_not]; omega
              ((conv => whnf); repeat (refine Gq ?_; (conv => whnf)))
              refine litE t1 ?_
              ((conv => whnf); repeat (refine Gq ?_; (conv => whnf)))
              refine litE t2 ?_
              ((conv => whnf); repeat (refine Gq ?_; (conv => whnf)))
            rotate_left
            focus
              have t1 : decide ((i : Int) < (l.length : Int)) = false := by rw [decide_eq_false_iff_not]; omega
              ((conv => whnf); repeat (refine Gq ?_; (conv => whnf)))
              refine litE t1 ?_
              ((conv => whnf); repeat (refine Gq ?_; (conv => whnf)))
            all_goals
              cases h60 : decide (l.length ≤ 60) with
              | false =>
                rw [h60] at u1
                refine litE u1 ?_
                ((conv => whnf); repeat (refine Gq ?_; (conv => whnf)))
                exact TeA
              | true =>
                rw [h60] at u1
                refine litE u1 ?_
                ((conv => whnf); repeat (refine Gq ?_; (conv => whnf)))
                refine litE u2 ?_
                ((conv => whnf); repeat (refine Gq ?_; (conv => whnf)))
                exact TeA
        · (refine Wk.to _ _ ?_ ?_ <;> (repeat' first | exact trivial | rfl | (refine And.intro ?_ ?_)))
  · (refine Wk.to _ _ ?_ ?_ <;> (repeat' first | exact trivial | rfl | (refine And.intro ?_ ?_)))
end Go.Proofs.YtkhgpnbhnipndaaGreatDoor.Am
end
section
/- The statements about frames: the example. -/
namespace Go.Proofs.YtkhgpnbhnipndaaGreatDoor.Am
open Go Go.RowKit Go.Proofs.YtkhgpnbhnipndaaGreatDoor.Sh
open Go.Proofs.YtkhgpnbhnipndaaGreatDoor.Nm (numS)
set_option linter.unusedVariables false
set_option linter.unusedSimpArgs false
set_option maxRecDepth 100000
set_option maxHeartbeats 8000000
def shO : List OpL := [((1, 0), ByteArray.empty), ((1, 0), ByteArray.empty), ((2, 0), ⟨#[49]⟩), ((3, 0), ⟨#[43]⟩), ((3, 0), ⟨#[42]⟩)]
def shI : List ValL := [([3], [⟨#[49]⟩, ⟨#[50]⟩, ⟨#[51]⟩])]
def shF (k : Int) (out : List ByteArray) : FrL := ⟨shO, ByteArray.empty, shI, 3, k, out, ByteArray.empty⟩
theorem sh_start : startF shO ByteArray.empty shI = (shF 0 [], 0) := by kernel_rfl
theorem sh_step1 : stepF (shF 0 []) = (shF 1 [⟨#[50]⟩], 0) := by kernel_rfl
theorem sh_step2 : stepF (shF 1 [⟨#[50]⟩]) = (shF 2 [⟨#[50]⟩, ⟨#[54]⟩], 0) := by kernel_rfl
theorem fshown_runs : Runs Tryz.prog 11 [] (bD true) := by
  have hi := ints_runs [1, 2, 3] (by decide) (by decide)
  have hi : Runs Tryz.prog 44 [rI [1, 2, 3] none] (vD [3] [⟨#[49]⟩, ⟨#[50]⟩, ⟨#[51]⟩] none none) := by
    rw [show ([1, 2, 3] : List Int).map numS = [⟨#[49]⟩, ⟨#[50]⟩, ⟨#[51]⟩] by kernel_rfl] at hi
    exact hi
  have st := start_runs shO ByteArray.empty shI (by decide) (by decide) (by decide)
  have ok := (start_ok (ops := shO) (fold := ByteArray.empty) (ins := shI) (by decide) (by decide) (by rw [sh_start])).1
  rw [sh_start] at st ok
  obtain ⟨s1, ok1, _⟩ := step_full ok
  rw [sh_step1] at s1 ok1
  obtain ⟨s2, ok2, _⟩ := step_full ok1
  rw [sh_step2] at s2 ok2
  have d := done_runs (shF 2 [⟨#[50]⟩, ⟨#[54]⟩])
  rw [show decide ((shF 2 [⟨#[50]⟩, ⟨#[54]⟩]).n ≤ (shF 2 [⟨#[50]⟩, ⟨#[54]⟩]).k) = false by decide] at d
  refine Runs.wp Am.hT Am.hm Tryz.func11 rfl (by decide) ⟨[(2, .alt 0 (.alt 1 (.alt 2 (.alt 3 (.alt 4 (.first 5 (.first 6 (.first 7 (.alt 8 (.alt 9 (.first 10 .done) .nil) .nil)))) (.alt 8 (.alt 4 (.first 5 (.first 6 (.first 7 (.alt 9 (.first 10 .done) .nil)))) .nil) .nil)) (.alt 8 (.alt 3 (.alt 4 (.first 5 (.first 6 (.first 7 (.alt 9 (.first 10 .done) .nil)))) .nil) .nil) .nil)) (.alt 8 (.alt 2 (.alt 3 (.alt 4 (.first 5 (.first 6 (.first 7 (.alt 9 (.first 10 .done) .nil)))) .nil) .nil) .nil) .nil)) (.alt 8 (.alt 1 (.alt 2 (.alt 3 (.alt 4 (.first 5 (.first 6 (.first 7 (.alt 9 (.first 10 .done) .nil)))) .nil) .nil) .nil) .nil) .nil)) (.alt 1 (.alt 0 (.alt 2 (.alt 3 (.alt 4 (.first 5 (.first 6 (.first 7 (.alt 8 (.alt 9 (.first 10 .done) .nil) .nil)))) (.alt 8 (.alt 4 (.first 5 (.first 6 (.first 7 (.alt 9 (.first 10 .done) .nil)))) .nil) .nil)) (.alt 8 (.alt 3 (.alt 4 (.first 5 (.first 6 (.first 7 (.alt 9 (.first 10 .done) .nil)))) .nil) .nil) .nil)) (.alt 8 (.alt 2 (.alt 3 (.alt 4 (.first 5 (.first 6 (.first 7 (.alt 9 (.first 10 .done) .nil)))) .nil) .nil) .nil) .nil)) (.alt 2 (.ld2 0 [4, 5, 6, 7, 9, 10] [] (.alt 3 (.alt 4 (.first 5 (.first 6 (.first 7 (.alt 8 (.alt 9 (.first 10 .done) .nil) .nil)))) (.alt 8 (.alt 4 (.first 5 (.first 6 (.first 7 (.alt 9 (.first 10 .done) .nil)))) .nil) .nil)) (.alt 8 (.alt 3 (.alt 4 (.first 5 (.first 6 (.first 7 (.alt 9 (.first 10 .done) .nil)))) .nil) .nil) .nil))) (.alt 8 (.alt 0 (.alt 2 (.alt 3 (.alt 4 (.first 5 (.first 6 (.first 7 (.alt 9 (.first 10 .done) .nil)))) .nil) .nil) .nil) (.alt 2 (.ld2 0 [4, 5, 6, 7, 9, 10] [] (.alt 3 (.alt 4 (.first 5 (.first 6 (.first 7 (.alt 9 (.first 10 .done) .nil)))) .nil) .nil)) .nil)) .nil))) (.alt 8 (.alt 0 (.alt 1 (.alt 2 (.alt 3 (.alt 4 (.first 5 (.first 6 (.first 7 (.alt 9 (.first 10 .done) .nil)))) .nil) .nil) .nil) .nil) (.alt 1 (.alt 0 (.alt 2 (.alt 3 (.alt 4 (.first 5 (.first 6 (.first 7 (.alt 9 (.first 10 .done) .nil)))) .nil) .nil) .nil) (.alt 2 (.ld2 0 [4, 5, 6, 7, 9, 10] [] (.alt 3 (.alt 4 (.first 5 (.first 6 (.first 7 (.alt 9 (.first 10 .done) .nil)))) .nil) .nil)) .nil)) .nil)) .nil)))], [0, 1, 2, 3, 4, 5, 6, 7], 78⟩ ?_; ((conv => whnf); repeat (refine Gq ?_; (conv => whnf)))
  (refine And.intro (by decide +kernel) ?_; apply Exists.intro; apply And.intro; focus ((repeat' ((conv => whnf); first | exact trivial | refine Wo ?_ | refine Lt (by decide) ?_ | refine Lf (by decide) ?_ | refine Cl (by decide) ?_ | refine Cr (by decide) ?_ | refine Both.mk ?_ ?_ | (first | exact Wk.frc (keep := [0, 1, 2, 3, 4, 5, 6, 7]) (N := 78) (by (conv => whnf); first | done | exact rfl) | ((refine Wk.pin [0, 1, 2, 4, 3] _ _ ?_ ?_ rfl rfl (by decide) rfl rfl <;> (repeat' first | exact trivial | rfl | (refine And.intro ?_ ?_))); done) | ((refine Wk.pin [0, 1, 3, 4, 2] _ _ ?_ ?_ rfl rfl (by decide) rfl rfl <;> (repeat' first | exact trivial | rfl | (refine And.intro ?_ ?_))); done) | (refine HrA hi ?_) | (refine HrA st ?_)) | refine ⟨_, rfl, ?_⟩ | refine Mi rfl ?_ | (refine And.intro ?_ ?_))); all_goals (first | decide | rfl | assumption | omega | (dsimp only; omega) | (unfold maxLen; omega) | ((try dsimp only [maxLen]); simp only [List.length_append, List.length_cons, List.length_nil, List.length_map, List.length_range, List.length_set, List.length_replicate]; omega) | ((try dsimp only [maxLen]); simp only [IntKind.wrap_i64, IntKind.wrap_u64, List.length_append, List.length_cons, List.length_nil, List.length_map, List.length_range, List.length_set, List.length_replicate]; omega) | ((try dsimp only [maxLen]); simp only [List.length_append, List.length_cons, List.length_nil, List.length_map, List.length_range, List.length_set, List.length_replicate] at *; omega))))
  ((conv => whnf); repeat (refine Gq ?_; (conv => whnf)))
  ((conv => whnf); (refine HrA s1 ?_); ((conv => whnf); repeat (refine Gq ?_; (conv => whnf))))
  ((conv => whnf); (refine HrA s2 ?_); ((conv => whnf); repeat (refine Gq ?_; (conv => whnf))))
  ((conv => whnf); repeat ((first | refine Wo ?_ | refine Lt (by decide) ?_ | refine Lf (by decide) ?_ | refine Cl (by decide) ?_ | refine Cr (by decide) ?_ | refine ⟨_, rfl, ?_⟩ | refine Mi rfl ?_ | (refine And.intro ArA ?_)); (conv => whnf)))
  refine litE (c := true) (by kernel_rfl) ?_
  ((conv => whnf); repeat ((first | refine Wo ?_ | refine Lt (by decide) ?_ | refine Lf (by decide) ?_ | refine Cl (by decide) ?_ | refine Cr (by decide) ?_ | refine ⟨_, rfl, ?_⟩ | refine Mi rfl ?_ | (refine And.intro ArA ?_)); (conv => whnf)))
  refine litE (c := true) (by kernel_rfl) ?_
  ((conv => whnf); repeat ((first | refine Wo ?_ | refine Lt (by decide) ?_ | refine Lf (by decide) ?_ | refine Cl (by decide) ?_ | refine Cr (by decide) ?_ | refine ⟨_, rfl, ?_⟩ | refine Mi rfl ?_ | (refine And.intro ArA ?_)); (conv => whnf)))
  ((conv => whnf); (refine HfA d ?_); ((conv => whnf); repeat (refine Gq ?_; (conv => whnf))))
  exact TeA
end Go.Proofs.YtkhgpnbhnipndaaGreatDoor.Am
end
section
/- The document's sameness; FrameGrows, walked. -/
namespace Go.Proofs.YtkhgpnbhnipndaaGreatDoor.Am
open Go Go.RowKit Go.Proofs.YtkhgpnbhnipndaaGreatDoor.Sh
open Go.Proofs.YtkhgpnbhnipndaaGreatDoor.Nm (numS)
set_option linter.unusedVariables false
set_option linter.unusedSimpArgs false
set_option maxRecDepth 100000
set_option maxHeartbeats 8000000
theorem rsameI_runs {a b : List Int} (ha : a.length ≤ 9223372036854775806) : Runs Tryz.prog 61 [rI a none, rI b none] (bD (decide (a = b))) := by
  by_cases hab : a.length = b.length
  · have t0 : (!(((a.length : Nat) : Int) == ((b.length : Nat) : Int))) = false := by rw [hab]; simp
    refine Runs.wp Am.hT Am.hm Tryz.func61 rfl (by decide) ⟨[(6, .first 0 (.first 1 (.first 2 (.first 4 (.first 5 (.first 6 (.load 3 [8] (.load 7 [8] (.first 8 .done)))))))))], [0, 1, 4, 5, 10, 14, 25], 26⟩ ?_; ((conv => whnf); repeat (refine Gq ?_; (conv => whnf)))
    refine litE t0 ?_
    ((conv => whnf); repeat (refine Gq ?_; (conv => whnf)))
    refine loop_ind (fun k (i : Nat) => i + k = a.length + 1 ∧ i ≤ a.length ∧ a.take i = b.take i) (fun i => { t := pin [(0, .d (rI a none)), (1, .d (rI b none)), (5, .d (iD i))], N := 26, h := hpin [], n := 0, lo := 0 }) (fun i h => by omega) ?_ (a.length + 1) 0 ⟨by omega, by omega, rfl⟩ _ ?_
    · rintro k i R ih ⟨hk, hi, he⟩
      by_cases hlt : i < a.length
      · have hlt2 : i < b.length := by omega
        have t1 : decide ((i : Int) < (a.length : Int)) = true := by simpa using hlt
        have hx : (a.map iD)[(i : Int).toNat * 1]? = some (iD a[i]) := ixm (j := i) (by simp [hlt]) (by simp)
        have hy : (b.map iD)[(i : Int).toNat * 1]? = some (iD b[i]) := ixm (j := i) (by simp [hlt2]) (by simp)
        by_cases hp : a[i] = b[i]
        · have hq : (!(a[i] == b[i])) = false := by simp [hp]
          ((conv => whnf); repeat (refine Gq ?_; (conv => whnf)))
          refine litE t1 ?_
          ((conv => whnf); repeat (refine Gq ?_; (conv => whnf)))
          (refine And.intro (by decide +kernel) ?_; apply Exists.intro; apply And.intro; focus ((repeat' ((conv => whnf); first | exact trivial | refine Wo ?_ | refine Lt (by decide) ?_ | refine Lf (by decide) ?_ | refine Cl (by decide) ?_ | refine Cr (by decide) ?_ | refine Both.mk ?_ ?_ | (first | exact Wk.frc (keep := [0, 1, 4, 5, 10, 14, 25]) (N := 26) (by (conv => whnf); first | done | exact rfl) | refine And.intro (show (0 : Int) ≤ (i : Int) by omega) ?_ | refine And.intro (show (i : Int) < (a.length : Int) by omega) ?_ | refine And.intro (show (i : Int) < (b.length : Int) by omega) ?_ | refine ⟨_, hx, ?_⟩ | refine ⟨_, hy, ?_⟩ | refine litE hq ?_) | refine ⟨_, rfl, ?_⟩ | refine Mi rfl ?_ | (refine And.intro ?_ ?_))); all_goals (first | decide | rfl | assumption | omega | (dsimp only; omega) | (unfold maxLen; omega) | ((try dsimp only [maxLen]); simp only [List.length_append, List.length_cons, List.length_nil, List.length_map, List.length_range, List.length_set, List.length_replicate]; omega) | ((try dsimp only [maxLen]); simp only [IntKind.wrap_i64, IntKind.wrap_u64, List.length_append, List.length_cons, List.length_nil, List.length_map, List.length_range, List.length_set, List.length_replicate]; omega) | ((try dsimp only [maxLen]); simp only [List.length_append, List.length_cons, List.length_nil, List.length_map, List.length_range, List.length_set, List.length_replicate] at *; omega))))
          ((conv => whnf); repeat (refine Gq ?_; (conv => whnf)))
          refine ih (i + 1) _ ⟨by omega, by omega, take_eq_snoc hlt hlt2 he hp⟩ ?_
          (refine Wk.pin [] _ _ ?_ ?_ rfl rfl (by decide) rfl rfl <;> (repeat' first | exact trivial | rfl | (refine And.intro ?_ ?_)))
          exact inE (i64n (by simp) (by omega))
        · have hq : (!(a[i] == b[i])) = true := by simp [hp]
          rw [decide_eq_false (show ¬ a = b by rintro rfl; exact hp rfl)]
          ((conv => whnf); repeat (refine Gq ?_; (conv => whnf)))
          refine litE t1 ?_
          ((conv => whnf); repeat (refine Gq ?_; (conv => whnf)))
          (refine And.intro (by decide +kernel) ?_; apply Exists.intro; apply And.intro; focus ((repeat' ((conv => whnf); first | exact trivial | refine Wo ?_ | refine Lt (by decide) ?_ | refine Lf (by decide) ?_ | refine Cl (by decide) ?_ | refine Cr (by decide) ?_ | refine Both.mk ?_ ?_ | (first | exact Wk.frc (keep := [0, 1, 4, 5, 10, 14, 25]) (N := 26) (by (conv => whnf); first | done | exact rfl) | refine And.intro (show (0 : Int) ≤ (i : Int) by omega) ?_ | refine And.intro (show (i : Int) < (a.length : Int) by omega) ?_ | refine And.intro (show (i : Int) < (b.length : Int) by omega) ?_ | refine ⟨_, hx, ?_⟩ | refine ⟨_, hy, ?_⟩ | refine litE hq ?_) | refine ⟨_, rfl, ?_⟩ | refine Mi rfl ?_ | (refine And.intro ?_ ?_))); all_goals (first | decide | rfl | assumption | omega | (dsimp only; omega) | (unfold maxLen; omega) | ((try dsimp only [maxLen]); simp only [List.length_append, List.length_cons, List.length_nil, List.length_map, List.length_range, List.length_set, List.length_replicate]; omega) | ((try dsimp only [maxLen]); simp only [IntKind.wrap_i64, IntKind.wrap_u64, List.length_append, List.length_cons, List.length_nil, List.length_map, List.length_range, List.length_set, List.length_replicate]; omega) | ((try dsimp only [maxLen]); simp only [List.length_append, List.length_cons, List.length_nil, List.length_map, List.length_range, List.length_set, List.length_replicate] at *; omega))))
          ((conv => whnf); repeat (refine Gq ?_; (conv => whnf)))
          exact TeA
      · have t1 : decide ((i : Int) < (a.length : Int)) = false := by simpa using hlt
        have : a = b := by rwa [List.take_of_length_le (by omega), List.take_of_length_le (by omega)] at he
        rw [decide_eq_true this]
        ((conv => whnf); repeat (refine Gq ?_; (conv => whnf)))
        refine litE t1 ?_
        ((conv => whnf); repeat (refine Gq ?_; (conv => whnf)))
        exact TeA
    · (refine Wk.to _ _ ?_ ?_ <;> (repeat' first | exact trivial | rfl | (refine And.intro ?_ ?_)))
  · have t0 : (!(((a.length : Nat) : Int) == ((b.length : Nat) : Int))) = true := by simp; omega
    rw [decide_eq_false (fun h => hab (by rw [h]))]
    refine Runs.wp Am.hT Am.hm Tryz.func61 rfl (by decide) ⟨[(6, .first 0 (.first 1 (.first 2 (.first 4 (.first 5 (.first 6 (.load 3 [8] (.load 7 [8] (.first 8 .done)))))))))], [0, 1, 4, 5, 10, 14, 25], 26⟩ ?_; ((conv => whnf); repeat (refine Gq ?_; (conv => whnf)))
    refine litE t0 ?_
    ((conv => whnf); repeat (refine Gq ?_; (conv => whnf)))
    exact TeA
theorem rsameV_runs (s s2 : List Int) (a b : List ByteArray) (hs : s.length ≤ 9223372036854775806) (ha : a.length ≤ 9223372036854775806) : Runs Tryz.prog 24 [vD s a none none, vD s2 b none none] (bD (decide (s = s2 ∧ a = b))) := by
  have h1 := rsameI_runs (a := s) (b := s2) hs
  by_cases hss : s = s2
  · rw [decide_eq_true hss] at h1
    rw [show decide (s = s2 ∧ a = b) = decide (a = b) by rw [decide_eq_decide]; simp [hss]]
    by_cases hab : a.length = b.length
    · have t0 : (!(((a.length : Nat) : Int) == ((b.length : Nat) : Int))) = false := by rw [hab]; simp
      refine Runs.wp Am.hT Am.hm Tryz.func24 rfl (by decide) ⟨[(6, .first 0 (.first 2 (.first 5 (.first 7 (.load 1 [3, 4, 10] (.first 3 (.load 4 [10] (.load 6 [8, 9, 10] (.first 8 (.load 9 [10] (.first 10 .done)))))))))))], [0, 1, 2, 3, 4, 5, 20, 25, 38], 39⟩ ?_; ((conv => whnf); repeat (refine Gq ?_; (conv => whnf)))
      ((conv => whnf); (refine HfA h1 ?_); ((conv => whnf); repeat (refine Gq ?_; (conv => whnf))))
      refine litE t0 ?_
      ((conv => whnf); repeat (refine Gq ?_; (conv => whnf)))
      refine loop_ind (fun k (i : Nat) => i + k = a.length + 1 ∧ i ≤ a.length ∧ a.take i = b.take i) (fun i => { t := pin [(2, .pt 0 0), (3, .pt 1 0), (4, .d (bD false)), (5, .d (iD i))], N := 39, h := hpin [some (.st 47 [.d (rI s none), .d (rS a none)]), some (.st 47 [.d (rI s2 none), .d (rS b none)])], n := 2, lo := 0 }) (fun i h => by omega) ?_ (a.length + 1) 0 ⟨by omega, by omega, rfl⟩ _ ?_
      · rintro k i R ih ⟨hk, hi, he⟩
        by_cases hlt : i < a.length
        · have hlt2 : i < b.length := by omega
          have t1 : decide ((i : Int) < (a.length : Int)) = true := by simpa using hlt
          have hx : (a.map sD)[(i : Int).toNat * 1]? = some (sD a[i]) := ixm (j := i) (by simp [hlt]) (by simp)
          have hy : (b.map sD)[(i : Int).toNat * 1]? = some (sD b[i]) := ixm (j := i) (by simp [hlt2]) (by simp)
          have hq : (!(a[i].toList == b[i].toList)) = !decide (a[i] = b[i]) := by rw [beqB]
          by_cases hp : a[i] = b[i]
          · rw [decide_eq_true hp] at hq
            ((conv => whnf); repeat (refine Gq ?_; (conv => whnf)))
            refine litE t1 ?_
            ((conv => whnf); repeat (refine Gq ?_; (conv => whnf)))
            (refine And.intro (by decide +kernel) ?_; apply Exists.intro; apply And.intro; focus ((repeat' ((conv => whnf); first | exact trivial | refine Wo ?_ | refine Lt (by decide) ?_ | refine Lf (by decide) ?_ | refine Cl (by decide) ?_ | refine Cr (by decide) ?_ | refine Both.mk ?_ ?_ | (first | exact Wk.frc (keep := [0, 1, 2, 3, 4, 5, 20, 25, 38]) (N := 39) (by (conv => whnf); first | done | exact rfl) | refine And.intro (show (0 : Int) ≤ (i : Int) by omega) ?_ | refine And.intro (show (i : Int) < (a.length : Int) by omega) ?_ | refine And.intro (show (i : Int) < (b.length : Int) by omega) ?_ | refine ⟨_, hx, ?_⟩ | refine ⟨_, hy, ?_⟩ | refine litE hq ?_) | refine ⟨_, rfl, ?_⟩ | refine Mi rfl ?_ | (refine And.intro ?_ ?_))); all_goals (first | decide | rfl | assumption | omega | (dsimp only; omega) | (unfold maxLen; omega) | ((try dsimp only [maxLen]); simp only [List.length_append, List.length_cons, List.length_nil, List.length_map, List.length_range, List.length_set, List.length_replicate]; omega) | ((try dsimp only [maxLen]); simp only [IntKind.wrap_i64, IntKind.wrap_u64, List.length_append, List.length_cons, List.length_nil, List.length_map, List.length_range, List.length_set, List.length_replicate]; omega) | ((try dsimp only [maxLen]); simp only [List.length_append, List.length_cons, List.length_nil, List.length_map, List.length_range, List.length_set, List.length_replicate] at *; omega))))
            ((conv => whnf); repeat (refine Gq ?_; (conv => whnf)))
            refine ih (i + 1) _ ⟨by omega, by omega, take_eq_snoc hlt hlt2 he hp⟩ ?_
            (refine Wk.pin [0, 1] _ _ ?_ ?_ rfl rfl (by decide) rfl rfl <;> (repeat' first | exact trivial | rfl | (refine And.intro ?_ ?_)))
            exact inE (i64n (by simp) (by omega))
          · rw [decide_eq_false hp] at hq
            rw [decide_eq_false (show ¬ a = b by rintro rfl; exact hp rfl)]
            ((conv => whnf); repeat (refine Gq ?_; (conv => whnf)))
            refine litE t1 ?_
            ((conv => whnf); repeat (refine Gq ?_; (conv => whnf)))
            (refine And.intro (by decide +kernel) ?_; apply Exists.intro; apply And.intro; focus ((repeat' ((conv => whnf); first | exact trivial | refine Wo ?_ | refine Lt (by decide) ?_ | refine Lf (by decide) ?_ | refine Cl (by decide) ?_ | refine Cr (by decide) ?_ | refine Both.mk ?_ ?_ | (first | exact Wk.frc (keep := [0, 1, 2, 3, 4, 5, 20, 25, 38]) (N := 39) (by (conv => whnf); first | done | exact rfl) | refine And.intro (show (0 : Int) ≤ (i : Int) by omega) ?_ | refine And.intro (show (i : Int) < (a.length : Int) by omega) ?_ | refine And.intro (show (i : Int) < (b.length : Int) by omega) ?_ | refine ⟨_, hx, ?_⟩ | refine ⟨_, hy, ?_⟩ | refine litE hq ?_) | refine ⟨_, rfl, ?_⟩ | refine Mi rfl ?_ | (refine And.intro ?_ ?_))); all_goals (first | decide | rfl | assumption | omega | (dsimp only; omega) | (unfold maxLen; omega) | ((try dsimp only [maxLen]); simp only [List.length_append, List.length_cons, List.length_nil, List.length_map, List.length_range, List.length_set, List.length_replicate]; omega) | ((try dsimp only [maxLen]); simp only [IntKind.wrap_i64, IntKind.wrap_u64, List.length_append, List.length_cons, List.length_nil, List.length_map, List.length_range, List.length_set, List.length_replicate]; omega) | ((try dsimp only [maxLen]); simp only [List.length_append, List.length_cons, List.length_nil, List.length_map, List.length_range, List.length_set, List.length_replicate] at *; omega))))
            ((conv => whnf); repeat (refine Gq ?_; (conv => whnf)))
            exact TeA
        · have t1 : decide ((i : Int) < (a.length : Int)) = false := by simpa using hlt
          have : a = b := by rwa [List.take_of_length_le (by omega), List.take_of_length_le (by omega)] at he
          rw [decide_eq_true this]
          ((conv => whnf); repeat (refine Gq ?_; (conv => whnf)))
          refine litE t1 ?_
          ((conv => whnf); repeat (refine Gq ?_; (conv => whnf)))
          exact TeA
      · (refine Wk.to _ _ ?_ ?_ <;> (repeat' first | exact trivial | rfl | (refine And.intro ?_ ?_)))
    · have t0 : (!(((a.length : Nat) : Int) == ((b.length : Nat) : Int))) = true := by simp; omega
      rw [decide_eq_false (fun h => hab (by rw [h]))]
      refine Runs.wp Am.hT Am.hm Tryz.func24 rfl (by decide) ⟨[(6, .first 0 (.first 2 (.first 5 (.first 7 (.load 1 [3, 4, 10] (.first 3 (.load 4 [10] (.load 6 [8, 9, 10] (.first 8 (.load 9 [10] (.first 10 .done)))))))))))], [0, 1, 2, 3, 4, 5, 20, 25, 38], 39⟩ ?_; ((conv => whnf); repeat (refine Gq ?_; (conv => whnf)))
      ((conv => whnf); (refine HfA h1 ?_); ((conv => whnf); repeat (refine Gq ?_; (conv => whnf))))
      refine litE t0 ?_
      ((conv => whnf); repeat (refine Gq ?_; (conv => whnf)))
      exact TeA
  · rw [decide_eq_false hss] at h1
    rw [show decide (s = s2 ∧ a = b) = false by simp [hss]]
    refine Runs.wp Am.hT Am.hm Tryz.func24 rfl (by decide) ⟨[(6, .first 0 (.first 2 (.first 5 (.first 7 (.load 1 [3, 4, 10] (.first 3 (.load 4 [10] (.load 6 [8, 9, 10] (.first 8 (.load 9 [10] (.first 10 .done)))))))))))], [0, 1, 2, 3, 4, 5, 20, 25, 38], 39⟩ ?_; ((conv => whnf); repeat (refine Gq ?_; (conv => whnf)))
    ((conv => whnf); (refine HfA h1 ?_); ((conv => whnf); repeat (refine Gq ?_; (conv => whnf))))
    exact TeA
end Go.Proofs.YtkhgpnbhnipndaaGreatDoor.Am
end
section
/- The document's shapes. -/
namespace Go.Proofs.YtkhgpnbhnipndaaGreatDoor.Am
open Go Go.Lib Go.RowKit Go.Proofs.YtkhgpnbhnipndaaGreatDoor.Nm Go.Proofs.YtkhgpnbhnipndaaGreatDoorW.PrintWords Go.Proofs.YtkhgpnbhnipndaaGreatDoor Go.Proofs.YtkhgpnbhnipndaaGreatDoor.Sh
set_option linter.unusedVariables false
set_option linter.unusedSimpArgs false
set_option maxRecDepth 100000
set_option maxHeartbeats 8000000
theorem rpr_app (a b : List Int) : pr (a ++ b) = pr a * pr b := by
  induction a with
  | nil => simp [pr]
  | cons x a ih => simp [pr, ih, Int.mul_assoc]
theorem any_take {s : List Int} {p : Int → Bool} {i : Nat} (h : i < s.length) : (s.take (i + 1)).any p = ((s.take i).any p || p s[i]) := by
  rw [List.take_add_one, List.getElem?_eq_getElem h, List.any_append]
  simp
theorem rsz_runs (s : List Int) (hs : s.length ≤ 1000000) : Runs Tryz.prog 86 [rI s none] (.tup [iD (sizeS s).1, iD (sizeS s).2]) := by
  unfold sizeS
  by_cases h3 : 3 < s.length
  · have t1 : decide (((s.length : Nat) : Int) > 3) = true := by rw [decide_eq_true_iff]; omega
    rw [if_pos h3]
    refine Runs.wp Am.hT Am.hm Tryz.func86 rfl (by decide) ⟨[], [0, 2, 3, 4, 5, 6, 7, 8, 11, 15, 22, 34, 41, 42, 46, 62], 70⟩ ?_; ((conv => whnf); repeat (refine Gq ?_; (conv => whnf)))
    refine litE t1 ?_
    ((conv => whnf); repeat (refine Gq ?_; (conv => whnf)))
    exact TeA
  · have t1 : decide (((s.length : Nat) : Int) > 3) = false := by rw [decide_eq_false_iff_not]; omega
    rw [if_neg h3]
    refine Runs.wp Am.hT Am.hm Tryz.func86 rfl (by decide) ⟨[], [0, 2, 3, 4, 5, 6, 7, 8, 11, 15, 22, 34, 41, 42, 46, 62], 70⟩ ?_; ((conv => whnf); repeat (refine Gq ?_; (conv => whnf)))
    refine litE t1 ?_
    ((conv => whnf); repeat (refine Gq ?_; (conv => whnf)))
    refine loop_ind (fun k (i : Nat) => i + k = s.length + 1 ∧ i ≤ s.length ∧ (s.take i).any (fun x => decide (x < 0)) = false) (fun i => { t := pin [(0, .d (rI s none)), (4, .d (bD ((s.take i).any (fun x => x == 0)))), (5, .d (iD i))], N := 70, h := hpin [], n := 0, lo := 0 }) (fun i h => by omega) ?_ (s.length + 1) 0 ⟨by omega, by omega, rfl⟩ _ ?_
    · rintro k i R ih ⟨hk, hi, ha⟩
      by_cases hlt : i < s.length
      · have t2 : decide ((i : Int) < (s.length : Int)) = true := by rw [decide_eq_true_iff]; omega
        have gi : (s.map iD)[(i : Int).toNat * 1]? = some (iD s[i]) := ixm (j := i) (List.getElem?_eq_getElem hlt) (by simp)
        by_cases hn : s[i] < 0
        · have t3 : decide (s[i] < 0) = true := decide_eq_true hn
          rw [if_pos (show s.any (fun x => decide (x < 0)) = true by rw [List.any_eq_true]; exact ⟨_, List.getElem_mem hlt, t3⟩)]
          ((conv => whnf); repeat (refine Gq ?_; (conv => whnf)))
          refine litE t2 ?_
          ((conv => whnf); repeat (refine Gq ?_; (conv => whnf)))
          refine ⟨by omega, by omega, ?_⟩
          ((conv => whnf); repeat (refine Gq ?_; (conv => whnf)))
          refine ⟨_, gi, ?_⟩
          ((conv => whnf); repeat (refine Gq ?_; (conv => whnf)))
          refine litE t3 ?_
          ((conv => whnf); repeat (refine Gq ?_; (conv => whnf)))
          exact TeA
        · have t3 : decide (s[i] < 0) = false := decide_eq_false hn
          have hz := any_take (p := fun x => x == 0) hlt
          have hz2 := any_take (p := fun x => decide (x < 0)) hlt
          cases hb : (s.take i).any (fun x => x == 0) with
          | true =>
            rw [hb, Bool.true_or] at hz
            ((conv => whnf); repeat (refine Gq ?_; (conv => whnf)))
            refine litE t2 ?_
            ((conv => whnf); repeat (refine Gq ?_; (conv => whnf)))
            refine ⟨by omega, by omega, ?_⟩
            ((conv => whnf); repeat (refine Gq ?_; (conv => whnf)))
            refine ⟨_, gi, ?_⟩
            ((conv => whnf); repeat (refine Gq ?_; (conv => whnf)))
            refine litE t3 ?_
            ((conv => whnf); repeat (refine Gq ?_; (conv => whnf)))
            refine ih (i + 1) _ ⟨by omega, by omega, by rw [hz2, ha, t3]; rfl⟩ ?_
            rw [hz]
            (refine Wk.to _ _ ?_ ?_ <;> (repeat' first | exact trivial | rfl | (refine And.intro ?_ ?_)))
            exact inE (i64n (n := i + 1) (by omega) (by omega))
          | false =>
            rw [hb, Bool.false_or] at hz
            ((conv => whnf); repeat (refine Gq ?_; (conv => whnf)))
            refine litE t2 ?_
            ((conv => whnf); repeat (refine Gq ?_; (conv => whnf)))
            refine ⟨by omega, by omega, ?_⟩
            ((conv => whnf); repeat (refine Gq ?_; (conv => whnf)))
            refine ⟨_, gi, ?_⟩
            ((conv => whnf); repeat (refine Gq ?_; (conv => whnf)))
            refine litE t3 ?_
            ((conv => whnf); repeat (refine Gq ?_; (conv => whnf)))
            refine ⟨by omega, by omega, ?_⟩
            ((conv => whnf); repeat (refine Gq ?_; (conv => whnf)))
            refine ⟨_, gi, ?_⟩
            ((conv => whnf); repeat (refine Gq ?_; (conv => whnf)))
            refine litE hz.symm ?_
            ((conv => whnf); repeat (refine Gq ?_; (conv => whnf)))
            refine ih (i + 1) _ ⟨by omega, by omega, by rw [hz2, ha, t3]; rfl⟩ ?_
            (refine Wk.to _ _ ?_ ?_ <;> (repeat' first | exact trivial | rfl | (refine And.intro ?_ ?_)))
            exact inE (i64n (n := i + 1) (by omega) (by omega))
      · have t2 : decide ((i : Int) < (s.length : Int)) = false := by rw [decide_eq_false_iff_not]; omega
        rw [List.take_of_length_le (by omega)] at ha ⊢
        rw [if_neg (by rw [ha]; decide)]
        ((conv => whnf); repeat (refine Gq ?_; (conv => whnf)))
        refine litE t2 ?_
        ((conv => whnf); repeat (refine Gq ?_; (conv => whnf)))
        refine loop_ind (fun k (i : Nat) => i + k = s.length + 1 ∧ i ≤ s.length ∧ (s.take i).any (fun x => decide (1099511627776 < x)) = false) (fun i => { t := pin [(0, .d (rI s none)), (4, .d (bD (s.any (fun x => x == 0)))), (6, .d (iD i))], N := 70, h := hpin [], n := 0, lo := 0 }) (fun i h => by omega) ?_ (s.length + 1) 0 ⟨by omega, by omega, rfl⟩ _ ?_
        · rintro k2 j R2 ih2 ⟨hk2, hj, hb⟩
          by_cases hlt2 : j < s.length
          · have t3 : decide ((j : Int) < (s.length : Int)) = true := by rw [decide_eq_true_iff]; omega
            have gi : (s.map iD)[(j : Int).toNat * 1]? = some (iD s[j]) := ixm (j := j) (List.getElem?_eq_getElem hlt2) (by simp)
            have hz2 := any_take (p := fun x => decide (1099511627776 < x)) hlt2
            by_cases hn : 1099511627776 < s[j]
            · have t4 : decide (s[j] > 1099511627776) = true := decide_eq_true hn
              rw [if_pos (show s.any (fun x => decide (1099511627776 < x)) = true by rw [List.any_eq_true]; exact ⟨_, List.getElem_mem hlt2, t4⟩)]
              ((conv => whnf); repeat (refine Gq ?_; (conv => whnf)))
              refine litE t3 ?_
              ((conv => whnf); repeat (refine Gq ?_; (conv => whnf)))
              refine ⟨by omega, by omega, ?_⟩
              ((conv => whnf); repeat (refine Gq ?_; (conv => whnf)))
              refine ⟨_, gi, ?_⟩
              ((conv => whnf); repeat (refine Gq ?_; (conv => whnf)))
              refine litE t4 ?_
              ((conv => whnf); repeat (refine Gq ?_; (conv => whnf)))
              exact TeA
            · have t4 : decide (s[j] > 1099511627776) = false := decide_eq_false hn
              ((conv => whnf); repeat (refine Gq ?_; (conv => whnf)))
              refine litE t3 ?_
              ((conv => whnf); repeat (refine Gq ?_; (conv => whnf)))
              refine ⟨by omega, by omega, ?_⟩
              ((conv => whnf); repeat (refine Gq ?_; (conv => whnf)))
              refine ⟨_, gi, ?_⟩
              ((conv => whnf); repeat (refine Gq ?_; (conv => whnf)))
              refine litE t4 ?_
              ((conv => whnf); repeat (refine Gq ?_; (conv => whnf)))
              refine ih2 (j + 1) _ ⟨by omega, by omega, by rw [hz2, hb]; exact t4⟩ ?_
              (refine Wk.to _ _ ?_ ?_ <;> (repeat' first | exact trivial | rfl | (refine And.intro ?_ ?_)))
              exact inE (i64n (n := j + 1) (by omega) (by omega))
          · have t3 : decide ((j : Int) < (s.length : Int)) = false := by rw [decide_eq_false_iff_not]; omega
            rw [List.take_of_length_le (by omega)] at hb
            rw [if_neg (by rw [hb]; decide)]
            cases hz : s.any (fun x => x == 0) with
            | true =>
              rw [if_pos rfl]
              ((conv => whnf); repeat (refine Gq ?_; (conv => whnf)))
              refine litE t3 ?_
              ((conv => whnf); repeat (refine Gq ?_; (conv => whnf)))
              exact TeA
            | false =>
              rw [if_neg (by decide)]
              have hpos : ∀ x ∈ s, 1 ≤ x ∧ x ≤ 1099511627776 := fun x hx => by
                have h1 := any_false (by rw [ha]; decide) x hx
                have h2 := any_false (by rw [hb]; decide) x hx
                have h4 := any_false (by rw [hz]; decide) x hx
                simp at h1 h2 h4
                omega
              ((conv => whnf); repeat (refine Gq ?_; (conv => whnf)))
              refine litE t3 ?_
              ((conv => whnf); repeat (refine Gq ?_; (conv => whnf)))
              refine loop_ind (fun k (i : Nat) => i + k = s.length + 1 ∧ i ≤ s.length ∧ pr (s.take i) ≤ 4096) (fun i => { t := pin [(0, .d (rI s none)), (7, .d (iD (pr (s.take i)))), (8, .d (iD i))], N := 70, h := hpin [], n := 0, lo := 0 }) (fun i h => by omega) ?_ (s.length + 1) 0 ⟨by omega, by omega, by rw [List.take_zero]; decide⟩ _ ?_
              · rintro k3 q R3 ih3 ⟨hk3, hq, hp⟩
                have hp1 := pr_pos (l := s.take q) (fun x hx => (hpos x (List.mem_of_mem_take hx)).1)
                by_cases hlt3 : q < s.length
                · have t5 : decide ((q : Int) < (s.length : Int)) = true := by rw [decide_eq_true_iff]; omega
                  have gi : (s.map iD)[(q : Int).toNat * 1]? = some (iD s[q]) := ixm (j := q) (List.getElem?_eq_getElem hlt3) (by simp)
                  have hx := hpos s[q] (List.getElem_mem hlt3)
                  have hpt : pr (s.take (q + 1)) = pr (s.take q) * s[q] := by
                    rw [List.take_add_one, List.getElem?_eq_getElem hlt3, rpr_app]
                    simp [pr]
                  have hall : pr (s.take (q + 1)) ≤ pr s := by
                    have h1 := rpr_app (s.take (q + 1)) (s.drop (q + 1))
                    rw [List.take_append_drop] at h1
                    have h2 := pr_pos (l := s.drop (q + 1)) (fun x hx => (hpos x (List.mem_of_mem_drop hx)).1)
                    have h3 := pr_pos (l := s.take (q + 1)) (fun x hx => (hpos x (List.mem_of_mem_take hx)).1)
                    rw [h1]
                    have h4 := Int.mul_le_mul_of_nonneg_left h2 (show 0 ≤ pr (s.take (q + 1)) by omega)
                    rwa [Int.mul_one] at h4
                  by_cases hbig : s[q] > 4096
                  · have t6 : decide (s[q] > 4096) = true := decide_eq_true hbig
                    have h5 : s[q] ≤ pr (s.take q) * s[q] := by
                      have h4 := Int.mul_le_mul_of_nonneg_right hp1 (show 0 ≤ s[q] by omega)
                      rwa [Int.one_mul] at h4
                    rw [fin_gt (by omega)]
                    ((conv => whnf); repeat (refine Gq ?_; (conv => whnf)))
                    refine litE t5 ?_
                    ((conv => whnf); repeat (refine Gq ?_; (conv => whnf)))
                    refine ⟨by omega, by omega, ?_⟩
                    ((conv => whnf); repeat (refine Gq ?_; (conv => whnf)))
                    refine ⟨_, gi, ?_⟩
                    ((conv => whnf); repeat (refine Gq ?_; (conv => whnf)))
                    refine litE t6 ?_
                    ((conv => whnf); repeat (refine Gq ?_; (conv => whnf)))
                    exact TeA
                  · have t6 : decide (s[q] > 4096) = false := decide_eq_false hbig
                    have hmul : pr (s.take q) * s[q] ≤ 4096 * 4096 := Int.mul_le_mul hp (by omega) (by omega) (by omega)
                    have hmul0 : 0 ≤ pr (s.take q) * s[q] := Int.mul_nonneg (by omega) (by omega)
                    have ew : IntKind.i64.wrap (pr (s.take q) * s[q]) = pr (s.take (q + 1)) := by rw [hpt, i64w (by omega) (by omega)]
                    by_cases hb2 : pr (s.take (q + 1)) > 4096
                    · have t7 : decide (IntKind.i64.wrap (pr (s.take q) * s[q]) > 4096) = true := by rw [ew]; exact decide_eq_true hb2
                      rw [fin_gt (by omega)]
                      ((conv => whnf); repeat (refine Gq ?_; (conv => whnf)))
                      refine litE t5 ?_
                      ((conv => whnf); repeat (refine Gq ?_; (conv => whnf)))
                      refine ⟨by omega, by omega, ?_⟩
                      ((conv => whnf); repeat (refine Gq ?_; (conv => whnf)))
                      refine ⟨_, gi, ?_⟩
                      ((conv => whnf); repeat (refine Gq ?_; (conv => whnf)))
                      refine litE t6 ?_
                      ((conv => whnf); repeat (refine Gq ?_; (conv => whnf)))
                      refine ⟨by omega, by omega, ?_⟩
                      ((conv => whnf); repeat (refine Gq ?_; (conv => whnf)))
                      refine ⟨_, gi, ?_⟩
                      ((conv => whnf); repeat (refine Gq ?_; (conv => whnf)))
                      refine litE t7 ?_
                      ((conv => whnf); repeat (refine Gq ?_; (conv => whnf)))
                      exact TeA
                    · have t7 : decide (IntKind.i64.wrap (pr (s.take q) * s[q]) > 4096) = false := by rw [ew]; exact decide_eq_false hb2
                      ((conv => whnf); repeat (refine Gq ?_; (conv => whnf)))
                      refine litE t5 ?_
                      ((conv => whnf); repeat (refine Gq ?_; (conv => whnf)))
                      refine ⟨by omega, by omega, ?_⟩
                      ((conv => whnf); repeat (refine Gq ?_; (conv => whnf)))
                      refine ⟨_, gi, ?_⟩
                      ((conv => whnf); repeat (refine Gq ?_; (conv => whnf)))
                      refine litE t6 ?_
                      ((conv => whnf); repeat (refine Gq ?_; (conv => whnf)))
                      refine ⟨by omega, by omega, ?_⟩
                      ((conv => whnf); repeat (refine Gq ?_; (conv => whnf)))
                      refine ⟨_, gi, ?_⟩
                      ((conv => whnf); repeat (refine Gq ?_; (conv => whnf)))
                      refine litE t7 ?_
                      ((conv => whnf); repeat (refine Gq ?_; (conv => whnf)))
                      refine ⟨by omega, by omega, ?_⟩
                      ((conv => whnf); repeat (refine Gq ?_; (conv => whnf)))
                      refine ⟨_, gi, ?_⟩
                      ((conv => whnf); repeat (refine Gq ?_; (conv => whnf)))
                      refine ih3 (q + 1) _ ⟨by omega, by omega, by omega⟩ ?_
                      (refine Wk.to _ _ ?_ ?_ <;> (repeat' first | exact trivial | rfl | (refine And.intro ?_ ?_)))
                      · exact inE ew
                      · exact inE (i64n (n := q + 1) (by omega) (by omega))
                · have t5 : decide ((q : Int) < (s.length : Int)) = false := by rw [decide_eq_false_iff_not]; omega
                  rw [List.take_of_length_le (by omega)] at hp ⊢
                  rw [fin_le hp]
                  ((conv => whnf); repeat (refine Gq ?_; (conv => whnf)))
                  refine litE t5 ?_
                  ((conv => whnf); repeat (refine Gq ?_; (conv => whnf)))
                  exact TeA
              · (refine Wk.to _ _ ?_ ?_ <;> (repeat' first | exact trivial | rfl | (refine And.intro ?_ ?_)))
        · (refine Wk.to _ _ ?_ ?_ <;> (repeat' first | exact trivial | rfl | (refine And.intro ?_ ?_)))
    · (refine Wk.to _ _ ?_ ?_ <;> (repeat' first | exact trivial | rfl | (refine And.intro ?_ ?_)))
end Go.Proofs.YtkhgpnbhnipndaaGreatDoor.Am
end
