/- What the law leans on, part 15: declarations of several texts of ours, in their order. -/
import Derived.Test.YtkhgpnbhnipndaaGreatDoorXFS12
import Derived.Test.YtkhgpnbhnipndaaGreatDoorXFS13
section
/- Sizes in parts of nine figures. -/
namespace Go.Proofs.YtkhgpnbhnipndaaGreatDoor.Am
open Go Go.RowKit Go.Proofs.YtkhgpnbhnipndaaGreatDoor.Nm
set_option linter.unusedVariables false
set_option linter.unusedSimpArgs false
set_option maxRecDepth 100000
theorem trim_runs (m : List Nat) (hp : Pt m) (hm : m.length ≤ 1000000000) : Runs Tryz.prog 202 [rU m none] (rU (mg (mv m)) none) := by
  refine Runs.wp Am.hT Am.hm Tryz.func202 rfl (by decide) ⟨[], [0, 2, 14], 21⟩ ?_; ((conv => whnf); repeat (refine Gq ?_; (conv => whnf)))
  refine loop_ind (fun k (l : List Nat) => l.length < k ∧ l.length ≤ 1000000000 ∧ Pt l ∧ mv l = mv m) (fun l => { t := pin [(0, .d (rU l none))], N := 21, h := hpin [], n := 0, lo := 0 }) (fun l h => by omega) ?_ (m.length + 1) m ⟨by omega, hm, hp, rfl⟩ _ ?_
  · rintro k l R ih ⟨hk, hl1, hl, hv⟩
    rw [← hv]
    rcases snoc_cases l with rfl | ⟨p, x, rfl⟩
    · rw [show mg (mv []) = [] from mg_zero]
      ((conv => whnf); repeat (refine Gq ?_; (conv => whnf)))
      exact TeA
    · have e1 : IntKind.i64.wrap (((p ++ [x]).length : Nat) - 1) = p.length := i64n (by simp) (by simp at hl1; omega)
      ((conv => whnf); repeat (refine Gq ?_; (conv => whnf)))
      refine Lt (by simp) ?_
      ((conv => whnf); repeat ((first | refine Wo ?_ | refine Lt (by decide) ?_ | refine Lf (by decide) ?_ | refine Cl (by decide) ?_ | refine Cr (by decide) ?_ | refine ⟨_, rfl, ?_⟩ | refine Mi rfl ?_ | (refine And.intro ArA ?_)); (conv => whnf)))
      ((conv => whnf); refine ⟨_, ixm (j := p.length) (x := x) (by simp) (by rw [e1]; simp), ?_⟩; ((conv => whnf); repeat (refine Gq ?_; (conv => whnf))))
      ((conv => whnf); refine Lb (fun hb => ?_) (fun hb => ?_))
      · ((conv => whnf); repeat ((first | refine Wo ?_ | refine Lt (by decide) ?_ | refine Lf (by decide) ?_ | refine Cl (by decide) ?_ | refine Cr (by decide) ?_ | refine ⟨_, rfl, ?_⟩ | refine Mi rfl ?_ | (refine And.intro ArA ?_)); (conv => whnf)))
        refine ih p _ ⟨by simp at hk; omega, by simp at hl1; omega, fun y hy => hl y (by simp [hy]), ?_⟩ ?_
        · rw [← hv, mv_snoc]
          simp at hb
          simp [hb]
        · (refine Wk.to _ _ ?_ ?_ <;> (repeat' first | exact trivial | rfl | (refine And.intro ?_ ?_)))
          exact slE (by rw [e1]; simp) (by rw [e1]; simp) rfl
      · ((conv => whnf); repeat (refine Gq ?_; (conv => whnf)))
        rw [canonM _ hl fun p' x' e => ?_]
        · exact TeA
        · have := List.append_inj' e rfl
          simp at this hb
          omega
  · (refine Wk.to _ _ ?_ ?_ <;> (repeat' first | exact trivial | rfl | (refine And.intro ?_ ?_)))
theorem at_runs (m : List Nat) (i : Nat) (hm : m.length ≤ 1000000000) : Runs Tryz.prog 201 [rU m none, iD i] (uD (m.getD i 0)) := by
  by_cases h : i < m.length
  · refine Runs.wp Am.hT Am.hm Tryz.func201 rfl (by decide) ⟨[], [0, 1, 4, 8], 13⟩ ?_; ((conv => whnf); repeat (refine Gq ?_; (conv => whnf)))
    refine Lt (by simpa using h) ?_
    ((conv => whnf); repeat ((first | refine Wo ?_ | refine Lt (by decide) ?_ | refine Lf (by decide) ?_ | refine Cl (by decide) ?_ | refine Cr (by decide) ?_ | refine ⟨_, rfl, ?_⟩ | refine Mi rfl ?_ | (refine And.intro ArA ?_)); (conv => whnf)))
    ((conv => whnf); refine ⟨_, ixm (j := i) (x := m.getD i 0) (by simp [h]) (by simp), ?_⟩; ((conv => whnf); repeat (refine Gq ?_; (conv => whnf))))
    exact TeA
  · rw [List.getD_eq_getElem?_getD, List.getElem?_eq_none (by omega)]
    refine Runs.wp Am.hT Am.hm Tryz.func201 rfl (by decide) ⟨[], [0, 1, 4, 8], 13⟩ ?_; ((conv => whnf); repeat (refine Gq ?_; (conv => whnf)))
    refine Lf (by simpa using h) ?_
    ((conv => whnf); repeat (refine Gq ?_; (conv => whnf)))
    exact TeA
theorem tdivB (n : Nat) : (n : Int).tdiv 1000000000 = ((n / 1000000000 : Nat) : Int) := rfl
theorem tmodB (n : Nat) : (n : Int).tmod 1000000000 = ((n % 1000000000 : Nat) : Int) := rfl
theorem carry (x B : Nat) : B * (x % 1000000000) + x / 1000000000 * (B * 1000000000) = B * x := by
  rw [Nat.mul_comm B 1000000000, ← Nat.mul_assoc, Nat.mul_comm (x / 1000000000 * 1000000000) B, ← Nat.mul_add, Nat.mul_comm (x / 1000000000), Nat.mod_add_div]
theorem sum_runs (a b : List Nat) (ha : Pt a) (hb : Pt b) (hla : a.length ≤ 100000) (hlb : b.length ≤ 100000) : Runs Tryz.prog 198 [rU a none, rU b none] (rU (mg (mv a + mv b)) none) := by
  obtain ⟨M, hM⟩ : ∃ M, M = max a.length b.length := ⟨_, rfl⟩
  have eM : IntKind.i64.wrap ((if (a.length : Int) < b.length then (b.length : Int) else a.length) + 1) = ((M + 1 : Nat) : Int) := i64n (by split <;> omega) (by omega)
  refine Runs.wp Am.hT Am.hm Tryz.func198 rfl (by decide) ⟨[], [0, 1, 4, 5, 6, 7, 8, 14, 15, 16], 37⟩ ?_; ((conv => whnf); repeat (refine Gq ?_; (conv => whnf)))
  refine loop_ind (fun k (x : List Nat × Nat) => k + x.1.length = M + 2 ∧ x.1.length ≤ M + 1 ∧ Pt x.1 ∧ x.2 ≤ 1 ∧ mv x.1 + x.2 * 1000000000 ^ x.1.length = mv a % 1000000000 ^ x.1.length + mv b % 1000000000 ^ x.1.length)
    (fun x => { t := pin [(0, .d (rU a none)), (1, .d (rU b none)), (5, .bs 0), (6, .d (uD x.2)), (14, .d (iD (M + 1 : Nat))), (15, .d (iD x.1.length))], N := 37, h := hpin [some (.ar 205 1 x.1.length (x.1.map uD))], n := 1, lo := 0 }) (fun x h => by omega) ?_ (M + 2) ([], 0) ⟨rfl, by simp, fun x hx => by simp at hx, by simp, by simp [mv, Nat.mod_one]⟩ _ ?_
  · rintro k ⟨m, c⟩ R ih ⟨hk, hi, hm, hc, he⟩
    simp only at *
    ((conv => whnf); repeat (refine Gq ?_; (conv => whnf)))
    ((conv => whnf); refine Lb (fun hlt => ?_) (fun hlt => ?_))
    · have hlt' : m.length < M + 1 := by simp at hlt; omega
      have xa : a.getD m.length 0 < 1000000000 := by rw [Nm.part a ha]; exact Nat.mod_lt _ (by decide)
      have xb : b.getD m.length 0 < 1000000000 := by rw [Nm.part b hb]; exact Nat.mod_lt _ (by decide)
      have en : IntKind.u64.wrap (IntKind.u64.wrap ((a.getD m.length 0 : Nat) + (b.getD m.length 0 : Nat)) + c) = ((a.getD m.length 0 + b.getD m.length 0 + c : Nat) : Int) := by
        rw [u64w (x := ((a.getD m.length 0 : Nat) : Int) + (b.getD m.length 0 : Nat)) (by omega) (by omega), u64w (by omega) (by omega)]; omega
      ((conv => whnf); repeat (refine Gq ?_; (conv => whnf)))
      ((conv => whnf); (refine HfA (at_runs a m.length (by omega)) ?_); ((conv => whnf); repeat (refine Gq ?_; (conv => whnf))))
      ((conv => whnf); (refine HfA (at_runs b m.length (by omega)) ?_); ((conv => whnf); repeat (refine Gq ?_; (conv => whnf))))
      ((conv => whnf); repeat ((first | refine Wo ?_ | refine Lt (by decide) ?_ | refine Lf (by decide) ?_ | refine Cl (by decide) ?_ | refine Cr (by decide) ?_ | refine ⟨_, rfl, ?_⟩ | refine Mi rfl ?_ | (refine And.intro ArA ?_)); (conv => whnf)))
      refine ih (m ++ [(a.getD m.length 0 + b.getD m.length 0 + c) % 1000000000], (a.getD m.length 0 + b.getD m.length 0 + c) / 1000000000) _ ⟨by simp; omega, by simp; omega, ?_, ?_, ?_⟩ ?_
      · exact pt_append hm (pt_one (Nat.mod_lt _ (by decide)))
      · dsimp only; omega
      · dsimp only
        rw [mv_snoc, List.length_append, List.length_singleton, low_stepB, low_stepB, ← Nm.part a ha, ← Nm.part b hb, Nat.pow_succ, Nat.add_assoc, carry, Nat.mul_add, Nat.mul_add, Nat.mul_comm _ c]
        omega
      · dsimp only
        (refine Wk.pin [2] _ _ ?_ ?_ rfl rfl (by decide) rfl rfl <;> (repeat' first | exact trivial | rfl | (refine And.intro ?_ ?_)))
        · exact inE (by rw [en, tdivB, u64w (by omega) (by omega)])
        · exact inE (i64n (by simp) (by simp; omega))
        · exact arE (by rw [en, tmodB, List.map_append]; rfl) (by simp)
    · have hii : m.length = M + 1 := by simp at hlt; omega
      have hev : mv m = mv a + mv b := by
        have h1 := Nat.lt_of_lt_of_le (mv_lt a ha) (Nat.pow_le_pow_right (n := 1000000000) (by decide) (show a.length ≤ M by omega))
        have h2 := Nat.lt_of_lt_of_le (mv_lt b hb) (Nat.pow_le_pow_right (n := 1000000000) (by decide) (show b.length ≤ M by omega))
        have h3 := mv_lt m hm
        rw [hii, Nat.pow_succ] at he h3
        rw [Nat.mod_eq_of_lt (by omega), Nat.mod_eq_of_lt (by omega)] at he
        by_cases h0 : c = 0
        · subst h0; omega
        · have : c = 1 := by omega
          subst this
          omega
      rw [← hev]
      ((conv => whnf); repeat (refine Gq ?_; (conv => whnf)))
      ((conv => whnf); (refine HrA (trim_runs m hm (by omega)) ?_); ((conv => whnf); repeat (refine Gq ?_; (conv => whnf))))
      exact TeA
  · refine (Wk.virt 5 205 1 rfl (show 5 < 37 by decide)).trans ?_
    (refine Wk.to _ _ ?_ ?_ <;> (repeat' first | exact trivial | rfl | (refine And.intro ?_ ?_)))
    exact inE eM
def uV (l : List Nat) : List Value := l.map fun n : Nat => .int .u64 n
theorem uV_one (l : List Nat) : (uV l).all Value.oneCell' = true := by simp [uV, List.all_eq_true, Value.oneCell']
theorem uV_D (l : List Nat) : (uV l).map D.v = l.map uD := by unfold uV; rw [List.map_map]; rfl
theorem less_runsR (a b : List Nat) (ha : Pt a) (hb : Pt b) (hla : a.length ≤ 100000) (hlb : b.length ≤ 100000) (hle : mv b ≤ mv a) : RunsR Tryz.prog 200 [rU a none, rU b none] 205 (uV (mg (mv a - mv b))) := by
  refine Runs.wpR Am.hT Am.hm Tryz.func200 rfl (by decide) ⟨[(6, .first 0 (.first 1 (.first 2 (.first 5 (.first 6 (.first 9 (.alt 3 (.first 4 (.alt 7 (.first 8 (.first 10 (.first 11 .done))) .nil)) (.alt 7 (.load 3 [4, 8, 10, 11] (.first 4 (.first 8 (.first 10 (.first 11 .done))))) .nil))))))))], [0, 1, 4, 5, 6, 7, 8, 10, 11, 12], 36⟩ ?_; ((conv => whnf); repeat (refine Gq ?_; (conv => whnf)))
  refine loop_ind (fun k (x : List Nat × Nat) => k + x.1.length = a.length + 1 ∧ x.1.length ≤ a.length ∧ Pt x.1 ∧ x.2 ≤ 1 ∧ mv x.1 + mv b % 1000000000 ^ x.1.length = mv a % 1000000000 ^ x.1.length + x.2 * 1000000000 ^ x.1.length)
    (fun x => { t := pin [(0, .d (rU a none)), (1, .d (rU b none)), (5, .bs 0), (6, .d (uD x.2)), (10, .d (iD a.length)), (11, .d (iD x.1.length))], N := 36, h := hpin [some (.ar 205 1 x.1.length (x.1.map uD))], n := 1, lo := 0 }) (fun x h => by omega) ?_ (a.length + 1) ([], 0) ⟨rfl, by simp, fun x hx => by simp at hx, by simp, by simp [mv, Nat.mod_one]⟩ _ ?_
  · rintro k ⟨m, c⟩ R ih ⟨hk, hi, hm, hc, he⟩
    simp only at *
    ((conv => whnf); repeat (refine Gq ?_; (conv => whnf)))
    ((conv => whnf); refine Lb (fun hlt => ?_) (fun hlt => ?_))
    · have hlt' : m.length < a.length := by simpa using hlt
      have xa : a.getD m.length 0 < 1000000000 := by rw [Nm.part a ha]; exact Nat.mod_lt _ (by decide)
      have xb : b.getD m.length 0 < 1000000000 := by rw [Nm.part b hb]; exact Nat.mod_lt _ (by decide)
      have en : IntKind.u64.wrap (IntKind.u64.wrap (IntKind.u64.wrap ((a.getD m.length 0 : Nat) + 1000000000) - (b.getD m.length 0 : Nat)) - c) = ((a.getD m.length 0 + 1000000000 - b.getD m.length 0 - c : Nat) : Int) := by
        rw [u64w (x := ((a.getD m.length 0 : Nat) : Int) + 1000000000) (by omega) (by omega), u64w (x := ((a.getD m.length 0 : Nat) : Int) + 1000000000 - (b.getD m.length 0 : Nat)) (by omega) (by omega), u64w (by omega) (by omega)]; omega
      have hix : (a.map uD)[(m.length : Int).toNat * 1]? = some (uD (a.getD m.length 0)) := ixm (j := m.length) (by simp [hlt']) (by simp)
      ((conv => whnf); repeat (refine Gq ?_; (conv => whnf)))
      (refine And.intro (by decide +kernel) ?_; apply Exists.intro; apply And.intro; focus ((repeat' ((conv => whnf); first | exact trivial | refine Wo ?_ | refine Lt (by decide) ?_ | refine Lf (by decide) ?_ | refine Cl (by decide) ?_ | refine Cr (by decide) ?_ | refine Both.mk ?_ ?_ | (first | exact Wk.frc (keep := [0, 1, 4, 5, 6, 7, 8, 10, 11, 12]) (N := 36) (by (conv => whnf); first | done | exact rfl) | (refine HfA (at_runs b m.length (by omega)) ?_) | refine ⟨_, hix, ?_⟩) | refine ⟨_, rfl, ?_⟩ | refine Mi rfl ?_ | (refine And.intro ?_ ?_))); all_goals (first | decide | rfl | assumption | omega | (dsimp only; omega) | (unfold maxLen; omega) | ((try dsimp only [maxLen]); simp only [List.length_append, List.length_cons, List.length_nil, List.length_map, List.length_range, List.length_set, List.length_replicate]; omega) | ((try dsimp only [maxLen]); simp only [IntKind.wrap_i64, IntKind.wrap_u64, List.length_append, List.length_cons, List.length_nil, List.length_map, List.length_range, List.length_set, List.length_replicate]; omega) | ((try dsimp only [maxLen]); simp only [List.length_append, List.length_cons, List.length_nil, List.length_map, List.length_range, List.length_set, List.length_replicate] at *; omega))))
      ((conv => whnf); repeat ((first | refine Wo ?_ | refine Lt (by decide) ?_ | refine Lf (by decide) ?_ | refine Cl (by decide) ?_ | refine Cr (by decide) ?_ | refine ⟨_, rfl, ?_⟩ | refine Mi rfl ?_ | (refine And.intro ArA ?_)); (conv => whnf)))
      refine ih (m ++ [(a.getD m.length 0 + 1000000000 - b.getD m.length 0 - c) % 1000000000], 1 - (a.getD m.length 0 + 1000000000 - b.getD m.length 0 - c) / 1000000000) _ ⟨by simp; omega, by simp; omega, ?_, ?_, ?_⟩ ?_
      · exact pt_append hm (pt_one (Nat.mod_lt _ (by decide)))
      · dsimp only; omega
      · dsimp only
        rw [mv_snoc, List.length_append, List.length_singleton, low_stepB, low_stepB, ← Nm.part a ha, ← Nm.part b hb, Nat.pow_succ]
        generalize 1000000000 ^ m.length = B at *
        generalize a.getD m.length 0 = x at *
        generalize b.getD m.length 0 = y at *
        obtain ⟨n, hn⟩ : ∃ n, n = x + 1000000000 - y - c := ⟨_, rfl⟩
        rw [← hn]
        have h1 : B * n + B * y + B * c = B * x + B * 1000000000 := by rw [← Nat.mul_add, ← Nat.mul_add, ← Nat.mul_add, show n + y + c = x + 1000000000 by omega]
        rw [Nat.mul_comm c B] at he
        rcases Nat.lt_or_ge n 1000000000 with h2 | h2
        · rw [Nat.mod_eq_of_lt h2, Nat.div_eq_of_lt h2]
          omega
        · rw [show n % 1000000000 = n - 1000000000 by omega, show n / 1000000000 = 1 by omega, Nat.mul_sub]
          have := Nat.mul_le_mul_left B h2
          omega
      · dsimp only
        (refine Wk.pin [2] _ _ ?_ ?_ rfl rfl (by decide) rfl rfl <;> (repeat' first | exact trivial | rfl | (refine And.intro ?_ ?_)))
        · exact inE (by rw [en, tdivB, u64w (x := (((_ : Nat) / 1000000000 : Nat) : Int)) (by omega) (by omega), u64w (by omega) (by omega)]; omega)
        · exact inE (i64n (by simp) (by simp; omega))
        · exact arE (by rw [en, tmodB, List.map_append]; rfl) (by simp)
    · have hii : m.length = a.length := by simp at hlt; omega
      have hev : mv m = mv a - mv b := by
        have h1 := mv_lt a ha
        have h3 := mv_lt m hm
        rw [hii] at he h3
        rw [Nat.mod_eq_of_lt h1, Nat.mod_eq_of_lt (by omega)] at he
        by_cases h0 : c = 0
        · subst h0; omega
        · have : c = 1 := by omega
          subst this
          omega
      rw [← hev]
      ((conv => whnf); repeat (refine Gq ?_; (conv => whnf)))
      ((conv => whnf); refine Hc.inl Am.hT Am.hm Tryz.func202 rfl (by decide) ⟨[], [0, 2, 14], 21⟩ ?_; ((conv => whnf); repeat (refine Gq ?_; (conv => whnf))))
      refine loop_ind (fun k (l : List Nat) => l.length < k ∧ l.length ≤ 1000000000 ∧ Pt l ∧ mv l = mv m) (fun l => { t := pin [(0, .bs 1)], N := 21, h := hpin [none, some (.ar 205 1 l.length (l.map uD))], n := 2, lo := 1 }) (fun l h => by omega) ?_ (m.length + 1) m ⟨by omega, by omega, hm, rfl⟩ _ ?_
      · rintro k l R ih ⟨hk, hl1, hl, hv⟩
        rw [← hv]
        rcases snoc_cases l with rfl | ⟨p, x, rfl⟩
        · rw [show mg (mv []) = [] from mg_zero]
          ((conv => whnf); repeat (refine Gq ?_; (conv => whnf)))
          exact rfl
        · have e1 : IntKind.i64.wrap (((p ++ [x]).length : Nat) - 1) = p.length := i64n (by simp) (by simp at hl1; omega)
          have e2 : 0 ≤ IntKind.i64.wrap (((p ++ [x]).length : Nat) - 1) := by omega
          have e3 : IntKind.i64.wrap (((p ++ [x]).length : Nat) - 1) < ((p ++ [x]).length : Nat) := by rw [e1]; simp; omega
          have e4 : IntKind.i64.wrap (((p ++ [x]).length : Nat) - 1) ≤ ((p ++ [x]).length : Nat) := by omega
          ((conv => whnf); repeat (refine Gq ?_; (conv => whnf)))
          refine Lt (by simp) ?_
          ((conv => whnf); repeat ((first | refine Wo ?_ | refine Lt (by decide) ?_ | refine Lf (by decide) ?_ | refine Cl (by decide) ?_ | refine Cr (by decide) ?_ | refine ⟨_, rfl, ?_⟩ | refine Mi rfl ?_ | (refine And.intro ArA ?_)); (conv => whnf)))
          ((conv => whnf); refine ⟨_, ixm (j := p.length) (x := x) (by simp) (by rw [e1]; simp), ?_⟩; ((conv => whnf); repeat (refine Gq ?_; (conv => whnf))))
          ((conv => whnf); refine Lb (fun hb => ?_) (fun hb => ?_))
          · ((conv => whnf); repeat ((first | refine Wo ?_ | refine Lt (by decide) ?_ | refine Lf (by decide) ?_ | refine Cl (by decide) ?_ | refine Cr (by decide) ?_ | refine ⟨_, rfl, ?_⟩ | refine Mi rfl ?_ | (refine And.intro ArA ?_)); (conv => whnf)))
            refine ih p _ ⟨by simp at hk; omega, by simp at hl1; omega, fun y hy => hl y (by simp [hy]), ?_⟩ ?_
            · rw [← hv, mv_snoc]
              simp at hb
              simp [hb]
            · (refine Wk.pin [0, 2] _ _ ?_ ?_ rfl rfl (by decide) rfl rfl <;> (repeat' first | exact trivial | rfl | (refine And.intro ?_ ?_)))
              exact arE (by rw [e1]; simp) (by rw [e1]; simp)
          · ((conv => whnf); repeat (refine Gq ?_; (conv => whnf)))
            rw [canonM _ hl fun p' x' e => ?_]
            · exact congrArg some (congr (congrArg (Ob.ar _ 1) (by simp [uV])) (uV_D _).symm)
            · have := List.append_inj' e rfl
              simp at this hb
              omega
      · refine (Wk.mv 0 0 205 1 m.length (m.map uD) rfl (show 0 < 21 by decide) rfl).trans ?_
        (refine Wk.pin [0, 1] _ _ ?_ ?_ rfl rfl (by decide) rfl rfl <;> (repeat' first | exact trivial | rfl | (refine And.intro ?_ ?_)))
  · refine (Wk.virt 5 205 1 rfl (show 5 < 36 by decide)).trans ?_
    (refine Wk.to _ _ ?_ ?_ <;> (repeat' first | exact trivial | rfl | (refine And.intro ?_ ?_)))
theorem less_runs (a b : List Nat) (ha : Pt a) (hb : Pt b) (hla : a.length ≤ 100000) (hlb : b.length ≤ 100000) (hle : mv b ≤ mv a) : Runs Tryz.prog 200 [rU a none, rU b none] (rU (mg (mv a - mv b)) none) := by
  have := (less_runsR a b ha hb hla hlb hle).data (uV_one _)
  rw [uV_D, show (uV (mg (mv a - mv b))).length = (mg (mv a - mv b)).length by simp [uV]] at this
  exact this
theorem prod_step {m : List Nat} {V S x c i j e y n : Nat} (hij : i + j < m.length) (he : e = m.getD (i + j) 0) (hy : y = V / 1000000000 ^ j % 1000000000) (hn : n = e + x * y + c) (hv : mv m + c * 1000000000 ^ (i + j) = S + x * (V % 1000000000 ^ j) * 1000000000 ^ i) :
    mv (m.set (i + j) (n % 1000000000)) + n / 1000000000 * 1000000000 ^ (i + (j + 1)) = S + x * (V % 1000000000 ^ (j + 1)) * 1000000000 ^ i := by
  have h1 := mv_set m (i + j) (n % 1000000000) hij
  rw [← he] at h1
  have h2 := Nat.mod_add_div n 1000000000
  have h3 : n % 1000000000 * 1000000000 ^ (i + j) + n / 1000000000 * 1000000000 ^ (i + (j + 1)) = n * 1000000000 ^ (i + j) := by
    rw [← Nat.add_assoc, Nat.pow_succ, Nat.mul_comm (1000000000 ^ (i + j)) 1000000000, ← Nat.mul_assoc, ← Nat.add_mul]
    congr 1
    omega
  have h4 : x * (V % 1000000000 ^ (j + 1)) * 1000000000 ^ i = x * (V % 1000000000 ^ j) * 1000000000 ^ i + x * y * 1000000000 ^ (i + j) := by
    rw [low_stepB, ← hy, Nat.mul_add, Nat.add_mul, Nat.pow_add, Nat.mul_comm (1000000000 ^ j) y, ← Nat.mul_assoc x y, Nat.mul_assoc (x * y), Nat.mul_comm (1000000000 ^ j) (1000000000 ^ i)]
  have h5 : n * 1000000000 ^ (i + j) = e * 1000000000 ^ (i + j) + x * y * 1000000000 ^ (i + j) + c * 1000000000 ^ (i + j) := by rw [hn, Nat.add_mul, Nat.add_mul]
  rw [h4]
  generalize 1000000000 ^ (i + (j + 1)) = P1 at *
  generalize e * 1000000000 ^ (i + j) = q1 at *
  generalize x * y * 1000000000 ^ (i + j) = q2 at *
  generalize c * 1000000000 ^ (i + j) = q3 at *
  generalize n % 1000000000 * 1000000000 ^ (i + j) = q4 at *
  generalize n * 1000000000 ^ (i + j) = q5 at *
  generalize x * (V % 1000000000 ^ j) * 1000000000 ^ i = q6 at *
  generalize n / 1000000000 * P1 = q7 at *
  omega
theorem putC {m : List Nat} {o v : Nat} (h : o < m.length) : putCells (m.map uD) o [uD v] = (m.set o v).map uD := by
  rw [List.map_set]
  unfold putCells
  rw [List.set_eq_take_append_cons_drop, if_pos (by simpa using h)]
  simp
end Go.Proofs.YtkhgpnbhnipndaaGreatDoor.Am
end
section
/- Sizes multiplied. -/
namespace Go.Proofs.YtkhgpnbhnipndaaGreatDoor.Am
open Go Go.RowKit Go.Proofs.YtkhgpnbhnipndaaGreatDoor.Nm
set_option linter.unusedVariables false
set_option linter.unusedSimpArgs false
set_option maxRecDepth 100000
set_option maxHeartbeats 1000000
theorem product_runs (a b : List Nat) (ha : Pt a) (hb : Pt b) (hla : a.length ≤ 100000) (hlb : b.length ≤ 100000) : Runs Tryz.prog 156 [rU a none, rU b none] (rU (mg (mv a * mv b)) none) := by
  obtain ⟨L, hL⟩ : ∃ L, L = a.length + b.length + 1 := ⟨_, rfl⟩
  have eL : IntKind.i64.wrap (IntKind.i64.wrap ((a.length : Int) + b.length) + 1) = (L : Int) := by rw [i64w (x := (a.length : Int) + b.length) (by omega) (by omega), i64w (by omega) (by omega)]; omega
  refine Runs.wp Am.hT Am.hm Tryz.func156 rfl (by decide) ⟨[(9, .first 0 (.first 1 (.first 2 (.first 3 (.first 4 (.first 6 (.first 7 (.first 8 (.first 12 (.alt 5 (.alt 9 (.first 10 (.first 11 (.first 13 (.first 14 .done)))) .nil) (.alt 9 (.first 10 (.load 5 [11, 13, 14] (.first 11 (.first 13 (.first 14 .done))))) .nil)))))))))))], [0, 1, 4, 5, 6, 7, 8, 9, 10, 18, 19, 20, 21, 27, 28, 29], 58⟩ ?_; ((conv => whnf); repeat (refine Gq ?_; (conv => whnf)))
  ((conv => whnf); repeat ((first | refine Wo ?_ | refine Lt (by decide) ?_ | refine Lf (by decide) ?_ | refine Cl (by decide) ?_ | refine Cr (by decide) ?_ | refine ⟨_, rfl, ?_⟩ | refine Mi rfl ?_ | (refine And.intro ArA ?_)); (conv => whnf)))
  refine loop_ind (fun k (x : Nat × List Nat) => k + x.1 = a.length + 1 ∧ x.1 ≤ a.length ∧ Pt x.2 ∧ x.2.length = L ∧ mv x.2 = mv a % 1000000000 ^ x.1 * mv b)
    (fun x => { t := pin [(0, .d (rU a none)), (1, .d (rU b none)), (5, .bs 0), (18, .d (rU a none)), (19, .d (iD a.length)), (20, .d (iD x.1))], N := 58, h := hpin [some (.ar 205 1 L (x.2.map uD))], n := 1, lo := 0 }) (fun x h => by omega) ?_ (a.length + 1) (0, List.replicate L 0) ⟨rfl, by simp, pt_zeros _, by simp, by rw [mv_zeros]; simp [Nat.mod_one]⟩ _ ?_
  · rintro k ⟨i, m⟩ R ih ⟨hk, hi, hm, hml, hv⟩
    simp only at *
    replace hv := Pk.mk hv
    ((conv => whnf); repeat (refine Gq ?_; (conv => whnf)))
    ((conv => whnf); refine Lb (fun hlt => ?_) (fun hlt => ?_))
    · have hlt' : i < a.length := by simpa using hlt
      obtain ⟨x, hx⟩ : ∃ x, x = mv a / 1000000000 ^ i % 1000000000 := ⟨_, rfl⟩
      have hx9 : x < 1000000000 := by rw [hx]; exact Nat.mod_lt _ (by decide)
      have hax : a[i]? = some x := by rw [hx, ← Nm.part a ha, List.getD_eq_getElem?_getD, List.getElem?_eq_getElem hlt']; rfl
      have hnext : mv a % 1000000000 ^ (i + 1) * mv b = mv a % 1000000000 ^ i * mv b + x * mv b * 1000000000 ^ i := by
        rw [low_stepB, ← hx, Nat.add_mul, Nat.mul_comm (1000000000 ^ i) x, Nat.mul_assoc x, Nat.mul_comm (1000000000 ^ i), ← Nat.mul_assoc x]
      have hS : mv a % 1000000000 ^ i * mv b + x * mv b * 1000000000 ^ i < 1000000000 ^ (i + b.length + 1) := by
        rw [← hnext, show 1000000000 ^ (i + b.length + 1) = 1000000000 ^ (i + 1) * 1000000000 ^ b.length from by rw [← Nat.pow_add]; congr 1; omega]
        exact Nat.mul_lt_mul'' (Nat.mod_lt _ (show 0 < 1000000000 ^ (i + 1) from Nat.pow_pos (by decide))) (mv_lt b hb)
      replace hS := Pk.mk hS
      replace hnext := Pk.mk hnext
      ((conv => whnf); repeat ((first | refine Wo ?_ | refine Lt (by decide) ?_ | refine Lf (by decide) ?_ | refine Cl (by decide) ?_ | refine Cr (by decide) ?_ | refine ⟨_, rfl, ?_⟩ | refine Mi rfl ?_ | (refine And.intro ArA ?_)); (conv => whnf)))
      ((conv => whnf); refine ⟨_, ixm (j := i) hax (by simp), ?_⟩; ((conv => whnf); repeat (refine Gq ?_; (conv => whnf))))
      refine loop_ind (fun k (x2 : Nat × List Nat × Nat) => k + x2.1 = b.length + 2 ∧ x2.1 ≤ b.length + 1 ∧ Pt x2.2.1 ∧ x2.2.1.length = L ∧ x2.2.2 < 1000000000 ∧ mv x2.2.1 + x2.2.2 * 1000000000 ^ (i + x2.1) = mv a % 1000000000 ^ i * mv b + x * (mv b % 1000000000 ^ x2.1) * 1000000000 ^ i)
        (fun x2 => { t := pin [(0, .d (rU a none)), (1, .d (rU b none)), (5, .bs 0), (6, .d (iD i)), (7, .d (uD x)), (8, .d (uD x2.2.2)), (18, .d (rU a none)), (19, .d (iD a.length)), (20, .d (iD i)), (27, .d (iD (b.length + 1 : Nat))), (28, .d (iD x2.1))], N := 58, h := hpin [some (.ar 205 1 L (x2.2.1.map uD))], n := 1, lo := 0 }) (fun x h => by omega) ?_ (b.length + 2) (0, m, 0) ⟨rfl, by simp, hm, hml, by simp, by rw [hv.out]; simp [Nat.mod_one]⟩ _ ?_
      · rintro k2 ⟨j, m2, c⟩ R2 ih2 ⟨hk2, hj, hm2, hml2, hc, hv2⟩
        simp only at *
        replace hv2 := Pk.mk hv2
        ((conv => whnf); repeat (refine Gq ?_; (conv => whnf)))
        ((conv => whnf); refine Lb (fun hlt2 => ?_) (fun hlt2 => ?_))
        · have hlt2' : j < b.length + 1 := by simp at hlt2; omega
          obtain ⟨y, hy⟩ : ∃ y, y = mv b / 1000000000 ^ j % 1000000000 := ⟨_, rfl⟩
          have hy9 : y < 1000000000 := by rw [hy]; exact Nat.mod_lt _ (by decide)
          obtain ⟨e, he⟩ : ∃ e, e = m2.getD (i + j) 0 := ⟨_, rfl⟩
          have he9 : e < 1000000000 := by rw [he, Nm.part m2 hm2]; exact Nat.mod_lt _ (by decide)
          have hxy : x * y ≤ 999999999 * 999999999 := Nat.mul_le_mul (by omega) (by omega)
          have eij : IntKind.i64.wrap ((i : Int) + (j : Int)) = ((i + j : Nat) : Int) := i64n (by omega) (by omega)
          have hb0 : 0 ≤ IntKind.i64.wrap ((i : Int) + (j : Int)) := by omega
          have hb1 : IntKind.i64.wrap ((i : Int) + (j : Int)) < L := by omega
          have hb2 : (IntKind.i64.wrap ((i : Int) + (j : Int))).toNat = i + j := by omega
          have hix : (m2.map uD)[(IntKind.i64.wrap ((i : Int) + (j : Int))).toNat * 1]? = some (uD e) := ixm (j := i + j) (by rw [he, List.getD_eq_getElem?_getD, List.getElem?_eq_getElem (by omega)]; rfl) (by rw [eij]; omega)
          have en : IntKind.u64.wrap (IntKind.u64.wrap ((e : Int) + IntKind.u64.wrap ((x : Int) * (b.getD j 0 : Nat))) + c) = ((e + x * y + c : Nat) : Int) := by
            rw [Nm.part b hb, ← hy, show ((x : Int) * (y : Int)) = ((x * y : Nat) : Int) by simp, u64w (x := ((x * y : Nat) : Int)) (by omega) (by omega), u64w (x := (e : Int) + ((x * y : Nat) : Int)) (by omega) (by omega), u64w (by omega) (by omega)]
            omega
          replace hy := Pk.mk hy
          replace hx := Pk.mk hx
          replace he := Pk.mk he
          ((conv => whnf); repeat (refine Gq ?_; (conv => whnf)))
          (refine And.intro (by decide +kernel) ?_; apply Exists.intro; apply And.intro; focus ((repeat' ((conv => whnf); first | exact trivial | refine Wo ?_ | refine Lt (by decide) ?_ | refine Lf (by decide) ?_ | refine Cl (by decide) ?_ | refine Cr (by decide) ?_ | refine Both.mk ?_ ?_ | (first | exact Wk.frc (keep := [0, 1, 4, 5, 6, 7, 8, 9, 10, 18, 19, 20, 21, 27, 28, 29]) (N := 58) (by (conv => whnf); first | done | exact rfl) | (refine HfA (at_runs b j (by omega)) ?_) | refine ⟨_, hix, ?_⟩) | refine ⟨_, rfl, ?_⟩ | refine Mi rfl ?_ | (refine And.intro ?_ ?_))); all_goals (first | decide | rfl | assumption | omega | (dsimp only; omega) | (unfold maxLen; omega) | ((try dsimp only [maxLen]); simp only [List.length_append, List.length_cons, List.length_nil, List.length_map, List.length_range, List.length_set, List.length_replicate]; omega) | ((try dsimp only [maxLen]); simp only [IntKind.wrap_i64, IntKind.wrap_u64, List.length_append, List.length_cons, List.length_nil, List.length_map, List.length_range, List.length_set, List.length_replicate]; omega) | ((try dsimp only [maxLen]); simp only [List.length_append, List.length_cons, List.length_nil, List.length_map, List.length_range, List.length_set, List.length_replicate] at *; omega))))
          ((conv => whnf); repeat ((first | refine Wo ?_ | refine Lt (by decide) ?_ | refine Lf (by decide) ?_ | refine Cl (by decide) ?_ | refine Cr (by decide) ?_ | refine ⟨_, rfl, ?_⟩ | refine Mi rfl ?_ | (refine And.intro ArA ?_)); (conv => whnf)))
          refine ih2 (j + 1, m2.set (i + j) ((e + x * y + c) % 1000000000), (e + x * y + c) / 1000000000) _ ⟨by omega, by omega, pt_set hm2 _ _ (Nat.mod_lt _ (by decide)), by simp [hml2], ?_, ?_⟩ ?_
          · dsimp only; omega
          · exact prod_step (by omega) he.out hy.out rfl hv2.out
          · dsimp only
            (refine Wk.to _ _ ?_ ?_ <;> (repeat' first | exact trivial | rfl | (refine And.intro ?_ ?_)))
            · exact inE (by rw [en, tdivB, u64w (by omega) (by omega)])
            · exact inE (i64n (by simp) (by omega))
            · exact arE (by rw [en, tmodB, hb2]; exact (congrArg (fun o => putCells (m2.map uD) o _) (Nat.mul_one _)).trans (putC (by omega))) rfl
        · have hjj : j = b.length + 1 := by simp at hlt2; omega
          have hv3 := hv2.out
          have hB : mv b < 1000000000 ^ j := Nat.lt_of_lt_of_le (mv_lt b hb) (Nat.pow_le_pow_right (by decide) (by omega))
          rw [Nat.mod_eq_of_lt hB] at hv3
          have hc0 : c = 0 := by
            rcases Nat.eq_zero_or_pos c with h | h
            · exact h
            · exfalso
              have hS := hS.out
              rw [hjj, ← Nat.add_assoc] at hv3
              have : 1 * 1000000000 ^ (i + b.length + 1) ≤ c * 1000000000 ^ (i + b.length + 1) := Nat.mul_le_mul_right _ h
              omega
          subst hc0
          ((conv => whnf); repeat ((first | refine Wo ?_ | refine Lt (by decide) ?_ | refine Lf (by decide) ?_ | refine Cl (by decide) ?_ | refine Cr (by decide) ?_ | refine ⟨_, rfl, ?_⟩ | refine Mi rfl ?_ | (refine And.intro ArA ?_)); (conv => whnf)))
          refine ih (i + 1, m2) _ ⟨by omega, by omega, hm2, hml2, ?_⟩ ?_
          · dsimp only
            rw [hnext.out]
            omega
          · dsimp only
            (refine Wk.to _ _ ?_ ?_ <;> (repeat' first | exact trivial | rfl | (refine And.intro ?_ ?_)))
            exact inE (i64n (by simp) (by omega))
      · (refine Wk.to _ _ ?_ ?_ <;> (repeat' first | exact trivial | rfl | (refine And.intro ?_ ?_)))
        exact inE (i64n (by simp) (by omega))
    · have hii : i = a.length := by simp at hlt; omega
      have hv := hv.out
      rw [hii, Nat.mod_eq_of_lt (mv_lt a ha)] at hv
      rw [← hv]
      ((conv => whnf); repeat (refine Gq ?_; (conv => whnf)))
      rw [← hml]
      ((conv => whnf); (refine HrA (trim_runs m hm (by omega)) ?_); ((conv => whnf); repeat (refine Gq ?_; (conv => whnf))))
      exact TeA
  · (refine Wk.to _ _ ?_ ?_ <;> (repeat' first | exact trivial | rfl | (refine And.intro ?_ ?_)))
    · exact arE (by rw [eL]; simp) (by rw [eL]; simp)
theorem times_runs' (a : List Nat) (x : Nat) (r : List Nat) (ht : Runs Tryz.prog 202 [rU [x] none] (rU (mg x) none)) (hp : Runs Tryz.prog 156 [rU a none, rU (mg x) none] (rU r none)) : Runs Tryz.prog 235 [rU a none, uD x] (rU r none) := by
  refine Runs.wp Am.hT Am.hm Tryz.func235 rfl (by decide) ⟨[], [0, 1, 4], 10⟩ ?_; ((conv => whnf); repeat (refine Gq ?_; (conv => whnf)))
  ((conv => whnf); (refine HrA ht ?_); ((conv => whnf); repeat (refine Gq ?_; (conv => whnf))))
  ((conv => whnf); (refine HrA hp ?_); ((conv => whnf); repeat (refine Gq ?_; (conv => whnf))))
  exact TeA
end Go.Proofs.YtkhgpnbhnipndaaGreatDoor.Am
end
section
/- Which of two sizes is greater. -/
namespace Go.Proofs.YtkhgpnbhnipndaaGreatDoor.Am
open Go Go.RowKit Go.Proofs.YtkhgpnbhnipndaaGreatDoor.Nm
set_option linter.unusedVariables false
set_option linter.unusedSimpArgs false
set_option maxRecDepth 100000
set_option maxHeartbeats 1000000
def cmpZ (x y : Int) : Int := if x < y then -1 else if x > y then 1 else 0
theorem nanI_runs (x : Int) : Runs Tryz.prog 256 [iD x] (bD false) := by
  refine Runs.wp Am.hT Am.hm Tryz.func256 rfl (by decide) ⟨[], [0, 2], 6⟩ ?_; ((conv => whnf); repeat (refine Gq ?_; (conv => whnf)))
  refine Lf (by simp) ?_
  ((conv => whnf); repeat (refine Gq ?_; (conv => whnf)))
  exact TeA
theorem nanU_runs (x : Nat) : Runs Tryz.prog 257 [uD x] (bD false) := by
  refine Runs.wp Am.hT Am.hm Tryz.func257 rfl (by decide) ⟨[], [0, 2], 6⟩ ?_; ((conv => whnf); repeat (refine Gq ?_; (conv => whnf)))
  refine Lf (by simp) ?_
  ((conv => whnf); repeat (refine Gq ?_; (conv => whnf)))
  exact TeA
theorem cmpI_runs (x y : Int) : Runs Tryz.prog 232 [iD x, iD y] (iD (cmpZ x y)) := by
  unfold cmpZ
  by_cases h1 : x < y
  · rw [if_pos h1]
    refine Runs.wp Am.hT Am.hm Tryz.func232 rfl (by decide) ⟨[], [0, 1, 4, 5, 6, 11, 12, 13, 16, 19], 20⟩ ?_; ((conv => whnf); repeat (refine Gq ?_; (conv => whnf)))
    ((conv => whnf); (refine HfA (nanI_runs x) ?_); ((conv => whnf); repeat (refine Gq ?_; (conv => whnf))))
    ((conv => whnf); (refine HfA (nanI_runs y) ?_); ((conv => whnf); repeat (refine Gq ?_; (conv => whnf))))
    refine Lt (by simpa using h1) ?_
    ((conv => whnf); repeat (refine Gq ?_; (conv => whnf)))
    exact TeA
  · rw [if_neg h1]
    by_cases h2 : x > y
    · rw [if_pos h2]
      refine Runs.wp Am.hT Am.hm Tryz.func232 rfl (by decide) ⟨[], [0, 1, 4, 5, 6, 11, 12, 13, 16, 19], 20⟩ ?_; ((conv => whnf); repeat (refine Gq ?_; (conv => whnf)))
      ((conv => whnf); (refine HfA (nanI_runs x) ?_); ((conv => whnf); repeat (refine Gq ?_; (conv => whnf))))
      ((conv => whnf); (refine HfA (nanI_runs y) ?_); ((conv => whnf); repeat (refine Gq ?_; (conv => whnf))))
      refine Lf (by simpa using h1) ?_
      ((conv => whnf); repeat (refine Gq ?_; (conv => whnf)))
      refine Lt (by simpa using h2) ?_
      ((conv => whnf); repeat (refine Gq ?_; (conv => whnf)))
      exact TeA
    · rw [if_neg h2]
      refine Runs.wp Am.hT Am.hm Tryz.func232 rfl (by decide) ⟨[], [0, 1, 4, 5, 6, 11, 12, 13, 16, 19], 20⟩ ?_; ((conv => whnf); repeat (refine Gq ?_; (conv => whnf)))
      ((conv => whnf); (refine HfA (nanI_runs x) ?_); ((conv => whnf); repeat (refine Gq ?_; (conv => whnf))))
      ((conv => whnf); (refine HfA (nanI_runs y) ?_); ((conv => whnf); repeat (refine Gq ?_; (conv => whnf))))
      refine Lf (by simpa using h1) ?_
      ((conv => whnf); repeat (refine Gq ?_; (conv => whnf)))
      refine Lf (by simpa using h2) ?_
      ((conv => whnf); repeat (refine Gq ?_; (conv => whnf)))
      exact TeA
theorem cmpU_runs (x y : Nat) : Runs Tryz.prog 233 [uD x, uD y] (iD (cmpZ x y)) := by
  unfold cmpZ
  by_cases h1 : (x : Int) < y
  · rw [if_pos h1]
    refine Runs.wp Am.hT Am.hm Tryz.func233 rfl (by decide) ⟨[], [0, 1, 4, 5, 6, 11, 12, 13, 16, 19], 20⟩ ?_; ((conv => whnf); repeat (refine Gq ?_; (conv => whnf)))
    ((conv => whnf); (refine HfA (nanU_runs x) ?_); ((conv => whnf); repeat (refine Gq ?_; (conv => whnf))))
    ((conv => whnf); (refine HfA (nanU_runs y) ?_); ((conv => whnf); repeat (refine Gq ?_; (conv => whnf))))
    refine Lt (by simpa using h1) ?_
    ((conv => whnf); repeat (refine Gq ?_; (conv => whnf)))
    exact TeA
  · rw [if_neg h1]
    by_cases h2 : (x : Int) > y
    · rw [if_pos h2]
      refine Runs.wp Am.hT Am.hm Tryz.func233 rfl (by decide) ⟨[], [0, 1, 4, 5, 6, 11, 12, 13, 16, 19], 20⟩ ?_; ((conv => whnf); repeat (refine Gq ?_; (conv => whnf)))
      ((conv => whnf); (refine HfA (nanU_runs x) ?_); ((conv => whnf); repeat (refine Gq ?_; (conv => whnf))))
      ((conv => whnf); (refine HfA (nanU_runs y) ?_); ((conv => whnf); repeat (refine Gq ?_; (conv => whnf))))
      refine Lf (by simpa using h1) ?_
      ((conv => whnf); repeat (refine Gq ?_; (conv => whnf)))
      refine Lt (by simpa using h2) ?_
      ((conv => whnf); repeat (refine Gq ?_; (conv => whnf)))
      exact TeA
    · rw [if_neg h2]
      refine Runs.wp Am.hT Am.hm Tryz.func233 rfl (by decide) ⟨[], [0, 1, 4, 5, 6, 11, 12, 13, 16, 19], 20⟩ ?_; ((conv => whnf); repeat (refine Gq ?_; (conv => whnf)))
      ((conv => whnf); (refine HfA (nanU_runs x) ?_); ((conv => whnf); repeat (refine Gq ?_; (conv => whnf))))
      ((conv => whnf); (refine HfA (nanU_runs y) ?_); ((conv => whnf); repeat (refine Gq ?_; (conv => whnf))))
      refine Lf (by simpa using h1) ?_
      ((conv => whnf); repeat (refine Gq ?_; (conv => whnf)))
      refine Lf (by simpa using h2) ?_
      ((conv => whnf); repeat (refine Gq ?_; (conv => whnf)))
      exact TeA
/-- from the top on -/
def topC (a b : List Nat) : Nat → Int
  | 0 => 0
  | r + 1 => if a.getD r 0 = b.getD r 0 then topC a b r else cmpZ (a.getD r 0 : Nat) (b.getD r 0 : Nat)
theorem cmpZ_ne {x y : Int} (h : x ≠ y) : cmpZ x y ≠ 0 := by
  unfold cmpZ
  split
  · decide
  · split
    · decide
    · omega
theorem cmpZ_self (x : Int) : cmpZ x x = 0 := by simp [cmpZ]
theorem compare_no {a b : List Nat} (hab : a.length ≠ b.length) : Runs Tryz.prog 199 [rU a none, rU b none] (iD (cmpZ a.length b.length)) := by
  refine Runs.wp Am.hT Am.hm Tryz.func199 rfl (by decide) ⟨[(6, .first 1 (.first 5 (.load 0 [2, 3, 8, 9] (.first 2 (.load 3 [8, 9] (.load 4 [6, 7, 8, 9] (.first 6 (.load 7 [8, 9] (.alt 8 (.first 9 .done) .nil)))))))))], [0, 1, 2, 3, 4, 5, 6, 7, 14, 17, 18, 30], 32⟩ ?_; ((conv => whnf); repeat (refine Gq ?_; (conv => whnf)))
  ((conv => whnf); (refine HfA (cmpI_runs a.length b.length) ?_); ((conv => whnf); repeat (refine Gq ?_; (conv => whnf))))
  refine Lt (by have := cmpZ_ne (show (a.length : Int) ≠ b.length by omega); simpa using this) ?_
  ((conv => whnf); repeat (refine Gq ?_; (conv => whnf)))
  exact TeA
noncomputable def cmT (a b : List Nat) : List (Nat × V) := [(0, .d (rU a none)), (1, .d (rU b none)), (2, .pt 0 0), (3, .pt 1 0), (4, .pt 2 0), (5, .d (iD 0)), (14, .d (bD false)), (17, .fn 250 [.pt 3 0])]
noncomputable def cmQ (a b : List Nat) (lp : Option Ob) (c : Int) (r : Int) : St :=
  { t := pin [(0, .yl 4), (1, .pt 3 0), (3, .d (iD r))], N := 19, h := hpin [some (.st 174 [.d (rU a none)]), some (.st 174 [.d (rU b none)]), some (.st 3 [.d (iD c)]), some (.st 174 [.d (rU a none)]), lp], n := 5, lo := 5 }
theorem compare_eq {a b : List Nat} (hab : a.length = b.length) (hl : a.length ≤ 1000000) : Runs Tryz.prog 199 [rU a none, rU b none] (iD (topC a b a.length)) := by
  refine Runs.wp Am.hT Am.hm Tryz.func199 rfl (by decide) ⟨[(6, .first 1 (.first 5 (.load 0 [2, 3, 8, 9] (.first 2 (.load 3 [8, 9] (.load 4 [6, 7, 8, 9] (.first 6 (.load 7 [8, 9] (.alt 8 (.first 9 .done) .nil)))))))))], [0, 1, 2, 3, 4, 5, 6, 7, 14, 17, 18, 30], 32⟩ ?_; ((conv => whnf); repeat (refine Gq ?_; (conv => whnf)))
  ((conv => whnf); (refine HfA (cmpI_runs a.length b.length) ?_); ((conv => whnf); repeat (refine Gq ?_; (conv => whnf))))
  rw [show cmpZ a.length b.length = 0 by unfold cmpZ; rw [hab]; simp]
  ((conv => whnf); repeat (refine Gq ?_; (conv => whnf)))
  ((conv => whnf); refine Hc.inl Am.hT Am.hm Tryz.func228 rfl (by decide) ⟨[], [0, 1, 2], 4⟩ ?_; ((conv => whnf); repeat (refine Gq ?_; (conv => whnf))))
  ((conv => whnf); refine Hc.inl Am.hT Am.hm Tryz.func250 rfl (by decide) ⟨[], [0, 1, 3, 8, 18], 19⟩ ?_; ((conv => whnf); repeat (refine Gq ?_; (conv => whnf))))
  refine loop_ind (fun k r => k = r + 1 ∧ r ≤ a.length ∧ topC a b r = topC a b a.length) (fun r => cmQ a b (lpOf Tryz.f199 .ready none (cmT a b)) 0 (r - 1 : Int)) (fun x h => by omega) ?_ (a.length + 1) a.length ⟨rfl, Nat.le_refl _, rfl⟩ _ ?_
  · rintro k r R ih ⟨hk, hr, hC⟩
    rw [← hC]
    unfold cmQ
    cases r with
    | zero =>
      ((conv => whnf); repeat (refine Gq ?_; (conv => whnf)))
      exact TeA
    | succ r =>
      have e1 : (((r + 1 : Nat) : Int) - 1) = (r : Int) := by omega
      have hra : (a.map uD)[(r : Int).toNat * 1]? = some (uD (a.getD r 0)) := ixm (j := r) (by simp [show r < a.length by omega]) (by simp)
      have hrb : (b.map uD)[(r : Int).toNat * 1]? = some (uD (b.getD r 0)) := ixm (j := r) (by simp [show r < b.length by omega]) (by simp)
      have h8 := cmpU_runs (a.getD r 0) (b.getD r 0)
      rw [e1]
      by_cases he : a.getD r 0 = b.getD r 0
      · have hC' : topC a b r = topC a b (r + 1) := by rw [topC, if_pos he]
        rw [← he, cmpZ_self] at h8
        rw [← he] at hrb
        ((conv => whnf); repeat (refine Gq ?_; (conv => whnf)))
        refine Lt (by simp) ?_
        ((conv => whnf); repeat ((first | refine Wo ?_ | refine Lt (by decide) ?_ | refine Lf (by decide) ?_ | refine Cl (by decide) ?_ | refine Cr (by decide) ?_ | refine ⟨_, rfl, ?_⟩ | refine Mi rfl ?_ | (refine And.intro ArA ?_)); (conv => whnf)))
        ((conv => whnf); refine ⟨_, hra, ?_⟩; ((conv => whnf); repeat (refine Gq ?_; (conv => whnf))))
        ((conv => whnf); refine Yc.of_wp Am.hT Am.hm ⟨[(6, .first 1 (.first 5 (.load 0 [2, 3, 8, 9] (.first 2 (.load 3 [8, 9] (.load 4 [6, 7, 8, 9] (.first 6 (.load 7 [8, 9] (.alt 8 (.first 9 .done) .nil)))))))))], [0, 1, 2, 3, 4, 5, 6, 7, 14, 17, 18, 30], 32⟩ rfl rfl ?_; ((conv => whnf); repeat (refine Gq ?_; (conv => whnf))))
        (refine And.intro (by decide +kernel) ?_; apply Exists.intro; apply And.intro; focus ((repeat' ((conv => whnf); first | exact trivial | refine Wo ?_ | refine Lt (by decide) ?_ | refine Lf (by decide) ?_ | refine Cl (by decide) ?_ | refine Cr (by decide) ?_ | refine Both.mk ?_ ?_ | (first | exact Wk.frc (keep := [0, 1, 2, 3, 4, 5, 6, 7, 14, 17, 18, 30]) (N := 32) (by (conv => whnf); first | done | exact rfl) | (refine HfA h8 ?_) | refine ⟨_, hra, ?_⟩ | refine ⟨_, hrb, ?_⟩) | refine ⟨_, rfl, ?_⟩ | refine Mi rfl ?_ | (refine And.intro ?_ ?_))); all_goals (first | decide | rfl | assumption | omega | (dsimp only; omega) | (unfold maxLen; omega) | ((try dsimp only [maxLen]); simp only [List.length_append, List.length_cons, List.length_nil, List.length_map, List.length_range, List.length_set, List.length_replicate]; omega) | ((try dsimp only [maxLen]); simp only [IntKind.wrap_i64, IntKind.wrap_u64, List.length_append, List.length_cons, List.length_nil, List.length_map, List.length_range, List.length_set, List.length_replicate]; omega) | ((try dsimp only [maxLen]); simp only [List.length_append, List.length_cons, List.length_nil, List.length_map, List.length_range, List.length_set, List.length_replicate] at *; omega))))
        ((conv => whnf); repeat (refine Gq ?_; (conv => whnf)))
        refine ih r _ ⟨by omega, by omega, by rw [hC', hC]⟩ ?_
        (refine Wk.to _ _ ?_ ?_ <;> (repeat' first | exact trivial | rfl | (refine And.intro ?_ ?_)))
        exact inE (i64w (by omega) (by omega))
      · rw [topC, if_neg he]
        ((conv => whnf); repeat (refine Gq ?_; (conv => whnf)))
        refine Lt (by simp) ?_
        ((conv => whnf); repeat ((first | refine Wo ?_ | refine Lt (by decide) ?_ | refine Lf (by decide) ?_ | refine Cl (by decide) ?_ | refine Cr (by decide) ?_ | refine ⟨_, rfl, ?_⟩ | refine Mi rfl ?_ | (refine And.intro ArA ?_)); (conv => whnf)))
        ((conv => whnf); refine ⟨_, hra, ?_⟩; ((conv => whnf); repeat (refine Gq ?_; (conv => whnf))))
        ((conv => whnf); refine Yc.of_wp Am.hT Am.hm ⟨[(6, .first 1 (.first 5 (.load 0 [2, 3, 8, 9] (.first 2 (.load 3 [8, 9] (.load 4 [6, 7, 8, 9] (.first 6 (.load 7 [8, 9] (.alt 8 (.first 9 .done) .nil)))))))))], [0, 1, 2, 3, 4, 5, 6, 7, 14, 17, 18, 30], 32⟩ rfl rfl ?_; ((conv => whnf); repeat (refine Gq ?_; (conv => whnf))))
        (refine And.intro (by decide +kernel) ?_; apply Exists.intro; apply And.intro; focus ((repeat' ((conv => whnf); first | exact trivial | refine Wo ?_ | refine Lt (by decide) ?_ | refine Lf (by decide) ?_ | refine Cl (by decide) ?_ | refine Cr (by decide) ?_ | refine Both.mk ?_ ?_ | (first | exact Wk.frc (keep := [0, 1, 2, 3, 4, 5, 6, 7, 14, 17, 18, 30]) (N := 32) (by (conv => whnf); first | done | exact rfl) | (refine HfA h8 ?_) | refine ⟨_, hra, ?_⟩ | refine ⟨_, hrb, ?_⟩) | refine ⟨_, rfl, ?_⟩ | refine Mi rfl ?_ | (refine And.intro ?_ ?_))); all_goals (first | decide | rfl | assumption | omega | (dsimp only; omega) | (unfold maxLen; omega) | ((try dsimp only [maxLen]); simp only [List.length_append, List.length_cons, List.length_nil, List.length_map, List.length_range, List.length_set, List.length_replicate]; omega) | ((try dsimp only [maxLen]); simp only [IntKind.wrap_i64, IntKind.wrap_u64, List.length_append, List.length_cons, List.length_nil, List.length_map, List.length_range, List.length_set, List.length_replicate]; omega) | ((try dsimp only [maxLen]); simp only [List.length_append, List.length_cons, List.length_nil, List.length_map, List.length_range, List.length_set, List.length_replicate] at *; omega))))
        ((conv => whnf); repeat (refine Gq ?_; (conv => whnf)))
        refine Lt (by have := cmpZ_ne (show ((a.getD r 0 : Nat) : Int) ≠ (b.getD r 0 : Nat) by omega); simpa using this) ?_
        ((conv => whnf); repeat (refine Gq ?_; (conv => whnf)))
        exact TeA
  · unfold cmQ
    (refine Wk.to _ _ ?_ ?_ <;> (repeat' first | exact trivial | rfl | (refine And.intro ?_ ?_)))
    exact inE (i64w (by omega) (by omega))
theorem cmpZ_nat (x y : Nat) : cmpZ x y = cmpN x y := by
  unfold cmpZ cmpN
  by_cases h1 : x < y
  · rw [if_pos (by omega), if_pos h1]
  · rw [if_neg (by omega), if_neg h1]
    by_cases h2 : y < x
    · rw [if_pos (by omega), if_pos h2]
    · rw [if_neg (by omega), if_neg h2]
theorem topC_mv (a b : List Nat) (ha : Pt a) (hb : Pt b) : ∀ n, topC a b n = cmpN (mv a % 1000000000 ^ n) (mv b % 1000000000 ^ n)
  | 0 => by simp [topC, Nat.mod_one, cmpN]
  | n + 1 => by
    rw [topC, topC_mv a b ha hb n, cmpZ_nat, Nm.part a ha, Nm.part b hb, low_stepB, low_stepB]
    have h1 := Nat.mod_lt (mv a) (show 0 < 1000000000 ^ n from Nat.pow_pos (by decide))
    have h2 := Nat.mod_lt (mv b) (show 0 < 1000000000 ^ n from Nat.pow_pos (by decide))
    generalize mv a % 1000000000 ^ n = r at *
    generalize mv b % 1000000000 ^ n = s at *
    generalize mv a / 1000000000 ^ n % 1000000000 = c at *
    generalize mv b / 1000000000 ^ n % 1000000000 = d at *
    generalize 1000000000 ^ n = B at *
    have key : ∀ {c d r s : Nat}, r < B → c < d → r + B * c < s + B * d := fun {c d r s} hr hcd => by
      have : B * (c + 1) ≤ B * d := Nat.mul_le_mul_left B hcd
      rw [Nat.mul_succ] at this
      omega
    rcases Nat.lt_trichotomy c d with h | h | h
    · have := key (s := s) h1 h
      rw [if_neg (by omega)]
      unfold cmpN
      rw [if_pos h, if_pos this]
    · subst h
      rw [if_pos rfl]
      unfold cmpN
      simp only [show (r + B * c < s + B * c) ↔ r < s by omega, show (s + B * c < r + B * c) ↔ s < r by omega]
    · have := key (s := r) h2 h
      rw [if_neg (by omega)]
      unfold cmpN
      rw [if_neg (by omega), if_pos h, if_neg (by omega), if_pos this]
theorem compareM_runs (x y : Nat) (hx : (mg x).length ≤ 1000000) : Runs Tryz.prog 199 [rU (mg x) none, rU (mg y) none] (iD (cmpN x y)) := by
  by_cases h : (mg x).length = (mg y).length
  · have := compare_eq (a := mg x) (b := mg y) h hx
    have e1 : mv (mg x) % 1000000000 ^ (mg x).length = x := by rw [Nat.mod_eq_of_lt (mv_lt _ (pt_mg x)), mv_mg]
    have e2 : mv (mg y) % 1000000000 ^ (mg x).length = y := by rw [h, Nat.mod_eq_of_lt (mv_lt _ (pt_mg y)), mv_mg]
    rwa [topC_mv _ _ (pt_mg x) (pt_mg y), e1, e2] at this
  · have := compare_no (a := mg x) (b := mg y) h
    rw [cmpZ_nat] at this
    have e : cmpN (mg x).length (mg y).length = cmpN x y := by
      unfold cmpN
      rcases Nat.lt_or_gt_of_ne h with h1 | h1
      · rw [if_pos h1, if_pos (mg_len_lt h1)]
      · have := mg_len_lt h1
        rw [if_neg (by omega), if_pos h1, if_neg (by omega), if_pos this]
    rwa [e] at this
end Go.Proofs.YtkhgpnbhnipndaaGreatDoor.Am
end
