/- What the law leans on, part 19: declarations of several texts of ours, in their order. -/
import Derived.Test.YtkhgpnbhnipndaaGreatDoorXFS14
import Derived.Test.YtkhgpnbhnipndaaGreatDoorXFS17
section
/- A size divided by another one. -/
namespace Go.Proofs.YtkhgpnbhnipndaaGreatDoor.Am
open Go Go.RowKit Go.Proofs.YtkhgpnbhnipndaaGreatDoor.Nm
set_option linter.unusedVariables false
set_option linter.unusedSimpArgs false
set_option maxRecDepth 100000
set_option maxHeartbeats 16000000
theorem cmpN_le (a b : Nat) : cmpN a b ≤ 0 ↔ a ≤ b := by
  unfold cmpN
  by_cases h1 : a < b
  · rw [if_pos h1]; omega
  · rw [if_neg h1]
    by_cases h2 : b < a
    · rw [if_pos h2]; omega
    · rw [if_neg h2]; omega
theorem timesM_runs (y x : Nat) (hx : x < 1000000000) (hy : (mg y).length ≤ 90000) : Runs Tryz.prog 235 [rU (mg y) none, uD x] (rU (mg (y * x)) none) := by
  have h1 := trim_runs [x] (pt_one hx) (by simp)
  rw [show mv [x] = x by simp [mv]] at h1
  have hl : (mg x).length ≤ 1 := by
    by_cases h : x = 0
    · subst h; simp [mg_zero]
    · rw [mg_pos h, show x / 1000000000 = 0 from Nat.div_eq_of_lt hx, mg_zero]; simp
  have h2 := product_runs (mg y) (mg x) (pt_mg y) (pt_mg x) (by omega) (by omega)
  rw [mv_mg, mv_mg] at h2
  exact times_runs' _ _ _ h1 h2
noncomputable def quT (a b : List Nat) : List (Nat × V) := [(0, .d (rU a none)), (1, .d (rU b none)), (3, .pt 0 0), (4, .d (.v (.slice none 0 0))), (5, .d (.v (.slice none 0 0))), (6, .pt 2 0), (7, .pt 3 0), (17, .fn 250 [.pt 4 0])]
/-- the boxes: the divisor, the quotient's row and its cell, the cell of what is left (its row in box k), the row, the loop -/
noncomputable def quH (a b q : List Nat) (lp : Option Ob) (k : Nat) : List (Option Ob) := [some (.st 174 [.d (rU b none)]), some (.ar 205 1 q.length (q.map uD)), some (.st 174 [.bs 1]), some (.st 174 [.bs k]), some (.st 174 [.d (rU a none)]), lp]
abbrev uR (l : List Nat) : Option Ob := some (.ar 205 1 l.length (l.map uD))
/-- in Backward's loop: r parts to come, the quotient's row, what is left -/
noncomputable def quQ (a b : List Nat) (lp : Option Ob) (q left : List Nat) (r : Int) : St :=
  { t := pin [(0, .yl 5), (1, .pt 4 0), (3, .d (iD r))], N := 19, h := hpin (quH a b q lp 6 ++ [uR left]), n := 7, lo := 6 }
theorem mg_cons {n L : Nat} (hn : n < 1000000000) : mv (n :: mg L) = n + 1000000000 * L := by rw [mv, mv_mg]
theorem mg_mono {x y : Nat} (h : x ≤ y) : (mg x).length ≤ (mg y).length := by
  rcases Nat.lt_or_ge (mg y).length (mg x).length with h1 | h1
  · have := mg_len_lt h1; omega
  · exact h1
theorem mg_base {y : Nat} (hy : 0 < y) : mg (y * 1000000000) = 0 :: mg y := by
  rw [mg_pos (by omega), show y * 1000000000 % 1000000000 = 0 by omega, show y * 1000000000 / 1000000000 = y by omega]
theorem quo_step {x y r n LL lo : Nat} {q : List Nat} (hy : 0 < y) (hr : r < q.length) (hpq : Pt q) (hn : n = (mg x).getD r 0) (hLL : LL = n + 1000000000 * (x / 1000000000 ^ (r + 1) % y)) (hd : lo = LL / y) (hv : mv q = x / 1000000000 ^ (r + 1) / y * 1000000000 ^ (r + 1)) :
    mv (q.set r lo) = x / 1000000000 ^ r / y * 1000000000 ^ r ∧ x / 1000000000 ^ r % y = LL % y := by
  rw [Nm.part _ (pt_mg x), mv_mg] at hn
  have e0 : x / 1000000000 ^ (r + 1) = x / 1000000000 ^ r / 1000000000 := by rw [Nat.pow_succ, Nat.div_div_eq_div_mul]
  rw [e0] at hLL hv
  generalize x / 1000000000 ^ r = X at *
  have h1 := mv_set q r lo hr
  rw [Nm.part q hpq, hv, Nat.pow_succ] at h1
  have hB : 0 < 1000000000 ^ r := Nat.pow_pos (by decide)
  generalize 1000000000 ^ r = B at *
  have e1 : X / 1000000000 / y * (B * 1000000000) / B % 1000000000 = 0 := by
    rw [show X / 1000000000 / y * (B * 1000000000) = B * (X / 1000000000 / y * 1000000000) by rw [Nat.mul_comm B, ← Nat.mul_assoc, Nat.mul_comm]]
    rw [Nat.mul_div_cancel_left _ hB]
    exact Nat.mul_mod_left _ _
  rw [e1, Nat.zero_mul, Nat.add_zero] at h1
  have hX : X = n + 1000000000 * (X / 1000000000) := by rw [hn]; exact (Nat.mod_add_div X 1000000000).symm
  have hX2 : X = LL + y * (1000000000 * (X / 1000000000 / y)) := by
    have h2 := Nat.mod_add_div (X / 1000000000) y
    rw [hLL]
    conv => lhs; rw [hX, ← h2]
    rw [Nat.mul_add, Nat.add_assoc, ← Nat.mul_assoc 1000000000 y, Nat.mul_comm 1000000000 y, Nat.mul_assoc y]
  constructor
  · rw [h1, hd]
    have h3 : X / y = LL / y + 1000000000 * (X / 1000000000 / y) := by
      conv => lhs; rw [hX2]
      rw [Nat.add_mul_div_left _ _ hy]
    rw [h3, Nat.add_mul, Nat.add_comm (LL / y * B), Nat.mul_comm B 1000000000, ← Nat.mul_assoc, Nat.mul_comm (X / 1000000000 / y) 1000000000]
  · conv => lhs; rw [hX2]
    rw [Nat.add_mul_mod_self_left]
theorem quotient_runs (x y : Nat) (hy : 0 < y) (hlx : (mg x).length ≤ 80000) (hly : (mg y).length ≤ 80000) : Runs Tryz.prog 203 [rU (mg x) none, rU (mg y) none] (.tup [rU (mg (x / y)) none, rU (mg (x % y)) none]) := by
  refine Runs.wp Am.hT Am.hm Tryz.func203 rfl (by decide) ⟨[(10, .first 1 (.load 0 [2, 4, 5] (.alt 2 (.load 3 [4, 5] (.alt 4 (.first 5 .done) .nil)) (.alt 3 (.alt 2 (.alt 4 (.first 5 .done) .nil) .nil) .nil)))), (13, .first 1 (.first 2 (.first 5 (.load 4 [6, 7, 8, 9, 10] (.alt 0 (.alt 3 (.alt 6 (.alt 7 (.first 8 (.alt 9 (.alt 10 .done .nil) .nil)) .nil) .nil) (.alt 6 (.load 3 [7, 8, 9, 10] (.alt 7 (.first 8 (.alt 9 (.alt 10 .done .nil) .nil)) .nil)) .nil)) (.alt 3 (.alt 0 (.alt 6 (.alt 7 (.first 8 (.alt 9 (.alt 10 .done .nil) .nil)) .nil) .nil) (.alt 6 (.alt 0 (.alt 7 (.first 8 (.alt 9 (.alt 10 .done .nil) .nil)) .nil) (.alt 7 (.load 0 [8, 9, 10] (.first 8 (.alt 9 (.alt 10 .done .nil) .nil))) .nil)) .nil)) (.alt 6 (.load 3 [7, 8, 9, 10] (.alt 0 (.alt 7 (.first 8 (.alt 9 (.alt 10 .done .nil) .nil)) .nil) (.alt 7 (.load 0 [8, 9, 10] (.first 8 (.alt 9 (.alt 10 .done .nil) .nil))) .nil))) .nil))))))), (14, .load 0 [1, 3, 4] (.alt 1 (.first 3 (.load 2 [4] (.first 4 .done))) (.alt 2 (.alt 1 (.first 3 (.first 4 .done)) .nil) .nil)))], [0, 1, 3, 4, 5, 6, 7, 8, 9, 10, 11, 12, 17, 18, 19, 28, 38], 53⟩ ?_; ((conv => whnf); repeat (refine Gq ?_; (conv => whnf)))
  ((conv => whnf); repeat ((first | refine Wo ?_ | refine Lt (by decide) ?_ | refine Lf (by decide) ?_ | refine Cl (by decide) ?_ | refine Cr (by decide) ?_ | refine ⟨_, rfl, ?_⟩ | refine Mi rfl ?_ | (refine And.intro ArA ?_)); (conv => whnf)))
  ((conv => whnf); refine Hc.inl Am.hT Am.hm Tryz.func228 rfl (by decide) ⟨[], [0, 1, 2], 4⟩ ?_; ((conv => whnf); repeat (refine Gq ?_; (conv => whnf))))
  ((conv => whnf); refine Hc.inl Am.hT Am.hm Tryz.func250 rfl (by decide) ⟨[], [0, 1, 3, 8, 18], 19⟩ ?_; ((conv => whnf); repeat (refine Gq ?_; (conv => whnf))))
  refine loop_ind (fun k (z : Nat × List Nat) => k = z.1 + 1 ∧ z.1 ≤ (mg x).length ∧ Pt z.2 ∧ z.2.length = (mg x).length ∧ mv z.2 = x / 1000000000 ^ z.1 / y * 1000000000 ^ z.1) (fun z => quQ (mg x) (mg y) (lpOf Tryz.f203 .ready none (quT (mg x) (mg y))) z.2 (mg (x / 1000000000 ^ z.1 % y)) (z.1 - 1 : Int)) (fun x h => by omega) ?_ ((mg x).length + 1) ((mg x).length, List.replicate (mg x).length 0) ⟨rfl, Nat.le_refl _, pt_zeros _, by simp, ?_⟩ _ ?_
  · rintro k ⟨r, q⟩ R ih ⟨hk, hr, hpq, hlq, hv⟩
    simp only at *
    unfold quQ
    cases r with
    | zero =>
      rw [Nat.pow_zero, Nat.div_one, Nat.mul_one] at hv
      rw [Nat.pow_zero, Nat.div_one, ← hv]
      have ht := trim_runs q hpq (by omega)
      ((conv => whnf); repeat (refine Gq ?_; (conv => whnf)))
      (refine And.intro (by decide +kernel) ?_; apply Exists.intro; apply And.intro; focus ((repeat' ((conv => whnf); first | exact trivial | refine Wo ?_ | refine Lt (by decide) ?_ | refine Lf (by decide) ?_ | refine Cl (by decide) ?_ | refine Cr (by decide) ?_ | refine Both.mk ?_ ?_ | (first | exact Wk.frc (keep := [0, 1, 3, 4, 5, 6, 7, 8, 9, 10, 11, 12, 17, 18, 19, 28, 38]) (N := 53) (by (conv => whnf); first | done | exact rfl) | (refine HrA ht ?_)) | refine ⟨_, rfl, ?_⟩ | refine Mi rfl ?_ | (refine And.intro ?_ ?_))); all_goals (first | decide | rfl | assumption | omega | (dsimp only; omega) | (unfold maxLen; omega) | ((try dsimp only [maxLen]); simp only [List.length_append, List.length_cons, List.length_nil, List.length_map, List.length_range, List.length_set, List.length_replicate]; omega) | ((try dsimp only [maxLen]); simp only [IntKind.wrap_i64, IntKind.wrap_u64, List.length_append, List.length_cons, List.length_nil, List.length_map, List.length_range, List.length_set, List.length_replicate]; omega) | ((try dsimp only [maxLen]); simp only [List.length_append, List.length_cons, List.length_nil, List.length_map, List.length_range, List.length_set, List.length_replicate] at *; omega))))
      ((conv => whnf); repeat (refine Gq ?_; (conv => whnf)))
      exact TeA
    | succ r =>
      have e1 : (((r + 1 : Nat) : Int) - 1) = (r : Int) := by omega
      obtain ⟨n, hn⟩ : ∃ n, n = (mg x).getD r 0 := ⟨_, rfl⟩
      obtain ⟨L, hL⟩ : ∃ L, L = x / 1000000000 ^ (r + 1) % y := ⟨_, rfl⟩
      have hn9 : n < 1000000000 := by rw [hn, Nm.part _ (pt_mg x)]; exact Nat.mod_lt _ (by decide)
      have hra : ((mg x).map uD)[(r : Int).toNat * 1]? = some (uD n) := ixm (j := r) (by rw [hn]; simp [show r < (mg x).length by omega]) (by simp)
      have hll : (mg L).length ≤ 80000 := by
        have : L < y := by rw [hL]; exact Nat.mod_lt _ hy
        have := mg_mono (Nat.le_of_lt this)
        omega
      have hcl : ∀ m, m ≤ 1000000000 → (mg (y * m)).length ≤ 80001 := fun m hm => Nat.le_trans (mg_mono (Nat.mul_le_mul_left y hm)) (by rw [mg_base hy]; simp; omega)
      replace hn := Pk.mk hn
      replace hv := Pk.mk hv
      rw [e1, ← hL]
      ((conv => whnf); repeat (refine Gq ?_; (conv => whnf)))
      refine Lt (by simp) ?_
      ((conv => whnf); repeat ((first | refine Wo ?_ | refine Lt (by decide) ?_ | refine Lf (by decide) ?_ | refine Cl (by decide) ?_ | refine Cr (by decide) ?_ | refine ⟨_, rfl, ?_⟩ | refine Mi rfl ?_ | (refine And.intro ArA ?_)); (conv => whnf)))
      ((conv => whnf); refine ⟨_, hra, ?_⟩; ((conv => whnf); repeat (refine Gq ?_; (conv => whnf))))
      ((conv => whnf); refine Yc.of_wp Am.hT Am.hm ⟨[(10, .first 1 (.load 0 [2, 4, 5] (.alt 2 (.load 3 [4, 5] (.alt 4 (.first 5 .done) .nil)) (.alt 3 (.alt 2 (.alt 4 (.first 5 .done) .nil) .nil) .nil)))), (13, .first 1 (.first 2 (.first 5 (.load 4 [6, 7, 8, 9, 10] (.alt 0 (.alt 3 (.alt 6 (.alt 7 (.first 8 (.alt 9 (.alt 10 .done .nil) .nil)) .nil) .nil) (.alt 6 (.load 3 [7, 8, 9, 10] (.alt 7 (.first 8 (.alt 9 (.alt 10 .done .nil) .nil)) .nil)) .nil)) (.alt 3 (.alt 0 (.alt 6 (.alt 7 (.first 8 (.alt 9 (.alt 10 .done .nil) .nil)) .nil) .nil) (.alt 6 (.alt 0 (.alt 7 (.first 8 (.alt 9 (.alt 10 .done .nil) .nil)) .nil) (.alt 7 (.load 0 [8, 9, 10] (.first 8 (.alt 9 (.alt 10 .done .nil) .nil))) .nil)) .nil)) (.alt 6 (.load 3 [7, 8, 9, 10] (.alt 0 (.alt 7 (.first 8 (.alt 9 (.alt 10 .done .nil) .nil)) .nil) (.alt 7 (.load 0 [8, 9, 10] (.first 8 (.alt 9 (.alt 10 .done .nil) .nil))) .nil))) .nil))))))), (14, .load 0 [1, 3, 4] (.alt 1 (.first 3 (.load 2 [4] (.first 4 .done))) (.alt 2 (.alt 1 (.first 3 (.first 4 .done)) .nil) .nil)))], [0, 1, 3, 4, 5, 6, 7, 8, 9, 10, 11, 12, 17, 18, 19, 28, 38], 53⟩ rfl rfl ?_; ((conv => whnf); repeat (refine Gq ?_; (conv => whnf))))
      refine insert_hc rfl rfl (show (6 : Nat) ≠ 7 by decide) (by omega) ?_
      ((conv => whnf); repeat (refine Gq ?_; (conv => whnf)))
      ((conv => whnf); refine Hc.inl Am.hT Am.hm Tryz.func202 rfl (by decide) ⟨[], [0, 2, 14], 21⟩ ?_; ((conv => whnf); repeat (refine Gq ?_; (conv => whnf))))
      have hpl : Pt (n :: mg L) := fun z hz => by
        rcases List.mem_cons.1 hz with rfl | hz
        · exact hn9
        · exact pt_mg L z hz
      refine loop_ind (fun k (l : List Nat) => l.length < k ∧ l.length ≤ 100000 ∧ Pt l ∧ mv l = n + 1000000000 * L) (fun l => { t := pin [(0, .bs 9)], N := 21, h := hpin (quH (mg x) (mg y) q (lpOf Tryz.f203 .busy none (quT (mg x) (mg y))) 6 ++ [none, uR [n], none, uR l]), n := 10, lo := 9 }) (fun l h => by omega) ?_ ((n :: mg L).length + 1) (n :: mg L) ⟨by omega, by simp; omega, hpl, mg_cons hn9⟩ _ ?_
      · rintro k l R2 ih2 ⟨hk2, hl1, hl, hv2⟩
        by_cases hz : ∃ p, l = p ++ [0]
        · obtain ⟨p, rfl⟩ := hz
          have e1 : IntKind.i64.wrap (((p ++ [0]).length : Nat) - 1) = p.length := i64n (by simp) (by simp at hl1; omega)
          have e2 : 0 ≤ IntKind.i64.wrap (((p ++ [0]).length : Nat) - 1) := by omega
          have e3 : IntKind.i64.wrap (((p ++ [0]).length : Nat) - 1) < ((p ++ [0]).length : Nat) := by rw [e1]; simp; omega
          have e4 : IntKind.i64.wrap (((p ++ [0]).length : Nat) - 1) ≤ ((p ++ [0]).length : Nat) := by omega
          ((conv => whnf); repeat (refine Gq ?_; (conv => whnf)))
          refine Lt (by simp) ?_
          ((conv => whnf); repeat ((first | refine Wo ?_ | refine Lt (by decide) ?_ | refine Lf (by decide) ?_ | refine Cl (by decide) ?_ | refine Cr (by decide) ?_ | refine ⟨_, rfl, ?_⟩ | refine Mi rfl ?_ | (refine And.intro ArA ?_)); (conv => whnf)))
          ((conv => whnf); refine ⟨_, ixm (j := p.length) (x := 0) (by simp) (by rw [e1]; simp), ?_⟩; ((conv => whnf); repeat (refine Gq ?_; (conv => whnf))))
          ((conv => whnf); repeat ((first | refine Wo ?_ | refine Lt (by decide) ?_ | refine Lf (by decide) ?_ | refine Cl (by decide) ?_ | refine Cr (by decide) ?_ | refine ⟨_, rfl, ?_⟩ | refine Mi rfl ?_ | (refine And.intro ArA ?_)); (conv => whnf)))
          refine ih2 p _ ⟨by simp at hk2; omega, by simp at hl1; omega, fun y hy => hl y (by simp [hy]), ?_⟩ ?_
          · rw [← hv2, mv_snoc]
            simp
          · (refine Wk.pin [0, 1, 2, 3, 4, 5, 6, 7, 8, 10] _ _ ?_ ?_ rfl rfl (by decide) rfl rfl <;> (repeat' first | exact trivial | rfl | (refine And.intro ?_ ?_)))
            exact arE (by rw [e1]; simp) (by rw [e1]; simp)
        · obtain ⟨LL, hLL⟩ : ∃ LL, LL = n + 1000000000 * L := ⟨_, rfl⟩
          have hfin : l = mg LL := by
            rw [hLL, ← hv2]
            exact (canonM l hl fun p z e h0 => hz ⟨p, by rw [e, h0]⟩).symm
          have hl2 : l.length ≤ 100000 := hl1
          rcases snoc_cases l with hnil | ⟨p, z, hpz⟩
          focus
            subst hnil
            ((conv => whnf); repeat (refine Gq ?_; (conv => whnf)))
          rotate_left
          have hz0 : z ≠ 0 := fun e => hz ⟨p, by rw [hpz, e]⟩
          have e0 : l.length = p.length + 1 := by rw [hpz]; simp
          have e1 : IntKind.i64.wrap ((l.length : Nat) - 1) = p.length := i64n (by omega) (by omega)
          have e2 : 0 ≤ IntKind.i64.wrap ((l.length : Nat) - 1) := by omega
          have e3 : IntKind.i64.wrap ((l.length : Nat) - 1) < (l.length : Nat) := by omega
          ((conv => whnf); repeat (refine Gq ?_; (conv => whnf)))
          refine Lt (by rw [e0]; simp) ?_
          ((conv => whnf); repeat ((first | refine Wo ?_ | refine Lt (by decide) ?_ | refine Lf (by decide) ?_ | refine Cl (by decide) ?_ | refine Cr (by decide) ?_ | refine ⟨_, rfl, ?_⟩ | refine Mi rfl ?_ | (refine And.intro ArA ?_)); (conv => whnf)))
          ((conv => whnf); refine ⟨_, ixm (j := p.length) (x := z) (by rw [hpz]; simp) (by rw [e1]; simp), ?_⟩; ((conv => whnf); repeat (refine Gq ?_; (conv => whnf))))
          refine Lf (by simpa using hz0) ?_
          ((conv => whnf); repeat (refine Gq ?_; (conv => whnf)))
          all_goals
            refine loop_ind (fun k (z : Nat × Nat) => z.2 - z.1 < k ∧ z.1 < z.2 ∧ z.2 ≤ 1000000000 ∧ y * z.1 ≤ LL ∧ LL < y * z.2) (fun z => { t := pin [(3, .pt 0 0), (6, .pt 2 0), (7, .pt 3 0), (8, .d (iD r)), (9, .d (uD n)), (10, .d (uD z.1)), (11, .d (uD z.2))], N := 53, h := hpin (quH (mg x) (mg y) q (lpOf Tryz.f203 .busy none (quT (mg x) (mg y))) 9 ++ [none, uR [n], none, uR (mg LL)]), n := 10, lo := 7 }) (fun z h => by omega) ?_ 1000000001 (0, 1000000000) ⟨by simp, by simp, by simp, by simp, ?_⟩ _ ?_
            · rintro k3 ⟨lo, hi⟩ R3 ih3 ⟨hk3, hlh, hhi, hlow, hup⟩
              simp only at *
              replace hlow := Pk.mk hlow
              replace hup := Pk.mk hup
              have eh : IntKind.u64.wrap ((hi : Int) - lo) = ((hi - lo : Nat) : Int) := by rw [u64w (by omega) (by omega)]; omega
              have em : IntKind.u64.wrap ((IntKind.u64.wrap ((lo : Int) + hi)).tdiv 2) = (((lo + hi) / 2 : Nat) : Int) := by
                rw [u64w (x := (lo : Int) + hi) (by omega) (by omega), show (lo : Int) + hi = ((lo + hi : Nat) : Int) by omega, show ((lo + hi : Nat) : Int).tdiv 2 = (((lo + hi) / 2 : Nat) : Int) from rfl, u64w (by omega) (by omega)]
              ((conv => whnf); repeat (refine Gq ?_; (conv => whnf)))
              rw [eh]
              ((conv => whnf); refine Lb (fun hgt => ?_) (fun hgt => ?_))
              · have hgt' : 1 < hi - lo := by simp at hgt; omega
                ((conv => whnf); repeat ((first | refine Wo ?_ | refine Lt (by decide) ?_ | refine Lf (by decide) ?_ | refine Cl (by decide) ?_ | refine Cr (by decide) ?_ | refine ⟨_, rfl, ?_⟩ | refine Mi rfl ?_ | (refine And.intro ArA ?_)); (conv => whnf)))
                rw [em]
                have hmid : (lo + hi) / 2 < 1000000000 := by omega
                have ht := timesM_runs y ((lo + hi) / 2) hmid (by omega)
                have hc := compareM_runs (y * ((lo + hi) / 2)) LL (by have := hcl ((lo + hi) / 2) (by omega); omega)
                by_cases hle : y * ((lo + hi) / 2) ≤ LL
                · have hb : decide (cmpN (y * ((lo + hi) / 2)) LL ≤ 0) = true := by rw [decide_eq_true_eq, cmpN_le]; exact hle
                  (refine And.intro (by decide +kernel) ?_; apply Exists.intro; apply And.intro; focus ((repeat' ((conv => whnf); first | exact trivial | refine Wo ?_ | refine Lt (by decide) ?_ | refine Lf (by decide) ?_ | refine Cl (by decide) ?_ | refine Cr (by decide) ?_ | refine Both.mk ?_ ?_ | (first | exact Wk.frc (keep := [0, 1, 3, 4, 5, 6, 7, 8, 9, 10, 11, 12, 17, 18, 19, 28, 38]) (N := 53) (by (conv => whnf); first | done | exact rfl) | (refine HrA ht ?_) | (refine HfA hc ?_) | refine Lt hb ?_) | refine ⟨_, rfl, ?_⟩ | refine Mi rfl ?_ | (refine And.intro ?_ ?_))); all_goals (first | decide | rfl | assumption | omega | (dsimp only; omega) | (unfold maxLen; omega) | ((try dsimp only [maxLen]); simp only [List.length_append, List.length_cons, List.length_nil, List.length_map, List.length_range, List.length_set, List.length_replicate]; omega) | ((try dsimp only [maxLen]); simp only [IntKind.wrap_i64, IntKind.wrap_u64, List.length_append, List.length_cons, List.length_nil, List.length_map, List.length_range, List.length_set, List.length_replicate]; omega) | ((try dsimp only [maxLen]); simp only [List.length_append, List.length_cons, List.length_nil, List.length_map, List.length_range, List.length_set, List.length_replicate] at *; omega))))
                  ((conv => whnf); repeat (refine Gq ?_; (conv => whnf)))
                  refine ih3 ((lo + hi) / 2, hi) _ ⟨by dsimp only; omega, by dsimp only; omega, hhi, hle, hup.out⟩ ?_
                  (refine Wk.to _ _ ?_ ?_ <;> (repeat' first | exact trivial | rfl | (refine And.intro ?_ ?_)))
                · have hb : decide (cmpN (y * ((lo + hi) / 2)) LL ≤ 0) = false := by rw [decide_eq_false_iff_not, cmpN_le]; exact hle
                  (refine And.intro (by decide +kernel) ?_; apply Exists.intro; apply And.intro; focus ((repeat' ((conv => whnf); first | exact trivial | refine Wo ?_ | refine Lt (by decide) ?_ | refine Lf (by decide) ?_ | refine Cl (by decide) ?_ | refine Cr (by decide) ?_ | refine Both.mk ?_ ?_ | (first | exact Wk.frc (keep := [0, 1, 3, 4, 5, 6, 7, 8, 9, 10, 11, 12, 17, 18, 19, 28, 38]) (N := 53) (by (conv => whnf); first | done | exact rfl) | (refine HrA ht ?_) | (refine HfA hc ?_) | refine Lf hb ?_) | refine ⟨_, rfl, ?_⟩ | refine Mi rfl ?_ | (refine And.intro ?_ ?_))); all_goals (first | decide | rfl | assumption | omega | (dsimp only; omega) | (unfold maxLen; omega) | ((try dsimp only [maxLen]); simp only [List.length_append, List.length_cons, List.length_nil, List.length_map, List.length_range, List.length_set, List.length_replicate]; omega) | ((try dsimp only [maxLen]); simp only [IntKind.wrap_i64, IntKind.wrap_u64, List.length_append, List.length_cons, List.length_nil, List.length_map, List.length_range, List.length_set, List.length_replicate]; omega) | ((try dsimp only [maxLen]); simp only [List.length_append, List.length_cons, List.length_nil, List.length_map, List.length_range, List.length_set, List.length_replicate] at *; omega))))
                  ((conv => whnf); repeat (refine Gq ?_; (conv => whnf)))
                  refine ih3 (lo, (lo + hi) / 2) _ ⟨by dsimp only; omega, by dsimp only; omega, by dsimp only; omega, hlow.out, by dsimp only; omega⟩ ?_
                  (refine Wk.to _ _ ?_ ?_ <;> (repeat' first | exact trivial | rfl | (refine And.intro ?_ ?_)))
              · have hd : lo = LL / y := by
                  have h1 : hi = lo + 1 := by simp at hgt; omega
                  have h2 := hlow.out
                  have h3 := hup.out
                  rw [h1] at h3
                  exact (Nat.div_eq_of_lt_le (by rw [Nat.mul_comm]; exact h2) (by rw [Nat.mul_comm]; exact h3)).symm
                have hlo9 : lo < 1000000000 := by omega
                have ht := timesM_runs y lo hlo9 (by omega)
                have hl1 : (mg LL).length ≤ 100000 := by
                  have h3 := hup.out
                  have := Nat.le_trans (mg_mono (Nat.le_of_lt h3)) (hcl hi hhi)
                  omega
                have hl2 : (mg (y * lo)).length ≤ 100000 := by have := hcl lo (by omega); omega
                have hless := less_runsR (mg LL) (mg (y * lo)) (pt_mg _) (pt_mg _) hl1 hl2 (by rw [mv_mg, mv_mg]; exact hlow.out)
                rw [mv_mg, mv_mg, show LL - y * lo = LL % y by rw [hd, Nat.mod_eq_sub_mul_div]] at hless
                ((conv => whnf); repeat (refine Gq ?_; (conv => whnf)))
                (refine And.intro (by decide +kernel) ?_; apply Exists.intro; apply And.intro; focus ((repeat' ((conv => whnf); first | exact trivial | refine Wo ?_ | refine Lt (by decide) ?_ | refine Lf (by decide) ?_ | refine Cl (by decide) ?_ | refine Cr (by decide) ?_ | refine Both.mk ?_ ?_ | (first | exact Wk.frc (keep := [0, 1, 3, 4, 5, 6, 7, 8, 9, 10, 11, 12, 17, 18, 19, 28, 38]) (N := 53) (by (conv => whnf); first | done | exact rfl) | (refine HrA ht ?_) | (refine Hc.rowR hless ?_ ?_ ?_; (focus ((repeat ((conv => arg 1; whnf); first | exact Tels.nil | apply Tels.cons | apply Tel.aggs | apply Tel.tups | exact Tel.refl _ | exact Tel.nil1 _ | exact Tel.cap _ _ _ _)); done)); (focus exact uV_one _))) | refine ⟨_, rfl, ?_⟩ | refine Mi rfl ?_ | (refine And.intro ?_ ?_))); all_goals (first | decide | rfl | assumption | omega | (dsimp only; omega) | (unfold maxLen; omega) | ((try dsimp only [maxLen]); simp only [List.length_append, List.length_cons, List.length_nil, List.length_map, List.length_range, List.length_set, List.length_replicate]; omega) | ((try dsimp only [maxLen]); simp only [IntKind.wrap_i64, IntKind.wrap_u64, List.length_append, List.length_cons, List.length_nil, List.length_map, List.length_range, List.length_set, List.length_replicate]; omega) | ((try dsimp only [maxLen]); simp only [List.length_append, List.length_cons, List.length_nil, List.length_map, List.length_range, List.length_set, List.length_replicate] at *; omega))))
                ((conv => whnf); repeat (refine Gq ?_; (conv => whnf)))
                obtain ⟨q1, q2⟩ := quo_step (lo := lo) hy (by omega) hpq hn.out (hLL.trans (by rw [hL])) hd hv.out
                refine ih (r, q.set r lo) _ ⟨by omega, by omega, pt_set hpq _ _ hlo9, by simp [hlq], q1⟩ ?_
                dsimp only
                rw [q2]
                unfold quQ
                (refine Wk.pin [0, 1, 2, 3, 4, 5, 10] _ _ ?_ ?_ rfl rfl (by decide) rfl rfl <;> (repeat' first | exact trivial | rfl | (refine And.intro ?_ ?_)))
                · exact inE (i64w (by omega) (by omega))
                · exact arE ((congrArg (fun o => putCells (q.map uD) o _) (show (r : Int).toNat * 1 = r by simp)).trans (putC (by omega))) (by simp)
                · exact arE (uV_D _) (by simp [uV])
            · dsimp only
              rw [hLL]
              have : L < y := by rw [hL]; exact Nat.mod_lt _ hy
              omega
            · (refine Wk.to _ _ ?_ ?_ <;> (repeat' first | exact trivial | rfl | (refine And.intro ?_ ?_)))
              exact arE (by rw [hfin]) (by rw [hfin])
      · refine (Wk.mv 0 8 205 1 (n :: mg L).length ((n :: mg L).map uD) rfl (show 0 < 21 by decide) rfl).trans ?_
        (refine Wk.pin [0, 1, 2, 3, 4, 5, 6, 7, 8, 9] _ _ ?_ ?_ rfl rfl (by decide) rfl rfl <;> (repeat' first | exact trivial | rfl | (refine And.intro ?_ ?_)))
  · dsimp only
    rw [mv_zeros, Nat.div_eq_of_lt (show x < 1000000000 ^ (mg x).length by have := mv_lt _ (pt_mg x); rwa [mv_mg] at this)]
    simp
  · dsimp only
    rw [Nat.div_eq_of_lt (show x < 1000000000 ^ (mg x).length by have := mv_lt _ (pt_mg x); rwa [mv_mg] at this), Nat.zero_mod, mg_zero]
    unfold quQ
    refine (Wk.virtB 3 0 205 1 174 _ rfl rfl).trans ?_
    (refine Wk.to _ _ ?_ ?_ <;> (repeat' first | exact trivial | rfl | (refine And.intro ?_ ?_)))
    · exact inE (i64w (by omega) (by omega))
    · exact arE (by simp) (by simp)
end Go.Proofs.YtkhgpnbhnipndaaGreatDoor.Am
end
