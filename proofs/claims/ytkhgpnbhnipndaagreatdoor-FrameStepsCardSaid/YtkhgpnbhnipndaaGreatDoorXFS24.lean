/- What the law leans on, part 25: declarations of several texts of ours, in their order. -/
import Derived.Test.YtkhgpnbhnipndaaGreatDoorXFS23
section
/- The document's numbers: quotients. -/
namespace Go.Proofs.YtkhgpnbhnipndaaGreatDoor.Am
open Go Go.Lib Go.RowKit Go.Proofs.YtkhgpnbhnipndaaGreatDoor.Nm Go.Proofs.YtkhgpnbhnipndaaGreatDoorW.PrintWords Go.Proofs.YtkhgpnbhnipndaaGreatDoor
set_option linter.unusedVariables false
set_option linter.unusedSimpArgs false
set_option maxRecDepth 100000
set_option maxHeartbeats 8000000
theorem nfloor_runs (x y : Int) (hx : nl x ≤ 1000) (hy : nl y ≤ 1000) (h0 : y ≠ 0) : Runs Tryz.prog 168 [sD (numS x), sD (numS y)] (sD (numS (fl x y))) := by
  have lx := nlow_runs x
  have ly := nlow_runs y
  have sx := nsize_runs x
  have sy := nsize_runs y
  have hY : 0 < y.natAbs := by omega
  have p := nparts_runs x.natAbs y.natAbs hY (by unfold nl at hx; omega) (by unfold nl at hy; omega)
  have hf := fl_sv x.natAbs (decide (x < 0)) y.natAbs (decide (y < 0)) hY
  rw [sv_abs, sv_abs] at hf
  rw [hf]
  have hq : (decDigits (x.natAbs / y.natAbs)).length ≤ 1000 := by
    have := dec_mono (Nat.div_le_self x.natAbs y.natAbs)
    unfold nl at hx
    omega
  have hq1 : (decDigits (x.natAbs / y.natAbs + 1)).length ≤ 1001 := dec_add hq (by rw [decDigits_one (by decide)]; decide)
  have hr := dec_eq0 (x.natAbs % y.natAbs)
  have e1 : BA (decDigits 1) = ⟨#[49]⟩ := by rw [decDigits_one (by decide)]; rfl
  have pl := nplus_runs (x.natAbs / y.natAbs) 1 (by omega) (by rw [decDigits_one (by decide)]; decide)
  rw [e1] at pl
  have g0 := nsigned_runs (x.natAbs / y.natAbs) true (by omega)
  have g1 := nsigned_runs (x.natAbs / y.natAbs + 1) true (by omega)
  rw [show ∀ n, sv n true = -(n : Int) from fun n => by unfold sv; rw [if_pos rfl]] at g0 g1
  generalize decide (x < 0) = a at *
  generalize decide (y < 0) = b at *
  generalize x.natAbs / y.natAbs = Q at *
  generalize x.natAbs % y.natAbs = W at *
  by_cases hab : a = b
  · rw [if_pos hab, show numS (Q : Int) = BA (decDigits Q) by rw [numS_pos (by omega), Int.natAbs_natCast]]
    refine Runs.wp Am.hT Am.hm Tryz.func168 rfl (by decide) ⟨[], [0, 1, 4, 5, 6, 19, 22], 27⟩ ?_; ((conv => whnf); repeat (refine Gq ?_; (conv => whnf)))
    ((conv => whnf); (refine HfA sx ?_); ((conv => whnf); repeat (refine Gq ?_; (conv => whnf))))
    ((conv => whnf); (refine HfA sy ?_); ((conv => whnf); repeat (refine Gq ?_; (conv => whnf))))
    ((conv => whnf); (refine HrA p ?_); ((conv => whnf); repeat (refine Gq ?_; (conv => whnf))))
    ((conv => whnf); (refine HfA lx ?_); ((conv => whnf); repeat (refine Gq ?_; (conv => whnf))))
    ((conv => whnf); (refine HfA ly ?_); ((conv => whnf); repeat (refine Gq ?_; (conv => whnf))))
    refine Cr (fun h => absurd hab (by simpa using h)) ?_
    ((conv => whnf); repeat (refine Gq ?_; (conv => whnf)))
    exact TeA
  · rw [if_neg hab]
    by_cases hw : W = 0
    · rw [if_pos hw]
      rw [decide_eq_true hw] at hr
      refine Runs.wp Am.hT Am.hm Tryz.func168 rfl (by decide) ⟨[], [0, 1, 4, 5, 6, 19, 22], 27⟩ ?_; ((conv => whnf); repeat (refine Gq ?_; (conv => whnf)))
      ((conv => whnf); (refine HfA sx ?_); ((conv => whnf); repeat (refine Gq ?_; (conv => whnf))))
      ((conv => whnf); (refine HfA sy ?_); ((conv => whnf); repeat (refine Gq ?_; (conv => whnf))))
      ((conv => whnf); (refine HrA p ?_); ((conv => whnf); repeat (refine Gq ?_; (conv => whnf))))
      ((conv => whnf); (refine HfA lx ?_); ((conv => whnf); repeat (refine Gq ?_; (conv => whnf))))
      ((conv => whnf); (refine HfA ly ?_); ((conv => whnf); repeat (refine Gq ?_; (conv => whnf))))
      refine Cl (fun h => absurd (by simpa using h) hab) ?_
      ((conv => whnf); repeat (refine Gq ?_; (conv => whnf)))
      refine litE (show (!((BA (decDigits W)).toList == ByteArray.toList ⟨#[48]⟩)) = false by rw [hr]; rfl) ?_
      ((conv => whnf); repeat (refine Gq ?_; (conv => whnf)))
      ((conv => whnf); (refine HfA g0 ?_); ((conv => whnf); repeat (refine Gq ?_; (conv => whnf))))
      exact TeA
    · rw [if_neg hw]
      rw [decide_eq_false hw] at hr
      rw [show -((Q + 1 : Nat) : Int) = -(Q : Int) - 1 by omega] at g1
      refine Runs.wp Am.hT Am.hm Tryz.func168 rfl (by decide) ⟨[], [0, 1, 4, 5, 6, 19, 22], 27⟩ ?_; ((conv => whnf); repeat (refine Gq ?_; (conv => whnf)))
      ((conv => whnf); (refine HfA sx ?_); ((conv => whnf); repeat (refine Gq ?_; (conv => whnf))))
      ((conv => whnf); (refine HfA sy ?_); ((conv => whnf); repeat (refine Gq ?_; (conv => whnf))))
      ((conv => whnf); (refine HrA p ?_); ((conv => whnf); repeat (refine Gq ?_; (conv => whnf))))
      ((conv => whnf); (refine HfA lx ?_); ((conv => whnf); repeat (refine Gq ?_; (conv => whnf))))
      ((conv => whnf); (refine HfA ly ?_); ((conv => whnf); repeat (refine Gq ?_; (conv => whnf))))
      refine Cl (fun h => absurd (by simpa using h) hab) ?_
      ((conv => whnf); repeat (refine Gq ?_; (conv => whnf)))
      refine litE (show (!((BA (decDigits W)).toList == ByteArray.toList ⟨#[48]⟩)) = true by rw [hr]; rfl) ?_
      ((conv => whnf); repeat (refine Gq ?_; (conv => whnf)))
      ((conv => whnf); (refine HfA pl ?_); ((conv => whnf); repeat (refine Gq ?_; (conv => whnf))))
      ((conv => whnf); (refine HfA g1 ?_); ((conv => whnf); repeat (refine Gq ?_; (conv => whnf))))
      exact TeA
theorem eqz (y : Int) : ((numS y).toList == ByteArray.toList ⟨#[48]⟩) = decide (y = 0) := by
  rw [numS_list, show ByteArray.toList ⟨#[48]⟩ = ([48] : List UInt8) from ba_list [48], Bool.eq_iff_iff, beq_iff_eq, decide_eq_true_iff]
  exact itoa_zero_iff y
theorem ndiv0_runs {x : Int} (hx : Nm.Sm x) : Runs Tryz.prog 116 [sD (numS x), sD (numS 0)] (eD (BA [], 5)) := by
  have m1 := nmay_runs hx
  have m2 := nmay_runs (z := 0) (by decide)
  have t0 := (eqz 0).trans (decide_eq_true rfl)
  refine Runs.wp Am.hT Am.hm Tryz.func116 rfl (by decide) ⟨[], [0, 1, 4, 5, 13, 15], 22⟩ ?_; ((conv => whnf); repeat (refine Gq ?_; (conv => whnf)))
  ((conv => whnf); (refine HfA m1 ?_); ((conv => whnf); repeat (refine Gq ?_; (conv => whnf))))
  ((conv => whnf); (refine HfA m2 ?_); ((conv => whnf); repeat (refine Gq ?_; (conv => whnf))))
  refine litE t0 ?_
  ((conv => whnf); repeat (refine Gq ?_; (conv => whnf)))
  exact TeA
theorem ndiv_runs {x y : Int} (hx : Nm.Sm x) (hy : Nm.Sm y) (h0 : y ≠ 0) : Runs Tryz.prog 116 [sD (numS x), sD (numS y)] (eD (Nm.told (fl x y))) := by
  have m1 := nmay_runs hx
  have m2 := nmay_runs hy
  have l1 := sm_nl hx
  have l2 := sm_nl hy
  have t0 := (eqz y).trans (decide_eq_false h0)
  have fr := nfloor_runs x y (by omega) (by omega) h0
  have tl := ntold_runs (fl x y)
  refine Runs.wp Am.hT Am.hm Tryz.func116 rfl (by decide) ⟨[], [0, 1, 4, 5, 13, 15], 22⟩ ?_; ((conv => whnf); repeat (refine Gq ?_; (conv => whnf)))
  ((conv => whnf); (refine HfA m1 ?_); ((conv => whnf); repeat (refine Gq ?_; (conv => whnf))))
  ((conv => whnf); (refine HfA m2 ?_); ((conv => whnf); repeat (refine Gq ?_; (conv => whnf))))
  refine litE t0 ?_
  ((conv => whnf); repeat (refine Gq ?_; (conv => whnf)))
  ((conv => whnf); (refine HfA fr ?_); ((conv => whnf); repeat (refine Gq ?_; (conv => whnf))))
  ((conv => whnf); (refine HrA tl ?_); ((conv => whnf); repeat (refine Gq ?_; (conv => whnf))))
  exact TeA
theorem nmod0_runs {x : Int} (hx : Nm.Sm x) : Runs Tryz.prog 117 [sD (numS x), sD (numS 0)] (eD (BA [], 5)) := by
  have m1 := nmay_runs hx
  have m2 := nmay_runs (z := 0) (by decide)
  have t0 := (eqz 0).trans (decide_eq_true rfl)
  refine Runs.wp Am.hT Am.hm Tryz.func117 rfl (by decide) ⟨[], [0, 1, 4, 5, 13, 15], 27⟩ ?_; ((conv => whnf); repeat (refine Gq ?_; (conv => whnf)))
  ((conv => whnf); (refine HfA m1 ?_); ((conv => whnf); repeat (refine Gq ?_; (conv => whnf))))
  ((conv => whnf); (refine HfA m2 ?_); ((conv => whnf); repeat (refine Gq ?_; (conv => whnf))))
  refine litE t0 ?_
  ((conv => whnf); repeat (refine Gq ?_; (conv => whnf)))
  exact TeA
theorem nmod_runs {x y : Int} (hx : Nm.Sm x) (hy : Nm.Sm y) (h0 : y ≠ 0) : Runs Tryz.prog 117 [sD (numS x), sD (numS y)] (eD (Nm.told (fm x y))) := by
  have m1 := nmay_runs hx
  have m2 := nmay_runs hy
  have l1 := sm_nl hx
  have l2 := sm_nl hy
  have t0 := (eqz y).trans (decide_eq_false h0)
  have fr := nfloor_runs x y (by omega) (by omega) h0
  have l3 := fl_nl x y hx h0
  have pr := nprod_runs y (fl x y) (by omega) (by omega)
  have l4 := nl_mul y (fl x y)
  have tu := nturned_runs (y * fl x y) (by omega)
  have su := nsum_runs x (-(y * fl x y)) (by omega) (by rw [nl_neg]; omega)
  have tl := ntold_runs (fm x y)
  rw [show x + -(y * fl x y) = fm x y by unfold fm; omega] at su
  refine Runs.wp Am.hT Am.hm Tryz.func117 rfl (by decide) ⟨[], [0, 1, 4, 5, 13, 15], 27⟩ ?_; ((conv => whnf); repeat (refine Gq ?_; (conv => whnf)))
  ((conv => whnf); (refine HfA m1 ?_); ((conv => whnf); repeat (refine Gq ?_; (conv => whnf))))
  ((conv => whnf); (refine HfA m2 ?_); ((conv => whnf); repeat (refine Gq ?_; (conv => whnf))))
  refine litE t0 ?_
  ((conv => whnf); repeat (refine Gq ?_; (conv => whnf)))
  ((conv => whnf); (refine HfA fr ?_); ((conv => whnf); repeat (refine Gq ?_; (conv => whnf))))
  ((conv => whnf); (refine HfA pr ?_); ((conv => whnf); repeat (refine Gq ?_; (conv => whnf))))
  ((conv => whnf); (refine HfA tu ?_); ((conv => whnf); repeat (refine Gq ?_; (conv => whnf))))
  ((conv => whnf); (refine HfA su ?_); ((conv => whnf); repeat (refine Gq ?_; (conv => whnf))))
  ((conv => whnf); (refine HrA tl ?_); ((conv => whnf); repeat (refine Gq ?_; (conv => whnf))))
  exact TeA
end Go.Proofs.YtkhgpnbhnipndaaGreatDoor.Am
end
section
/- num's other calls: Mul, Div, Mod, Cmp, Neg, Sign. -/
namespace Go.Proofs.YtkhgpnbhnipndaaGreatDoor.Am
open Go Go.Lib Go.RowKit Go.Proofs.YtkhgpnbhnipndaaGreatDoor.Nm Go.Proofs.YtkhgpnbhnipndaaGreatDoorW.PrintWords Go.Proofs.YtkhgpnbhnipndaaGreatDoor
set_option linter.unusedVariables false
set_option linter.unusedSimpArgs false
set_option maxRecDepth 100000
set_option maxHeartbeats 8000000
abbrev zS : ByteArray := ⟨#[48]⟩
theorem zS_b (y : Int) : ((numS y).toList == zS.toList) = decide (y = 0) := by
  rw [numS_list, show zS.toList = [48] from by rw [show zS = BA [48] from rfl, ba_list], Bool.eq_iff_iff, beq_iff_eq, decide_eq_true_iff]
  exact itoa_zero_iff y
theorem mg_mulK {x y K : Nat} (hx : (mg x).length ≤ K) (hy : (mg y).length ≤ K) : (mg (x * y)).length ≤ K + K := by
  have h1 : x < 1000000000 ^ K := by have := mv_lt _ (pt_mg x); rw [mv_mg] at this; exact Nat.lt_of_lt_of_le this (Nat.pow_le_pow_right (by decide) hx)
  have h2 : y < 1000000000 ^ K := by have := mv_lt _ (pt_mg y); rw [mv_mg] at this; exact Nat.lt_of_lt_of_le this (Nat.pow_le_pow_right (by decide) hy)
  refine mg_le ?_
  rw [Nat.pow_add]
  exact Nat.mul_lt_mul'' h1 h2
theorem mg_mulL {x y : Nat} (hx : (mg x).length ≤ 1000) (hy : (mg y).length ≤ 1000) : (mg (x * y)).length ≤ 1000000 := Nat.le_trans (mg_mulK hx hy) (by decide)
theorem sv_mul (x y : Nat) (a b : Bool) : sv (x * y) (a != b) = sv x a * sv y b := by
  cases a <;> cases b <;> simp [sv, Int.natCast_mul, Int.neg_mul, Int.mul_neg]
section
variable {x y : Int} (hx : Nm.Sm x) (hy : Nm.Sm y)
include hx hy
theorem mul_yes : Runs Tryz.prog 99 [sD (numS x), sD (numS y)] (eD (told (x * y))) := by
  have hlx := sm_mg hx
  have hly := sm_mg hy
  have hp := product_runs (mg x.natAbs) (mg y.natAbs) (pt_mg _) (pt_mg _) (by omega) (by omega)
  rw [mv_mg, mv_mg] at hp
  have hF : Runs Tryz.prog 155 [wD x.natAbs (decide (x < 0)), wD y.natAbs (decide (y < 0))] (wD (x.natAbs * y.natAbs) (decide (x < 0) != decide (y < 0))) := by
    refine Runs.wp Am.hT Am.hm Tryz.func155 rfl (by decide) ⟨[(1, .first 0 (.first 2 (.first 5 (.first 7 (.load 1 [4, 10, 11] (.load 3 [4, 10, 11] (.alt 4 (.load 6 [9, 10, 11] (.load 8 [9, 10, 11] (.first 9 (.first 10 (.alt 11 .done .nil))))) (.alt 6 (.alt 4 (.load 8 [9, 10, 11] (.first 9 (.first 10 (.alt 11 .done .nil)))) (.alt 8 (.first 9 (.alt 4 (.first 10 (.alt 11 .done .nil)) .nil)) .nil)) (.alt 8 (.alt 4 (.load 6 [9, 10, 11] (.first 9 (.first 10 (.alt 11 .done .nil)))) (.alt 6 (.first 9 (.alt 4 (.first 10 (.alt 11 .done .nil)) .nil)) .nil)) .nil)))))))))], [0, 1, 2, 3, 4], 16⟩ ?_; ((conv => whnf); repeat (refine Gq ?_; (conv => whnf)))
    (refine And.intro (by decide +kernel) ?_; apply Exists.intro; apply And.intro; focus ((repeat' ((conv => whnf); first | exact trivial | refine Wo ?_ | refine Lt (by decide) ?_ | refine Lf (by decide) ?_ | refine Cl (by decide) ?_ | refine Cr (by decide) ?_ | refine Both.mk ?_ ?_ | (first | exact Wk.frc (keep := [0, 1, 2, 3, 4]) (N := 16) (by (conv => whnf); first | done | exact rfl) | (refine HrA hp ?_)) | refine ⟨_, rfl, ?_⟩ | refine Mi rfl ?_ | (refine And.intro ?_ ?_))); all_goals (first | decide | rfl | assumption | omega | (dsimp only; omega) | (unfold maxLen; omega) | ((try dsimp only [maxLen]); simp only [List.length_append, List.length_cons, List.length_nil, List.length_map, List.length_range, List.length_set, List.length_replicate]; omega) | ((try dsimp only [maxLen]); simp only [IntKind.wrap_i64, IntKind.wrap_u64, List.length_append, List.length_cons, List.length_nil, List.length_map, List.length_range, List.length_set, List.length_replicate]; omega) | ((try dsimp only [maxLen]); simp only [List.length_append, List.length_cons, List.length_nil, List.length_map, List.length_range, List.length_set, List.length_replicate] at *; omega))))
    ((conv => whnf); repeat (refine Gq ?_; (conv => whnf)))
    exact TeA
  have h1 := of_yes hx hy hF (mg_mulL (by omega) (by omega))
  rw [sv_mul, sv_z, sv_z] at h1
  refine Runs.wp Am.hT Am.hm Tryz.func99 rfl (by decide) ⟨[], [0, 1, 4, 5], 11⟩ ?_; ((conv => whnf); repeat (refine Gq ?_; (conv => whnf)))
  ((conv => whnf); (refine HfA h1 ?_); ((conv => whnf); repeat (refine Gq ?_; (conv => whnf))))
  exact TeA
theorem div_yes (h0 : y ≠ 0) : Runs Tryz.prog 100 [sD (numS x), sD (numS y)] (eD (told (fl x y))) := by
  have hlx := sm_mg hx
  have hly := sm_mg hy
  have hd := divided_runs x.natAbs y.natAbs (decide (x < 0)) (decide (y < 0)) (by omega) (by omega) (by omega)
  have hs := (div_sv x.natAbs (decide (x < 0)) y.natAbs (decide (y < 0)) (by omega)).1
  have hn := (div_len x.natAbs y.natAbs (decide (x < 0)) (decide (y < 0)) (by omega) (by have := sm_nl hx; unfold nl at this; omega) (by have := sm_nl hy; unfold nl at this; omega)).1
  have hF : Runs Tryz.prog 157 [wD x.natAbs (decide (x < 0)), wD y.natAbs (decide (y < 0))] (wD (divW x.natAbs (decide (x < 0)) y.natAbs (decide (y < 0))).1.1 (divW x.natAbs (decide (x < 0)) y.natAbs (decide (y < 0))).1.2) := by
    refine Runs.wp Am.hT Am.hm Tryz.func157 rfl (by decide) ⟨[], [0, 1, 2, 3, 4, 5], 14⟩ ?_; ((conv => whnf); repeat (refine Gq ?_; (conv => whnf)))
    ((conv => whnf); (refine HrA hd ?_); ((conv => whnf); repeat (refine Gq ?_; (conv => whnf))))
    exact TeA
  have h1 := of_yes hx hy hF hn
  rw [hs, sv_z, sv_z] at h1
  have hz : ((numS y).toList == zS.toList) = false := by rw [zS_b, decide_eq_false h0]
  have hm := mayZ hx
  refine Runs.wp Am.hT Am.hm Tryz.func100 rfl (by decide) ⟨[], [0, 1, 4, 5, 11], 17⟩ ?_; ((conv => whnf); repeat (refine Gq ?_; (conv => whnf)))
  ((conv => whnf); (refine HfA hm ?_); ((conv => whnf); repeat (refine Gq ?_; (conv => whnf))))
  refine litE hz ?_
  ((conv => whnf); repeat (refine Gq ?_; (conv => whnf)))
  ((conv => whnf); (refine HfA h1 ?_); ((conv => whnf); repeat (refine Gq ?_; (conv => whnf))))
  exact TeA
theorem mod_yes (h0 : y ≠ 0) : Runs Tryz.prog 101 [sD (numS x), sD (numS y)] (eD (told (fm x y))) := by
  have hlx := sm_mg hx
  have hly := sm_mg hy
  have hd := divided_runs x.natAbs y.natAbs (decide (x < 0)) (decide (y < 0)) (by omega) (by omega) (by omega)
  have hs := (div_sv x.natAbs (decide (x < 0)) y.natAbs (decide (y < 0)) (by omega)).2
  have hn := (div_len x.natAbs y.natAbs (decide (x < 0)) (decide (y < 0)) (by omega) (by have := sm_nl hx; unfold nl at this; omega) (by have := sm_nl hy; unfold nl at this; omega)).2
  have hF : Runs Tryz.prog 159 [wD x.natAbs (decide (x < 0)), wD y.natAbs (decide (y < 0))] (wD (divW x.natAbs (decide (x < 0)) y.natAbs (decide (y < 0))).2.1 (divW x.natAbs (decide (x < 0)) y.natAbs (decide (y < 0))).2.2) := by
    refine Runs.wp Am.hT Am.hm Tryz.func159 rfl (by decide) ⟨[], [0, 1, 2, 3, 4, 6], 14⟩ ?_; ((conv => whnf); repeat (refine Gq ?_; (conv => whnf)))
    ((conv => whnf); (refine HrA hd ?_); ((conv => whnf); repeat (refine Gq ?_; (conv => whnf))))
    exact TeA
  have h1 := of_yes hx hy hF hn
  rw [hs, sv_z, sv_z] at h1
  have hz : ((numS y).toList == zS.toList) = false := by rw [zS_b, decide_eq_false h0]
  have hm := mayZ hx
  refine Runs.wp Am.hT Am.hm Tryz.func101 rfl (by decide) ⟨[], [0, 1, 4, 5, 11], 17⟩ ?_; ((conv => whnf); repeat (refine Gq ?_; (conv => whnf)))
  ((conv => whnf); (refine HfA hm ?_); ((conv => whnf); repeat (refine Gq ?_; (conv => whnf))))
  refine litE hz ?_
  ((conv => whnf); repeat (refine Gq ?_; (conv => whnf)))
  ((conv => whnf); (refine HfA h1 ?_); ((conv => whnf); repeat (refine Gq ?_; (conv => whnf))))
  exact TeA
omit hy
theorem div_zero : Runs Tryz.prog 100 [sD (numS x), sD (numS 0)] (eD (BA [], 5)) := by
  have hz : ((numS 0).toList == zS.toList) = true := by rw [zS_b]; rfl
  have hm := mayZ hx
  refine Runs.wp Am.hT Am.hm Tryz.func100 rfl (by decide) ⟨[], [0, 1, 4, 5, 11], 17⟩ ?_; ((conv => whnf); repeat (refine Gq ?_; (conv => whnf)))
  ((conv => whnf); (refine HfA hm ?_); ((conv => whnf); repeat (refine Gq ?_; (conv => whnf))))
  refine litE hz ?_
  ((conv => whnf); repeat (refine Gq ?_; (conv => whnf)))
  exact TeA
theorem mod_zero : Runs Tryz.prog 101 [sD (numS x), sD (numS 0)] (eD (BA [], 5)) := by
  have hz : ((numS 0).toList == zS.toList) = true := by rw [zS_b]; rfl
  have hm := mayZ hx
  refine Runs.wp Am.hT Am.hm Tryz.func101 rfl (by decide) ⟨[], [0, 1, 4, 5, 11], 17⟩ ?_; ((conv => whnf); repeat (refine Gq ?_; (conv => whnf)))
  ((conv => whnf); (refine HfA hm ?_); ((conv => whnf); repeat (refine Gq ?_; (conv => whnf))))
  refine litE hz ?_
  ((conv => whnf); repeat (refine Gq ?_; (conv => whnf)))
  exact TeA
include hy
theorem cmp_yes : Runs Tryz.prog 104 [sD (numS x), sD (numS y)] (iD (cmpZ x y)) := by
  have hlx := sm_mg hx
  have hly := sm_mg hy
  have m1 := mayZ hx
  have m2 := mayZ hy
  have r1 := read_runs x (by have := sm_nl hx; omega)
  have r2 := read_runs y (by have := sm_nl hy; omega)
  have ht := turned_runs y.natAbs (decide (y < 0)) (by omega)
  have hp := plus_runs x.natAbs y.natAbs (decide (x < 0)) (!decide (y < 0) && decide (y.natAbs ≠ 0)) (by omega) (by omega)
  have hs : sv y.natAbs (!decide (y < 0) && decide (y.natAbs ≠ 0)) = -y := by
    unfold sv
    by_cases h : y < 0
    · rw [decide_eq_true h]; simp; omega
    · by_cases h0 : y = 0
      · subst h0; rfl
      · rw [decide_eq_false h, decide_eq_true (show y.natAbs ≠ 0 by omega)]; simp; omega
  have hv := plusW_sv x.natAbs (decide (x < 0)) y.natAbs (!decide (y < 0) && decide (y.natAbs ≠ 0))
  have hg := plusW_neg x.natAbs (decide (x < 0)) y.natAbs (!decide (y < 0) && decide (y.natAbs ≠ 0))
  rw [hs, sv_z] at hv hg
  generalize plusW x.natAbs (decide (x < 0)) y.natAbs (!decide (y < 0) && decide (y.natAbs ≠ 0)) = W at hp hv hg
  obtain ⟨n, b⟩ := W
  dsimp only at hp hv hg
  rcases Nat.eq_zero_or_pos n with h0 | h0
  · have e1 : ((((mg n).length : Nat) : Int) == 0) = true := by rw [h0, mg_zero]; rfl
    have e2 : cmpZ x y = 0 := by
      have : x + -y = 0 := by rw [← hv, h0]; unfold sv; split <;> rfl
      rw [show x = y by omega, cmpZ_self]
    rw [e2]
    refine Runs.wp Am.hT Am.hm Tryz.func104 rfl (by decide) ⟨[], [0, 1, 4, 5, 13, 20, 25], 28⟩ ?_; ((conv => whnf); repeat (refine Gq ?_; (conv => whnf)))
    ((conv => whnf); (refine HfA m1 ?_); ((conv => whnf); repeat (refine Gq ?_; (conv => whnf))))
    ((conv => whnf); (refine HfA m2 ?_); ((conv => whnf); repeat (refine Gq ?_; (conv => whnf))))
    ((conv => whnf); (refine HrA r1 ?_); ((conv => whnf); repeat (refine Gq ?_; (conv => whnf))))
    ((conv => whnf); (refine HrA r2 ?_); ((conv => whnf); repeat (refine Gq ?_; (conv => whnf))))
    ((conv => whnf); (refine HrA ht ?_); ((conv => whnf); repeat (refine Gq ?_; (conv => whnf))))
    ((conv => whnf); (refine HrA hp ?_); ((conv => whnf); repeat (refine Gq ?_; (conv => whnf))))
    refine litE e1 ?_
    ((conv => whnf); repeat (refine Gq ?_; (conv => whnf)))
    exact TeA
  · have e1 : ((((mg n).length : Nat) : Int) == 0) = false := by
      have : (mg n).length ≠ 0 := fun h => by rw [List.length_eq_zero_iff, mg_nil] at h; omega
      rw [beq_eq_false_iff_ne]; omega
    have hg := hg (by show n ≠ 0; omega)
    cases b with
    | true =>
      have e2 : cmpZ x y = -1 := by
        have := hg.1 rfl
        unfold cmpZ; rw [if_pos (by omega)]
      rw [e2]
      refine Runs.wp Am.hT Am.hm Tryz.func104 rfl (by decide) ⟨[], [0, 1, 4, 5, 13, 20, 25], 28⟩ ?_; ((conv => whnf); repeat (refine Gq ?_; (conv => whnf)))
      ((conv => whnf); (refine HfA m1 ?_); ((conv => whnf); repeat (refine Gq ?_; (conv => whnf))))
      ((conv => whnf); (refine HfA m2 ?_); ((conv => whnf); repeat (refine Gq ?_; (conv => whnf))))
      ((conv => whnf); (refine HrA r1 ?_); ((conv => whnf); repeat (refine Gq ?_; (conv => whnf))))
      ((conv => whnf); (refine HrA r2 ?_); ((conv => whnf); repeat (refine Gq ?_; (conv => whnf))))
      ((conv => whnf); (refine HrA ht ?_); ((conv => whnf); repeat (refine Gq ?_; (conv => whnf))))
      ((conv => whnf); (refine HrA hp ?_); ((conv => whnf); repeat (refine Gq ?_; (conv => whnf))))
      refine litE e1 ?_
      ((conv => whnf); repeat (refine Gq ?_; (conv => whnf)))
      exact TeA
    | false =>
      have e2 : cmpZ x y = 1 := by
        have h1 : ¬ x + -y < 0 := fun h => by cases hg.2 h
        have h2 : sv n false ≠ 0 := by show (if false = true then _ else (n : Int)) ≠ 0; rw [if_neg (by decide)]; omega
        have h3 : x + -y ≠ 0 := by rw [← hv]; exact h2
        unfold cmpZ; rw [if_neg (by omega), if_pos (by omega)]
      rw [e2]
      refine Runs.wp Am.hT Am.hm Tryz.func104 rfl (by decide) ⟨[], [0, 1, 4, 5, 13, 20, 25], 28⟩ ?_; ((conv => whnf); repeat (refine Gq ?_; (conv => whnf)))
      ((conv => whnf); (refine HfA m1 ?_); ((conv => whnf); repeat (refine Gq ?_; (conv => whnf))))
      ((conv => whnf); (refine HfA m2 ?_); ((conv => whnf); repeat (refine Gq ?_; (conv => whnf))))
      ((conv => whnf); (refine HrA r1 ?_); ((conv => whnf); repeat (refine Gq ?_; (conv => whnf))))
      ((conv => whnf); (refine HrA r2 ?_); ((conv => whnf); repeat (refine Gq ?_; (conv => whnf))))
      ((conv => whnf); (refine HrA ht ?_); ((conv => whnf); repeat (refine Gq ?_; (conv => whnf))))
      ((conv => whnf); (refine HrA hp ?_); ((conv => whnf); repeat (refine Gq ?_; (conv => whnf))))
      refine litE e1 ?_
      ((conv => whnf); repeat (refine Gq ?_; (conv => whnf)))
      exact TeA
omit hy
theorem neg_yes : Runs Tryz.prog 147 [sD (numS x)] (sD (numS (-x))) := by
  have hlx := sm_mg hx
  have m1 := mayZ hx
  have r1 := read_runs x (by have := sm_nl hx; omega)
  have ht := turned_runs x.natAbs (decide (x < 0)) (by omega)
  have hs : sv x.natAbs (!decide (x < 0) && decide (x.natAbs ≠ 0)) = -x := by
    unfold sv
    by_cases h : x < 0
    · rw [decide_eq_true h]; simp; omega
    · by_cases h0 : x = 0
      · subst h0; rfl
      · rw [decide_eq_false h, decide_eq_true (show x.natAbs ≠ 0 by omega)]; simp; omega
  have hx2 := text_runs x.natAbs (!decide (x < 0) && decide (x.natAbs ≠ 0)) (by simp) (by omega)
  rw [hs] at hx2
  refine Runs.wp Am.hT Am.hm Tryz.func147 rfl (by decide) ⟨[], [0, 2, 5], 10⟩ ?_; ((conv => whnf); repeat (refine Gq ?_; (conv => whnf)))
  ((conv => whnf); (refine HfA m1 ?_); ((conv => whnf); repeat (refine Gq ?_; (conv => whnf))))
  ((conv => whnf); (refine HrA r1 ?_); ((conv => whnf); repeat (refine Gq ?_; (conv => whnf))))
  ((conv => whnf); (refine HrA ht ?_); ((conv => whnf); repeat (refine Gq ?_; (conv => whnf))))
  ((conv => whnf); (refine HrA hx2 ?_); ((conv => whnf); repeat (refine Gq ?_; (conv => whnf))))
  exact TeA
theorem sign_yes : Runs Tryz.prog 150 [sD (numS x)] (iD (sgn x)) := by
  have m1 := mayZ hx
  have hz := zS_b x
  by_cases h0 : x = 0
  · rw [decide_eq_true h0] at hz
    rw [show sgn x = 0 by rw [h0]; rfl]
    refine Runs.wp Am.hT Am.hm Tryz.func150 rfl (by decide) ⟨[], [0, 2, 3, 11], 15⟩ ?_; ((conv => whnf); repeat (refine Gq ?_; (conv => whnf)))
    ((conv => whnf); (refine HfA m1 ?_); ((conv => whnf); repeat (refine Gq ?_; (conv => whnf))))
    refine litE hz ?_
    ((conv => whnf); repeat (refine Gq ?_; (conv => whnf)))
    exact TeA
  · rw [decide_eq_false h0] at hz
    by_cases h1 : x < 0
    · have e1 : (numS x)[(0 : Int).toNat]? = some 45 := by rw [numS_neg h1]; rfl
      have e0 : 0 < ((numS x).size : Int) := by rw [numS_neg h1, ba_size]; simp
      rw [show sgn x = -1 by unfold sgn; rw [if_pos h1]]
      refine Runs.wp Am.hT Am.hm Tryz.func150 rfl (by decide) ⟨[], [0, 2, 3, 11], 15⟩ ?_; ((conv => whnf); repeat (refine Gq ?_; (conv => whnf)))
      ((conv => whnf); (refine HfA m1 ?_); ((conv => whnf); repeat (refine Gq ?_; (conv => whnf))))
      refine litE hz ?_
      ((conv => whnf); repeat (refine Gq ?_; (conv => whnf)))
      refine ⟨by decide, e0, _, e1, ?_⟩
      ((conv => whnf); repeat (refine Gq ?_; (conv => whnf)))
      exact TeA
    · obtain ⟨c, r, h2, h3, h4⟩ := head_dec x.natAbs
      have e1 : (numS x)[(0 : Int).toNat]? = some c := by rw [numS_pos h1, h2]; rfl
      have e2 : (((c.toNat : Nat) : Int) == 45) = false := by rw [beq_eq_false_iff_ne]; omega
      have e0 : 0 < ((numS x).size : Int) := by rw [numS_pos h1, ba_size, h2]; simp
      rw [show sgn x = 1 by unfold sgn; rw [if_neg h1, if_neg h0]]
      refine Runs.wp Am.hT Am.hm Tryz.func150 rfl (by decide) ⟨[], [0, 2, 3, 11], 15⟩ ?_; ((conv => whnf); repeat (refine Gq ?_; (conv => whnf)))
      ((conv => whnf); (refine HfA m1 ?_); ((conv => whnf); repeat (refine Gq ?_; (conv => whnf))))
      refine litE hz ?_
      ((conv => whnf); repeat (refine Gq ?_; (conv => whnf)))
      refine ⟨by decide, e0, _, e1, ?_⟩
      ((conv => whnf); repeat (refine Gq ?_; (conv => whnf)))
      refine litE e2 ?_
      ((conv => whnf); repeat (refine Gq ?_; (conv => whnf)))
      exact TeA
omit hx
end
end Go.Proofs.YtkhgpnbhnipndaaGreatDoor.Am
end
section
/- scalar.Dyad and scalar.Monad: the signs' functions, looked up. -/
namespace Go.Proofs.YtkhgpnbhnipndaaGreatDoor.Am
open Go Go.Lib Go.RowKit Go.Proofs.YtkhgpnbhnipndaaGreatDoor.Nm Go.Proofs.YtkhgpnbhnipndaaGreatDoorW.PrintWords Go.Proofs.YtkhgpnbhnipndaaGreatDoor
set_option linter.unusedVariables false
set_option linter.unusedSimpArgs false
set_option maxRecDepth 100000
set_option maxHeartbeats 8000000
theorem pick_runs (b : Bool) (x y : ByteArray) : Runs Tryz.prog 103 [bD b, sD x, sD y] (eD (if b = true then x else y, 0)) := by
  as_aux_lemma =>
  cases b with
  | true =>
    refine Runs.wp Am.hT Am.hm Tryz.func103 rfl (by decide) ⟨[], [0, 1, 2, 6, 7, 8], 11⟩ ?_; ((conv => whnf); repeat (refine Gq ?_; (conv => whnf)))
    exact TeA
  | false =>
    refine Runs.wp Am.hT Am.hm Tryz.func103 rfl (by decide) ⟨[], [0, 1, 2, 6, 7, 8], 11⟩ ?_; ((conv => whnf); repeat (refine Gq ?_; (conv => whnf)))
    exact TeA
theorem stold_runs (b : Bool) : Runs Tryz.prog 107 [bD b] (sD (if b = true then ⟨#[49]⟩ else ⟨#[48]⟩)) := by
  as_aux_lemma =>
  cases b with
  | true =>
    refine Runs.wp Am.hT Am.hm Tryz.func107 rfl (by decide) ⟨[], [0, 2, 3], 4⟩ ?_; ((conv => whnf); repeat (refine Gq ?_; (conv => whnf)))
    exact TeA
  | false =>
    refine Runs.wp Am.hT Am.hm Tryz.func107 rfl (by decide) ⟨[], [0, 2, 3], 4⟩ ?_; ((conv => whnf); repeat (refine Gq ?_; (conv => whnf)))
    exact TeA
section
variable {a b : ByteArray} {r : ByteArray × Int} (ha : Runs Tryz.prog 74 [sD a] (bD true)) (hb : Runs Tryz.prog 74 [sD b] (bD true))
include ha hb
theorem sc_add (h : Runs Tryz.prog 97 [sD a, sD b] (eD r)) : Runs Tryz.prog 57 [sD ⟨#[43]⟩, sD a, sD b] (eD r) := by
  as_aux_lemma =>
  refine Runs.wp Am.hT Am.hm Tryz.func57 rfl (by decide) ⟨[], [0, 1, 2, 6, 7, 8, 24], 31⟩ ?_; ((conv => whnf); repeat (refine Gq ?_; (conv => whnf)))
  ((conv => whnf); (refine HfA ha ?_); ((conv => whnf); repeat (refine Gq ?_; (conv => whnf))))
  ((conv => whnf); (refine HfA hb ?_); ((conv => whnf); repeat (refine Gq ?_; (conv => whnf))))
  ((conv => whnf); (refine HfA h ?_); ((conv => whnf); repeat (refine Gq ?_; (conv => whnf))))
  exact TeA
theorem sc_sub (h : Runs Tryz.prog 98 [sD a, sD b] (eD r)) : Runs Tryz.prog 57 [sD ⟨#[45]⟩, sD a, sD b] (eD r) := by
  as_aux_lemma =>
  refine Runs.wp Am.hT Am.hm Tryz.func57 rfl (by decide) ⟨[], [0, 1, 2, 6, 7, 8, 24], 31⟩ ?_; ((conv => whnf); repeat (refine Gq ?_; (conv => whnf)))
  ((conv => whnf); (refine HfA ha ?_); ((conv => whnf); repeat (refine Gq ?_; (conv => whnf))))
  ((conv => whnf); (refine HfA hb ?_); ((conv => whnf); repeat (refine Gq ?_; (conv => whnf))))
  ((conv => whnf); (refine HfA h ?_); ((conv => whnf); repeat (refine Gq ?_; (conv => whnf))))
  exact TeA
theorem sc_mul (h : Runs Tryz.prog 99 [sD a, sD b] (eD r)) : Runs Tryz.prog 57 [sD ⟨#[42]⟩, sD a, sD b] (eD r) := by
  as_aux_lemma =>
  refine Runs.wp Am.hT Am.hm Tryz.func57 rfl (by decide) ⟨[], [0, 1, 2, 6, 7, 8, 24], 31⟩ ?_; ((conv => whnf); repeat (refine Gq ?_; (conv => whnf)))
  ((conv => whnf); (refine HfA ha ?_); ((conv => whnf); repeat (refine Gq ?_; (conv => whnf))))
  ((conv => whnf); (refine HfA hb ?_); ((conv => whnf); repeat (refine Gq ?_; (conv => whnf))))
  ((conv => whnf); (refine HfA h ?_); ((conv => whnf); repeat (refine Gq ?_; (conv => whnf))))
  exact TeA
theorem sc_div (h : Runs Tryz.prog 100 [sD a, sD b] (eD r)) : Runs Tryz.prog 57 [sD ⟨#[37]⟩, sD a, sD b] (eD r) := by
  as_aux_lemma =>
  refine Runs.wp Am.hT Am.hm Tryz.func57 rfl (by decide) ⟨[], [0, 1, 2, 6, 7, 8, 24], 31⟩ ?_; ((conv => whnf); repeat (refine Gq ?_; (conv => whnf)))
  ((conv => whnf); (refine HfA ha ?_); ((conv => whnf); repeat (refine Gq ?_; (conv => whnf))))
  ((conv => whnf); (refine HfA hb ?_); ((conv => whnf); repeat (refine Gq ?_; (conv => whnf))))
  ((conv => whnf); (refine HfA h ?_); ((conv => whnf); repeat (refine Gq ?_; (conv => whnf))))
  exact TeA
theorem sc_mod (h : Runs Tryz.prog 101 [sD a, sD b] (eD r)) : Runs Tryz.prog 57 [sD ⟨#[33]⟩, sD a, sD b] (eD r) := by
  as_aux_lemma =>
  refine Runs.wp Am.hT Am.hm Tryz.func57 rfl (by decide) ⟨[], [0, 1, 2, 6, 7, 8, 24], 31⟩ ?_; ((conv => whnf); repeat (refine Gq ?_; (conv => whnf)))
  ((conv => whnf); (refine HfA ha ?_); ((conv => whnf); repeat (refine Gq ?_; (conv => whnf))))
  ((conv => whnf); (refine HfA hb ?_); ((conv => whnf); repeat (refine Gq ?_; (conv => whnf))))
  ((conv => whnf); (refine HfA h ?_); ((conv => whnf); repeat (refine Gq ?_; (conv => whnf))))
  exact TeA
theorem sc_min (h : Runs Tryz.prog 102 [sD a, sD b] (eD r)) : Runs Tryz.prog 57 [sD ⟨#[38]⟩, sD a, sD b] (eD r) := by
  as_aux_lemma =>
  refine Runs.wp Am.hT Am.hm Tryz.func57 rfl (by decide) ⟨[], [0, 1, 2, 6, 7, 8, 24], 31⟩ ?_; ((conv => whnf); repeat (refine Gq ?_; (conv => whnf)))
  ((conv => whnf); (refine HfA ha ?_); ((conv => whnf); repeat (refine Gq ?_; (conv => whnf))))
  ((conv => whnf); (refine HfA hb ?_); ((conv => whnf); repeat (refine Gq ?_; (conv => whnf))))
  ((conv => whnf); (refine HfA h ?_); ((conv => whnf); repeat (refine Gq ?_; (conv => whnf))))
  exact TeA
theorem sc_max (h : Runs Tryz.prog 105 [sD a, sD b] (eD r)) : Runs Tryz.prog 57 [sD ⟨#[124]⟩, sD a, sD b] (eD r) := by
  as_aux_lemma =>
  refine Runs.wp Am.hT Am.hm Tryz.func57 rfl (by decide) ⟨[], [0, 1, 2, 6, 7, 8, 24], 31⟩ ?_; ((conv => whnf); repeat (refine Gq ?_; (conv => whnf)))
  ((conv => whnf); (refine HfA ha ?_); ((conv => whnf); repeat (refine Gq ?_; (conv => whnf))))
  ((conv => whnf); (refine HfA hb ?_); ((conv => whnf); repeat (refine Gq ?_; (conv => whnf))))
  ((conv => whnf); (refine HfA h ?_); ((conv => whnf); repeat (refine Gq ?_; (conv => whnf))))
  exact TeA
theorem sc_lt (h : Runs Tryz.prog 106 [sD a, sD b] (eD r)) : Runs Tryz.prog 57 [sD ⟨#[60]⟩, sD a, sD b] (eD r) := by
  as_aux_lemma =>
  refine Runs.wp Am.hT Am.hm Tryz.func57 rfl (by decide) ⟨[], [0, 1, 2, 6, 7, 8, 24], 31⟩ ?_; ((conv => whnf); repeat (refine Gq ?_; (conv => whnf)))
  ((conv => whnf); (refine HfA ha ?_); ((conv => whnf); repeat (refine Gq ?_; (conv => whnf))))
  ((conv => whnf); (refine HfA hb ?_); ((conv => whnf); repeat (refine Gq ?_; (conv => whnf))))
  ((conv => whnf); (refine HfA h ?_); ((conv => whnf); repeat (refine Gq ?_; (conv => whnf))))
  exact TeA
theorem sc_gt (h : Runs Tryz.prog 108 [sD a, sD b] (eD r)) : Runs Tryz.prog 57 [sD ⟨#[62]⟩, sD a, sD b] (eD r) := by
  as_aux_lemma =>
  refine Runs.wp Am.hT Am.hm Tryz.func57 rfl (by decide) ⟨[], [0, 1, 2, 6, 7, 8, 24], 31⟩ ?_; ((conv => whnf); repeat (refine Gq ?_; (conv => whnf)))
  ((conv => whnf); (refine HfA ha ?_); ((conv => whnf); repeat (refine Gq ?_; (conv => whnf))))
  ((conv => whnf); (refine HfA hb ?_); ((conv => whnf); repeat (refine Gq ?_; (conv => whnf))))
  ((conv => whnf); (refine HfA h ?_); ((conv => whnf); repeat (refine Gq ?_; (conv => whnf))))
  exact TeA
theorem sc_eq (h : Runs Tryz.prog 109 [sD a, sD b] (eD r)) : Runs Tryz.prog 57 [sD ⟨#[61]⟩, sD a, sD b] (eD r) := by
  as_aux_lemma =>
  refine Runs.wp Am.hT Am.hm Tryz.func57 rfl (by decide) ⟨[], [0, 1, 2, 6, 7, 8, 24], 31⟩ ?_; ((conv => whnf); repeat (refine Gq ?_; (conv => whnf)))
  ((conv => whnf); (refine HfA ha ?_); ((conv => whnf); repeat (refine Gq ?_; (conv => whnf))))
  ((conv => whnf); (refine HfA hb ?_); ((conv => whnf); repeat (refine Gq ?_; (conv => whnf))))
  ((conv => whnf); (refine HfA h ?_); ((conv => whnf); repeat (refine Gq ?_; (conv => whnf))))
  exact TeA
theorem sc_ne (h : Runs Tryz.prog 110 [sD a, sD b] (eD r)) : Runs Tryz.prog 57 [sD ⟨#[126]⟩, sD a, sD b] (eD r) := by
  as_aux_lemma =>
  refine Runs.wp Am.hT Am.hm Tryz.func57 rfl (by decide) ⟨[], [0, 1, 2, 6, 7, 8, 24], 31⟩ ?_; ((conv => whnf); repeat (refine Gq ?_; (conv => whnf)))
  ((conv => whnf); (refine HfA ha ?_); ((conv => whnf); repeat (refine Gq ?_; (conv => whnf))))
  ((conv => whnf); (refine HfA hb ?_); ((conv => whnf); repeat (refine Gq ?_; (conv => whnf))))
  ((conv => whnf); (refine HfA h ?_); ((conv => whnf); repeat (refine Gq ?_; (conv => whnf))))
  exact TeA
end
section
variable {a : ByteArray} {r : ByteArray} (ha : Runs Tryz.prog 74 [sD a] (bD true))
include ha
theorem sm_neg_runs (h : Runs Tryz.prog 147 [sD a] (sD r)) : Runs Tryz.prog 95 [sD ⟨#[45]⟩, sD a] (eD (r, 0)) := by
  as_aux_lemma =>
  refine Runs.wp Am.hT Am.hm Tryz.func95 rfl (by decide) ⟨[], [0, 1, 4, 5, 6, 17], 21⟩ ?_; ((conv => whnf); repeat (refine Gq ?_; (conv => whnf)))
  ((conv => whnf); (refine HfA ha ?_); ((conv => whnf); repeat (refine Gq ?_; (conv => whnf))))
  ((conv => whnf); (refine HfA h ?_); ((conv => whnf); repeat (refine Gq ?_; (conv => whnf))))
  exact TeA
theorem sm_not_runs (h : Runs Tryz.prog 148 [sD a] (sD r)) : Runs Tryz.prog 95 [sD ⟨#[126]⟩, sD a] (eD (r, 0)) := by
  as_aux_lemma =>
  refine Runs.wp Am.hT Am.hm Tryz.func95 rfl (by decide) ⟨[], [0, 1, 4, 5, 6, 17], 21⟩ ?_; ((conv => whnf); repeat (refine Gq ?_; (conv => whnf)))
  ((conv => whnf); (refine HfA ha ?_); ((conv => whnf); repeat (refine Gq ?_; (conv => whnf))))
  ((conv => whnf); (refine HfA h ?_); ((conv => whnf); repeat (refine Gq ?_; (conv => whnf))))
  exact TeA
theorem sm_sgn_runs (h : Runs Tryz.prog 149 [sD a] (sD r)) : Runs Tryz.prog 95 [sD ⟨#[42]⟩, sD a] (eD (r, 0)) := by
  as_aux_lemma =>
  refine Runs.wp Am.hT Am.hm Tryz.func95 rfl (by decide) ⟨[], [0, 1, 4, 5, 6, 17], 21⟩ ?_; ((conv => whnf); repeat (refine Gq ?_; (conv => whnf)))
  ((conv => whnf); (refine HfA ha ?_); ((conv => whnf); repeat (refine Gq ?_; (conv => whnf))))
  ((conv => whnf); (refine HfA h ?_); ((conv => whnf); repeat (refine Gq ?_; (conv => whnf))))
  exact TeA
end
end Go.Proofs.YtkhgpnbhnipndaaGreatDoor.Am
end
