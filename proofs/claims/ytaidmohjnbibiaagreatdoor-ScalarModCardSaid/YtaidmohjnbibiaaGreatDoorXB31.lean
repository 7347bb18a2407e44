/- What the law leans on, part 32: declarations of several texts of ours, in their order. -/
import Derived.Test.YtaidmohjnbibiaaGreatDoorXB30
import Derived.Test.YtaidmohjnbibiaaGreatDoorXB28
section
/- ScalarMod: what is left of a sum is left of what is left of both; of a number and itself nothing is. Conditions: none but the statement's own. -/
namespace Go.Proofs.YtaidmohjnbibiaaGreatDoor.Pure
open Go.Lib Go.RowKit Go.Proofs.YtaidmohjnbibiaaGreatDoor.LScalarMod Go.Proofs.YtaidmohjnbibiaaGreatDoorW.PrintWords Go.Proofs.YtaidmohjnbibiaaGreatDoorW.PrintLast Go.Proofs.YtaidmohjnbibiaaGreatDoor Go.Proofs.YtaidmohjnbibiaaGreatDoor.Nm
set_option linter.unusedVariables false
set_option linter.unusedSimpArgs false
theorem told_num {x : Int} (hx : Sm x) : told x = (numS x, 0) := if_pos hx
theorem fm_emod_pos {x y : Int} (h : 0 < y) : fm x y = x % y := by
  unfold fm fl
  rw [if_pos h]
  have := Int.mul_ediv_add_emod x y
  omega
theorem fm_emod_neg {x y : Int} (h : y < 0) : fm x y = -((-x) % (-y)) := by
  unfold fm fl
  rw [if_neg (by omega)]
  have h1 := Int.mul_ediv_add_emod (-x) (-y)
  have h2 : -y * (-x / -y) = -(y * (-x / -y)) := Int.neg_mul _ _
  omega
theorem fm_small {x y : Int} (hy : Sm y) (h0 : y ≠ 0) : Sm (fm x y) := by
  unfold Sm at hy ⊢
  rcases Int.lt_or_gt_of_ne h0 with h | h
  · have := fm_neg (x := x) h; omega
  · have := fm_pos (x := x) h; omega
theorem fm_add {a b m : Int} (h0 : m ≠ 0) : fm (fm a m + fm b m) m = fm (a + b) m := by
  rcases Int.lt_or_gt_of_ne h0 with h | h
  · rw [fm_emod_neg h, fm_emod_neg h, fm_emod_neg h, fm_emod_neg h, show -(-(-a % -m) + -(-b % -m)) = (-a) % -m + (-b) % -m by omega, show -(a + b) = -a + -b by omega]
    rw [← Int.add_emod]
  · rw [fm_emod_pos h, fm_emod_pos h, fm_emod_pos h, fm_emod_pos h, ← Int.add_emod]
theorem fm_self {m : Int} (h0 : m ≠ 0) : fm m m = 0 := by
  rcases Int.lt_or_gt_of_ne h0 with h | h
  · rw [fm_emod_neg h]; simp
  · rw [fm_emod_pos h]; simp
theorem mod_j0 (a b m : Int) (ha : Sm a) (hb : Sm b) (hm : Sm m) (h0 : m ≠ 0) : Ev (fun k => reredoslaw12_ScalarMod.j0 k (numS a) (numS b) (numS m) true false) true := by
  refine Ev.step (f := ?f) (fun k => ?h) ?g
  case h => rw [reredoslaw12_ScalarMod.j0]
  case g =>
    refine Ev.congr (fun k => if_neg Bool.false_ne_true) ?_
    have hp := dMod ha hm h0
    have hq := dMod hb hm h0
    rw [told_num (fm_small hm h0)] at hp hq
    have hz := dMod hm hm h0
    rw [fm_self h0, told_num (sm_one (by omega))] at hz
    have ht := dAdd (fm_small (x := a) hm h0) (fm_small (x := b) hm h0)
    rcases told_or (a + b) with ⟨e, hs⟩ | ⟨e, hs⟩
    · have h1 := dAdd ha hb
      rw [e] at h1
      have h2 := dMod hs hm h0
      rw [told_num (fm_small hm h0)] at h2
      rcases told_or (fm a m + fm b m) with ⟨e2, hs2⟩ | ⟨e2, hs2⟩
      · rw [e2] at ht
        have hy := dMod hs2 hm h0
        rw [fm_add h0, told_num (fm_small hm h0)] at hy
        refine Ev.bind h1 (Ev.bind h2 (Ev.bind hp (Ev.bind hq (Ev.bind ht (Ev.bind hy (Ev.bind hz ?_))))))
        simp only [if_true, zero_list]
        exact Ev.now _
      · rw [e2] at ht
        obtain ⟨r, hy⟩ := anyDyad ⟨#[33]⟩ (BA []) (numS m)
        refine Ev.bind h1 (Ev.bind h2 (Ev.bind hp (Ev.bind hq (Ev.bind ht (Ev.bind hy (Ev.bind hz ?_))))))
        simp only [if_true, zero_list]
        exact Ev.now _
    · have h1 := dAdd ha hb
      rw [e] at h1
      obtain ⟨r2, h2⟩ := anyDyad ⟨#[33]⟩ (BA []) (numS m)
      obtain ⟨t, ht⟩ : ∃ t, Ev (fun k => Hd.scalarDyad.f k ⟨#[43]⟩ (numS (fm a m)) (numS (fm b m))) t := ⟨_, ht⟩
      obtain ⟨r, hy⟩ := anyDyad ⟨#[33]⟩ t.1 (numS m)
      refine Ev.bind h1 (Ev.bind h2 (Ev.bind hp (Ev.bind hq (Ev.bind ht (Ev.bind hy (Ev.bind hz ?_))))))
      simp only [if_true, zero_list]
      exact Ev.now _
theorem mod_no (a b m : ByteArray) : Ev (fun k => reredoslaw12_ScalarMod.j0 k a b m true true) true := by
  refine Ev.step (f := ?f) (fun k => ?h) ?g
  case h => rw [reredoslaw12_ScalarMod.j0]
  case g => exact Ev.congr (fun k => if_pos rfl) (Ev.now _)
theorem ScalarMod : reredoslaw12_ScalarMod.Pure := by
  intro a b m _ _ _
  have h : Ev (fun k => reredoslaw12_ScalarMod.f k a b m) true := by
    unfold reredoslaw12_ScalarMod.f
    refine Ev.bind shownS ?_
    by_cases h1 : (a.size : Int) > 200
    · exact Ev.congr (fun k => if_pos h1) (mod_no a b m)
    refine Ev.congr (fun k => if_neg h1) ?_
    by_cases h2 : (b.size : Int) > 200
    · exact Ev.congr (fun k => if_pos h2) (mod_no a b m)
    refine Ev.congr (fun k => if_neg h2) ?_
    by_cases h3 : (m.size : Int) > 200
    · exact Ev.congr (fun k => if_pos h3) (mod_no a b m)
    refine Ev.congr (fun k => if_neg h3) ?_
    rcases num_or a with ⟨l, rfl, hl⟩ | ⟨x, rfl, hx⟩
    · rw [may_ev, hl]
      exact mod_no _ _ _
    rw [mayS hx]
    simp only [Option.bind_some, if_true]
    rcases num_or b with ⟨l, rfl, hl⟩ | ⟨y, rfl, hy⟩
    · rw [may_ev, hl]
      exact mod_no _ _ _
    rw [mayS hy]
    simp only [Option.bind_some, if_true]
    rcases num_or m with ⟨l, rfl, hl⟩ | ⟨z, rfl, hz⟩
    · rw [may_ev, hl]
      exact mod_no _ _ _
    rw [mayS hz]
    simp only [Option.bind_some, if_true]
    by_cases h0 : z = 0
    · subst h0
      rw [zero_list]
      exact mod_no _ _ _
    · rw [show ((numS z).toList == ([48] : List UInt8)) = false from beq_eq_false_iff_ne.mpr (fun e => h0 ((list_zero z).1 e))]
      exact mod_j0 x y z hx hy hz h0
  exact h.rounds
end Go.Proofs.YtaidmohjnbibiaaGreatDoor.Pure
end
