/- ShapeRises: of two elements the one that is ahead on the first axis on which they are apart stands ahead. Conditions: the slices within the statement's own reach. -/
import Derived.Test.YtjhdnaahmiiegaaL2
import Derived.Test.YtjhdnaahmiiegaaShapeV
import Derived.Test.YtjhdnaahmiiegaaShapeShown
namespace Go.Proofs.Ytjhdnaahmiiegaa.Pure
open Go.RowKit Go.Proofs.Ytjhdnaahmiiegaa.L Go.Proofs.YtjhdnaahmiiegaaW.PrintWords Go.Proofs.YtjhdnaahmiiegaaW.PrintLast Go.Proofs.Ytjhdnaahmiiegaa Go.Proofs.Ytjhdnaahmiiegaa.Sh
set_option linter.unusedVariables false
set_option linter.unusedSimpArgs false

theorem pl_drop : ∀ (l : List Int) (x : Int) (i : Nat), (plS l x).drop i = plS (l.drop i) x
  | l, x, 0 => by simp
  | [], x, i + 1 => by simp [plS]
  | n :: l, x, i + 1 => by simp only [plS, List.drop_succ_cons]; exact pl_drop l x i
theorem mod_cons (n : Int) (l : List Int) (x : Int) (h : ∀ y ∈ n :: l, 1 ≤ y) (hx : 0 ≤ x) : x % pr (n :: l) = x / pr l % n * pr l + x % pr l := by
  have h1 := pl_sum (n :: l) x h hx
  have h2 := pl_sum l x (fun y hy => h y (by simp [hy])) hx
  simp only [plS, sumS] at h1
  rw [← h1, h2]
theorem head_rises (n : Int) (l : List Int) (x y : Int) (h : ∀ z ∈ n :: l, 1 ≤ z) (hx : 0 ≤ x) (hy : 0 ≤ y) (hlt : x / pr l % n < y / pr l % n) : x % pr (n :: l) < y % pr (n :: l) := by
  have hp := pr_pos (l := l) (fun z hz => h z (by simp [hz]))
  rw [mod_cons n l x h hx, mod_cons n l y h hy]
  have a1 := Int.emod_lt_of_pos x (show 0 < pr l by omega)
  have a2 := Int.emod_nonneg y (show pr l ≠ 0 by omega)
  have a3 : (x / pr l % n + 1) * pr l ≤ y / pr l % n * pr l := Int.mul_le_mul_of_nonneg_right (by omega) (by omega)
  rw [Int.add_mul, Int.one_mul] at a3
  omega
theorem rises_loop (l : List Int) (x y X Y : Int) (hl : l.length ≤ 3) (h : ∀ z ∈ l, 1 ≤ z) (hx : 0 ≤ x) (hy : 0 ≤ y) : ∀ (d : Nat) (i : Int), 0 ≤ i → (l.length : Int) - i ≤ d → (X < Y ↔ x % pr (l.drop i.toNat) < y % pr (l.drop i.toNat)) → (X = Y ↔ x % pr (l.drop i.toNat) = y % pr (l.drop i.toNat)) →
    Ev (fun k => reredoslaw03_ShapeRises.l0 k true X Y (plS l x) (plS l y) i) true
  | 0, i, h0, hd, hlt, heq => by
    rw [drop_end (by omega)] at heq
    refine Sh.Ev.shift ?_
    simp only [reredoslaw03_ShapeRises.l0, plS_len, if_neg (show ¬ i < (l.length : Int) by omega), if_true]
    rw [show (X == Y) = true from beq_iff_eq.mpr (heq.2 (by simp [pr, Int.emod_one]))]
    exact Ev.now _
  | d + 1, i, h0, hd, hlt, heq => by
    by_cases hi : i < l.length
    · have dx := pl_drop l x i.toNat
      have dy := pl_drop l y i.toNat
      rw [drop_rd h0 (by rw [plS_len]; exact hi), drop_rd h0 hi] at dx dy
      simp only [plS] at dx dy
      have rx := (List.cons.inj dx).1
      have ry := (List.cons.inj dy).1
      rw [drop_rd h0 hi] at hlt heq
      have hh : ∀ z ∈ rd l i :: l.drop (i + 1).toNat, 1 ≤ z := by
        rw [← drop_rd h0 hi]
        exact fun z hz => h z (List.mem_of_mem_drop hz)
      refine Sh.Ev.shift ?_
      simp only [reredoslaw03_ShapeRises.l0, plS_len, if_pos hi, if_pos h0, if_true]
      rw [rx, ry]
      by_cases he : x / pr (l.drop (i + 1).toNat) % rd l i = y / pr (l.drop (i + 1).toNat) % rd l i
      · simp only [if_pos he]
        rw [mod_cons _ _ x hh hx, mod_cons _ _ y hh hy, he] at hlt heq
        rw [w64 (by omega) (by omega)]
        exact rises_loop l x y X Y hl h hx hy d (i + 1) (by omega) (by omega) ⟨fun g => by have := hlt.1 g; omega, fun g => hlt.2 (by omega)⟩ ⟨fun g => by have := heq.1 g; omega, fun g => heq.2 (by omega)⟩
      · simp only [if_neg he]
        by_cases hc : x / pr (l.drop (i + 1).toNat) % rd l i < y / pr (l.drop (i + 1).toNat) % rd l i
        · rw [decide_eq_true hc, decide_eq_true (hlt.2 (head_rises _ _ x y hh hx hy hc))]
          exact Ev.now _
        · have := head_rises _ _ y x hh hy hx (by omega)
          rw [decide_eq_false hc, decide_eq_false (fun g => by have := hlt.1 g; omega)]
          exact Ev.now _
    · rw [drop_end (by omega)] at heq
      refine Sh.Ev.shift ?_
      simp only [reredoslaw03_ShapeRises.l0, plS_len, if_neg hi, if_true]
      rw [show (X == Y) = true from beq_iff_eq.mpr (heq.2 (by simp [pr, Int.emod_one]))]
      exact Ev.now _
theorem ShapeRises : reredoslaw03_ShapeRises.Pure := by
  intro l o u hl _ _ ho hu
  refine Ev.rounds ?_
  unfold reredoslaw03_ShapeRises.f
  refine Ev.bind shown_ev (Ev.bind (size_ev l (by simpa [maxLen] using hl)) ?_)
  have hj : ∀ n b, b = true → Ev (fun k => reredoslaw03_ShapeRises.j0 k l o u true n b) true := fun n b hb => by
    subst hb
    refine Sh.Ev.shift ?_
    simp only [reredoslaw03_ShapeRises.j0, if_true]
    exact Ev.now _
  by_cases h20 : (l.length : Int) > 20
  · simp only [if_pos h20]
    exact hj _ _ rfl
  · simp only [if_neg h20]
    by_cases hs : (sizeS l).2 = 0
    · simp only [if_pos hs]
      by_cases hz : (sizeS l).1 = 0
      · rw [show ((sizeS l).1 == 0) = true from beq_iff_eq.mpr hz]
        exact hj _ _ rfl
      · rw [show ((sizeS l).1 == 0) = false from beq_eq_false_iff_ne.mpr hz]
        obtain ⟨h3, hb, hc⟩ := size_ok (l := l) (n := (sizeS l).1) (by rw [← hs])
        rcases hc with ⟨_, hc⟩ | ⟨h1, hpr, b1, b2⟩
        · exact absurd hc hz
        · have e1 : IntKind.u16.min = 0 := rfl
          have e2 : IntKind.u16.max = 65535 := rfl
          simp [Lit.wf] at ho hu
          obtain ⟨x, hx⟩ : ∃ x, x = Int.tmod (wrap64 o) (sizeS l).1 := ⟨_, rfl⟩
          obtain ⟨y, hy⟩ : ∃ y, y = Int.tmod (wrap64 u) (sizeS l).1 := ⟨_, rfl⟩
          have hx' : x = o % (sizeS l).1 := by rw [hx, w64 (by omega) (by omega), Int.tmod_eq_emod_of_nonneg (by omega)]
          have hy' : y = u % (sizeS l).1 := by rw [hy, w64 (by omega) (by omega), Int.tmod_eq_emod_of_nonneg (by omega)]
          have x0 : 0 ≤ x := by rw [hx']; exact Int.emod_nonneg _ (by omega)
          have x1 : x < (sizeS l).1 := by rw [hx']; exact Int.emod_lt_of_pos _ (by omega)
          have y0 : 0 ≤ y := by rw [hy']; exact Int.emod_nonneg _ (by omega)
          have y1 : y < (sizeS l).1 := by rw [hy']; exact Int.emod_lt_of_pos _ (by omega)
          have p1 : placeS l x = (plS l x, true) := by unfold placeS; rw [if_pos ⟨hs, x0, x1⟩]
          have p2 : placeS l y = (plS l y, true) := by unfold placeS; rw [if_pos ⟨hs, y0, y1⟩]
          refine Sh.Ev.shift ?_
          simp only [reredoslaw03_ShapeRises.j0, if_neg (show ¬ (false = true) by decide), if_neg hz, ← hx, ← hy]
          refine Ev.bind (place_ev l x (by omega)) ?_
          rw [p1]
          refine Ev.bind (place_ev l y (by omega)) ?_
          rw [p2]
          simp only [if_true, plS_len, bne_self_eq_false]
          refine Sh.Ev.shift ?_
          simp only [reredoslaw03_ShapeRises.j1, if_neg (show ¬ (false = true) by decide)]
          rw [hpr] at x1 y1
          refine rises_loop l x y x y h3 h1 x0 y0 l.length 0 (by omega) (by omega) ?_ ?_
          all_goals
            simp only [Int.toNat_zero, List.drop_zero]
            rw [Int.emod_eq_of_lt x0 x1, Int.emod_eq_of_lt y0 y1]
    · simp only [if_neg hs]
      exact hj _ _ rfl

end Go.Proofs.Ytjhdnaahmiiegaa.Pure
