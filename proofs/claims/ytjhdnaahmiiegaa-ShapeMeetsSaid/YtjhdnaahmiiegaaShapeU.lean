/- Shapes, plainly: the document's Offset and Place, and the program's Place, by the axes written out. -/
import Derived.Test.YtjhdnaahmiiegaaShapeT
namespace Go.Proofs.Ytjhdnaahmiiegaa.Sh
open Go.RowKit Go.Proofs.YtjhdnaahmiiegaaW.PrintWords Go.Proofs.YtjhdnaahmiiegaaW.PrintLast Go.Proofs.Ytjhdnaahmiiegaa
set_option linter.unusedVariables false
set_option linter.unusedSimpArgs false

/-! ### step -/
theorem step_loop (l : List Int) (hl : l.length ≤ 3) : ∀ (d : Nat) (i acc : Int), 0 ≤ i → (l.length : Int) - i ≤ d → 1 ≤ acc → acc * pr (l.drop i.toNat) ≤ 4096 → (∀ x ∈ l.drop i.toNat, 1 ≤ x) → Ev (fun k => K.reredosref03_step.l0 k l acc i) (acc * pr (l.drop i.toNat))
  | 0, i, acc, h0, hd, h1, h2, h3 => by
    rw [drop_end (by omega), pr_nil, Int.mul_one]
    refine Ev.step (f := fun _ => some acc) (fun k => ?_) (Ev.now _)
    simp only [K.reredosref03_step.l0]
    rw [if_neg (by omega)]
  | d + 1, i, acc, h0, hd, h1, h2, h3 => by
    by_cases hlt : i < l.length
    · rw [drop_rd h0 hlt] at h2 h3 ⊢
      rw [pr_cons, ← Int.mul_assoc] at h2 ⊢
      have q1 : ∀ x ∈ l.drop (i + 1).toNat, 1 ≤ x := fun x hx => h3 x (by simp [hx])
      have q2 := pr_pos q1
      have q3 : 1 ≤ rd l i := h3 _ (by simp)
      have e0 : 1 * 1 ≤ acc * rd l i := Int.mul_le_mul h1 q3 (by omega) (by omega)
      have e1 : acc * rd l i * 1 ≤ acc * rd l i * pr (l.drop (i + 1).toNat) := Int.mul_le_mul_of_nonneg_left q2 (by omega)
      have ih := step_loop l hl d (i + 1) (acc * rd l i) (by omega) (by omega) (by omega) h2 q1
      refine Ev.step (fun k => ?_) ih
      simp only [K.reredosref03_step.l0]
      rw [if_pos hlt, if_pos h0, w64 (x := acc * rd l i) (by omega) (by omega), w64 (x := i + 1) (by omega) (by omega)]
    · rw [drop_end (by omega), pr_nil, Int.mul_one]
      refine Ev.step (f := fun _ => some acc) (fun k => ?_) (Ev.now _)
      simp only [K.reredosref03_step.l0]
      rw [if_neg hlt]
/-- step ends, whatever the axes -/
theorem step_ends (l : List Int) (hl : l.length ≤ 3) : ∀ (d : Nat) (i acc : Int), 0 ≤ i → (l.length : Int) - i ≤ d → ∃ r, Ev (fun k => K.reredosref03_step.l0 k l acc i) r
  | 0, i, acc, h0, hd => by
    refine ⟨acc, Ev.step (f := fun _ => some acc) (fun k => ?_) (Ev.now _)⟩
    simp only [K.reredosref03_step.l0]
    rw [if_neg (by omega)]
  | d + 1, i, acc, h0, hd => by
    by_cases hlt : i < l.length
    · obtain ⟨r, ih⟩ := step_ends l hl d (i + 1) (wrap64 (acc * rd l i)) (by omega) (by omega)
      refine ⟨r, Ev.step (fun k => ?_) ih⟩
      simp only [K.reredosref03_step.l0]
      rw [if_pos hlt, if_pos h0, w64 (x := i + 1) (by omega) (by omega)]
    · refine ⟨acc, Ev.step (f := fun _ => some acc) (fun k => ?_) (Ev.now _)⟩
      simp only [K.reredosref03_step.l0]
      rw [if_neg hlt]
theorem step_ev (l : List Int) (hl : l.length ≤ 3) (i : Int) (h0 : 0 ≤ i) (hi : i < l.length) (h2 : pr (l.drop (i + 1).toNat) ≤ 4096) (h3 : ∀ x ∈ l.drop (i + 1).toNat, 1 ≤ x) : Ev (fun k => K.reredosref03_step.f k l i) (pr (l.drop (i + 1).toNat)) := by
  have := step_loop l hl l.length (i + 1) 1 (by omega) (by omega) (by omega) (by omega) h3
  rw [Int.one_mul] at this
  refine Ev.congr (fun k => ?_) this
  unfold K.reredosref03_step.f
  rw [w64 (by omega) (by omega)]
theorem step_any (l : List Int) (hl : l.length ≤ 3) (i : Int) (h0 : 0 ≤ i) (hi : i < l.length) : ∃ r, Ev (fun k => K.reredosref03_step.f k l i) r := by
  obtain ⟨r, h⟩ := step_ends l hl l.length (i + 1) 1 (by omega) (by omega)
  refine ⟨r, Ev.congr (fun k => ?_) h⟩
  unfold K.reredosref03_step.f
  rw [w64 (by omega) (by omega)]

/-! ### The document's Offset -/
def sumS : List Int → List Int → Int
  | n :: l, x :: m => x * pr l + sumS l m
  | _, _ => 0
theorem horner_sum : ∀ (l m : List Int) (acc : Int), l.length = m.length → horner acc l m = acc * pr l + sumS l m
  | [], [], acc, _ => by simp [horner, sumS, pr]
  | [], _ :: _, _, h => by simp at h
  | _ :: _, [], _, h => by simp at h
  | n :: l, x :: m, acc, h => by
    simp only [horner, sumS]
    rw [horner_sum l m _ (by simpa using h), pr_cons, Int.add_mul, Int.mul_assoc]
    omega
theorem sum_bd : ∀ (l m : List Int), okAt l m = true → 0 ≤ sumS l m ∧ sumS l m < pr l
  | [], [], _ => by simp [sumS, pr]
  | [], _ :: _, h => by simp [okAt] at h
  | _ :: _, [], h => by simp [okAt] at h
  | n :: l, x :: m, h => by
    have hp := pr_pos (okAt_pos h)
    simp [okAt] at h
    obtain ⟨⟨hx0, hxn⟩, hr⟩ := h
    obtain ⟨i0, i1⟩ := sum_bd l m hr
    have hq := pr_pos (okAt_pos hr)
    have e1 : x * pr l ≤ (n - 1) * pr l := Int.mul_le_mul_of_nonneg_right (by omega) (by omega)
    rw [Int.sub_mul, Int.one_mul] at e1
    have e2 : 0 ≤ x * pr l := Int.mul_nonneg hx0 (by omega)
    simp only [sumS, pr_cons]
    omega
theorem roff_loop (l m : List Int) (hlm : l.length = m.length) (hl : l.length ≤ 3) : ∀ (d : Nat) (i : Int), 0 ≤ i → (l.length : Int) - i = d → ∀ (acc : Int), (okAt (l.drop i.toNat) (m.drop i.toNat) = true → 0 ≤ acc ∧ acc ≤ 4096 * (3 - (d : Int)) ∧ pr (l.drop i.toNat) ≤ 4096) →
    Ev (fun k => K.reredosref03_Offset.l0 k l m acc i) (if okAt (l.drop i.toNat) (m.drop i.toNat) = true then (acc + sumS (l.drop i.toNat) (m.drop i.toNat), true) else (0, false))
  | 0, i, h0, hd, acc, hok => by
    rw [drop_end (by omega), drop_end (l := m) (by omega)]
    refine Ev.step (f := fun _ => some (acc, true)) (fun k => ?_) (by simp only [okAt, sumS, if_true, Int.add_zero]; exact Ev.now _)
    simp only [K.reredosref03_Offset.l0]
    rw [if_neg (by omega)]
  | d + 1, i, h0, hd, acc, hok => by
    have hlt : i < l.length := by omega
    have hltm : i < m.length := by omega
    rw [drop_rd h0 hlt, drop_rd (l := m) h0 hltm] at hok ⊢
    by_cases hx0 : rd m i < 0
    · rw [if_neg (by simp [okAt]; omega)]
      refine Ev.step (f := fun _ => some (0, false)) (fun k => ?_) (Ev.now _)
      simp only [K.reredosref03_Offset.l0]
      rw [if_pos hlt, if_pos h0, if_pos hltm, if_pos hx0]
    · by_cases hxn : rd m i ≥ rd l i
      · rw [if_neg (by simp [okAt]; omega)]
        refine Ev.step (f := fun _ => some (0, false)) (fun k => ?_) (Ev.now _)
        simp only [K.reredosref03_Offset.l0]
        rw [if_pos hlt, if_pos h0, if_pos hltm, if_neg hx0, if_pos hxn]
      · have hcons : okAt (rd l i :: l.drop (i + 1).toNat) (rd m i :: m.drop (i + 1).toNat) = okAt (l.drop (i + 1).toNat) (m.drop (i + 1).toNat) := by
          simp only [okAt]
          rw [decide_eq_true (show 0 ≤ rd m i by omega), decide_eq_true (show rd m i < rd l i by omega)]
          rfl
        rw [hcons] at hok ⊢
        by_cases hr : okAt (l.drop (i + 1).toNat) (m.drop (i + 1).toNat) = true
        · obtain ⟨b0, b1, b2⟩ := hok hr
          have q1 := okAt_pos hr
          have q2 := pr_pos q1
          have q3 : 1 ≤ rd l i := by omega
          rw [pr_cons] at b2
          have e0 : 1 * pr (l.drop (i + 1).toNat) ≤ rd l i * pr (l.drop (i + 1).toNat) := Int.mul_le_mul_of_nonneg_right q3 (by omega)
          have e1 : rd m i * pr (l.drop (i + 1).toNat) ≤ rd l i * pr (l.drop (i + 1).toNat) := Int.mul_le_mul_of_nonneg_right (by omega) (by omega)
          have e2 : 0 ≤ rd m i * pr (l.drop (i + 1).toNat) := Int.mul_nonneg (by omega) (by omega)
          have st := step_ev l hl i h0 hlt (by omega) q1
          have ih := roff_loop l m hlm hl d (i + 1) (by omega) (by omega) (acc + rd m i * pr (l.drop (i + 1).toNat)) (fun _ => ⟨by omega, by omega, by omega⟩)
          rw [if_pos hr] at ih ⊢
          simp only [sumS]
          rw [← Int.add_assoc]
          refine Ev.step (f := fun k => (K.reredosref03_step.f k l i).bind fun t => K.reredosref03_Offset.l0 k l m (wrap64 (acc + wrap64 (rd m i * t))) (wrap64 (i + 1))) (fun k => ?_) (Ev.bind st ?_)
          · simp only [K.reredosref03_Offset.l0]
            rw [if_pos hlt, if_pos h0, if_pos hltm, if_neg hx0, if_neg hxn]
          · rw [w64 (x := rd m i * pr (l.drop (i + 1).toNat)) (by omega) (by omega), w64 (x := acc + rd m i * pr (l.drop (i + 1).toNat)) (by omega) (by omega), w64 (x := i + 1) (by omega) (by omega)]
            exact ih
        · rw [if_neg hr]
          obtain ⟨r, st⟩ := step_any l hl i h0 hlt
          have ih := roff_loop l m hlm hl d (i + 1) (by omega) (by omega) (wrap64 (acc + wrap64 (rd m i * r))) (fun h => absurd h hr)
          rw [if_neg hr] at ih
          refine Ev.step (f := fun k => (K.reredosref03_step.f k l i).bind fun t => K.reredosref03_Offset.l0 k l m (wrap64 (acc + wrap64 (rd m i * t))) (wrap64 (i + 1))) (fun k => ?_) (Ev.bind st ?_)
          · simp only [K.reredosref03_Offset.l0]
            rw [if_pos hlt, if_pos h0, if_pos hltm, if_neg hx0, if_neg hxn]
          · rw [w64 (x := i + 1) (by omega) (by omega)]
            exact ih
theorem roffset_ev (l m : List Int) (hl : l.length ≤ 20) (hm : m.length ≤ 20) : Ev (fun k => K.reredosref03_Offset.f k l m) (offS l m) := by
  unfold K.reredosref03_Offset.f
  refine Ev.bind (rmay_ev l) ?_
  have hno : ∀ t, t = true → ¬ ((sizeS l).2 = 0 ∧ okAt l m = true) → Ev (fun k => K.reredosref03_Offset.j0 k l m t) (offS l m) := fun t ht h => by
    unfold offS
    rw [if_neg h]
    exact Ev.step (f := fun _ => some (0, false)) (fun k => by simp only [K.reredosref03_Offset.j0, if_pos ht]) (Ev.now _)
  by_cases hs : (sizeS l).2 = 0
  · simp only [hs, beq_self_eq_true, if_true]
    by_cases hlen : l.length = m.length
    · rw [show ((l.length : Int) != (m.length : Int)) = false by rw [hlen]; simp]
      have h3 : l.length ≤ 3 := (size_ok (n := (sizeS l).1) (by rw [← hs])).1
      have := roff_loop l m hlen h3 l.length 0 (by omega) (by omega) 0 (fun h => by
        have h' : okAt l m = true := by simpa using h
        obtain ⟨a1, a2, a3⟩ := ok_few hs h'
        refine ⟨by omega, by omega, ?_⟩
        simpa using a3)
      refine Ev.step (fun k => ?_) (show Ev (fun k => K.reredosref03_Offset.l0 k l m 0 0) (offS l m) from ?_)
      · simp only [K.reredosref03_Offset.j0]
        rfl
      · unfold offS
        rw [horner_sum l m 0 hlen]
        simpa [hs] using this
    · refine hno _ ?_ (fun h => hlen (okAt_len h.2))
      rw [bne_iff_ne]
      omega
  · rw [show ((sizeS l).2 == 0) = false from beq_eq_false_iff_ne.mpr hs]
    exact hno true rfl (fun h => hs h.1)

/-! ### Place -/
def plS : List Int → Int → List Int
  | [], _ => []
  | n :: l, x => x / pr l % n :: plS l x
def placeS (l : List Int) (x : Int) : List Int × Bool := if (sizeS l).2 = 0 ∧ 0 ≤ x ∧ x < (sizeS l).1 then (plS l x, true) else ([], false)
theorem tdm {x n : Int} (hx : 0 ≤ x) (hn : 1 ≤ n) (h : x ≤ 4096) : wrap64 (Int.tdiv x n) = x / n ∧ Int.tmod x n = x % n ∧ 0 ≤ x / n ∧ x / n ≤ 4096 := by
  have e1 : Int.tdiv x n = x / n := Int.tdiv_eq_ediv_of_nonneg hx
  have e2 : 0 ≤ x / n := Int.ediv_nonneg hx (by omega)
  have e3 : x / n ≤ x := Int.ediv_le_self _ hx
  exact ⟨by rw [e1]; exact w64 (by omega) (by omega), Int.tmod_eq_emod_of_nonneg hx, e2, by omega⟩
theorem rplace_loop (l : List Int) (x : Int) (hl : l.length ≤ 3) (hp : ∀ y ∈ l, 1 ≤ y) (hx : 0 ≤ x) (hx2 : x ≤ 4096) : ∀ (d : Nat) (i : Int) (acc : List Int), 0 ≤ i → (l.length : Int) - i ≤ d → acc.length = i.toNat → pr (l.drop i.toNat) ≤ 4096 →
    Ev (fun k => K.reredosref03_Place.l0 k l x acc i) (acc ++ plS (l.drop i.toNat) x, true)
  | 0, i, acc, h0, hd, ha, hb => by
    rw [drop_end (by omega)]
    refine Ev.step (f := fun _ => some (acc, true)) (fun k => ?_) (by simp only [plS, List.append_nil]; exact Ev.now _)
    simp only [K.reredosref03_Place.l0]
    rw [if_neg (by omega)]
  | d + 1, i, acc, h0, hd, ha, hb => by
    by_cases hlt : i < l.length
    · have hn : 1 ≤ rd l i := hp _ (rd_mem h0 hlt)
      rw [drop_rd h0 hlt] at hb ⊢
      rw [pr_cons] at hb
      have q1 : ∀ y ∈ l.drop (i + 1).toNat, 1 ≤ y := fun y hy => hp y (List.mem_of_mem_drop hy)
      have q2 := pr_pos q1
      have e0 : 1 * pr (l.drop (i + 1).toNat) ≤ rd l i * pr (l.drop (i + 1).toNat) := Int.mul_le_mul_of_nonneg_right hn (by omega)
      have st := step_ev l hl i h0 hlt (by omega) q1
      obtain ⟨t1, _, t3, t4⟩ := tdm (x := x) (n := pr (l.drop (i + 1).toNat)) hx q2 hx2
      obtain ⟨_, u2, _, _⟩ := tdm (x := x / pr (l.drop (i + 1).toNat)) (n := rd l i) t3 hn t4
      have ih := rplace_loop l x hl hp hx hx2 d (i + 1) (acc ++ [x / pr (l.drop (i + 1).toNat) % rd l i]) (by omega) (by omega) (by simp; omega) (by omega)
      simp only [plS]
      rw [show acc ++ x / pr (l.drop (i + 1).toNat) % rd l i :: plS (l.drop (i + 1).toNat) x = (acc ++ [x / pr (l.drop (i + 1).toNat) % rd l i]) ++ plS (l.drop (i + 1).toNat) x by simp]
      refine Ev.step (f := fun k => (K.reredosref03_step.f k l i).bind fun t => if t = 0 then none else if (0 : Int) ≤ i then (if rd l i = 0 then none else if acc.length < 17592186044416 then K.reredosref03_Place.l0 k l x (acc ++ [Int.tmod (wrap64 (Int.tdiv x t)) (rd l i)]) (wrap64 (i + 1)) else none) else none) (fun k => ?_) (Ev.bind st ?_)
      · simp only [K.reredosref03_Place.l0]
        rw [if_pos hlt]
      · refine Ev.congr (fun k => ?_) ih
        rw [if_neg (by omega), if_pos h0, if_neg (by omega), if_pos (by omega), t1, u2, w64 (x := i + 1) (by omega) (by omega)]
    · rw [drop_end (by omega)]
      refine Ev.step (f := fun _ => some (acc, true)) (fun k => ?_) (by simp only [plS, List.append_nil]; exact Ev.now _)
      simp only [K.reredosref03_Place.l0]
      rw [if_neg hlt]
theorem rplace_ev (l : List Int) (x : Int) : Ev (fun k => K.reredosref03_Place.f k l x) (placeS l x) := by
  unfold K.reredosref03_Place.f
  refine Ev.bind (rsize_ev l) ?_
  have hno : ∀ t, t = true → ¬ ((sizeS l).2 = 0 ∧ 0 ≤ x ∧ x < (sizeS l).1) → Ev (fun k => K.reredosref03_Place.j0 k l x t) (placeS l x) := fun t ht h => by
    unfold placeS
    rw [if_neg h]
    exact Ev.step (f := fun _ => some ([], false)) (fun k => by simp only [K.reredosref03_Place.j0, if_pos ht]) (Ev.now _)
  by_cases hs : (sizeS l).2 = 0
  · simp only [if_pos hs]
    by_cases hx : x < 0
    · simp only [if_pos hx]
      exact hno true rfl (fun h => by omega)
    · simp only [if_neg hx]
      by_cases hy : x ≥ (sizeS l).1
      · rw [decide_eq_true hy]
        exact hno true rfl (fun h => by omega)
      · rw [decide_eq_false hy]
        obtain ⟨h3, _, hz⟩ := size_ok (l := l) (n := (sizeS l).1) (by rw [← hs])
        rcases hz with ⟨_, hz⟩ | ⟨h1, hpr, b1, b2⟩
        · omega
        · have := rplace_loop l x h3 h1 (by omega) (by omega) l.length 0 [] (by omega) (by omega) rfl (by simp; omega)
          refine Ev.step (fun k => ?_) (show Ev (fun k => K.reredosref03_Place.l0 k l x [] 0) (placeS l x) from ?_)
          · simp only [K.reredosref03_Place.j0]
            rfl
          · unfold placeS
            rw [if_pos ⟨hs, by omega, by omega⟩]
            simpa using this
  · simp only [if_neg hs]
    exact hno true rfl (fun h => hs h.1)
theorem plAt_eq (l : List Int) (x : Int) (hl : l.length ≤ 3) (hp : ∀ y ∈ l, 1 ≤ y) (hx : 0 ≤ x) (hx2 : x < pr l) (hb : pr l ≤ 4096) : (Hd.plAt l x (Hd.bk l.length l.length)).1 = plS l x := by
  match l, hl with
  | [], _ => rfl
  | [a], _ =>
    have ha := hp a (by simp)
    simp only [pr, Int.mul_one] at hx2 hb
    show [Int.tmod x a] = [x / 1 % a]
    rw [(tdm hx ha (by omega)).2.1, Int.ediv_one]
  | [a, b], _ =>
    have ha := hp a (by simp)
    have hb' := hp b (by simp)
    simp only [pr, Int.mul_one] at hx2 hb
    obtain ⟨t1, t2, t3, t4⟩ := tdm (x := x) (n := b) hx hb' (by omega)
    show [Int.tmod (wrap64 (Int.tdiv x b)) a, Int.tmod x b] = [x / (b * 1) % a, x / 1 % b]
    rw [t1, t2, (tdm t3 ha t4).2.1, Int.ediv_one, Int.mul_one]
  | [a, b, c], _ =>
    have ha := hp a (by simp)
    have hb' := hp b (by simp)
    have hc := hp c (by simp)
    simp only [pr, Int.mul_one] at hx2 hb
    obtain ⟨t1, t2, t3, t4⟩ := tdm (x := x) (n := c) hx hc (by omega)
    obtain ⟨u1, u2, u3, u4⟩ := tdm (x := x / c) (n := b) t3 hb' t4
    show [Int.tmod (wrap64 (Int.tdiv (wrap64 (Int.tdiv x c)) b)) a, Int.tmod (wrap64 (Int.tdiv x c)) b, Int.tmod x c] = [x / (b * (c * 1)) % a, x / (c * 1) % b, x / 1 % c]
    rw [t1, t2, u1, u2, (tdm u3 ha u4).2.1, Int.ediv_one, Int.mul_one, Int.mul_comm b c, Int.ediv_ediv_of_nonneg (by omega)]
theorem place_ev (l : List Int) (x : Int) (hl : l.length ≤ 20) : Ev (fun k => Hd.shape_Place.f k l x) (placeS l x) := by
  unfold Hd.shape_Place.f
  refine Ev.bind (size_ev l (by omega)) ?_
  unfold placeS
  by_cases hs : (sizeS l).2 = 0
  · simp only [if_pos hs]
    by_cases hx : x < 0
    · simp only [if_pos hx]
      rw [if_neg (by omega)]
      exact Ev.now _
    · simp only [if_neg hx]
      by_cases hy : x ≥ (sizeS l).1
      · simp only [if_pos hy]
        rw [if_neg (by omega)]
        exact Ev.now _
      · simp only [if_neg hy]
        obtain ⟨h3, _, hz⟩ := size_ok (l := l) (n := (sizeS l).1) (by rw [← hs])
        rcases hz with ⟨_, hz⟩ | ⟨h1, hpr, b1, b2⟩
        · omega
        · have hno : ¬ ((∃ n ∈ l, n = 0) ∨ 17592186044416 ≤ l.length) := by
            rintro (⟨n, hn, rfl⟩ | h)
            · have := h1 0 hn
              omega
            · omega
          simp only [if_neg hno]
          rw [if_pos ⟨hs, by omega, by omega⟩, plAt_eq l x h3 h1 (by omega) (by omega) (by omega)]
          exact Ev.now _
  · simp only [if_neg hs]
    rw [if_neg (fun h => hs h.1)]
    exact Ev.now _
end Go.Proofs.Ytjhdnaahmiiegaa.Sh
