/- Shapes, plainly: where an element stands, and which one stands somewhere, by the axes written out; whether two are the same; two together. -/
import Derived.Test.YtjhdnaahmiiegaaShapeS
namespace Go.Proofs.Ytjhdnaahmiiegaa.Sh
open Go.RowKit Go.Proofs.YtjhdnaahmiiegaaW.PrintWords Go.Proofs.YtjhdnaahmiiegaaW.PrintLast Go.Proofs.Ytjhdnaahmiiegaa
set_option linter.unusedVariables false
set_option linter.unusedSimpArgs false

/-! ### What is known of a shape that may be -/
theorem size_ok {l : List Int} {n : Int} (h : sizeS l = (n, 0)) : l.length ≤ 3 ∧ (∀ x ∈ l, 0 ≤ x ∧ x ≤ 1099511627776) ∧ ((∃ x ∈ l, x = 0) ∧ n = 0 ∨ (∀ x ∈ l, 1 ≤ x) ∧ n = pr l ∧ 1 ≤ n ∧ n ≤ 4096) := by
  unfold sizeS at h
  by_cases h3 : 3 < l.length
  · rw [if_pos h3] at h; simp at h
  rw [if_neg h3] at h
  by_cases h5 : l.any (fun x => decide (x < 0)) = true
  · rw [if_pos h5] at h; simp at h
  rw [if_neg h5] at h
  by_cases h8 : l.any (fun x => decide (1099511627776 < x)) = true
  · rw [if_pos h8] at h; simp at h
  rw [if_neg h8] at h
  have hb : ∀ x ∈ l, 0 ≤ x ∧ x ≤ 1099511627776 := fun x hx => by
    have a1 := any_false h5 x hx
    have a2 := any_false h8 x hx
    simp at a1 a2
    omega
  refine ⟨by omega, hb, ?_⟩
  by_cases h0 : l.any (fun x => x == 0) = true
  · rw [if_pos h0] at h
    obtain ⟨x, hx, he⟩ := List.any_eq_true.1 h0
    simp at h
    exact .inl ⟨⟨x, hx, by simpa using he⟩, h.symm⟩
  · rw [if_neg h0] at h
    have hp : ∀ x ∈ l, 1 ≤ x := fun x hx => by
      have a3 := any_false h0 x hx
      have := hb x hx
      simp at a3
      omega
    by_cases hf : pr l ≤ 4096
    · rw [fin_le hf] at h
      simp at h
      have := pr_pos hp
      exact .inr ⟨hp, h.symm, by omega, by omega⟩
    · rw [fin_gt hf] at h
      simp at h

/-! ### Same -/
theorem same_loop (a b : List Int) (hab : a.length = b.length) (hl : a.length ≤ 9223372036854775807) : ∀ (d : Nat) (i : Int), 0 ≤ i → (a.length : Int) - i ≤ d → Ev (fun k => K.slices_Equal_int_int.l0 k a b a.length i) (decide (a.drop i.toNat = b.drop i.toNat))
  | 0, i, h0, hd => by
    rw [drop_end (by omega), drop_end (l := b) (by omega)]
    refine Ev.step (f := fun _ => some true) (fun k => ?_) (Ev.now _)
    simp only [K.slices_Equal_int_int.l0]
    rw [if_neg (by omega)]
  | d + 1, i, h0, hd => by
    by_cases hlt : i < a.length
    · rw [drop_rd h0 hlt, drop_rd (l := b) h0 (by omega)]
      by_cases he : rd a i = rd b i
      · have ih := same_loop a b hab hl d (i + 1) (by omega) (by omega)
        rw [show decide (rd a i :: a.drop (i + 1).toNat = rd b i :: b.drop (i + 1).toNat) = decide (a.drop (i + 1).toNat = b.drop (i + 1).toNat) by simp [he]]
        refine Ev.step (fun k => ?_) ih
        simp only [K.slices_Equal_int_int.l0]
        rw [if_pos hlt, if_pos h0, if_pos hlt, if_pos (by omega), if_pos he, w64 (by omega) (by omega)]
      · rw [show decide (rd a i :: a.drop (i + 1).toNat = rd b i :: b.drop (i + 1).toNat) = false by simp [he]]
        refine Ev.step (f := fun _ => some false) (fun k => ?_) (Ev.now _)
        simp only [K.slices_Equal_int_int.l0]
        rw [if_pos hlt, if_pos h0, if_pos hlt, if_pos (by omega), if_neg he]
    · rw [drop_end (by omega), drop_end (l := b) (by omega)]
      refine Ev.step (f := fun _ => some true) (fun k => ?_) (Ev.now _)
      simp only [K.slices_Equal_int_int.l0]
      rw [if_neg hlt]
theorem same_ev (a b : List Int) (hl : a.length ≤ 9223372036854775807) : Ev (fun k => K.shape_Same.f k a b) (decide (a = b)) := by
  unfold K.shape_Same.f K.slices_Equal_int_int.f
  by_cases hab : a.length = b.length
  · simp only [if_pos (show (a.length : Int) = b.length by omega)]
    have := same_loop a b hab hl a.length 0 (by omega) (by omega)
    exact Ev.bind this (Ev.now _)
  · simp only [if_neg (show ¬ (a.length : Int) = b.length by omega)]
    rw [show decide (a = b) = false from decide_eq_false (fun h => hab (by rw [h]))]
    exact Ev.now _
theorem rsame_loop (a b : List Int) (hab : a.length = b.length) (hl : a.length ≤ 9223372036854775807) : ∀ (d : Nat) (i : Int), 0 ≤ i → (a.length : Int) - i ≤ d → Ev (fun k => K.reredosref03_Same.l0 k a b i) (decide (a.drop i.toNat = b.drop i.toNat))
  | 0, i, h0, hd => by
    rw [drop_end (by omega), drop_end (l := b) (by omega)]
    refine Ev.step (f := fun _ => some true) (fun k => ?_) (Ev.now _)
    simp only [K.reredosref03_Same.l0]
    rw [if_neg (by omega)]
  | d + 1, i, h0, hd => by
    by_cases hlt : i < a.length
    · rw [drop_rd h0 hlt, drop_rd (l := b) h0 (by omega)]
      by_cases he : rd a i = rd b i
      · have ih := rsame_loop a b hab hl d (i + 1) (by omega) (by omega)
        rw [show decide (rd a i :: a.drop (i + 1).toNat = rd b i :: b.drop (i + 1).toNat) = decide (a.drop (i + 1).toNat = b.drop (i + 1).toNat) by simp [he]]
        refine Ev.step (fun k => ?_) ih
        simp only [K.reredosref03_Same.l0]
        rw [if_pos hlt, if_pos h0, if_pos (by omega), if_pos he, w64 (by omega) (by omega)]
      · rw [show decide (rd a i :: a.drop (i + 1).toNat = rd b i :: b.drop (i + 1).toNat) = false by simp [he]]
        refine Ev.step (f := fun _ => some false) (fun k => ?_) (Ev.now _)
        simp only [K.reredosref03_Same.l0]
        rw [if_pos hlt, if_pos h0, if_pos (by omega), if_neg he]
    · rw [drop_end (by omega), drop_end (l := b) (by omega)]
      refine Ev.step (f := fun _ => some true) (fun k => ?_) (Ev.now _)
      simp only [K.reredosref03_Same.l0]
      rw [if_neg hlt]
theorem rsame_ev (a b : List Int) (hl : a.length ≤ 9223372036854775807) : Ev (fun k => K.reredosref03_Same.f k a b) (decide (a = b)) := by
  unfold K.reredosref03_Same.f
  by_cases hab : a.length = b.length
  · simp only [if_pos (show (a.length : Int) = b.length by omega)]
    have := rsame_loop a b hab hl a.length 0 (by omega) (by omega)
    simpa using this
  · simp only [if_neg (show ¬ (a.length : Int) = b.length by omega)]
    rw [show decide (a = b) = false from decide_eq_false (fun h => hab (by rw [h]))]
    exact Ev.now _

/-! ### Meet -/
def meetS (a b : List Int) : List Int × Int := if a = b ∨ b = [] then (a, 0) else if a = [] then (b, 0) else ([], 4)
theorem meet_ev (a b : List Int) (ha : a.length < 17592186044416) (hb : b.length < 17592186044416) : Ev (fun k => K.shape_Meet.f k a b) (meetS a b) := by
  unfold K.shape_Meet.f
  refine Ev.bind (same_ev a b (by omega)) ?_
  have hj : ∀ t, (t = true ↔ (a = b ∨ b = [])) → Ev (fun k => K.shape_Meet.j0 k a b t) (meetS a b) := fun t ht => by
    refine Ev.step (f := fun _ => some (meetS a b)) (fun k => ?_) (Ev.now _)
    simp only [K.shape_Meet.j0, meetS]
    by_cases h : t = true
    · rw [if_pos h, if_pos (ht.1 h)]
      simp [Hd.slices_Clone.f, ha]
    · rw [if_neg h, if_neg (fun h' => h (ht.2 h'))]
      by_cases he : a = []
      · rw [if_pos (by rw [he]; rfl), if_pos he]
        simp [Hd.slices_Clone.f, hb]
      · rw [if_neg (fun h' => he (List.eq_nil_of_length_eq_zero (by omega))), if_neg he]
  by_cases hab : a = b
  · simp only [decide_eq_true hab, if_true]
    exact hj true (by simp [hab])
  · simp only [decide_eq_false hab]
    refine hj _ ?_
    rw [beq_iff_eq]
    constructor
    · intro h
      exact .inr (List.eq_nil_of_length_eq_zero (by omega))
    · rintro (h | h)
      · exact absurd h hab
      · rw [h]; rfl

/-! ### Offset, by the axes written out -/
def okAt : List Int → List Int → Bool
  | [], [] => true
  | n :: l, x :: m => decide (0 ≤ x) && decide (x < n) && okAt l m
  | _, _ => false
def horner : Int → List Int → List Int → Int
  | acc, n :: l, x :: m => horner (acc * n + x) l m
  | acc, _, _ => acc
def offS (l at_ : List Int) : Int × Bool := if (sizeS l).2 = 0 ∧ okAt l at_ = true then (horner 0 l at_, true) else (0, false)
theorem okAt_len : ∀ {l m : List Int}, okAt l m = true → l.length = m.length
  | [], [], _ => rfl
  | [], _ :: _, h => by simp [okAt] at h
  | _ :: _, [], h => by simp [okAt] at h
  | n :: l, x :: m, h => by
    simp [okAt] at h
    simp [okAt_len h.2]

theorem horner_bd : ∀ (l m : List Int) (acc p : Int), okAt l m = true → 0 ≤ acc → acc < p → p * pr l ≤ 4096 → 0 ≤ horner acc l m ∧ horner acc l m < p * pr l
  | [], [], acc, p, _, h0, h1, h2 => by simp only [horner, pr_nil, Int.mul_one]; exact ⟨h0, h1⟩
  | [], _ :: _, acc, p, h, _, _, _ => by simp [okAt] at h
  | _ :: _, [], acc, p, h, _, _, _ => by simp [okAt] at h
  | n :: l, x :: m, acc, p, h, h0, h1, h2 => by
    simp [okAt] at h
    obtain ⟨⟨hx0, hxn⟩, hr⟩ := h
    rw [pr_cons, ← Int.mul_assoc] at h2 ⊢
    have e1 : acc * n ≤ (p - 1) * n := Int.mul_le_mul_of_nonneg_right (by omega) (by omega)
    rw [Int.sub_mul, Int.one_mul] at e1
    have e2 : 0 ≤ acc * n := Int.mul_nonneg h0 (by omega)
    exact horner_bd l m (acc * n + x) (p * n) hr (by omega) (by omega) h2

theorem off_loop (l m : List Int) (hlm : l.length = m.length) (hl : l.length ≤ 3) : ∀ (d : Nat) (i : Int), 0 ≤ i → (l.length : Int) - i = d → ∀ (acc p : Int), (okAt (l.drop i.toNat) (m.drop i.toNat) = true → 0 ≤ acc ∧ acc < p ∧ p * pr (l.drop i.toNat) ≤ 4096 ∧ 1 ≤ pr (l.drop i.toNat) ∧ (∀ x ∈ l.drop i.toNat, 1 ≤ x)) →
    Ev (fun k => K.shape_Offset.l0 k m acc true l l.length i) (if okAt (l.drop i.toNat) (m.drop i.toNat) = true then (horner acc (l.drop i.toNat) (m.drop i.toNat), true) else (0, false))
  | 0, i, h0, hd, acc, p, hok => by
    rw [drop_end (by omega), drop_end (l := m) (by omega)]
    refine Ev.step (f := fun _ => some (acc, true)) (fun k => ?_) (Ev.now _)
    simp only [K.shape_Offset.l0]
    rw [if_neg (by omega)]
    rfl
  | d + 1, i, h0, hd, acc, p, hok => by
    have hlt : i < l.length := by omega
    have hltm : i < m.length := by omega
    rw [drop_rd h0 hlt, drop_rd (l := m) h0 hltm] at hok ⊢
    by_cases hx0 : rd m i < 0
    · rw [if_neg (by simp [okAt]; omega)]
      refine Ev.step (f := fun _ => some (0, false)) (fun k => ?_) (Ev.now _)
      simp only [K.shape_Offset.l0]
      rw [if_pos hlt, if_pos h0, if_pos hlt, if_pos hltm, if_pos hx0]
    · by_cases hxn : rd m i ≥ rd l i
      · rw [if_neg (by simp [okAt]; omega)]
        refine Ev.step (f := fun _ => some (0, false)) (fun k => ?_) (Ev.now _)
        simp only [K.shape_Offset.l0]
        rw [if_pos hlt, if_pos h0, if_pos hlt, if_pos hltm, if_neg hx0, if_pos hxn]
      · have hcons : okAt (rd l i :: l.drop (i + 1).toNat) (rd m i :: m.drop (i + 1).toNat) = okAt (l.drop (i + 1).toNat) (m.drop (i + 1).toNat) := by
          simp only [okAt]
          rw [decide_eq_true (show 0 ≤ rd m i by omega), decide_eq_true (show rd m i < rd l i by omega)]
          rfl
        rw [hcons] at hok ⊢
        by_cases hr : okAt (l.drop (i + 1).toNat) (m.drop (i + 1).toNat) = true
        · obtain ⟨b0, b1, b2, b3, b4⟩ := hok hr
          have q1 : ∀ x ∈ l.drop (i + 1).toNat, 1 ≤ x := fun x hx => b4 x (by simp [hx])
          have q2 := pr_pos q1
          have q3 : 1 ≤ rd l i := b4 _ (by simp)
          rw [pr_cons, ← Int.mul_assoc] at b2
          have e1 : acc * rd l i ≤ (p - 1) * rd l i := Int.mul_le_mul_of_nonneg_right (by omega) (by omega)
          rw [Int.sub_mul, Int.one_mul] at e1
          have e2 : 0 ≤ acc * rd l i := Int.mul_nonneg b0 (by omega)
          have e3 : p * rd l i * 1 ≤ p * rd l i * pr (l.drop (i + 1).toNat) := Int.mul_le_mul_of_nonneg_left q2 (Int.mul_nonneg (by omega) (by omega))
          have ih := off_loop l m hlm hl d (i + 1) (by omega) (by omega) (acc * rd l i + rd m i) (p * rd l i) (fun _ => ⟨by omega, by omega, b2, q2, q1⟩)
          refine Ev.step (fun k => ?_) ih
          simp only [K.shape_Offset.l0]
          rw [if_pos hlt, if_pos h0, if_pos hlt, if_pos hltm, if_neg hx0, if_neg hxn, w64 (x := acc * rd l i) (by omega) (by omega), w64 (x := acc * rd l i + rd m i) (by omega) (by omega), w64 (x := i + 1) (by omega) (by omega)]
        · rw [if_neg hr]
          have ih := off_loop l m hlm hl d (i + 1) (by omega) (by omega) (wrap64 (wrap64 (acc * rd l i) + rd m i)) 0 (fun h => absurd h hr)
          rw [if_neg hr] at ih
          refine Ev.step (fun k => ?_) ih
          simp only [K.shape_Offset.l0]
          rw [if_pos hlt, if_pos h0, if_pos hlt, if_pos hltm, if_neg hx0, if_neg hxn, w64 (x := i + 1) (by omega) (by omega)]
theorem okAt_pos : ∀ {l m : List Int}, okAt l m = true → ∀ x ∈ l, 1 ≤ x
  | [], [], _, x, hx => by cases hx
  | [], _ :: _, h, _, _ => by simp [okAt] at h
  | _ :: _, [], h, _, _ => by simp [okAt] at h
  | n :: l, y :: m, h, x, hx => by
    simp [okAt] at h
    rcases List.mem_cons.1 hx with rfl | hx
    · omega
    · exact okAt_pos h.2 x hx
/-- a shape that may be, with a place on each axis, has no axis of nothing: so few elements -/
theorem ok_few {l m : List Int} (hs : (sizeS l).2 = 0) (h : okAt l m = true) : pr l = (sizeS l).1 ∧ 1 ≤ pr l ∧ pr l ≤ 4096 := by
  cases e : sizeS l with
  | mk n q =>
    rw [e] at hs
    simp at hs
    subst hs
    obtain ⟨_, _, hz⟩ := size_ok e
    rcases hz with ⟨⟨x, hx, rfl⟩, _⟩ | ⟨_, rfl, h1, h2⟩
    · have := okAt_pos h 0 hx
      omega
    · exact ⟨rfl, h1, h2⟩
theorem offset_ev (l m : List Int) (hl : l.length ≤ 20) (hm : m.length ≤ 20) : Ev (fun k => K.shape_Offset.f k l m) (offS l m) := by
  unfold K.shape_Offset.f
  refine Ev.bind (may_ev l (by omega)) ?_
  have hno : ∀ t, t = true → ¬ ((sizeS l).2 = 0 ∧ okAt l m = true) → Ev (fun k => K.shape_Offset.j0 k l m t) (offS l m) := fun t ht h => by
    unfold offS
    rw [if_neg h]
    exact Ev.step (f := fun _ => some (0, false)) (fun k => by simp only [K.shape_Offset.j0, if_pos ht]) (Ev.now _)
  by_cases hs : (sizeS l).2 = 0
  · simp only [hs, beq_self_eq_true, if_true]
    by_cases hlen : l.length = m.length
    · rw [show ((m.length : Int) != (l.length : Int)) = false by rw [hlen]; simp]
      have h3 : l.length ≤ 3 := (size_ok (n := (sizeS l).1) (by rw [← hs])).1
      have := off_loop l m hlen h3 l.length 0 (by omega) (by omega) 0 1 (fun h => by
        have h' : okAt l m = true := by simpa using h
        obtain ⟨a1, a2, a3⟩ := ok_few hs h'
        refine ⟨by omega, by omega, ?_, ?_, ?_⟩
        · simpa using a3
        · simpa using a2
        · simpa using okAt_pos h')
      refine Ev.step (fun k => ?_) (show Ev (fun k => K.shape_Offset.l0 k m 0 true l l.length 0) (offS l m) from ?_)
      · simp only [K.shape_Offset.j0]
        rfl
      · unfold offS
        simpa [hs] using this
    · refine hno _ ?_ (fun h => hlen (okAt_len h.2))
      rw [bne_iff_ne]
      omega
  · rw [show ((sizeS l).2 == 0) = false from beq_eq_false_iff_ne.mpr hs]
    exact hno true rfl (fun h => hs h.1)
end Go.Proofs.Ytjhdnaahmiiegaa.Sh
