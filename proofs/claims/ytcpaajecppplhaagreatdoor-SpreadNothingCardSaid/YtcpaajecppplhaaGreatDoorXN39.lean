/- What the law leans on, part 40: declarations of several texts of ours, in their order. -/
import Derived.Test.YtcpaajecppplhaaGreatDoorXN17
import Derived.Lib.Split
import Derived.Lib.SplitLaws
import Derived.Lib.Join
import Derived.Lib.IndexBytes
import Derived.Lib.IndexLaws
import Derived.Lib.IndexMore
section
/- Shapes, plainly: what shape.Size, Offset, Place, Meet, Items, Same and the document's answers come to, at every list of numbers. -/
namespace Go.Proofs.YtcpaajecppplhaaGreatDoor.Sh
open Go.RowKit Go.Proofs.YtcpaajecppplhaaGreatDoorW.PrintWords Go.Proofs.YtcpaajecppplhaaGreatDoorW.PrintLast Go.Proofs.YtcpaajecppplhaaGreatDoor
set_option linter.unusedVariables false
set_option linter.unusedSimpArgs false
theorem Ev.shift {α : Type} {g : Nat → Option α} {r : α} (h : Ev (fun k => g (k + 1)) r) : Ev g r := Ev.step (fun _ => rfl) h
def pr : List Int → Int
  | [] => 1
  | a :: l => a * pr l
def fin (p : Int) : Int × Int := if p ≤ 4096 then (p, 0) else (0, 8)
theorem fin_le {p : Int} (h : p ≤ 4096) : fin p = (p, 0) := if_pos h
theorem fin_gt {p : Int} (h : ¬ p ≤ 4096) : fin p = (0, 8) := if_neg h
theorem pr_cons (a : Int) (l : List Int) : pr (a :: l) = a * pr l := rfl
theorem pr_nil : pr [] = 1 := rfl
def sizeS (l : List Int) : Int × Int :=
  if 3 < l.length then (0, 3) else if l.any (fun x => decide (x < 0)) then (0, 5) else if l.any (fun x => decide (1099511627776 < x)) then (0, 8) else if l.any (fun x => x == 0) then (0, 0)
  else fin (pr l)
theorem w64 {x : Int} (h1 : -9223372036854775808 ≤ x) (h2 : x ≤ 9223372036854775807) : wrap64 x = x := by unfold wrap64; omega
theorem rd_mem {l : List Int} {i : Int} (h0 : 0 ≤ i) (h1 : i < l.length) : rd l i ∈ l := by
  unfold rd
  have h : i.toNat < l.length := by omega
  rw [List.getD_eq_getElem?_getD, List.getElem?_eq_getElem h]
  exact List.getElem_mem h
theorem drop_rd {l : List Int} {i : Int} (h0 : 0 ≤ i) (h1 : i < l.length) : l.drop i.toNat = rd l i :: l.drop (i + 1).toNat := by
  have h : i.toNat < l.length := by omega
  rw [List.drop_eq_getElem_cons h]
  unfold rd
  rw [List.getD_eq_getElem?_getD, List.getElem?_eq_getElem h, show (i + 1).toNat = i.toNat + 1 by omega]
  rfl
theorem drop_end {l : List Int} {i : Int} (h1 : (l.length : Int) ≤ i) : l.drop i.toNat = [] := List.drop_eq_nil_of_le (by omega)
theorem pr_pos : ∀ {l : List Int}, (∀ x ∈ l, 1 ≤ x) → 1 ≤ pr l
  | [], _ => by simp [pr]
  | a :: l, h => by
    have h1 := h a (by simp)
    have h2 := pr_pos (l := l) (fun x hx => h x (by simp [hx]))
    have := Int.mul_le_mul h1 h2 (by omega) (by omega)
    simpa [pr] using this
/-! ### Index, Contains -/
theorem index_ev (l : List Int) (v : Int) (hl : l.length ≤ 9223372036854775807) : ∀ (d : Nat) (i : Int), 0 ≤ i → (l.length : Int) - i ≤ d → ∃ r, Ev (fun k => K.slices_Index_int_int.l0 k l v l.length i) r ∧ decide (r ≥ 0) = (l.drop i.toNat).any (fun x => x == v)
  | 0, i, h0, hd => by
    refine ⟨-1, Ev.step (f := fun _ => some (-1)) (fun k => ?_) (Ev.now _), ?_⟩
    · simp only [K.slices_Index_int_int.l0]
      rw [if_neg (by omega)]
    · rw [drop_end (by omega)]
      rfl
  | d + 1, i, h0, hd => by
    by_cases hlt : i < l.length
    · rw [drop_rd h0 hlt, List.any_cons]
      by_cases he : v = rd l i
      · refine ⟨i, Ev.step (f := fun _ => some i) (fun k => ?_) (Ev.now _), ?_⟩
        · simp only [K.slices_Index_int_int.l0]
          rw [if_pos hlt, if_pos h0, if_pos hlt, if_pos he]
        · rw [← he]
          simp [h0]
      · obtain ⟨r, hr, hb⟩ := index_ev l v hl d (i + 1) (by omega) (by omega)
        refine ⟨r, Ev.step (fun k => ?_) hr, ?_⟩
        · simp only [K.slices_Index_int_int.l0]
          rw [if_pos hlt, if_pos h0, if_pos hlt, if_neg he, w64 (by omega) (by omega)]
        · rw [hb, show (rd l i == v) = false from beq_eq_false_iff_ne.mpr (fun h => he h.symm)]
          rfl
    · refine ⟨-1, Ev.step (f := fun _ => some (-1)) (fun k => ?_) (Ev.now _), ?_⟩
      · simp only [K.slices_Index_int_int.l0]
        rw [if_neg hlt]
      · rw [drop_end (by omega)]
        rfl
theorem contains_ev (l : List Int) (v : Int) (hl : l.length ≤ 9223372036854775807) : Ev (fun k => K.slices_Contains_int_int.f k l v) (l.any (fun x => x == v)) := by
  obtain ⟨r, hr, hb⟩ := index_ev l v hl l.length 0 (by omega) (by omega)
  unfold K.slices_Contains_int_int.f K.slices_Index_int_int.f
  refine Ev.bind hr ?_
  rw [hb]
  exact Ev.now _
/-! ### Size -/
theorem size_loop (l : List Int) (hl : l.length ≤ 3) (hp : ∀ x ∈ l, 1 ≤ x ∧ x ≤ 1099511627776) : ∀ (d : Nat) (i acc : Int), 0 ≤ i → (l.length : Int) - i ≤ d → 1 ≤ acc → acc ≤ 4096 →
    Ev (fun k => K.shape_Size.l0 k acc l l.length i) (fin (acc * pr (l.drop i.toNat)))
  | 0, i, acc, h0, hd, h1, h2 => by
    rw [drop_end (by omega)]
    refine Ev.step (f := fun _ => some (acc, 0)) (fun k => ?_) ?_
    · simp only [K.shape_Size.l0]
      rw [if_neg (by omega)]
    · rw [pr_nil, Int.mul_one, fin_le h2]
      exact Ev.now _
  | d + 1, i, acc, h0, hd, h1, h2 => by
    by_cases hlt : i < l.length
    · have hx := hp _ (rd_mem h0 hlt)
      rw [drop_rd h0 hlt]
      have hrest : 1 ≤ pr (l.drop (i + 1).toNat) := pr_pos (fun x hx => (hp x (List.mem_of_mem_drop hx)).1)
      have hq : wrap64 (Int.tdiv 4096 acc) = 4096 / acc := by
        rw [Int.tdiv_eq_ediv_of_nonneg (by omega)]
        have a1 : 0 ≤ 4096 / acc := Int.ediv_nonneg (by omega) (by omega)
        have a2 : 4096 / acc ≤ 4096 := Int.ediv_le_self _ (by omega)
        exact w64 (by omega) (by omega)
      have hiff : (4096 / acc < rd l i) ↔ 4096 < rd l i * acc := Int.ediv_lt_iff_lt_mul (by omega)
      rw [pr_cons, ← Int.mul_assoc]
      by_cases hg : 4096 / acc < rd l i
      · refine Ev.step (f := fun _ => some (0, 8)) (fun k => ?_) ?_
        · simp only [K.shape_Size.l0]
          rw [if_pos hlt, if_pos h0, if_pos hlt, if_neg (by omega), hq, if_pos hg]
        · rw [fin_gt]
          · exact Ev.now _
          · have h3 := hiff.1 hg
            have h4 : acc * rd l i * 1 ≤ acc * rd l i * pr (l.drop (i + 1).toNat) := Int.mul_le_mul_of_nonneg_left hrest (by rw [Int.mul_comm]; omega)
            rw [Int.mul_one, Int.mul_comm acc] at h4
            rw [Int.mul_comm acc]
            omega
      · have h3 : ¬ 4096 < rd l i * acc := fun h => hg (hiff.2 h)
        have h5 : 1 * 1 ≤ acc * rd l i := Int.mul_le_mul h1 hx.1 (by omega) (by omega)
        have h6 : acc * rd l i ≤ 4096 := by rw [Int.mul_comm]; omega
        have ih := size_loop l hl hp d (i + 1) (acc * rd l i) (by omega) (by omega) (by omega) h6
        refine Ev.step (fun k => ?_) ih
        simp only [K.shape_Size.l0]
        rw [if_pos hlt, if_pos h0, if_pos hlt, if_neg (by omega), hq, if_neg hg, w64 (by omega) (by omega), w64 (by omega) (by omega)]
    · rw [drop_end (by omega)]
      refine Ev.step (f := fun _ => some (acc, 0)) (fun k => ?_) ?_
      · simp only [K.shape_Size.l0]
        rw [if_neg hlt]
      · rw [pr_nil, Int.mul_one, fin_le h2]
        exact Ev.now _
theorem any_false {l : List Int} {p : Int → Bool} (h : ¬ l.any p = true) : ∀ x ∈ l, p x = false := by
  intro x hx
  cases hp : p x with
  | false => rfl
  | true => exact absurd (List.any_eq_true.2 ⟨x, hx, hp⟩) h
theorem size_ev (l : List Int) (hm : l.length ≤ 9223372036854775807) : Ev (fun k => K.shape_Size.f k l) (sizeS l) := by
  unfold K.shape_Size.f sizeS
  by_cases h3 : 3 < l.length
  · rw [if_pos h3]
    simp only [if_pos (show (l.length : Int) > 3 by omega)]
    exact Ev.now _
  · rw [if_neg h3]
    simp only [if_neg (show ¬ (l.length : Int) > 3 by omega), Hd.cf25.f, Hd.cf26.f, Option.bind_some]
    by_cases h5 : l.any (fun x => decide (x < 0)) = true
    · simp only [if_pos h5]
      exact Ev.now _
    · simp only [if_neg h5]
      by_cases h8 : l.any (fun x => decide (1099511627776 < x)) = true
      · simp only [if_pos h8]
        exact Ev.now _
      · simp only [if_neg h8]
        refine Ev.bind (contains_ev l 0 hm) ?_
        by_cases h0 : l.any (fun x => x == 0) = true
        · simp only [if_pos h0]
          exact Ev.now _
        · simp only [if_neg h0]
          have hp : ∀ x ∈ l, 1 ≤ x ∧ x ≤ 1099511627776 := fun x hx => by
            have a1 := any_false h5 x hx
            have a2 := any_false h8 x hx
            have a3 := any_false h0 x hx
            simp at a1 a2 a3
            omega
          have := size_loop l (by omega) hp l.length 0 1 (by omega) (by omega) (by omega) (by omega)
          simpa using this
theorem may_ev (l : List Int) (hm : l.length ≤ 9223372036854775807) : Ev (fun k => K.shape_May.f k l) ((sizeS l).2 == 0) := by
  unfold K.shape_May.f
  exact Ev.bind (size_ev l hm) (Ev.now _)
end Go.Proofs.YtcpaajecppplhaaGreatDoor.Sh
end
section
/- Shapes, plainly: where an element stands, and which one stands somewhere, by the axes written out; whether two are the same; two together. -/
namespace Go.Proofs.YtcpaajecppplhaaGreatDoor.Sh
open Go.RowKit Go.Proofs.YtcpaajecppplhaaGreatDoorW.PrintWords Go.Proofs.YtcpaajecppplhaaGreatDoorW.PrintLast Go.Proofs.YtcpaajecppplhaaGreatDoor
set_option linter.unusedVariables false
set_option linter.unusedSimpArgs false
/-! ### What is known of a shape that may be -/
theorem size_ok {l : List Int} {n : Int} (h : sizeS l = (n, 0)) : l.length ≤ 3 ∧ (∀ x ∈ l, 0 ≤ x ∧ x ≤ 1099511627776) ∧ ((∃ x ∈ l, x = 0) ∧ n = 0 ∨ (∀ x ∈ l, 1 ≤ x) ∧ n = pr l ∧ 1 ≤ n ∧ n ≤ 4096) := by
  unfold sizeS at h
  by_cases h3 : 3 < l.length
  · rw [if_pos h3] at h; simp at h
  rw [if_neg h3] at h
  by_cases h5 : l.any (fun x => decide (x < 0)) = true
  · rw [if_pos h5] at h; simp at h
  rw [if_neg h5] at h
  by_cases h8 : l.any (fun x => decide (1099511627776 < x)) = true
  · rw [if_pos h8] at h; simp at h
  rw [if_neg h8] at h
  have hb : ∀ x ∈ l, 0 ≤ x ∧ x ≤ 1099511627776 := fun x hx => by
    have a1 := any_false h5 x hx
    have a2 := any_false h8 x hx
    simp at a1 a2
    omega
  refine ⟨by omega, hb, ?_⟩
  by_cases h0 : l.any (fun x => x == 0) = true
  · rw [if_pos h0] at h
    obtain ⟨x, hx, he⟩ := List.any_eq_true.1 h0
    simp at h
    exact .inl ⟨⟨x, hx, by simpa using he⟩, h.symm⟩
  · rw [if_neg h0] at h
    have hp : ∀ x ∈ l, 1 ≤ x := fun x hx => by
      have a3 := any_false h0 x hx
      have := hb x hx
      simp at a3
      omega
    by_cases hf : pr l ≤ 4096
    · rw [fin_le hf] at h
      simp at h
      have := pr_pos hp
      exact .inr ⟨hp, h.symm, by omega, by omega⟩
    · rw [fin_gt hf] at h
      simp at h
/-! ### Same -/
theorem same_loop (a b : List Int) (hab : a.length = b.length) (hl : a.length ≤ 9223372036854775807) : ∀ (d : Nat) (i : Int), 0 ≤ i → (a.length : Int) - i ≤ d → Ev (fun k => K.slices_Equal_int_int.l0 k a b a.length i) (decide (a.drop i.toNat = b.drop i.toNat))
  | 0, i, h0, hd => by
    rw [drop_end (by omega), drop_end (l := b) (by omega)]
    refine Ev.step (f := fun _ => some true) (fun k => ?_) (Ev.now _)
    simp only [K.slices_Equal_int_int.l0]
    rw [if_neg (by omega)]
  | d + 1, i, h0, hd => by
    by_cases hlt : i < a.length
    · rw [drop_rd h0 hlt, drop_rd (l := b) h0 (by omega)]
      by_cases he : rd a i = rd b i
      · have ih := same_loop a b hab hl d (i + 1) (by omega) (by omega)
        rw [show decide (rd a i :: a.drop (i + 1).toNat = rd b i :: b.drop (i + 1).toNat) = decide (a.drop (i + 1).toNat = b.drop (i + 1).toNat) by simp [he]]
        refine Ev.step (fun k => ?_) ih
        simp only [K.slices_Equal_int_int.l0]
        rw [if_pos hlt, if_pos h0, if_pos hlt, if_pos (by omega), if_pos he, w64 (by omega) (by omega)]
      · rw [show decide (rd a i :: a.drop (i + 1).toNat = rd b i :: b.drop (i + 1).toNat) = false by simp [he]]
        refine Ev.step (f := fun _ => some false) (fun k => ?_) (Ev.now _)
        simp only [K.slices_Equal_int_int.l0]
        rw [if_pos hlt, if_pos h0, if_pos hlt, if_pos (by omega), if_neg he]
    · rw [drop_end (by omega), drop_end (l := b) (by omega)]
      refine Ev.step (f := fun _ => some true) (fun k => ?_) (Ev.now _)
      simp only [K.slices_Equal_int_int.l0]
      rw [if_neg hlt]
theorem same_ev (a b : List Int) (hl : a.length ≤ 9223372036854775807) : Ev (fun k => K.shape_Same.f k a b) (decide (a = b)) := by
  unfold K.shape_Same.f K.slices_Equal_int_int.f
  by_cases hab : a.length = b.length
  · simp only [if_pos (show (a.length : Int) = b.length by omega)]
    have := same_loop a b hab hl a.length 0 (by omega) (by omega)
    exact Ev.bind this (Ev.now _)
  · simp only [if_neg (show ¬ (a.length : Int) = b.length by omega)]
    rw [show decide (a = b) = false from decide_eq_false (fun h => hab (by rw [h]))]
    exact Ev.now _
/-! ### Meet -/
def meetS (a b : List Int) : List Int × Int := if a = b ∨ b = [] then (a, 0) else if a = [] then (b, 0) else ([], 4)
theorem meet_ev (a b : List Int) (ha : a.length < 17592186044416) (hb : b.length < 17592186044416) : Ev (fun k => K.shape_Meet.f k a b) (meetS a b) := by
  unfold K.shape_Meet.f
  refine Ev.bind (same_ev a b (by omega)) ?_
  have hj : ∀ t, (t = true ↔ (a = b ∨ b = [])) → Ev (fun k => K.shape_Meet.j0 k a b t) (meetS a b) := fun t ht => by
    refine Ev.step (f := fun _ => some (meetS a b)) (fun k => ?_) (Ev.now _)
    simp only [K.shape_Meet.j0, meetS]
    by_cases h : t = true
    · rw [if_pos h, if_pos (ht.1 h)]
      simp [Hd.slices_Clone.f, ha]
    · rw [if_neg h, if_neg (fun h' => h (ht.2 h'))]
      by_cases he : a = []
      · rw [if_pos (by rw [he]; rfl), if_pos he]
        simp [Hd.slices_Clone.f, hb]
      · rw [if_neg (fun h' => he (List.eq_nil_of_length_eq_zero (by omega))), if_neg he]
  by_cases hab : a = b
  · simp only [decide_eq_true hab, if_true]
    exact hj true (by simp [hab])
  · simp only [decide_eq_false hab]
    refine hj _ ?_
    rw [beq_iff_eq]
    constructor
    · intro h
      exact .inr (List.eq_nil_of_length_eq_zero (by omega))
    · rintro (h | h)
      · exact absurd h hab
      · rw [h]; rfl
end Go.Proofs.YtcpaajecppplhaaGreatDoor.Sh
end
