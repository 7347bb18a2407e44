/- What the law leans on, part 35: declarations of several texts of ours, in their order. -/
import Derived.Test.YtkhgpnbhnipndaaGreatDoorXFS33
import Derived.Test.YtkhgpnbhnipndaaGreatDoorXFS28
section
/- Rows of structs among a law's arguments, opened as data. -/
namespace Go.Proofs.YtkhgpnbhnipndaaGreatDoor.Am
open Go Go.RowKit Go.ChangeShapes Go.WideShapes Go.ChangeAt
set_option linter.unusedVariables false
set_option linter.unusedSimpArgs false
section
variable {H : Type} {enc : TypeId × Value → H} {P : Program} {w : World} {base : Nat} {held : Bool} {r : Reach}
theorem addr_ok {a : Addr} {z : Nat} {cs : List Value} (h : w.cells? base a z = some cs) (hz : 0 < z) : a.block < w.heap.size ∧ a.spot = none := by
  obtain ⟨_, h2, h3⟩ := World.cells?_some h
  have h4 := h3 0 hz
  rw [show a.add 0 = a from rfl] at h4
  have h5 : cs[0]? = some cs[0] := List.getElem?_eq_getElem (by omega)
  rw [h5] at h4
  unfold World.cell? at h4
  split at h4
  · rename_i hh
    refine ⟨(Array.getElem?_eq_some_iff.1 hh).1, ?_⟩
    cases hs : a.spot with
    | none => rfl
    | some s => rw [hs] at h4; simp at h4
  · cases h4
/-- what an element opens as -/
def El (enc : TypeId × Value → H) (P : Program) (w : World) (base : Nat) (held : Bool) (e : TypeId) (z : Nat) {α : Type} (B : α → Prop) (c : α → List D) : Prop :=
  ∀ n cs y, DataW.trod enc P w base (fun _ => true) held n e cs = some y → cs.length = z → ∃ x : α, B x ∧ Al (Dr w (fun g => g < w.heap.size)) (c x) cs ∧ ∀ u ∈ cs, u.oneCell' = true
theorem open_row {α : Type} {B : α → Prop} {c : α → List D} {z : Nat} (hz : 0 < z) {t e : TypeId} (ht : P.underlying t = some (.slice e)) (hce : P.cellsOf e = z) (hel : El enc P w base held e z B c) {fuel : Nat} {v : Value} {x : DataW H × List MemPlace}
    (h : DataW.trod enc P w base (fun _ => true) held fuel t [v] = some x) : ∃ l : List α, l.length ≤ maxLen ∧ (∀ x ∈ l, B x) ∧ Dr w (fun g => g < w.heap.size) (.sl z (l.flatMap c) l.length none) v := by
  rcases DataW.trod_slice ht h with ⟨hv, _⟩ | ⟨a, len, cap, elems, rest, n, _, hv, _, hb, hl, hm, hlen, hE, hsp, _⟩
  · cases hv
    exact ⟨[], by simp, fun _ h => (by cases h), .nil z none (fun _ h => by cases h)⟩
  · cases hv
    rw [hce] at hE hsp
    by_cases hc0 : cap = 0
    · have hl0 : len = 0 := by omega
      subst hc0 hl0
      exact ⟨[], by simp, fun _ h => (by cases h), .emp z none a (fun _ h => by cases h)⟩
    · have ha : a.block < w.heap.size ∧ a.spot = none := by
        by_cases hl0 : len = 0
        · obtain ⟨h1, h2⟩ := hsp rfl
          have h3 := h2 0 (by omega)
          rw [List.getElem?_eq_getElem (show 0 < rest.length by omega), Option.bind_eq_some_iff] at h3
          obtain ⟨cs, h4, _⟩ := h3
          rw [hl0, Nat.zero_add, Nat.zero_mul] at h4
          exact addr_ok h4 hz
        · have h3 := hE 0 (by omega)
          rw [List.getElem?_eq_getElem (show 0 < elems.length by omega), Option.bind_eq_some_iff] at h3
          obtain ⟨cs, h4, _⟩ := h3
          rw [Nat.zero_mul] at h4
          exact addr_ok h4 hz
      obtain ⟨g, o, sp⟩ := a
      obtain ⟨h1, h2⟩ := ha
      have h2 : sp = none := h2
      subst h2
      have key : ∀ k, k ≤ len → ∃ (l : List α) (us : List Value), l.length = k ∧ (∀ x ∈ l, B x) ∧ us.length = k * z ∧ Al (Dr w (fun g => g < w.heap.size)) (l.flatMap c) us ∧ (∀ u ∈ us, u.oneCell' = true) ∧ ∀ (i : Nat) u, us[i]? = some u → w.cell? ⟨g, o + i, none⟩ = some u := by
        intro k
        induction k with
        | zero => exact fun _ => ⟨[], [], rfl, fun _ h => (by cases h), (by simp), .nil, fun _ h => (by cases h), fun i u h => (by simp at h)⟩
        | succ k ih =>
          intro hk
          obtain ⟨l, us, e1, e2, e3, e4, e5, e6⟩ := ih (by omega)
          have h3 := hE k (by omega)
          rw [List.getElem?_eq_getElem (show k < elems.length by omega), Option.bind_eq_some_iff] at h3
          obtain ⟨cs, h4, h5⟩ := h3
          obtain ⟨_, q2, q3⟩ := World.cells?_some h4
          obtain ⟨y, y1, y2, y3⟩ := hel _ _ _ h5 q2
          refine ⟨l ++ [y], us ++ cs, by simp [e1], fun x hx => ?_, by rw [List.length_append, e3, q2, Nat.add_mul, Nat.one_mul], ?_, fun u hu => ?_, fun i u hu => ?_⟩
          · rcases List.mem_append.1 hx with h | h
            · exact e2 x h
            · rw [List.mem_singleton.1 h]; exact y1
          · rw [List.flatMap_append]
            refine e4.app ?_
            simpa using y2
          · rcases List.mem_append.1 hu with h | h
            · exact e5 u h
            · exact y3 u h
          · by_cases hi : i < us.length
            · rw [List.getElem?_append_left hi] at hu
              exact e6 i u hu
            · rw [List.getElem?_append_right (by omega)] at hu
              have hlt := (List.getElem?_eq_some_iff.1 hu).1
              have := q3 (i - us.length) (by omega)
              rw [hu, add_is, add_is] at this
              rw [← this]
              congr 2
              omega
      obtain ⟨l, us, e1, e2, e3, e4, e5, e6⟩ := key len (Nat.le_refl _)
      refine ⟨l, by omega, e2, ?_⟩
      rw [e1]
      exact .sl g o cap us (by rw [← e4.len, e3]) hl hm (fun _ h => by cases h) h1 e4.len e6 e5 e4.at_
theorem el_int {e : TypeId} {k : IntKind} (he : P.underlying e = some (.int k)) : El enc P w base held e 1 (fun x : Int => (Lit.int k x).wf = true) (fun x => [.v (.int k x)]) := fun n cs y h hl => by
  obtain ⟨m, rfl, _, hw⟩ := DataW.trod_int he h
  exact ⟨m, hw, Al.cons (.v _) .nil, fun u hu => by rw [List.mem_singleton.1 hu]; rfl⟩
theorem el_str {e : TypeId} (he : P.underlying e = some .string) : El enc P w base held e 1 (fun x : ByteArray => x.size ≤ maxLen) (fun x => [sD x]) := fun n cs y h hl => by
  obtain ⟨m, rfl, _, hw⟩ := DataW.trod_string he h
  exact ⟨m, hw, Al.cons (.v _) .nil, fun u hu => by rw [List.mem_singleton.1 hu]; rfl⟩
theorem fm_one {α : Type} (f : α → D) (l : List α) : l.flatMap (fun x => [f x]) = l.map f := by
  induction l with
  | nil => rfl
  | cons a l ih => rw [List.flatMap_cons, ih]; rfl
theorem row_int {t e : TypeId} {k : IntKind} (ht : P.underlying t = some (.slice e)) (hce : P.cellsOf e = 1) (he : P.underlying e = some (.int k)) {fuel : Nat} {v : Value} {x : DataW H × List MemPlace} (h : DataW.trod enc P w base (fun _ => true) held fuel t [v] = some x) :
    ∃ l : List Int, l.length ≤ maxLen ∧ (∀ x ∈ l, (Lit.int k x).wf = true) ∧ Dr w (fun g => g < w.heap.size) (.sl 1 (l.map fun x => .v (.int k x)) l.length none) v := by
  obtain ⟨l, h1, h2, h3⟩ := open_row Nat.one_pos ht hce (el_int he) h
  rw [fm_one] at h3
  exact ⟨l, h1, h2, h3⟩
theorem row_str {t e : TypeId} (ht : P.underlying t = some (.slice e)) (hce : P.cellsOf e = 1) (he : P.underlying e = some .string) {fuel : Nat} {v : Value} {x : DataW H × List MemPlace} (h : DataW.trod enc P w base (fun _ => true) held fuel t [v] = some x) :
    ∃ l : List ByteArray, l.length ≤ maxLen ∧ (∀ x ∈ l, x.size ≤ maxLen) ∧ Dr w (fun g => g < w.heap.size) (rS l none) v := by
  obtain ⟨l, h1, h2, h3⟩ := open_row Nat.one_pos ht hce (el_str he) h
  rw [fm_one] at h3
  exact ⟨l, h1, h2, h3⟩
theorem el_val {T t0 t1 e0 e1 : TypeId} {f0 f1 : Field} (hT : P.underlying T = some (.struct #[f0, f1])) (o0 : f0.offset = 0) (o1 : f1.offset = 1) (y0 : f0.type = t0) (y1 : f1.type = t1) (h0 : P.underlying t0 = some (.slice e0)) (h1 : P.underlying t1 = some (.slice e1)) (g0 : P.underlying e0 = some (.int .i64)) (g1 : P.underlying e1 = some .string)
    (c0 : P.cellsOf t0 = 1) (c1 : P.cellsOf t1 = 1) (k0 : P.cellsOf e0 = 1) (k1 : P.cellsOf e1 = 1) : El enc P w base held T 2 (fun v : ValL => v.1.length ≤ maxLen ∧ v.2.length ≤ maxLen) valC := fun n cs y h hl => by
  obtain ⟨z0, z1, m, _, _, q0, q1⟩ := trod_struct2 hT h
  obtain ⟨a, b, rfl⟩ := two hl
  subst y0 y1
  rw [o0, c0] at q0
  rw [o1, c1] at q1
  obtain ⟨l0, b0, _, r0⟩ := row_int h0 k0 g0 (v := a) q0
  obtain ⟨l1, b1, _, r1⟩ := row_str h1 k1 g1 (v := b) q1
  exact ⟨(l0, l1), ⟨b0, b1⟩, Al.cons r0 (Al.cons r1 .nil), fun u hu => by
    rcases List.mem_cons.1 hu with rfl | hu
    · exact r0.sl_one
    · rw [List.mem_singleton.1 hu]; exact r1.sl_one⟩
theorem slice_cells {t e : TypeId} {bs : Nat} {v : Value} (ht : P.underlying t = some (.slice e)) (h : Value.okWide P w r bs t v) : v.cells.toList = [v] := by
  unfold Value.okWide at h
  simp only [ht] at h
  unfold Cell.okWide at h
  simp only [ht] at h
  unfold Cell.ok at h
  simp only [ht] at h
  split at h <;> first | rfl | cases h | skip
  all_goals (try (rename_i h1 _; cases h1))
  all_goals (first | rfl | exact h.elim)
theorem el_op {T t0 t1 t2 : TypeId} {f0 f1 f2 : Field} (hT : P.underlying T = some (.struct #[f0, f1, f2])) (o0 : f0.offset = 0) (o1 : f1.offset = 1) (o2 : f2.offset = 2) (y0 : f0.type = t0) (y1 : f1.type = t1) (y2 : f2.type = t2) (g0 : P.underlying t0 = some (.int .i64)) (g1 : P.underlying t1 = some (.int .i64)) (g2 : P.underlying t2 = some .string)
    (c0 : P.cellsOf t0 = 1) (c1 : P.cellsOf t1 = 1) (c2 : P.cellsOf t2 = 1) : El enc P w base held T 3 (fun _ : OpL => True) opC := fun n cs y h hl => by
  obtain ⟨xs, m, _, _, _, hlen, hf⟩ := DataW.trod_struct hT h
  obtain ⟨a, b, c, rfl⟩ := three hl
  subst y0 y1 y2
  have q0 := hf 0 f0 rfl
  have q1 := hf 1 f1 rfl
  have q2 := hf 2 f2 rfl
  rw [o0, c0, List.getElem?_eq_getElem (by rw [hlen]; exact Nat.zero_lt_succ 2)] at q0
  rw [o1, c1, List.getElem?_eq_getElem (by rw [hlen]; exact Nat.succ_lt_succ (Nat.zero_lt_succ 1))] at q1
  rw [o2, c2, List.getElem?_eq_getElem (by rw [hlen]; exact Nat.lt_succ_self 2)] at q2
  obtain ⟨n0, e0, _, _⟩ := DataW.trod_int g0 q0
  obtain ⟨n1, e1, _, _⟩ := DataW.trod_int g1 q1
  obtain ⟨s2, e2, _, _⟩ := DataW.trod_string g2 q2
  cases e0
  cases e1
  cases e2
  exact ⟨((n0, n1), s2), trivial, Al.cons (.v _) (Al.cons (.v _) (Al.cons (.v _) .nil)), fun u hu => by
    rcases List.mem_cons.1 hu with rfl | hu
    · rfl
    · rcases List.mem_cons.1 hu with rfl | hu
      · rfl
      · rw [List.mem_singleton.1 hu]; rfl⟩
theorem open_code {T t0 t1 e0 u0 u1 u2 : TypeId} {f0 f1 k0 k1 k2 : Field} {v : Value} {d : DataW H} {ps : List MemPlace} (hT : P.underlying T = some (.struct #[f0, f1])) (o0 : f0.offset = 0) (o1 : f1.offset = 1) (y0 : f0.type = t0) (y1 : f1.type = t1)
    (h0 : P.underlying t0 = some (.slice e0)) (h1 : P.underlying t1 = some .string) (he : P.underlying e0 = some (.struct #[k0, k1, k2])) (p0 : k0.offset = 0) (p1 : k1.offset = 1) (p2 : k2.offset = 2) (z0 : k0.type = u0) (z1 : k1.type = u1) (z2 : k2.type = u2)
    (g0 : P.underlying u0 = some (.int .i64)) (g1 : P.underlying u1 = some (.int .i64)) (g2 : P.underlying u2 = some .string) (c0 : P.cellsOf t0 = 1) (c1 : P.cellsOf t1 = 1) (ce : P.cellsOf e0 = 3) (m0 : P.cellsOf u0 = 1) (m1 : P.cellsOf u1 = 1) (m2 : P.cellsOf u2 = 1) (cT : P.cellsOf T = 2)
    {bs : Nat} (hv : Value.okWide P w r bs T v) (h : DataW.Trod enc P w base (fun _ => true) held T v d ps) : ∃ (l : List OpL) (f : ByteArray), l.length ≤ maxLen ∧ Dr w (fun g => g < w.heap.size) (cD l f) v := by
  unfold Value.okWide at hv
  simp only [hT] at hv
  obtain ⟨cs, rfl, hcs, _⟩ := hv
  obtain ⟨fuel, hf⟩ := h
  obtain ⟨x0, x1, n, _, _, q0, q1⟩ := trod_struct2 hT hf
  rw [cT] at hcs
  obtain ⟨a, b, rfl⟩ : ∃ a b, cs = #[a, b] := by
    rcases cs with ⟨l⟩
    match l, hcs with
    | [a, b], _ => exact ⟨a, b, rfl⟩
  subst y0 y1
  rw [o0, c0] at q0
  rw [o1, c1] at q1
  obtain ⟨l, b0, _, r0⟩ := open_row (by decide) h0 ce (el_op he p0 p1 p2 z0 z1 z2 g0 g1 g2 m0 m1 m2) (v := a) q0
  obtain ⟨s, e1, _, _⟩ := DataW.trod_string h1 q1
  cases e1
  exact ⟨l, s, b0, Dr.agg2' r0 (.v _) r0.sl_one rfl⟩
theorem open_vals {t T t0 t1 e0 e1 : TypeId} {f0 f1 : Field} {v : Value} {d : DataW H} {ps : List MemPlace} (ht : P.underlying t = some (.slice T)) (hT : P.underlying T = some (.struct #[f0, f1])) (o0 : f0.offset = 0) (o1 : f1.offset = 1) (y0 : f0.type = t0) (y1 : f1.type = t1) (h0 : P.underlying t0 = some (.slice e0)) (h1 : P.underlying t1 = some (.slice e1)) (g0 : P.underlying e0 = some (.int .i64)) (g1 : P.underlying e1 = some .string)
    (c0 : P.cellsOf t0 = 1) (c1 : P.cellsOf t1 = 1) (k0 : P.cellsOf e0 = 1) (k1 : P.cellsOf e1 = 1) (cT : P.cellsOf T = 2) {bs : Nat} (hv : Value.okWide P w r bs t v) (h : DataW.Trod enc P w base (fun _ => true) held t v d ps) :
    ∃ l : List ValL, l.length ≤ maxLen ∧ (∀ v ∈ l, v.1.length ≤ maxLen ∧ v.2.length ≤ maxLen) ∧ Dr w (fun g => g < w.heap.size) (rV l) v := by
  obtain ⟨fuel, hf⟩ := h
  rw [slice_cells ht hv] at hf
  exact open_row (by decide) ht cT (el_val hT o0 o1 y0 y1 h0 h1 g0 g1 c0 c1 k0 k1) hf
end
end Go.Proofs.YtkhgpnbhnipndaaGreatDoor.Am
end
