/- What the law leans on, part 32: declarations of several texts of ours, in their order. -/
import Derived.Test.YtjldjhlccedkbaaGreatDoorXW11
import Derived.SliceStrings
import Derived.ChangeSame
import Derived.WalkKit
import Derived.ProofKit
import Derived.OpenShut
import Derived.Test.YtjldjhlccedkbaaGreatDoorXW29
section
/-! An array among a law's arguments, opened as data. -/
namespace Go.Proofs.YtjldjhlccedkbaaGreatDoor.Am
open Go Go.RowKit Go.ChangeShapes Go.WideShapes Go.ChangeAt
set_option linter.unusedVariables false
set_option linter.unusedSimpArgs false
section
variable {H : Type} {enc : TypeId × Value → H} {P : Program} {w : World} {base : Nat} {held : Bool} {r : Reach}
theorem Dr.sl_one {S : Nat → Prop} {z n : Nat} {l : List D} {c : Option Nat} {v : Value} (h : Dr w S (.sl z l n c) v) : v.oneCell' = true := by cases h <;> rfl
theorem has_lt {bs : Nat} {a : Addr} {e : TypeId} {n : Nat} (h : w.has P r bs a e n) : a.block < w.heap.size ∧ a.spot = none := by
  obtain ⟨_, h2, row, cells, h3, _⟩ := h
  refine ⟨?_, h2⟩
  rcases Nat.lt_or_ge a.block w.heap.size with h | h
  · exact h
  · unfold World.shape? at h3
    rw [Array.getElem?_eq_none h] at h3
    cases h3
theorem add_is (g o i : Nat) : (⟨g, o, none⟩ : Addr).add i = ⟨g, o + i, none⟩ := by
  unfold Addr.add
  split
  · rename_i h; rw [h]; rfl
  · rfl
theorem row_D {α : Type} {enc : α → Value} {a : Addr} {len cap : Nat} {zs : List α} {d : α} (h1 : ∀ x, (enc x).oneCell' = true) (hlt : a.block < w.heap.size) (hs : a.spot = none) (hl : len ≤ cap) (hm : cap ≤ maxLen) (hz : zs.length = cap)
    (hcell : ∀ i, i < zs.length → w.cell? (a.add i) = some (enc (zs.getD i d))) : ∃ l : List α, l.length ≤ maxLen ∧ Dr w (fun g => g < w.heap.size) (.sl 1 (l.map fun x => .v (enc x)) l.length none) (.slice (some a) len cap) := by
  obtain ⟨g, o, s⟩ := a
  have : s = none := hs
  subst this
  have hlen : (zs.take len).length = len := by rw [List.length_take, Nat.min_eq_left (by omega)]
  refine ⟨zs.take len, by omega, ?_⟩
  have hD : Dr w (fun g => g < w.heap.size) (.sl 1 ((zs.take len).map fun x => .v (enc x)) len none) (.slice (some ⟨g, o, none⟩) len cap) := by
    refine .sl g o cap ((zs.take len).map enc) (by simp [hlen]; omega) hl hm (fun _ h => by cases h) hlt (by simp) (fun i u hu => ?_) (fun u hu => ?_) (fun i x u hx hu => ?_)
    · rw [List.getElem?_map, Option.map_eq_some_iff] at hu
      obtain ⟨y, hy, rfl⟩ := hu
      have hi := (List.getElem?_eq_some_iff.1 hy).1
      rw [hlen] at hi
      have := hcell i (by omega)
      rw [add_is] at this
      rw [this, List.getD_eq_getElem?_getD]
      rw [List.getElem?_take_of_lt hi] at hy
      rw [hy]
      rfl
    · obtain ⟨y, _, rfl⟩ := List.mem_map.1 hu
      exact h1 y
    · rw [List.getElem?_map, Option.map_eq_some_iff] at hx hu
      obtain ⟨y, hy, rfl⟩ := hx
      obtain ⟨y', hy', rfl⟩ := hu
      rw [hy] at hy'
      cases hy'
      exact .v _
  rw [hlen]
  exact hD
theorem ok_slice {t e : TypeId} {bs len cap : Nat} {a : Addr} (ht : P.underlying t = some (.slice e)) (h : Cell.okWide P w r bs t (.slice (some a) len cap)) : w.has P r bs a e cap := by
  unfold Cell.okWide at h
  simp only [ht] at h
  unfold Cell.ok at h
  simp only [ht] at h
  exact h.2.2
theorem open_I {t e : TypeId} {fuel bs : Nat} {v : Value} {x : DataW H × List MemPlace} (ht : P.underlying t = some (.slice e)) (he : P.underlying e = some (.int .i64)) (hc : P.cellsOf e = 1) (hok : Cell.okWide P w r bs t v)
    (h : DataW.trod enc P w base (fun _ => true) held fuel t [v] = some x) : ∃ l : List Int, l.length ≤ maxLen ∧ Dr w (fun g => g < w.heap.size) (rI l none) v := by
  rcases open_ints ht he hc h with ⟨hcs, _⟩ | ⟨a, len, cap, zs, hcs, _, hl, hm, hz, _, hcell, hwz⟩
  · cases hcs
    exact ⟨[], by simp, .nil 1 none (fun _ h => by cases h)⟩
  · cases hcs
    obtain ⟨h1, h2⟩ := has_lt (ok_slice ht hok)
    exact row_D (fun _ => rfl) h1 h2 hl hm (by simpa using hz) hcell
theorem open_S {t e : TypeId} {fuel bs : Nat} {v : Value} {x : DataW H × List MemPlace} (ht : P.underlying t = some (.slice e)) (he : P.underlying e = some .string) (hc : P.cellsOf e = 1) (hok : Cell.okWide P w r bs t v)
    (h : DataW.trod enc P w base (fun _ => true) held fuel t [v] = some x) : ∃ l : List ByteArray, l.length ≤ maxLen ∧ Dr w (fun g => g < w.heap.size) (rS l none) v := by
  rcases open_strings ht he hc h with ⟨hcs, _⟩ | ⟨a, len, cap, zs, hcs, _, hl, hm, hz, _, hcell, hwz⟩
  · cases hcs
    exact ⟨[], by simp, .nil 1 none (fun _ h => by cases h)⟩
  · cases hcs
    obtain ⟨h1, h2⟩ := has_lt (ok_slice ht hok)
    exact row_D (fun _ => rfl) h1 h2 hl hm (by simpa using hz) hcell
theorem open_val {T t0 t1 e0 e1 : TypeId} {f0 f1 : Field} {v : Value} {d : DataW H} {ps : List MemPlace} (hT : P.underlying T = some (.struct #[f0, f1])) (o0 : f0.offset = 0) (o1 : f1.offset = 1) (y0 : f0.type = t0) (y1 : f1.type = t1)
    (h0 : P.underlying t0 = some (.slice e0)) (h1 : P.underlying t1 = some (.slice e1)) (g0 : P.underlying e0 = some (.int .i64)) (g1 : P.underlying e1 = some .string)
    (c0 : P.cellsOf t0 = 1) (c1 : P.cellsOf t1 = 1) (k0 : P.cellsOf e0 = 1) (k1 : P.cellsOf e1 = 1) (cT : P.cellsOf T = 2) (ct : P.cellTypes P.depth T = some [t0, t1])
    {bs : Nat} (hv : Value.okWide P w r bs T v) (h : DataW.Trod enc P w base (fun _ => true) held T v d ps) :
    ∃ l0 l1, l0.length ≤ maxLen ∧ l1.length ≤ maxLen ∧ Dr w (fun g => g < w.heap.size) (vD l0 l1 none none) v := by
  unfold Value.okWide at hv
  simp only [hT] at hv
  obtain ⟨cs, rfl, hcs, ts, ht, _, hrow⟩ := hv
  rw [ct] at ht
  cases ht
  obtain ⟨fuel, hf⟩ := h
  obtain ⟨z0, z1, n, _, hl, q0, q1⟩ := trod_struct2 hT hf
  rw [cT] at hcs
  obtain ⟨a, b, rfl⟩ : ∃ a b, cs = #[a, b] := by
    rcases cs with ⟨l⟩
    match l, hcs with
    | [a, b], _ => exact ⟨a, b, rfl⟩
  subst y0 y1
  rw [o0, c0] at q0
  rw [o1, c1] at q1
  obtain ⟨u0, hu0, ok0⟩ := hrow 0 a rfl
  obtain ⟨u1, hu1, ok1⟩ := hrow 1 b rfl
  cases hu0
  cases hu1
  obtain ⟨l0, b0, r0⟩ := open_I h0 g0 k0 ok0 (v := a) q0
  obtain ⟨l1, b1, r1⟩ := open_S h1 g1 k1 ok1 (v := b) q1
  exact ⟨l0, l1, b0, b1, Dr.agg2' r0 r1 r0.sl_one r1.sl_one⟩
end
end Go.Proofs.YtjldjhlccedkbaaGreatDoor.Am
end
