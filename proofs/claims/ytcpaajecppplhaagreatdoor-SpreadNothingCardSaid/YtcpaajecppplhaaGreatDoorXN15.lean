/- What the law leans on, part 16: declarations of several texts of ours, in their order. -/
import Derived.Maps.Own
import Derived.Test.YtcpaajecppplhaaGreatDoorXN0
section
/- Maps from texts to values, entry by entry: what a store of a new key and a look-up do. No program in sight. -/
namespace Go.Proofs.YtcpaajecppplhaaGreatDoor.Hm
open Go Go.RowKit Go.ChangeMaps Go.MapKept
set_option linter.unusedVariables false
set_option linter.unusedSimpArgs false
/-- Block b is a map of just these entries. -/
def MS (w : World) (b : Nat) (E : List (ByteArray × Value)) : Prop :=
  ∃ es clock, w.heap[b]? = some (.map es clock) ∧ es.toList.map (fun e => (e.key, e.val)) = E.map (fun p => (Value.string p.1, p.2))
def at_ (E : List (ByteArray × Value)) (s : ByteArray) : Option Value := (E.find? (fun p => s == p.1)).map (·.2)
theorem findNow_str (s : ByteArray) : ∀ (es : List MapEntry) (E : List (ByteArray × Value)) (i : Nat), es.map (fun e => (e.key, e.val)) = E.map (fun p => (Value.string p.1, p.2)) →
    ∃ r, Instr.findNow .string (.string s) es i = some r ∧ r.map (·.2) = at_ E s
  | [], E, i, h => by
    cases E with
    | nil => exact ⟨none, rfl, rfl⟩
    | cons p l => simp at h
  | e :: es, E, i, h => by
    cases E with
    | nil => simp at h
    | cons p l =>
      simp only [List.map_cons, List.cons.injEq, Prod.mk.injEq] at h
      obtain ⟨⟨hk, hv⟩, ht⟩ := h
      obtain ⟨r, h1, h2⟩ := findNow_str s es l (i + 1) ht
      unfold Instr.findNow
      rw [hk]
      simp only [Instr.sameNow]
      cases hc : s == p.1 with
      | true => exact ⟨some (i, e.val), rfl, by simp [at_, List.find?_cons, hc, hv]⟩
      | false => exact ⟨r, h1, by simp [at_, List.find?_cons, hc, h2]⟩
variable {P : Program} {w : World} {b : Nat} {E : List (ByteArray × Value)} {t k e : TypeId}
theorem ms_look (h : MS w b E) (ht : P.underlying t = some (.map k e)) (hk : P.underlying k = some .string) {z : Value} (hz : (zeroValue e).run P w = .ok z w) (s : ByteArray) :
    (Instr.lookup t (.map (some b)) (.string s) false).run P w = .ok ((at_ E s).getD z) w := by
  obtain ⟨es, clock, hb, he⟩ := h
  obtain ⟨r, h1, h2⟩ := findNow_str s es.toList E 0 he
  have hch : ∀ c, (Instr.checkKey c 10000 k (.string s)).run P w = .ok () w := fun c => by
    unfold Instr.checkKey
    simp [run_underlying hk, Result.andThen]
  rw [← h2]
  cases r with
  | none => simp [Instr.lookup, run_underlying ht, MapKept.run_getObj_map hb, hch, MapKept.run_findKey hk h1, hz, Result.andThen]
  | some q => simp [Instr.lookup, run_underlying ht, MapKept.run_getObj_map hb, hch, MapKept.run_findKey hk h1, Result.andThen]
theorem ms_store (h : MS w b E) (ht : P.underlying t = some (.map k e)) (hk : P.underlying k = some .string) (s : ByteArray) (v : Value) (hn : at_ E s = none) :
    ∃ w', (Instr.mapUpdate t (.map (some b)) (.string s) v).run P w = .ok () w' ∧ MS w' b (E ++ [(s, v)]) ∧ ∀ B, B ≤ b → Below B w w' := by
  obtain ⟨es, clock, hb, he⟩ := h
  obtain ⟨r, h1, h2⟩ := findNow_str s es.toList E 0 he
  have hch : ∀ c, (Instr.checkKey c 10000 k (.string s)).run P w = .ok () w := fun c => by
    unfold Instr.checkKey
    simp [run_underlying hk, Result.andThen]
  have hr : r = none := by
    rw [hn] at h2
    cases r with
    | none => rfl
    | some q => simp at h2
  subst hr
  refine ⟨{ w with heap := w.heap.setIfInBounds b (.map (es.push { key := .string s, val := v, born := clock }) (clock + 1)) }, ?_, ?_, ?_⟩
  · simp [Instr.mapUpdate, run_underlying ht, MapKept.run_getObj_map hb, hch, MapKept.run_findKey hk h1, MapKept.run_setObj_map _ hb, Result.andThen]
  · have hlt := (Array.getElem?_eq_some_iff.1 hb).1
    exact ⟨es.push { key := .string s, val := v, born := clock }, clock + 1, by simp [hlt], by simp [he]⟩
  · intro B hB
    exact ⟨rfl, rfl, rfl, by simp, fun i hi => by simp only [Array.getElem?_setIfInBounds]; rw [if_neg (by omega)]⟩
theorem ms_made (w : World) : MS (w.alloc (.map #[] 0)) w.heap.size [] := ⟨#[], 0, (MapKept.heap_alloc w _).1, rfl⟩
end Go.Proofs.YtcpaajecppplhaaGreatDoor.Hm
end
