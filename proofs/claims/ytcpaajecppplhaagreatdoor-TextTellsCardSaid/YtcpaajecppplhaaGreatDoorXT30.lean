/- What the law leans on, part 31: declarations of several texts of ours, in their order. -/
import Derived.Test.YtcpaajecppplhaaGreatDoorXT3
import Derived.SliceStrings
import Derived.ChangeSame
import Derived.WalkKit
import Derived.ProofKit
import Derived.OpenShut
section
/- An array among a law's arguments, opened: its row of numbers, its row of texts. -/
namespace Go.Proofs.YtcpaajecppplhaaGreatDoor.Hd
open Go.RowKit Go.Proofs.YtcpaajecppplhaaGreatDoorW.PrintWords Go.Proofs.YtcpaajecppplhaaGreatDoorW.PrintLast Go.Proofs.YtcpaajecppplhaaGreatDoorW.PrintMore Go.Proofs.YtcpaajecppplhaaGreatDoor.B Go.ChangeShapes Go.WideShapes Go.ChangeAt
set_option linter.unusedVariables false
set_option linter.unusedSimpArgs false
section
variable {H : Type} {enc : TypeId × Value → H} {P : Program} {w : World} {base : Nat} {held : Bool}
/-- a row of numbers that came in -/
def InI (w : World) (A : Option Addr) (cap : Nat) (l : List Int) : Prop := Kd.C (Kd.int .i64) w A l.length l ∧ l.length ≤ cap ∧ l.length ≤ maxLen ∧ ∀ x ∈ l, (Lit.int .i64 x).wf = true
/-- a row of texts that came in -/
def InS (w : World) (A : Option Addr) (cap : Nat) (l : List ByteArray) : Prop := Kd.C Kd.string w A l.length l ∧ l.length ≤ cap ∧ l.length ≤ maxLen ∧ ∀ s ∈ l, s.size ≤ maxLen
theorem open_rowI {t e : TypeId} {fuel : Nat} {v : Value} {x : DataW H × List MemPlace} (ht : P.underlying t = some (.slice e)) (he : P.underlying e = some (.int .i64)) (hc : P.cellsOf e = 1)
    (h : DataW.trod enc P w base (fun _ => true) held fuel t [v] = some x) : ∃ A cap l, v = .slice A l.length cap ∧ InI w A cap l := by
  rcases open_ints ht he hc h with ⟨hcs, _⟩ | ⟨a, len, cap, zs, hcs, _, hl, hm, hz, _, hcell, hwz⟩
  · cases hcs
    exact ⟨none, 0, [], rfl, Kd.C_of_reads (d := (0 : Int)) (h1 := fun _ => rfl) ⟨rfl, by simp, fun h => absurd h (by simp)⟩, by simp, by simp, fun x hx => by cases hx⟩
  · cases hcs
    have hz' : zs.length = cap := by simpa using hz
    obtain ⟨l, e, hr, hm, hw, hc⟩ := ReadsInt.ofRowC (k := .i64) (w := w) (a := some a) (len := len) (cap := cap) (zs := zs) (.inr ⟨a, rfl, hl, hm, hz', hcell, hwz⟩)
    subst e
    exact ⟨some a, cap, l, rfl, Kd.C_of_reads (d := (0 : Int)) (h1 := fun _ => rfl) hr, hc, hm, hw⟩
theorem open_rowS {t e : TypeId} {fuel : Nat} {v : Value} {x : DataW H × List MemPlace} (ht : P.underlying t = some (.slice e)) (he : P.underlying e = some .string) (hc : P.cellsOf e = 1)
    (h : DataW.trod enc P w base (fun _ => true) held fuel t [v] = some x) : ∃ A cap l, v = .slice A l.length cap ∧ InS w A cap l := by
  rcases open_strings ht he hc h with ⟨hcs, _⟩ | ⟨a, len, cap, ss, hcs, _, hl, hm, hz, _, hcell, hwz⟩
  · cases hcs
    exact ⟨none, 0, [], rfl, Kd.C_of_reads (d := ByteArray.empty) (h1 := fun _ => rfl) ⟨rfl, by simp, fun h => absurd h (by simp)⟩, by simp, by simp, fun x hx => by cases hx⟩
  · cases hcs
    have hz' : ss.length = cap := by simpa using hz
    have hlen : (ss.take len).length = len := by rw [List.length_take, Nat.min_eq_left (by omega)]
    refine ⟨some a, cap, ss.take len, by rw [hlen], Kd.C_of_reads (d := ByteArray.empty) (h1 := fun _ => rfl) ⟨rfl, ?_, fun _ => ⟨a, rfl, fun j hj => ?_⟩⟩, ?_, ?_, fun s hs => hwz s (List.mem_of_mem_take hs)⟩
    · rw [hlen]; unfold maxLen at hm; omega
    · have hj' : j < len := by omega
      rw [hcell j (by omega)]
      simp [List.getD_eq_getElem?_getD, List.getElem?_take, hj']
    · omega
    · omega
theorem open_val {T t0 t1 e0 e1 : TypeId} {f0 f1 : Field} {v : Value} {d : DataW H} {ps : List MemPlace} (hT : P.underlying T = some (.struct #[f0, f1])) (o0 : f0.offset = 0) (o1 : f1.offset = 1) (y0 : f0.type = t0) (y1 : f1.type = t1)
    (h0 : P.underlying t0 = some (.slice e0)) (h1 : P.underlying t1 = some (.slice e1)) (g0 : P.underlying e0 = some (.int .i64)) (g1 : P.underlying e1 = some .string)
    (c0 : P.cellsOf t0 = 1) (c1 : P.cellsOf t1 = 1) (k0 : P.cellsOf e0 = 1) (k1 : P.cellsOf e1 = 1) (cT : P.cellsOf T = 2)
    {bs : Nat} (hv : Value.okWide P w .any bs T v) (h : DataW.Trod enc P w base (fun _ => true) held T v d ps) :
    ∃ A0 cap0 l0 A1 cap1 l1, v = .agg #[.slice A0 l0.length cap0, .slice A1 l1.length cap1] ∧ InI w A0 cap0 l0 ∧ InS w A1 cap1 l1 := by
  obtain ⟨cs, rfl, hcs⟩ := okWide_struct hT hv
  obtain ⟨fuel, hf⟩ := h
  obtain ⟨z0, z1, n, _, hl, q0, q1⟩ := trod_struct2 hT hf
  rw [cT] at hcs
  obtain ⟨a, b, rfl⟩ : ∃ a b, cs = #[a, b] := by
    rcases cs with ⟨l⟩
    match l, hcs with
    | [a, b], _ => exact ⟨a, b, rfl⟩
  subst y0 y1
  rw [o0, c0] at q0
  rw [o1, c1] at q1
  obtain ⟨A0, cap0, l0, e1, r0⟩ := open_rowI h0 g0 k0 (v := a) q0
  obtain ⟨A1, cap1, l1, e2, r1⟩ := open_rowS h1 g1 k1 (v := b) q1
  exact ⟨A0, cap0, l0, A1, cap1, l1, by rw [e1, e2], r0, r1⟩
end
end Go.Proofs.YtcpaajecppplhaaGreatDoor.Hd
end
