/- What the law leans on, part 13: declarations of several texts of ours, in their order. -/
import Derived.Test.YtkhgpnbhnipndaaGreatDoorXFS11
import Derived.Laws.Bits64
import Derived.Test.YtkhgpnbhnipndaaGreatDoorXFS1
section
/- Data as the program's functions take and tell it. -/
namespace Go.Proofs.YtkhgpnbhnipndaaGreatDoor.Am
open Go Go.RowKit
set_option linter.unusedVariables false
set_option linter.unusedSimpArgs false
abbrev sD (s : ByteArray) : D := .v (.string s)
abbrev iD (n : Int) : D := .v (.int .i64 n)
abbrev bD (b : Bool) : D := .v (.bool b)
abbrev uD (n : Nat) : D := .v (.int .u64 n)
abbrev rS (l : List ByteArray) (c : Option Nat) : D := .sl 1 (l.map sD) l.length c
abbrev rI (l : List Int) (c : Option Nat) : D := .sl 1 (l.map iD) l.length c
abbrev rU (l : List Nat) (c : Option Nat) : D := .sl 1 (l.map uD) l.length c
/-- an array -/
abbrev vD (s : List Int) (e : List ByteArray) (c d : Option Nat) : D := .agg [rI s c, rS e d]
theorem snoc_cases {α : Type} (l : List α) : l = [] ∨ ∃ p x, l = p ++ [x] := by
  by_cases h : l = []
  · exact .inl h
  · exact .inr ⟨l.dropLast, l.getLast h, (List.dropLast_concat_getLast h).symm⟩
theorem litE {b c : Bool} {K : Bool → Prop} (h : b = c) (k : K c) : ∀ v, b = v → K v := fun v e => by subst e; rw [h]; exact k
/-- kept aside -/
structure Pk (p : Prop) : Prop where
  out : p
theorem ixm {α : Type} {f : α → D} {l : List α} {j o : Nat} {x : α} (h : l[j]? = some x) (e : o = j) : (l.map f)[o]? = some (f x) := by subst e; rw [List.getElem?_map, h]; rfl
theorem i64w {x : Int} (h1 : -9223372036854775808 ≤ x) (h2 : x ≤ 9223372036854775807) : IntKind.i64.wrap x = x := by rw [IntKind.wrap_i64]; omega
theorem i64n {x : Int} {n : Nat} (e : x = n) (h2 : n ≤ 9223372036854775807) : IntKind.i64.wrap x = n := by rw [IntKind.wrap_i64]; omega
theorem u64w {x : Int} (h1 : 0 ≤ x) (h2 : x < 18446744073709551616) : IntKind.u64.wrap x = x := by rw [IntKind.wrap_u64]; omega
end Go.Proofs.YtkhgpnbhnipndaaGreatDoor.Am
end
section
/-! Rows as the printed contracts say them, and as data. -/
namespace Go.Proofs.YtkhgpnbhnipndaaGreatDoor.Am
open Go Go.RowKit Go.Proofs.YtkhgpnbhnipndaaGreatDoorW.PrintWords
set_option linter.unusedVariables false
set_option linter.unusedSimpArgs false
/-- a row of elements of one cell -/
def rw1 {α : Type} (enc : α → Value) (l : List α) (c : Option Nat) : D := .sl 1 (l.map fun x => .v (enc x)) l.length c
theorem Dr.rw_C {α : Type} {enc : α → Value} {h1 : ∀ x, (enc x).oneCell' = true} {w : World} {S : Nat → Prop} {l : List α} {c : Option Nat} {v : Value} (h : Dr w S (rw1 enc l c) v) :
    ∃ A k, v = .slice A l.length k ∧ l.length ≤ k ∧ Kd.C (Kd.scalar enc h1) w A l.length l := by
  unfold rw1 at h
  generalize hm : (l.map fun x => D.v (enc x)) = L at h
  generalize hn : l.length = n at h
  cases h with
  | nil z c hc => exact ⟨none, 0, rfl, Nat.le_refl _, hn, by omega, by omega⟩
  | emp z c ad hc => exact ⟨some ad, 0, rfl, Nat.le_refl _, hn, by omega, by omega⟩
  | sl g o k us e1 e2 e3 e4 e5 e6 e7 e8 e9 =>
    refine ⟨_, _, rfl, e2, hn, by unfold maxLen at e3; omega, fun _ => ⟨_, rfl, fun j p hj => ?_⟩⟩
    have hL : L[j]? = some (.v (enc p)) := by rw [← hm, List.getElem?_map, hj]; rfl
    have hlt : j < us.length := by rw [e6]; exact (List.getElem?_eq_some_iff.1 hL).1
    have hu := List.getElem?_eq_getElem hlt
    have hd := e9 j _ _ hL hu
    refine ⟨[enc p], rfl, rfl, fun i u hi => ?_⟩
    have hi0 : i = 0 := by
      cases i with
      | zero => rfl
      | succ i => simp at hi
    subst hi0
    have : u = enc p := by simpa using hi.symm
    subst this
    have hc := e7 j _ hu
    generalize us[j] = u at hd hc
    cases hd
    have e : (⟨g, o, none⟩ : Addr).add (j * (Kd.scalar enc h1).sz + 0) = ⟨g, o + j, none⟩ := by simp [Addr.add, Kd.scalar]
    rw [e]
    exact hc
theorem Dr.v_inv {w : World} {S : Nat → Prop} {x v : Value} (h : Dr w S (.v x) v) : v = x := by cases h; rfl
theorem Dr.agg2 {w : World} {S : Nat → Prop} {x y : D} {v : Value} (h : Dr w S (.agg [x, y]) v) : ∃ a b, v = .agg #[a, b] ∧ Dr w S x a ∧ Dr w S y b := by
  cases h with
  | agg vs h1 h2 h3 => match vs, h1 with | [a, b], _ => exact ⟨a, b, rfl, h3 0 _ _ rfl rfl, h3 1 _ _ rfl rfl⟩
theorem Dr.agg2' {w : World} {S : Nat → Prop} {x y : D} {a b : Value} (h : Dr w S x a) (h' : Dr w S y b) (ha : a.oneCell' = true) (hb : b.oneCell' = true) : Dr w S (.agg [x, y]) (.agg #[a, b]) :=
  .agg [a, b] rfl (fun u hu => by rcases List.mem_cons.1 hu with rfl | hu; exact ha; rw [List.mem_singleton.1 hu]; exact hb) (fun i x u hx hu => by
    match i with
    | 0 => cases hx; cases hu; exact h
    | 1 => cases hx; cases hu; exact h'
    | i + 2 => simp at hx)
theorem Dr.tup2 {w : World} {S : Nat → Prop} {x y : D} {a b : Value} (h : Dr w S x a) (h' : Dr w S y b) : Dr w S (.tup [x, y]) (.tuple #[a, b]) :=
  .tup [a, b] rfl (fun i x u hx hu => by
    match i with
    | 0 => cases hx; cases hu; exact h
    | 1 => cases hx; cases hu; exact h'
    | i + 2 => simp at hx)
theorem two {vs : List Value} (h : vs.length = 2) : ∃ a b, vs = [a, b] := by match vs, h with | [a, b], _ => exact ⟨a, b, rfl⟩
theorem one_ {vs : List Value} (h : vs.length = 1) : ∃ a, vs = [a] := by match vs, h with | [a], _ => exact ⟨a, rfl⟩
theorem three {vs : List Value} (h : vs.length = 3) : ∃ a b c, vs = [a, b, c] := by match vs, h with | [a, b, c], _ => exact ⟨a, b, c, rfl⟩
theorem rU_rw1 (l : List Nat) (c : Option Nat) : rU l c = rw1 (Value.int .u64) (l.map fun x : Nat => (x : Int)) c := by simp [rw1, Function.comp_def]
theorem Dr.rU_C {w : World} {S : Nat → Prop} {l : List Nat} {c : Option Nat} {v : Value} (h : Dr w S (rU l c) v) : ∃ A k, v = .slice A (l.map fun x : Nat => (x : Int)).length k ∧ (l.map fun x : Nat => (x : Int)).length ≤ k ∧ Kd.C (Kd.int .u64) w A (l.map fun x : Nat => (x : Int)).length (l.map fun x : Nat => (x : Int)) := by
  rw [rU_rw1] at h
  exact Dr.rw_C h
end Go.Proofs.YtkhgpnbhnipndaaGreatDoor.Am
end
