/- What the law leans on, part 4: declarations of several texts of ours, in their order. -/
import Derived.Test.YtkhgpnbhnipndaaGreatDoorXFS1
import Derived.Test.YtkhgpnbhnipndaaGreatDoorXFS2
import Derived.WalkSmall
section
/- What the laid tables read as (GL), and the library's functions that num calls: strings.ContainsFunc at May's closure, strconv.ParseUint, num.Of (strconv.FormatInt), at every input within the bounds that each f names. -/
namespace Go.Proofs.YtkhgpnbhnipndaaGreatDoor.Hd
open Go.RowKit Go.Proofs.YtkhgpnbhnipndaaGreatDoorW.PrintWords Go.Proofs.YtkhgpnbhnipndaaGreatDoorW.PrintLast Go.Proofs.YtkhgpnbhnipndaaGreatDoorW.PrintMore Go.Proofs.YtkhgpnbhnipndaaGreatDoor.B Go.Lib
set_option linter.unusedVariables false
set_option linter.unusedSimpArgs false
/-- the package-level variables that the code reads: the powers of ten, and the two error values -/
def GL (w : World) : Prop := TabIs Tryz.prog w "internal/strconv.uint64pow10" .u64 pow10Tab ∧ (∃ (t : TypeId) (p : Value), w.var? Tryz.prog "strconv.ErrSyntax" = some #[.iface t p]) ∧ (∃ (t : TypeId) (p : Value), w.var? Tryz.prog "strconv.ErrRange" = some #[.iface t p]) ∧ (∃ m : Int, w.cell? ⟨0, 0, none⟩ = some (.int .i64 m))
theorem var_lt {w : World} {nm : String} {g : Nat} {cs : Array Value} (hg : Tryz.prog.globalNamed nm = some g) (hv : w.var? Tryz.prog nm = some cs) : g < w.heap.size := by
  unfold World.var? at hv
  simp only [hg, Option.bind_some] at hv
  rcases Nat.lt_or_ge g w.heap.size with h | h
  · exact h
  · rw [Array.getElem?_eq_none h] at hv; cases hv
theorem var_keep {w w' : World} {B : Nat} {nm : String} {g : Nat} {cs : Array Value} (hB : w.heap.size ≤ B) (hg : Tryz.prog.globalNamed nm = some g) (h : Below B w w') (hv : w.var? Tryz.prog nm = some cs) : w'.var? Tryz.prog nm = some cs :=
  var?_below h hg (Nat.lt_of_lt_of_le (var_lt hg hv) hB) hv
theorem cell_lt {w : World} {g o : Nat} {v : Value} (h : w.cell? ⟨g, o, none⟩ = some v) : g < w.heap.size := by
  unfold World.cell? at h
  rcases Nat.lt_or_ge g w.heap.size with h1 | h1
  · exact h1
  · rw [Array.getElem?_eq_none h1] at h; cases h
theorem GL.maxLen {w : World} (h : GL w) : ∃ m : Int, w.cell? ⟨0, 0, none⟩ = some (.int .i64 m) := h.2.2.2
theorem GL.below {w w' : World} (h : GL w) (hb : Below w.heap.size w w') : GL w' := by
  obtain ⟨h1, ⟨t2, p2, h2⟩, ⟨t3, p3, h3⟩, ⟨m, h4⟩⟩ := h
  exact ⟨var_keep (g := 1) (Nat.le_refl _) (by kernel_rfl) hb h1, ⟨t2, p2, var_keep (g := 2) (Nat.le_refl _) (by kernel_rfl) hb h2⟩, ⟨t3, p3, var_keep (g := 3) (Nat.le_refl _) (by kernel_rfl) hb h3⟩, ⟨m, (hb.cell (cell_lt h4)).trans h4⟩⟩
/-! ### num.Of -/
def numOf.f (a0 : Int) : Option ByteArray := if -9223372036854775808 ≤ a0 ∧ a0 ≤ 9223372036854775807 then some ⟨(itoa a0).toArray⟩ else none
theorem numOf.calls (a0 : Int) (r : ByteArray) (w : World) (hG : GL w) (h : numOf.f a0 = some r) :
    Calls Tryz.prog 80 #[.int .i64 a0] w fun e w' => e = .returned (.string r) ∧ Below w.heap.size w w' := by
  unfold numOf.f at h
  split at h
  · rename_i hr
    simp only [Option.some.injEq] at h
    subst h
    have HC := fun (W : World) (hG : GL W) => Tryz.strconv_FormatInt_10 a0 hr.1 hr.2 W hG.1
    go_enter Tryz.func80, Tryz.ntmps80
    go_wp2_with (go_at_call 144; refine (HC _ hG).mono ?_; rintro e w' ⟨rfl, k, os, rfl⟩)
    go_ret
    exact ⟨rfl, below_grown w k os⟩
  · cases h
/-! ### strings.ContainsFunc at May's closure -/
def notDigit (c : Nat) : Bool := decide (c < 48) || decide (57 < c)
theorem may1 (x : Nat) (hx : x ≤ 1114111) (W : World) : Calls Tryz.prog 139 #[.int .i32 (x : Int)] W fun e w' => e = .returned (.bool (notDigit x)) ∧ w' = W := by
  by_cases h1 : (x : Int) < 48
  · have e1 : decide ((x : Int) < 48) = true := decide_eq_true h1
    go_enter Tryz.func139, Tryz.ntmps139
    go_wp2
    go_ret
    have h2 : x < 48 := by omega
    simp [notDigit, h2]
  · have e1 : decide ((x : Int) < 48) = false := decide_eq_false h1
    go_enter Tryz.func139, Tryz.ntmps139
    go_wp2
    go_ret
    have h2 : ¬ x < 48 := by omega
    have h3 : ((57 : Int) < (x : Int)) ↔ 57 < x := by omega
    simp [notDigit, h2, h3]
def containsFunc_May.f (a0 : ByteArray) : Option Bool := some (decide (0 ≤ idxFunc notDigit true a0))
theorem containsFunc_May.calls (a0 : ByteArray) (r : Bool) (w : World) (h : containsFunc_May.f a0 = some r) :
    Calls Tryz.prog 138 #[.string a0, .func (.func 139) #[] #[]] w fun e w' => e = .returned (.bool r) ∧ Below w.heap.size w w' := by
  simp only [containsFunc_May.f, Option.some.injEq] at h
  subst h
  exact Tryz.strings_ContainsFunc_runes 139 #[] (enters_of Tryz.func139 (by kernel_rfl) rfl) notDigit a0 w (fun W x hx _ => (may1 x hx W).mono (fun e w' ⟨he, hw⟩ => ⟨he, 0, hw⟩))
/-! ### strconv.ParseUint where it succeeds -/
def parseUint.f (a0 : ByteArray) (a1 a2 : Int) : Option (Int × Option Int) :=
  if a1 = 10 ∧ a2 = 64 ∧ a0.size ≤ 9223372036854775806 then (match parseUintB 64 a0.data.toList with | .ok u => some ((u : Int), none) | _ => none) else none
theorem parseUint.calls (a0 : ByteArray) (a1 a2 : Int) (r1 : Int) (r2 : Option Int) (w : World) (h : parseUint.f a0 a1 a2 = some (r1, r2)) :
    Calls Tryz.prog 204 #[.string a0, .int .i64 a1, .int .i64 a2] w fun e w' => e = .returned (.tuple #[.int .u64 r1, errW r2]) ∧ Below w.heap.size w w' := by
  unfold parseUint.f at h
  split at h
  · rename_i hh
    obtain ⟨rfl, rfl, hs⟩ := hh
    split at h
    · rename_i u hu
      simp only [Option.some.injEq, Prod.mk.injEq] at h
      obtain ⟨rfl, rfl⟩ := h
      refine (Tryz.strconv_ParseUint_10_at64_ok a0 hs u hu w).mono ?_
      rintro e w' ⟨rfl, hw⟩
      refine ⟨rfl, ?_⟩
      rcases hw with rfl | rfl
      · exact Below.refl _ _
      · exact bytesWorld_below _ _ _
    · cases h
  · cases h
end Go.Proofs.YtkhgpnbhnipndaaGreatDoor.Hd
end
