/- What the law leans on, part 19: declarations of several texts of ours, in their order. -/
import Derived.Test.YtcpaajecppplhaaGreatDoorXT17
import Derived.Test.YtcpaajecppplhaaGreatDoorXT15
import Derived.Test.YtcpaajecppplhaaGreatDoorXT5
import Derived.Test.YtcpaajecppplhaaGreatDoorXT8
import Derived.Lib.AppendIntMem
import Derived.Lib.OthersKept
import Derived.Shelf.Strings.BuilderK
import Derived.Test.YtcpaajecppplhaaGreatDoorXT13
import Derived.RangeFuncNested
import Derived.RangeFuncBound
import Derived.RangeFuncCalls
import Derived.RangeFuncLeaves
import Derived.Shelf.Abstract
import Derived.Shelf.RegionOpen
import Derived.OwnWalkIn
import Derived.TacticsInMore
import Derived.LoopNIn
import Derived.LoopIn
import Derived.Test.YtcpaajecppplhaaGreatDoorXT14
import Derived.Test.YtcpaajecppplhaaGreatDoorProg
import Derived.Below
import Derived.Deep.Draws
import Derived.Deep.AppendLies
import Derived.Maps.AppendAt
import Derived.OwnWalk
import Derived.Laws.BytesArg
import Derived.Laws.MakeOwn
import Derived.Laws.OwnMore
import Derived.Deep.OwnRows
import Derived.Tactics
import Derived.Lib.ConvBytes
import Derived.Laws.Slices
import Derived.WalkKit
import Derived.KernelRfl
import Derived.RowKit3
import Derived.Deep.LoopGhost
import Derived.Deep.QuietTactic
import Derived.BigQuiet
import Derived.WideLaws
import Derived.Deep.DeepCutAuto
import Derived.Deep.CutBlock
import Derived.Deep.RegionHeld3
import Derived.Laws.Rows
import Derived.Lib.AppendStr
import Derived.ArgAppend
import Derived.Laws.IdiomCopy
import Derived.OrdersHeld
import Derived.Laws.BitsLemmas
import Derived.RowKit
import Derived.Test.YtcpaajecppplhaaGreatDoorXT0
import Derived.Test.YtcpaajecppplhaaGreatDoorXT1
import Derived.Test.YtcpaajecppplhaaGreatDoorXT16
import Derived.Test.YtcpaajecppplhaaGreatDoorXT2
import Derived.Test.YtcpaajecppplhaaGreatDoorXT3
section
/- Sizes in parts of nine figures, plainly: trim, sum, less, product, compare come to the numbers' own sum, difference, product, order. -/
namespace Go.Proofs.YtcpaajecppplhaaGreatDoor.Nm
open Go.Lib Go.RowKit Go.Proofs.YtcpaajecppplhaaGreatDoorW.PrintWords Go.Proofs.YtcpaajecppplhaaGreatDoorW.PrintLast Go.Proofs.YtcpaajecppplhaaGreatDoor
set_option linter.unusedVariables false
set_option linter.unusedSimpArgs false
def il (m : List Nat) : List Int := m.map (fun x : Nat => (x : Int))
theorem il_len (m : List Nat) : (il m).length = m.length := by simp [il]
theorem il_getD (m : List Nat) (i : Nat) : (il m).getD i 0 = ((m.getD i 0 : Nat) : Int) := by
  unfold il
  simp only [List.getD_eq_getElem?_getD, List.getElem?_map]
  cases m[i]? <;> rfl
theorem il_append (a b : List Nat) : il (a ++ b) = il a ++ il b := by simp [il]
theorem il_take (m : List Nat) (i : Nat) : il (m.take i) = (il m).take i := by simp [il]
theorem rd_il (m : List Nat) (i : Nat) : rd (il m) (i : Int) = ((m.getD i 0 : Nat) : Int) := by rw [← il_getD]; simp [rd]
def mv : List Nat → Nat
  | [] => 0
  | x :: l => x + 1000000000 * mv l
def Pt (m : List Nat) : Prop := ∀ x ∈ m, x < 1000000000
theorem mv_append (a b : List Nat) : mv (a ++ b) = mv a + 1000000000 ^ a.length * mv b := by
  induction a with
  | nil => simp [mv]
  | cons x l ih =>
    rw [List.cons_append, mv, ih, mv, List.length_cons, Nat.pow_succ, Nat.mul_add, Nat.mul_comm (1000000000 ^ l.length) 1000000000, Nat.mul_assoc]
    omega
theorem mv_snoc (a : List Nat) (x : Nat) : mv (a ++ [x]) = mv a + 1000000000 ^ a.length * x := by rw [mv_append]; simp [mv]
theorem pt_append {a b : List Nat} (ha : Pt a) (hb : Pt b) : Pt (a ++ b) := fun x hx => by
  rcases List.mem_append.mp hx with h | h
  · exact ha x h
  · exact hb x h
theorem pt_one {x : Nat} (h : x < 1000000000) : Pt [x] := fun y hy => by simp at hy; omega
/-- a number's parts -/
def mg (n : Nat) : List Nat := if h : n = 0 then [] else n % 1000000000 :: mg (n / 1000000000)
termination_by n
decreasing_by exact Nat.div_lt_self (by omega) (by decide)
theorem mg_zero : mg 0 = [] := by rw [mg, dif_pos rfl]
theorem mg_pos {n : Nat} (h : n ≠ 0) : mg n = n % 1000000000 :: mg (n / 1000000000) := by rw [mg, dif_neg h]
theorem mv_pos {m : List Nat} (h : ∀ p x, m = p ++ [x] → x ≠ 0) (hne : m ≠ []) : 0 < mv m := by
  obtain ⟨p, x, rfl⟩ : ∃ p x, m = p ++ [x] := ⟨m.dropLast, m.getLast hne, (List.dropLast_concat_getLast hne).symm⟩
  rw [mv_snoc]
  have := h p x rfl
  have : 0 < 1000000000 ^ p.length * x := Nat.mul_pos (Nat.pow_pos (by decide)) (by omega)
  omega
theorem canonM (m : List Nat) (hp : Pt m) (h : ∀ p x, m = p ++ [x] → x ≠ 0) : mg (mv m) = m := by
  induction m with
  | nil => exact mg_zero
  | cons x l ih =>
    have hl : Pt l := fun y hy => hp y (by simp [hy])
    have hx := hp x (by simp)
    have h' : ∀ p y, l = p ++ [y] → y ≠ 0 := fun p y e => h (x :: p) y (by rw [e]; rfl)
    have hpos := mv_pos h (by simp)
    rw [mg_pos (by omega)]
    rw [mv]
    congr 1
    · omega
    · rw [show (x + 1000000000 * mv l) / 1000000000 = mv l by omega]
      exact ih hl h'
/-! ### trim, at -/
theorem trim_loop : ∀ (d : Nat) (m : List Nat), m.length ≤ d → d ≤ 1000000000 → Pt m → Ev (fun k => K.num_trim.l0 k (il m)) (il (mg (mv m)))
  | 0, m, h, _, hp => by
    have : m = [] := List.length_eq_zero_iff.mp (by omega)
    subst this
    refine Ev.step (f := fun _ => some (il [])) (fun k => ?_) (by rw [mv, mg_zero]; exact Ev.now _)
    simp only [K.num_trim.l0]
    rw [if_neg (by simp [il])]
  | d + 1, m, h, hd, hp => by
    by_cases hne : m = []
    · subst hne
      exact trim_loop 0 [] (by simp) (by omega) hp
    · obtain ⟨p, x, rfl⟩ : ∃ p x, m = p ++ [x] := ⟨m.dropLast, m.getLast hne, (List.dropLast_concat_getLast hne).symm⟩
      have hlen : ((il (p ++ [x])).length : Int) = (p.length : Int) + 1 := by rw [il_len]; simp
      have hw : wrap64 ((p.length : Int) + 1 - 1) = (p.length : Int) := by simp at h; rw [w64 (by omega) (by omega)]; omega
      have hg : (p ++ [x]).getD p.length 0 = x := by simp [List.getD]
      by_cases hx : x = 0
      · subst hx
        have ih := trim_loop d p (by simp at h; omega) (by omega) (fun y hy => hp y (by simp [hy]))
        rw [mv_snoc, Nat.mul_zero, Nat.add_zero]
        refine Ev.step (fun k => ?_) ih
        simp only [K.num_trim.l0]
        rw [hlen, hw, if_pos (by omega), if_pos (by omega), if_pos (by omega), rd_il, hg, if_pos (by rfl), if_pos (by omega), Int.toNat_natCast, ← il_take, List.take_left]
      · rw [canonM _ hp (fun q y e => by have := List.append_inj' e rfl; simp at this; rw [← this.2]; exact hx)]
        refine Ev.step (f := fun _ => some (il (p ++ [x]))) (fun k => ?_) (Ev.now _)
        simp only [K.num_trim.l0]
        rw [hlen, hw, if_pos (by omega), if_pos (by omega), if_pos (by omega), rd_il, hg, if_neg (by omega)]
theorem trimM_ev (m : List Nat) (hl : m.length ≤ 1000000000) (hp : Pt m) : Ev (fun k => K.num_trim.f k (il m)) (il (mg (mv m))) := trim_loop _ m (Nat.le_refl _) hl hp
end Go.Proofs.YtcpaajecppplhaaGreatDoor.Nm
end
