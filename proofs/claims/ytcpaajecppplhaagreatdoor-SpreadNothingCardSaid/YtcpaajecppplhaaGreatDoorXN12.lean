/- What the law leans on, part 13: declarations of several texts of ours, in their order. -/
import Derived.Test.YtcpaajecppplhaaGreatDoorXN3
import Derived.WalkSpells
import Derived.Test.YtcpaajecppplhaaGreatDoorProg
import Derived.Below
import Derived.Deep.Draws
import Derived.Deep.AppendLies
import Derived.Maps.AppendAt
import Derived.OwnWalk
import Derived.Laws.BytesArg
import Derived.Laws.MakeOwn
import Derived.Laws.OwnMore
import Derived.Deep.OwnRows
import Derived.Tactics
import Derived.Lib.ConvBytes
import Derived.Laws.Slices
import Derived.WalkKit
import Derived.KernelRfl
import Derived.RowKit3
import Derived.Deep.LoopGhost
import Derived.Deep.QuietTactic
import Derived.BigQuiet
import Derived.WideLaws
import Derived.Deep.DeepCutAuto
import Derived.Deep.CutBlock
import Derived.Deep.RegionHeld3
import Derived.Laws.Rows
import Derived.Lib.AppendStr
import Derived.ArgAppend
import Derived.Laws.IdiomCopy
import Derived.OrdersHeld
import Derived.Laws.BitsLemmas
import Derived.RowKit
import Derived.Test.YtcpaajecppplhaaGreatDoorXN0
import Derived.Test.YtcpaajecppplhaaGreatDoorXN1
import Derived.Test.YtcpaajecppplhaaGreatDoorXN5
import Derived.Test.YtcpaajecppplhaaGreatDoorXN2
section
/- slices.ContainsFunc at shape.Size's two closures, and slices.Clone of ints: what they tell, at every slice within the bounds that are named. -/
namespace Go.Proofs.YtcpaajecppplhaaGreatDoor.Hd
open Go.RowKit Go.Proofs.YtcpaajecppplhaaGreatDoorW.PrintWords Go.Proofs.YtcpaajecppplhaaGreatDoorW.PrintLast Go.Proofs.YtcpaajecppplhaaGreatDoorW.PrintMore Go.Proofs.YtcpaajecppplhaaGreatDoor.B
set_option linter.unusedVariables false
set_option linter.unusedSimpArgs false
/-- first index at which p holds, from i on -/
def idx {α : Type} (p : α → Bool) : List α → Nat → Int
  | [], _ => -1
  | x :: l, i => if p x then i else idx p l (i + 1)
theorem idx_drop {α : Type} (d : α) (p : α → Bool) (l : List α) (k : Nat) (h : k < l.length) : idx p (l.drop k) k = if p (l.getD k d) then (k : Int) else idx p (l.drop (k+1)) (k+1) := by
  rw [List.drop_eq_getElem_cons h]
  simp [idx, List.getD, h]
theorem idx_ge {α : Type} (p : α → Bool) : ∀ (l : List α) (i : Nat), decide (0 ≤ idx p l i) = l.any p
  | [], _ => by simp [idx]
  | x :: l, i => by
    have := idx_ge p l (i + 1)
    unfold idx
    by_cases h : p x = true <;> simp [h, this]
theorem clos1 (n : Int) (w : World) : Calls Tryz.prog 127 #[.int .i64 n] w fun e w' => e = .returned (.bool (decide (n < 0))) ∧ w = w' := by
  go_enter Tryz.func127, Tryz.ntmps127
  go_wp2
  go_ret
  exact ⟨rfl, rfl⟩
theorem clos2 (n : Int) (w : World) : Calls Tryz.prog 128 #[.int .i64 n] w fun e w' => e = .returned (.bool (decide (1099511627776 < n))) ∧ w = w' := by
  go_enter Tryz.func128, Tryz.ntmps128
  go_wp2
  go_ret
  exact ⟨rfl, rfl⟩
theorem cf25_idx (A0 : Option Addr) (c0 : Nat) (l0 : List Int) (w : World) (hr0 : Kd.C (Kd.int .i64) w A0 l0.length l0) :
    Calls Tryz.prog 179 #[.slice A0 l0.length c0, .func (.func 127) #[] #[]] w fun e w' => e = .returned (.int .i64 (idx (fun x : Int => (decide (x < 0))) l0 0)) ∧ Drawn0 w w' := by
  have hl := hr0.2.1
  have HR := Aside0.mk hr0
  clear hr0
  go_enter Tryz.func179, Tryz.ntmps179
  go_wp2
  go_loopw [8] (fun i w' => ∃ k : Nat, k ≤ l0.length ∧ i = .int .i64 k ∧ Aside0 (idx (fun x : Int => (decide (x < 0))) l0 0 = idx (fun x : Int => (decide (x < 0))) (l0.drop k) k) ∧ Drawn0 w w') (fun i _ => l0.length - (intOf i).toNat)
  case atStart => exact ⟨0, Nat.zero_le _, rfl, ⟨rfl⟩, Drawn0.refl _⟩
  case round =>
    obtain ⟨k, hk, rfl, HA, ⟨m1, rfl⟩⟩ := hrel
    by_cases hlt : k < l0.length
    · obtain ⟨ad, e, hx0⟩ := Kd.at_int HR.out k (by omega) (by omega)
      cases e
      have hd := Aside0.mk (idx_drop (0 : Int) (fun x : Int => (decide (x < 0))) l0 k hlt)
      obtain ⟨x, hx1⟩ : ∃ x, x = l0.getD k (0 : Int) := ⟨_, rfl⟩
      have hx : w.cell? (ad.add k) = some (.int .i64 x) := by rw [hx1]; simpa [rd, rdOf, ByteArray.empty] using hx0
      clear hx0
      rw [← hx1] at hd
      clear hx1
      by_cases hp : (fun x : Int => (decide (x < 0))) x = true
      · have HP := Aside0.mk hp
        have hq : (decide (x < 0)) = true := hp
        have HC : ∀ W, Calls Tryz.prog 127 #[.int .i64 x] W fun e w' => e = .returned (.bool true) ∧ W = w' := fun W => by
          have h := clos1 x W
          rw [hq] at h
          exact h
        clear hp hq
        go_wp2_with (go_at_call 127; refine (HC _).mono ?_; rintro e w' ⟨rfl, rfl⟩)
        go_ret
        exact ⟨by rw [HA.out, hd.out, if_pos HP.out]; rfl, ⟨_, rfl⟩⟩
      · have HP := Aside0.mk (Bool.eq_false_iff.mpr hp)
        have hq : (decide (x < 0)) = false := Bool.eq_false_iff.mpr hp
        have HC : ∀ W, Calls Tryz.prog 127 #[.int .i64 x] W fun e w' => e = .returned (.bool false) ∧ W = w' := fun W => by
          have h := clos1 x W
          rw [hq] at h
          exact h
        clear hp hq
        go_wp2_with (go_at_call 127; refine (HC _).mono ?_; rintro e w' ⟨rfl, rfl⟩)
        go_roundw
        case rel => exact ⟨k + 1, by omega, by go_num, ⟨by rw [HA.out, hd.out, if_neg (by rw [HP.out]; decide)]⟩, ⟨_, rfl⟩⟩
        case measure => simp [intOf]; omega
    · have hk' : k = l0.length := by omega
      have hz : idx (fun x : Int => (decide (x < 0))) l0 0 = -1 := by rw [HA.out, hk']; simp [idx]
      clear HA
      go_wp2
      go_ret
      exact ⟨by rw [hz]; rfl, ⟨_, rfl⟩⟩
def cf25.f (l0 : List Int) : Option Bool := some (l0.any (fun x : Int => (decide (x < 0))))
theorem cf25.calls (A0 : Option Addr) (c0 : Nat) (l0 : List Int) (r : Bool) (w : World) (hr0 : Kd.C (Kd.int .i64) w A0 l0.length l0) (hc0 : l0.length ≤ c0) (h : cf25.f l0 = some r) :
    Calls Tryz.prog 126 #[.slice A0 l0.length c0, .func (.func 127) #[] #[]] w fun e w' => e = .returned (.bool r) ∧ Drawn0 w w' := by
  unfold cf25.f at h
  simp only [Option.some.injEq] at h
  have HR := Aside0.mk hr0
  clear hr0
  have hz := Aside0.mk (idx_ge (fun x : Int => (decide (x < 0))) l0 0)
  have h' := Aside0.mk h
  clear h
  go_enter Tryz.func126, Tryz.ntmps126
  go_wp2_with (go_at_call 179; refine (cf25_idx _ _ _ _ HR.out).mono ?_; rintro e w' ⟨rfl, ⟨n, rfl⟩⟩)
  go_ret
  exact ⟨by rw [← h'.out, ← hz.out]; rfl, ⟨_, rfl⟩⟩
theorem cf26_idx (A0 : Option Addr) (c0 : Nat) (l0 : List Int) (w : World) (hr0 : Kd.C (Kd.int .i64) w A0 l0.length l0) :
    Calls Tryz.prog 179 #[.slice A0 l0.length c0, .func (.func 128) #[] #[]] w fun e w' => e = .returned (.int .i64 (idx (fun x : Int => (decide (1099511627776 < x))) l0 0)) ∧ Drawn0 w w' := by
  have hl := hr0.2.1
  have HR := Aside0.mk hr0
  clear hr0
  go_enter Tryz.func179, Tryz.ntmps179
  go_wp2
  go_loopw [8] (fun i w' => ∃ k : Nat, k ≤ l0.length ∧ i = .int .i64 k ∧ Aside0 (idx (fun x : Int => (decide (1099511627776 < x))) l0 0 = idx (fun x : Int => (decide (1099511627776 < x))) (l0.drop k) k) ∧ Drawn0 w w') (fun i _ => l0.length - (intOf i).toNat)
  case atStart => exact ⟨0, Nat.zero_le _, rfl, ⟨rfl⟩, Drawn0.refl _⟩
  case round =>
    obtain ⟨k, hk, rfl, HA, ⟨m1, rfl⟩⟩ := hrel
    by_cases hlt : k < l0.length
    · obtain ⟨ad, e, hx0⟩ := Kd.at_int HR.out k (by omega) (by omega)
      cases e
      have hd := Aside0.mk (idx_drop (0 : Int) (fun x : Int => (decide (1099511627776 < x))) l0 k hlt)
      obtain ⟨x, hx1⟩ : ∃ x, x = l0.getD k (0 : Int) := ⟨_, rfl⟩
      have hx : w.cell? (ad.add k) = some (.int .i64 x) := by rw [hx1]; simpa [rd, rdOf, ByteArray.empty] using hx0
      clear hx0
      rw [← hx1] at hd
      clear hx1
      by_cases hp : (fun x : Int => (decide (1099511627776 < x))) x = true
      · have HP := Aside0.mk hp
        have hq : (decide (1099511627776 < x)) = true := hp
        have HC : ∀ W, Calls Tryz.prog 128 #[.int .i64 x] W fun e w' => e = .returned (.bool true) ∧ W = w' := fun W => by
          have h := clos2 x W
          rw [hq] at h
          exact h
        clear hp hq
        go_wp2_with (go_at_call 128; refine (HC _).mono ?_; rintro e w' ⟨rfl, rfl⟩)
        go_ret
        exact ⟨by rw [HA.out, hd.out, if_pos HP.out]; rfl, ⟨_, rfl⟩⟩
      · have HP := Aside0.mk (Bool.eq_false_iff.mpr hp)
        have hq : (decide (1099511627776 < x)) = false := Bool.eq_false_iff.mpr hp
        have HC : ∀ W, Calls Tryz.prog 128 #[.int .i64 x] W fun e w' => e = .returned (.bool false) ∧ W = w' := fun W => by
          have h := clos2 x W
          rw [hq] at h
          exact h
        clear hp hq
        go_wp2_with (go_at_call 128; refine (HC _).mono ?_; rintro e w' ⟨rfl, rfl⟩)
        go_roundw
        case rel => exact ⟨k + 1, by omega, by go_num, ⟨by rw [HA.out, hd.out, if_neg (by rw [HP.out]; decide)]⟩, ⟨_, rfl⟩⟩
        case measure => simp [intOf]; omega
    · have hk' : k = l0.length := by omega
      have hz : idx (fun x : Int => (decide (1099511627776 < x))) l0 0 = -1 := by rw [HA.out, hk']; simp [idx]
      clear HA
      go_wp2
      go_ret
      exact ⟨by rw [hz]; rfl, ⟨_, rfl⟩⟩
def cf26.f (l0 : List Int) : Option Bool := some (l0.any (fun x : Int => (decide (1099511627776 < x))))
theorem cf26.calls (A0 : Option Addr) (c0 : Nat) (l0 : List Int) (r : Bool) (w : World) (hr0 : Kd.C (Kd.int .i64) w A0 l0.length l0) (hc0 : l0.length ≤ c0) (h : cf26.f l0 = some r) :
    Calls Tryz.prog 126 #[.slice A0 l0.length c0, .func (.func 128) #[] #[]] w fun e w' => e = .returned (.bool r) ∧ Drawn0 w w' := by
  unfold cf26.f at h
  simp only [Option.some.injEq] at h
  have HR := Aside0.mk hr0
  clear hr0
  have hz := Aside0.mk (idx_ge (fun x : Int => (decide (1099511627776 < x))) l0 0)
  have h' := Aside0.mk h
  clear h
  go_enter Tryz.func126, Tryz.ntmps126
  go_wp2_with (go_at_call 179; refine (cf26_idx _ _ _ _ HR.out).mono ?_; rintro e w' ⟨rfl, ⟨n, rfl⟩⟩)
  go_ret
  exact ⟨by rw [← h'.out, ← hz.out]; rfl, ⟨_, rfl⟩⟩
def slices_Clone.f (l0 : List Int) : Option (List Int) := if l0.length < 17592186044416 then some l0 else none
set_option maxHeartbeats 1000000 in
theorem slices_Clone.calls (A0 : Option Addr) (c0 : Nat) (l0 : List Int) (r : List Int) (w : World) (hr0 : Kd.C (Kd.int .i64) w A0 l0.length l0) (hc0 : l0.length ≤ c0) (h : slices_Clone.f l0 = some r) :
    Calls Tryz.prog 84 #[.slice A0 l0.length c0] w fun e w' => ∃ v0_ : Value, e = .returned v0_ ∧ Kd.R (Kd.int .i64) 3 w' w.heap.size (fun _ => True) v0_ r ∧ Below w.heap.size w w' := by
  unfold slices_Clone.f at h
  split at h
  · rename_i hl
    simp only [Option.some.injEq] at h
    subst h
    have HR := Aside0.mk hr0
    clear hr0
    have he := fun (w : World) (a : Option Addr) (n c : Nat) => Lib.run_eql_slice_nil (P := Tryz.prog) w 22 3 a n c 0 0 Tryz.underlying22
    rcases A0 with _ | ad
    · have h0 : l0 = [] := by
        rcases l0 with _ | ⟨x, l⟩
        · rfl
        · obtain ⟨_, _, hh⟩ := HR.out
          obtain ⟨ad, e, _⟩ := hh (by simp)
          cases e
      have H0 := Aside0.mk h0
      clear h0
      go_enter Tryz.func84, Tryz.ntmps84
      go_wp2
      go_ret
      exact ⟨_, rfl, by rw [H0.out]; exact Kd.R_nil _ _ _ _ _, Below.refl _ _⟩
    · go_enter Tryz.func84, Tryz.ntmps84
      go_wp2_with (first
        | ((with_reducible refine gate_dst (N := 5) rfl ?_); refine Kd.R_lit (Kd.int .i64) _ 3 ?hg (N := 5) ?hd (xs := ([] : List Int)) (inner := []) (ok := fun _ => True) (okp := fun _ => True) ?hr ?hp (fun _ hk => hk) trivial (Below.refl _ _) (Nat.le_refl _) (by simp) ?_; (case hd => rfl); (case hg => rfl); (case hr => first | (go_simp; done) | (go_simp; rfl)); (case hp => exact (Reps.none _ _)); intro v5 w5 ho hb hg_ hnew_; clear hg_ hnew_; have HO := Aside0.mk ho; have HB := Aside0.mk hb; clear ho hb)
        | ((with_reducible refine gate_builtin (b := .append) (xs := #[.tmp 5, .tmp 6]) rfl ?_); at_builtin; refine Kd.R_append_rows (Kd.int .i64) (w0 := w) w.heap.size rfl (.tmp 5) (.tmp 6) 22 3 (.int .i64 0) 8 rfl Tryz.underlying22 info3 rfl (by decide) (by omega) v5 [] l0 _ _ _ (fun _ => True) (fun _ => False) rfl rfl ?aO ?aR (fun _ _ h => h) (fun _ h => h.elim) ?aF ?aB ?aS ?aL ?_; (case aR => exact Kd.C_below HR.out HB.out); (case aB => exact HB.out); (case aF => exact fun _ _ => trivial); (case aO => exact HO.out); (case aS => exact HB.out.size); (case aL => simp only [List.length_nil]; omega); intro v7 w7 ho hb hg hat; clear hg hat; have HO7 := Aside0.mk ho; have HB7 := Aside0.mk hb; clear ho hb))
      go_ret
      exact ⟨v7, rfl, HO7.out, HB7.out⟩
  · cases h
end Go.Proofs.YtcpaajecppplhaaGreatDoor.Hd
end
