/- What the law leans on, part 36: declarations of several texts of ours, in their order. -/
import Derived.Test.YtcpaajecppplhaaGreatDoorXN12
import Derived.Test.YtcpaajecppplhaaGreatDoorXN17
import Derived.WalkSpells
import Derived.Test.YtcpaajecppplhaaGreatDoorProg
import Derived.Below
import Derived.Deep.Draws
import Derived.Deep.AppendLies
import Derived.Maps.AppendAt
import Derived.OwnWalk
import Derived.Laws.BytesArg
import Derived.Laws.MakeOwn
import Derived.Laws.OwnMore
import Derived.Deep.OwnRows
import Derived.Tactics
import Derived.Lib.ConvBytes
import Derived.Laws.Slices
import Derived.WalkKit
import Derived.KernelRfl
import Derived.RowKit3
import Derived.Deep.LoopGhost
import Derived.Deep.QuietTactic
import Derived.BigQuiet
import Derived.WideLaws
import Derived.Deep.DeepCutAuto
import Derived.Deep.CutBlock
import Derived.Deep.RegionHeld3
import Derived.Laws.Rows
import Derived.Lib.AppendStr
import Derived.ArgAppend
import Derived.Laws.IdiomCopy
import Derived.OrdersHeld
import Derived.Laws.BitsLemmas
import Derived.RowKit
import Derived.Test.YtcpaajecppplhaaGreatDoorXN0
import Derived.Test.YtcpaajecppplhaaGreatDoorXN1
import Derived.Test.YtcpaajecppplhaaGreatDoorXN34
import Derived.Test.YtcpaajecppplhaaGreatDoorXN2
import Derived.Test.YtcpaajecppplhaaGreatDoorXN3
import Derived.Test.YtcpaajecppplhaaGreatDoorXN29
import Derived.Test.YtcpaajecppplhaaGreatDoorXN32
import Derived.Test.YtcpaajecppplhaaGreatDoorXN33
section
/- Library functions over slices of texts: slices.ContainsFunc at val.May's closure, slices.Clone, strings.Join, Split and Cut: what they tell, at every input within the bounds that each f names. -/
namespace Go.Proofs.YtcpaajecppplhaaGreatDoor.Hd
open Go.RowKit Go.Proofs.YtcpaajecppplhaaGreatDoorW.PrintWords Go.Proofs.YtcpaajecppplhaaGreatDoorW.PrintLast Go.Proofs.YtcpaajecppplhaaGreatDoorW.PrintMore Go.Proofs.YtcpaajecppplhaaGreatDoor.B Go.Lib Go.Shelf Go.Proofs Go.Proofs.YtcpaajecppplhaaGreatDoor
set_option linter.unusedVariables false
set_option linter.unusedSimpArgs false
/-- first index from i on at which the closure is so -/
def idxM : List ByteArray → Nat → Option Int
  | [], _ => some (-1)
  | x :: l, i => (K.val_May_1.f x).bind fun b => if b = true then some (i : Int) else idxM l (i + 1)
theorem idxM_drop (l : List ByteArray) (k : Nat) (h : k < l.length) : idxM (l.drop k) k = (K.val_May_1.f (l.getD k ByteArray.empty)).bind fun b => if b = true then some (k : Int) else idxM (l.drop (k + 1)) (k + 1) := by
  rw [List.drop_eq_getElem_cons h]
  simp [idxM, List.getD, h]
theorem idxM_end (l : List ByteArray) (k : Nat) (h : l.length ≤ k) : idxM (l.drop k) k = some (-1) := by
  rw [List.drop_eq_nil_of_le h]
  rfl
set_option maxHeartbeats 1000000 in
theorem idxM_calls (A0 : Option Addr) (c0 : Nat) (l0 : List ByteArray) (r : Int) (w : World) (hr0 : Kd.C Kd.string w A0 l0.length l0) (h : idxM l0 0 = some r) :
    Calls Tryz.prog 132 #[.slice A0 l0.length c0, .func (.func 69) #[] #[]] w fun e w' => e = .returned (.int .i64 r) ∧ Below w.heap.size w w' := by
  have hl := hr0.2.1
  have HR := Aside0.mk hr0
  have H0 := Aside0.mk (show idxM (l0.drop 0) 0 = some r from h)
  clear hr0 h
  go_enter Tryz.func132, Tryz.ntmps132
  go_wp2
  go_loopw [8] (fun i w' => ∃ k : Nat, k ≤ l0.length ∧ i = .int .i64 k ∧ Aside0 (idxM (l0.drop k) k = some r) ∧ Aside0 (Below w.heap.size w w')) (fun i _ => l0.length - (intOf i).toNat)
  case atStart => exact ⟨0, Nat.zero_le _, rfl, H0, ⟨by repeat (first | exact Below.refl _ _ | apply below_drew)⟩⟩
  case round =>
    clear H0
    obtain ⟨k, hk, rfl, HA, HB⟩ := hrel
    by_cases hlt : k < l0.length
    · obtain ⟨ad, e, hx0⟩ := Kd.at_string (Kd.C_below HR.out HB.out) k (by omega) (by omega)
      cases e
      have hd := HA.out
      rw [idxM_drop l0 k hlt] at hd
      obtain ⟨x, hx1⟩ : ∃ x, x = l0.getD k ByteArray.empty := ⟨_, rfl⟩
      have hx : wr.cell? (ad.add k) = some (.string x) := by rw [hx1]; simpa [rdOf] using hx0
      clear hx0
      rw [← hx1] at hd
      clear hx1
      obtain ⟨b, hb1, hb2⟩ := Option.bind_eq_some_iff.mp hd
      have HC := Aside0.mk (fun W => K.val_May_1.calls x b W hb1)
      clear hd hb1
      cases b with
      | true =>
        have HE := Aside0.mk (Option.some.inj hb2)
        clear hb2
        go_wp2_with (go_at_call 69; (with_reducible refine (HC.out _).mono ?_); rintro e w9 ⟨rfl, hb90⟩; have hb9 := Aside0.mk hb90; clear hb90)
        go_ret
        exact ⟨by first | rfl | (rw [HE.out]; rfl) | rw [HE.out], below_step HB.out hb9.out⟩
      | false =>
        have HE := Aside0.mk (show idxM (l0.drop (k + 1)) (k + 1) = some r from hb2)
        clear hb2
        go_wp2_with (go_at_call 69; (with_reducible refine (HC.out _).mono ?_); rintro e w9 ⟨rfl, hb90⟩; have hb9 := Aside0.mk hb90; clear hb90)
        go_roundw
        case rel => exact ⟨k + 1, by omega, by go_num, HE, ⟨below_step HB.out hb9.out⟩⟩
        case measure => simp [intOf]; omega
    · have hk' : k = l0.length := by omega
      have hz := HA.out
      rw [idxM_end l0 k (by omega)] at hz
      have HE := Aside0.mk (Option.some.inj hz)
      clear HA hz
      go_wp2
      go_ret
      exact ⟨by first | rfl | (rw [HE.out]; rfl) | rw [HE.out], HB.out⟩
def cfV.f (l0 : List ByteArray) : Option Bool := (idxM l0 0).bind fun i => some (decide (0 ≤ i))
theorem cfV.calls (A0 : Option Addr) (c0 : Nat) (l0 : List ByteArray) (r : Bool) (w : World) (hr0 : Kd.C Kd.string w A0 l0.length l0) (hc0 : l0.length ≤ c0) (h : cfV.f l0 = some r) :
    Calls Tryz.prog 68 #[.slice A0 l0.length c0, .func (.func 69) #[] #[]] w fun e w' => e = .returned (.bool r) ∧ Below w.heap.size w w' := by
  obtain ⟨i, hi, h⟩ := Option.bind_eq_some_iff.mp h
  cases h
  have HR := Aside0.mk hr0
  have HI := Aside0.mk hi
  clear hr0 hi
  go_enter Tryz.func68, Tryz.ntmps68
  go_wp2_with (go_at_call 132; (with_reducible refine (idxM_calls _ _ _ _ _ HR.out HI.out).mono ?_); rintro e w9 ⟨rfl, hb90⟩; have hb9 := Aside0.mk hb90; clear hb90)
  go_ret
  exact ⟨rfl, hb9.out⟩
def clone_str.f (l0 : List ByteArray) : Option (List ByteArray) := if l0.length < 8796093022208 then some l0 else none
set_option maxHeartbeats 1000000 in
theorem clone_str.calls (A0 : Option Addr) (c0 : Nat) (l0 : List ByteArray) (r : List ByteArray) (w : World) (hr0 : Kd.C Kd.string w A0 l0.length l0) (hc0 : l0.length ≤ c0) (h : clone_str.f l0 = some r) :
    Calls Tryz.prog 111 #[.slice A0 l0.length c0] w fun e w' => ∃ v0_ : Value, e = .returned v0_ ∧ Kd.R Kd.string 9 w' w.heap.size (fun _ => True) v0_ r ∧ Below w.heap.size w w' := by
  unfold clone_str.f at h
  split at h
  · rename_i hl
    simp only [Option.some.injEq] at h
    subst h
    have HR := Aside0.mk hr0
    clear hr0
    have he := fun (w : World) (a : Option Addr) (n c : Nat) => Lib.run_eql_slice_nil (P := Tryz.prog) w 23 9 a n c 0 0 Tryz.underlying23
    rcases A0 with _ | ad
    · have h0 : l0 = [] := by
        rcases l0 with _ | ⟨x, l⟩
        · rfl
        · obtain ⟨_, _, hh⟩ := HR.out
          obtain ⟨ad, e, _⟩ := hh (by simp)
          cases e
      have H0 := Aside0.mk h0
      clear h0
      go_enter Tryz.func111, Tryz.ntmps111
      go_wp2
      go_ret
      exact ⟨_, rfl, by rw [H0.out]; exact Kd.R_nil _ _ _ _ _, Below.refl _ _⟩
    · go_enter Tryz.func111, Tryz.ntmps111
      go_wp2_with (first
        | ((with_reducible refine gate_dst (N := 5) rfl ?_); refine Kd.R_lit Kd.string _ 9 ?hg (N := 5) ?hd (xs := ([] : List ByteArray)) (inner := []) (ok := fun _ => True) (okp := fun _ => True) ?hr ?hp (fun _ hk => hk) trivial (Below.refl _ _) (Nat.le_refl _) (by simp) ?_; (case hd => rfl); (case hg => rfl); (case hr => first | (go_simp; done) | (go_simp; rfl)); (case hp => exact (Reps.none _ _)); intro v5 w5 ho hb hg_ hnew_; clear hg_ hnew_; have HO := Aside0.mk ho; have HB := Aside0.mk hb; clear ho hb)
        | ((with_reducible refine gate_builtin (b := .append) (xs := #[.tmp 5, .tmp 6]) rfl ?_); at_builtin; refine Kd.R_append_rows Kd.string (w0 := w) w.heap.size rfl (.tmp 5) (.tmp 6) 23 9 (.string ByteArray.empty) 16 rfl Tryz.underlying23 info9 rfl (by decide) (by omega) v5 [] l0 _ _ _ (fun _ => True) (fun _ => False) rfl rfl ?aO ?aR (fun _ _ h => h) (fun _ h => h.elim) ?aF ?aB ?aS ?aL ?_; (case aR => exact Kd.C_below HR.out HB.out); (case aB => exact HB.out); (case aF => exact fun _ _ => trivial); (case aO => exact HO.out); (case aS => exact HB.out.size); (case aL => simp only [List.length_nil]; omega); intro v7 w7 ho hb hg hat; clear hg hat; have HO7 := Aside0.mk ho; have HB7 := Aside0.mk hb; clear ho hb))
      go_ret
      exact ⟨v7, rfl, HO7.out, HB7.out⟩
  · cases h
/-! ### strings.Split -/
def split.f (a0 a1 : ByteArray) : Option (List ByteArray) := if a0.size < 4294967281 ∧ 1 ≤ a1.size then some (Lib.splitB a1 0 (Lib.countB a0 a1) a0) else none
theorem reps_str (xs : List ByteArray) : Reps (fun (x : ByteArray) cs => cs = [Value.string x]) 1 xs (xs.map Value.string) := ⟨by simp, fun j p h => by
  have h1 : (xs.map Value.string)[j]? = some (.string p) := by simp [h]
  obtain ⟨hj, e⟩ := List.getElem?_eq_some_iff.1 h1
  rw [Nat.mul_one, List.drop_eq_getElem_cons hj, e]
  rfl⟩
theorem split.calls (a0 a1 : ByteArray) (r : List ByteArray) (w : World) (hG : GL w) (h : split.f a0 a1 = some r) :
    Calls Tryz.prog 122 #[.string a0, .string a1] w fun e w' => ∃ v0_ : Value, e = .returned v0_ ∧ Kd.R Kd.string 9 w' w.heap.size (fun _ => True) v0_ r ∧ Below w.heap.size w w' := by
  unfold split.f at h
  split at h
  · rename_i hl
    cases h
    obtain ⟨m, hm⟩ := GL.maxLen hG
    refine (Tryz.strings_Split a0 a1 m w hl.1 hm hl.2).mono ?_
    rintro e w' ⟨rfl, rfl⟩
    have hle := Lib.splitB_all a1 hl.2 0 _ a0 rfl
    refine ⟨_, rfl, ⟨fun _ _ => trivial, (Lib.splitB a1 0 (Lib.countB a0 a1) a0).map Value.string, ?_, reps_str _⟩, (Below.refl _ w).alloc (Nat.le_refl _) _⟩
    have hc := Lib.countB_le a1 hl.2 a0.size a0 (Nat.le_refl _)
    have h2 := World.ownsRow_lit (base := w.heap.size) (e := 9) (size := 1) w ((Lib.splitB a1 0 (Lib.countB a0 a1) a0).map Value.string).toArray (Lib.countB a0 a1 + 1) (Nat.le_refl _) (by simp [maxLen]; omega) (by simp [hle])
    rw [hle]
    simp at h2
    first | exact h2 | (simp; exact h2) | simpa using h2
  · cases h
theorem fldV0 (a b : Value) (w' : World) : (Instr.field 25 (Value.agg #[a, b]) 0).run Tryz.prog w' = .ok a w' := by
  have hu := Tryz.underlying25
  simp [Instr.field, hu, go_sem, asAgg]
theorem fldV1 (a b : Value) (w' : World) : (Instr.field 25 (Value.agg #[a, b]) 1).run Tryz.prog w' = .ok b w' := by
  have hu := Tryz.underlying25
  simp [Instr.field, hu, go_sem, asAgg]
end Go.Proofs.YtcpaajecppplhaaGreatDoor.Hd
end
