/- What the law leans on, part 21: declarations of several texts of ours, in their order. -/
import Derived.Test.YtkhgpnbhnipndaaGreatDoorXFS1
import Derived.RangeFuncNested
import Derived.RangeFuncBound
import Derived.RangeFuncCalls
import Derived.RangeFuncLeaves
import Derived.Shelf.Abstract
import Derived.Shelf.RegionOpen
import Derived.OwnWalkIn
import Derived.TacticsInMore
import Derived.LoopNIn
import Derived.LoopIn
section
/- slices.Backward of a number's parts: its value gives all parts, from the end, to every loop body that keeps what it reads. -/
namespace Go.Proofs.YtkhgpnbhnipndaaGreatDoor.Hd
open Go.RowKit Go.Proofs.YtkhgpnbhnipndaaGreatDoorW.PrintWords Go.Proofs.YtkhgpnbhnipndaaGreatDoorW.PrintLast Go.Proofs.YtkhgpnbhnipndaaGreatDoorW.PrintMore Go.Proofs.YtkhgpnbhnipndaaGreatDoor.B Go.Shelf
attribute [local go_sem] Oper.semAt_some
set_option linter.unusedVariables false
set_option linter.unusedSimpArgs false
/-- what a round over slices.Backward keeps: what lay below n₀, and the box of the slice -/
def Kb (n₀ Bs : Nat) (W W' : World) : Prop := Below n₀ W W' ∧ W'.heap[Bs]? = W.heap[Bs]?
theorem Kb.t {n₀ Bs : Nat} {A B C : World} (h : Kb n₀ Bs A B) (k : Kb n₀ Bs B C) : Kb n₀ Bs A C := ⟨h.1.trans k.1, k.2.trans h.2⟩
theorem Kb.b {n₀ Bs : Nat} {w : World} (hn : n₀ ≤ w.heap.size) (hB : Bs < w.heap.size) (W : World) (l : Nat) (o o' : Obj) (hl : w.heap.size ≤ l) (h : W.heap[l]? = some o) (h1 : o.isCells = false) (h2 : o.isWalk = false) : Kb n₀ Bs W (W.putObj l o') :=
  ⟨belowK_b hn W l o o' hl h h1 h2, (grownBy_putObj' W l o').block Bs (by have := (Array.getElem?_eq_some_iff.1 h).1; omega) (fun e => by cases e; omega)⟩
/-- what comes of a slice of n elements from its end, k rounds being over -/
def bk (n k : Nat) : List (Fin n) := (List.finRange n).reverse.take k
theorem bk_succ (n k : Nat) (h : k < n) : bk n (k + 1) = bk n k ++ [⟨n - 1 - k, by omega⟩] := by
  unfold bk
  rw [List.take_succ_eq_append_getElem (by simpa using h)]
  congr 1
  simp
theorem bk_length (n k : Nat) (h : k ≤ n) : (bk n k).length = k := by simp [bk]; omega
theorem bk_zero (n : Nat) : bk n 0 = [] := by simp [bk]
set_option maxRecDepth 100000 in
set_option maxHeartbeats 2000000 in
theorem back1_in (F : Fence) (n : Nat) (hf : F.fn 250) (hro : F.round = none) (hn : 1 ≤ n) (l Bs n₀ : Nat) (A0 : Option Addr) (c0 : Nat) (l0 : List Int) (w0 : World) (hn0 : w0.heap.size = n₀) (hr0 : Kd.C (Kd.int .u64) w0 A0 l0.length l0) (J Jx : List (Fin l0.length) → World → Prop)
    (hY : ∀ pre x W, J pre W → pre.length < l0.length → YieldAt F (n - 1) Tryz.prog l #[.int .i64 ((x.1 : Nat) : Int), .int .u64 (l0.getD x.1 (0 : Int))] W fun e W' =>
      (e = .returned (.bool true) ∧ J (pre ++ [x]) W' ∧ Kb n₀ Bs W W') ∨ (e = .returned (.bool false) ∧ Jx (pre ++ [x]) W'))
    (W : World) (hb0 : Below n₀ w0 W) (hBs : Boxed W Bs 174 (.slice A0 l0.length c0)) (h0 : J [] W) :
    CallsIn F n Tryz.prog 250 #[.func (.yield l) #[] #[], .pointer (some ⟨Bs, 0, none⟩)] W fun e W' => (∃ v, e = .returned v) ∧
      ((∃ ys, ys = bk l0.length l0.length ∧ J ys W') ∨ (∃ pre, (∃ k, k ≤ l0.length ∧ pre = bk l0.length k) ∧ Jx pre W')) := by
  have hlen := hr0.2.1
  have HR0 := Aside0.mk hr0
  clear hr0
  have hcB := hBs.cell
  have HBB := Aside0.mk hBs
  clear hBs
  refine callsIn_of_wp Tryz.func250 rfl hf ?_ hro
  simp only [Tryz.ntmps250, List.size_toArray, List.length_cons, List.length_nil, Nat.reduceAdd, Nat.reduceSub, Array.replicate_succ, Array.replicate_zero, List.push_toArray, List.append_toArray, List.nil_append, List.cons_append]
  gi_wp2
  clear hcB
  gi_loopw [3] (fun i wr => ∃ k : Nat, k ≤ l0.length ∧ i = .int .i64 ((l0.length : Int) - 1 - k) ∧ J (bk l0.length k) wr ∧ Below n₀ w0 wr ∧ Aside0 (Boxed wr Bs 174 (.slice A0 l0.length c0)))
    (fun i _ => (intOf i + 1).toNat)
  case atStart => exact ⟨0, Nat.zero_le _, by simp, by rw [bk_zero]; exact h0, hb0, HBB⟩
  case round =>
    obtain ⟨k, hk, rfl, hJs, hnx, HB⟩ := hrel
    by_cases hlt : k < l0.length
    · obtain ⟨fn, tmps, assign, body, hy, hR⟩ := hY _ ⟨l0.length - 1 - k, by omega⟩ wr hJs (by rw [bk_length _ _ hk]; exact hlt)
      rw [← bk_succ _ _ hlt] at hR
      dsimp only at hy
      have hC := Kd.C_below HR0.out (hn0 ▸ hnx)
      obtain ⟨ad, e, hx0⟩ := Kd.at_int hC ((l0.length - 1 - k : Nat) : Int) (by omega) (by omega)
      cases e
      have hx : wr.cell? (ad.add (l0.length - 1 - k)) = some (.int .u64 (l0.getD (l0.length - 1 - k) (0 : Int))) := by simpa [rd, rdOf, ByteArray.empty] using hx0
      clear hx0 hC
      have hcB := HB.out.cell
      have hi : ((l0.length : Int) - 1 - k) = ((l0.length - 1 - k : Nat) : Int) := by omega
      rw [hi]
      have hj : l0.length - 1 - k < l0.length := by omega
      generalize hm : l0.length - 1 - k = m at *
      clear hi
      have Hm := Aside0.mk hm
      clear hm
      generalize hv : l0.getD m (0 : Int) = v at *
      have Hv := Aside0.mk hv
      clear hv
      gi_wp2
      refine hR.mono ?_
      rintro e W3 (⟨rfl, hJ3, hk3⟩ | ⟨rfl, hJx3⟩)
      · have HB3 : Boxed W3 Bs 174 (.slice (some ad) l0.length c0) := hk3.2.trans HB.out
        gi_wp2
        go_roundw
        case rel => exact ⟨k + 1, by omega, by have hz := Hm.out; exact congrArg (Value.int .i64) (by omega), hJ3, hnx.trans hk3.1, ⟨HB3⟩⟩
        case measure => have := Hm.out; simp [intOf]
      · gi_wp2
        refine bodyPost_ret (results_none rfl _ _ _) rfl ?_
        exact ⟨⟨_, rfl⟩, .inr ⟨_, ⟨k + 1, by omega, rfl⟩, hJx3⟩⟩
    · have hkk : k = l0.length := by omega
      have HK := Aside0.mk hkk
      have h1 : ((l0.length : Int) - 1 - k) = -1 := by omega
      rw [h1]
      clear hkk h1
      gi_wp2
      go_end0
      exact ⟨⟨_, rfl⟩, .inl ⟨_, rfl, HK.out ▸ hJs⟩⟩
set_option maxHeartbeats 1000000 in
theorem back_in (F : Fence) (n : Nat) (hf : F.fn 228) (hro : F.round = none) (a : Option Addr) (len cap : Nat) (w : World) :
    CallsIn F n Tryz.prog 228 #[.slice a len cap] w fun e w' => e = .returned (.func (.func 250) #[] #[.pointer (some ⟨w.heap.size, 0, none⟩)]) ∧ w' = w.alloc (.cells #[.slice a len cap] 174) := by
  refine callsIn_of_wp Tryz.func228 rfl hf ?_ hro
  simp only [Tryz.ntmps228, List.size_toArray, List.length_cons, List.length_nil, Nat.reduceAdd, Nat.reduceSub, Array.replicate_succ, Array.replicate_zero, List.push_toArray, List.append_toArray, List.nil_append, List.cons_append]
  gi_wp2
  go_ret
  exact ⟨rfl, rfl⟩
/-- slices.Backward's value, over a slice that is read: all, from the end; or a part. -/
theorem back_stops (F : Fence) (n : Nat) (hf : F.fn 250) (hro : F.round = none) (hn : 1 ≤ n) (Bs n₀ : Nat) (A0 : Option Addr) (c0 : Nat) (l0 : List Int) (w0 w : World) (hn0 : w0.heap.size = n₀) (hr0 : Kd.C (Kd.int .u64) w0 A0 l0.length l0) (hw : Below n₀ w0 w) (hBs : Boxed w Bs 174 (.slice A0 l0.length c0)) :
    SeqStopsK F n Tryz.prog 250 #[.pointer (some ⟨Bs, 0, none⟩)] (fun x : Fin l0.length => #[Value.int .i64 ((x.1 : Nat) : Int), .int .u64 (l0.getD x.1 (0 : Int))]) (Kb n₀ Bs) (fun ys => ys = bk l0.length l0.length)
      (fun pre => ∃ k, k ≤ l0.length ∧ pre = bk l0.length k) l0.length w := fun l J Jx W hW _ _ hY h0 =>
  back1_in F n hf hro hn l Bs n₀ A0 c0 l0 w0 hn0 hr0 J Jx hY W (hw.trans (hW.mono (hn0 ▸ hw.size))) ((hW.block Bs hBs.lt).trans hBs) h0
end Go.Proofs.YtkhgpnbhnipndaaGreatDoor.Hd
end
