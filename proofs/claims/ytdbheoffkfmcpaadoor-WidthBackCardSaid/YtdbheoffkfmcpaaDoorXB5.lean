/- What the law leans on, part 6: declarations of several texts of ours, in their order. -/
import Derived.Test.YtdbheoffkfmcpaaDoorXB2
import Derived.RangeFuncNested
import Derived.RangeFuncBound
import Derived.RangeFuncCalls
import Derived.RangeFuncLeaves
import Derived.Shelf.Abstract
import Derived.Shelf.RegionOpen
import Derived.OwnWalkIn
import Derived.TacticsInMore
import Derived.LoopNIn
import Derived.LoopIn
import Derived.OrdersIn
import Derived.Test.YtdbheoffkfmcpaaDoorXB4
import Derived.Lib.AppendIntMem
import Derived.Lib.OthersKept
import Derived.Shelf.Strings.BuilderK
import Derived.Test.YtdbheoffkfmcpaaDoorProg
import Derived.Below
import Derived.Deep.Draws
import Derived.Deep.AppendLies
import Derived.Maps.AppendAt
import Derived.OwnWalk
import Derived.Laws.BytesArg
import Derived.Laws.MakeOwn
import Derived.Laws.OwnMore
import Derived.Deep.OwnRows
import Derived.Tactics
import Derived.Lib.ConvBytes
import Derived.Laws.Slices
import Derived.WalkKit
import Derived.KernelRfl
import Derived.RowKit3
import Derived.Deep.LoopGhost
import Derived.Deep.QuietTactic
import Derived.BigQuiet
import Derived.WideLaws
import Derived.Deep.DeepCutAuto
import Derived.Deep.CutBlock
import Derived.Deep.RegionHeld3
import Derived.Laws.Rows
import Derived.Lib.AppendStr
import Derived.ArgAppend
import Derived.Laws.IdiomCopy
import Derived.OrdersHeld
import Derived.Laws.BitsLemmas
import Derived.RowKit
import Derived.Test.YtdbheoffkfmcpaaDoorXB0
import Derived.Test.YtdbheoffkfmcpaaDoorXB1
section
/- slices.Backward of a number's parts: its value gives all parts, from the end, to every loop body that keeps what it reads. -/
namespace Go.Proofs.YtdbheoffkfmcpaaDoor.Hd
open Go.RowKit Go.Proofs.YtdbheoffkfmcpaaDoorW.PrintWords Go.Proofs.YtdbheoffkfmcpaaDoorW.PrintLast Go.Proofs.YtdbheoffkfmcpaaDoorW.PrintMore Go.Proofs.YtdbheoffkfmcpaaDoor.B Go.Shelf
attribute [local go_sem] Oper.semAt_some
set_option linter.unusedVariables false
set_option linter.unusedSimpArgs false
/-- what a round over slices.Backward keeps: what lay below n₀, and the box of the slice -/
def Kb (n₀ Bs : Nat) (W W' : World) : Prop := Below n₀ W W' ∧ W'.heap[Bs]? = W.heap[Bs]?
theorem Kb.t {n₀ Bs : Nat} {A B C : World} (h : Kb n₀ Bs A B) (k : Kb n₀ Bs B C) : Kb n₀ Bs A C := ⟨h.1.trans k.1, k.2.trans h.2⟩
theorem Kb.b {n₀ Bs : Nat} {w : World} (hn : n₀ ≤ w.heap.size) (hB : Bs < w.heap.size) (W : World) (l : Nat) (o o' : Obj) (hl : w.heap.size ≤ l) (h : W.heap[l]? = some o) (h1 : o.isCells = false) (h2 : o.isWalk = false) : Kb n₀ Bs W (W.putObj l o') :=
  ⟨belowK_b hn W l o o' hl h h1 h2, (grownBy_putObj' W l o').block Bs (by have := (Array.getElem?_eq_some_iff.1 h).1; omega) (fun e => by cases e; omega)⟩
/-- what comes of a slice of n elements from its end, k rounds being over -/
def bk (n k : Nat) : List (Fin n) := (List.finRange n).reverse.take k
theorem bk_succ (n k : Nat) (h : k < n) : bk n (k + 1) = bk n k ++ [⟨n - 1 - k, by omega⟩] := by
  unfold bk
  rw [List.take_succ_eq_append_getElem (by simpa using h)]
  congr 1
  simp
theorem bk_length (n k : Nat) (h : k ≤ n) : (bk n k).length = k := by simp [bk]; omega
theorem bk_zero (n : Nat) : bk n 0 = [] := by simp [bk]
set_option maxRecDepth 100000 in
set_option maxHeartbeats 2000000 in
theorem back1_in (F : Fence) (n : Nat) (hf : F.fn 117) (hro : F.round = none) (hn : 1 ≤ n) (l Bs n₀ : Nat) (A0 : Option Addr) (c0 : Nat) (l0 : List Int) (w0 : World) (hn0 : w0.heap.size = n₀) (hr0 : Kd.C (Kd.int .u64) w0 A0 l0.length l0) (J Jx : List (Fin l0.length) → World → Prop)
    (hY : ∀ pre x W, J pre W → pre.length < l0.length → YieldAt F (n - 1) Tryd.prog l #[.int .i64 ((x.1 : Nat) : Int), .int .u64 (l0.getD x.1 (0 : Int))] W fun e W' =>
      (e = .returned (.bool true) ∧ J (pre ++ [x]) W' ∧ Kb n₀ Bs W W') ∨ (e = .returned (.bool false) ∧ Jx (pre ++ [x]) W'))
    (W : World) (hb0 : Below n₀ w0 W) (hBs : Boxed W Bs 59 (.slice A0 l0.length c0)) (h0 : J [] W) :
    CallsIn F n Tryd.prog 117 #[.func (.yield l) #[] #[], .pointer (some ⟨Bs, 0, none⟩)] W fun e W' => (∃ v, e = .returned v) ∧
      ((∃ ys, ys = bk l0.length l0.length ∧ J ys W') ∨ (∃ pre, (∃ k, k ≤ l0.length ∧ pre = bk l0.length k) ∧ Jx pre W')) := by
  have hlen := hr0.2.1
  have HR0 := Aside0.mk hr0
  clear hr0
  have hcB := hBs.cell
  have HBB := Aside0.mk hBs
  clear hBs
  refine callsIn_of_wp Tryd.func117 rfl hf ?_ hro
  simp only [Tryd.ntmps117, List.size_toArray, List.length_cons, List.length_nil, Nat.reduceAdd, Nat.reduceSub, Array.replicate_succ, Array.replicate_zero, List.push_toArray, List.append_toArray, List.nil_append, List.cons_append]
  gi_wp2
  clear hcB
  gi_loopw [3] (fun i wr => ∃ k : Nat, k ≤ l0.length ∧ i = .int .i64 ((l0.length : Int) - 1 - k) ∧ J (bk l0.length k) wr ∧ Below n₀ w0 wr ∧ Aside0 (Boxed wr Bs 59 (.slice A0 l0.length c0)))
    (fun i _ => (intOf i + 1).toNat)
  case atStart => exact ⟨0, Nat.zero_le _, by simp, by rw [bk_zero]; exact h0, hb0, HBB⟩
  case round =>
    obtain ⟨k, hk, rfl, hJs, hnx, HB⟩ := hrel
    by_cases hlt : k < l0.length
    · obtain ⟨fn, tmps, assign, body, hy, hR⟩ := hY _ ⟨l0.length - 1 - k, by omega⟩ wr hJs (by rw [bk_length _ _ hk]; exact hlt)
      rw [← bk_succ _ _ hlt] at hR
      dsimp only at hy
      have hC := Kd.C_below HR0.out (hn0 ▸ hnx)
      obtain ⟨ad, e, hx0⟩ := Kd.at_int hC ((l0.length - 1 - k : Nat) : Int) (by omega) (by omega)
      cases e
      have hx : wr.cell? (ad.add (l0.length - 1 - k)) = some (.int .u64 (l0.getD (l0.length - 1 - k) (0 : Int))) := by simpa [rd, rdOf, ByteArray.empty] using hx0
      clear hx0 hC
      have hcB := HB.out.cell
      have hi : ((l0.length : Int) - 1 - k) = ((l0.length - 1 - k : Nat) : Int) := by omega
      rw [hi]
      have hj : l0.length - 1 - k < l0.length := by omega
      generalize hm : l0.length - 1 - k = m at *
      clear hi
      have Hm := Aside0.mk hm
      clear hm
      generalize hv : l0.getD m (0 : Int) = v at *
      have Hv := Aside0.mk hv
      clear hv
      gi_wp2
      refine hR.mono ?_
      rintro e W3 (⟨rfl, hJ3, hk3⟩ | ⟨rfl, hJx3⟩)
      · have HB3 : Boxed W3 Bs 59 (.slice (some ad) l0.length c0) := hk3.2.trans HB.out
        gi_wp2
        go_roundw
        case rel => exact ⟨k + 1, by omega, by have hz := Hm.out; exact congrArg (Value.int .i64) (by omega), hJ3, hnx.trans hk3.1, ⟨HB3⟩⟩
        case measure => have := Hm.out; simp [intOf]
      · gi_wp2
        refine bodyPost_ret (results_none rfl _ _ _) rfl ?_
        exact ⟨⟨_, rfl⟩, .inr ⟨_, ⟨k + 1, by omega, rfl⟩, hJx3⟩⟩
    · have hkk : k = l0.length := by omega
      have HK := Aside0.mk hkk
      have h1 : ((l0.length : Int) - 1 - k) = -1 := by omega
      rw [h1]
      clear hkk h1
      gi_wp2
      go_end0
      exact ⟨⟨_, rfl⟩, .inl ⟨_, rfl, HK.out ▸ hJs⟩⟩
set_option maxHeartbeats 1000000 in
theorem back_in (F : Fence) (n : Nat) (hf : F.fn 90) (hro : F.round = none) (a : Option Addr) (len cap : Nat) (w : World) :
    CallsIn F n Tryd.prog 90 #[.slice a len cap] w fun e w' => e = .returned (.func (.func 117) #[] #[.pointer (some ⟨w.heap.size, 0, none⟩)]) ∧ w' = w.alloc (.cells #[.slice a len cap] 59) := by
  refine callsIn_of_wp Tryd.func90 rfl hf ?_ hro
  simp only [Tryd.ntmps90, List.size_toArray, List.length_cons, List.length_nil, Nat.reduceAdd, Nat.reduceSub, Array.replicate_succ, Array.replicate_zero, List.push_toArray, List.append_toArray, List.nil_append, List.cons_append]
  gi_wp2
  go_ret
  exact ⟨rfl, rfl⟩
/-- slices.Backward's value, over a slice that is read: all, from the end; or a part. -/
theorem back_stops (F : Fence) (n : Nat) (hf : F.fn 117) (hro : F.round = none) (hn : 1 ≤ n) (Bs n₀ : Nat) (A0 : Option Addr) (c0 : Nat) (l0 : List Int) (w0 w : World) (hn0 : w0.heap.size = n₀) (hr0 : Kd.C (Kd.int .u64) w0 A0 l0.length l0) (hw : Below n₀ w0 w) (hBs : Boxed w Bs 59 (.slice A0 l0.length c0)) :
    SeqStopsK F n Tryd.prog 117 #[.pointer (some ⟨Bs, 0, none⟩)] (fun x : Fin l0.length => #[Value.int .i64 ((x.1 : Nat) : Int), .int .u64 (l0.getD x.1 (0 : Int))]) (Kb n₀ Bs) (fun ys => ys = bk l0.length l0.length)
      (fun pre => ∃ k, k ≤ l0.length ∧ pre = bk l0.length k) l0.length w := fun l J Jx W hW _ _ hY h0 =>
  back1_in F n hf hro hn l Bs n₀ A0 c0 l0 w0 hn0 hr0 J Jx hY W (hw.trans (hW.mono (hn0 ▸ hw.size))) ((hW.block Bs hBs.lt).trans hBs) h0
end Go.Proofs.YtdbheoffkfmcpaaDoor.Hd
end
section
/- Small words: a region that draws its order is walked in a round of a range over a function as it is elsewhere. -/
namespace Go.Proofs.YtdbheoffkfmcpaaDoor.Hd
open Go.RowKit Go.Proofs.YtdbheoffkfmcpaaDoorW.PrintWords Go.Proofs.YtdbheoffkfmcpaaDoorW.PrintLast Go.Proofs.YtdbheoffkfmcpaaDoorW.PrintMore Go.Proofs.YtdbheoffkfmcpaaDoor.B Go.Shelf
set_option linter.unusedVariables false
set_option linter.unusedSimpArgs false
section
variable {P : Program} {ops : Array Oper} {l n : Nat}
/-- what a round's region owes: to end normally, in K -/
def EndsIn (K : Act → World → Prop) : Exit → Act → World → Prop := fun e a w => e = .normal ∧ K a w
theorem not_lets (K : Act → World → Prop) : ¬ LetsOut (EndsIn K) := by
  rintro ⟨a, w, h, _⟩
  cases h
theorem wpOp_round {Q : Exit → Act → World → Prop} {K0 K K' : Act → World → Prop} {i : Nat} {a : Act} {w : World} (hd : ∀ o : Oper, ops[i]? = some o → ∀ c, o.op ≠ .defer c) (hK : ∀ a w, K a w → K' a w) (h : wpOp P ops (EndsIn K0) i K a w) : wpOpIn (Fence.wide.inRound l) n P ops Q i K' a w := by
  unfold wpOp at h
  unfold wpOpIn
  cases ho : ops[i]? with
  | none => rw [ho] at h; exact hK _ _ h
  | some o =>
    rw [ho] at h
    by_cases hw : Region.wanted o (yielded ops a.tmps) = true
    · simp only [hw, if_true] at h ⊢
      rcases h with h | ⟨_, h⟩
      · refine ⟨fun _ _ => trivial, ?_⟩
        rw [show (Fence.wide.inRound l).round = some l from rfl, Oper.semAt_some l _ _ (hd o ho)]
        unfold Oper.wp at h
        generalize (execOp a.eval o).run P w = r at h
        cases r with
        | ok x w' =>
          cases x with
          | value v => exact hK _ _ h
          | skip => exact hK _ _ h
          | defer d => exact hK _ _ h
          | enter f args =>
            refine ⟨fun hh => (by cases hh), ?_⟩
            refine CallsIn.mono (CallsIn.inRound l (callsIn_wide.2 h)) ?_
            intro e w'' he
            cases e with
            | returned v => exact hK _ _ he
            | panicked c => cases he.1
            | outgrown => exact absurd he (not_lets _)
          | row row args =>
            refine ⟨fun hh => (by cases hh), ?_⟩
            intro c cs _
            obtain ⟨v, w'', hr, hs⟩ := h c cs
            exact ⟨v, w'', hK _ _ hr, stepsIn_wide.2 hs⟩
          | _ => exact h.elim
        | halt x w' =>
          cases x <;> first | exact h.elim | cases h.1
      · exact absurd h (not_lets _)
    · simp only [hw] at h ⊢
      exact ⟨fun _ _ => trivial, hK _ _ h⟩
theorem wpAny_round {md : Region.Mode} {Q : Exit → Act → World → Prop} (hd : ∀ (i : Nat) (o : Oper), ops[i]? = some o → ∀ c, o.op ≠ .defer c) : ∀ (fuel : Nat) (listed : Array Bool) (a : Act) (w : World), wpAny P md ops (EndsIn (Q .normal)) fuel listed a w → wpAnyIn (Fence.wide.inRound l) n P md ops Q fuel listed a w
  | 0, listed, a, w, h => ⟨h.1, h.2.2⟩
  | fuel + 1, listed, a, w, h => ⟨fun hr => (h.1 hr).2, fun i hi => wpOp_round (hd i) (fun a w => wpAny_round hd fuel _ a w) (h.2 i hi)⟩
/-- a region that draws its order, in a round: by the print's own steps (take_, pure_, one_, last_, done_) -/
theorem region_round {id m : Nat} {Q : Exit → Act → World → Prop} {S : World → Prop} {ds : List Nat} {a : Act} {w : World} (L : Array Bool) (hm : P.follows .mixedOrders = true) (hn : ops.size = m) (hl : Array.replicate m false = L)
    (hd : ops.toList.all (fun o => match o.op with | .defer _ => false | _ => true) = true) (hS : S w.drew)
    (h : S w.drew → wpAnyLast P .any ops (EndsIn (Q .normal)) S ds m L a w.drew) : (Code.region id ops true).wpIn (Fence.wide.inRound l) n P Q a w := by
  subst hn
  subst hl
  refine wpIn_region_any hm (wpAny_round (fun i o ho c hc => ?_) _ _ _ _ (wpAny_of_last _ _ _ _ (h hS)))
  have := List.all_eq_true.1 hd o (by rw [Array.mem_toList_iff]; exact Array.mem_of_getElem? ho)
  rw [hc] at this
  cases this
end
/-- a block of cells, whole, stays under what turns other things -/
theorem blk_kept {W W' : World} {row : Option Nat} {g t : Nat} {cs : Array Value} {fr : Nat × Nat} (h : W.heap[g]? = some (.cells cs t fr)) (hg : W.grownBy W' row) (hr : ∀ r, row = some r → ∃ o : Obj, W.heap[r]? = some o ∧ o.isCells = false) : W'.heap[g]? = some (.cells cs t fr) :=
  (hg.block g (Array.getElem?_eq_some_iff.1 h).1 (fun e => by
    obtain ⟨o, ho, hc⟩ := hr g e.symm
    rw [h] at ho
    cases ho
    cases hc)).trans h
theorem blk_set {W : World} {g : Nat} {cs : Array Value} {t : Nat} (h : W.heap[g]? = some (.cells cs t (0, 0))) (i : Nat) (v : Value) (hv : v.cells = #[v]) (hi : i < cs.size) : (W.setCell ⟨g, i, none⟩ v).heap[g]? = some (.cells (cs.setIfInBounds i v) t (0, 0)) := by
  obtain ⟨hlt, hk⟩ := Array.getElem?_eq_some_iff.1 h
  show (W.heap.modify g _)[g]? = _
  rw [Array.getElem?_eq_getElem (by rw [Array.size_modify]; exact hlt), Array.getElem_modify_self, hk]
  simp
end Go.Proofs.YtdbheoffkfmcpaaDoor.Hd
end
section
/- num.compare: what it tells, at any two sizes. -/
namespace Go.Proofs.YtdbheoffkfmcpaaDoor.Hd
open Go.RowKit Go.Proofs.YtdbheoffkfmcpaaDoorW.PrintWords Go.Proofs.YtdbheoffkfmcpaaDoorW.PrintLast Go.Proofs.YtdbheoffkfmcpaaDoorW.PrintMore Go.Proofs.YtdbheoffkfmcpaaDoor.B Go.Shelf
attribute [local go_sem] Oper.semAt_some
set_option linter.unusedVariables false
set_option linter.unusedSimpArgs false
def cmpI (x y : Int) : Int := if x < y then -1 else if x > y then 1 else 0
theorem cmpI_int (x y : Int) : K.cmp_Compare_int.f x y = some (cmpI x y) := by
  unfold K.cmp_Compare_int.f K.cmp_isNaN_int.f cmpI
  simp only [Option.bind_some, bne_self_eq_false, Bool.false_eq_true, if_false]
  split
  · rfl
  · split <;> rfl
theorem cmpI_u64 (x y : Int) : K.cmp_Compare_uint64.f x y = some (cmpI x y) := by
  unfold K.cmp_Compare_uint64.f K.cmp_isNaN_uint64.f cmpI
  simp only [Option.bind_some, bne_self_eq_false, Bool.false_eq_true, if_false]
  split
  · rfl
  · split <;> rfl
/-- the first parts from the end that are apart, among the first n -/
def cmpTop (a b : List Int) : Nat → Int
  | 0 => 0
  | n + 1 => if cmpI (a.getD n 0) (b.getD n 0) = 0 then cmpTop a b n else cmpI (a.getD n 0) (b.getD n 0)
def compare.f (l0 l1 : List Int) : Option Int := some (if cmpI (l0.length : Int) (l1.length : Int) = 0 then cmpTop l0 l1 l0.length else cmpI (l0.length : Int) (l1.length : Int))
theorem cmpTop_eq (a b : List Int) : ∀ (n k : Nat), k ≤ n → (∀ j, n - k ≤ j → j < n → cmpI (a.getD j 0) (b.getD j 0) = 0) → cmpTop a b n = cmpTop a b (n - k)
  | n, 0, _, _ => by rw [Nat.sub_zero]
  | 0, k + 1, h, _ => by omega
  | n + 1, k + 1, h, hj => by
    have e := cmpTop_eq a b n k (by omega) (fun j h1 h2 => hj j (by omega) (by omega))
    rw [show n + 1 - (k + 1) = n - k by omega, ← e]
    conv => lhs; unfold cmpTop
    rw [if_pos (hj n (by omega) (by omega))]
theorem bk_mem (n k : Nat) (hk : k ≤ n) (j : Nat) (h1 : n - k ≤ j) (h2 : j < n) : (⟨j, h2⟩ : Fin n) ∈ bk n k := by
  induction k with
  | zero => omega
  | succ k ih =>
    rw [bk_succ n k (by omega)]
    rcases (by omega : n - k ≤ j ∨ j = n - 1 - k) with h | h
    · exact List.mem_append_left _ (ih (by omega) h)
    · subst h
      exact List.mem_append_right _ (by simp)
theorem results_cell1 {fn : Func} {p : Tmp} (h : fn.results = #[.cell p 3]) (tmps : Array Value) (w : World) (g : Nat) (v : Value) (hp : tmps.getD p undef = .pointer (some ⟨g, 0, none⟩)) (hc : w.cell? ⟨g, 0, none⟩ = some v) : (results fn tmps).run Tryd.prog w = .ok v w := by
  have hp' : tmps[p]?.getD undef = .pointer (some ⟨g, 0, none⟩) := by simpa using hp
  have u := Tryd.underlying3
  have a := Tryd.isAgg3
  simp [results, h, hp', asAddr, go_sem, hc, u, a]
/-- where the walk stopped: at the last one looked at -/
def Stopped (l0 l1 : List Int) (pre : List (Fin l0.length)) (v : Int) : Prop := ∃ p x, pre = p ++ [x] ∧ (∀ y ∈ p, cmpI (l0.getD y.1 0) (l1.getD y.1 0) = 0) ∧ v = cmpI (l0.getD x.1 0) (l1.getD x.1 0) ∧ v ≠ 0
theorem stopped_val (l0 l1 : List Int) (k : Nat) (hk : k ≤ l0.length) (v : Int) (h : Stopped l0 l1 (bk l0.length k) v) : cmpTop l0 l1 l0.length = v := by
  obtain ⟨p, x, e, hp, hv, hn⟩ := h
  cases k with
  | zero => rw [bk_zero] at e; simp at e
  | succ k =>
    rw [bk_succ _ _ (by omega)] at e
    have e1 := List.append_inj' e rfl
    obtain ⟨e2, e3⟩ := e1
    simp only [List.cons.injEq, and_true] at e3
    subst e2
    have hx1 : x.1 = l0.length - 1 - k := by rw [← e3]
    rw [cmpTop_eq l0 l1 l0.length k (by omega) (fun j h1 h2 => hp ⟨j, h2⟩ (bk_mem _ k (by omega) j h1 h2))]
    obtain ⟨m, hm⟩ : ∃ m, l0.length - k = m + 1 := ⟨l0.length - k - 1, by omega⟩
    rw [hm]
    have hx : x.1 = m := by omega
    rw [hx] at hv
    unfold cmpTop
    rw [if_neg (by rw [← hv]; exact hn), hv]
theorem done_val (l0 l1 : List Int) (h : ∀ y ∈ bk l0.length l0.length, cmpI (l0.getD y.1 0) (l1.getD y.1 0) = 0) : cmpTop l0 l1 l0.length = 0 := by
  rw [cmpTop_eq l0 l1 l0.length l0.length (Nat.le_refl _) (fun j h1 h2 => h ⟨j, h2⟩ (bk_mem _ _ (Nat.le_refl _) j h1 h2)), Nat.sub_self]
  rfl
set_option maxHeartbeats 1000000 in
theorem compare.apart (A0 A1 : Option Addr) (c0 c1 : Nat) (l0 l1 : List Int) (w : World) (h : cmpI (l0.length : Int) (l1.length : Int) ≠ 0) :
    Calls Tryd.prog 81 #[.slice A0 l0.length c0, .slice A1 l1.length c1] w fun e w' => e = .returned (.int .i64 (cmpI (l0.length : Int) (l1.length : Int))) ∧ Below w.heap.size w w' := by
  obtain ⟨c, hc⟩ : ∃ c, c = cmpI (l0.length : Int) (l1.length : Int) := ⟨_, rfl⟩
  have HC : ∀ W, Calls Tryd.prog 105 #[.int .i64 (l0.length : Int), .int .i64 (l1.length : Int)] W fun e w' => e = .returned (.int .i64 c) ∧ Drawn0 W w' := fun W => K.cmp_Compare_int.calls _ _ c W (by rw [hc]; exact cmpI_int _ _)
  rw [← hc] at h ⊢
  have h1 : (c != 0) = true := bne_iff_ne.mpr h
  clear h hc
  go_enter Tryd.func81, Tryd.ntmps81
  go_wp2_with (go_at_call 105; refine (HC _).mono ?_; rintro e w' ⟨rfl, ⟨nd, rfl⟩⟩)
  obtain ⟨W1, hW1⟩ : ∃ W1, W1 = ((((w.alloc (.cells #[.slice A0 l0.length c0] 59)).alloc (.cells #[.slice A1 l1.length c1] 59)).alloc (.cells #[.int .i64 0] 3)).drewN nd : World) := ⟨_, rfl⟩
  have hb : Boxed W1 (w.heap.size + 1 + 1) 3 (.int .i64 0) := by
    rw [hW1]
    have e := Boxed.new ((w.alloc (.cells #[.slice A0 l0.length c0] 59)).alloc (.cells #[.slice A1 l1.length c1] 59)) 3 (.int .i64 0)
    rw [show ((w.alloc (.cells #[.slice A0 l0.length c0] 59)).alloc (.cells #[.slice A1 l1.length c1] 59)).heap.size = w.heap.size + 1 + 1 from by simp] at e
    exact e
  have hB : Below w.heap.size w W1 := by
    rw [hW1]
    exact pw_below_drewN ((((Below.refl _ w).alloc (Nat.le_refl _) _).alloc (by simp) _).alloc (by simp; omega) _) nd
  rw [← hW1]
  refine bodyPost_ret (results_cell1 rfl _ _ (w.heap.size + 1 + 1) (.int .i64 c) rfl (hb.set _).cell) rfl ?_
  exact ⟨rfl, hB.setCell (p := ⟨w.heap.size + 1 + 1, 0, none⟩) (by simp; omega) _⟩
set_option maxHeartbeats 4000000 in
set_option maxRecDepth 100000 in
theorem compare.same (A0 A1 : Option Addr) (c0 c1 : Nat) (l0 l1 : List Int) (w : World) (hr0 : Kd.C (Kd.int .u64) w A0 l0.length l0) (hr1 : Kd.C (Kd.int .u64) w A1 l1.length l1) (h : cmpI (l0.length : Int) (l1.length : Int) = 0) :
    Calls Tryd.prog 81 #[.slice A0 l0.length c0, .slice A1 l1.length c1] w fun e w' => e = .returned (.int .i64 (cmpTop l0 l1 l0.length)) ∧ Below w.heap.size w w' := by
  have HR0 := Aside0.mk hr0
  have HR1 := Aside0.mk hr1
  clear hr0 hr1
  have HC : ∀ W, Calls Tryd.prog 105 #[.int .i64 (l0.length : Int), .int .i64 (l1.length : Int)] W fun e w' => e = .returned (.int .i64 0) ∧ Drawn0 W w' := fun W => K.cmp_Compare_int.calls _ _ 0 W (by rw [← h]; exact cmpI_int _ _)
  have HL := Aside0.mk (show l1.length = l0.length by
    unfold cmpI at h
    split at h
    · omega
    · split at h <;> omega)
  clear h
  refine (callsIn_wide (n := 6)).1 ?_
  have hro : Fence.wide.round = none := rfl
  refine callsIn_of_wp_marks Tryd.func81 rfl trivial ?_ hro
  simp only [Tryd.ntmps81, List.size_toArray, List.length_cons, List.length_nil, Nat.reduceAdd, Nat.reduceSub, Array.replicate_succ, Array.replicate_zero, List.push_toArray, List.append_toArray, List.nil_append, List.cons_append]
  gi_wp2_with (first
    | (refine ⟨trivial, ?_⟩; gi_at_call 105; refine (callsIn_wide.2 (HC _)).mono ?_; rintro e w' ⟨rfl, ⟨nd, rfl⟩⟩)
    | (refine ⟨trivial, ?_⟩; gi_at_call 90; refine (back_in Fence.wide _ trivial rfl _ _ _ _).mono ?_; rintro e w' ⟨rfl, rfl⟩))
  obtain ⟨W0, hW0⟩ : ∃ W0, W0 = (((((w.alloc (.cells #[.slice A0 l0.length c0] 59)).alloc (.cells #[.slice A1 l1.length c1] 59)).alloc (.cells #[.int .i64 0] 3)).drewN nd).alloc (.cells #[.slice A0 l0.length c0] 59) : World) := ⟨_, rfl⟩
  have hsz : W0.heap.size = w.heap.size + 4 := by rw [hW0]; simp
  have hB0 : Below w.heap.size w W0 := by
    rw [hW0]
    exact (pw_below_drewN ((((Below.refl _ w).alloc (Nat.le_refl _) _).alloc (by simp) _).alloc (by simp; omega) _) nd).alloc (by simp; omega) _
  have b0 : Boxed W0 w.heap.size 59 (.slice A0 l0.length c0) := by
    rw [hW0]
    exact (((Boxed.new w 59 (.slice A0 l0.length c0)).alloc _).alloc _).alloc _
  have b1 : Boxed W0 (w.heap.size + 1) 59 (.slice A1 l1.length c1) := by
    rw [hW0]
    have e := Boxed.new (w.alloc (.cells #[.slice A0 l0.length c0] 59)) 59 (.slice A1 l1.length c1)
    rw [show (w.alloc (.cells #[.slice A0 l0.length c0] 59)).heap.size = w.heap.size + 1 from by simp] at e
    exact (e.alloc _).alloc _
  have b2 : Boxed W0 (w.heap.size + 1 + 1) 3 (.int .i64 0) := by
    rw [hW0]
    have e := Boxed.new ((w.alloc (.cells #[.slice A0 l0.length c0] 59)).alloc (.cells #[.slice A1 l1.length c1] 59)) 3 (.int .i64 0)
    rw [show ((w.alloc (.cells #[.slice A0 l0.length c0] 59)).alloc (.cells #[.slice A1 l1.length c1] 59)).heap.size = w.heap.size + 1 + 1 from by simp] at e
    exact e.alloc _
  have b3 : Boxed W0 (w.heap.size + 1 + 1 + 1) 59 (.slice A0 l0.length c0) := by
    rw [hW0]
    have e := Boxed.new ((((w.alloc (.cells #[.slice A0 l0.length c0] 59)).alloc (.cells #[.slice A1 l1.length c1] 59)).alloc (.cells #[.int .i64 0] 3)).drewN nd) 59 (.slice A0 l0.length c0)
    rw [show ((((w.alloc (.cells #[.slice A0 l0.length c0] 59)).alloc (.cells #[.slice A1 l1.length c1] 59)).alloc (.cells #[.int .i64 0] 3)).drewN nd).heap.size = w.heap.size + 1 + 1 + 1 from by simp] at e
    exact e
  rw [← hW0]
  clear hW0
  refine wpIn_rangeFunc_ownG hro (by omega) (gf := 117) (lb := #[.pointer (some ⟨w.heap.size + 1 + 1 + 1, 0, none⟩)]) rfl trivial (enters_of Tryd.func117 (by kernel_rfl) rfl)
    (back_stops Fence.wide 5 trivial hro (by omega) (w.heap.size + 1 + 1 + 1) w.heap.size A0 c0 l0 w W0 rfl HR0.out hB0 b3) Kb.t (Kb.b (by omega) (by omega)) (Below.refl _ _) (fun _ => rfl)
    (fun pre W => ((Boxed W w.heap.size 59 (.slice A0 l0.length c0) ∧ Boxed W (w.heap.size + 1) 59 (.slice A1 l1.length c1) ∧ Boxed W (w.heap.size + 1 + 1) 3 (.int .i64 0)) ∧ Below w.heap.size w W) ∧ ∀ y ∈ pre, cmpI (l0.getD y.1 0) (l1.getD y.1 0) = 0)
    (fun c pre W => (∃ v, c = .ret ∧ Boxed W (w.heap.size + 1 + 1) 3 (.int .i64 v) ∧ Stopped l0 l1 pre v) ∧ Below w.heap.size w W)
    ?hI ?hIx ⟨⟨⟨b0, b1, b2⟩, hB0⟩, fun y h => by cases h⟩
    (fun x => { tmps := #[.slice A0 l0.length c0, .slice A1 l1.length c1, .pointer (some ⟨w.heap.size, 0, none⟩), .pointer (some ⟨w.heap.size + 1, 0, none⟩), .pointer (some ⟨w.heap.size + 1 + 1, 0, none⟩), .int .i64 0, (.int .i64 ((x.1 : Nat) : Int)), undef, .slice A0 l0.length c0, .int .i64 (l0.length : Int), .slice A1 l1.length c1, .int .i64 (l1.length : Int), .int .i64 0, .int .i64 0, .bool false, undef, .slice A0 l0.length c0, .func (.func 117) #[] #[.pointer (some ⟨w.heap.size + 1 + 1 + 1, 0, none⟩)], (.int .i64 ((x.1 : Nat) : Int)), (.int .u64 (l0.getD x.1 0)), undef, undef, undef, undef, undef, undef, undef, undef, undef, undef, undef, undef], defers := [] }) ?assign ?body ?done ?stop
  case hI =>
    intro s W W' row hs hg hr
    exact ⟨⟨⟨boxed_own _ _ (fun _ : Unit => _) () W W' row hs.1.1.1 hg (fun r e => (hr r e).2), boxed_own _ _ (fun _ : Unit => _) () W W' row hs.1.1.2.1 hg (fun r e => (hr r e).2), boxed_own _ _ (fun _ : Unit => _) () W W' row hs.1.1.2.2 hg (fun r e => (hr r e).2)⟩, ownFrom_below (Nat.le_refl _) (by omega) () W W' row hs.1.2 hg hr⟩, hs.2⟩
  case hIx =>
    intro c s W W' row hs hg hr
    obtain ⟨⟨v, e, hb, hst⟩, hB⟩ := hs
    exact ⟨⟨v, e, boxed_own _ _ (fun _ : Unit => _) () W W' row hb hg (fun r e => (hr r e).2), hst⟩, ownFrom_below (Nat.le_refl _) (by omega) () W W' row hB hg hr⟩
  case assign =>
    intro l x W K hK
    generalize l0.getD x.1 0 = v at *
    generalize x.1 = j at *
    gi_wp2
    exact hK
  case body =>
    rintro l pre x W ⟨⟨⟨h0, h1, h2⟩, hB⟩, hpre⟩ _
    have HP := Aside0.mk hpre
    clear hpre
    have hx : x.1 < l0.length := x.2
    have hx1 : x.1 < l1.length := by rw [HL.out]; exact hx
    obtain ⟨ad, e, g0⟩ := Kd.at_int (Kd.C_below HR0.out hB) (x.1 : Int) (by omega) (by omega)
    cases e
    obtain ⟨ad1, e1, g1⟩ := Kd.at_int (Kd.C_below HR1.out hB) (x.1 : Int) (by omega) (by omega)
    cases e1
    have q0 : W.cell? (ad.add x.1) = some (.int .u64 (l0.getD x.1 0)) := by simpa [rd] using g0
    have q1 : W.cell? (ad1.add x.1) = some (.int .u64 (l1.getD x.1 0)) := by simpa [rd] using g1
    clear g0 g1
    obtain ⟨v, hv⟩ : ∃ v, v = cmpI (l0.getD x.1 0) (l1.getD x.1 0) := ⟨_, rfl⟩
    have HCu : ∀ W, Calls Tryd.prog 106 #[.int .u64 (l0.getD x.1 0), .int .u64 (l1.getD x.1 0)] W fun e w' => e = .returned (.int .i64 v) ∧ Drawn0 W w' := fun W => K.cmp_Compare_uint64.calls _ _ v W (by rw [hv]; exact cmpI_u64 _ _)
    have HV := Aside0.mk hv
    clear hv
    obtain ⟨j, hj⟩ : ∃ j : Nat, j = x.1 := ⟨_, rfl⟩
    have HJ := Aside0.mk hj
    rw [← hj] at hx hx1 q0 q1 HCu ⊢
    clear hj
    generalize l0.getD j 0 = p at *
    generalize l1.getD j 0 = q at *
    have g0 := h0.cell
    have g1 := h1.cell
    gi_wp2
    refine Hd.region_round (m := 10) (S := fun w' => w'.cell? ⟨w.heap.size, 0, none⟩ = some (.slice (some ad) l0.length c0) ∧ w'.cell? ⟨w.heap.size + 1, 0, none⟩ = some (.slice (some ad1) l1.length c1) ∧ w'.cell? (ad.add j) = some (.int .u64 p) ∧ w'.cell? (ad1.add j) = some (.int .u64 q)) (ds := []) #[false, false, false, false, false, false, false, false, false, false] (by kernel_rfl) rfl rfl (by kernel_rfl) ⟨g0, g1, q0, q1⟩ (fun hHeld => ?_)
    refine pure_ (i := 1) (N := (some 21)) (v := ?_) (a' := ?_) #[false, true, false, false, false, false, false, false, false, false] rfl rfl (by kernel_rfl) (fun _ _ _ h => absurd h.1 (by intro e; cases e)) (Or.inl ⟨by rfl, ?_⟩) ?_ ?_
    rotate_left
    · intro w'
      go_simp
      with_reducible rfl
    rotate_left
    · simp only [Act.put, List.setIfInBounds_toArray, List.set_cons_zero, List.set_cons_succ]
      rfl
    refine pure_ (i := 5) (N := (some 25)) (v := ?_) (a' := ?_) #[false, true, false, false, false, true, false, false, false, false] rfl rfl (by kernel_rfl) (fun _ _ _ h => absurd h.1 (by intro e; cases e)) (Or.inl ⟨by rfl, ?_⟩) ?_ ?_
    rotate_left
    · intro w'
      go_simp
      with_reducible rfl
    rotate_left
    · simp only [Act.put, List.setIfInBounds_toArray, List.set_cons_zero, List.set_cons_succ]
      rfl
    refine take_ (i := 0) (N := (some 20)) (v := ?_) (a' := ?_) #[true, true, false, false, false, true, false, false, false, false] rfl rfl (by kernel_rfl) (fun _ _ _ h => absurd h.1 (by intro e; cases e)) (Or.inl ⟨by rfl, ?_⟩) hHeld ?_ ?_
    rotate_left
    · intro w' hS
      obtain ⟨s0, s1, s2, s3⟩ := hS; go_simp; (try with_reducible rfl)
    rotate_left
    · simp only [Act.put, List.setIfInBounds_toArray, List.set_cons_zero, List.set_cons_succ]
      rfl
    refine take_ (i := 4) (N := (some 24)) (v := ?_) (a' := ?_) #[true, true, false, false, true, true, false, false, false, false] rfl rfl (by kernel_rfl) (fun _ _ _ h => absurd h.1 (by intro e; cases e)) (Or.inl ⟨by rfl, ?_⟩) hHeld ?_ ?_
    rotate_left
    · intro w' hS
      obtain ⟨s0, s1, s2, s3⟩ := hS; go_simp; (try with_reducible rfl)
    rotate_left
    · simp only [Act.put, List.setIfInBounds_toArray, List.set_cons_zero, List.set_cons_succ]
      rfl
    refine pure_ (i := 2) (N := (some 22)) (v := ?_) (a' := ?_) #[true, true, true, false, true, true, false, false, false, false] rfl rfl (by kernel_rfl) (fun _ _ _ h => absurd h.1 (by intro e; cases e)) (Or.inl ⟨by rfl, ?_⟩) ?_ ?_
    rotate_left
    · intro w'
      go_simp
      with_reducible rfl
    rotate_left
    · simp only [Act.put, List.setIfInBounds_toArray, List.set_cons_zero, List.set_cons_succ]
      rfl
    refine pure_ (i := 6) (N := (some 26)) (v := ?_) (a' := ?_) #[true, true, true, false, true, true, true, false, false, false] rfl rfl (by kernel_rfl) (fun _ _ _ h => absurd h.1 (by intro e; cases e)) (Or.inl ⟨by rfl, ?_⟩) ?_ ?_
    rotate_left
    · intro w'
      go_simp
      with_reducible rfl
    rotate_left
    · simp only [Act.put, List.setIfInBounds_toArray, List.set_cons_zero, List.set_cons_succ]
      rfl
    refine take_ (i := 3) (N := (some 23)) (v := ?_) (a' := ?_) #[true, true, true, true, true, true, true, false, false, false] rfl rfl (by kernel_rfl) (fun _ _ _ h => absurd h.1 (by intro e; cases e)) (Or.inl ⟨by rfl, ?_⟩) hHeld ?_ ?_
    rotate_left
    · intro w' hS
      obtain ⟨s0, s1, s2, s3⟩ := hS; go_simp; (try with_reducible rfl)
    rotate_left
    · simp only [Act.put, List.setIfInBounds_toArray, List.set_cons_zero, List.set_cons_succ]
      rfl
    refine take_ (i := 7) (N := (some 27)) (v := ?_) (a' := ?_) #[true, true, true, true, true, true, true, true, false, false] rfl rfl (by kernel_rfl) (fun _ _ _ h => absurd h.1 (by intro e; cases e)) (Or.inl ⟨by rfl, ?_⟩) hHeld ?_ ?_
    rotate_left
    · intro w' hS
      obtain ⟨s0, s1, s2, s3⟩ := hS; go_simp; (try with_reducible rfl)
    rotate_left
    · simp only [Act.put, List.setIfInBounds_toArray, List.set_cons_zero, List.set_cons_succ]
      rfl
    refine one_ (i := 8) (N := (some 28)) #[true, true, true, true, true, true, true, true, true, false] rfl rfl (by kernel_rfl) (by decide) (fun K hK => ?_)
    rw [if_pos (by rfl)]
    unfold Oper.wp
    go_simp
    refine (HCu _).mono ?_
    rintro e w' ⟨rfl, ⟨n2, rfl⟩⟩
    refine hK.out _ _ ⟨by simpa using g0, by simpa using g1, by simpa using q0, by simpa using q1⟩ (fun hHeld => ?_)
    clear hK K
    refine pure_ (i := 9) (N := (some 7)) (v := ?_) (a' := ?_) #[true, true, true, true, true, true, true, true, true, true] rfl rfl (by kernel_rfl) (fun _ _ _ h => absurd h.1 (by intro e; cases e)) (Or.inl ⟨by rfl, ?_⟩) ?_ ?_
    rotate_left
    · intro w'
      go_simp
      with_reducible rfl
    rotate_left
    · simp only [Act.put, List.setIfInBounds_toArray, List.set_cons_zero, List.set_cons_succ]
      rfl
    refine done_ (by kernel_rfl) ?_

    refine ⟨rfl, ?_⟩
    by_cases hv0 : v = 0
    · have b1 : (v != 0) = false := by rw [hv0]; rfl
      have HV0 := Aside0.mk hv0
      clear hv0
      gi_wp2
      have hh : (W.drewN (1 + n2)).heap = W.heap := by simp
      refine ⟨(⟨by rw [hh]; exact Nat.le_refl _, fun k o hk _ => by rw [hh]; exact hk⟩ : KeepsOthers W (W.drewN (1 + n2))).from _, ⟨pw_below_drewN (Below.refl _ W) (1 + n2), by rw [hh]⟩, ⟨⟨?_, ?_, ?_⟩, pw_below_drewN hB (1 + n2)⟩, ?_⟩
      · show (W.drewN (1 + n2)).heap[_]? = _
        rw [hh]
        exact h0
      · show (W.drewN (1 + n2)).heap[_]? = _
        rw [hh]
        exact h1
      · show (W.drewN (1 + n2)).heap[_]? = _
        rw [hh]
        exact h2
      · intro y hy
        rcases List.mem_append.mp hy with hy | hy
        · exact HP.out y hy
        · simp only [List.mem_singleton] at hy
          subst hy
          rw [← HV.out]
          exact HV0.out
    · have b1 : (v != 0) = true := bne_iff_ne.mpr hv0
      have HV0 := Aside0.mk hv0
      clear hv0
      have f2 := h2.frozen
      have g2 := h2.cell
      gi_wp2
      have hh : (W.drewN (1 + n2)).heap = W.heap := by simp
      have h2' : Boxed (W.drewN (1 + n2)) (w.heap.size + 1 + 1) 3 (.int .i64 0) := by
        show (W.drewN (1 + n2)).heap[_]? = _
        rw [hh]
        exact h2
      refine ⟨((⟨by rw [hh]; exact Nat.le_refl _, fun k o hk _ => by rw [hh]; exact hk⟩ : KeepsOthers W (W.drewN (1 + n2))).trans (KeepsOthers.setCell _ _ _)).from _, ⟨v, rfl, h2'.set _, pre, x, rfl, HP.out, HV.out, HV0.out⟩, (pw_below_drewN hB (1 + n2)).setCell (p := ⟨w.heap.size + 1 + 1, 0, none⟩) (by simp; omega) _⟩
  case done =>
    rintro D ys W hD rfl ⟨⟨⟨h0, h1, h2⟩, hB⟩, hall⟩ hK
    have hz := done_val l0 l1 hall
    have HZ := Aside0.mk hz
    clear hz hall
    have f2 := h2.frozen
    have g2 := h2.cell
    gi_wp2
    have hK' : (W.setCell ⟨w.heap.size + 1 + 1, 0, none⟩ (.int .i64 0)).heap[D]? = some (.deferred (some [])) := (Below.heap_setCell _ _ _ _ (by show _ ≠ _; simp only; omega)).trans hK
    have h3 : Boxed ((W.setCell ⟨w.heap.size + 1 + 1, 0, none⟩ (.int .i64 0)).putObj D (.deferred none)) (w.heap.size + 1 + 1) 3 (.int .i64 0) := (h2.set (.int .i64 0)).kept (grownBy_putObj' _ _ _) (fun e => by cases e; omega)
    refine ⟨by simp, .inl ⟨_, _, rfl, run_takeDeferred hK', ?_⟩⟩
    exact ⟨.int .i64 0, results_cell1 rfl _ _ (w.heap.size + 1 + 1) _ rfl h3.cell, by rw [HZ.out], (hB.setCell (p := ⟨w.heap.size + 1 + 1, 0, none⟩) (by simp; omega) _).trans (belowK_b (w := w) (Nat.le_refl _) _ D _ _ (by omega) hK' rfl rfl)⟩
  case stop =>
    rintro D c pre W hD ⟨k, hk, rfl⟩ ⟨⟨v, rfl, h2, hst⟩, hB⟩ hK
    have hz := stopped_val l0 l1 k hk v hst
    have HZ := Aside0.mk hz
    clear hz hst
    gi_wp2
    have h3 : Boxed (W.putObj D (.deferred none)) (w.heap.size + 1 + 1) 3 (.int .i64 v) := h2.kept (grownBy_putObj' _ _ _) (fun e => by cases e; omega)
    refine ⟨by simp, .inl ⟨_, _, rfl, run_takeDeferred hK, ?_⟩⟩
    exact ⟨.int .i64 v, results_cell1 rfl _ _ (w.heap.size + 1 + 1) _ rfl h3.cell, by rw [HZ.out], hB.trans (belowK_b (w := w) (Nat.le_refl _) W D _ _ (by omega) hK rfl rfl)⟩
theorem compare.calls (A0 : Option Addr) (c0 : Nat) (l0 : List Int) (A1 : Option Addr) (c1 : Nat) (l1 : List Int) (r : Int) (w : World) (hr0 : Kd.C (Kd.int .u64) w A0 l0.length l0) (hc0 : l0.length ≤ c0) (hr1 : Kd.C (Kd.int .u64) w A1 l1.length l1) (hc1 : l1.length ≤ c1) (h : compare.f l0 l1 = some r) :
    Calls Tryd.prog 81 #[.slice A0 l0.length c0, .slice A1 l1.length c1] w fun e w' => e = .returned (.int .i64 r) ∧ Below w.heap.size w w' := by
  simp only [compare.f, Option.some.injEq] at h
  subst h
  by_cases h : cmpI (l0.length : Int) (l1.length : Int) = 0
  · rw [if_pos h]
    exact compare.same A0 A1 c0 c1 l0 l1 w hr0 hr1 h
  · rw [if_neg h]
    exact compare.apart A0 A1 c0 c1 l0 l1 w h
end Go.Proofs.YtdbheoffkfmcpaaDoor.Hd
end
section
/- strconv.FormatUint at base 10, and strings.Builder's copyCheck and WriteString: what they tell. -/
namespace Go.Proofs.YtdbheoffkfmcpaaDoor.Hd
open Go.RowKit Go.Proofs.YtdbheoffkfmcpaaDoorW.PrintWords Go.Proofs.YtdbheoffkfmcpaaDoorW.PrintLast Go.Proofs.YtdbheoffkfmcpaaDoorW.PrintMore Go.Proofs.YtdbheoffkfmcpaaDoor.B Go.Lib Go.Sort
set_option linter.unusedVariables false
set_option linter.unusedSimpArgs false
set_option maxHeartbeats 6400000 in
set_option maxRecDepth 100000 in
theorem fmtU_in (u : Nat) (hu64 : u < 18446744073709551616) (w : World) (hG : GL w) :
    Calls Tryd.prog 118 #[.int .u64 u, .int .i64 10] w fun e w' => e = .returned (.string ⟨(decDigits u).toArray⟩) ∧ Below w.heap.size w w' := by
  have htab := hG.1
  by_cases hs : u < 100
  · have hw : IntKind.i64.wrap (u : Int) = (u : Int) := by rw [IntKind.wrap_i64]; omega
    go_enter Tryd.func118, Tryd.ntmps118
    go_wp2_with (go_at_call 94; refine (Tryd.internal_strconv_small u hs _).mono ?_; rintro e w' ⟨rfl, rfl⟩)
    go_ret
    exact ⟨rfl, Below.refl _ _⟩
  · have hu1 : 1 ≤ u := by omega
    have hnd20 : nDigits u ≤ 20 := by have := numDigits_eq u hu1 hu64; split at this <;> omega
    have hb3 : nDigits u ≤ 24 := by omega
    have hal : Tryd.prog.arrayLen 100 = 24 := by simp [Program.arrayLen, Tryd.underlying100]
    have hsl1 : ∀ W, (Instr.sliceAt 100 (.pointer (some ⟨w.heap.size, 0, none⟩)) none (some (.int .i64 (nDigits u : Int))) none).run Tryd.prog W = .ok (.slice (some ⟨w.heap.size, 0, none⟩) (nDigits u) 24) W := fun W => by
      rw [run_sliceAt_array_h W 100 ⟨w.heap.size, 0, none⟩ (by simp [Program.arrayLen, Program.elem, Tryd.underlying100]) .i64 (nDigits u : Int) (by omega) (by rw [hal]; omega)]
      go_simp
    have hH0 := holds_zero0 w 100 (nDigits u) (by omega)
    have hfmt := Tryd.internal_strconv_formatBase10 w.heap.size 0 24 u (Array.replicate (nDigits u) 0) (w.alloc (.cells zeros24 100)) hH0 (by rw [Array.size_replicate]; exact lt_pow_nDigits u) hu64 (by rw [Array.size_replicate]; omega)
    rw [Array.size_replicate] at hfmt
    have HH0 := hid hH0
    clear hH0 hal
    have hlt : ¬ ((u : Int) < 100) := by omega
    go_enter Tryd.func118, Tryd.ntmps118
    go_wp2_with (first
      | (go_at_call 95; refine (Tryd.internal_strconv_numDigits u hu1 hu64 _ (tabIs_alloc htab _)).mono ?_; rintro e w' ⟨rfl, rfl⟩))
    go_at_call 96
    refine hfmt.mono ?_
    rintro e w' ⟨rfl, k, v', dk, rfl, hF⟩
    have hcv := run_convert_bytes_back (P := Tryd.prog) ((putRow (fun (b : UInt8) => Value.int .u8 (b.toNat : Int)) (w.alloc (.cells zeros24 100)) w.heap.size 0 dk).drewN k) 76 9 5 ⟨w.heap.size, 0, none⟩ 24 (decDigits u) Tryd.underlying76 Tryd.underlying5 Tryd.underlying9 (fun j hj => by
      rw [Go.Lib.add_plain, row_is_numeral hF j hj, World.cell?_drewN]
      exact cell?_putRow (fun (b : UInt8) => Value.int .u8 (b.toNat : Int)) _ w.heap.size 0 _ dk HH0.out (by rw [hF.size, Array.size_replicate]) j (by rw [hF.size]; rw [decDigits_length] at hj; exact hj))
    rw [decDigits_length] at hcv
    go_wp2
    go_ret
    obtain ⟨os, eo⟩ := fin_at w (.cells zeros24 100) dk k 0
    exact ⟨rfl, by rw [eo]; exact below_grown w k os⟩
theorem fmtU (u : Nat) (hu64 : u < 18446744073709551616) (w : World) (hG : GL w) :
    Calls Tryd.prog 91 #[.int .u64 u, .int .i64 10] w fun e w' => e = .returned (.string ⟨(decDigits u).toArray⟩) ∧ Below w.heap.size w w' := by
  go_enter Tryd.func91, Tryd.ntmps91
  go_wp2_with (go_at_call 118; refine (fmtU_in u hu64 _ hG).mono ?_; rintro e w' ⟨rfl, hb⟩)
  go_ret
  exact ⟨rfl, hb⟩
/-! ### strings.Builder: this translation's copyCheck ends otherwise than the shelf's -/
theorem sizeB : (Tryd.prog.info? 92).map (·.size) = some 2 := by kernel_rfl
theorem liesB : liesAt Tryd.prog Tryd.prog.depth 92 (2 / Tryd.prog.cellsOf 92) 0 92 1 = true := by kernel_rfl
set_option maxHeartbeats 1000000 in
set_option maxRecDepth 100000 in
theorem copyCheck_used (b : Nat) (w : World) (h0 : w.cell? ⟨b, 0, none⟩ = some (.pointer (some ⟨b, 0, none⟩))) :
    Calls Tryd.prog 116 #[.pointer (some ⟨b, 0, none⟩)] w fun e w' => e = .returned (.tuple #[]) ∧ w' = w := by
  obtain ⟨j, hj, _⟩ := Option.map_eq_some_iff.1 sizeB
  go_enter Tryd.func116, Tryd.ntmps116
  go_wp2
  rw [Lib.run_neq_ptr_same w _ Tryd.underlying90 hj]
  go_wp2
  go_end0
  exact ⟨rfl, rfl⟩
set_option maxHeartbeats 1000000 in
set_option maxRecDepth 100000 in
theorem copyCheck_fresh (b : Nat) (w : World) (h0 : w.cell? ⟨b, 0, none⟩ = some (.pointer none)) (hsh : w.shape? b = some (92, 2)) (hfz : w.frozen? ⟨b, 0, none⟩ = false) :
    Calls Tryd.prog 116 #[.pointer (some ⟨b, 0, none⟩)] w fun e w' => e = .returned (.tuple #[]) ∧ w' = w.setCell ⟨b, 0, none⟩ (.pointer (some ⟨b, 0, none⟩)) := by
  obtain ⟨j, hj, hjs⟩ := Option.map_eq_some_iff.1 sizeB
  go_enter Tryd.func116, Tryd.ntmps116
  go_wp2
  rw [Lib.run_to_unsafe w ⟨b, 0, none⟩ Tryd.underlying90 Tryd.underlying136 hj (by rw [hjs]; decide) hsh (Nat.zero_lt_succ 1)]
  simp only [Result.andThen]
  rw [Oper.upon_value]
  go_wp2
  rw [run_callFunc_extern Tryd.func138 (by kernel_rfl) (by kernel_rfl) (by kernel_rfl) (e := Extern.AbiNoEscape.same) (by kernel_rfl)]
  rw [Lib.run_noEscape]
  simp only [Result.andThen]
  rw [Oper.upon_value]
  go_wp2
  rw [Lib.run_from_unsafe w ⟨b, 0, none⟩ Tryd.underlying136 Tryd.underlying90 hj hsh liesB]
  simp only [Result.andThen]
  rw [Oper.upon_value]
  go_wp2
  go_end0
  exact ⟨rfl, rfl⟩
theorem copyCheck_k (B b : Nat) (bs : List Value) (w : World) (h : Lib.IsBuilderF 92 5 B b bs w) :
    Calls Tryd.prog 116 #[.pointer (some ⟨b, 0, none⟩)] w fun e w' => e = .returned (.tuple #[]) ∧ (Lib.BuilderAtF 92 5 B b (.pointer (some ⟨b, 0, none⟩)) bs w' ∧ Below B w w' ∧ Lib.OthersKept 5 (some b) w w') := by
  rcases h with h | h
  · refine (copyCheck_fresh b w h.cell0 h.shape h.frozen0).mono ?_
    rintro e w' ⟨rfl, rfl⟩
    exact ⟨rfl, h.used _, (Below.refl B w).setCell (p := ⟨b, 0, none⟩) h.1 _, (Lib.OthersKept.refl _ _ w).setCell ⟨b, 0, none⟩ rfl _⟩
  · refine (copyCheck_used b w h.cell0).mono ?_
    rintro e w' ⟨rfl, rfl⟩
    exact ⟨rfl, h, Below.refl B _, Lib.OthersKept.refl _ _ _⟩
set_option maxHeartbeats 2000000 in
set_option maxRecDepth 100000 in
theorem writeString_k (B b : Nat) (bs : List Value) (s : ByteArray) (w : World) (h : Lib.IsBuilderF 92 5 B b bs w) (hlen : bs.length + s.size ≤ 140737488355328) (hBw : B ≤ w.heap.size) :
    Calls Tryd.prog 89 #[.pointer (some ⟨b, 0, none⟩), .string s] w fun e w' => e = .returned (.tuple #[.int .i64 s.size, .nilIface]) ∧ (Lib.BuilderAtF 92 5 B b (.pointer (some ⟨b, 0, none⟩)) (bs ++ Lib.strCells s) w' ∧ Below B w w' ∧ Lib.OthersKept 5 (some b) w w') := by
  obtain ⟨i0, hi, hz0, hz1, hz2⟩ := info_parts info5
  go_enter Tryd.func89, Tryd.ntmps89
  go_wp2_with (go_at_call 116; refine (copyCheck_k B b bs _ h).mono ?_)
  rintro e w1 ⟨rfl, h1, hb1, hk1⟩
  obtain ⟨hB, v, hbk, hown, hne⟩ := h1
  have c0 : w1.cell? ⟨b, 0, none⟩ = some (.pointer (some ⟨b, 0, none⟩)) := by rw [Lib.cell_of_heap hbk]; rfl
  have c1 : w1.cell? ⟨b, 1, none⟩ = some v := by rw [Lib.cell_of_heap hbk]; rfl
  go_wp2_with (at_builtin; refine Lib.wpList_append_own_stringF _ rfl _ _ 76 9 rfl B 5 i0 Tryd.underlying76 Tryd.underlying9 hi hz0 hz1 hz2 _ _ _ rfl hown s rfl ?c3 ?c4 ?c5 ?_)
  case c3 => unfold maxLen; omega
  case c4 => omega
  case c5 => have := hb1.size; omega
  intro v' w2 hown' hgrow _
  have hlt : b < w1.heap.size := by
    rcases Nat.lt_or_ge b w1.heap.size with h' | h'
    · exact h'
    · simp [Array.getElem?_eq_none h'] at hbk
  have hb2 : w2.heap[b]? = some (.cells #[.pointer (some ⟨b, 0, none⟩), v] 92 (0, 0)) := by
    rw [hgrow.block b hlt (fun e => hne e.symm)]
    exact hbk
  have d0 : w2.cell? ⟨b, 0, none⟩ = some (.pointer (some ⟨b, 0, none⟩)) := by rw [Lib.cell_of_heap hb2]; rfl
  have d1 : w2.cell? ⟨b, 1, none⟩ = some v := by rw [Lib.cell_of_heap hb2]; rfl
  have f1 : w2.frozen? ⟨b, 1, none⟩ = false := Lib.frozen_of_heap hb2 1
  obtain ⟨ao, n', cap, rfl⟩ : ∃ ao n' cap, v' = .slice ao n' cap := by
    rcases hown'.2 with ⟨hv, _⟩ | ⟨g, cap, cur, fz, hv, _⟩
    · exact ⟨_, _, _, hv⟩
    · exact ⟨_, _, _, hv⟩
  go_wp2
  go_ret2
  refine ⟨rfl, ?_, ?_, (hk1.grown hgrow (Lib.ownsRowF_kind hown)).setCell ⟨b, 1, none⟩ rfl _⟩
  · exact Lib.BuilderAtF.put (T := 92) (e := 5) hB hb2 (bs' := bs ++ Lib.strCells s) (by simpa [Lib.strCells_length] using hown') (by decide)
  · exact (hb1.grown hgrow (by have := hb1.size; omega) (fun k hk => (hown.lt k hk).1)).setCell (p := ⟨b, 1, none⟩) hB _
end Go.Proofs.YtdbheoffkfmcpaaDoor.Hd
end
section
/- whole.text: a number as a text, at every number whose parts have nine figures at most. -/
namespace Go.Proofs.YtdbheoffkfmcpaaDoor.Hd
open Go.RowKit Go.Proofs.YtdbheoffkfmcpaaDoorW.PrintWords Go.Proofs.YtdbheoffkfmcpaaDoorW.PrintLast Go.Proofs.YtdbheoffkfmcpaaDoorW.PrintMore Go.Proofs.YtdbheoffkfmcpaaDoor.B Go.Lib Go.Shelf
attribute [local go_sem] Oper.semAt_some
set_option linter.unusedVariables false
set_option linter.unusedSimpArgs false
/-- the text of part i -/
def chunk (l0 : List Int) (i : Fin l0.length) : List UInt8 := if i.1 < l0.length - 1 then List.replicate (9 - (decDigits (l0.getD i.1 0).toNat).length) 48 ++ decDigits (l0.getD i.1 0).toNat else decDigits (l0.getD i.1 0).toNat
def wtext.f (l0 : List Int) (a1 : Bool) : Option ByteArray :=
  if l0 = [] then some ⟨#[48]⟩ else if (∀ x ∈ l0, 0 ≤ x ∧ x < 1000000000) ∧ l0.length ≤ 1000000 then some ⟨((if a1 = true then [45] else []) ++ (bk l0.length l0.length).flatMap (chunk l0)).toArray⟩ else none
theorem bf_keep {T e : TypeId} {Bs b : Nat} {bs : List Value} {W W' : World} (h : IsBuilderF T e Bs b bs W) (hk : ∀ (k : Nat) (o : Obj), W.heap[k]? = some o → o.isCells = true → W'.heap[k]? = some o) : IsBuilderF T e Bs b bs W' := by
  have one : ∀ p, BuilderAtF T e Bs b p bs W → BuilderAtF T e Bs b p bs W' := by
    rintro p ⟨hB, v, hb, hown, hne⟩
    refine ⟨hB, v, hk _ _ hb rfl, ⟨hown.1, ?_⟩, hne⟩
    rcases hown.2 with h | ⟨g, cap, cur, fz, hv, hb', hg, rest⟩
    · exact .inl h
    · exact .inr ⟨g, cap, cur, fz, hv, hb', hk _ _ hg rfl, rest⟩
  rcases h with h | h
  · exact .inl (one _ h)
  · exact .inr (one _ h)
theorem bf_below {T e : TypeId} {Bs b : Nat} {bs : List Value} {W W' : World} (h : IsBuilderF T e Bs b bs W) (hb : Below W.heap.size W W') : IsBuilderF T e Bs b bs W' :=
  bf_keep h (fun k o hk _ => (hb.block k (Array.getElem?_eq_some_iff.1 hk).1).trans hk)
theorem dec9 (x : Int) (h0 : 0 ≤ x) (h1 : x < 1000000000) : (decDigits x.toNat).length ≤ 9 := by
  rw [decDigits_length]
  have h : ∀ (k u : Nat), u < 10 ^ (k + 1) → nDigits u ≤ k + 1 := by
    intro k
    induction k with
    | zero => intro u hu; rw [nDigits_small (by simpa using hu)]; exact Nat.le_refl _
    | succ k ih =>
      intro u hu
      by_cases h10 : u < 10
      · rw [nDigits_small h10]; omega
      · rw [nDigits_big h10]
        have := ih (u / 10) (by rw [Nat.pow_succ] at hu; omega)
        omega
  exact h 8 _ (by omega)
theorem repeat48 (c : Nat) : repeatL [48] c = List.replicate c 48 := by
  induction c with
  | zero => rfl
  | succ c ih => simp [repeatL, List.replicate_succ, ih]
set_option maxHeartbeats 1000000 in
theorem wtext.zero (A0 : Option Addr) (c0 : Nat) (l0 : List Int) (a1 : Bool) (w : World) (h : l0 = []) :
    Calls Tryd.prog 66 #[.agg #[.slice A0 l0.length c0, .bool a1]] w fun e w' => e = .returned (.string ⟨#[48]⟩) ∧ Below w.heap.size w w' := by
  subst h
  go_enter Tryd.func66, Tryd.ntmps66
  go_wp2
  go_ret
  exact ⟨rfl, (Below.refl _ w).alloc (Nat.le_refl _) _⟩
theorem chunk_len (l0 : List Int) (hp : ∀ x ∈ l0, 0 ≤ x ∧ x < 1000000000) (i : Fin l0.length) : (chunk l0 i).length ≤ 9 := by
  have hm : l0.getD i.1 0 ∈ l0 := by simp [List.getD, List.getElem?_eq_getElem i.2]
  have := dec9 _ (hp _ hm).1 (hp _ hm).2
  unfold chunk
  split
  · rw [List.length_append, List.length_replicate]; omega
  · exact this
theorem chunks_len (l0 : List Int) (hp : ∀ x ∈ l0, 0 ≤ x ∧ x < 1000000000) (pre : List (Fin l0.length)) : (pre.flatMap (chunk l0)).length ≤ 9 * pre.length := by
  induction pre with
  | nil => simp
  | cons x r ih =>
    rw [List.flatMap_cons, List.length_append, List.length_cons]
    have := chunk_len l0 hp x
    omega
theorem keeps_of {W W2 W3 : World} {e : TypeId} {b : Nat} {c : Array Value} {t : TypeId} {fz : Nat × Nat} (hb : Below W.heap.size W W2) (hk : OthersKept e (some b) W2 W3) (hbc : W2.heap[b]? = some (.cells c t fz)) (hs : W2.heap.size ≤ W3.heap.size) : KeepsOthers W W3 :=
  ⟨Nat.le_trans hb.size hs, fun k o ho hc => hk k o ((hb.block k (Array.getElem?_eq_some_iff.1 ho).1).trans ho) (fun e => by
      cases e
      have h1 := (hb.block b (Array.getElem?_eq_some_iff.1 ho).1).trans ho
      rw [hbc] at h1
      cases h1
      cases hc) (fun c' fz' e => by subst e; cases hc)⟩
set_option maxHeartbeats 4000000 in
set_option maxRecDepth 100000 in
theorem wtext.some_false (A0 : Option Addr) (c0 : Nat) (l0 : List Int) (w : World) (hr0 : Kd.C (Kd.int .u64) w A0 l0.length l0) (hG : GL w) (hne : l0 ≠ []) (hp : ∀ x ∈ l0, 0 ≤ x ∧ x < 1000000000) (hl : l0.length ≤ 1000000) :
    Calls Tryd.prog 66 #[.agg #[.slice A0 l0.length c0, .bool false]] w fun e w' => e = .returned (.string ⟨([] ++ (bk l0.length l0.length).flatMap (chunk l0)).toArray⟩) ∧ Below w.heap.size w w' := by
  have HR0 := Aside0.mk hr0
  have HP := Aside0.mk hp
  have HG := Aside0.mk hG
  clear hr0 hp hG
  have hpos : 0 < l0.length := List.length_pos_iff.mpr hne
  have h0 : ((l0.length : Int) == 0) = false := beq_eq_false_iff_ne.mpr (by omega)
  clear hne
  refine (callsIn_wide (n := 6)).1 ?_
  have hro : Fence.wide.round = none := rfl
  refine callsIn_of_wp_marks Tryd.func66 rfl trivial ?_ hro
  simp only [Tryd.ntmps66, List.size_toArray, List.length_cons, List.length_nil, Nat.reduceAdd, Nat.reduceSub, Array.replicate_succ, Array.replicate_zero, List.push_toArray, List.append_toArray, List.nil_append, List.cons_append]
  gi_wp2_with (first
    | (refine ⟨trivial, ?_⟩; gi_at_call 90; refine (back_in Fence.wide _ trivial rfl _ _ _ _).mono ?_; rintro e w' ⟨rfl, rfl⟩))
  obtain ⟨W0, hW0⟩ : ∃ W0, W0 = (((w.alloc (.cells #[.slice A0 l0.length c0, .bool false] 61)).alloc (.cells #[.pointer none, .slice none 0 0] 92)).alloc (.cells #[.slice A0 l0.length c0] 59) : World) := ⟨_, rfl⟩
  have hsz : W0.heap.size = w.heap.size + 3 := by rw [hW0]; simp
  have hB0 : Below w.heap.size w W0 := by
    rw [hW0]
    exact (((Below.refl _ w).alloc (Nat.le_refl _) _).alloc (by simp) _).alloc (by simp; omega) _
  have b0 : W0.heap[w.heap.size]? = some (.cells #[.slice A0 l0.length c0, .bool false] 61 (0, 0)) := by
    rw [hW0, heap_alloc_old _ _ (by simp <;> omega), heap_alloc_old _ _ (by simp), heap_alloc_new]
  have bB0 : W0.heap[w.heap.size + 1]? = some (.cells #[.pointer none, .slice none 0 0] 92 (0, 0)) := by
    rw [hW0, heap_alloc_old _ _ (by simp <;> omega)]
    have := heap_alloc_new (w.alloc (.cells #[.slice A0 l0.length c0, .bool false] 61)) (.cells #[.pointer none, .slice none 0 0] 92)
    rwa [World.size_alloc] at this
  have bB : IsBuilderF 92 5 w.heap.size (w.heap.size + 1) (byteCells ([] ++ ([] : List (Fin l0.length)).flatMap (chunk l0))) W0 := .inl ⟨by omega, .slice none 0 0, bB0, World.ownsRowF_nil _ _ _ _, by simp [Value.ownBlock]⟩
  have b3 : Boxed W0 (w.heap.size + 1 + 1) 59 (.slice A0 l0.length c0) := by
    rw [hW0]
    have e := Boxed.new ((w.alloc (.cells #[.slice A0 l0.length c0, .bool false] 61)).alloc (.cells #[.pointer none, .slice none 0 0] 92)) 59 (.slice A0 l0.length c0)
    rw [show ((w.alloc (.cells #[.slice A0 l0.length c0, .bool false] 61)).alloc (.cells #[.pointer none, .slice none 0 0] 92)).heap.size = w.heap.size + 1 + 1 from by simp] at e
    exact e
  rw [← hW0]
  clear hW0
  refine wpIn_rangeFunc_ownG hro (by omega) (gf := 117) (lb := #[.pointer (some ⟨(w.heap.size + 1 + 1), 0, none⟩)]) rfl trivial (enters_of Tryd.func117 (by kernel_rfl) rfl)
    (back_stops Fence.wide 5 trivial hro (by omega) (w.heap.size + 1 + 1) w.heap.size A0 c0 l0 w W0 rfl HR0.out hB0 b3) Kb.t (Kb.b (by omega) (by omega)) (Below.refl _ _) (fun _ => rfl)
    (fun pre W => ((W.heap[w.heap.size]? = some (.cells #[.slice A0 l0.length c0, .bool false] 61 (0, 0)) ∧ Boxed W (w.heap.size + 1 + 1) 59 (.slice A0 l0.length c0)) ∧ IsBuilderF 92 5 w.heap.size (w.heap.size + 1) (byteCells ([] ++ pre.flatMap (chunk l0))) W) ∧ Below w.heap.size w W)
    (fun _ _ _ => False)
    ?hI (fun _ _ _ _ _ hs _ _ => hs) ⟨⟨⟨b0, b3⟩, bB⟩, hB0⟩
    (fun x => { tmps := #[.agg #[.slice A0 l0.length c0, .bool false], .pointer (some ⟨w.heap.size, 0, none⟩), .string ⟨#[]⟩, .pointer (some ⟨w.heap.size + 1, 0, none⟩), (.int .i64 ((x.1 : Nat) : Int)), (.int .u64 (l0.getD x.1 0)), undef, .pointer (some ⟨w.heap.size, 0, none⟩), .slice A0 l0.length c0, .int .i64 (l0.length : Int), .bool false, .pointer (some ⟨w.heap.size, 1, none⟩), .bool false, undef, .pointer (some ⟨w.heap.size, 0, none⟩), .slice A0 l0.length c0, .func (.func 117) #[] #[.pointer (some ⟨(w.heap.size + 1 + 1), 0, none⟩)], (.int .i64 ((x.1 : Nat) : Int)), (.int .u64 (l0.getD x.1 0)), undef, undef, undef, undef, undef, undef, undef, undef, undef, undef, undef, undef, undef, undef, undef, undef, undef], defers := [] }) ?assign ?body ?done ?stop
  case hI =>
    intro s W W' row hs hg hr
    refine ⟨⟨⟨blk_kept hs.1.1.1 hg (fun r e => (hr r e).2), boxed_own _ _ (fun _ : Unit => _) () W W' row hs.1.1.2 hg (fun r e => (hr r e).2)⟩, bf_keep hs.1.2 (fun k o hk hc => (hg.block k (Array.getElem?_eq_some_iff.1 hk).1 (fun e => ?_)).trans hk)⟩, ownFrom_below (Nat.le_refl _) (by omega) () W W' row hs.2 hg hr⟩
    obtain ⟨_, o', ho', hc'⟩ := hr k e.symm
    rw [hk] at ho'
    cases ho'
    rw [hc] at hc'
    cases hc'
  case assign =>
    intro l x W K hK
    generalize l0.getD x.1 0 = v at *
    generalize x.1 = j at *
    gi_wp2
    exact hK
  case body =>
    rintro l pre x W ⟨⟨⟨h1, h2⟩, h3⟩, hB⟩ hpl
    have hm : l0.getD x.1 0 ∈ l0 := by simp [List.getD, List.getElem?_eq_getElem x.2]
    have hpx := HP.out _ hm
    obtain ⟨u, hu⟩ : ∃ u : Nat, u = (l0.getD x.1 0).toNat := ⟨_, rfl⟩
    have hux : l0.getD x.1 0 = (u : Int) := by omega
    have hu9 : u < 1000000000 := by omega
    have hd9 : (decDigits u).length ≤ 9 := by rw [hu]; exact dec9 _ hpx.1 hpx.2
    have hGW : GL W := HG.out.below hB
    have hcl := chunks_len l0 HP.out pre
    have hchunk : chunk l0 x = if x.1 < l0.length - 1 then List.replicate (9 - (decDigits u).length) 48 ++ decDigits u else decDigits u := by unfold chunk; rw [← hu]
    have HCH := Aside0.mk hchunk
    obtain ⟨j, hj⟩ : ∃ j : Nat, j = x.1 := ⟨_, rfl⟩
    have hjl : j < l0.length := by rw [hj]; exact x.2
    rw [hux, ← hj]
    rw [← hj] at hchunk
    have HC2 := Aside0.mk hchunk
    clear hm hpx hu hux hchunk hj
    have HF := Aside0.mk (fmtU u (by omega) W hGW)
    have hwr : IntKind.i64.wrap ((l0.length : Int) - 1) = (l0.length : Int) - 1 := by rw [IntKind.wrap_i64]; omega
    have hwlt := (Array.getElem?_eq_some_iff.1 h1).1
    by_cases hjn : j < l0.length - 1
    · have d1 : decide ((j : Int) < (l0.length : Int) - 1) = true := decide_eq_true (by omega)
      have d2 : ((j : Int) < (l0.length : Int) - 1) := by omega
      have HC3 := Aside0.mk (HC2.out.trans (if_pos hjn))
      have HRep := Aside0.mk (fun (V : World) => show Calls Tryd.prog 92 #[.string ⟨#[48]⟩, .int .i64 (9 - ((decDigits u).length : Int))] V (fun e w' => e = .returned (.string ⟨(List.replicate (9 - (decDigits u).length) 48).toArray⟩) ∧ Below V.heap.size V w') from by
        have h := Tryd.strings_Repeat ⟨#[48]⟩ (9 - (decDigits u).length) V (by omega) (by show 1 * _ ≤ _; omega)
        rw [show ((9 - (decDigits u).length : Nat) : Int) = 9 - ((decDigits u).length : Int) by omega, show (⟨#[48]⟩ : ByteArray).data.toList = [48] from rfl, repeat48] at h
        exact h)
      gi_wp2_with (first | (refine ⟨trivial, ?_⟩; gi_at_call 91; refine (CallsIn.inRound l (callsIn_wide.2 HF.out)).mono ?_; rintro e W1 ⟨rfl, hb1⟩; have q1 : W1.heap[w.heap.size]? = some (.cells #[.slice A0 l0.length c0, .bool false] 61 (0, 0)) := (hb1.block _ hwlt).trans h1; have g1 : W1.cell? ⟨w.heap.size, 0, none⟩ = some (.slice A0 l0.length c0) := by rw [Lib.cell_of_heap q1]; rfl) | (refine ⟨trivial, ?_⟩; gi_at_call 92; refine (CallsIn.inRound l (callsIn_wide.2 (HRep.out _))).mono ?_; rintro e W2 ⟨rfl, hb2⟩))
      have hW2 : Below W.heap.size W W2 := hb1.trans (hb2.mono hb1.size)
      have hs : ({ data := Array.replicate (9 - (decDigits u).length) 48 } ++ { data := (decDigits u).toArray } : ByteArray) = ⟨(chunk l0 x).toArray⟩ := by
        rw [HC3.out]
        apply ByteArray.ext
        simp
      rw [hs]
      have hbf := bf_below h3 hW2
      have hbk : ∃ c, W2.heap[w.heap.size + 1]? = some (.cells c 92 (0, 0)) := by
        rcases hbf with ⟨_, v, hb, _⟩ | ⟨_, v, hb, _⟩
        · exact ⟨_, hb⟩
        · exact ⟨_, hb⟩
      obtain ⟨cb, hbk⟩ := hbk
      have hch := chunk_len l0 HP.out x
      refine ⟨trivial, ?_⟩
      refine (CallsIn.inRound l (callsIn_wide.2 (writeString_k w.heap.size (w.heap.size + 1) _ _ W2 hbf (by rw [byteCells_length, List.length_append]; show _ + (chunk l0 x).toArray.size ≤ _; rw [List.size_toArray]; simp only [List.length_cons, List.length_nil]; omega) (Nat.le_trans hB.size hW2.size)))).mono ?_
      rintro e W3 ⟨rfl, h4, hb4, hk4⟩
      have hb5 : Below w.heap.size W W3 := (hW2.mono hB.size).trans hb4
      have k1 : W3.heap[w.heap.size]? = some (.cells #[.slice A0 l0.length c0, .bool false] 61 (0, 0)) := hk4 _ _ ((hW2.block _ hwlt).trans h1) (fun e => by have := Option.some.inj e; omega) (fun c fz e => by cases e)
      have k2 : W3.heap[(w.heap.size + 1 + 1)]? = some (.cells #[.slice A0 l0.length c0] 59 (0, 0)) := hk4 _ _ ((hW2.block _ h2.lt).trans h2) (fun e => by have := Option.some.inj e; omega) (fun c fz e => by cases e)
      have hbytes : byteCells ([] ++ (pre ++ [x]).flatMap (chunk l0)) = byteCells ([] ++ pre.flatMap (chunk l0)) ++ strCells ⟨(chunk l0 x).toArray⟩ := by
        rw [List.flatMap_append, ← List.append_assoc, byteCells_append]
        first | done | simp [strCells, byteCells]
      gi_wp2
      refine ⟨(keeps_of hW2 hk4 hbk hb4.size).from _, ⟨hb5, k2.trans h2.symm⟩, ⟨⟨⟨k1, k2⟩, ?_⟩, hB.trans hb5⟩⟩
      rw [hbytes]
      exact .inr h4
    · have d1 : decide ((j : Int) < (l0.length : Int) - 1) = false := decide_eq_false (by omega)
      have HC3 := Aside0.mk (HC2.out.trans (if_neg hjn))
      gi_wp2_with (first | (refine ⟨trivial, ?_⟩; gi_at_call 91; refine (CallsIn.inRound l (callsIn_wide.2 HF.out)).mono ?_; rintro e W1 ⟨rfl, hb1⟩; have q1 : W1.heap[w.heap.size]? = some (.cells #[.slice A0 l0.length c0, .bool false] 61 (0, 0)) := (hb1.block _ hwlt).trans h1; have g1 : W1.cell? ⟨w.heap.size, 0, none⟩ = some (.slice A0 l0.length c0) := by rw [Lib.cell_of_heap q1]; rfl))
      have hW2 : Below W.heap.size W W1 := hb1
      have hs : ({ data := (decDigits u).toArray } : ByteArray) = ⟨(chunk l0 x).toArray⟩ := by
        rw [HC3.out]
      rw [hs]
      have hbf := bf_below h3 hW2
      have hbk : ∃ c, W1.heap[w.heap.size + 1]? = some (.cells c 92 (0, 0)) := by
        rcases hbf with ⟨_, v, hb, _⟩ | ⟨_, v, hb, _⟩
        · exact ⟨_, hb⟩
        · exact ⟨_, hb⟩
      obtain ⟨cb, hbk⟩ := hbk
      have hch := chunk_len l0 HP.out x
      refine ⟨trivial, ?_⟩
      refine (CallsIn.inRound l (callsIn_wide.2 (writeString_k w.heap.size (w.heap.size + 1) _ _ W1 hbf (by rw [byteCells_length, List.length_append]; show _ + (chunk l0 x).toArray.size ≤ _; rw [List.size_toArray]; simp only [List.length_cons, List.length_nil]; omega) (Nat.le_trans hB.size hW2.size)))).mono ?_
      rintro e W3 ⟨rfl, h4, hb4, hk4⟩
      have hb5 : Below w.heap.size W W3 := (hW2.mono hB.size).trans hb4
      have k1 : W3.heap[w.heap.size]? = some (.cells #[.slice A0 l0.length c0, .bool false] 61 (0, 0)) := hk4 _ _ ((hW2.block _ hwlt).trans h1) (fun e => by have := Option.some.inj e; omega) (fun c fz e => by cases e)
      have k2 : W3.heap[(w.heap.size + 1 + 1)]? = some (.cells #[.slice A0 l0.length c0] 59 (0, 0)) := hk4 _ _ ((hW2.block _ h2.lt).trans h2) (fun e => by have := Option.some.inj e; omega) (fun c fz e => by cases e)
      have hbytes : byteCells ([] ++ (pre ++ [x]).flatMap (chunk l0)) = byteCells ([] ++ pre.flatMap (chunk l0)) ++ strCells ⟨(chunk l0 x).toArray⟩ := by
        rw [List.flatMap_append, ← List.append_assoc, byteCells_append]
        first | done | simp [strCells, byteCells]
      gi_wp2
      refine ⟨(keeps_of hW2 hk4 hbk hb4.size).from _, ⟨hb5, k2.trans h2.symm⟩, ⟨⟨⟨k1, k2⟩, ?_⟩, hB.trans hb5⟩⟩
      rw [hbytes]
      exact .inr h4
  case done =>
    rintro D ys W hD rfl ⟨⟨⟨h1, h2⟩, h3⟩, hB⟩ hK
    have HS := Aside0.mk (Tryd.Builder_String_any_k w.heap.size (w.heap.size + 1) _ W h3 hB.size)
    gi_wp2_with (refine ⟨trivial, ?_⟩; gi_at_call 93; refine (callsIn_wide.2 HS.out).mono ?_; rintro e W4 ⟨rfl, _, hb4, hk4⟩)
    have hbk : ∃ c, W.heap[w.heap.size + 1]? = some (.cells c 92 (0, 0)) := by
      rcases h3 with ⟨_, v, hb, _⟩ | ⟨_, v, hb, _⟩
      · exact ⟨_, hb⟩
      · exact ⟨_, hb⟩
    obtain ⟨cb, hbk⟩ := hbk
    have hK4 : W4.heap[D]? = some (.deferred (some [])) := hk4 _ _ hK (fun e => by have e1 := Option.some.inj e; rw [e1, hbk] at hK; cases hK) (fun c fz e => by cases e)
    refine ⟨by simp, .inl ⟨_, _, rfl, run_takeDeferred hK4, ?_⟩⟩
    exact ⟨_, by simp [results, Tryd.f66, go_sem], rfl, (hB.trans hb4).trans (belowK_b (w := w) (Nat.le_refl _) W4 D _ _ (by omega) hK4 rfl rfl)⟩
  case stop =>
    rintro D c pre W _ _ h _
    exact h.elim
set_option maxHeartbeats 4000000 in
set_option maxRecDepth 100000 in
theorem wtext.some_true (A0 : Option Addr) (c0 : Nat) (l0 : List Int) (w : World) (hr0 : Kd.C (Kd.int .u64) w A0 l0.length l0) (hG : GL w) (hne : l0 ≠ []) (hp : ∀ x ∈ l0, 0 ≤ x ∧ x < 1000000000) (hl : l0.length ≤ 1000000) :
    Calls Tryd.prog 66 #[.agg #[.slice A0 l0.length c0, .bool true]] w fun e w' => e = .returned (.string ⟨([45] ++ (bk l0.length l0.length).flatMap (chunk l0)).toArray⟩) ∧ Below w.heap.size w w' := by
  have HR0 := Aside0.mk hr0
  have HP := Aside0.mk hp
  have HG := Aside0.mk hG
  clear hr0 hp hG
  have hpos : 0 < l0.length := List.length_pos_iff.mpr hne
  have h0 : ((l0.length : Int) == 0) = false := beq_eq_false_iff_ne.mpr (by omega)
  clear hne
  refine (callsIn_wide (n := 6)).1 ?_
  have hro : Fence.wide.round = none := rfl
  refine callsIn_of_wp_marks Tryd.func66 rfl trivial ?_ hro
  simp only [Tryd.ntmps66, List.size_toArray, List.length_cons, List.length_nil, Nat.reduceAdd, Nat.reduceSub, Array.replicate_succ, Array.replicate_zero, List.push_toArray, List.append_toArray, List.nil_append, List.cons_append]
  obtain ⟨V0, hV0⟩ : ∃ V0, V0 = ((w.alloc (.cells #[.slice A0 l0.length c0, .bool true] 61)).alloc (.cells #[.pointer none, .slice none 0 0] 92) : World) := ⟨_, rfl⟩
  have hsz : V0.heap.size = w.heap.size + 2 := by rw [hV0]; simp
  have hB0 : Below w.heap.size w V0 := by
    rw [hV0]
    exact ((Below.refl _ w).alloc (Nat.le_refl _) _).alloc (by simp) _
  have v0 : V0.heap[w.heap.size]? = some (.cells #[.slice A0 l0.length c0, .bool true] 61 (0, 0)) := by
    rw [hV0, heap_alloc_old _ _ (by simp), heap_alloc_new]
  have vB0 : V0.heap[w.heap.size + 1]? = some (.cells #[.pointer none, .slice none 0 0] 92 (0, 0)) := by
    rw [hV0]
    have := heap_alloc_new (w.alloc (.cells #[.slice A0 l0.length c0, .bool true] 61)) (.cells #[.pointer none, .slice none 0 0] 92)
    rwa [World.size_alloc] at this
  have vB : IsBuilderF 92 5 w.heap.size (w.heap.size + 1) [] V0 := .inl ⟨by omega, .slice none 0 0, vB0, World.ownsRowF_nil _ _ _ _, by simp [Value.ownBlock]⟩
  have HW := Aside0.mk (writeString_k w.heap.size (w.heap.size + 1) [] ⟨#[45]⟩ V0 vB (by decide) (by omega))
  rw [hV0] at HW
  gi_wp2_with (first
    | (refine ⟨trivial, ?_⟩; gi_at_call 89; refine (callsIn_wide.2 HW.out).mono ?_; rintro e V1 ⟨rfl, h4, hb4, hk4⟩; have q1 : V1.heap[w.heap.size]? = some (.cells #[.slice A0 l0.length c0, .bool true] 61 (0, 0)) := hk4 _ _ (hV0 ▸ v0) (fun e => by have := Option.some.inj e; omega) (fun c fz e => by cases e); have g1 : V1.cell? ⟨w.heap.size, 0, none⟩ = some (.slice A0 l0.length c0) := by rw [Lib.cell_of_heap q1]; rfl)
    | (refine ⟨trivial, ?_⟩; gi_at_call 90; refine (back_in Fence.wide _ trivial rfl _ _ _ _).mono ?_; rintro e w' ⟨rfl, rfl⟩))
  rw [← hV0] at hb4 hk4
  have hV1 : w.heap.size + 2 ≤ V1.heap.size := by have := hb4.size; omega
  obtain ⟨W0, hW0⟩ : ∃ W0, W0 = (V1.alloc (.cells #[.slice A0 l0.length c0] 59) : World) := ⟨_, rfl⟩
  obtain ⟨Q, hQ⟩ : ∃ Q, Q = V1.heap.size := ⟨_, rfl⟩
  have hsz0 : W0.heap.size = Q + 1 := by rw [hW0, hQ]; simp
  have hB1 : Below w.heap.size w W0 := by
    rw [hW0]
    exact (hB0.trans hb4).alloc (by omega) _
  have b0 : W0.heap[w.heap.size]? = some (.cells #[.slice A0 l0.length c0, .bool true] 61 (0, 0)) := by
    rw [hW0, heap_alloc_old _ _ (by omega)]
    exact q1
  have bB : IsBuilderF 92 5 w.heap.size (w.heap.size + 1) (byteCells ([45] ++ ([] : List (Fin l0.length)).flatMap (chunk l0))) W0 := by
    rw [hW0]
    exact IsBuilderF.alloc (.inr h4) _
  have b3 : Boxed W0 Q 59 (.slice A0 l0.length c0) := by
    rw [hW0, hQ]
    exact Boxed.new _ _ _
  rw [← hW0]
  rw [← hQ] at hV1 ⊢
  clear hW0 hB0 hsz hQ
  have hB0 := hB1
  have hsz : W0.heap.size = Q + 1 := hsz0
  refine wpIn_rangeFunc_ownG hro (by omega) (gf := 117) (lb := #[.pointer (some ⟨Q, 0, none⟩)]) rfl trivial (enters_of Tryd.func117 (by kernel_rfl) rfl)
    (back_stops Fence.wide 5 trivial hro (by omega) Q w.heap.size A0 c0 l0 w W0 rfl HR0.out hB0 b3) Kb.t (Kb.b (by omega) (by omega)) (Below.refl _ _) (fun _ => rfl)
    (fun pre W => ((W.heap[w.heap.size]? = some (.cells #[.slice A0 l0.length c0, .bool true] 61 (0, 0)) ∧ Boxed W Q 59 (.slice A0 l0.length c0)) ∧ IsBuilderF 92 5 w.heap.size (w.heap.size + 1) (byteCells ([45] ++ pre.flatMap (chunk l0))) W) ∧ Below w.heap.size w W)
    (fun _ _ _ => False)
    ?hI (fun _ _ _ _ _ hs _ _ => hs) ⟨⟨⟨b0, b3⟩, bB⟩, hB0⟩
    (fun x => { tmps := #[.agg #[.slice A0 l0.length c0, .bool true], .pointer (some ⟨w.heap.size, 0, none⟩), .string ⟨#[]⟩, .pointer (some ⟨w.heap.size + 1, 0, none⟩), (.int .i64 ((x.1 : Nat) : Int)), (.int .u64 (l0.getD x.1 0)), undef, .pointer (some ⟨w.heap.size, 0, none⟩), .slice A0 l0.length c0, .int .i64 (l0.length : Int), .bool false, .pointer (some ⟨w.heap.size, 1, none⟩), .bool true, .tuple #[.int .i64 1, .nilIface], .pointer (some ⟨w.heap.size, 0, none⟩), .slice A0 l0.length c0, .func (.func 117) #[] #[.pointer (some ⟨Q, 0, none⟩)], (.int .i64 ((x.1 : Nat) : Int)), (.int .u64 (l0.getD x.1 0)), undef, undef, undef, undef, undef, undef, undef, undef, undef, undef, undef, undef, undef, undef, undef, undef, undef], defers := [] }) ?assign ?body ?done ?stop
  case hI =>
    intro s W W' row hs hg hr
    refine ⟨⟨⟨blk_kept hs.1.1.1 hg (fun r e => (hr r e).2), boxed_own _ _ (fun _ : Unit => _) () W W' row hs.1.1.2 hg (fun r e => (hr r e).2)⟩, bf_keep hs.1.2 (fun k o hk hc => (hg.block k (Array.getElem?_eq_some_iff.1 hk).1 (fun e => ?_)).trans hk)⟩, ownFrom_below (Nat.le_refl _) (by omega) () W W' row hs.2 hg hr⟩
    obtain ⟨_, o', ho', hc'⟩ := hr k e.symm
    rw [hk] at ho'
    cases ho'
    rw [hc] at hc'
    cases hc'
  case assign =>
    intro l x W K hK
    generalize l0.getD x.1 0 = v at *
    generalize x.1 = j at *
    gi_wp2
    exact hK
  case body =>
    rintro l pre x W ⟨⟨⟨h1, h2⟩, h3⟩, hB⟩ hpl
    have hm : l0.getD x.1 0 ∈ l0 := by simp [List.getD, List.getElem?_eq_getElem x.2]
    have hpx := HP.out _ hm
    obtain ⟨u, hu⟩ : ∃ u : Nat, u = (l0.getD x.1 0).toNat := ⟨_, rfl⟩
    have hux : l0.getD x.1 0 = (u : Int) := by omega
    have hu9 : u < 1000000000 := by omega
    have hd9 : (decDigits u).length ≤ 9 := by rw [hu]; exact dec9 _ hpx.1 hpx.2
    have hGW : GL W := HG.out.below hB
    have hcl := chunks_len l0 HP.out pre
    have hchunk : chunk l0 x = if x.1 < l0.length - 1 then List.replicate (9 - (decDigits u).length) 48 ++ decDigits u else decDigits u := by unfold chunk; rw [← hu]
    have HCH := Aside0.mk hchunk
    obtain ⟨j, hj⟩ : ∃ j : Nat, j = x.1 := ⟨_, rfl⟩
    have hjl : j < l0.length := by rw [hj]; exact x.2
    rw [hux, ← hj]
    rw [← hj] at hchunk
    have HC2 := Aside0.mk hchunk
    clear hm hpx hu hux hchunk hj
    have HF := Aside0.mk (fmtU u (by omega) W hGW)
    have hwr : IntKind.i64.wrap ((l0.length : Int) - 1) = (l0.length : Int) - 1 := by rw [IntKind.wrap_i64]; omega
    have hwlt := (Array.getElem?_eq_some_iff.1 h1).1
    by_cases hjn : j < l0.length - 1
    · have d1 : decide ((j : Int) < (l0.length : Int) - 1) = true := decide_eq_true (by omega)
      have d2 : ((j : Int) < (l0.length : Int) - 1) := by omega
      have HC3 := Aside0.mk (HC2.out.trans (if_pos hjn))
      have HRep := Aside0.mk (fun (V : World) => show Calls Tryd.prog 92 #[.string ⟨#[48]⟩, .int .i64 (9 - ((decDigits u).length : Int))] V (fun e w' => e = .returned (.string ⟨(List.replicate (9 - (decDigits u).length) 48).toArray⟩) ∧ Below V.heap.size V w') from by
        have h := Tryd.strings_Repeat ⟨#[48]⟩ (9 - (decDigits u).length) V (by omega) (by show 1 * _ ≤ _; omega)
        rw [show ((9 - (decDigits u).length : Nat) : Int) = 9 - ((decDigits u).length : Int) by omega, show (⟨#[48]⟩ : ByteArray).data.toList = [48] from rfl, repeat48] at h
        exact h)
      gi_wp2_with (first | (refine ⟨trivial, ?_⟩; gi_at_call 91; refine (CallsIn.inRound l (callsIn_wide.2 HF.out)).mono ?_; rintro e W1 ⟨rfl, hb1⟩; have q1 : W1.heap[w.heap.size]? = some (.cells #[.slice A0 l0.length c0, .bool true] 61 (0, 0)) := (hb1.block _ hwlt).trans h1; have g1 : W1.cell? ⟨w.heap.size, 0, none⟩ = some (.slice A0 l0.length c0) := by rw [Lib.cell_of_heap q1]; rfl) | (refine ⟨trivial, ?_⟩; gi_at_call 92; refine (CallsIn.inRound l (callsIn_wide.2 (HRep.out _))).mono ?_; rintro e W2 ⟨rfl, hb2⟩))
      have hW2 : Below W.heap.size W W2 := hb1.trans (hb2.mono hb1.size)
      have hs : ({ data := Array.replicate (9 - (decDigits u).length) 48 } ++ { data := (decDigits u).toArray } : ByteArray) = ⟨(chunk l0 x).toArray⟩ := by
        rw [HC3.out]
        apply ByteArray.ext
        simp
      rw [hs]
      have hbf := bf_below h3 hW2
      have hbk : ∃ c, W2.heap[w.heap.size + 1]? = some (.cells c 92 (0, 0)) := by
        rcases hbf with ⟨_, v, hb, _⟩ | ⟨_, v, hb, _⟩
        · exact ⟨_, hb⟩
        · exact ⟨_, hb⟩
      obtain ⟨cb, hbk⟩ := hbk
      have hch := chunk_len l0 HP.out x
      refine ⟨trivial, ?_⟩
      refine (CallsIn.inRound l (callsIn_wide.2 (writeString_k w.heap.size (w.heap.size + 1) _ _ W2 hbf (by rw [byteCells_length, List.length_append]; show _ + (chunk l0 x).toArray.size ≤ _; rw [List.size_toArray]; simp only [List.length_cons, List.length_nil]; omega) (Nat.le_trans hB.size hW2.size)))).mono ?_
      rintro e W3 ⟨rfl, h4, hb4, hk4⟩
      have hb5 : Below w.heap.size W W3 := (hW2.mono hB.size).trans hb4
      have k1 : W3.heap[w.heap.size]? = some (.cells #[.slice A0 l0.length c0, .bool true] 61 (0, 0)) := hk4 _ _ ((hW2.block _ hwlt).trans h1) (fun e => by have := Option.some.inj e; omega) (fun c fz e => by cases e)
      have k2 : W3.heap[Q]? = some (.cells #[.slice A0 l0.length c0] 59 (0, 0)) := hk4 _ _ ((hW2.block _ h2.lt).trans h2) (fun e => by have := Option.some.inj e; omega) (fun c fz e => by cases e)
      have hbytes : byteCells ([45] ++ (pre ++ [x]).flatMap (chunk l0)) = byteCells ([45] ++ pre.flatMap (chunk l0)) ++ strCells ⟨(chunk l0 x).toArray⟩ := by
        rw [List.flatMap_append, ← List.append_assoc, byteCells_append]
        first | done | simp [strCells, byteCells]
      gi_wp2
      refine ⟨(keeps_of hW2 hk4 hbk hb4.size).from _, ⟨hb5, k2.trans h2.symm⟩, ⟨⟨⟨k1, k2⟩, ?_⟩, hB.trans hb5⟩⟩
      rw [hbytes]
      exact .inr h4
    · have d1 : decide ((j : Int) < (l0.length : Int) - 1) = false := decide_eq_false (by omega)
      have HC3 := Aside0.mk (HC2.out.trans (if_neg hjn))
      gi_wp2_with (first | (refine ⟨trivial, ?_⟩; gi_at_call 91; refine (CallsIn.inRound l (callsIn_wide.2 HF.out)).mono ?_; rintro e W1 ⟨rfl, hb1⟩; have q1 : W1.heap[w.heap.size]? = some (.cells #[.slice A0 l0.length c0, .bool true] 61 (0, 0)) := (hb1.block _ hwlt).trans h1; have g1 : W1.cell? ⟨w.heap.size, 0, none⟩ = some (.slice A0 l0.length c0) := by rw [Lib.cell_of_heap q1]; rfl))
      have hW2 : Below W.heap.size W W1 := hb1
      have hs : ({ data := (decDigits u).toArray } : ByteArray) = ⟨(chunk l0 x).toArray⟩ := by
        rw [HC3.out]
      rw [hs]
      have hbf := bf_below h3 hW2
      have hbk : ∃ c, W1.heap[w.heap.size + 1]? = some (.cells c 92 (0, 0)) := by
        rcases hbf with ⟨_, v, hb, _⟩ | ⟨_, v, hb, _⟩
        · exact ⟨_, hb⟩
        · exact ⟨_, hb⟩
      obtain ⟨cb, hbk⟩ := hbk
      have hch := chunk_len l0 HP.out x
      refine ⟨trivial, ?_⟩
      refine (CallsIn.inRound l (callsIn_wide.2 (writeString_k w.heap.size (w.heap.size + 1) _ _ W1 hbf (by rw [byteCells_length, List.length_append]; show _ + (chunk l0 x).toArray.size ≤ _; rw [List.size_toArray]; simp only [List.length_cons, List.length_nil]; omega) (Nat.le_trans hB.size hW2.size)))).mono ?_
      rintro e W3 ⟨rfl, h4, hb4, hk4⟩
      have hb5 : Below w.heap.size W W3 := (hW2.mono hB.size).trans hb4
      have k1 : W3.heap[w.heap.size]? = some (.cells #[.slice A0 l0.length c0, .bool true] 61 (0, 0)) := hk4 _ _ ((hW2.block _ hwlt).trans h1) (fun e => by have := Option.some.inj e; omega) (fun c fz e => by cases e)
      have k2 : W3.heap[Q]? = some (.cells #[.slice A0 l0.length c0] 59 (0, 0)) := hk4 _ _ ((hW2.block _ h2.lt).trans h2) (fun e => by have := Option.some.inj e; omega) (fun c fz e => by cases e)
      have hbytes : byteCells ([45] ++ (pre ++ [x]).flatMap (chunk l0)) = byteCells ([45] ++ pre.flatMap (chunk l0)) ++ strCells ⟨(chunk l0 x).toArray⟩ := by
        rw [List.flatMap_append, ← List.append_assoc, byteCells_append]
        first | done | simp [strCells, byteCells]
      gi_wp2
      refine ⟨(keeps_of hW2 hk4 hbk hb4.size).from _, ⟨hb5, k2.trans h2.symm⟩, ⟨⟨⟨k1, k2⟩, ?_⟩, hB.trans hb5⟩⟩
      rw [hbytes]
      exact .inr h4
  case done =>
    rintro D ys W hD rfl ⟨⟨⟨h1, h2⟩, h3⟩, hB⟩ hK
    have HS := Aside0.mk (Tryd.Builder_String_any_k w.heap.size (w.heap.size + 1) _ W h3 hB.size)
    gi_wp2_with (refine ⟨trivial, ?_⟩; gi_at_call 93; refine (callsIn_wide.2 HS.out).mono ?_; rintro e W4 ⟨rfl, _, hb4, hk4⟩)
    have hbk : ∃ c, W.heap[w.heap.size + 1]? = some (.cells c 92 (0, 0)) := by
      rcases h3 with ⟨_, v, hb, _⟩ | ⟨_, v, hb, _⟩
      · exact ⟨_, hb⟩
      · exact ⟨_, hb⟩
    obtain ⟨cb, hbk⟩ := hbk
    have hK4 : W4.heap[D]? = some (.deferred (some [])) := hk4 _ _ hK (fun e => by have e1 := Option.some.inj e; rw [e1, hbk] at hK; cases hK) (fun c fz e => by cases e)
    refine ⟨by simp, .inl ⟨_, _, rfl, run_takeDeferred hK4, ?_⟩⟩
    exact ⟨_, by simp [results, Tryd.f66, go_sem], rfl, (hB.trans hb4).trans (belowK_b (w := w) (Nat.le_refl _) W4 D _ _ (by omega) hK4 rfl rfl)⟩
  case stop =>
    rintro D c pre W _ _ h _
    exact h.elim
theorem wtext.calls (A0 : Option Addr) (c0 : Nat) (l0 : List Int) (a1 : Bool) (r : ByteArray) (w : World) (hr0 : Kd.C (Kd.int .u64) w A0 l0.length l0) (hc0 : l0.length ≤ c0) (hG : GL w) (h : wtext.f l0 a1 = some r) :
    Calls Tryd.prog 66 #[.agg #[.slice A0 l0.length c0, .bool a1]] w fun e w' => e = .returned (.string r) ∧ Below w.heap.size w w' := by
  unfold wtext.f at h
  by_cases h0 : l0 = []
  · rw [if_pos h0, Option.some.injEq] at h
    subst h
    exact wtext.zero A0 c0 l0 a1 w h0
  · rw [if_neg h0] at h
    split at h
    · rename_i hp
      simp only [Option.some.injEq] at h
      subst h
      cases a1 with
      | false => exact wtext.some_false A0 c0 l0 w hr0 hG h0 hp.1 hp.2
      | true => exact wtext.some_true A0 c0 l0 w hr0 hG h0 hp.1 hp.2
    · cases h
end Go.Proofs.YtdbheoffkfmcpaaDoor.Hd
end
